/- Parts of the proof, in the order in which they rest on one another. -/
import Derived.Test.YtkmbhknmjnbanaaMTells4
import Derived.Below
import Derived.Deep.Draws
import Derived.Deep.AppendLies
import Derived.Maps.AppendAt
import Derived.OwnWalk
import Derived.Laws.BytesArg
import Derived.Laws.MakeOwn
import Derived.Laws.OwnMore
import Derived.Deep.OwnRows
import Derived.Tactics
import Derived.Lib.ConvBytes
import Derived.Laws.Slices
import Derived.WalkKit
import Derived.KernelRfl
import Derived.RowKit3
import Derived.Deep.LoopGhost
import Derived.Deep.QuietTactic
import Derived.BigQuiet
import Derived.WideLaws
import Derived.Deep.DeepCutAuto
import Derived.Deep.CutBlock
import Derived.Deep.RegionHeld3
import Derived.Laws.Rows
import Derived.Lib.AppendStr
import Derived.ArgAppend
import Derived.Laws.IdiomCopy
import Derived.RowKit
import Derived.OrdersHeld
import Derived.Laws.BitsLemmas
import Derived.Laws.StructEq
import Derived.Test.YtkmbhknmjnbanaaProg
import Derived.Shelf.Abstract
import Derived.Lib.Walk
import Derived.RangeFuncWrites
import Derived.RangeFuncNested
import Derived.RangeFuncBound
import Derived.RangeFuncCalls
import Derived.RangeFuncLeaves
import Derived.Shelf.RegionOpen
import Derived.OwnWalkIn
import Derived.TacticsInMore
import Derived.LoopNIn
import Derived.LoopIn
import Derived.Laws.EntriesVeiled
import Derived.RangeFuncBox
import Derived.Laws.CopyOwn
import Derived.Deep.RegionLaw
import Derived.BigRegion
import Derived.WalkSpells
import Derived.Shelf.SlIterI.Nil
import Derived.Shelf.SortM.Plain
import Derived.Shelf.SortM.SortNone
import Derived.Ground.GgzProg
import Derived.Ground.SlgmProg
import Derived.Shelf.SlGeneric
import Derived.Maps.Own
import Derived.Maps.OwnOps
import Derived.Maps.OwnSet
import Derived.Maps.Views
import Derived.RangeFuncRecord
import Derived.Deep.RegionLawGrows
import Derived.Deep.Upon
import Derived.Maps.OwnRows
import Derived.Maps.GroupsBeside
import Derived.OpenShut
import Derived.Deep.Slices
import Derived.ChangeArms
namespace Go.Proofs.Ytkmbhknmjnbanaa.A
open Go.RowKit Go.Proofs.YtkmbhknmjnbanaaW.PrintWords Go.Proofs.YtkmbhknmjnbanaaW.PrintLast Go.Shelf
set_option linter.unusedVariables false
set_option linter.unusedSimpArgs false

theorem copy_l0 (g : List (List Int)) (hn : g.length ≤ 1000000) (hr : ∀ l ∈ g, l.length ≤ 1000000) : ∀ (d i : Nat), i + d = g.length → Evt (fun k => swageref06_Copy.l0 k g (g.take i) i) g
  | 0, i, hi => by
    obtain rfl : i = g.length := by omega
    exact Evt.step (Evt.const rfl) fun k => by rw [swageref06_Copy.l0, if_neg (by omega), List.take_length]
  | d + 1, i, hi => by
    have hlt : i < g.length := by omega
    have h8 := hr _ (rowOf_mem hlt)
    have hrow : rowOf g i = g[i] := by unfold rowOf; rw [List.getD_eq_getElem?_getD, List.getElem?_eq_getElem hlt]; rfl
    refine Evt.step (copy_l0 g hn hr d (i + 1) (by omega)) fun k => ?_
    rw [swageref06_Copy.l0, if_pos (by omega), Option.bind_some, if_pos (by omega), rdL, if_pos (by simp; omega), if_pos (by rw [List.length_take]; omega), wsucc (by omega), List.take_succ_eq_append_getElem hlt, hrow]
    rfl
theorem copy_ev (g : List (List Int)) (hn : g.length ≤ 1000000) (hr : ∀ l ∈ g, l.length ≤ 1000000) : Evt (fun k => swageref06_Copy.f k g) g := copy_l0 g hn hr g.length 0 (by omega)
theorem few_ev2 (g : List (List Int)) : ∃ r, Evt (fun k => swagelaw06_Few.f k g) r ∧ (r = true → g.length ≤ 40 ∧ ∀ l ∈ g, l.length ≤ 20) := by
  suffices H : ∀ (d i : Nat), i ≤ 100 → i + d = min g.length 100 → ∃ r, Evt (fun k => swagelaw06_Few.l0 k g i) r ∧ (r = true → g.length ≤ 40 ∧ ∀ j, i ≤ j → j < g.length → (rowOf g j).length ≤ 20) by
    obtain ⟨r, h1, h2⟩ := H (min g.length 100) 0 (by omega) (by omega)
    refine ⟨r, h1, fun e => ⟨(h2 e).1, fun l hl => ?_⟩⟩
    obtain ⟨j, hj, rfl⟩ := List.getElem_of_mem hl
    have := (h2 e).2 j (Nat.zero_le _) hj
    unfold rowOf at this
    rwa [List.getD_eq_getElem?_getD, List.getElem?_eq_getElem hj] at this
  intro d
  induction d with
  | zero =>
    intro i h0 hi
    refine ⟨decide ((g.length : Int) ≤ 40), ?_, fun h => by have := of_decide_eq_true h; exact ⟨by omega, fun j h1 h2 => by omega⟩⟩
    refine Evt.step (Evt.step (Evt.const (x := some (decide ((g.length : Int) ≤ 40))) rfl) (f := fun k => swagelaw06_Few.j1 k g i false) fun k => ?_) fun k => ?_
    · rw [swagelaw06_Few.j1, if_neg (by simp)]
    · rw [swagelaw06_Few.l0]
      by_cases h : (i : Int) < (g.length : Int)
      · rw [if_pos h, decide_eq_false (by omega)]
      · rw [if_neg h]
  | succ d ih =>
    intro i h0 hi
    by_cases h : (rowOf g i).length > 20
    · refine ⟨false, ?_, by simp⟩
      refine Evt.step (Evt.step (Evt.const (x := some false) rfl) (f := fun k => swagelaw06_Few.j1 k g i true) fun k => ?_) fun k => ?_
      · rw [swagelaw06_Few.j1, if_pos rfl, if_pos (by omega), if_pos (by omega), rdL, if_pos (by omega)]
      · rw [swagelaw06_Few.l0, if_pos (by omega), decide_eq_true (by omega)]
    · obtain ⟨r, h1, h2⟩ := ih (i + 1) (by omega) (by omega)
      refine ⟨r, ?_, fun e => ⟨(h2 e).1, fun j hj hjl => ?_⟩⟩
      · refine Evt.step (Evt.step h1 (f := fun k => swagelaw06_Few.j1 k g i true) fun k => ?_) fun k => ?_
        · rw [swagelaw06_Few.j1, if_pos rfl, if_pos (by omega), if_pos (by omega), rdL, if_neg (by omega), wsucc (by omega)]
        · rw [swagelaw06_Few.l0, if_pos (by omega), decide_eq_true (by omega)]
      · by_cases e2 : j = i
        · subst e2; omega
        · exact (h2 e).2 j (by omega) hjl

set_option maxRecDepth 100000 in
set_option maxHeartbeats 4000000 in
theorem law_tells (A : Option Addr) (c : Nat) (g : List (List Int)) (a : Int) (w : World) (hC : Kd.C (Kd.slice 3 (Kd.int .i64)) w A g.length g) (hc : g.length ≤ c) (hp : ∀ x ∈ g, ∀ y ∈ x, (Lit.int .i64 y).wf = true) (ha : (Lit.int .i64 a).wf = true) :
    Calls Try.prog 3 #[.slice A g.length c, .int .i64 a] w fun e w' => e = .returned (.bool true) ∧ Below w.heap.size w w' := by
  obtain ⟨r, hf, hr⟩ := few_ev2 g
  obtain ⟨kf, hkf⟩ := hf.get
  have hsm := small_calls w
  clear hf hp ha
  go_enter Try.func3, Try.ntmps3
  go_wp2_with fail
  refine hsm.mono ?_
  rintro e w1 ⟨rfl, hb1⟩
  have hC1 := Aside0.mk (Kd.C_below hC hb1)
  have hB1 := Aside0.mk hb1
  have hfw := swagelaw06_Few.calls kf A c g r w1 hC1.out hc hkf
  clear hsm hC hb1
  go_wp2_with fail
  refine hfw.mono ?_
  rintro e w2 ⟨rfl, hd2⟩
  have hC2 := Aside0.mk (Kd.C_below hC1.out hd2.below)
  have hB2 := Aside0.mk (below_step hB1.out hd2.below)
  clear hfw hC1 hB1 hkf hd2
  cases r with
  | false =>
    go_wp2_with fail
    go_ret
    exact ⟨rfl, hB2.out⟩
  | true =>
    obtain ⟨hn, hrow⟩ := hr rfl
    have hrow' := Aside0.mk hrow
    obtain ⟨kc, hkc⟩ := (copy_ev g (by omega) (fun l hl => by have := hrow l hl; omega)).get
    have hcp := swageref06_Copy.calls kc A c g g w2 hC2.out hc hkc
    clear hr hrow hkc
    go_wp2_with fail
    refine hcp.mono ?_
    rintro e w3 ⟨v3, rfl, hv3, hb3⟩
    obtain ⟨A3, c3, rfl, hc3, hC3⟩ := Kd.S_reads hv3
    have hC3' := Aside0.mk hC3
    have hCa := Aside0.mk (Kd.C_below hC2.out hb3)
    have hBa := Aside0.mk (below_step hB2.out hb3)
    obtain ⟨kp, hkp⟩ := (preds_ev g).get
    have hpr := graph_Preds.calls kp A c g _ w3 hCa.out hc hkp
    clear hcp hv3 hb3 hC3 hC2 hB2 hkp
    go_wp2_with fail
    refine hpr.mono ?_
    rintro e w4 ⟨v4, rfl, hv4, hb4⟩
    obtain ⟨kq, hkq⟩ := (pref_ev (g := g) (by omega)).get
    have hPl : (if rightB g = true then predsOf g else []).length ≤ 1000000 := by
      split
      · rw [predsOf_len]; omega
      · simp
    have hPr : ∀ l ∈ (if rightB g = true then predsOf g else []), l.length ≤ 1000000 := by
      intro l hl
      cases hrt : rightB g
      · rw [hrt] at hl; simp at hl
      · rw [hrt, if_pos rfl] at hl
        obtain ⟨h1, h2, h3⟩ := right_rows hrt
        obtain ⟨j, hj, rfl⟩ := List.getElem_of_mem hl
        have h4 := row_le_tot (predsOf g) j
        have h5 := tot_pfold h3 g.length (Nat.le_refl _)
        rw [List.take_length] at h5
        have h6 := tot_le (right_8 hrt)
        have h7 : rowOf (predsOf g) j = (predsOf g)[j] := by unfold rowOf; rw [List.getD_eq_getElem?_getD, List.getElem?_eq_getElem hj]; rfl
        rw [h7] at h4
        unfold predsOf at h4 ⊢; omega
    generalize (if rightB g = true then predsOf g else []) = P at hv4 hkq hPl hPr
    obtain ⟨A4, c4, rfl⟩ := Kd.S_slice hv4
    have hc4 := (Kd.S_reads' hv4).2.1
    have hCb := Aside0.mk (Kd.C_below hCa.out hb4)
    have hpq := swageref06_Preds.calls kq A c g P w4 hCb.out hc hkq
    have hS4 := Aside0.mk hv4
    have hbb := Aside0.mk hb4
    have hPr' := Aside0.mk hPr
    clear hpr hb4 hkq hv4 hPr
    go_wp2_with fail
    refine hpq.mono ?_
    rintro e w5 ⟨v5, rfl, hv5, hb5⟩
    obtain ⟨A5, c5, rfl, hc5, hC5⟩ := Kd.S_reads hv5
    obtain ⟨kr, hkr⟩ := (rows_ev P hPl hPr'.out).get
    have hS5 := Aside0.mk (Kd.S_below hS4.out hb5)
    have hro := swageref06_Rows.calls kr A4 c4 P A5 c5 P true w5 (Kd.S_reads' hS5.out).2.2 hc4 hC5 hc5 hkr
    have hbc := Aside0.mk (hbb.out.trans (hb5.mono hbb.out.size))
    clear hpq hv5 hb5 hC5 hkr hS4 hbb
    go_wp2_with fail
    refine hro.mono ?_
    rintro e w6 ⟨rfl, hd6⟩
    have hS6 := Aside0.mk (Kd.S_below hS5.out hd6.below)
    have hb6 := Aside0.mk (hbc.out.trans (hd6.below.mono hbc.out.size))
    clear hro hd6 hS5 hbc hc5
    have hPr := hPr'.out
    go_wp2_with fail
    go_loopw [10] (fun s wr => ∃ (m : Nat) (X : List (List Int)), m ≤ P.length ∧ s = .int .i64 m ∧ X.length = P.length ∧ (∀ l ∈ X, l.length ≤ 1000000) ∧ Aside0 (Kd.S (Kd.slice 3 (Kd.int .i64)) 27 wr w3.heap.size (fun _ => True) (.slice A4 P.length c4) X) ∧ Aside0 (Below w3.heap.size w3 wr))
      (fun s _ => P.length - (RowKit.intOf s).toNat)
    case atStart => exact ⟨0, P, Nat.zero_le _, rfl, rfl, hPr, hS6, hb6⟩
    case round =>
      obtain ⟨m, X, hm, rfl, hXl, hXr, hS, hB⟩ := hrel
      by_cases hlt : m < P.length
      · have hmn : (m : Int) < (P.length : Int) := by omega
        have hm0 : (0 : Int) ≤ (m : Int) := by omega
        have hLr := hXr _ (rowOf_mem (show m < X.length by omega))
        go_wp2_with fail
        go_loopw [11] (fun s wq => ∃ (kk : Nat) (Y : List (List Int)), kk ≤ (rowOf X m).length ∧ s = .int .i64 kk ∧ Y.length = P.length ∧ (rowOf Y m).length = (rowOf X m).length ∧ (∀ l ∈ Y, l.length ≤ 1000000) ∧ Aside0 (Kd.S (Kd.slice 3 (Kd.int .i64)) 27 wq w3.heap.size (fun _ => True) (.slice A4 P.length c4) Y) ∧ Aside0 (Below w3.heap.size w3 wq))
          (fun s _ => (rowOf X m).length - (RowKit.intOf s).toNat)
        case atStart => exact ⟨0, X, Nat.zero_le _, rfl, hXl, rfl, hXr, hS, hB⟩
        case round =>
          clear hS hB
          obtain ⟨kk, Y, hk, rfl, hYl, hYm, hYr, hS, hB⟩ := hrel
          obtain ⟨ad, rfl⟩ : ∃ ad, A4 = some ad := by
            obtain ⟨ad, _, _, e, _⟩ := at_L1 (Kd.S_reads' hS.out).2.2 (m : Int) hm0 (by rw [hYl]; exact hmn)
            exact ⟨ad, e⟩
          obtain ⟨oki, cc, hcl, hM, hcc, hoki, hback⟩ := Kd.S_borrow hS.out ([] : List Int) (m : Int) hm0 hmn
          obtain ⟨v, rfl, hR⟩ := hM
          rw [Int.toNat_natCast] at hR hcc hback
          change Kd.R (Kd.int .i64) 3 _ _ _ v (rowOf Y m) at hR
          obtain ⟨Ar, cr, rfl⟩ := Kd.R_slice hR
          have q0 := hcc 0 _ rfl
          rw [Nat.add_zero, show m * (Kd.slice 3 (Kd.int .i64)).sz = m from Nat.mul_one m] at q0
          by_cases hlk : kk < (rowOf X m).length
          · have hkn : (kk : Int) < ((rowOf Y m).length : Int) := by omega
            have hk0 : (0 : Int) ≤ (kk : Int) := by omega
            obtain ⟨gi, capi, e1, hbase, hgl, cells, hcells⟩ := Kd.R_form hR (by omega)
            cases e1
            obtain ⟨hcell, hfro⟩ := Kd.R_celln (0 : Int) hR (kk : Int) hk0 hkn
            obtain ⟨hR2, hgr⟩ := Kd.R_putg hR (kk : Int) (-7)
            rw [Int.toNat_natCast] at hcell hfro hR2 hgr
            go_wp2_with fail
            go_roundw
            case rel => exact ⟨kk + 1, Y.set m ((rowOf Y m).set kk (-7)), by omega, by go_num, by rw [List.length_set, hYl], by
                unfold rowOf
                rw [List.getD_eq_getElem?_getD, List.getElem?_set_self (by omega)]
                show ((rowOf Y m).set kk (-7)).length = (rowOf X m).length
                rw [List.length_set, hYm], fun l hl => by
                rcases List.mem_or_eq_of_mem_set hl with h | h
                · exact hYr l h
                · subst h; rw [List.length_set, hYm]; exact hLr, ⟨hback hgr (fun k e => by cases e; exact hR.1 gi (by simp [Value.ownBlock])) (Kd.M_row hR2)⟩, ⟨hB.out.grown hgr hB.out.size (fun k e => by cases e; exact hbase)⟩⟩
            case measure => simp [RowKit.intOf]; omega
          · obtain rfl : kk = (rowOf X m).length := by omega
            have hnl : ¬ (((rowOf X m).length : Int) < ((rowOf Y m).length : Int)) := by omega
            go_wp2_with fail
            go_roundw
            case rel => exact ⟨m + 1, Y, by omega, by go_num, hYl, hYr, hS, hB⟩
            case measure => simp [RowKit.intOf]; omega
      · obtain rfl : m = P.length := by omega
        have hC7 := Aside0.mk (Kd.C_below hCa.out hB.out)
        have hW7 := Aside0.mk (Kd.C_below hC3'.out hB.out)
        have hB7 := Aside0.mk (hBa.out.trans (hB.out.mono hBa.out.size))
        have h7 : Calls Try.prog 19 #[.slice A g.length c] wr _ := graph_Right.calls A c g (rightB g) wr hC7.out hc rfl
        clear hS hB hXr hXl hS6 hb6 hCa hBa hCb hC3' hPr hPr' hPl
        obtain ⟨k1, hk1⟩ := (rref_ev (g := g) (by omega)).get
        obtain ⟨k2, hk2⟩ := (reachref_ev (g := g) (by omega) a).get
        obtain ⟨k3, hk3⟩ := (flags_ev (reachRes g a) (by unfold reachRes; split <;> simp [marks_len]; omega)).get
        obtain ⟨k4, hk4⟩ := (cref_ev (g := g) (by omega)).get
        obtain ⟨k5, hk5⟩ := (pairs_ev (crit (rightB g) (predsOf g) g g.length) (by
          cases hrt : rightB g
          · rw [crit_false]; simp
          · have := crit_len (b := true) (P := predsOf g) (right_8 hrt) g.length (Nat.le_refl _); omega)).get
        obtain ⟨k6, hk6⟩ := (rows_ev g (by omega) (fun l hl => by have := hrow'.out l hl; omega)).get
        go_wp2_with fail
        refine h7.mono ?_
        rintro e w8 ⟨rfl, hb8⟩
        have hC8 := Aside0.mk (Kd.C_below hC7.out hb8)
        have hW8 := Aside0.mk (Kd.C_below hW7.out hb8)
        have hB8 := Aside0.mk (below_step hB7.out hb8)
        have h8 := swageref06_Right.calls k1 A c g (rightB g) w8 hC8.out hc hk1
        clear h7 hb8 hC7 hW7 hB7
        go_wp2_with fail
        refine h8.mono ?_
        rintro e w9 ⟨rfl, hd9⟩
        have hC9 := Aside0.mk (Kd.C_below hC8.out hd9.below)
        have hW9 := Aside0.mk (Kd.C_below hW8.out hd9.below)
        have hB9 := Aside0.mk (below_step hB8.out hd9.below)
        have h9 := graph_Reach.calls A c g a (reachRes g a) w9 hC9.out hc rfl
        clear h8 hd9 hC8 hW8 hB8
        go_wp2_with fail
        refine h9.mono ?_
        rintro e w10 ⟨v10, rfl, hv10, hb10⟩
        obtain ⟨A10, c10, rfl⟩ := Kd.R_slice hv10
        have hC10 := Aside0.mk (Kd.C_below hC9.out hb10)
        have hW10 := Aside0.mk (Kd.C_below hW9.out hb10)
        have hB10 := Aside0.mk (below_step hB9.out hb10)
        have h10 := swageref06_Reach.calls k2 A c g a (reachRes g a) w10 hC10.out hc hk2
        have hv10' := Aside0.mk hv10
        clear h9 hb10 hC9 hW9 hB9 hv10
        go_wp2_with fail
        refine h10.mono ?_
        rintro e w11 ⟨v11, rfl, hv11, hb11⟩
        obtain ⟨A11, c11, rfl⟩ := Kd.R_slice hv11
        have hC11 := Aside0.mk (Kd.C_below hC10.out hb11)
        have hW11 := Aside0.mk (Kd.C_below hW10.out hb11)
        have hB11 := Aside0.mk (below_step hB10.out hb11)
        have q1 := Kd.R_reads' hv10'.out
        have q2 := Kd.R_reads' hv11
        have h11 := swageref06_Flags.calls k3 A10 c10 (reachRes g a) A11 c11 (reachRes g a) true w11 (Kd.C_below q1.2.2 hb11) q1.2.1 q2.2.2 q2.2.1 hk3
        clear h10 hb11 hC10 hW10 hB10 hv10' hv11 q1 q2
        go_wp2_with fail
        refine h11.mono ?_
        rintro e w12 ⟨rfl, hd12⟩
        have hC12 := Aside0.mk (Kd.C_below hC11.out hd12.below)
        have hW12 := Aside0.mk (Kd.C_below hW11.out hd12.below)
        have hB12 := Aside0.mk (below_step hB11.out hd12.below)
        have h12 := graph_Critical.calls A c g _ w12 hC12.out hc rfl
        clear h11 hd12 hC11 hW11 hB11
        generalize crit (rightB g) (predsOf g) g g.length = C at h12 hk4 hk5
        go_wp2_with fail
        refine h12.mono ?_
        rintro e w13 ⟨v13, rfl, hv13, hb13⟩
        obtain ⟨A13, c13, rfl⟩ := Kd.R_slice hv13
        have hC13 := Aside0.mk (Kd.C_below hC12.out hb13)
        have hW13 := Aside0.mk (Kd.C_below hW12.out hb13)
        have hB13 := Aside0.mk (below_step hB12.out hb13)
        have h13 := swageref06_Critical.calls k4 A c g C w13 hC13.out hc hk4
        have hv13' := Aside0.mk hv13
        clear h12 hb13 hC12 hW12 hB12 hv13
        go_wp2_with fail
        refine h13.mono ?_
        rintro e w14 ⟨v14, rfl, hv14, hb14⟩
        obtain ⟨A14, c14, rfl⟩ := Kd.R_slice hv14
        have hC14 := Aside0.mk (Kd.C_below hC13.out hb14)
        have hW14 := Aside0.mk (Kd.C_below hW13.out hb14)
        have hB14 := Aside0.mk (below_step hB13.out hb14)
        have q1 := Kd.R_reads' hv13'.out
        have q2 := Kd.R_reads' hv14
        have h14 := swageref05_Pairs.calls k5 A13 c13 C A14 c14 C true w14 (Kd.C_below q1.2.2 hb14) q1.2.1 q2.2.2 q2.2.1 hk5
        clear h13 hb14 hC13 hW13 hB13 hv13' hv14 q1 q2
        go_wp2_with fail
        refine h14.mono ?_
        rintro e w15 ⟨rfl, hd15⟩
        have hB15 := Aside0.mk (below_step hB14.out hd15.below)
        have h15 := swageref06_Rows.calls k6 A c g A3 c3 g true w15 (Kd.C_below hC14.out hd15.below) hc (Kd.C_below hW14.out hd15.below) hc3 hk6
        clear h14 hd15 hC14 hW14 hB14
        go_wp2_with fail
        refine h15.mono ?_
        rintro e w16 ⟨rfl, hd16⟩
        have hB16 := Aside0.mk (below_step hB15.out hd16.below)
        clear h15 hd16 hB15
        go_wp2_with fail
        go_ret
        exact ⟨rfl, hB16.out⟩
end Go.Proofs.Ytkmbhknmjnbanaa.A


namespace Go.Proofs.Ytkmbhknmjnbanaa.A
open Go.Deep Go.RowKit Go.Proofs.YtkmbhknmjnbanaaW.PrintWords Go.Proofs.YtkmbhknmjnbanaaW.PrintLast
set_option linter.unusedVariables false
set_option linter.unusedSimpArgs false

section
variable {H : Type} {enc : TypeId × Value → H} {P : Program} {w : World} {base : Nat} {α : Type} [Inhabited α]

def Opens (enc : TypeId × Value → H) (P : Program) (w : World) (base : Nat) (t : TypeId) (d : Kd α) (p : α → Prop) : Prop :=
  ∀ fuel cs x, DataW.trod enc P w base (fun _ => true) true fuel t cs = some x → ∃ y, d.K w y cs ∧ p y

theorem opens_int {t : TypeId} {k : IntKind} (ht : P.underlying t = some (.int k)) : Opens enc P w base t (Kd.int k) (fun n => (Lit.int k n).wf = true) := by
  intro fuel cs x h
  obtain ⟨n, rfl, _, hw⟩ := DataW.trod_int ht h
  exact ⟨n, rfl, hw⟩

theorem opens_slice {t e : TypeId} {d : Kd α} {p : α → Prop} (ht : P.underlying t = some (.slice e)) (hc : P.cellsOf e = d.sz) (ho : Opens enc P w base e d p) : Opens enc P w base t (Kd.slice e d) (fun xs => ∀ x ∈ xs, p x) := by
  intro fuel cs x h
  rcases open_slice ht h with ⟨rfl, _⟩ | ⟨a, len, cap, m, n, D, Pl, rfl, hb, hl, hm, hmm, _, hx⟩
  · exact ⟨[], ⟨none, 0, rfl, Nat.le_refl _, rfl, by simp, fun h => by simp at h⟩, fun x hx => by simp at hx⟩
  · simp only [if_true] at hmm
    obtain ⟨Y, hY⟩ := choose_lt (α := α) (n := len) (p := fun i y => p y ∧ ∃ c, d.K w y c ∧ ∀ j u, c[j]? = some u → w.cell? (a.add (i * d.sz + j)) = some u) (fun i hi => by
      obtain ⟨cs', h1, h2⟩ := hx i (by omega)
      obtain ⟨y, hy, hp⟩ := ho _ _ _ h2
      obtain ⟨_, hlen, hcell⟩ := World.cells?_some h1
      refine ⟨y, hp, cs', hy, fun j u hj => ?_⟩
      have hj' : j < cs'.length := (List.getElem?_eq_some_iff.1 hj).1
      have := hcell j (by omega)
      rw [hj, hc] at this
      rwa [Addr.add_add] at this)
    have hlen : ((List.range len).map Y).length = len := by simp
    refine ⟨(List.range len).map Y, ⟨some a, cap, by rw [hlen], by rw [hlen]; exact hl, hlen.trans hlen.symm, by rw [hlen]; unfold maxLen at hm; omega, fun _ => ⟨a, rfl, fun j y hj => ?_⟩⟩, fun y hy => ?_⟩
    · have hjl : j < len := by have := (List.getElem?_eq_some_iff.1 hj).1; omega
      rw [List.getElem?_map, List.getElem?_range hjl] at hj
      obtain rfl := Option.some.inj hj
      obtain ⟨_, c, hk, hcell⟩ := hY j hjl
      exact ⟨c, d.K_len hk, hk, hcell⟩
    · obtain ⟨i, hi, rfl⟩ := List.mem_map.1 hy
      exact (hY i (List.mem_range.1 hi)).1
omit [Inhabited α] in
/-- of a parameter: a slice -/
theorem opens_param {t e : TypeId} {d : Kd α} {p : List α → Prop} (ho : Opens enc P w base t (Kd.slice e d) p) {A : Option Addr} {len cap : Nat} {x : DataW H} {ps : List MemPlace} (h : DataW.Trod enc P w base (fun _ => true) true t (.slice A len cap) x ps) :
    ∃ xs : List α, len = xs.length ∧ xs.length ≤ cap ∧ d.C w A xs.length xs ∧ p xs := by
  obtain ⟨fuel, hf⟩ := h
  obtain ⟨xs, ⟨A', c', he, hl, hC⟩, hp⟩ := ho _ _ _ hf
  simp [Value.cells] at he
  obtain ⟨rfl, rfl, rfl⟩ := he
  exact ⟨xs, rfl, hl, hC, hp⟩
end

theorem opens_graph {H : Type} {enc : TypeId × Value → H} {w : World} {base : Nat} : Opens enc Try.prog w base 22 (Kd.slice 27 (Kd.slice 3 (Kd.int .i64))) (fun xs => ∀ x ∈ xs, ∀ y ∈ x, (Lit.int .i64 y).wf = true) :=
  opens_slice Try.underlying22 (by kernel_rfl) (opens_slice Try.underlying27 (by kernel_rfl) (opens_int Try.underlying3))
end Go.Proofs.Ytkmbhknmjnbanaa.A

