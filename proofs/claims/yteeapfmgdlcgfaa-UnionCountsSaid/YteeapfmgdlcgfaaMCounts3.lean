/- Parts of the proof, in the order in which they rest on one another. -/
import Derived.Test.YteeapfmgdlcgfaaMCounts2
import Derived.Below
import Derived.Deep.Draws
import Derived.Deep.AppendLies
import Derived.Maps.AppendAt
import Derived.OwnWalk
import Derived.Laws.BytesArg
import Derived.Laws.MakeOwn
import Derived.Laws.OwnMore
import Derived.Deep.OwnRows
import Derived.Tactics
import Derived.Lib.ConvBytes
import Derived.Laws.Slices
import Derived.WalkKit
import Derived.KernelRfl
import Derived.RowKit3
import Derived.Deep.LoopGhost
import Derived.Deep.QuietTactic
import Derived.BigQuiet
import Derived.WideLaws
import Derived.Deep.DeepCutAuto
import Derived.Deep.CutBlock
import Derived.Deep.RegionHeld3
import Derived.Laws.Rows
import Derived.Lib.AppendStr
import Derived.ArgAppend
import Derived.Laws.IdiomCopy
import Derived.RowKit
import Derived.OrdersHeld
import Derived.Laws.BitsLemmas
import Derived.Laws.StructEq
import Derived.Test.YteeapfmgdlcgfaaProg
import Derived.Maps.Own
import Derived.Maps.OwnOps
import Derived.Maps.OwnSet
import Derived.Maps.Views
import Derived.WideKeyEntry
import Derived.RangeFuncWrites
import Derived.Lib.SlKeysI
import Derived.Shelf.SlIterI.Stops
import Derived.Shelf.SlIterI.Nil
import Derived.Shelf.SortM.Plain
import Derived.Shelf.SortM.SortNone
import Derived.Shelf.SlMaps.Clone
import Derived.Ground.GgzProg
import Derived.Ground.SlgmProg
import Derived.Ground.SlmcProg
import Derived.Shelf.SlGeneric
import Derived.RangeFuncLeaves
import Derived.RangeFuncCalls
import Derived.RangeFuncBox
import Derived.OwnWalkIn
import Derived.TacticsInMore
import Derived.LoopNIn
import Derived.LoopIn
import Derived.Maps.OwnIn
import Derived.Shelf.RegionOpen
import Derived.RangeFuncRecord
import Derived.OpenShut
import Derived.Deep.Slices
import Derived.ChangeArms
import Derived.Maps.StringElems
import Derived.Sort.MapsRangeIn
import Derived.StringKeys
import Derived.Shelf.SlIter.Stops
import Derived.Maps.RangeWalk
import Derived.OrdersIn
import Derived.TacticsIn
namespace Go.Proofs.Yteeapfmgdlcgfaa.A
open Go.Deep Go.RowKit Go.Maps Go.Sort Go.Shelf Go.Proofs.YteeapfmgdlcgfaaW.PrintWords Go.Proofs.YteeapfmgdlcgfaaW.PrintLast
set_option linter.unusedVariables false
set_option linter.unusedSimpArgs false

/-- what the first loop keeps -/
structure UC (w : World) (p bu bs nu N i : Nat) (W : World) : Prop where
  ex : ∃ E : Int → Int → Prop, nu ≤ 2 * i ∧ N ≤ nu ∧ UN κI W p bu bs nu N E
  below : Below w.heap.size w W
/-- what the loops over the rows keep -/
structure UR (w : World) (p bu bs nu N : Nat) (E : Int → Int → Prop) (base : Nat) (v : Value) (rows : List (List Int)) (W : World) : Prop where
  un : UN κI W p bu bs nu N E
  below : Below w.heap.size w W
  rv : RowsV W base v rows
theorem UR.step {w : World} {p bu bs nu N : Nat} {E : Int → Int → Prop} {base : Nat} {v : Value} {rows : List (List Int)} {W W' : World} (h : UR w p bu bs nu N E base v rows W) (hu : UN κI W' p bu bs nu N E) (hk : KeepsBut (UX bu bs) W W') (h1 : w.heap.size ≤ bu) (h2 : w.heap.size ≤ bs) (h3 : bu < base) (h4 : bs < base) : UR w p bu bs nu N E base v rows W' :=
  ⟨hu, un_step h.below hk (Nat.le_refl _) h1 h2, h.rv.keep hk (fun r hr hx => by rcases hx with rfl | rfl <;> omega)⟩
theorem UR.drew {w : World} {p bu bs nu N : Nat} {E : Int → Int → Prop} {base : Nat} {v : Value} {rows : List (List Int)} {W : World} (h : UR w p bu bs nu N E base v rows W) : UR w p bu bs nu N E base v rows W.drew :=
  ⟨h.un.keep (keeps_drew (fun _ => False) _) id id id, h.below.trans ⟨rfl, rfl, rfl, Nat.le_refl _, fun _ _ => rfl⟩, h.rv.keep (keeps_drew (fun _ => False) _) (fun _ _ => id)⟩
theorem sum_take (rows : List (List Int)) (i : Nat) {row : List Int} (h : rows[i]? = some row) : ((rows.take (i + 1)).map List.length).sum = ((rows.take i).map List.length).sum + row.length := by
  rw [List.take_add_one, h]; simp
theorem sum_take_le (rows : List (List Int)) (i : Nat) : ((rows.take i).map List.length).sum ≤ (rows.map List.length).sum := by
  conv => rhs; rw [← List.take_append_drop i rows]
  rw [List.map_append, List.sum_append]; omega

set_option maxRecDepth 100000 in
set_option maxHeartbeats 16000000 in
theorem law_ucounts (A : Option Addr) (c : Nat) (g : List S28) (w : World) (hC : Kd.C k28 w A g.length g) (hc : g.length ≤ c) (hp : ∀ x ∈ g, κI.wf x.f0 ∧ κI.wf x.f1) :
    Calls Try.prog 5 #[.slice A g.length c] w fun e w' => e = .returned (.bool true) ∧ Below w.heap.size w w' := by
  have hmix : Try.prog.follows .mixedOrders = true := by kernel_rfl
  have hc' := Aside0.mk hc
  have hp' := Aside0.mk hp
  have hcell : Aside0 (∀ (i : Nat), i < g.length → ∃ (ad : Addr) (a b : Int), A = some ad ∧ κI.wf a ∧ κI.wf b ∧ ∀ W, Below w.heap.size w W → W.cell? (ad.add (i * 2)) = some (.int .i64 a) ∧ W.cell? ⟨(ad.add (i * 2)).block, (ad.add (i * 2)).off + 1, none⟩ = some (.int .i64 b)) := ⟨fun i hi => by
    obtain ⟨ad, rfl, _, _⟩ := at_T28 hC (i : Int) (by omega) (by omega)
    have hm := hp (rd_T28 g i) (by unfold rd_T28; rw [Int.toNat_natCast, List.getD_eq_getElem?_getD, List.getElem?_eq_getElem hi]; exact List.getElem_mem hi)
    refine ⟨ad, _, _, rfl, hm.1, hm.2, fun W hW => ?_⟩
    obtain ⟨ad', e, h1, h2⟩ := at_T28 (Kd.C_below hC hW) (i : Int) (by omega) (by omega)
    obtain rfl := Option.some.inj e
    exact ⟨h1, h2⟩⟩
  clear hC hc hp
  have hsm := small_calls w
  go_enter Try.func5, Try.ntmps5
  go_wp2_with fail
  refine hsm.mono ?_
  clear hsm
  rintro e w0 ⟨rfl, hB0⟩
  have hx := new_un w0
  go_wp2_with fail
  refine hx.mono ?_
  clear hx
  rintro e w1 ⟨p, bu, bs, rfl, hpx, hbu, hbs, hX1, hB1⟩
  have hlt1 := hX1.lt
  have hsz0 := hB0.size
  have hsz1 := hB1.size
  have hB : Below w.heap.size w w1 := below_step hB0 hB1
  have hwbu : w.heap.size ≤ bu := by omega
  have hwbs : w.heap.size ≤ bs := by omega
  clear hB0 hB1
  by_cases c1 : 100 < (g.length : Int)
  · have c1b : decide (100 < (g.length : Int)) = true := decide_eq_true c1
    go_wp2
    go_ret
    exact ⟨rfl, hB⟩
  have c1b : decide (100 < (g.length : Int)) = false := decide_eq_false c1
  have hI0 : Aside0 (UC w p bu bs 0 0 0 w1) := ⟨⟨⟨_, by omega, by omega, hX1⟩, hB⟩⟩
  have hg100 : g.length ≤ 100 := by omega
  clear hX1 hB c1
  go_wp2
  go_loopw [5, 6, 7] (fun v5 v6 v7 wr => ∃ (i nu N : Nat), v5 = .int .i64 N ∧ v6 = .int .i64 nu ∧ v7 = .int .i64 i ∧ i ≤ g.length ∧ Aside0 (UC w p bu bs nu N i wr)) (fun _ _ v7 _ => g.length - (RowKit.intOf v7).toNat)
  case atStart => exact ⟨0, 0, 0, rfl, rfl, rfl, by omega, hI0⟩
  case round =>
    obtain ⟨i, nu, N, rfl, rfl, rfl, hi, hI⟩ := hrel
    clear hI0
    by_cases hlt : i < g.length
    · have hltb : decide ((i : Int) < (g.length : Int)) = true := decide_eq_true (by omega)
      have hp0 : (0 : Int) ≤ (i : Int) := by omega
      have hq0 : (i : Int) < (g.length : Int) := by omega
      obtain ⟨ad, a, b, rfl, hwa, hwb, hcl⟩ := hcell.out i hlt
      have hcl' := Aside0.mk hcl
      clear hcl
      obtain ⟨⟨E, hnu, hNn, hX⟩, hBw⟩ := hI.out
      have hnum := Aside0.mk (And.intro hnu hNn)
      clear hI hnu hNn
      obtain ⟨hf0, hf1⟩ := hcl'.out wr hBw
      go_wp2_with fail
      refine (add_un wr hX hwa (by have := hnum.out; omega) (by have := hnum.out; omega)).mono ?_
      rintro e wa ⟨r1, rfl, hr1, hXa, ka⟩
      have hBa : Below w.heap.size w wa := un_step hBw ka (Nat.le_refl _) hwbu hwbs
      obtain ⟨ha0, ha1⟩ := hcl'.out wa hBa
      clear hX hBw ka hf0 hf1 hr1
      cases r1 with
      | true =>
        simp only [Bool.toNat_true] at hXa
        obtain ⟨N1, eN1⟩ : ∃ n : Nat, N + 1 = n := ⟨_, rfl⟩
        obtain ⟨nu1, enu1⟩ : ∃ n : Nat, nu + 1 = n := ⟨_, rfl⟩
        rw [eN1, enu1] at hXa
        have wN1 : wrap64 ((N : Int) + 1) = (N1 : Int) := by rw [w64 (by omega) (by have := hnum.out; omega)]; omega
        have wnu1 : wrap64 ((nu : Int) + 1) = (nu1 : Int) := by rw [w64 (by omega) (by have := hnum.out; omega)]; omega
        have bN1 := Aside0.mk (And.intro eN1 enu1)
        clear eN1 enu1
        go_wp2_with fail
        try simp only [wN1, wnu1]
        refine (add_un wa hXa hwb (by have := hnum.out; have := bN1.out; omega) (by have := hnum.out; have := bN1.out; omega)).mono ?_
        rintro e wb ⟨r2, rfl, hr2, hXb, kb⟩
        have hBb : Below w.heap.size w wb := un_step hBa kb (Nat.le_refl _) hwbu hwbs
        obtain ⟨hb0, hb1⟩ : wb.drew.cell? (ad.add (i * 2)) = some (.int .i64 a) ∧ wb.drew.cell? ⟨(ad.add (i * 2)).block, (ad.add (i * 2)).off + 1, none⟩ = some (.int .i64 b) := hcl'.out wb hBb
        clear hXa hBa kb ha0 ha1 hr2
        cases r2 with
        | true =>
          simp only [Bool.toNat_true] at hXb
          obtain ⟨N2, eN2⟩ : ∃ n : Nat, N1 + 1 = n := ⟨_, rfl⟩
          obtain ⟨nu2, enu2⟩ : ∃ n : Nat, nu1 + 1 = n := ⟨_, rfl⟩
          rw [eN2, enu2] at hXb
          have wN2 : wrap64 ((N1 : Int) + 1) = (N2 : Int) := by rw [w64 (by omega) (by have := hnum.out; have := bN1.out; omega)]; omega
          have wnu2 : wrap64 ((nu1 : Int) + 1) = (nu2 : Int) := by rw [w64 (by omega) (by have := hnum.out; have := bN1.out; omega)]; omega
          have bN2 := Aside0.mk (And.intro eN2 enu2)
          clear eN2 enu2
          have haa : addE (addE E a) b a a := .inl (.inr ⟨rfl, rfl⟩)
          have hbb : addE (addE E a) b b b := .inr ⟨rfl, rfl⟩
          have hpos := hXb.pos haa
          have hjn := join_un wb.drew (hXb.keep (keeps_drew (fun _ => False) _) id id id) hwa hwb (by have := hnum.out; have := bN1.out; have := bN2.out; omega) (by have := hnum.out; have := bN1.out; have := bN2.out; omega)
          go_wp2_with fail
          try simp only [wN2, wnu2]
          go_region_with (go_at_call 12; refine hjn.mono ?_; clear hjn; rintro e wc ⟨ra, rb, r3, rfl, hra, hrb, hr3, hXc, kc⟩)
          all_goals
            obtain rfl : ra = false := by
              cases ra with
              | false => rfl
              | true => exact absurd haa (hra.1 rfl)
            obtain rfl : rb = false := by
              cases rb with
              | false => rfl
              | true => exact absurd (show addE (addE (addE E a) b) a b b from .inl hbb) (hrb.1 rfl)
            have hBc : Below w.heap.size w wc := un_step hBb ((keeps_drew _ wb).trans kc) (Nat.le_refl _) hwbu hwbs
            simp only [Bool.toNat_false, Nat.add_zero] at hXc
            obtain ⟨N3, eN3⟩ : ∃ n : Nat, N2 - r3.toNat = n := ⟨_, rfl⟩
            rw [eN3] at hXc
            have hln := len_un wc hXc
            clear hra hrb hr3 haa hbb hb0 hb1 hXb hBb
            cases r3 with
            | true =>
              have wN3 : wrap64 ((N2 : Int) - 1) = (N3 : Int) := by
                simp only [Bool.toNat_true] at eN3
                rw [w64 (by omega) (by have := hnum.out; have := bN1.out; have := bN2.out; omega)]; omega
              have eN3' := Aside0.mk eN3
              clear eN3
              go_wp2_with fail
              simp only [wN3]
              refine hln.mono ?_
              clear hln
              rintro e w' ⟨rfl, rfl⟩
              go_wp2
              go_roundw
              case rel => exact ⟨i + 1, nu2, N3, rfl, rfl, by go_num, by omega, ⟨⟨⟨_, by have := hnum.out; have := bN1.out; have := bN2.out; omega, by have := eN3'.out; have := hnum.out; have := bN1.out; have := bN2.out; omega, hXc⟩, hBc⟩⟩⟩
              case measure => simp [RowKit.intOf]; omega
            | false =>
              simp only [Bool.toNat_false, Nat.sub_zero] at eN3
              subst eN3
              go_wp2_with fail
              refine hln.mono ?_
              clear hln
              rintro e w' ⟨rfl, rfl⟩
              go_wp2
              go_roundw
              case rel => exact ⟨i + 1, nu2, N2, rfl, rfl, by go_num, by omega, ⟨⟨⟨_, by have := hnum.out; have := bN1.out; have := bN2.out; omega, by have := hnum.out; have := bN1.out; have := bN2.out; omega, hXc⟩, hBc⟩⟩⟩
              case measure => simp [RowKit.intOf]; omega
        | false =>
          simp only [Bool.toNat_false, Nat.add_zero] at hXb
          obtain ⟨N2, eN2⟩ : ∃ n : Nat, N1 = n := ⟨_, rfl⟩
          obtain ⟨nu2, enu2⟩ : ∃ n : Nat, nu1 = n := ⟨_, rfl⟩
          rw [eN2, enu2] at hXb
          rw [eN2, enu2]
          have bN2 := Aside0.mk (And.intro eN2 enu2)
          clear eN2 enu2
          have haa : addE (addE E a) b a a := .inl (.inr ⟨rfl, rfl⟩)
          have hbb : addE (addE E a) b b b := .inr ⟨rfl, rfl⟩
          have hpos := hXb.pos haa
          have hjn := join_un wb.drew (hXb.keep (keeps_drew (fun _ => False) _) id id id) hwa hwb (by have := hnum.out; have := bN1.out; have := bN2.out; omega) (by have := hnum.out; have := bN1.out; have := bN2.out; omega)
          go_wp2_with fail
          try simp only [wN2, wnu2]
          go_region_with (go_at_call 12; refine hjn.mono ?_; clear hjn; rintro e wc ⟨ra, rb, r3, rfl, hra, hrb, hr3, hXc, kc⟩)
          all_goals
            obtain rfl : ra = false := by
              cases ra with
              | false => rfl
              | true => exact absurd haa (hra.1 rfl)
            obtain rfl : rb = false := by
              cases rb with
              | false => rfl
              | true => exact absurd (show addE (addE (addE E a) b) a b b from .inl hbb) (hrb.1 rfl)
            have hBc : Below w.heap.size w wc := un_step hBb ((keeps_drew _ wb).trans kc) (Nat.le_refl _) hwbu hwbs
            simp only [Bool.toNat_false, Nat.add_zero] at hXc
            obtain ⟨N3, eN3⟩ : ∃ n : Nat, N2 - r3.toNat = n := ⟨_, rfl⟩
            rw [eN3] at hXc
            have hln := len_un wc hXc
            clear hra hrb hr3 haa hbb hb0 hb1 hXb hBb
            cases r3 with
            | true =>
              have wN3 : wrap64 ((N2 : Int) - 1) = (N3 : Int) := by
                simp only [Bool.toNat_true] at eN3
                rw [w64 (by omega) (by have := hnum.out; have := bN1.out; have := bN2.out; omega)]; omega
              have eN3' := Aside0.mk eN3
              clear eN3
              go_wp2_with fail
              simp only [wN3]
              refine hln.mono ?_
              clear hln
              rintro e w' ⟨rfl, rfl⟩
              go_wp2
              go_roundw
              case rel => exact ⟨i + 1, nu2, N3, rfl, rfl, by go_num, by omega, ⟨⟨⟨_, by have := hnum.out; have := bN1.out; have := bN2.out; omega, by have := eN3'.out; have := hnum.out; have := bN1.out; have := bN2.out; omega, hXc⟩, hBc⟩⟩⟩
              case measure => simp [RowKit.intOf]; omega
            | false =>
              simp only [Bool.toNat_false, Nat.sub_zero] at eN3
              subst eN3
              go_wp2_with fail
              refine hln.mono ?_
              clear hln
              rintro e w' ⟨rfl, rfl⟩
              go_wp2
              go_roundw
              case rel => exact ⟨i + 1, nu2, N2, rfl, rfl, by go_num, by omega, ⟨⟨⟨_, by have := hnum.out; have := bN1.out; have := bN2.out; omega, by have := hnum.out; have := bN1.out; have := bN2.out; omega, hXc⟩, hBc⟩⟩⟩
              case measure => simp [RowKit.intOf]; omega
      | false =>
        simp only [Bool.toNat_false, Nat.add_zero] at hXa
        obtain ⟨N1, eN1⟩ : ∃ n : Nat, N = n := ⟨_, rfl⟩
        obtain ⟨nu1, enu1⟩ : ∃ n : Nat, nu = n := ⟨_, rfl⟩
        rw [eN1, enu1] at hXa
        rw [eN1, enu1]
        have bN1 := Aside0.mk (And.intro eN1 enu1)
        clear eN1 enu1
        go_wp2_with fail
        try simp only [wN1, wnu1]
        refine (add_un wa hXa hwb (by have := hnum.out; have := bN1.out; omega) (by have := hnum.out; have := bN1.out; omega)).mono ?_
        rintro e wb ⟨r2, rfl, hr2, hXb, kb⟩
        have hBb : Below w.heap.size w wb := un_step hBa kb (Nat.le_refl _) hwbu hwbs
        obtain ⟨hb0, hb1⟩ : wb.drew.cell? (ad.add (i * 2)) = some (.int .i64 a) ∧ wb.drew.cell? ⟨(ad.add (i * 2)).block, (ad.add (i * 2)).off + 1, none⟩ = some (.int .i64 b) := hcl'.out wb hBb
        clear hXa hBa kb ha0 ha1 hr2
        cases r2 with
        | true =>
          simp only [Bool.toNat_true] at hXb
          obtain ⟨N2, eN2⟩ : ∃ n : Nat, N1 + 1 = n := ⟨_, rfl⟩
          obtain ⟨nu2, enu2⟩ : ∃ n : Nat, nu1 + 1 = n := ⟨_, rfl⟩
          rw [eN2, enu2] at hXb
          have wN2 : wrap64 ((N1 : Int) + 1) = (N2 : Int) := by rw [w64 (by omega) (by have := hnum.out; have := bN1.out; omega)]; omega
          have wnu2 : wrap64 ((nu1 : Int) + 1) = (nu2 : Int) := by rw [w64 (by omega) (by have := hnum.out; have := bN1.out; omega)]; omega
          have bN2 := Aside0.mk (And.intro eN2 enu2)
          clear eN2 enu2
          have haa : addE (addE E a) b a a := .inl (.inr ⟨rfl, rfl⟩)
          have hbb : addE (addE E a) b b b := .inr ⟨rfl, rfl⟩
          have hpos := hXb.pos haa
          have hjn := join_un wb.drew (hXb.keep (keeps_drew (fun _ => False) _) id id id) hwa hwb (by have := hnum.out; have := bN1.out; have := bN2.out; omega) (by have := hnum.out; have := bN1.out; have := bN2.out; omega)
          go_wp2_with fail
          try simp only [wN2, wnu2]
          go_region_with (go_at_call 12; refine hjn.mono ?_; clear hjn; rintro e wc ⟨ra, rb, r3, rfl, hra, hrb, hr3, hXc, kc⟩)
          all_goals
            obtain rfl : ra = false := by
              cases ra with
              | false => rfl
              | true => exact absurd haa (hra.1 rfl)
            obtain rfl : rb = false := by
              cases rb with
              | false => rfl
              | true => exact absurd (show addE (addE (addE E a) b) a b b from .inl hbb) (hrb.1 rfl)
            have hBc : Below w.heap.size w wc := un_step hBb ((keeps_drew _ wb).trans kc) (Nat.le_refl _) hwbu hwbs
            simp only [Bool.toNat_false, Nat.add_zero] at hXc
            obtain ⟨N3, eN3⟩ : ∃ n : Nat, N2 - r3.toNat = n := ⟨_, rfl⟩
            rw [eN3] at hXc
            have hln := len_un wc hXc
            clear hra hrb hr3 haa hbb hb0 hb1 hXb hBb
            cases r3 with
            | true =>
              have wN3 : wrap64 ((N2 : Int) - 1) = (N3 : Int) := by
                simp only [Bool.toNat_true] at eN3
                rw [w64 (by omega) (by have := hnum.out; have := bN1.out; have := bN2.out; omega)]; omega
              have eN3' := Aside0.mk eN3
              clear eN3
              go_wp2_with fail
              simp only [wN3]
              refine hln.mono ?_
              clear hln
              rintro e w' ⟨rfl, rfl⟩
              go_wp2
              go_roundw
              case rel => exact ⟨i + 1, nu2, N3, rfl, rfl, by go_num, by omega, ⟨⟨⟨_, by have := hnum.out; have := bN1.out; have := bN2.out; omega, by have := eN3'.out; have := hnum.out; have := bN1.out; have := bN2.out; omega, hXc⟩, hBc⟩⟩⟩
              case measure => simp [RowKit.intOf]; omega
            | false =>
              simp only [Bool.toNat_false, Nat.sub_zero] at eN3
              subst eN3
              go_wp2_with fail
              refine hln.mono ?_
              clear hln
              rintro e w' ⟨rfl, rfl⟩
              go_wp2
              go_roundw
              case rel => exact ⟨i + 1, nu2, N2, rfl, rfl, by go_num, by omega, ⟨⟨⟨_, by have := hnum.out; have := bN1.out; have := bN2.out; omega, by have := hnum.out; have := bN1.out; have := bN2.out; omega, hXc⟩, hBc⟩⟩⟩
              case measure => simp [RowKit.intOf]; omega
        | false =>
          simp only [Bool.toNat_false, Nat.add_zero] at hXb
          obtain ⟨N2, eN2⟩ : ∃ n : Nat, N1 = n := ⟨_, rfl⟩
          obtain ⟨nu2, enu2⟩ : ∃ n : Nat, nu1 = n := ⟨_, rfl⟩
          rw [eN2, enu2] at hXb
          rw [eN2, enu2]
          have bN2 := Aside0.mk (And.intro eN2 enu2)
          clear eN2 enu2
          have haa : addE (addE E a) b a a := .inl (.inr ⟨rfl, rfl⟩)
          have hbb : addE (addE E a) b b b := .inr ⟨rfl, rfl⟩
          have hpos := hXb.pos haa
          have hjn := join_un wb.drew (hXb.keep (keeps_drew (fun _ => False) _) id id id) hwa hwb (by have := hnum.out; have := bN1.out; have := bN2.out; omega) (by have := hnum.out; have := bN1.out; have := bN2.out; omega)
          go_wp2_with fail
          try simp only [wN2, wnu2]
          go_region_with (go_at_call 12; refine hjn.mono ?_; clear hjn; rintro e wc ⟨ra, rb, r3, rfl, hra, hrb, hr3, hXc, kc⟩)
          all_goals
            obtain rfl : ra = false := by
              cases ra with
              | false => rfl
              | true => exact absurd haa (hra.1 rfl)
            obtain rfl : rb = false := by
              cases rb with
              | false => rfl
              | true => exact absurd (show addE (addE (addE E a) b) a b b from .inl hbb) (hrb.1 rfl)
            have hBc : Below w.heap.size w wc := un_step hBb ((keeps_drew _ wb).trans kc) (Nat.le_refl _) hwbu hwbs
            simp only [Bool.toNat_false, Nat.add_zero] at hXc
            obtain ⟨N3, eN3⟩ : ∃ n : Nat, N2 - r3.toNat = n := ⟨_, rfl⟩
            rw [eN3] at hXc
            have hln := len_un wc hXc
            clear hra hrb hr3 haa hbb hb0 hb1 hXb hBb
            cases r3 with
            | true =>
              have wN3 : wrap64 ((N2 : Int) - 1) = (N3 : Int) := by
                simp only [Bool.toNat_true] at eN3
                rw [w64 (by omega) (by have := hnum.out; have := bN1.out; have := bN2.out; omega)]; omega
              have eN3' := Aside0.mk eN3
              clear eN3
              go_wp2_with fail
              simp only [wN3]
              refine hln.mono ?_
              clear hln
              rintro e w' ⟨rfl, rfl⟩
              go_wp2
              go_roundw
              case rel => exact ⟨i + 1, nu2, N3, rfl, rfl, by go_num, by omega, ⟨⟨⟨_, by have := hnum.out; have := bN1.out; have := bN2.out; omega, by have := eN3'.out; have := hnum.out; have := bN1.out; have := bN2.out; omega, hXc⟩, hBc⟩⟩⟩
              case measure => simp [RowKit.intOf]; omega
            | false =>
              simp only [Bool.toNat_false, Nat.sub_zero] at eN3
              subst eN3
              go_wp2_with fail
              refine hln.mono ?_
              clear hln
              rintro e w' ⟨rfl, rfl⟩
              go_wp2
              go_roundw
              case rel => exact ⟨i + 1, nu2, N2, rfl, rfl, by go_num, by omega, ⟨⟨⟨_, by have := hnum.out; have := bN1.out; have := bN2.out; omega, by have := hnum.out; have := bN1.out; have := bN2.out; omega, hXc⟩, hBc⟩⟩⟩
              case measure => simp [RowKit.intOf]; omega
    · have hltb : decide ((i : Int) < (g.length : Int)) = false := decide_eq_false (by omega)
      obtain ⟨⟨E, hnu, hNn, hX⟩, hBw⟩ := hI.out
      clear hI
      have hxl := hX.lt
      go_wp2_with fail
      refine (rows_un wr hX (by omega) (by omega)).mono ?_
      rintro e wz ⟨v, rows, rfl, hall, hrv, hXz, kz⟩
      have hBz : Below w.heap.size w wz := un_step hBw kz (Nat.le_refl _) hwbu hwbs
      obtain ⟨Av, cv, rfl⟩ := hrv.shape
      have hJ0 : Aside0 (UR w p bu bs nu N E wr.heap.size (.slice Av rows.length cv) rows wz) := ⟨⟨hXz, hBz, hrv⟩⟩
      obtain ⟨base, hbase⟩ : ∃ base, wr.heap.size = base := ⟨_, rfl⟩
      rw [hbase] at hJ0
      have hxb : bu < base ∧ bs < base := by omega
      have hnuN : nu ≤ 200 ∧ N ≤ 200 := by omega
      have hlN := hall.len
      rw [hlN] at hJ0 ⊢
      have hall' := Aside0.mk hall
      clear hX hBw hall hrv hXz kz hBz hbase hxl hlN hnu hNn
      go_wp2
      go_loopw [6, 9] (fun v6 v9 wr => ∃ (i T : Nat), v6 = .int .i64 T ∧ v9 = .int .i64 i ∧ i ≤ N ∧ Aside0 (T + ((rows.take i).map List.length).sum = nu) ∧ Aside0 (UR w p bu bs nu N E base (.slice Av N cv) rows wr)) (fun _ v9 _ => N - (RowKit.intOf v9).toNat)
      case atStart => exact ⟨0, nu, rfl, rfl, by omega, ⟨by simp⟩, hJ0⟩
      case round =>
        obtain ⟨i, T, rfl, rfl, hi, hT, hJ⟩ := hrel
        clear hJ0
        by_cases hlt : i < N
        · have hltb : decide ((i : Int) < (N : Int)) = true := decide_eq_true (by omega)
          have hp0 : (0 : Int) ≤ (i : Int) := by omega
          have hq0 : (i : Int) < (N : Int) := by omega
          obtain ⟨row, hrow⟩ : ∃ row, rows[i]? = some row := ⟨_, List.getElem?_eq_getElem (by have := hall'.out.len; omega)⟩
          obtain ⟨m, tl, hmt, hris, hmem⟩ := hall'.out.row row (List.mem_of_getElem? hrow)
          have hst := sum_take rows i hrow
          have hsl := sum_take_le rows (i + 1)
          have hrl : row.length ≤ T := by have := hall'.out.sum; have := hT.out; omega
          obtain ⟨T1, hT1⟩ : ∃ T1, T - row.length = T1 := ⟨_, rfl⟩
          have hTn : Aside0 (T1 + ((rows.take (i + 1)).map List.length).sum = nu) := ⟨by have := hT.out; omega⟩
          have wT : wrap64 ((T : Int) - (row.length : Int)) = (T1 : Int) := by
            have := hT.out
            rw [w64 (by omega) (by omega)]; omega
          have hrow1 : 0 < row.length := by rw [hmt]; simp
          have hrow2 : row.length ≤ 200 := by have := hT.out; omega
          obtain ⟨ad, ar, cr, rfl, hch, _⟩ := hJ.out.rv.at_ (hall'.out.len.symm) hrow (by rw [hmt]; simp)
          have hm0 : row[0]? = some m := by rw [hmt]; rfl
          have hR := Aside0.mk (And.intro hmt (And.intro hris hmem))
          have hrow' := Aside0.mk hrow
          have hm0' := Aside0.mk hm0
          clear hmt hris hmem hst hsl hT1 hrow hm0
          go_wp2
          rw [wT]
          clear wT
          go_loopw [10] (fun v10 wr => ∃ (k : Nat), v10 = .int .i64 k ∧ k ≤ row.length ∧ Aside0 (UR w p bu bs nu N E base (.slice (some ad) N cv) rows wr)) (fun v10 _ => row.length - (RowKit.intOf v10).toNat)
          case atStart => exact ⟨0, rfl, by omega, hJ⟩
          case round =>
            obtain ⟨k, rfl, hk, hJk⟩ := hrel
            clear hJ hch
            obtain ⟨ad', ar, cr, e, hch, hcx⟩ := hJk.out.rv.at_ (hall'.out.len.symm) hrow'.out (by intro e; rw [e] at hrow1; simp at hrow1)
            obtain rfl := Option.some.inj e
            clear e
            have hcx' := Aside0.mk hcx
            clear hcx
            by_cases hkl : k < row.length
            · have hkb : decide ((k : Int) < (row.length : Int)) = true := decide_eq_true (by omega)
              have hp1 : (0 : Int) ≤ (k : Int) := by omega
              have hq1 : (k : Int) < (row.length : Int) := by omega
              have hp2 : (0 : Int) ≤ 0 := Int.le_refl _
              have hq2 : (0 : Int) < (row.length : Int) := by omega
              obtain ⟨x, hx⟩ : ∃ x, row[k]? = some x := ⟨_, List.getElem?_eq_getElem hkl⟩
              have hcxk := hcx'.out k x hx
              have hxE := (hR.out.2.2 x).1 (List.mem_of_getElem? hx)
              obtain ⟨U, Z, hUu, hEu⟩ := hJk.out.un
              have hsym : ∀ s t, E s t → E t s := fun s t h => (hEu t s).1 (((hEu s t).2 h).symm)
              have htr : ∀ s t u, E s t → E t u → E s u := fun s t u h h' => (hEu s u).1 (((hEu s t).2 h).trans ((hEu t u).2 h'))
              have hwx : κI.wf x := by
                have hs := (Eq2.self_iff hUu.F).1 ((hEu x x).2 (htr _ _ _ hxE (hsym _ _ hxE)))
                obtain ⟨j, hj⟩ := Option.isSome_iff_exists.1 hs
                exact (hUu.mu.wfs hj).1
              have hfd := find_un wr hJk.out.un hwx (by omega)
              clear hUu hEu
              go_wp2_with fail
              refine hfd.mono ?_
              clear hfd
              rintro e wf_ ⟨f, rf, rfl, hf1, hf2, hXf, kf⟩
              obtain rfl : rf = true := by
                cases rf with
                | true => rfl
                | false => exact absurd (htr _ _ _ hxE (hsym _ _ hxE)) ((hf2 rfl).2 x)
              obtain rfl : f = m := by
                obtain ⟨g1, g2⟩ := hf1 rfl
                have h1 : f ∈ row := (hR.out.2.2 f).2 (htr _ _ _ g1 hxE)
                have h2 := g2 m (hsym _ _ hxE)
                have h3 := hR.out.2.1
                rw [hR.out.1] at h1 h3
                rcases List.mem_cons.1 h1 with e | e
                · exact e
                · have := (List.pairwise_cons.1 h3).1 _ e; omega
              have hJf : Aside0 (UR w p bu bs nu N E base (.slice (some ad) N cv) rows wf_) := ⟨hJk.out.step hXf kf hwbu hwbs hxb.1 hxb.2⟩
              obtain ⟨ad', ar', cr', e, hchf, hcxf⟩ := hJf.out.rv.at_ (hall'.out.len.symm) hrow'.out (by intro e; rw [e] at hrow1; simp at hrow1)
              obtain rfl := Option.some.inj e
              have hcf0 : wf_.cell? ar' = some (.int .i64 f) := by have := hcxf 0 f hm0'.out; rwa [Addr.add_zero'] at this
              have hcfk := hcxf k x hx
              by_cases hk0 : k = 0
              · subst hk0
                have hkz : decide ((0 : Int) < 0) = false := by decide
                clear hf1 hf2 hXf kf hsym htr hxE hcxf hx hJk hch hcxk e
                go_wp2
                refine start_ (n := 34) (S := fun w' => w'.cell? (ad.add i) = some (.slice (some ar') row.length cr') ∧ w'.cell? ar' = some (.int .i64 f)) (ds := []) #[false, false, false, false, false, false, false, false, false, false, false, false, false, false, false, false, false, false, false, false, false, false, false, false, false, false, false, false, false, false, false, false, false, false] hmix rfl rfl ?hs (fun hHeld => ?_)
                case hs => exact ⟨hchf, hcf0⟩
                refine pure_ (i := 0) (N := some 109) (v := ?_) (a' := ?_) #[true, false, false, false, false, false, false, false, false, false, false, false, false, false, false, false, false, false, false, false, false, false, false, false, false, false, false, false, false, false, false, false, false, false] rfl rfl (by kernel_rfl) (fun _ _ _ h => h) (Or.inl ⟨by rfl, ?_⟩) ?_ ?_
                rotate_left
                · intro w'
                  go_simp
                  try with_reducible rfl
                rotate_left
                · simp only [Act.put, List.setIfInBounds_toArray, List.set_cons_zero, List.set_cons_succ, i64_w, i32_w]
                  rfl
                refine pure_ (i := 1) (N := some 110) (v := ?_) (a' := ?_) #[true, true, false, false, false, false, false, false, false, false, false, false, false, false, false, false, false, false, false, false, false, false, false, false, false, false, false, false, false, false, false, false, false, false] rfl rfl (by kernel_rfl) (fun _ _ _ h => h) (Or.inl ⟨by rfl, ?_⟩) ?_ ?_
                rotate_left
                · intro w'
                  go_simp
                  try with_reducible rfl
                rotate_left
                · simp only [Act.put, List.setIfInBounds_toArray, List.set_cons_zero, List.set_cons_succ, i64_w, i32_w]
                  rfl
                refine pure_ (i := 2) (N := some 111) (v := ?_) (a' := ?_) #[true, true, true, false, false, false, false, false, false, false, false, false, false, false, false, false, false, false, false, false, false, false, false, false, false, false, false, false, false, false, false, false, false, false] rfl rfl (by kernel_rfl) (fun _ _ _ h => h) (Or.inl ⟨by rfl, ?_⟩) ?_ ?_
                rotate_left
                · intro w'
                  go_simp
                  try with_reducible rfl
                rotate_left
                · simp only [Act.put, List.setIfInBounds_toArray, List.set_cons_zero, List.set_cons_succ, i64_w, i32_w]
                  rfl
                refine pure_ (i := 3) (N := some 112) (v := ?_) (a' := ?_) #[true, true, true, true, false, false, false, false, false, false, false, false, false, false, false, false, false, false, false, false, false, false, false, false, false, false, false, false, false, false, false, false, false, false] rfl rfl (by kernel_rfl) (fun _ _ _ h => h) (Or.inl ⟨by rfl, ?_⟩) ?_ ?_
                rotate_left
                · intro w'
                  go_simp
                  try with_reducible rfl
                rotate_left
                · simp only [Act.put, List.setIfInBounds_toArray, List.set_cons_zero, List.set_cons_succ, i64_w, i32_w]
                  rfl
                refine pure_ (i := 4) (N := some 113) (v := ?_) (a' := ?_) #[true, true, true, true, true, false, false, false, false, false, false, false, false, false, false, false, false, false, false, false, false, false, false, false, false, false, false, false, false, false, false, false, false, false] rfl rfl (by kernel_rfl) (fun _ _ _ h => h) (Or.inl ⟨by rfl, ?_⟩) ?_ ?_
                rotate_left
                · intro w'
                  go_simp
                  try with_reducible rfl
                rotate_left
                · simp only [Act.put, List.setIfInBounds_toArray, List.set_cons_zero, List.set_cons_succ, i64_w, i32_w]
                  rfl
                refine pure_ (i := 5) (N := some 114) (v := ?_) (a' := ?_) #[true, true, true, true, true, true, false, false, false, false, false, false, false, false, false, false, false, false, false, false, false, false, false, false, false, false, false, false, false, false, false, false, false, false] rfl rfl (by kernel_rfl) (fun _ _ _ h => h) (Or.inl ⟨by rfl, ?_⟩) ?_ ?_
                rotate_left
                · intro w'
                  go_simp
                  try with_reducible rfl
                rotate_left
                · simp only [Act.put, List.setIfInBounds_toArray, List.set_cons_zero, List.set_cons_succ, i64_w, i32_w]
                  rfl
                refine pure_ (i := 6) (N := some 115) (v := ?_) (a' := ?_) #[true, true, true, true, true, true, true, false, false, false, false, false, false, false, false, false, false, false, false, false, false, false, false, false, false, false, false, false, false, false, false, false, false, false] rfl rfl (by kernel_rfl) (fun _ _ _ h => h) (Or.inl ⟨by rfl, ?_⟩) ?_ ?_
                rotate_left
                · intro w'
                  go_simp
                  try with_reducible rfl
                rotate_left
                · simp only [Act.put, List.setIfInBounds_toArray, List.set_cons_zero, List.set_cons_succ, i64_w, i32_w]
                  rfl
                refine take_ (i := 7) (N := some 116) (v := ?_) (a' := ?_) #[true, true, true, true, true, true, true, true, false, false, false, false, false, false, false, false, false, false, false, false, false, false, false, false, false, false, false, false, false, false, false, false, false, false] rfl rfl (by kernel_rfl) (fun _ _ _ h => h) (Or.inl ⟨by rfl, ?_⟩) hHeld ?_ ?_
                rotate_left
                · rintro w' ⟨s0, s1⟩
                  go_simp
                  try with_reducible rfl
                rotate_left
                · simp only [Act.put, List.setIfInBounds_toArray, List.set_cons_zero, List.set_cons_succ, i64_w, i32_w]
                  rfl
                refine pure_ (i := 8) (N := some 117) (v := ?_) (a' := ?_) #[true, true, true, true, true, true, true, true, true, false, false, false, false, false, false, false, false, false, false, false, false, false, false, false, false, false, false, false, false, false, false, false, false, false] rfl rfl (by kernel_rfl) (fun _ _ _ h => h) (Or.inl ⟨by rfl, ?_⟩) ?_ ?_
                rotate_left
                · intro w'
                  go_simp
                  try with_reducible rfl
                rotate_left
                · simp only [Act.put, List.setIfInBounds_toArray, List.set_cons_zero, List.set_cons_succ, i64_w, i32_w]
                  rfl
                refine take_ (i := 9) (N := some 118) (v := ?_) (a' := ?_) #[true, true, true, true, true, true, true, true, true, true, false, false, false, false, false, false, false, false, false, false, false, false, false, false, false, false, false, false, false, false, false, false, false, false] rfl rfl (by kernel_rfl) (fun _ _ _ h => h) (Or.inl ⟨by rfl, ?_⟩) hHeld ?_ ?_
                rotate_left
                · rintro w' ⟨s0, s1⟩
                  go_simp
                  try with_reducible rfl
                rotate_left
                · simp only [Act.put, List.setIfInBounds_toArray, List.set_cons_zero, List.set_cons_succ, i64_w, i32_w]
                  rfl
                refine pure_ (i := 10) (N := some 119) (v := ?_) (a' := ?_) #[true, true, true, true, true, true, true, true, true, true, true, false, false, false, false, false, false, false, false, false, false, false, false, false, false, false, false, false, false, false, false, false, false, false] rfl rfl (by kernel_rfl) (fun _ _ _ h => h) (Or.inl ⟨by rfl, ?_⟩) ?_ ?_
                rotate_left
                · intro w'
                  go_simp
                  try with_reducible rfl
                rotate_left
                · simp only [Act.put, List.setIfInBounds_toArray, List.set_cons_zero, List.set_cons_succ, i64_w, i32_w]
                  rfl
                refine pure_ (i := 11) (N := some 120) (v := ?_) (a' := ?_) #[true, true, true, true, true, true, true, true, true, true, true, true, false, false, false, false, false, false, false, false, false, false, false, false, false, false, false, false, false, false, false, false, false, false] rfl rfl (by kernel_rfl) (fun _ _ _ h => h) (Or.inl ⟨by rfl, ?_⟩) ?_ ?_
                rotate_left
                · intro w'
                  go_simp
                  try with_reducible rfl
                rotate_left
                · simp only [Act.put, List.setIfInBounds_toArray, List.set_cons_zero, List.set_cons_succ, i64_w, i32_w]
                  rfl
                refine pure_ (i := 12) (N := some 121) (v := ?_) (a' := ?_) #[true, true, true, true, true, true, true, true, true, true, true, true, true, false, false, false, false, false, false, false, false, false, false, false, false, false, false, false, false, false, false, false, false, false] rfl rfl (by kernel_rfl) (fun _ _ _ h => h) (Or.inl ⟨by rfl, ?_⟩) ?_ ?_
                rotate_left
                · intro w'
                  go_simp
                  try with_reducible rfl
                rotate_left
                · simp only [Act.put, List.setIfInBounds_toArray, List.set_cons_zero, List.set_cons_succ, i64_w, i32_w]
                  rfl
                refine pure_ (i := 13) (N := some 122) (v := ?_) (a' := ?_) #[true, true, true, true, true, true, true, true, true, true, true, true, true, true, false, false, false, false, false, false, false, false, false, false, false, false, false, false, false, false, false, false, false, false] rfl rfl (by kernel_rfl) (fun _ _ _ h => h) (Or.inl ⟨by rfl, ?_⟩) ?_ ?_
                rotate_left
                · intro w'
                  go_simp
                  try with_reducible rfl
                rotate_left
                · simp only [Act.put, List.setIfInBounds_toArray, List.set_cons_zero, List.set_cons_succ, i64_w, i32_w]
                  rfl
                refine pure_ (i := 14) (N := some 123) (v := ?_) (a' := ?_) #[true, true, true, true, true, true, true, true, true, true, true, true, true, true, true, false, false, false, false, false, false, false, false, false, false, false, false, false, false, false, false, false, false, false] rfl rfl (by kernel_rfl) (fun _ _ _ h => h) (Or.inl ⟨by rfl, ?_⟩) ?_ ?_
                rotate_left
                · intro w'
                  go_simp
                  try with_reducible rfl
                rotate_left
                · simp only [Act.put, List.setIfInBounds_toArray, List.set_cons_zero, List.set_cons_succ, i64_w, i32_w]
                  rfl
                refine pure_ (i := 15) (N := some 124) (v := ?_) (a' := ?_) #[true, true, true, true, true, true, true, true, true, true, true, true, true, true, true, true, false, false, false, false, false, false, false, false, false, false, false, false, false, false, false, false, false, false] rfl rfl (by kernel_rfl) (fun _ _ _ h => h) (Or.inl ⟨by rfl, ?_⟩) ?_ ?_
                rotate_left
                · intro w'
                  go_simp
                  try with_reducible rfl
                rotate_left
                · simp only [Act.put, List.setIfInBounds_toArray, List.set_cons_zero, List.set_cons_succ, i64_w, i32_w]
                  rfl
                refine pure_ (i := 16) (N := some 125) (v := undef) (a' := ?_) #[true, true, true, true, true, true, true, true, true, true, true, true, true, true, true, true, true, false, false, false, false, false, false, false, false, false, false, false, false, false, false, false, false, false] rfl rfl (by kernel_rfl) (fun _ _ _ h => h) (Or.inr ⟨by rfl, rfl⟩) ?_ ?_
                rotate_left
                · simp only [Act.put, List.setIfInBounds_toArray, List.set_cons_zero, List.set_cons_succ, i64_w, i32_w]
                  rfl
                refine pure_ (i := 17) (N := some 126) (v := undef) (a' := ?_) #[true, true, true, true, true, true, true, true, true, true, true, true, true, true, true, true, true, true, false, false, false, false, false, false, false, false, false, false, false, false, false, false, false, false] rfl rfl (by kernel_rfl) (fun _ _ _ h => h) (Or.inr ⟨by rfl, rfl⟩) ?_ ?_
                rotate_left
                · simp only [Act.put, List.setIfInBounds_toArray, List.set_cons_zero, List.set_cons_succ, i64_w, i32_w]
                  rfl
                refine pure_ (i := 18) (N := some 127) (v := undef) (a' := ?_) #[true, true, true, true, true, true, true, true, true, true, true, true, true, true, true, true, true, true, true, false, false, false, false, false, false, false, false, false, false, false, false, false, false, false] rfl rfl (by kernel_rfl) (fun _ _ _ h => h) (Or.inr ⟨by rfl, rfl⟩) ?_ ?_
                rotate_left
                · simp only [Act.put, List.setIfInBounds_toArray, List.set_cons_zero, List.set_cons_succ, i64_w, i32_w]
                  rfl
                refine pure_ (i := 19) (N := some 128) (v := undef) (a' := ?_) #[true, true, true, true, true, true, true, true, true, true, true, true, true, true, true, true, true, true, true, true, false, false, false, false, false, false, false, false, false, false, false, false, false, false] rfl rfl (by kernel_rfl) (fun _ _ _ h => h) (Or.inr ⟨by rfl, rfl⟩) ?_ ?_
                rotate_left
                · simp only [Act.put, List.setIfInBounds_toArray, List.set_cons_zero, List.set_cons_succ, i64_w, i32_w]
                  rfl
                refine pure_ (i := 20) (N := some 129) (v := undef) (a' := ?_) #[true, true, true, true, true, true, true, true, true, true, true, true, true, true, true, true, true, true, true, true, true, false, false, false, false, false, false, false, false, false, false, false, false, false] rfl rfl (by kernel_rfl) (fun _ _ _ h => h) (Or.inr ⟨by rfl, rfl⟩) ?_ ?_
                rotate_left
                · simp only [Act.put, List.setIfInBounds_toArray, List.set_cons_zero, List.set_cons_succ, i64_w, i32_w]
                  rfl
                refine pure_ (i := 21) (N := some 130) (v := undef) (a' := ?_) #[true, true, true, true, true, true, true, true, true, true, true, true, true, true, true, true, true, true, true, true, true, true, false, false, false, false, false, false, false, false, false, false, false, false] rfl rfl (by kernel_rfl) (fun _ _ _ h => h) (Or.inr ⟨by rfl, rfl⟩) ?_ ?_
                rotate_left
                · simp only [Act.put, List.setIfInBounds_toArray, List.set_cons_zero, List.set_cons_succ, i64_w, i32_w]
                  rfl
                refine pure_ (i := 22) (N := some 131) (v := undef) (a' := ?_) #[true, true, true, true, true, true, true, true, true, true, true, true, true, true, true, true, true, true, true, true, true, true, true, false, false, false, false, false, false, false, false, false, false, false] rfl rfl (by kernel_rfl) (fun _ _ _ h => h) (Or.inr ⟨by rfl, rfl⟩) ?_ ?_
                rotate_left
                · simp only [Act.put, List.setIfInBounds_toArray, List.set_cons_zero, List.set_cons_succ, i64_w, i32_w]
                  rfl
                refine pure_ (i := 23) (N := some 132) (v := undef) (a' := ?_) #[true, true, true, true, true, true, true, true, true, true, true, true, true, true, true, true, true, true, true, true, true, true, true, true, false, false, false, false, false, false, false, false, false, false] rfl rfl (by kernel_rfl) (fun _ _ _ h => h) (Or.inr ⟨by rfl, rfl⟩) ?_ ?_
                rotate_left
                · simp only [Act.put, List.setIfInBounds_toArray, List.set_cons_zero, List.set_cons_succ, i64_w, i32_w]
                  rfl
                refine pure_ (i := 24) (N := some 133) (v := undef) (a' := ?_) #[true, true, true, true, true, true, true, true, true, true, true, true, true, true, true, true, true, true, true, true, true, true, true, true, true, false, false, false, false, false, false, false, false, false] rfl rfl (by kernel_rfl) (fun _ _ _ h => h) (Or.inr ⟨by rfl, rfl⟩) ?_ ?_
                rotate_left
                · simp only [Act.put, List.setIfInBounds_toArray, List.set_cons_zero, List.set_cons_succ, i64_w, i32_w]
                  rfl
                refine pure_ (i := 25) (N := some 134) (v := undef) (a' := ?_) #[true, true, true, true, true, true, true, true, true, true, true, true, true, true, true, true, true, true, true, true, true, true, true, true, true, true, false, false, false, false, false, false, false, false] rfl rfl (by kernel_rfl) (fun _ _ _ h => h) (Or.inr ⟨by rfl, rfl⟩) ?_ ?_
                rotate_left
                · simp only [Act.put, List.setIfInBounds_toArray, List.set_cons_zero, List.set_cons_succ, i64_w, i32_w]
                  rfl
                refine pure_ (i := 26) (N := some 135) (v := undef) (a' := ?_) #[true, true, true, true, true, true, true, true, true, true, true, true, true, true, true, true, true, true, true, true, true, true, true, true, true, true, true, false, false, false, false, false, false, false] rfl rfl (by kernel_rfl) (fun _ _ _ h => h) (Or.inr ⟨by rfl, rfl⟩) ?_ ?_
                rotate_left
                · simp only [Act.put, List.setIfInBounds_toArray, List.set_cons_zero, List.set_cons_succ, i64_w, i32_w]
                  rfl
                refine pure_ (i := 27) (N := some 136) (v := undef) (a' := ?_) #[true, true, true, true, true, true, true, true, true, true, true, true, true, true, true, true, true, true, true, true, true, true, true, true, true, true, true, true, false, false, false, false, false, false] rfl rfl (by kernel_rfl) (fun _ _ _ h => h) (Or.inr ⟨by rfl, rfl⟩) ?_ ?_
                rotate_left
                · simp only [Act.put, List.setIfInBounds_toArray, List.set_cons_zero, List.set_cons_succ, i64_w, i32_w]
                  rfl
                refine pure_ (i := 28) (N := some 137) (v := undef) (a' := ?_) #[true, true, true, true, true, true, true, true, true, true, true, true, true, true, true, true, true, true, true, true, true, true, true, true, true, true, true, true, true, false, false, false, false, false] rfl rfl (by kernel_rfl) (fun _ _ _ h => h) (Or.inr ⟨by rfl, rfl⟩) ?_ ?_
                rotate_left
                · simp only [Act.put, List.setIfInBounds_toArray, List.set_cons_zero, List.set_cons_succ, i64_w, i32_w]
                  rfl
                refine pure_ (i := 29) (N := some 138) (v := undef) (a' := ?_) #[true, true, true, true, true, true, true, true, true, true, true, true, true, true, true, true, true, true, true, true, true, true, true, true, true, true, true, true, true, true, false, false, false, false] rfl rfl (by kernel_rfl) (fun _ _ _ h => h) (Or.inr ⟨by rfl, rfl⟩) ?_ ?_
                rotate_left
                · simp only [Act.put, List.setIfInBounds_toArray, List.set_cons_zero, List.set_cons_succ, i64_w, i32_w]
                  rfl
                refine pure_ (i := 30) (N := some 139) (v := undef) (a' := ?_) #[true, true, true, true, true, true, true, true, true, true, true, true, true, true, true, true, true, true, true, true, true, true, true, true, true, true, true, true, true, true, true, false, false, false] rfl rfl (by kernel_rfl) (fun _ _ _ h => h) (Or.inr ⟨by rfl, rfl⟩) ?_ ?_
                rotate_left
                · simp only [Act.put, List.setIfInBounds_toArray, List.set_cons_zero, List.set_cons_succ, i64_w, i32_w]
                  rfl
                refine pure_ (i := 31) (N := some 140) (v := undef) (a' := ?_) #[true, true, true, true, true, true, true, true, true, true, true, true, true, true, true, true, true, true, true, true, true, true, true, true, true, true, true, true, true, true, true, true, false, false] rfl rfl (by kernel_rfl) (fun _ _ _ h => h) (Or.inr ⟨by rfl, rfl⟩) ?_ ?_
                rotate_left
                · simp only [Act.put, List.setIfInBounds_toArray, List.set_cons_zero, List.set_cons_succ, i64_w, i32_w]
                  rfl
                refine pure_ (i := 32) (N := some 141) (v := ?_) (a' := ?_) #[true, true, true, true, true, true, true, true, true, true, true, true, true, true, true, true, true, true, true, true, true, true, true, true, true, true, true, true, true, true, true, true, true, false] rfl rfl (by kernel_rfl) (fun _ _ _ h => h) (Or.inl ⟨by rfl, ?_⟩) ?_ ?_
                rotate_left
                · intro w'
                  go_simp
                  try with_reducible rfl
                rotate_left
                · simp only [Act.put, List.setIfInBounds_toArray, List.set_cons_zero, List.set_cons_succ, i64_w, i32_w]
                  rfl
                refine pure_ (i := 33) (N := some 142) (v := ?_) (a' := ?_) #[true, true, true, true, true, true, true, true, true, true, true, true, true, true, true, true, true, true, true, true, true, true, true, true, true, true, true, true, true, true, true, true, true, true] rfl rfl (by kernel_rfl) (fun _ _ _ h => h) (Or.inl ⟨by rfl, ?_⟩) ?_ ?_
                rotate_left
                · intro w'
                  go_simp
                  try with_reducible rfl
                rotate_left
                · simp only [Act.put, List.setIfInBounds_toArray, List.set_cons_zero, List.set_cons_succ, i64_w, i32_w]
                  rfl
                refine done_ (by kernel_rfl) ?_
                go_wp2
                go_roundw
                case rel => exact ⟨1, by go_num, by omega, ⟨hJf.out.drew⟩⟩
                case measure => simp [RowKit.intOf]; omega
              · obtain ⟨kp, rfl⟩ : ∃ kp, k = kp + 1 := ⟨k - 1, by omega⟩
                obtain ⟨y, hy⟩ : ∃ y, row[kp]? = some y := ⟨_, List.getElem?_eq_getElem (by omega)⟩
                have hcfp := hcxf kp y hy
                have hyx : y < x := by
                  have h3 := hR.out.2.1
                  have := List.pairwise_iff_getElem.1 h3 kp (kp + 1) (by omega) (by omega) (by omega)
                  rwa [(List.getElem_eq_iff (by omega)).2 hy, (List.getElem_eq_iff (by omega)).2 hx] at this
                obtain ⟨k1, hk1⟩ : ∃ k1, kp + 1 = k1 := ⟨_, rfl⟩
                rw [hk1] at hcfk hkl hk hp1 hq1 ⊢
                have hkz : decide (0 < k1) = true := decide_eq_true (by omega)
                have hkz2 : decide ((0 : Int) < (k1 : Int)) = true := decide_eq_true (by omega)
                have wk : wrap64 ((k1 : Int) - 1) = (kp : Int) := by rw [w64 (by omega) (by omega)]; omega
                have hp3 : (0 : Int) ≤ (kp : Int) := by omega
                have hq3 : (kp : Int) < (row.length : Int) := by omega
                have hle : decide (x ≤ y) = false := decide_eq_false (by omega)
                have hk1' := Aside0.mk hk1
                clear hf1 hf2 hXf kf hsym htr hxE hcxf hx hy hJk hch hcxk e hyx hkb hk1
                go_wp2
                refine start_ (n := 34) (S := fun w' => w'.cell? (ad.add i) = some (.slice (some ar') row.length cr') ∧ w'.cell? ar' = some (.int .i64 f) ∧ w'.cell? (ar'.add k1) = some (.int .i64 x) ∧ w'.cell? (ar'.add kp) = some (.int .i64 y)) (ds := []) #[false, false, false, false, false, false, false, false, false, false, false, false, false, false, false, false, false, false, false, false, false, false, false, false, false, false, false, false, false, false, false, false, false, false] hmix rfl rfl ?hs (fun hHeld => ?_)
                case hs => exact ⟨hchf, hcf0, hcfk, hcfp⟩
                refine pure_ (i := 0) (N := some 109) (v := ?_) (a' := ?_) #[true, false, false, false, false, false, false, false, false, false, false, false, false, false, false, false, false, false, false, false, false, false, false, false, false, false, false, false, false, false, false, false, false, false] rfl rfl (by kernel_rfl) (fun _ _ _ h => h) (Or.inl ⟨by rfl, ?_⟩) ?_ ?_
                rotate_left
                · intro w'
                  go_simp
                  try with_reducible rfl
                rotate_left
                · simp only [Act.put, List.setIfInBounds_toArray, List.set_cons_zero, List.set_cons_succ, i64_w, i32_w]
                  rfl
                refine pure_ (i := 1) (N := some 110) (v := ?_) (a' := ?_) #[true, true, false, false, false, false, false, false, false, false, false, false, false, false, false, false, false, false, false, false, false, false, false, false, false, false, false, false, false, false, false, false, false, false] rfl rfl (by kernel_rfl) (fun _ _ _ h => h) (Or.inl ⟨by rfl, ?_⟩) ?_ ?_
                rotate_left
                · intro w'
                  go_simp
                  try with_reducible rfl
                rotate_left
                · simp only [Act.put, List.setIfInBounds_toArray, List.set_cons_zero, List.set_cons_succ, i64_w, i32_w]
                  rfl
                refine pure_ (i := 2) (N := some 111) (v := ?_) (a' := ?_) #[true, true, true, false, false, false, false, false, false, false, false, false, false, false, false, false, false, false, false, false, false, false, false, false, false, false, false, false, false, false, false, false, false, false] rfl rfl (by kernel_rfl) (fun _ _ _ h => h) (Or.inl ⟨by rfl, ?_⟩) ?_ ?_
                rotate_left
                · intro w'
                  go_simp
                  try with_reducible rfl
                rotate_left
                · simp only [Act.put, List.setIfInBounds_toArray, List.set_cons_zero, List.set_cons_succ, i64_w, i32_w]
                  rfl
                refine pure_ (i := 3) (N := some 112) (v := ?_) (a' := ?_) #[true, true, true, true, false, false, false, false, false, false, false, false, false, false, false, false, false, false, false, false, false, false, false, false, false, false, false, false, false, false, false, false, false, false] rfl rfl (by kernel_rfl) (fun _ _ _ h => h) (Or.inl ⟨by rfl, ?_⟩) ?_ ?_
                rotate_left
                · intro w'
                  go_simp
                  try with_reducible rfl
                rotate_left
                · simp only [Act.put, List.setIfInBounds_toArray, List.set_cons_zero, List.set_cons_succ, i64_w, i32_w]
                  rfl
                refine pure_ (i := 4) (N := some 113) (v := ?_) (a' := ?_) #[true, true, true, true, true, false, false, false, false, false, false, false, false, false, false, false, false, false, false, false, false, false, false, false, false, false, false, false, false, false, false, false, false, false] rfl rfl (by kernel_rfl) (fun _ _ _ h => h) (Or.inl ⟨by rfl, ?_⟩) ?_ ?_
                rotate_left
                · intro w'
                  go_simp
                  try with_reducible rfl
                rotate_left
                · simp only [Act.put, List.setIfInBounds_toArray, List.set_cons_zero, List.set_cons_succ, i64_w, i32_w]
                  rfl
                refine pure_ (i := 5) (N := some 114) (v := ?_) (a' := ?_) #[true, true, true, true, true, true, false, false, false, false, false, false, false, false, false, false, false, false, false, false, false, false, false, false, false, false, false, false, false, false, false, false, false, false] rfl rfl (by kernel_rfl) (fun _ _ _ h => h) (Or.inl ⟨by rfl, ?_⟩) ?_ ?_
                rotate_left
                · intro w'
                  go_simp
                  try with_reducible rfl
                rotate_left
                · simp only [Act.put, List.setIfInBounds_toArray, List.set_cons_zero, List.set_cons_succ, i64_w, i32_w]
                  rfl
                refine pure_ (i := 6) (N := some 115) (v := ?_) (a' := ?_) #[true, true, true, true, true, true, true, false, false, false, false, false, false, false, false, false, false, false, false, false, false, false, false, false, false, false, false, false, false, false, false, false, false, false] rfl rfl (by kernel_rfl) (fun _ _ _ h => h) (Or.inl ⟨by rfl, ?_⟩) ?_ ?_
                rotate_left
                · intro w'
                  go_simp
                  try with_reducible rfl
                rotate_left
                · simp only [Act.put, List.setIfInBounds_toArray, List.set_cons_zero, List.set_cons_succ, i64_w, i32_w]
                  rfl
                refine take_ (i := 7) (N := some 116) (v := ?_) (a' := ?_) #[true, true, true, true, true, true, true, true, false, false, false, false, false, false, false, false, false, false, false, false, false, false, false, false, false, false, false, false, false, false, false, false, false, false] rfl rfl (by kernel_rfl) (fun _ _ _ h => h) (Or.inl ⟨by rfl, ?_⟩) hHeld ?_ ?_
                rotate_left
                · rintro w' ⟨s0, s1, s2, s3⟩
                  go_simp
                  try with_reducible rfl
                rotate_left
                · simp only [Act.put, List.setIfInBounds_toArray, List.set_cons_zero, List.set_cons_succ, i64_w, i32_w]
                  rfl
                refine pure_ (i := 8) (N := some 117) (v := ?_) (a' := ?_) #[true, true, true, true, true, true, true, true, true, false, false, false, false, false, false, false, false, false, false, false, false, false, false, false, false, false, false, false, false, false, false, false, false, false] rfl rfl (by kernel_rfl) (fun _ _ _ h => h) (Or.inl ⟨by rfl, ?_⟩) ?_ ?_
                rotate_left
                · intro w'
                  go_simp
                  try with_reducible rfl
                rotate_left
                · simp only [Act.put, List.setIfInBounds_toArray, List.set_cons_zero, List.set_cons_succ, i64_w, i32_w]
                  rfl
                refine take_ (i := 9) (N := some 118) (v := ?_) (a' := ?_) #[true, true, true, true, true, true, true, true, true, true, false, false, false, false, false, false, false, false, false, false, false, false, false, false, false, false, false, false, false, false, false, false, false, false] rfl rfl (by kernel_rfl) (fun _ _ _ h => h) (Or.inl ⟨by rfl, ?_⟩) hHeld ?_ ?_
                rotate_left
                · rintro w' ⟨s0, s1, s2, s3⟩
                  go_simp
                  try with_reducible rfl
                rotate_left
                · simp only [Act.put, List.setIfInBounds_toArray, List.set_cons_zero, List.set_cons_succ, i64_w, i32_w]
                  rfl
                refine pure_ (i := 10) (N := some 119) (v := ?_) (a' := ?_) #[true, true, true, true, true, true, true, true, true, true, true, false, false, false, false, false, false, false, false, false, false, false, false, false, false, false, false, false, false, false, false, false, false, false] rfl rfl (by kernel_rfl) (fun _ _ _ h => h) (Or.inl ⟨by rfl, ?_⟩) ?_ ?_
                rotate_left
                · intro w'
                  go_simp
                  try with_reducible rfl
                rotate_left
                · simp only [Act.put, List.setIfInBounds_toArray, List.set_cons_zero, List.set_cons_succ, i64_w, i32_w]
                  rfl
                refine pure_ (i := 11) (N := some 120) (v := ?_) (a' := ?_) #[true, true, true, true, true, true, true, true, true, true, true, true, false, false, false, false, false, false, false, false, false, false, false, false, false, false, false, false, false, false, false, false, false, false] rfl rfl (by kernel_rfl) (fun _ _ _ h => h) (Or.inl ⟨by rfl, ?_⟩) ?_ ?_
                rotate_left
                · intro w'
                  go_simp
                  try with_reducible rfl
                rotate_left
                · simp only [Act.put, List.setIfInBounds_toArray, List.set_cons_zero, List.set_cons_succ, i64_w, i32_w]
                  rfl
                refine pure_ (i := 12) (N := some 121) (v := ?_) (a' := ?_) #[true, true, true, true, true, true, true, true, true, true, true, true, true, false, false, false, false, false, false, false, false, false, false, false, false, false, false, false, false, false, false, false, false, false] rfl rfl (by kernel_rfl) (fun _ _ _ h => h) (Or.inl ⟨by rfl, ?_⟩) ?_ ?_
                rotate_left
                · intro w'
                  go_simp
                  try with_reducible rfl
                rotate_left
                · simp only [Act.put, List.setIfInBounds_toArray, List.set_cons_zero, List.set_cons_succ, i64_w, i32_w]
                  rfl
                refine pure_ (i := 13) (N := some 122) (v := ?_) (a' := ?_) #[true, true, true, true, true, true, true, true, true, true, true, true, true, true, false, false, false, false, false, false, false, false, false, false, false, false, false, false, false, false, false, false, false, false] rfl rfl (by kernel_rfl) (fun _ _ _ h => h) (Or.inl ⟨by rfl, ?_⟩) ?_ ?_
                rotate_left
                · intro w'
                  go_simp
                  try with_reducible rfl
                rotate_left
                · simp only [Act.put, List.setIfInBounds_toArray, List.set_cons_zero, List.set_cons_succ, i64_w, i32_w]
                  rfl
                refine pure_ (i := 14) (N := some 123) (v := ?_) (a' := ?_) #[true, true, true, true, true, true, true, true, true, true, true, true, true, true, true, false, false, false, false, false, false, false, false, false, false, false, false, false, false, false, false, false, false, false] rfl rfl (by kernel_rfl) (fun _ _ _ h => h) (Or.inl ⟨by rfl, ?_⟩) ?_ ?_
                rotate_left
                · intro w'
                  go_simp
                  try with_reducible rfl
                rotate_left
                · simp only [Act.put, List.setIfInBounds_toArray, List.set_cons_zero, List.set_cons_succ, i64_w, i32_w]
                  rfl
                refine pure_ (i := 15) (N := some 124) (v := ?_) (a' := ?_) #[true, true, true, true, true, true, true, true, true, true, true, true, true, true, true, true, false, false, false, false, false, false, false, false, false, false, false, false, false, false, false, false, false, false] rfl rfl (by kernel_rfl) (fun _ _ _ h => h) (Or.inl ⟨by rfl, ?_⟩) ?_ ?_
                rotate_left
                · intro w'
                  go_simp
                  try with_reducible rfl
                rotate_left
                · simp only [Act.put, List.setIfInBounds_toArray, List.set_cons_zero, List.set_cons_succ, i64_w, i32_w]
                  rfl
                refine pure_ (i := 16) (N := some 125) (v := ?_) (a' := ?_) #[true, true, true, true, true, true, true, true, true, true, true, true, true, true, true, true, true, false, false, false, false, false, false, false, false, false, false, false, false, false, false, false, false, false] rfl rfl (by kernel_rfl) (fun _ _ _ h => h) (Or.inl ⟨by rfl, ?_⟩) ?_ ?_
                rotate_left
                · intro w'
                  go_simp
                  try with_reducible rfl
                rotate_left
                · simp only [Act.put, List.setIfInBounds_toArray, List.set_cons_zero, List.set_cons_succ, i64_w, i32_w]
                  rfl
                refine pure_ (i := 17) (N := some 126) (v := ?_) (a' := ?_) #[true, true, true, true, true, true, true, true, true, true, true, true, true, true, true, true, true, true, false, false, false, false, false, false, false, false, false, false, false, false, false, false, false, false] rfl rfl (by kernel_rfl) (fun _ _ _ h => h) (Or.inl ⟨by rfl, ?_⟩) ?_ ?_
                rotate_left
                · intro w'
                  go_simp
                  try with_reducible rfl
                rotate_left
                · simp only [Act.put, List.setIfInBounds_toArray, List.set_cons_zero, List.set_cons_succ, i64_w, i32_w]
                  rfl
                refine pure_ (i := 18) (N := some 127) (v := ?_) (a' := ?_) #[true, true, true, true, true, true, true, true, true, true, true, true, true, true, true, true, true, true, true, false, false, false, false, false, false, false, false, false, false, false, false, false, false, false] rfl rfl (by kernel_rfl) (fun _ _ _ h => h) (Or.inl ⟨by rfl, ?_⟩) ?_ ?_
                rotate_left
                · intro w'
                  go_simp
                  try with_reducible rfl
                rotate_left
                · simp only [Act.put, List.setIfInBounds_toArray, List.set_cons_zero, List.set_cons_succ, i64_w, i32_w]
                  rfl
                refine take_ (i := 19) (N := some 128) (v := ?_) (a' := ?_) #[true, true, true, true, true, true, true, true, true, true, true, true, true, true, true, true, true, true, true, true, false, false, false, false, false, false, false, false, false, false, false, false, false, false] rfl rfl (by kernel_rfl) (fun _ _ _ h => h) (Or.inl ⟨by rfl, ?_⟩) hHeld ?_ ?_
                rotate_left
                · rintro w' ⟨s0, s1, s2, s3⟩
                  go_simp
                  try with_reducible rfl
                rotate_left
                · simp only [Act.put, List.setIfInBounds_toArray, List.set_cons_zero, List.set_cons_succ, i64_w, i32_w]
                  rfl
                refine pure_ (i := 20) (N := some 129) (v := ?_) (a' := ?_) #[true, true, true, true, true, true, true, true, true, true, true, true, true, true, true, true, true, true, true, true, true, false, false, false, false, false, false, false, false, false, false, false, false, false] rfl rfl (by kernel_rfl) (fun _ _ _ h => h) (Or.inl ⟨by rfl, ?_⟩) ?_ ?_
                rotate_left
                · intro w'
                  go_simp
                  try with_reducible rfl
                rotate_left
                · simp only [Act.put, List.setIfInBounds_toArray, List.set_cons_zero, List.set_cons_succ, i64_w, i32_w]
                  rfl
                refine pure_ (i := 21) (N := some 130) (v := ?_) (a' := ?_) #[true, true, true, true, true, true, true, true, true, true, true, true, true, true, true, true, true, true, true, true, true, true, false, false, false, false, false, false, false, false, false, false, false, false] rfl rfl (by kernel_rfl) (fun _ _ _ h => h) (Or.inl ⟨by rfl, ?_⟩) ?_ ?_
                rotate_left
                · intro w'
                  go_simp
                  try with_reducible rfl
                rotate_left
                · simp only [Act.put, List.setIfInBounds_toArray, List.set_cons_zero, List.set_cons_succ, i64_w, i32_w]
                  rfl
                refine take_ (i := 22) (N := some 131) (v := ?_) (a' := ?_) #[true, true, true, true, true, true, true, true, true, true, true, true, true, true, true, true, true, true, true, true, true, true, true, false, false, false, false, false, false, false, false, false, false, false] rfl rfl (by kernel_rfl) (fun _ _ _ h => h) (Or.inl ⟨by rfl, ?_⟩) hHeld ?_ ?_
                rotate_left
                · rintro w' ⟨s0, s1, s2, s3⟩
                  go_simp
                  try with_reducible rfl
                rotate_left
                · simp only [Act.put, List.setIfInBounds_toArray, List.set_cons_zero, List.set_cons_succ, i64_w, i32_w]
                  rfl
                refine pure_ (i := 23) (N := some 132) (v := ?_) (a' := ?_) #[true, true, true, true, true, true, true, true, true, true, true, true, true, true, true, true, true, true, true, true, true, true, true, true, false, false, false, false, false, false, false, false, false, false] rfl rfl (by kernel_rfl) (fun _ _ _ h => h) (Or.inl ⟨by rfl, ?_⟩) ?_ ?_
                rotate_left
                · intro w'
                  go_simp
                  try with_reducible rfl
                rotate_left
                · simp only [Act.put, List.setIfInBounds_toArray, List.set_cons_zero, List.set_cons_succ, i64_w, i32_w]
                  rfl
                refine pure_ (i := 24) (N := some 133) (v := ?_) (a' := ?_) #[true, true, true, true, true, true, true, true, true, true, true, true, true, true, true, true, true, true, true, true, true, true, true, true, true, false, false, false, false, false, false, false, false, false] rfl rfl (by kernel_rfl) (fun _ _ _ h => h) (Or.inl ⟨by rfl, ?_⟩) ?_ ?_
                rotate_left
                · intro w'
                  go_simp
                  try with_reducible rfl
                rotate_left
                · simp only [Act.put, List.setIfInBounds_toArray, List.set_cons_zero, List.set_cons_succ, i64_w, i32_w]
                  rfl
                refine pure_ (i := 25) (N := some 134) (v := ?_) (a' := ?_) #[true, true, true, true, true, true, true, true, true, true, true, true, true, true, true, true, true, true, true, true, true, true, true, true, true, true, false, false, false, false, false, false, false, false] rfl rfl (by kernel_rfl) (fun _ _ _ h => h) (Or.inl ⟨by rfl, ?_⟩) ?_ ?_
                rotate_left
                · intro w'
                  go_simp
                  try with_reducible rfl
                rotate_left
                · simp only [Act.put, List.setIfInBounds_toArray, List.set_cons_zero, List.set_cons_succ, i64_w, i32_w]
                  rfl
                refine take_ (i := 26) (N := some 135) (v := ?_) (a' := ?_) #[true, true, true, true, true, true, true, true, true, true, true, true, true, true, true, true, true, true, true, true, true, true, true, true, true, true, true, false, false, false, false, false, false, false] rfl rfl (by kernel_rfl) (fun _ _ _ h => h) (Or.inl ⟨by rfl, ?_⟩) hHeld ?_ ?_
                rotate_left
                · rintro w' ⟨s0, s1, s2, s3⟩
                  go_simp
                  try with_reducible rfl
                rotate_left
                · simp only [Act.put, List.setIfInBounds_toArray, List.set_cons_zero, List.set_cons_succ, i64_w, i32_w]
                  rfl
                refine pure_ (i := 27) (N := some 136) (v := ?_) (a' := ?_) #[true, true, true, true, true, true, true, true, true, true, true, true, true, true, true, true, true, true, true, true, true, true, true, true, true, true, true, true, false, false, false, false, false, false] rfl rfl (by kernel_rfl) (fun _ _ _ h => h) (Or.inl ⟨by rfl, ?_⟩) ?_ ?_
                rotate_left
                · intro w'
                  go_simp
                  try with_reducible rfl
                rotate_left
                · simp only [Act.put, List.setIfInBounds_toArray, List.set_cons_zero, List.set_cons_succ, i64_w, i32_w]
                  rfl
                refine pure_ (i := 28) (N := some 137) (v := ?_) (a' := ?_) #[true, true, true, true, true, true, true, true, true, true, true, true, true, true, true, true, true, true, true, true, true, true, true, true, true, true, true, true, true, false, false, false, false, false] rfl rfl (by kernel_rfl) (fun _ _ _ h => h) (Or.inl ⟨by rfl, ?_⟩) ?_ ?_
                rotate_left
                · intro w'
                  go_simp
                  try with_reducible rfl
                rotate_left
                · simp only [Act.put, List.setIfInBounds_toArray, List.set_cons_zero, List.set_cons_succ, i64_w, i32_w]
                  rfl
                refine pure_ (i := 29) (N := some 138) (v := ?_) (a' := ?_) #[true, true, true, true, true, true, true, true, true, true, true, true, true, true, true, true, true, true, true, true, true, true, true, true, true, true, true, true, true, true, false, false, false, false] rfl rfl (by kernel_rfl) (fun _ _ _ h => h) (Or.inl ⟨by rfl, ?_⟩) ?_ ?_
                rotate_left
                · intro w'
                  go_simp
                  try with_reducible rfl
                rotate_left
                · simp only [Act.put, List.setIfInBounds_toArray, List.set_cons_zero, List.set_cons_succ, i64_w, i32_w]
                  rfl
                refine take_ (i := 30) (N := some 139) (v := ?_) (a' := ?_) #[true, true, true, true, true, true, true, true, true, true, true, true, true, true, true, true, true, true, true, true, true, true, true, true, true, true, true, true, true, true, true, false, false, false] rfl rfl (by kernel_rfl) (fun _ _ _ h => h) (Or.inl ⟨by rfl, ?_⟩) hHeld ?_ ?_
                rotate_left
                · rintro w' ⟨s0, s1, s2, s3⟩
                  go_simp
                  try with_reducible rfl
                rotate_left
                · simp only [Act.put, List.setIfInBounds_toArray, List.set_cons_zero, List.set_cons_succ, i64_w, i32_w]
                  rfl
                refine pure_ (i := 31) (N := some 140) (v := ?_) (a' := ?_) #[true, true, true, true, true, true, true, true, true, true, true, true, true, true, true, true, true, true, true, true, true, true, true, true, true, true, true, true, true, true, true, true, false, false] rfl rfl (by kernel_rfl) (fun _ _ _ h => h) (Or.inl ⟨by rfl, ?_⟩) ?_ ?_
                rotate_left
                · intro w'
                  go_simp
                  try with_reducible rfl
                rotate_left
                · simp only [Act.put, List.setIfInBounds_toArray, List.set_cons_zero, List.set_cons_succ, i64_w, i32_w]
                  rfl
                refine pure_ (i := 32) (N := some 141) (v := ?_) (a' := ?_) #[true, true, true, true, true, true, true, true, true, true, true, true, true, true, true, true, true, true, true, true, true, true, true, true, true, true, true, true, true, true, true, true, true, false] rfl rfl (by kernel_rfl) (fun _ _ _ h => h) (Or.inl ⟨by rfl, ?_⟩) ?_ ?_
                rotate_left
                · intro w'
                  go_simp
                  try with_reducible rfl
                rotate_left
                · simp only [Act.put, List.setIfInBounds_toArray, List.set_cons_zero, List.set_cons_succ, i64_w, i32_w]
                  rfl
                refine pure_ (i := 33) (N := some 142) (v := ?_) (a' := ?_) #[true, true, true, true, true, true, true, true, true, true, true, true, true, true, true, true, true, true, true, true, true, true, true, true, true, true, true, true, true, true, true, true, true, true] rfl rfl (by kernel_rfl) (fun _ _ _ h => h) (Or.inl ⟨by rfl, ?_⟩) ?_ ?_
                rotate_left
                · intro w'
                  go_simp
                  try with_reducible rfl
                rotate_left
                · simp only [Act.put, List.setIfInBounds_toArray, List.set_cons_zero, List.set_cons_succ, i64_w, i32_w]
                  rfl
                refine done_ (by kernel_rfl) ?_
                go_wp2
                go_roundw
                case rel => exact ⟨k1 + 1, by go_num, by omega, ⟨hJf.out.drew⟩⟩
                case measure => have := hk1'.out; simp [RowKit.intOf]; omega
            · have hkb : decide ((k : Int) < (row.length : Int)) = false := decide_eq_false (by omega)
              go_wp2
              go_roundw
              case rel => exact ⟨i + 1, T1, rfl, by go_num, by omega, hTn, hJk⟩
              case measure => simp [RowKit.intOf]; omega
        · have hltb : decide ((i : Int) < (N : Int)) = false := decide_eq_false (by omega)
          obtain rfl : T = 0 := by
            have h1 := hT.out
            have h2 := hall'.out.sum
            rw [List.take_of_length_le (by have := hall'.out.len; omega)] at h1
            omega
          have hBr := hJ.out.below
          go_wp2
          go_ret
          exact ⟨rfl, hBr⟩
end Go.Proofs.Yteeapfmgdlcgfaa.A

