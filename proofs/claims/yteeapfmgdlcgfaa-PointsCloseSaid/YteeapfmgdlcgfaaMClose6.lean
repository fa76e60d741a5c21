/- Parts of the proof, in the order in which they rest on one another. -/
import Derived.Test.YteeapfmgdlcgfaaMClose5
import Derived.Below
import Derived.Deep.Draws
import Derived.Deep.AppendLies
import Derived.Maps.AppendAt
import Derived.OwnWalk
import Derived.Laws.BytesArg
import Derived.Laws.MakeOwn
import Derived.Laws.OwnMore
import Derived.Deep.OwnRows
import Derived.Tactics
import Derived.Lib.ConvBytes
import Derived.Laws.Slices
import Derived.WalkKit
import Derived.KernelRfl
import Derived.RowKit3
import Derived.Deep.LoopGhost
import Derived.Deep.QuietTactic
import Derived.BigQuiet
import Derived.WideLaws
import Derived.Deep.DeepCutAuto
import Derived.Deep.CutBlock
import Derived.Deep.RegionHeld3
import Derived.Laws.Rows
import Derived.Lib.AppendStr
import Derived.ArgAppend
import Derived.Laws.IdiomCopy
import Derived.RowKit
import Derived.OrdersHeld
import Derived.Laws.BitsLemmas
import Derived.Laws.StructEq
import Derived.Test.YteeapfmgdlcgfaaProg
import Derived.Maps.Own
import Derived.Maps.OwnOps
import Derived.Maps.OwnSet
import Derived.Maps.Views
import Derived.WideKeyEntry
import Derived.RangeFuncWrites
import Derived.Lib.SlKeysI
import Derived.Shelf.SlIterI.Stops
import Derived.Shelf.SlIterI.Nil
import Derived.Shelf.SortM.Plain
import Derived.Shelf.SortM.SortNone
import Derived.Shelf.SlMaps.Clone
import Derived.Ground.GgzProg
import Derived.Ground.SlgmProg
import Derived.Ground.SlmcProg
import Derived.Shelf.SlGeneric
import Derived.RangeFuncLeaves
import Derived.RangeFuncCalls
import Derived.RangeFuncBox
import Derived.OwnWalkIn
import Derived.TacticsInMore
import Derived.LoopNIn
import Derived.LoopIn
import Derived.Maps.OwnIn
import Derived.Shelf.RegionOpen
import Derived.OpenShut
import Derived.Deep.Slices
import Derived.ChangeArms
import Derived.Maps.StringElems
import Derived.Sort.MapsRangeIn
import Derived.StringKeys
import Derived.Shelf.SlIter.Stops
import Derived.RangeFuncNested
import Derived.RangeFuncRecord
import Derived.Maps.RangeWalk
import Derived.OrdersIn
import Derived.TacticsIn
import Derived.LoopN
import Derived.Lib.SliceRun
import Derived.Outline
import Derived.SizedLaws
namespace Go.Proofs.Yteeapfmgdlcgfaa.A
open Go.RowKit Go.Maps Go.Proofs.YteeapfmgdlcgfaaW.PrintWords Go.Proofs.YteeapfmgdlcgfaaW.PrintLast Go.Proofs.YteeapfmgdlcgfaaW.PrintMore Go.Shelf
set_option linter.unusedVariables false
set_option linter.unusedSimpArgs false
attribute [local go_sem] Oper.semAt_some

def z62 : S3 := ⟨(0 : Int), (0 : Int), (0 : Int)⟩
def k62 : Kd S3 := Kd.iso (Kd.pair (Kd.int .i64) (Kd.pair (Kd.int .i64) (Kd.int .i64))) (fun x : S3 => (x.f, x.a, x.d))
theorem k62_open {w : World} {x : S3} {cs : List Value} (h : k62.K w x cs) : cs = [.int .i64 x.f, .int .i64 x.a, .int .i64 x.d] := by
  obtain ⟨_, _, rfl, rfl, ⟨_, _, rfl, rfl, rfl⟩⟩ := h
  exact rfl
theorem k62_mkM (w : World) (base : Nat) (ok : Nat → Prop) (x : S3) : k62.M w base ok x [.int .i64 x.f, .int .i64 x.a, .int .i64 x.d] := ⟨[.int .i64 x.f], [.int .i64 x.a, .int .i64 x.d], rfl, rfl, ⟨[.int .i64 x.a], [.int .i64 x.d], rfl, rfl, rfl⟩⟩
theorem info62 : (Try.prog.info? 62).map (fun i => (i.zero, i.size, i.bytes)) = some (some (.agg #[.int .i64 0, .int .i64 0, .int .i64 0]), 3, 24) := by kernel_rfl
def rd_T62 (xs : List S3) (i : Int) : S3 := xs.getD i.toNat z62
theorem at_T62 {w : World} {A : Option Addr} {n : Nat} {xs : List S3} (h : Kd.C k62 w A n xs) (i : Int) (h0 : 0 ≤ i) (h1 : i < n) : ∃ ad , A = some ad ∧ w.cell? (ad.add (i.toNat * 3)) = some (.int .i64 (rd_T62 xs i).f) ∧ w.cell? ⟨(ad.add (i.toNat * 3)).block, (ad.add (i.toNat * 3)).off + 1, none⟩ = some (.int .i64 (rd_T62 xs i).a) ∧ w.cell? ⟨(ad.add (i.toNat * 3)).block, (ad.add (i.toNat * 3)).off + 2, none⟩ = some (.int .i64 (rd_T62 xs i).d) := by
  obtain ⟨ad, c, e, _, hK, hc0⟩ := Kd.C_get h z62 i h0 h1
  have hc : ∀ j u, c[j]? = some u → w.cell? (ad.add (i.toNat * 3 + j)) = some u := hc0
  obtain rfl := k62_open hK
  exact ⟨ad, e, hc 0 _ rfl, by rw [← add_field _ _ 1 (by omega)]; exact hc 1 _ rfl, by rw [← add_field _ _ 2 (by omega)]; exact hc 2 _ rfl⟩
/-- the cells so far -/
structure CL (l : List S52) (w5 : World) (v : Value) (cs : List S3) (W : World) : Prop where
  below : Below w5.heap.size w5 W
  own : Kd.R k62 62 W w5.heap.size (fun _ => True) v cs
  ok : ∀ c ∈ cs, CellOk l c
section
variable {l : List S52} {w5 W W' : World} {v : Value} {cs : List S3}
theorem CL.start (l : List S52) (w5 : World) : CL l w5 (.slice none 0 0) [] w5 := ⟨Below.refl _ _, Kd.R_nil _ _ _ _ _, by simp⟩
theorem CL.step (h : CL l w5 v cs W) (hb : Below W.heap.size W W') : CL l w5 v cs W' := ⟨h.below.trans (hb.mono h.below.size), Kd.R_below h.own hb, h.ok⟩
end
set_option maxRecDepth 100000 in
set_option maxHeartbeats 8000000 in
theorem law_close (A2 : Option Addr) (c2 : Nat) (l : List S52) (w : World) (hC2 : Kd.C k52 w A2 l.length l) (hc2 : l.length ≤ c2) (hLB : LenB l) :
    Calls Try.prog 6 #[.slice A2 l.length c2] w fun e w' => e = .returned (.bool true) ∧ Below w.heap.size w w' := by
  have hmix : Try.prog.follows .mixedOrders = true := by kernel_rfl
  have hu52 := Try.underlying52
  have hu55 := Try.underlying55
  have hu57 := Try.underlying57
  have hu60 := Try.underlying60
  have hu62 := Try.underlying62
  have hsm := smallp_calls w
  obtain ⟨b, hev, hg⟩ := few_ev hLB
  obtain ⟨K25, hK25⟩ := hev.get
  have h25 : Aside0 (∀ w1, Below w.heap.size w w1 → Calls Try.prog 25 #[.slice A2 l.length c2] w1 fun e w' => e = .returned (.bool b) ∧ Below w1.heap.size w1 w') := ⟨fun w1 hb => swagelaw20_few.calls K25 A2 c2 l b w1 (Kd.C_below hC2 hb) hc2 hK25⟩
  clear hev hK25 hLB
  cases b with
  | false =>
    clear hg hC2
    go_enter Try.func6, Try.ntmps6
    go_wp2_with fail
    refine hsm.mono ?_
    rintro e w1 ⟨rfl, hb1⟩
    have h25' := h25.out w1 hb1
    clear hsm
    go_wp2_with fail
    refine h25'.mono ?_
    rintro e w2 ⟨rfl, hb2⟩
    have hb3 := below_step hb1 hb2
    clear h25' h25 hb2 hb1
    go_wp2
    go_ret
    exact ⟨rfl, hb3⟩
  | true =>
  have hg := hg rfl
  have h27 : Aside0 (∀ w1, Below w.heap.size w w1 → Calls Try.prog 27 #[.slice A2 l.length c2] w1 fun e w' => e = .returned (.bool (progB l)) ∧ Below w1.heap.size w1 w') := ⟨fun w1 hb => prog_calls A2 c2 l w1 (Kd.C_below hC2 hb) hg.sz⟩
  by_cases hp : progB l = false
  · have h26 : Aside0 (∀ w1, Below w.heap.size w w1 → Calls Try.prog 26 #[.slice A2 l.length c2] w1 fun e w' => e = .returned (.slice none 0 0) ∧ Below w1.heap.size w1 w') := ⟨fun w1 hb => of_no A2 c2 l w1 (Kd.C_below hC2 hb) hg.sz hp⟩
    rw [hp] at h27
    clear hg hC2 hp
    go_enter Try.func6, Try.ntmps6
    go_wp2_with fail
    refine hsm.mono ?_
    rintro e w1 ⟨rfl, hb1⟩
    have h25' := h25.out w1 hb1
    clear hsm
    go_wp2_with fail
    refine h25'.mono ?_
    rintro e w2 ⟨rfl, hb2⟩
    have hb3 := below_step hb1 hb2
    have h26' := h26.out w2 hb3
    clear h25' h25 hb2 hb1 h26
    go_wp2_with fail
    refine h26'.mono ?_
    rintro e w4 ⟨rfl, hb4⟩
    have hb5 := below_step hb3 hb4
    have h27' := h27.out w4 hb5
    clear h26' h27 hb3 hb4
    go_wp2_with fail
    refine h27'.mono ?_
    rintro e w6 ⟨rfl, hb6⟩
    have hb7 := below_step hb5 hb6
    clear h27' hb5 hb6
    go_wp2
    go_ret
    exact ⟨rfl, hb7⟩
  have hp : progB l = true := by simpa using hp
  rw [hp] at h27
  have h26 : Aside0 (∀ w1, Below w.heap.size w w1 → Calls Try.prog 26 #[.slice A2 l.length c2] w1 fun e w' => ∃ A' c' rows, e = .returned (.slice A' rows.length c') ∧ rows.length ≤ c' ∧ Kd.C (Kd.slice 3 (Kd.int .i64)) w' A' rows.length rows ∧ PC l rows ∧ Below w1.heap.size w1 w') := ⟨fun w1 hb => by
    have hl := hg.len
    refine (of_yes A2 c2 l w1 (Kd.C_below hC2 hb) hg.sz (hg.few hp) (named_of hp (by omega)) hp).mono ?_
    rintro e w' ⟨v, E, key, rfl, h⟩
    obtain ⟨A', c', rfl, h4, h5⟩ := Kd.S_reads h.out
    exact ⟨A', c', _, rfl, h4, h5, pc_of h hp (by omega), h.bl⟩⟩
  have hargs0 : Aside0 (∀ (i : Nat) (y : S52), l[i]? = some y → ∀ z ∈ y.f1, ∀ x ∈ z.f0, ∀ a ∈ x.f5, x.f0 = 7) := ⟨fun i y hy z hz x hx a ha => ((ranges_of hp (by have := hg.len; omega) hy hz hx).args a ha).1⟩
  have hg' := Aside0.mk hg
  have hC2' := Aside0.mk hC2
  obtain ⟨N0, hN0⟩ : ∃ N0, l.length = N0 := ⟨_, rfl⟩
  have hN06 : N0 ≤ 6 := by rw [← hN0]; exact hg.len
  rw [hN0] at h25 h26 h27 hC2' ⊢
  have hN0' := Aside0.mk hN0
  clear hg hC2 hp hc2 hN0
  go_enter Try.func6, Try.ntmps6
  go_wp2_with fail
  refine hsm.mono ?_
  rintro e w1 ⟨rfl, hb1⟩
  have h25' := h25.out w1 hb1
  clear hsm
  go_wp2_with fail
  refine h25'.mono ?_
  rintro e w2 ⟨rfl, hb2⟩
  have hb3 := below_step hb1 hb2
  have h26' := h26.out w2 hb3
  clear h25' h25 hb2 hb1 h26
  go_wp2_with fail
  refine h26'.mono ?_
  rintro e w4 ⟨Ap, cp, rows, rfl, hcp, hCp, hPC, hb4⟩
  have hb5 := below_step hb3 hb4
  have h27' := h27.out w4 hb5
  clear h26' h27 hb3 hb4
  go_wp2_with fail
  refine h27'.mono ?_
  rintro e w5 ⟨rfl, hb6⟩
  have hB5 := Aside0.mk (below_step hb5 hb6)
  have hal : Aside0 (∀ (a1 a2 a3 a4 : Int) (r : Bool) (W : World), Below w5.heap.size w5 W → points_Alike.f rows a1 a2 a3 a4 = some r → Calls Try.prog 28 #[.slice Ap rows.length cp, .int .i64 a1, .int .i64 a2, .int .i64 a3, .int .i64 a4] W fun e w' => e = .returned (.bool r) ∧ Drawn0 W w') := ⟨fun a1 a2 a3 a4 r W hW h => points_Alike.calls Ap cp rows a1 a2 a3 a4 r W (Kd.C_below (Kd.C_below hCp hb6) hW) hcp h⟩
  have hPC' := Aside0.mk hPC
  obtain ⟨NR, hNR⟩ : ∃ NR, rows.length = NR := ⟨_, rfl⟩
  rw [hNR] at hal ⊢
  clear h27' hb5 hb6 hCp hcp hPC hNR
  go_wp2
  go_loopw [6, 7] (fun v6 v7 wr => ∃ (vc : Value) (i : Nat), vc = v6 ∧ v7 = .int .i64 i ∧ i ≤ N0 ∧ Aside0 (∃ cs, cs.length ≤ 10000 * i ∧ CL l w5 vc cs wr)) (fun _ v7 _ => N0 - (RowKit.intOf v7).toNat)
  case atStart => exact ⟨_, 0, rfl, rfl, by omega, ⟨[], by simp, CL.start l w5⟩⟩
  case round =>
    obtain ⟨vc, i, rfl, rfl, hi, hrel⟩ := hrel
    by_cases hil : i < N0
    · have hib : decide ((i : Int) < (N0 : Int)) = true := decide_eq_true (by omega)
      have hpm : (0 : Int) ≤ (i : Int) := by omega
      have hqm : (i : Int) < (N0 : Int) := by omega
      obtain ⟨ad0, A3, c3, e0, g0, g1, hc3, hCb⟩ := at_T52 hC2'.out (i : Int) hpm hqm
      subst e0
      rw [Int.toNat_natCast] at g0 g1
      have hy : Aside0 (l[i]? = some (rd_T52 l (i : Int))) := ⟨by have := hN0'.out; unfold rd_T52; rw [List.getElem?_eq_getElem (by omega)]; simp [List.getD_eq_getElem?_getD, (by omega : i < l.length)]⟩
      generalize rd_T52 l (i : Int) = y at g0 g1 hy hCb hc3
      have hfb := Aside0.mk (hg'.out.fb y (List.mem_of_getElem? hy.out))
      obtain ⟨nb, hnb⟩ : ∃ nb, y.f1.length = nb := ⟨_, rfl⟩
      have hnb40 : nb ≤ 40 := by rw [← hnb]; exact hfb.out.len
      rw [hnb] at g1 hCb
      have g1' := Aside0.mk g1
      have hCb' := Aside0.mk hCb
      have hnb' := Aside0.mk hnb
      clear g0 g1 hCb hc3 hnb
      have hst := Aside0.mk (show ∃ cs : List S3, cs.length ≤ 10000 * i + 250 * 0 ∧ CL l w5 vc cs wr from hrel.out)
      clear hrel
      go_wp2
      go_loopw [6, 8] (fun v6 v8 wr => ∃ (vc : Value) (b : Nat), vc = v6 ∧ v8 = .int .i64 b ∧ b ≤ nb ∧ Aside0 (∃ cs, cs.length ≤ 10000 * i + 250 * b ∧ CL l w5 vc cs wr)) (fun _ v8 _ => nb - (RowKit.intOf v8).toNat)
      case atStart => exact ⟨_, 0, rfl, rfl, by omega, hst⟩
      case round =>
        clear hst
        obtain ⟨vc, b, rfl, rfl, hb, hrel⟩ := hrel
        have hBw : Aside0 (Below w.heap.size w wr) := ⟨by obtain ⟨cs, _, h⟩ := hrel.out; exact below_step hB5.out h.below⟩
        have y1 := pw_cell_below hBw.out g1'.out
        by_cases hbl : b < nb
        · have hbb : decide ((b : Int) < (nb : Int)) = true := decide_eq_true (by omega)
          have hpb : (0 : Int) ≤ (b : Int) := by omega
          have hqb : (b : Int) < (nb : Int) := by omega
          obtain ⟨ad3, A4, c4, e3, t0, t1, t2, t3, t4, hc4, hCo⟩ := at_T57 hCb'.out (b : Int) hpb hqb
          subst e3
          rw [Int.toNat_natCast] at t0 t1 t2 t3 t4
          have hz : Aside0 (y.f1[b]? = some (rd_T57 y.f1 (b : Int))) := ⟨by have := hnb'.out; unfold rd_T57; rw [List.getElem?_eq_getElem (by omega)]; simp [List.getD_eq_getElem?_getD, (by omega : b < y.f1.length)]⟩
          generalize rd_T57 y.f1 (b : Int) = z at t0 t1 t2 t3 t4 hz hCo hc4
          have hzm := Aside0.mk (List.mem_of_getElem? hz.out)
          obtain ⟨nk, hnk⟩ : ∃ nk, z.f0.length = nk := ⟨_, rfl⟩
          have hnk250 : nk ≤ 250 := by rw [← hnk]; exact hfb.out.op z hzm.out
          rw [hnk] at t0 hCo
          have t0' := Aside0.mk t0
          have hCo' := Aside0.mk hCo
          have hnk' := Aside0.mk hnk
          have u0 := pw_cell_below hBw.out t0
          have u1 := pw_cell_below hBw.out t1
          have u2 := pw_cell_below hBw.out t2
          have u3 := pw_cell_below hBw.out t3
          have u4 := pw_cell_below hBw.out t4
          clear t0 t1 t2 t3 t4 hc4 hCo hnk
          obtain ⟨wt, hwt⟩ : ∃ wt, wr.alloc (.cells #[.int .i64 z.f1.f0, .int .i64 z.f1.f1, .int .i64 z.f1.f2, .int .i64 z.f1.f3] 55) = wt := ⟨_, rfl⟩
          have hbt : Aside0 (Below wr.heap.size wr wt) := ⟨by rw [← hwt]; exact below_alloc (Below.refl _ _) _⟩
          have k0 : wt.cell? ⟨wr.heap.size, 0, none⟩ = some (.int .i64 z.f1.f0) := by rw [← hwt]; simp [go_sem]
          have k1 : wt.cell? ⟨wr.heap.size, 1, none⟩ = some (.int .i64 z.f1.f1) := by rw [← hwt]; simp [go_sem]
          have hst := Aside0.mk (show ∃ cs : List S3, cs.length ≤ 10000 * i + 250 * b + 0 ∧ CL l w5 vc cs wt by obtain ⟨cs, h1, h2⟩ := hrel.out; exact ⟨cs, h1, h2.step hbt.out⟩)
          clear hrel
          by_cases h3 : z.f1.f0 = 3
          · have h3b : (z.f1.f0 == 3) = true := by rw [h3]; rfl
            have hA := hal.out i z.f1.f1 i 0 true wt (by obtain ⟨cs, _, h⟩ := hst.out; exact h.below) (hPC'.out.term i y hy.out z hzm.out h3)
            clear h3
            go_wp2_with (go_at_call 28; refine hA.mono ?_; rintro e w9 ⟨rfl, ⟨nd9, rfl⟩⟩)
            clear hA h3b k0 k1 u0 u1 u2 u3 u4 y1 hwt
            have hst9 := Aside0.mk (show ∃ cs : List S3, cs.length ≤ 10000 * i + 250 * b + 0 ∧ CL l w5 vc cs (wt.drewN nd9) by obtain ⟨cs, h1, h2⟩ := hst.out; exact ⟨cs, h1, h2.step (drawn0_below ⟨nd9, rfl⟩ _)⟩)
            clear hst hbt hBw
            go_loopw [6, 10] (fun v6 v10 wr => ∃ (vc : Value) (k : Nat), vc = v6 ∧ v10 = .int .i64 k ∧ k ≤ nk ∧ Aside0 (∃ cs, cs.length ≤ 10000 * i + 250 * b + k ∧ CL l w5 vc cs wr)) (fun _ v10 _ => nk - (RowKit.intOf v10).toNat)
            case atStart => exact ⟨_, 0, rfl, rfl, by omega, hst9⟩
            case round =>
              clear hst9
              obtain ⟨vc, k, rfl, rfl, hk, hrel⟩ := hrel
              have hBw : Aside0 (Below w.heap.size w wr) := ⟨by obtain ⟨cs, _, h⟩ := hrel.out; exact below_step hB5.out h.below⟩
              have y1 := pw_cell_below hBw.out g1'.out
              have u0 := pw_cell_below hBw.out t0'.out
              by_cases hkl : k < nk
              · have hkb : decide ((k : Int) < (nk : Int)) = true := decide_eq_true (by omega)
                have hpk : (0 : Int) ≤ (k : Int) := by omega
                have hqk : (k : Int) < (nk : Int) := by omega
                obtain ⟨ad4, A5, c5, e4, s0, s1, s2, s3, s4, s5, hc5, hCa⟩ := at_T60 hCo'.out (k : Int) hpk hqk
                subst e4
                rw [Int.toNat_natCast] at s0 s1 s2 s3 s4 s5
                have hx : Aside0 (z.f0[k]? = some (rd_T60 z.f0 (k : Int))) := ⟨by have := hnk'.out; unfold rd_T60; rw [List.getElem?_eq_getElem (by omega)]; simp [List.getD_eq_getElem?_getD, (by omega : k < z.f0.length)]⟩
                generalize rd_T60 z.f0 (k : Int) = x at s0 s1 s2 s3 s4 s5 hx hCa hc5
                have hxm := Aside0.mk (List.mem_of_getElem? hx.out)
                have hx20 : x.f5.length ≤ 20 := hfb.out.ar z hzm.out x hxm.out
                have hCa' := Aside0.mk hCa
                have v0 := pw_cell_below hBw.out s0
                have v1 := pw_cell_below hBw.out s1
                have v2 := pw_cell_below hBw.out s2
                have v3 := pw_cell_below hBw.out s3
                have v4 := pw_cell_below hBw.out s4
                have v5 := pw_cell_below hBw.out s5
                clear s0 s1 s2 s3 s4 s5 hc5 hCa
                obtain ⟨cs, hcs, hCL⟩ := hrel.out
                obtain ⟨g, hg⟩ : ∃ g, wr.heap.size = g := ⟨_, rfl⟩
                obtain ⟨n5, hn5⟩ : ∃ n5, x.f5.length = n5 := ⟨_, rfl⟩
                rw [hn5] at v5 hCa' hx20
                obtain ⟨wo, hwo⟩ : ∃ wo, wr.alloc (.cells #[.int .i64 x.f0, .int .i64 x.f1, .int .i64 x.f2, .int .i64 x.f3, .int .i64 x.f4, .slice A5 n5 c5] 60) = wo := ⟨_, rfl⟩
                have hbo : Aside0 (Below wr.heap.size wr wo) := ⟨by rw [← hwo]; exact below_alloc (Below.refl _ _) _⟩
                have hCLo := Aside0.mk (hCL.step hbo.out)
                have hblk : Aside0 (wo.heap[g]? = some (.cells #[.int .i64 x.f0, .int .i64 x.f1, .int .i64 x.f2, .int .i64 x.f3, .int .i64 x.f4, .slice A5 n5 c5] 60 (0, 0))) := ⟨by rw [← hwo, ← hg]; exact World.alloc_heap_new wr _⟩
                have hBo := Aside0.mk (below_step hBw.out hbo.out)
                have x0 : wo.cell? ⟨g, 0, none⟩ = some (.int .i64 x.f0) := by rw [cell_in hblk.out]; rfl
                have x1 : wo.cell? ⟨g, 1, none⟩ = some (.int .i64 x.f1) := by rw [cell_in hblk.out]; rfl
                have x2 : wo.cell? ⟨g, 2, none⟩ = some (.int .i64 x.f2) := by rw [cell_in hblk.out]; rfl
                have x3 : wo.cell? ⟨g, 3, none⟩ = some (.int .i64 x.f3) := by rw [cell_in hblk.out]; rfl
                have x4 : wo.cell? ⟨g, 4, none⟩ = some (.int .i64 x.f4) := by rw [cell_in hblk.out]; rfl
                have x5 : wo.cell? ⟨g, 5, none⟩ = some (.slice A5 n5 c5) := by rw [cell_in hblk.out]; rfl
                have hn5' := Aside0.mk hn5
                have hcs' := Aside0.mk hcs
                clear hCL hrel hbo hcs hn5
                have hnoargs : Aside0 (x.f0 ≠ 7 → x.f5.length = 0) := ⟨fun h7 => by
                  have hr := hargs0.out i y hy.out z hzm.out x hxm.out
                  cases hx5 : x.f5 with
                  | nil => rfl
                  | cons a tl => exact absurd (hr a (by rw [hx5]; simp)) h7⟩
                by_cases n3 : x.f0 = 3
                · have hkind := n3
                  clear n3
                  have h3b : (x.f0 == 3) = true := by rw [hkind]; rfl
                  have h2b : (x.f0 == 2) = false := by rw [hkind]; rfl
                  have h7b : (x.f0 == 7) = false := by rw [hkind]; rfl
                  have h4b : (x.f0 == 4) = false := by rw [hkind]; rfl
                  have h5b : (x.f0 == 5) = false := by rw [hkind]; rfl
                  have hfA := hPC'.out.opA i y hy.out z hzm.out x hxm.out (.inl hkind)
                  have hn0 : Aside0 (n5 = 0) := ⟨by rw [← hn5'.out]; exact hnoargs.out (by omega)⟩
                  have hfA' := Aside0.mk (fun W hW => hal.out (i : Int) x.f1 (i : Int) x.f2 true W hW hfA)
                  clear hkind hfA
                  as_aux_lemma =>
                    go_wp2_with (first | (go_at_call 28; refine (hfA'.out _ hCLo.out.below).mono ?_; clear hfA'; rintro e w9 ⟨rfl, hd9⟩; replace x0 := pw_cell_below (drawn0_below hd9 _) x0; replace x1 := pw_cell_below (drawn0_below hd9 _) x1; replace x2 := pw_cell_below (drawn0_below hd9 _) x2; replace x3 := pw_cell_below (drawn0_below hd9 _) x3; replace x4 := pw_cell_below (drawn0_below hd9 _) x4; replace hBo := Aside0.mk (below_step hBo.out (drawn0_below hd9 _)); replace hCLo := Aside0.mk (hCLo.out.step (drawn0_below hd9 _)); replace hblk := Aside0.mk (((drawn0_below hd9 _).block g (Array.getElem?_eq_some_iff.1 hblk.out).1).trans hblk.out); clear hd9))
                    have hOB := Aside0.mk (show CL l w5 vc cs _ ∧ _ ∧ _ from ⟨hCLo.out, hblk.out, hBo.out⟩)
                    clear hCLo hblk hBo x0 x1 x2 x3 x4 x5 y1 u0 v0 v1 v2 v3 v4 v5
                    go_loopw [13] (fun v13 wr => ∃ (j : Nat), v13 = .int .i64 j ∧ j ≤ n5 ∧ Aside0 (CL l w5 vc cs wr ∧ wr.heap[g]? = some (.cells #[.int .i64 x.f0, .int .i64 x.f1, .int .i64 x.f2, .int .i64 x.f3, .int .i64 x.f4, .slice A5 n5 c5] 60 (0, 0)) ∧ Below w.heap.size w wr)) (fun v13 _ => n5 - (RowKit.intOf v13).toNat)
                    case atStart => exact ⟨0, rfl, by omega, hOB⟩
                    case round =>
                      clear hOB
                      obtain ⟨j, rfl, hj, hrel⟩ := hrel
                      have hCLj := Aside0.mk hrel.out.1
                      have hblkj := Aside0.mk hrel.out.2.1
                      have hBj := Aside0.mk hrel.out.2.2
                      clear hrel
                      have x0 : wr.cell? ⟨g, 0, none⟩ = some (.int .i64 x.f0) := by rw [cell_in hblkj.out]; rfl
                      have x1 : wr.cell? ⟨g, 1, none⟩ = some (.int .i64 x.f1) := by rw [cell_in hblkj.out]; rfl
                      have x2 : wr.cell? ⟨g, 2, none⟩ = some (.int .i64 x.f2) := by rw [cell_in hblkj.out]; rfl
                      have x3 : wr.cell? ⟨g, 3, none⟩ = some (.int .i64 x.f3) := by rw [cell_in hblkj.out]; rfl
                      have x4 : wr.cell? ⟨g, 4, none⟩ = some (.int .i64 x.f4) := by rw [cell_in hblkj.out]; rfl
                      have x5 : wr.cell? ⟨g, 5, none⟩ = some (.slice A5 n5 c5) := by rw [cell_in hblkj.out]; rfl
                      have hjl : ¬ j < n5 := by have := hn0.out; omega
                      have hjb : decide ((j : Int) < (n5 : Int)) = false := decide_eq_false (by omega)
                      go_wp2
                      go_roundw
                      case rel => exact ⟨_, k + 1, rfl, by go_num, by omega, ⟨_, by have := hcs'.out; omega, hCLj.out⟩⟩
                      case measure => simp [RowKit.intOf]; omega
                by_cases n2 : x.f0 = 2
                · have hkind := n2
                  clear n3 n2
                  by_cases m1 : x.f4 = 1
                  · have himm := m1
                    clear m1
                    have h3b : (x.f0 == 3) = false := by rw [hkind]; rfl
                    have h2b : (x.f0 == 2) = true := by rw [hkind]; rfl
                    have h7b : (x.f0 == 7) = false := by rw [hkind]; rfl
                    have h4b : (x.f0 == 4) = false := by rw [hkind]; rfl
                    have h5b : (x.f0 == 5) = false := by rw [hkind]; rfl
                    have i1b : (x.f4 == 1) = true := by rw [himm]; rfl
                    have i2b : (x.f4 == 2) = false := by rw [himm]; rfl
                    have hfA := hPC'.out.opA i y hy.out z hzm.out x hxm.out (.inr ⟨hkind, .inl himm⟩)
                    have hfB := hPC'.out.opB i y hy.out z hzm.out x hxm.out ⟨hkind, .inl himm⟩
                    have hn0 : Aside0 (n5 = 0) := ⟨by rw [← hn5'.out]; exact hnoargs.out (by omega)⟩
                    have hfA' := Aside0.mk (fun W hW => hal.out (i : Int) x.f1 (i : Int) x.f2 true W hW hfA)
                    have hfB' := Aside0.mk (fun W hW => hal.out (i : Int) x.f1 (i : Int) x.f3 true W hW hfB)
                    clear hkind himm hfA hfB
                    as_aux_lemma =>
                      go_wp2_with (first | (go_at_call 28; refine (hfA'.out _ hCLo.out.below).mono ?_; clear hfA'; rintro e w9 ⟨rfl, hd9⟩; replace x0 := pw_cell_below (drawn0_below hd9 _) x0; replace x1 := pw_cell_below (drawn0_below hd9 _) x1; replace x2 := pw_cell_below (drawn0_below hd9 _) x2; replace x3 := pw_cell_below (drawn0_below hd9 _) x3; replace x4 := pw_cell_below (drawn0_below hd9 _) x4; replace hBo := Aside0.mk (below_step hBo.out (drawn0_below hd9 _)); replace hCLo := Aside0.mk (hCLo.out.step (drawn0_below hd9 _)); replace hblk := Aside0.mk (((drawn0_below hd9 _).block g (Array.getElem?_eq_some_iff.1 hblk.out).1).trans hblk.out); clear hd9) | (go_at_call 28; refine (hfB'.out _ hCLo.out.below).mono ?_; clear hfB'; rintro e w9 ⟨rfl, hd9⟩; replace x0 := pw_cell_below (drawn0_below hd9 _) x0; replace x1 := pw_cell_below (drawn0_below hd9 _) x1; replace x2 := pw_cell_below (drawn0_below hd9 _) x2; replace x3 := pw_cell_below (drawn0_below hd9 _) x3; replace x4 := pw_cell_below (drawn0_below hd9 _) x4; replace hBo := Aside0.mk (below_step hBo.out (drawn0_below hd9 _)); replace hCLo := Aside0.mk (hCLo.out.step (drawn0_below hd9 _)); replace hblk := Aside0.mk (((drawn0_below hd9 _).block g (Array.getElem?_eq_some_iff.1 hblk.out).1).trans hblk.out); clear hd9))
                      have hOB := Aside0.mk (show CL l w5 vc cs _ ∧ _ ∧ _ from ⟨hCLo.out, hblk.out, hBo.out⟩)
                      clear hCLo hblk hBo x0 x1 x2 x3 x4 x5 y1 u0 v0 v1 v2 v3 v4 v5
                      go_loopw [13] (fun v13 wr => ∃ (j : Nat), v13 = .int .i64 j ∧ j ≤ n5 ∧ Aside0 (CL l w5 vc cs wr ∧ wr.heap[g]? = some (.cells #[.int .i64 x.f0, .int .i64 x.f1, .int .i64 x.f2, .int .i64 x.f3, .int .i64 x.f4, .slice A5 n5 c5] 60 (0, 0)) ∧ Below w.heap.size w wr)) (fun v13 _ => n5 - (RowKit.intOf v13).toNat)
                      case atStart => exact ⟨0, rfl, by omega, hOB⟩
                      case round =>
                        clear hOB
                        obtain ⟨j, rfl, hj, hrel⟩ := hrel
                        have hCLj := Aside0.mk hrel.out.1
                        have hblkj := Aside0.mk hrel.out.2.1
                        have hBj := Aside0.mk hrel.out.2.2
                        clear hrel
                        have x0 : wr.cell? ⟨g, 0, none⟩ = some (.int .i64 x.f0) := by rw [cell_in hblkj.out]; rfl
                        have x1 : wr.cell? ⟨g, 1, none⟩ = some (.int .i64 x.f1) := by rw [cell_in hblkj.out]; rfl
                        have x2 : wr.cell? ⟨g, 2, none⟩ = some (.int .i64 x.f2) := by rw [cell_in hblkj.out]; rfl
                        have x3 : wr.cell? ⟨g, 3, none⟩ = some (.int .i64 x.f3) := by rw [cell_in hblkj.out]; rfl
                        have x4 : wr.cell? ⟨g, 4, none⟩ = some (.int .i64 x.f4) := by rw [cell_in hblkj.out]; rfl
                        have x5 : wr.cell? ⟨g, 5, none⟩ = some (.slice A5 n5 c5) := by rw [cell_in hblkj.out]; rfl
                        have hjl : ¬ j < n5 := by have := hn0.out; omega
                        have hjb : decide ((j : Int) < (n5 : Int)) = false := decide_eq_false (by omega)
                        go_wp2
                        go_roundw
                        case rel => exact ⟨_, k + 1, rfl, by go_num, by omega, ⟨_, by have := hcs'.out; omega, hCLj.out⟩⟩
                        case measure => simp [RowKit.intOf]; omega
                  by_cases m2 : x.f4 = 2
                  · have himm := m2
                    clear m1 m2
                    have h3b : (x.f0 == 3) = false := by rw [hkind]; rfl
                    have h2b : (x.f0 == 2) = true := by rw [hkind]; rfl
                    have h7b : (x.f0 == 7) = false := by rw [hkind]; rfl
                    have h4b : (x.f0 == 4) = false := by rw [hkind]; rfl
                    have h5b : (x.f0 == 5) = false := by rw [hkind]; rfl
                    have i1b : (x.f4 == 1) = false := by rw [himm]; rfl
                    have i2b : (x.f4 == 2) = true := by rw [himm]; rfl
                    have hfA := hPC'.out.opA i y hy.out z hzm.out x hxm.out (.inr ⟨hkind, .inr himm⟩)
                    have hfB := hPC'.out.opB i y hy.out z hzm.out x hxm.out ⟨hkind, .inr himm⟩
                    have hn0 : Aside0 (n5 = 0) := ⟨by rw [← hn5'.out]; exact hnoargs.out (by omega)⟩
                    have hfA' := Aside0.mk (fun W hW => hal.out (i : Int) x.f1 (i : Int) x.f2 true W hW hfA)
                    have hfB' := Aside0.mk (fun W hW => hal.out (i : Int) x.f1 (i : Int) x.f3 true W hW hfB)
                    clear hkind himm hfA hfB
                    as_aux_lemma =>
                      go_wp2_with (first | (go_at_call 28; refine (hfA'.out _ hCLo.out.below).mono ?_; clear hfA'; rintro e w9 ⟨rfl, hd9⟩; replace x0 := pw_cell_below (drawn0_below hd9 _) x0; replace x1 := pw_cell_below (drawn0_below hd9 _) x1; replace x2 := pw_cell_below (drawn0_below hd9 _) x2; replace x3 := pw_cell_below (drawn0_below hd9 _) x3; replace x4 := pw_cell_below (drawn0_below hd9 _) x4; replace hBo := Aside0.mk (below_step hBo.out (drawn0_below hd9 _)); replace hCLo := Aside0.mk (hCLo.out.step (drawn0_below hd9 _)); replace hblk := Aside0.mk (((drawn0_below hd9 _).block g (Array.getElem?_eq_some_iff.1 hblk.out).1).trans hblk.out); clear hd9) | (go_at_call 28; refine (hfB'.out _ hCLo.out.below).mono ?_; clear hfB'; rintro e w9 ⟨rfl, hd9⟩; replace x0 := pw_cell_below (drawn0_below hd9 _) x0; replace x1 := pw_cell_below (drawn0_below hd9 _) x1; replace x2 := pw_cell_below (drawn0_below hd9 _) x2; replace x3 := pw_cell_below (drawn0_below hd9 _) x3; replace x4 := pw_cell_below (drawn0_below hd9 _) x4; replace hBo := Aside0.mk (below_step hBo.out (drawn0_below hd9 _)); replace hCLo := Aside0.mk (hCLo.out.step (drawn0_below hd9 _)); replace hblk := Aside0.mk (((drawn0_below hd9 _).block g (Array.getElem?_eq_some_iff.1 hblk.out).1).trans hblk.out); clear hd9))
                      have hOB := Aside0.mk (show CL l w5 vc cs _ ∧ _ ∧ _ from ⟨hCLo.out, hblk.out, hBo.out⟩)
                      clear hCLo hblk hBo x0 x1 x2 x3 x4 x5 y1 u0 v0 v1 v2 v3 v4 v5
                      go_loopw [13] (fun v13 wr => ∃ (j : Nat), v13 = .int .i64 j ∧ j ≤ n5 ∧ Aside0 (CL l w5 vc cs wr ∧ wr.heap[g]? = some (.cells #[.int .i64 x.f0, .int .i64 x.f1, .int .i64 x.f2, .int .i64 x.f3, .int .i64 x.f4, .slice A5 n5 c5] 60 (0, 0)) ∧ Below w.heap.size w wr)) (fun v13 _ => n5 - (RowKit.intOf v13).toNat)
                      case atStart => exact ⟨0, rfl, by omega, hOB⟩
                      case round =>
                        clear hOB
                        obtain ⟨j, rfl, hj, hrel⟩ := hrel
                        have hCLj := Aside0.mk hrel.out.1
                        have hblkj := Aside0.mk hrel.out.2.1
                        have hBj := Aside0.mk hrel.out.2.2
                        clear hrel
                        have x0 : wr.cell? ⟨g, 0, none⟩ = some (.int .i64 x.f0) := by rw [cell_in hblkj.out]; rfl
                        have x1 : wr.cell? ⟨g, 1, none⟩ = some (.int .i64 x.f1) := by rw [cell_in hblkj.out]; rfl
                        have x2 : wr.cell? ⟨g, 2, none⟩ = some (.int .i64 x.f2) := by rw [cell_in hblkj.out]; rfl
                        have x3 : wr.cell? ⟨g, 3, none⟩ = some (.int .i64 x.f3) := by rw [cell_in hblkj.out]; rfl
                        have x4 : wr.cell? ⟨g, 4, none⟩ = some (.int .i64 x.f4) := by rw [cell_in hblkj.out]; rfl
                        have x5 : wr.cell? ⟨g, 5, none⟩ = some (.slice A5 n5 c5) := by rw [cell_in hblkj.out]; rfl
                        have hjl : ¬ j < n5 := by have := hn0.out; omega
                        have hjb : decide ((j : Int) < (n5 : Int)) = false := decide_eq_false (by omega)
                        go_wp2
                        go_roundw
                        case rel => exact ⟨_, k + 1, rfl, by go_num, by omega, ⟨_, by have := hcs'.out; omega, hCLj.out⟩⟩
                        case measure => simp [RowKit.intOf]; omega
                  · have himm : ¬ (x.f4 = 1 ∨ x.f4 = 2) := by omega
                    clear m1 m2
                    have h3b : (x.f0 == 3) = false := by rw [hkind]; rfl
                    have h2b : (x.f0 == 2) = true := by rw [hkind]; rfl
                    have h7b : (x.f0 == 7) = false := by rw [hkind]; rfl
                    have h4b : (x.f0 == 4) = false := by rw [hkind]; rfl
                    have h5b : (x.f0 == 5) = false := by rw [hkind]; rfl
                    have i1b : (x.f4 == 1) = false := beq_false_of_ne (by omega)
                    have i2b : (x.f4 == 2) = false := beq_false_of_ne (by omega)
                    have hn0 : Aside0 (n5 = 0) := ⟨by rw [← hn5'.out]; exact hnoargs.out (by omega)⟩
                    clear hkind himm
                    as_aux_lemma =>
                      go_wp2
                      have hOB := Aside0.mk (show CL l w5 vc cs _ ∧ _ ∧ _ from ⟨hCLo.out, hblk.out, hBo.out⟩)
                      clear hCLo hblk hBo x0 x1 x2 x3 x4 x5 y1 u0 v0 v1 v2 v3 v4 v5 hwo
                      go_loopw [13] (fun v13 wr => ∃ (j : Nat), v13 = .int .i64 j ∧ j ≤ n5 ∧ Aside0 (CL l w5 vc cs wr ∧ wr.heap[g]? = some (.cells #[.int .i64 x.f0, .int .i64 x.f1, .int .i64 x.f2, .int .i64 x.f3, .int .i64 x.f4, .slice A5 n5 c5] 60 (0, 0)) ∧ Below w.heap.size w wr)) (fun v13 _ => n5 - (RowKit.intOf v13).toNat)
                      case atStart => exact ⟨0, rfl, by omega, hOB⟩
                      case round =>
                        clear hOB
                        obtain ⟨j, rfl, hj, hrel⟩ := hrel
                        have hCLj := Aside0.mk hrel.out.1
                        have hblkj := Aside0.mk hrel.out.2.1
                        have hBj := Aside0.mk hrel.out.2.2
                        clear hrel
                        have x0 : wr.cell? ⟨g, 0, none⟩ = some (.int .i64 x.f0) := by rw [cell_in hblkj.out]; rfl
                        have x1 : wr.cell? ⟨g, 1, none⟩ = some (.int .i64 x.f1) := by rw [cell_in hblkj.out]; rfl
                        have x2 : wr.cell? ⟨g, 2, none⟩ = some (.int .i64 x.f2) := by rw [cell_in hblkj.out]; rfl
                        have x3 : wr.cell? ⟨g, 3, none⟩ = some (.int .i64 x.f3) := by rw [cell_in hblkj.out]; rfl
                        have x4 : wr.cell? ⟨g, 4, none⟩ = some (.int .i64 x.f4) := by rw [cell_in hblkj.out]; rfl
                        have x5 : wr.cell? ⟨g, 5, none⟩ = some (.slice A5 n5 c5) := by rw [cell_in hblkj.out]; rfl
                        have hjl : ¬ j < n5 := by have := hn0.out; omega
                        have hjb : decide ((j : Int) < (n5 : Int)) = false := decide_eq_false (by omega)
                        go_wp2
                        go_roundw
                        case rel => exact ⟨_, k + 1, rfl, by go_num, by omega, ⟨_, by have := hcs'.out; omega, hCLj.out⟩⟩
                        case measure => simp [RowKit.intOf]; omega
                by_cases n7 : x.f0 = 7
                · have hkind := n7
                  clear n3 n2 n7
                  have h3b : (x.f0 == 3) = false := by rw [hkind]; rfl
                  have h2b : (x.f0 == 2) = false := by rw [hkind]; rfl
                  have h7b : (x.f0 == 7) = true := by rw [hkind]; rfl
                  have h4b : (x.f0 == 4) = false := by rw [hkind]; rfl
                  have h5b : (x.f0 == 5) = false := by rw [hkind]; rfl
                  have hfC := hPC'.out.opC i y hy.out z hzm.out x hxm.out hkind
                  have hfC' := Aside0.mk (fun W hW => hal.out (i : Int) x.f1 x.f4 0 true W hW hfC)
                  clear hkind hfC
                  as_aux_lemma =>
                    go_wp2_with (first | (go_at_call 28; refine (hfC'.out _ hCLo.out.below).mono ?_; clear hfC'; rintro e w9 ⟨rfl, hd9⟩; replace x0 := pw_cell_below (drawn0_below hd9 _) x0; replace x1 := pw_cell_below (drawn0_below hd9 _) x1; replace x2 := pw_cell_below (drawn0_below hd9 _) x2; replace x3 := pw_cell_below (drawn0_below hd9 _) x3; replace x4 := pw_cell_below (drawn0_below hd9 _) x4; replace hBo := Aside0.mk (below_step hBo.out (drawn0_below hd9 _)); replace hCLo := Aside0.mk (hCLo.out.step (drawn0_below hd9 _)); replace hblk := Aside0.mk (((drawn0_below hd9 _).block g (Array.getElem?_eq_some_iff.1 hblk.out).1).trans hblk.out); clear hd9))
                    have hOB := Aside0.mk (show CL l w5 vc cs _ ∧ _ ∧ _ from ⟨hCLo.out, hblk.out, hBo.out⟩)
                    clear hCLo hblk hBo x0 x1 x2 x3 x4 x5 y1 u0 v0 v1 v2 v3 v4 v5
                    go_loopw [13] (fun v13 wr => ∃ (j : Nat), v13 = .int .i64 j ∧ j ≤ n5 ∧ Aside0 (CL l w5 vc cs wr ∧ wr.heap[g]? = some (.cells #[.int .i64 x.f0, .int .i64 x.f1, .int .i64 x.f2, .int .i64 x.f3, .int .i64 x.f4, .slice A5 n5 c5] 60 (0, 0)) ∧ Below w.heap.size w wr)) (fun v13 _ => n5 - (RowKit.intOf v13).toNat)
                    case atStart => exact ⟨0, rfl, by omega, hOB⟩
                    case round =>
                      clear hOB
                      obtain ⟨j, rfl, hj, hrel⟩ := hrel
                      have hCLj := Aside0.mk hrel.out.1
                      have hblkj := Aside0.mk hrel.out.2.1
                      have hBj := Aside0.mk hrel.out.2.2
                      clear hrel
                      have x0 : wr.cell? ⟨g, 0, none⟩ = some (.int .i64 x.f0) := by rw [cell_in hblkj.out]; rfl
                      have x1 : wr.cell? ⟨g, 1, none⟩ = some (.int .i64 x.f1) := by rw [cell_in hblkj.out]; rfl
                      have x2 : wr.cell? ⟨g, 2, none⟩ = some (.int .i64 x.f2) := by rw [cell_in hblkj.out]; rfl
                      have x3 : wr.cell? ⟨g, 3, none⟩ = some (.int .i64 x.f3) := by rw [cell_in hblkj.out]; rfl
                      have x4 : wr.cell? ⟨g, 4, none⟩ = some (.int .i64 x.f4) := by rw [cell_in hblkj.out]; rfl
                      have x5 : wr.cell? ⟨g, 5, none⟩ = some (.slice A5 n5 c5) := by rw [cell_in hblkj.out]; rfl
                      by_cases hjl : j < n5
                      · have hjb : decide ((j : Int) < (n5 : Int)) = true := decide_eq_true (by omega)
                        have hpj : (0 : Int) ≤ (j : Int) := by omega
                        have hqj : (j : Int) < (n5 : Int) := by omega
                        obtain ⟨ad5, e5, hca⟩ := Kd.at_int (Kd.C_below hCa'.out hBj.out) (j : Int) hpj hqj
                        subst e5
                        obtain ⟨a, ha⟩ : ∃ a, rd x.f5 (j : Int) = a := ⟨_, rfl⟩
                        rw [Int.toNat_natCast, ha] at hca
                        have hfarg := Aside0.mk (hPC'.out.arg i y hy.out z hzm.out x hxm.out j a (by rw [← ha, rd_of (by have := hn5'.out; omega)]; exact List.getElem?_eq_getElem _))
                        have hj20 : j ≤ 20 := by omega
                        have hwj : wrap64 ((j : Int) + 1) = (j : Int) + 1 := by unfold wrap64; omega
                        have hwj2 : IntKind.i64.wrap ((j : Int) + 1) = (j : Int) + 1 := by rw [i64_w]; exact hwj
                        clear ha x0 x1 x2 x3
                        go_wp2
                        obtain ⟨Wd, hWd⟩ : ∃ Wd, wr.drew = Wd := ⟨_, rfl⟩
                        have hCLd : Aside0 (CL l w5 vc cs Wd) := ⟨by rw [← hWd]; exact hCLj.out.step (drew_below _)⟩
                        have hblkd : Aside0 (Wd.heap[g]? = some (.cells #[.int .i64 x.f0, .int .i64 x.f1, .int .i64 x.f2, .int .i64 x.f3, .int .i64 x.f4, .slice (some ad5) n5 c5] 60 (0, 0))) := ⟨by rw [← hWd]; exact hblkj.out⟩
                        have hBd : Aside0 (Below w.heap.size w Wd) := ⟨by rw [← hWd]; exact below_step hBj.out (drew_below _)⟩
                        refine start_ (n := 23) #[false, false, false, false, false, false, false, false, false, false, false, false, false, false, false, false, false, false, false, false, false, false, false] (S := fun w' => w'.cell? ⟨g, 5, none⟩ = some (.slice (some ad5) n5 c5) ∧ w'.cell? ⟨g, 4, none⟩ = some (.int .i64 x.f4) ∧ w'.cell? (ad5.add j) = some (.int .i64 a)) (ds := []) hmix rfl rfl (by rw [hWd]; exact ⟨by rw [cell_in hblkd.out]; rfl, by rw [cell_in hblkd.out]; rfl, by rw [← hWd]; exact hca⟩) (fun hHeld => ?_)
                        rw [hWd] at hHeld ⊢
                        clear hWd hca x4 x5 hCLj hblkj hBj
                        refine pure_ (i := 0) (N := some 164) (v := ?_) (a' := ?_) #[true, false, false, false, false, false, false, false, false, false, false, false, false, false, false, false, false, false, false, false, false, false, false] rfl rfl (by kernel_rfl) (fun _ _ _ h => h) (Or.inl ⟨by rfl, ?_⟩) ?_ ?_
                        rotate_left
                        · intro w'
                          go_simp
                          try with_reducible rfl
                        rotate_left
                        · simp only [Act.put, List.setIfInBounds_toArray, List.set_cons_zero, List.set_cons_succ, i64_w, i32_w]
                          rfl
                        refine pure_ (i := 1) (N := some 165) (v := ?_) (a' := ?_) #[true, true, false, false, false, false, false, false, false, false, false, false, false, false, false, false, false, false, false, false, false, false, false] rfl rfl (by kernel_rfl) (fun _ _ _ h => h) (Or.inl ⟨by rfl, ?_⟩) ?_ ?_
                        rotate_left
                        · intro w'
                          go_simp
                          try with_reducible rfl
                        rotate_left
                        · simp only [Act.put, List.setIfInBounds_toArray, List.set_cons_zero, List.set_cons_succ, i64_w, i32_w]
                          rfl
                        refine pure_ (i := 2) (N := some 166) (v := ?_) (a' := ?_) #[true, true, true, false, false, false, false, false, false, false, false, false, false, false, false, false, false, false, false, false, false, false, false] rfl rfl (by kernel_rfl) (fun _ _ _ h => h) (Or.inl ⟨by rfl, ?_⟩) ?_ ?_
                        rotate_left
                        · intro w'
                          go_simp
                          try with_reducible rfl
                        rotate_left
                        · simp only [Act.put, List.setIfInBounds_toArray, List.set_cons_zero, List.set_cons_succ, i64_w, i32_w]
                          rfl
                        refine take_ (i := 3) (N := some 167) (v := ?_) (a' := ?_) #[true, true, true, true, false, false, false, false, false, false, false, false, false, false, false, false, false, false, false, false, false, false, false] rfl rfl (by kernel_rfl) (fun _ _ _ h => h) (Or.inl ⟨by rfl, ?_⟩) hHeld ?_ ?_
                        rotate_left
                        · rintro w' ⟨s0, s1, s2⟩
                          go_simp
                          try with_reducible rfl
                        rotate_left
                        · simp only [Act.put, List.setIfInBounds_toArray, List.set_cons_zero, List.set_cons_succ, i64_w, i32_w]
                          rfl
                        refine pure_ (i := 4) (N := some 168) (v := ?_) (a' := ?_) #[true, true, true, true, true, false, false, false, false, false, false, false, false, false, false, false, false, false, false, false, false, false, false] rfl rfl (by kernel_rfl) (fun _ _ _ h => h) (Or.inl ⟨by rfl, ?_⟩) ?_ ?_
                        rotate_left
                        · intro w'
                          go_simp
                          try with_reducible rfl
                        rotate_left
                        · simp only [Act.put, List.setIfInBounds_toArray, List.set_cons_zero, List.set_cons_succ, i64_w, i32_w]
                          rfl
                        refine pure_ (i := 5) (N := some 169) (v := ?_) (a' := ?_) #[true, true, true, true, true, true, false, false, false, false, false, false, false, false, false, false, false, false, false, false, false, false, false] rfl rfl (by kernel_rfl) (fun _ _ _ h => h) (Or.inl ⟨by rfl, ?_⟩) ?_ ?_
                        rotate_left
                        · intro w'
                          go_simp
                          try with_reducible rfl
                        rotate_left
                        · simp only [Act.put, List.setIfInBounds_toArray, List.set_cons_zero, List.set_cons_succ, i64_w, i32_w]
                          rfl
                        refine take_ (i := 6) (N := some 170) (v := ?_) (a' := ?_) #[true, true, true, true, true, true, true, false, false, false, false, false, false, false, false, false, false, false, false, false, false, false, false] rfl rfl (by kernel_rfl) (fun _ _ _ h => h) (Or.inl ⟨by rfl, ?_⟩) hHeld ?_ ?_
                        rotate_left
                        · rintro w' ⟨s0, s1, s2⟩
                          go_simp
                          try with_reducible rfl
                        rotate_left
                        · simp only [Act.put, List.setIfInBounds_toArray, List.set_cons_zero, List.set_cons_succ, i64_w, i32_w]
                          rfl
                        refine pure_ (i := 7) (N := some 171) (v := ?_) (a' := ?_) #[true, true, true, true, true, true, true, true, false, false, false, false, false, false, false, false, false, false, false, false, false, false, false] rfl rfl (by kernel_rfl) (fun _ _ _ h => h) (Or.inl ⟨by rfl, ?_⟩) ?_ ?_
                        rotate_left
                        · intro w'
                          go_simp
                          try with_reducible rfl
                        rotate_left
                        · simp only [Act.put, List.setIfInBounds_toArray, List.set_cons_zero, List.set_cons_succ, i64_w, i32_w]
                          rfl
                        refine take_ (i := 8) (N := some 172) (v := ?_) (a' := ?_) #[true, true, true, true, true, true, true, true, true, false, false, false, false, false, false, false, false, false, false, false, false, false, false] rfl rfl (by kernel_rfl) (fun _ _ _ h => h) (Or.inl ⟨by rfl, ?_⟩) hHeld ?_ ?_
                        rotate_left
                        · rintro w' ⟨s0, s1, s2⟩
                          go_simp
                          try with_reducible rfl
                        rotate_left
                        · simp only [Act.put, List.setIfInBounds_toArray, List.set_cons_zero, List.set_cons_succ, i64_w, i32_w]
                          rfl
                        refine pure_ (i := 9) (N := some 173) (v := ?_) (a' := ?_) #[true, true, true, true, true, true, true, true, true, true, false, false, false, false, false, false, false, false, false, false, false, false, false] rfl rfl (by kernel_rfl) (fun _ _ _ h => h) (Or.inl ⟨by rfl, ?_⟩) ?_ ?_
                        rotate_left
                        · intro w'
                          go_simp
                          try with_reducible rfl
                        rotate_left
                        · simp only [Act.put, List.setIfInBounds_toArray, List.set_cons_zero, List.set_cons_succ, i64_w, i32_w]
                          rfl
                        refine pure_ (i := 10) (N := some 174) (v := .int .i64 ((j : Int) + 1)) (a' := ?_) #[true, true, true, true, true, true, true, true, true, true, true, false, false, false, false, false, false, false, false, false, false, false, false] rfl rfl (by kernel_rfl) (fun _ _ _ h => h) (Or.inl ⟨by rfl, ?_⟩) ?_ ?_
                        · intro w'
                          go_simp
                          first | done | (with_reducible rfl) | (simp only [*, decide_true, decide_false, if_true, if_false]; done) | (simp [*]; done) | omega | (unfold wrap64; omega)
                        rotate_left
                        · simp only [Act.put, List.setIfInBounds_toArray, List.set_cons_zero, List.set_cons_succ, i64_w, i32_w]
                          rfl
                        refine one_ (i := 11) (N := some 175) #[true, true, true, true, true, true, true, true, true, true, true, true, false, false, false, false, false, false, false, false, false, false, false] rfl rfl (by kernel_rfl) (by decide) (fun K hK => ?_)
                        refine call_ 28 _ (by rfl) rfl (by go_simp; rfl) ?_
                        refine (hal.out (i : Int) a x.f4 ((j : Int) + 1) true _ hCLd.out.below hfarg.out).mono ?_
                        rintro e w9 ⟨rfl, hd9⟩
                        refine ⟨_, rfl, ?_⟩
                        have hCL9 := Aside0.mk (hCLd.out.step (drawn0_below hd9 _))
                        have hblk9 := Aside0.mk (((drawn0_below hd9 _).block g (Array.getElem?_eq_some_iff.1 hblkd.out).1).trans hblkd.out)
                        have hB9 := Aside0.mk (below_step hBd.out (drawn0_below hd9 _))
                        refine hK.out _ _ ⟨pw_cell_below (drawn0_below hd9 _) hHeld.1, pw_cell_below (drawn0_below hd9 _) hHeld.2.1, pw_cell_below (drawn0_below hd9 _) hHeld.2.2⟩ (fun hHeld => ?_)
                        clear hd9
                        clear hK K
                        refine norm_ (a' := ?_) ?_ ?_
                        rotate_left
                        · show Act.put _ (some 175) _ = _
                          simp only [Act.put, List.setIfInBounds_toArray, List.set_cons_zero, List.set_cons_succ, i64_w, i32_w]
                          rfl
                        refine pure_ (i := 12) (N := some 176) (v := ?_) (a' := ?_) #[true, true, true, true, true, true, true, true, true, true, true, true, true, false, false, false, false, false, false, false, false, false, false] rfl rfl (by kernel_rfl) (fun _ _ _ h => h) (Or.inl ⟨by rfl, ?_⟩) ?_ ?_
                        rotate_left
                        · intro w'
                          go_simp
                          try with_reducible rfl
                        rotate_left
                        · simp only [Act.put, List.setIfInBounds_toArray, List.set_cons_zero, List.set_cons_succ, i64_w, i32_w]
                          rfl
                        refine pure_ (i := 13) (N := some 177) (v := ?_) (a' := ?_) #[true, true, true, true, true, true, true, true, true, true, true, true, true, true, false, false, false, false, false, false, false, false, false] rfl rfl (by kernel_rfl) (fun _ _ _ h => h) (Or.inl ⟨by rfl, ?_⟩) ?_ ?_
                        rotate_left
                        · intro w'
                          go_simp
                          try with_reducible rfl
                        rotate_left
                        · simp only [Act.put, List.setIfInBounds_toArray, List.set_cons_zero, List.set_cons_succ, i64_w, i32_w]
                          rfl
                        refine pure_ (i := 14) (N := some 178) (v := undef) (a' := ?_) #[true, true, true, true, true, true, true, true, true, true, true, true, true, true, true, false, false, false, false, false, false, false, false] rfl rfl (by kernel_rfl) (fun _ _ _ h => h) (Or.inr ⟨by rfl, rfl⟩) ?_ ?_
                        rotate_left
                        · simp only [Act.put, List.setIfInBounds_toArray, List.set_cons_zero, List.set_cons_succ, i64_w, i32_w]
                          rfl
                        refine pure_ (i := 15) (N := some 179) (v := undef) (a' := ?_) #[true, true, true, true, true, true, true, true, true, true, true, true, true, true, true, true, false, false, false, false, false, false, false] rfl rfl (by kernel_rfl) (fun _ _ _ h => h) (Or.inr ⟨by rfl, rfl⟩) ?_ ?_
                        rotate_left
                        · simp only [Act.put, List.setIfInBounds_toArray, List.set_cons_zero, List.set_cons_succ, i64_w, i32_w]
                          rfl
                        refine pure_ (i := 16) (N := some 180) (v := undef) (a' := ?_) #[true, true, true, true, true, true, true, true, true, true, true, true, true, true, true, true, true, false, false, false, false, false, false] rfl rfl (by kernel_rfl) (fun _ _ _ h => h) (Or.inr ⟨by rfl, rfl⟩) ?_ ?_
                        rotate_left
                        · simp only [Act.put, List.setIfInBounds_toArray, List.set_cons_zero, List.set_cons_succ, i64_w, i32_w]
                          rfl
                        refine pure_ (i := 17) (N := some 181) (v := undef) (a' := ?_) #[true, true, true, true, true, true, true, true, true, true, true, true, true, true, true, true, true, true, false, false, false, false, false] rfl rfl (by kernel_rfl) (fun _ _ _ h => h) (Or.inr ⟨by rfl, rfl⟩) ?_ ?_
                        rotate_left
                        · simp only [Act.put, List.setIfInBounds_toArray, List.set_cons_zero, List.set_cons_succ, i64_w, i32_w]
                          rfl
                        refine pure_ (i := 18) (N := some 182) (v := undef) (a' := ?_) #[true, true, true, true, true, true, true, true, true, true, true, true, true, true, true, true, true, true, true, false, false, false, false] rfl rfl (by kernel_rfl) (fun _ _ _ h => h) (Or.inr ⟨by rfl, rfl⟩) ?_ ?_
                        rotate_left
                        · simp only [Act.put, List.setIfInBounds_toArray, List.set_cons_zero, List.set_cons_succ, i64_w, i32_w]
                          rfl
                        refine pure_ (i := 19) (N := some 183) (v := undef) (a' := ?_) #[true, true, true, true, true, true, true, true, true, true, true, true, true, true, true, true, true, true, true, true, false, false, false] rfl rfl (by kernel_rfl) (fun _ _ _ h => h) (Or.inr ⟨by rfl, rfl⟩) ?_ ?_
                        rotate_left
                        · simp only [Act.put, List.setIfInBounds_toArray, List.set_cons_zero, List.set_cons_succ, i64_w, i32_w]
                          rfl
                        refine pure_ (i := 20) (N := some 184) (v := undef) (a' := ?_) #[true, true, true, true, true, true, true, true, true, true, true, true, true, true, true, true, true, true, true, true, true, false, false] rfl rfl (by kernel_rfl) (fun _ _ _ h => h) (Or.inr ⟨by rfl, rfl⟩) ?_ ?_
                        rotate_left
                        · simp only [Act.put, List.setIfInBounds_toArray, List.set_cons_zero, List.set_cons_succ, i64_w, i32_w]
                          rfl
                        refine pure_ (i := 21) (N := some 185) (v := undef) (a' := ?_) #[true, true, true, true, true, true, true, true, true, true, true, true, true, true, true, true, true, true, true, true, true, true, false] rfl rfl (by kernel_rfl) (fun _ _ _ h => h) (Or.inr ⟨by rfl, rfl⟩) ?_ ?_
                        rotate_left
                        · simp only [Act.put, List.setIfInBounds_toArray, List.set_cons_zero, List.set_cons_succ, i64_w, i32_w]
                          rfl
                        refine pure_ (i := 22) (N := some 186) (v := ?_) (a' := ?_) #[true, true, true, true, true, true, true, true, true, true, true, true, true, true, true, true, true, true, true, true, true, true, true] rfl rfl (by kernel_rfl) (fun _ _ _ h => h) (Or.inl ⟨by rfl, ?_⟩) ?_ ?_
                        rotate_left
                        · intro w'
                          go_simp
                          try with_reducible rfl
                        rotate_left
                        · simp only [Act.put, List.setIfInBounds_toArray, List.set_cons_zero, List.set_cons_succ, i64_w, i32_w]
                          rfl
                        refine done_ (by kernel_rfl) ?_
                        go_wp2
                        go_roundw
                        case rel => exact ⟨j + 1, by go_num, by clear hwj hwj2; omega, ⟨hCL9.out, hblk9.out, hB9.out⟩⟩
                        case measure => clear hwj hwj2; simp [RowKit.intOf]; omega
                      · have hjb : decide ((j : Int) < (n5 : Int)) = false := decide_eq_false (by omega)
                        go_wp2
                        go_roundw
                        case rel => exact ⟨_, k + 1, rfl, by go_num, by omega, ⟨_, by have := hcs'.out; omega, hCLj.out⟩⟩
                        case measure => simp [RowKit.intOf]; omega
                by_cases n4 : x.f0 = 4
                · have hkind := n4
                  clear n3 n2 n7 n4
                  have h3b : (x.f0 == 3) = false := by rw [hkind]; rfl
                  have h2b : (x.f0 == 2) = false := by rw [hkind]; rfl
                  have h7b : (x.f0 == 7) = false := by rw [hkind]; rfl
                  have h4b : (x.f0 == 4) = true := by rw [hkind]; rfl
                  have h5b : (x.f0 == 5) = false := by rw [hkind]; rfl
                  have hok6 := Aside0.mk (hPC'.out.c4 i y hy.out z hzm.out x hxm.out hkind)
                  have hn0 : Aside0 (n5 = 0) := ⟨by rw [← hn5'.out]; exact hnoargs.out (by omega)⟩
                  clear hkind
                  as_aux_lemma =>
                    go_wp2
                    have hOB := Aside0.mk (show CL l w5 vc cs _ ∧ _ ∧ _ from ⟨hCLo.out, hblk.out, hBo.out⟩)
                    clear hCLo hblk hBo x0 x1 x2 x3 x4 x5 y1 u0 v0 v1 v2 v3 v4 v5 hwo
                    go_loopw [13] (fun v13 wr => ∃ (j : Nat), v13 = .int .i64 j ∧ j ≤ n5 ∧ Aside0 (CL l w5 vc cs wr ∧ wr.heap[g]? = some (.cells #[.int .i64 x.f0, .int .i64 x.f1, .int .i64 x.f2, .int .i64 x.f3, .int .i64 x.f4, .slice A5 n5 c5] 60 (0, 0)) ∧ Below w.heap.size w wr)) (fun v13 _ => n5 - (RowKit.intOf v13).toNat)
                    case atStart => exact ⟨0, rfl, by omega, hOB⟩
                    case round =>
                      clear hOB
                      obtain ⟨j, rfl, hj, hrel⟩ := hrel
                      have hCLj := Aside0.mk hrel.out.1
                      have hblkj := Aside0.mk hrel.out.2.1
                      have hBj := Aside0.mk hrel.out.2.2
                      clear hrel
                      have x0 : wr.cell? ⟨g, 0, none⟩ = some (.int .i64 x.f0) := by rw [cell_in hblkj.out]; rfl
                      have x1 : wr.cell? ⟨g, 1, none⟩ = some (.int .i64 x.f1) := by rw [cell_in hblkj.out]; rfl
                      have x2 : wr.cell? ⟨g, 2, none⟩ = some (.int .i64 x.f2) := by rw [cell_in hblkj.out]; rfl
                      have x3 : wr.cell? ⟨g, 3, none⟩ = some (.int .i64 x.f3) := by rw [cell_in hblkj.out]; rfl
                      have x4 : wr.cell? ⟨g, 4, none⟩ = some (.int .i64 x.f4) := by rw [cell_in hblkj.out]; rfl
                      have x5 : wr.cell? ⟨g, 5, none⟩ = some (.slice A5 n5 c5) := by rw [cell_in hblkj.out]; rfl
                      have hjl : ¬ j < n5 := by have := hn0.out; omega
                      have hjb : decide ((j : Int) < (n5 : Int)) = false := decide_eq_false (by omega)
                      go_wp2_with (first | ((with_reducible refine gate_builtin (b := .append) (xs := #[.tmp 190, .tmp 197]) rfl ?_); at_builtin; refine Kd.R_append k62 (w0 := w5) w5.heap.size rfl (.tmp 190) (.tmp 197) 49 62 (.agg #[.int .i64 0, .int .i64 0, .int .i64 0]) 24 rfl Try.underlying49 info62 rfl (by decide) (by decide) vc cs ⟨(i : Int), x.f2, x.f1⟩ [.int .i64 (i : Int), .int .i64 x.f2, .int .i64 x.f1] (fun _ => True) (fun _ => False) rfl rfl ?aP (fun _ hk => hk.elim) ?aF ?aO ?aB ?aS ?aL ?_; (case aP => exact k62_mkM _ _ _ _); (case aB => exact hCLj.out.below); (case aF => exact (fun _ _ => trivial)); (case aO => exact hCLj.out.own); (case aS => exact hCLj.out.below.size); (case aL => have := hcs'.out; omega); intro v61 w61 hv61 hb61 hg61 hat61; have hCL6 := Aside0.mk (CL.mk hb61 hv61 (by intro c hc; rcases List.mem_append.1 hc with hc | hc; exact hCLj.out.ok c hc; rw [List.mem_singleton.1 hc]; exact hok6.out)); have q0 : w61.cell? ⟨g, 0, none⟩ = some (.int .i64 x.f0) := cell_grown hg61 x0 (Kd.R_ne hCLj.out.own hblkj.out (by decide)); clear hv61 hb61 hg61 hat61))
                      go_roundw
                      case rel => exact ⟨_, k + 1, rfl, by go_num, by omega, ⟨_, by rw [List.length_append, List.length_singleton]; have := hcs'.out; omega, hCL6.out⟩⟩
                      case measure => simp [RowKit.intOf]; omega
                by_cases n5x : x.f0 = 5
                · have hkind := n5x
                  clear n3 n2 n7 n4 n5x
                  have h3b : (x.f0 == 3) = false := by rw [hkind]; rfl
                  have h2b : (x.f0 == 2) = false := by rw [hkind]; rfl
                  have h7b : (x.f0 == 7) = false := by rw [hkind]; rfl
                  have h4b : (x.f0 == 4) = false := by rw [hkind]; rfl
                  have h5b : (x.f0 == 5) = true := by rw [hkind]; rfl
                  have hok6 := Aside0.mk (hPC'.out.c5 i y hy.out z hzm.out x hxm.out hkind)
                  have hn0 : Aside0 (n5 = 0) := ⟨by rw [← hn5'.out]; exact hnoargs.out (by omega)⟩
                  clear hkind
                  as_aux_lemma =>
                    go_wp2
                    have hOB := Aside0.mk (show CL l w5 vc cs _ ∧ _ ∧ _ from ⟨hCLo.out, hblk.out, hBo.out⟩)
                    clear hCLo hblk hBo x0 x1 x2 x3 x4 x5 y1 u0 v0 v1 v2 v3 v4 v5 hwo
                    go_loopw [13] (fun v13 wr => ∃ (j : Nat), v13 = .int .i64 j ∧ j ≤ n5 ∧ Aside0 (CL l w5 vc cs wr ∧ wr.heap[g]? = some (.cells #[.int .i64 x.f0, .int .i64 x.f1, .int .i64 x.f2, .int .i64 x.f3, .int .i64 x.f4, .slice A5 n5 c5] 60 (0, 0)) ∧ Below w.heap.size w wr)) (fun v13 _ => n5 - (RowKit.intOf v13).toNat)
                    case atStart => exact ⟨0, rfl, by omega, hOB⟩
                    case round =>
                      clear hOB
                      obtain ⟨j, rfl, hj, hrel⟩ := hrel
                      have hCLj := Aside0.mk hrel.out.1
                      have hblkj := Aside0.mk hrel.out.2.1
                      have hBj := Aside0.mk hrel.out.2.2
                      clear hrel
                      have x0 : wr.cell? ⟨g, 0, none⟩ = some (.int .i64 x.f0) := by rw [cell_in hblkj.out]; rfl
                      have x1 : wr.cell? ⟨g, 1, none⟩ = some (.int .i64 x.f1) := by rw [cell_in hblkj.out]; rfl
                      have x2 : wr.cell? ⟨g, 2, none⟩ = some (.int .i64 x.f2) := by rw [cell_in hblkj.out]; rfl
                      have x3 : wr.cell? ⟨g, 3, none⟩ = some (.int .i64 x.f3) := by rw [cell_in hblkj.out]; rfl
                      have x4 : wr.cell? ⟨g, 4, none⟩ = some (.int .i64 x.f4) := by rw [cell_in hblkj.out]; rfl
                      have x5 : wr.cell? ⟨g, 5, none⟩ = some (.slice A5 n5 c5) := by rw [cell_in hblkj.out]; rfl
                      have hjl : ¬ j < n5 := by have := hn0.out; omega
                      have hjb : decide ((j : Int) < (n5 : Int)) = false := decide_eq_false (by omega)
                      go_wp2_with (first | ((with_reducible refine gate_builtin (b := .append) (xs := #[.tmp 202, .tmp 209]) rfl ?_); at_builtin; refine Kd.R_append k62 (w0 := w5) w5.heap.size rfl (.tmp 202) (.tmp 209) 49 62 (.agg #[.int .i64 0, .int .i64 0, .int .i64 0]) 24 rfl Try.underlying49 info62 rfl (by decide) (by decide) vc cs ⟨(i : Int), x.f2, x.f3⟩ [.int .i64 (i : Int), .int .i64 x.f2, .int .i64 x.f3] (fun _ => True) (fun _ => False) rfl rfl ?aP (fun _ hk => hk.elim) ?aF ?aO ?aB ?aS ?aL ?_; (case aP => exact k62_mkM _ _ _ _); (case aB => exact hCLj.out.below); (case aF => exact (fun _ _ => trivial)); (case aO => exact hCLj.out.own); (case aS => exact hCLj.out.below.size); (case aL => have := hcs'.out; omega); intro v61 w61 hv61 hb61 hg61 hat61; have hCL6 := Aside0.mk (CL.mk hb61 hv61 (by intro c hc; rcases List.mem_append.1 hc with hc | hc; exact hCLj.out.ok c hc; rw [List.mem_singleton.1 hc]; exact hok6.out)); have q0 : w61.cell? ⟨g, 0, none⟩ = some (.int .i64 x.f0) := cell_grown hg61 x0 (Kd.R_ne hCLj.out.own hblkj.out (by decide)); clear hv61 hb61 hg61 hat61))
                      go_roundw
                      case rel => exact ⟨_, k + 1, rfl, by go_num, by omega, ⟨_, by rw [List.length_append, List.length_singleton]; have := hcs'.out; omega, hCL6.out⟩⟩
                      case measure => simp [RowKit.intOf]; omega
                · skip
                  have h3b : (x.f0 == 3) = false := beq_false_of_ne (by omega)
                  have h2b : (x.f0 == 2) = false := beq_false_of_ne (by omega)
                  have h7b : (x.f0 == 7) = false := beq_false_of_ne (by omega)
                  have h4b : (x.f0 == 4) = false := beq_false_of_ne (by omega)
                  have h5b : (x.f0 == 5) = false := beq_false_of_ne (by omega)
                  have hn0 : Aside0 (n5 = 0) := ⟨by rw [← hn5'.out]; exact hnoargs.out (by omega)⟩
                  clear n3 n2 n7 n4 n5x
                  as_aux_lemma =>
                    go_wp2
                    have hOB := Aside0.mk (show CL l w5 vc cs _ ∧ _ ∧ _ from ⟨hCLo.out, hblk.out, hBo.out⟩)
                    clear hCLo hblk hBo x0 x1 x2 x3 x4 x5 y1 u0 v0 v1 v2 v3 v4 v5 hwo
                    go_loopw [13] (fun v13 wr => ∃ (j : Nat), v13 = .int .i64 j ∧ j ≤ n5 ∧ Aside0 (CL l w5 vc cs wr ∧ wr.heap[g]? = some (.cells #[.int .i64 x.f0, .int .i64 x.f1, .int .i64 x.f2, .int .i64 x.f3, .int .i64 x.f4, .slice A5 n5 c5] 60 (0, 0)) ∧ Below w.heap.size w wr)) (fun v13 _ => n5 - (RowKit.intOf v13).toNat)
                    case atStart => exact ⟨0, rfl, by omega, hOB⟩
                    case round =>
                      clear hOB
                      obtain ⟨j, rfl, hj, hrel⟩ := hrel
                      have hCLj := Aside0.mk hrel.out.1
                      have hblkj := Aside0.mk hrel.out.2.1
                      have hBj := Aside0.mk hrel.out.2.2
                      clear hrel
                      have x0 : wr.cell? ⟨g, 0, none⟩ = some (.int .i64 x.f0) := by rw [cell_in hblkj.out]; rfl
                      have x1 : wr.cell? ⟨g, 1, none⟩ = some (.int .i64 x.f1) := by rw [cell_in hblkj.out]; rfl
                      have x2 : wr.cell? ⟨g, 2, none⟩ = some (.int .i64 x.f2) := by rw [cell_in hblkj.out]; rfl
                      have x3 : wr.cell? ⟨g, 3, none⟩ = some (.int .i64 x.f3) := by rw [cell_in hblkj.out]; rfl
                      have x4 : wr.cell? ⟨g, 4, none⟩ = some (.int .i64 x.f4) := by rw [cell_in hblkj.out]; rfl
                      have x5 : wr.cell? ⟨g, 5, none⟩ = some (.slice A5 n5 c5) := by rw [cell_in hblkj.out]; rfl
                      have hjl : ¬ j < n5 := by have := hn0.out; omega
                      have hjb : decide ((j : Int) < (n5 : Int)) = false := decide_eq_false (by omega)
                      go_wp2
                      go_roundw
                      case rel => exact ⟨_, k + 1, rfl, by go_num, by omega, ⟨_, by have := hcs'.out; omega, hCLj.out⟩⟩
                      case measure => simp [RowKit.intOf]; omega
              · have hkb : decide ((k : Int) < (nk : Int)) = false := decide_eq_false (by omega)
                have hst := Aside0.mk (show ∃ cs : List S3, cs.length ≤ 10000 * i + 250 * (b + 1) ∧ CL l w5 vc cs wr by obtain ⟨cs, h1, h2⟩ := hrel.out; exact ⟨cs, by omega, h2⟩)
                clear hrel
                go_wp2
                go_roundw
                case rel => exact ⟨_, b + 1, rfl, by go_num, by omega, hst⟩
                case measure => simp [RowKit.intOf]; omega
          · have h3b : (z.f1.f0 == 3) = false := beq_false_of_ne h3
            go_wp2
            clear h3 h3b k0 k1 u0 u1 u2 u3 u4 y1 hwt
            have hst9 := hst
            clear hst hbt hBw
            go_loopw [6, 10] (fun v6 v10 wr => ∃ (vc : Value) (k : Nat), vc = v6 ∧ v10 = .int .i64 k ∧ k ≤ nk ∧ Aside0 (∃ cs, cs.length ≤ 10000 * i + 250 * b + k ∧ CL l w5 vc cs wr)) (fun _ v10 _ => nk - (RowKit.intOf v10).toNat)
            case atStart => exact ⟨_, 0, rfl, rfl, by omega, hst9⟩
            case round =>
              clear hst9
              obtain ⟨vc, k, rfl, rfl, hk, hrel⟩ := hrel
              have hBw : Aside0 (Below w.heap.size w wr) := ⟨by obtain ⟨cs, _, h⟩ := hrel.out; exact below_step hB5.out h.below⟩
              have y1 := pw_cell_below hBw.out g1'.out
              have u0 := pw_cell_below hBw.out t0'.out
              by_cases hkl : k < nk
              · have hkb : decide ((k : Int) < (nk : Int)) = true := decide_eq_true (by omega)
                have hpk : (0 : Int) ≤ (k : Int) := by omega
                have hqk : (k : Int) < (nk : Int) := by omega
                obtain ⟨ad4, A5, c5, e4, s0, s1, s2, s3, s4, s5, hc5, hCa⟩ := at_T60 hCo'.out (k : Int) hpk hqk
                subst e4
                rw [Int.toNat_natCast] at s0 s1 s2 s3 s4 s5
                have hx : Aside0 (z.f0[k]? = some (rd_T60 z.f0 (k : Int))) := ⟨by have := hnk'.out; unfold rd_T60; rw [List.getElem?_eq_getElem (by omega)]; simp [List.getD_eq_getElem?_getD, (by omega : k < z.f0.length)]⟩
                generalize rd_T60 z.f0 (k : Int) = x at s0 s1 s2 s3 s4 s5 hx hCa hc5
                have hxm := Aside0.mk (List.mem_of_getElem? hx.out)
                have hx20 : x.f5.length ≤ 20 := hfb.out.ar z hzm.out x hxm.out
                have hCa' := Aside0.mk hCa
                have v0 := pw_cell_below hBw.out s0
                have v1 := pw_cell_below hBw.out s1
                have v2 := pw_cell_below hBw.out s2
                have v3 := pw_cell_below hBw.out s3
                have v4 := pw_cell_below hBw.out s4
                have v5 := pw_cell_below hBw.out s5
                clear s0 s1 s2 s3 s4 s5 hc5 hCa
                obtain ⟨cs, hcs, hCL⟩ := hrel.out
                obtain ⟨g, hg⟩ : ∃ g, wr.heap.size = g := ⟨_, rfl⟩
                obtain ⟨n5, hn5⟩ : ∃ n5, x.f5.length = n5 := ⟨_, rfl⟩
                rw [hn5] at v5 hCa' hx20
                obtain ⟨wo, hwo⟩ : ∃ wo, wr.alloc (.cells #[.int .i64 x.f0, .int .i64 x.f1, .int .i64 x.f2, .int .i64 x.f3, .int .i64 x.f4, .slice A5 n5 c5] 60) = wo := ⟨_, rfl⟩
                have hbo : Aside0 (Below wr.heap.size wr wo) := ⟨by rw [← hwo]; exact below_alloc (Below.refl _ _) _⟩
                have hCLo := Aside0.mk (hCL.step hbo.out)
                have hblk : Aside0 (wo.heap[g]? = some (.cells #[.int .i64 x.f0, .int .i64 x.f1, .int .i64 x.f2, .int .i64 x.f3, .int .i64 x.f4, .slice A5 n5 c5] 60 (0, 0))) := ⟨by rw [← hwo, ← hg]; exact World.alloc_heap_new wr _⟩
                have hBo := Aside0.mk (below_step hBw.out hbo.out)
                have x0 : wo.cell? ⟨g, 0, none⟩ = some (.int .i64 x.f0) := by rw [cell_in hblk.out]; rfl
                have x1 : wo.cell? ⟨g, 1, none⟩ = some (.int .i64 x.f1) := by rw [cell_in hblk.out]; rfl
                have x2 : wo.cell? ⟨g, 2, none⟩ = some (.int .i64 x.f2) := by rw [cell_in hblk.out]; rfl
                have x3 : wo.cell? ⟨g, 3, none⟩ = some (.int .i64 x.f3) := by rw [cell_in hblk.out]; rfl
                have x4 : wo.cell? ⟨g, 4, none⟩ = some (.int .i64 x.f4) := by rw [cell_in hblk.out]; rfl
                have x5 : wo.cell? ⟨g, 5, none⟩ = some (.slice A5 n5 c5) := by rw [cell_in hblk.out]; rfl
                have hn5' := Aside0.mk hn5
                have hcs' := Aside0.mk hcs
                clear hCL hrel hbo hcs hn5
                have hnoargs : Aside0 (x.f0 ≠ 7 → x.f5.length = 0) := ⟨fun h7 => by
                  have hr := hargs0.out i y hy.out z hzm.out x hxm.out
                  cases hx5 : x.f5 with
                  | nil => rfl
                  | cons a tl => exact absurd (hr a (by rw [hx5]; simp)) h7⟩
                by_cases n3 : x.f0 = 3
                · have hkind := n3
                  clear n3
                  have h3b : (x.f0 == 3) = true := by rw [hkind]; rfl
                  have h2b : (x.f0 == 2) = false := by rw [hkind]; rfl
                  have h7b : (x.f0 == 7) = false := by rw [hkind]; rfl
                  have h4b : (x.f0 == 4) = false := by rw [hkind]; rfl
                  have h5b : (x.f0 == 5) = false := by rw [hkind]; rfl
                  have hfA := hPC'.out.opA i y hy.out z hzm.out x hxm.out (.inl hkind)
                  have hn0 : Aside0 (n5 = 0) := ⟨by rw [← hn5'.out]; exact hnoargs.out (by omega)⟩
                  have hfA' := Aside0.mk (fun W hW => hal.out (i : Int) x.f1 (i : Int) x.f2 true W hW hfA)
                  clear hkind hfA
                  as_aux_lemma =>
                    go_wp2_with (first | (go_at_call 28; refine (hfA'.out _ hCLo.out.below).mono ?_; clear hfA'; rintro e w9 ⟨rfl, hd9⟩; replace x0 := pw_cell_below (drawn0_below hd9 _) x0; replace x1 := pw_cell_below (drawn0_below hd9 _) x1; replace x2 := pw_cell_below (drawn0_below hd9 _) x2; replace x3 := pw_cell_below (drawn0_below hd9 _) x3; replace x4 := pw_cell_below (drawn0_below hd9 _) x4; replace hBo := Aside0.mk (below_step hBo.out (drawn0_below hd9 _)); replace hCLo := Aside0.mk (hCLo.out.step (drawn0_below hd9 _)); replace hblk := Aside0.mk (((drawn0_below hd9 _).block g (Array.getElem?_eq_some_iff.1 hblk.out).1).trans hblk.out); clear hd9))
                    have hOB := Aside0.mk (show CL l w5 vc cs _ ∧ _ ∧ _ from ⟨hCLo.out, hblk.out, hBo.out⟩)
                    clear hCLo hblk hBo x0 x1 x2 x3 x4 x5 y1 u0 v0 v1 v2 v3 v4 v5
                    go_loopw [13] (fun v13 wr => ∃ (j : Nat), v13 = .int .i64 j ∧ j ≤ n5 ∧ Aside0 (CL l w5 vc cs wr ∧ wr.heap[g]? = some (.cells #[.int .i64 x.f0, .int .i64 x.f1, .int .i64 x.f2, .int .i64 x.f3, .int .i64 x.f4, .slice A5 n5 c5] 60 (0, 0)) ∧ Below w.heap.size w wr)) (fun v13 _ => n5 - (RowKit.intOf v13).toNat)
                    case atStart => exact ⟨0, rfl, by omega, hOB⟩
                    case round =>
                      clear hOB
                      obtain ⟨j, rfl, hj, hrel⟩ := hrel
                      have hCLj := Aside0.mk hrel.out.1
                      have hblkj := Aside0.mk hrel.out.2.1
                      have hBj := Aside0.mk hrel.out.2.2
                      clear hrel
                      have x0 : wr.cell? ⟨g, 0, none⟩ = some (.int .i64 x.f0) := by rw [cell_in hblkj.out]; rfl
                      have x1 : wr.cell? ⟨g, 1, none⟩ = some (.int .i64 x.f1) := by rw [cell_in hblkj.out]; rfl
                      have x2 : wr.cell? ⟨g, 2, none⟩ = some (.int .i64 x.f2) := by rw [cell_in hblkj.out]; rfl
                      have x3 : wr.cell? ⟨g, 3, none⟩ = some (.int .i64 x.f3) := by rw [cell_in hblkj.out]; rfl
                      have x4 : wr.cell? ⟨g, 4, none⟩ = some (.int .i64 x.f4) := by rw [cell_in hblkj.out]; rfl
                      have x5 : wr.cell? ⟨g, 5, none⟩ = some (.slice A5 n5 c5) := by rw [cell_in hblkj.out]; rfl
                      have hjl : ¬ j < n5 := by have := hn0.out; omega
                      have hjb : decide ((j : Int) < (n5 : Int)) = false := decide_eq_false (by omega)
                      go_wp2
                      go_roundw
                      case rel => exact ⟨_, k + 1, rfl, by go_num, by omega, ⟨_, by have := hcs'.out; omega, hCLj.out⟩⟩
                      case measure => simp [RowKit.intOf]; omega
                by_cases n2 : x.f0 = 2
                · have hkind := n2
                  clear n3 n2
                  by_cases m1 : x.f4 = 1
                  · have himm := m1
                    clear m1
                    have h3b : (x.f0 == 3) = false := by rw [hkind]; rfl
                    have h2b : (x.f0 == 2) = true := by rw [hkind]; rfl
                    have h7b : (x.f0 == 7) = false := by rw [hkind]; rfl
                    have h4b : (x.f0 == 4) = false := by rw [hkind]; rfl
                    have h5b : (x.f0 == 5) = false := by rw [hkind]; rfl
                    have i1b : (x.f4 == 1) = true := by rw [himm]; rfl
                    have i2b : (x.f4 == 2) = false := by rw [himm]; rfl
                    have hfA := hPC'.out.opA i y hy.out z hzm.out x hxm.out (.inr ⟨hkind, .inl himm⟩)
                    have hfB := hPC'.out.opB i y hy.out z hzm.out x hxm.out ⟨hkind, .inl himm⟩
                    have hn0 : Aside0 (n5 = 0) := ⟨by rw [← hn5'.out]; exact hnoargs.out (by omega)⟩
                    have hfA' := Aside0.mk (fun W hW => hal.out (i : Int) x.f1 (i : Int) x.f2 true W hW hfA)
                    have hfB' := Aside0.mk (fun W hW => hal.out (i : Int) x.f1 (i : Int) x.f3 true W hW hfB)
                    clear hkind himm hfA hfB
                    as_aux_lemma =>
                      go_wp2_with (first | (go_at_call 28; refine (hfA'.out _ hCLo.out.below).mono ?_; clear hfA'; rintro e w9 ⟨rfl, hd9⟩; replace x0 := pw_cell_below (drawn0_below hd9 _) x0; replace x1 := pw_cell_below (drawn0_below hd9 _) x1; replace x2 := pw_cell_below (drawn0_below hd9 _) x2; replace x3 := pw_cell_below (drawn0_below hd9 _) x3; replace x4 := pw_cell_below (drawn0_below hd9 _) x4; replace hBo := Aside0.mk (below_step hBo.out (drawn0_below hd9 _)); replace hCLo := Aside0.mk (hCLo.out.step (drawn0_below hd9 _)); replace hblk := Aside0.mk (((drawn0_below hd9 _).block g (Array.getElem?_eq_some_iff.1 hblk.out).1).trans hblk.out); clear hd9) | (go_at_call 28; refine (hfB'.out _ hCLo.out.below).mono ?_; clear hfB'; rintro e w9 ⟨rfl, hd9⟩; replace x0 := pw_cell_below (drawn0_below hd9 _) x0; replace x1 := pw_cell_below (drawn0_below hd9 _) x1; replace x2 := pw_cell_below (drawn0_below hd9 _) x2; replace x3 := pw_cell_below (drawn0_below hd9 _) x3; replace x4 := pw_cell_below (drawn0_below hd9 _) x4; replace hBo := Aside0.mk (below_step hBo.out (drawn0_below hd9 _)); replace hCLo := Aside0.mk (hCLo.out.step (drawn0_below hd9 _)); replace hblk := Aside0.mk (((drawn0_below hd9 _).block g (Array.getElem?_eq_some_iff.1 hblk.out).1).trans hblk.out); clear hd9))
                      have hOB := Aside0.mk (show CL l w5 vc cs _ ∧ _ ∧ _ from ⟨hCLo.out, hblk.out, hBo.out⟩)
                      clear hCLo hblk hBo x0 x1 x2 x3 x4 x5 y1 u0 v0 v1 v2 v3 v4 v5
                      go_loopw [13] (fun v13 wr => ∃ (j : Nat), v13 = .int .i64 j ∧ j ≤ n5 ∧ Aside0 (CL l w5 vc cs wr ∧ wr.heap[g]? = some (.cells #[.int .i64 x.f0, .int .i64 x.f1, .int .i64 x.f2, .int .i64 x.f3, .int .i64 x.f4, .slice A5 n5 c5] 60 (0, 0)) ∧ Below w.heap.size w wr)) (fun v13 _ => n5 - (RowKit.intOf v13).toNat)
                      case atStart => exact ⟨0, rfl, by omega, hOB⟩
                      case round =>
                        clear hOB
                        obtain ⟨j, rfl, hj, hrel⟩ := hrel
                        have hCLj := Aside0.mk hrel.out.1
                        have hblkj := Aside0.mk hrel.out.2.1
                        have hBj := Aside0.mk hrel.out.2.2
                        clear hrel
                        have x0 : wr.cell? ⟨g, 0, none⟩ = some (.int .i64 x.f0) := by rw [cell_in hblkj.out]; rfl
                        have x1 : wr.cell? ⟨g, 1, none⟩ = some (.int .i64 x.f1) := by rw [cell_in hblkj.out]; rfl
                        have x2 : wr.cell? ⟨g, 2, none⟩ = some (.int .i64 x.f2) := by rw [cell_in hblkj.out]; rfl
                        have x3 : wr.cell? ⟨g, 3, none⟩ = some (.int .i64 x.f3) := by rw [cell_in hblkj.out]; rfl
                        have x4 : wr.cell? ⟨g, 4, none⟩ = some (.int .i64 x.f4) := by rw [cell_in hblkj.out]; rfl
                        have x5 : wr.cell? ⟨g, 5, none⟩ = some (.slice A5 n5 c5) := by rw [cell_in hblkj.out]; rfl
                        have hjl : ¬ j < n5 := by have := hn0.out; omega
                        have hjb : decide ((j : Int) < (n5 : Int)) = false := decide_eq_false (by omega)
                        go_wp2
                        go_roundw
                        case rel => exact ⟨_, k + 1, rfl, by go_num, by omega, ⟨_, by have := hcs'.out; omega, hCLj.out⟩⟩
                        case measure => simp [RowKit.intOf]; omega
                  by_cases m2 : x.f4 = 2
                  · have himm := m2
                    clear m1 m2
                    have h3b : (x.f0 == 3) = false := by rw [hkind]; rfl
                    have h2b : (x.f0 == 2) = true := by rw [hkind]; rfl
                    have h7b : (x.f0 == 7) = false := by rw [hkind]; rfl
                    have h4b : (x.f0 == 4) = false := by rw [hkind]; rfl
                    have h5b : (x.f0 == 5) = false := by rw [hkind]; rfl
                    have i1b : (x.f4 == 1) = false := by rw [himm]; rfl
                    have i2b : (x.f4 == 2) = true := by rw [himm]; rfl
                    have hfA := hPC'.out.opA i y hy.out z hzm.out x hxm.out (.inr ⟨hkind, .inr himm⟩)
                    have hfB := hPC'.out.opB i y hy.out z hzm.out x hxm.out ⟨hkind, .inr himm⟩
                    have hn0 : Aside0 (n5 = 0) := ⟨by rw [← hn5'.out]; exact hnoargs.out (by omega)⟩
                    have hfA' := Aside0.mk (fun W hW => hal.out (i : Int) x.f1 (i : Int) x.f2 true W hW hfA)
                    have hfB' := Aside0.mk (fun W hW => hal.out (i : Int) x.f1 (i : Int) x.f3 true W hW hfB)
                    clear hkind himm hfA hfB
                    as_aux_lemma =>
                      go_wp2_with (first | (go_at_call 28; refine (hfA'.out _ hCLo.out.below).mono ?_; clear hfA'; rintro e w9 ⟨rfl, hd9⟩; replace x0 := pw_cell_below (drawn0_below hd9 _) x0; replace x1 := pw_cell_below (drawn0_below hd9 _) x1; replace x2 := pw_cell_below (drawn0_below hd9 _) x2; replace x3 := pw_cell_below (drawn0_below hd9 _) x3; replace x4 := pw_cell_below (drawn0_below hd9 _) x4; replace hBo := Aside0.mk (below_step hBo.out (drawn0_below hd9 _)); replace hCLo := Aside0.mk (hCLo.out.step (drawn0_below hd9 _)); replace hblk := Aside0.mk (((drawn0_below hd9 _).block g (Array.getElem?_eq_some_iff.1 hblk.out).1).trans hblk.out); clear hd9) | (go_at_call 28; refine (hfB'.out _ hCLo.out.below).mono ?_; clear hfB'; rintro e w9 ⟨rfl, hd9⟩; replace x0 := pw_cell_below (drawn0_below hd9 _) x0; replace x1 := pw_cell_below (drawn0_below hd9 _) x1; replace x2 := pw_cell_below (drawn0_below hd9 _) x2; replace x3 := pw_cell_below (drawn0_below hd9 _) x3; replace x4 := pw_cell_below (drawn0_below hd9 _) x4; replace hBo := Aside0.mk (below_step hBo.out (drawn0_below hd9 _)); replace hCLo := Aside0.mk (hCLo.out.step (drawn0_below hd9 _)); replace hblk := Aside0.mk (((drawn0_below hd9 _).block g (Array.getElem?_eq_some_iff.1 hblk.out).1).trans hblk.out); clear hd9))
                      have hOB := Aside0.mk (show CL l w5 vc cs _ ∧ _ ∧ _ from ⟨hCLo.out, hblk.out, hBo.out⟩)
                      clear hCLo hblk hBo x0 x1 x2 x3 x4 x5 y1 u0 v0 v1 v2 v3 v4 v5
                      go_loopw [13] (fun v13 wr => ∃ (j : Nat), v13 = .int .i64 j ∧ j ≤ n5 ∧ Aside0 (CL l w5 vc cs wr ∧ wr.heap[g]? = some (.cells #[.int .i64 x.f0, .int .i64 x.f1, .int .i64 x.f2, .int .i64 x.f3, .int .i64 x.f4, .slice A5 n5 c5] 60 (0, 0)) ∧ Below w.heap.size w wr)) (fun v13 _ => n5 - (RowKit.intOf v13).toNat)
                      case atStart => exact ⟨0, rfl, by omega, hOB⟩
                      case round =>
                        clear hOB
                        obtain ⟨j, rfl, hj, hrel⟩ := hrel
                        have hCLj := Aside0.mk hrel.out.1
                        have hblkj := Aside0.mk hrel.out.2.1
                        have hBj := Aside0.mk hrel.out.2.2
                        clear hrel
                        have x0 : wr.cell? ⟨g, 0, none⟩ = some (.int .i64 x.f0) := by rw [cell_in hblkj.out]; rfl
                        have x1 : wr.cell? ⟨g, 1, none⟩ = some (.int .i64 x.f1) := by rw [cell_in hblkj.out]; rfl
                        have x2 : wr.cell? ⟨g, 2, none⟩ = some (.int .i64 x.f2) := by rw [cell_in hblkj.out]; rfl
                        have x3 : wr.cell? ⟨g, 3, none⟩ = some (.int .i64 x.f3) := by rw [cell_in hblkj.out]; rfl
                        have x4 : wr.cell? ⟨g, 4, none⟩ = some (.int .i64 x.f4) := by rw [cell_in hblkj.out]; rfl
                        have x5 : wr.cell? ⟨g, 5, none⟩ = some (.slice A5 n5 c5) := by rw [cell_in hblkj.out]; rfl
                        have hjl : ¬ j < n5 := by have := hn0.out; omega
                        have hjb : decide ((j : Int) < (n5 : Int)) = false := decide_eq_false (by omega)
                        go_wp2
                        go_roundw
                        case rel => exact ⟨_, k + 1, rfl, by go_num, by omega, ⟨_, by have := hcs'.out; omega, hCLj.out⟩⟩
                        case measure => simp [RowKit.intOf]; omega
                  · have himm : ¬ (x.f4 = 1 ∨ x.f4 = 2) := by omega
                    clear m1 m2
                    have h3b : (x.f0 == 3) = false := by rw [hkind]; rfl
                    have h2b : (x.f0 == 2) = true := by rw [hkind]; rfl
                    have h7b : (x.f0 == 7) = false := by rw [hkind]; rfl
                    have h4b : (x.f0 == 4) = false := by rw [hkind]; rfl
                    have h5b : (x.f0 == 5) = false := by rw [hkind]; rfl
                    have i1b : (x.f4 == 1) = false := beq_false_of_ne (by omega)
                    have i2b : (x.f4 == 2) = false := beq_false_of_ne (by omega)
                    have hn0 : Aside0 (n5 = 0) := ⟨by rw [← hn5'.out]; exact hnoargs.out (by omega)⟩
                    clear hkind himm
                    as_aux_lemma =>
                      go_wp2
                      have hOB := Aside0.mk (show CL l w5 vc cs _ ∧ _ ∧ _ from ⟨hCLo.out, hblk.out, hBo.out⟩)
                      clear hCLo hblk hBo x0 x1 x2 x3 x4 x5 y1 u0 v0 v1 v2 v3 v4 v5 hwo
                      go_loopw [13] (fun v13 wr => ∃ (j : Nat), v13 = .int .i64 j ∧ j ≤ n5 ∧ Aside0 (CL l w5 vc cs wr ∧ wr.heap[g]? = some (.cells #[.int .i64 x.f0, .int .i64 x.f1, .int .i64 x.f2, .int .i64 x.f3, .int .i64 x.f4, .slice A5 n5 c5] 60 (0, 0)) ∧ Below w.heap.size w wr)) (fun v13 _ => n5 - (RowKit.intOf v13).toNat)
                      case atStart => exact ⟨0, rfl, by omega, hOB⟩
                      case round =>
                        clear hOB
                        obtain ⟨j, rfl, hj, hrel⟩ := hrel
                        have hCLj := Aside0.mk hrel.out.1
                        have hblkj := Aside0.mk hrel.out.2.1
                        have hBj := Aside0.mk hrel.out.2.2
                        clear hrel
                        have x0 : wr.cell? ⟨g, 0, none⟩ = some (.int .i64 x.f0) := by rw [cell_in hblkj.out]; rfl
                        have x1 : wr.cell? ⟨g, 1, none⟩ = some (.int .i64 x.f1) := by rw [cell_in hblkj.out]; rfl
                        have x2 : wr.cell? ⟨g, 2, none⟩ = some (.int .i64 x.f2) := by rw [cell_in hblkj.out]; rfl
                        have x3 : wr.cell? ⟨g, 3, none⟩ = some (.int .i64 x.f3) := by rw [cell_in hblkj.out]; rfl
                        have x4 : wr.cell? ⟨g, 4, none⟩ = some (.int .i64 x.f4) := by rw [cell_in hblkj.out]; rfl
                        have x5 : wr.cell? ⟨g, 5, none⟩ = some (.slice A5 n5 c5) := by rw [cell_in hblkj.out]; rfl
                        have hjl : ¬ j < n5 := by have := hn0.out; omega
                        have hjb : decide ((j : Int) < (n5 : Int)) = false := decide_eq_false (by omega)
                        go_wp2
                        go_roundw
                        case rel => exact ⟨_, k + 1, rfl, by go_num, by omega, ⟨_, by have := hcs'.out; omega, hCLj.out⟩⟩
                        case measure => simp [RowKit.intOf]; omega
                by_cases n7 : x.f0 = 7
                · have hkind := n7
                  clear n3 n2 n7
                  have h3b : (x.f0 == 3) = false := by rw [hkind]; rfl
                  have h2b : (x.f0 == 2) = false := by rw [hkind]; rfl
                  have h7b : (x.f0 == 7) = true := by rw [hkind]; rfl
                  have h4b : (x.f0 == 4) = false := by rw [hkind]; rfl
                  have h5b : (x.f0 == 5) = false := by rw [hkind]; rfl
                  have hfC := hPC'.out.opC i y hy.out z hzm.out x hxm.out hkind
                  have hfC' := Aside0.mk (fun W hW => hal.out (i : Int) x.f1 x.f4 0 true W hW hfC)
                  clear hkind hfC
                  as_aux_lemma =>
                    go_wp2_with (first | (go_at_call 28; refine (hfC'.out _ hCLo.out.below).mono ?_; clear hfC'; rintro e w9 ⟨rfl, hd9⟩; replace x0 := pw_cell_below (drawn0_below hd9 _) x0; replace x1 := pw_cell_below (drawn0_below hd9 _) x1; replace x2 := pw_cell_below (drawn0_below hd9 _) x2; replace x3 := pw_cell_below (drawn0_below hd9 _) x3; replace x4 := pw_cell_below (drawn0_below hd9 _) x4; replace hBo := Aside0.mk (below_step hBo.out (drawn0_below hd9 _)); replace hCLo := Aside0.mk (hCLo.out.step (drawn0_below hd9 _)); replace hblk := Aside0.mk (((drawn0_below hd9 _).block g (Array.getElem?_eq_some_iff.1 hblk.out).1).trans hblk.out); clear hd9))
                    have hOB := Aside0.mk (show CL l w5 vc cs _ ∧ _ ∧ _ from ⟨hCLo.out, hblk.out, hBo.out⟩)
                    clear hCLo hblk hBo x0 x1 x2 x3 x4 x5 y1 u0 v0 v1 v2 v3 v4 v5
                    go_loopw [13] (fun v13 wr => ∃ (j : Nat), v13 = .int .i64 j ∧ j ≤ n5 ∧ Aside0 (CL l w5 vc cs wr ∧ wr.heap[g]? = some (.cells #[.int .i64 x.f0, .int .i64 x.f1, .int .i64 x.f2, .int .i64 x.f3, .int .i64 x.f4, .slice A5 n5 c5] 60 (0, 0)) ∧ Below w.heap.size w wr)) (fun v13 _ => n5 - (RowKit.intOf v13).toNat)
                    case atStart => exact ⟨0, rfl, by omega, hOB⟩
                    case round =>
                      clear hOB
                      obtain ⟨j, rfl, hj, hrel⟩ := hrel
                      have hCLj := Aside0.mk hrel.out.1
                      have hblkj := Aside0.mk hrel.out.2.1
                      have hBj := Aside0.mk hrel.out.2.2
                      clear hrel
                      have x0 : wr.cell? ⟨g, 0, none⟩ = some (.int .i64 x.f0) := by rw [cell_in hblkj.out]; rfl
                      have x1 : wr.cell? ⟨g, 1, none⟩ = some (.int .i64 x.f1) := by rw [cell_in hblkj.out]; rfl
                      have x2 : wr.cell? ⟨g, 2, none⟩ = some (.int .i64 x.f2) := by rw [cell_in hblkj.out]; rfl
                      have x3 : wr.cell? ⟨g, 3, none⟩ = some (.int .i64 x.f3) := by rw [cell_in hblkj.out]; rfl
                      have x4 : wr.cell? ⟨g, 4, none⟩ = some (.int .i64 x.f4) := by rw [cell_in hblkj.out]; rfl
                      have x5 : wr.cell? ⟨g, 5, none⟩ = some (.slice A5 n5 c5) := by rw [cell_in hblkj.out]; rfl
                      by_cases hjl : j < n5
                      · have hjb : decide ((j : Int) < (n5 : Int)) = true := decide_eq_true (by omega)
                        have hpj : (0 : Int) ≤ (j : Int) := by omega
                        have hqj : (j : Int) < (n5 : Int) := by omega
                        obtain ⟨ad5, e5, hca⟩ := Kd.at_int (Kd.C_below hCa'.out hBj.out) (j : Int) hpj hqj
                        subst e5
                        obtain ⟨a, ha⟩ : ∃ a, rd x.f5 (j : Int) = a := ⟨_, rfl⟩
                        rw [Int.toNat_natCast, ha] at hca
                        have hfarg := Aside0.mk (hPC'.out.arg i y hy.out z hzm.out x hxm.out j a (by rw [← ha, rd_of (by have := hn5'.out; omega)]; exact List.getElem?_eq_getElem _))
                        have hj20 : j ≤ 20 := by omega
                        have hwj : wrap64 ((j : Int) + 1) = (j : Int) + 1 := by unfold wrap64; omega
                        have hwj2 : IntKind.i64.wrap ((j : Int) + 1) = (j : Int) + 1 := by rw [i64_w]; exact hwj
                        clear ha x0 x1 x2 x3
                        go_wp2
                        obtain ⟨Wd, hWd⟩ : ∃ Wd, wr.drew = Wd := ⟨_, rfl⟩
                        have hCLd : Aside0 (CL l w5 vc cs Wd) := ⟨by rw [← hWd]; exact hCLj.out.step (drew_below _)⟩
                        have hblkd : Aside0 (Wd.heap[g]? = some (.cells #[.int .i64 x.f0, .int .i64 x.f1, .int .i64 x.f2, .int .i64 x.f3, .int .i64 x.f4, .slice (some ad5) n5 c5] 60 (0, 0))) := ⟨by rw [← hWd]; exact hblkj.out⟩
                        have hBd : Aside0 (Below w.heap.size w Wd) := ⟨by rw [← hWd]; exact below_step hBj.out (drew_below _)⟩
                        refine start_ (n := 23) #[false, false, false, false, false, false, false, false, false, false, false, false, false, false, false, false, false, false, false, false, false, false, false] (S := fun w' => w'.cell? ⟨g, 5, none⟩ = some (.slice (some ad5) n5 c5) ∧ w'.cell? ⟨g, 4, none⟩ = some (.int .i64 x.f4) ∧ w'.cell? (ad5.add j) = some (.int .i64 a)) (ds := []) hmix rfl rfl (by rw [hWd]; exact ⟨by rw [cell_in hblkd.out]; rfl, by rw [cell_in hblkd.out]; rfl, by rw [← hWd]; exact hca⟩) (fun hHeld => ?_)
                        rw [hWd] at hHeld ⊢
                        clear hWd hca x4 x5 hCLj hblkj hBj
                        refine pure_ (i := 0) (N := some 164) (v := ?_) (a' := ?_) #[true, false, false, false, false, false, false, false, false, false, false, false, false, false, false, false, false, false, false, false, false, false, false] rfl rfl (by kernel_rfl) (fun _ _ _ h => h) (Or.inl ⟨by rfl, ?_⟩) ?_ ?_
                        rotate_left
                        · intro w'
                          go_simp
                          try with_reducible rfl
                        rotate_left
                        · simp only [Act.put, List.setIfInBounds_toArray, List.set_cons_zero, List.set_cons_succ, i64_w, i32_w]
                          rfl
                        refine pure_ (i := 1) (N := some 165) (v := ?_) (a' := ?_) #[true, true, false, false, false, false, false, false, false, false, false, false, false, false, false, false, false, false, false, false, false, false, false] rfl rfl (by kernel_rfl) (fun _ _ _ h => h) (Or.inl ⟨by rfl, ?_⟩) ?_ ?_
                        rotate_left
                        · intro w'
                          go_simp
                          try with_reducible rfl
                        rotate_left
                        · simp only [Act.put, List.setIfInBounds_toArray, List.set_cons_zero, List.set_cons_succ, i64_w, i32_w]
                          rfl
                        refine pure_ (i := 2) (N := some 166) (v := ?_) (a' := ?_) #[true, true, true, false, false, false, false, false, false, false, false, false, false, false, false, false, false, false, false, false, false, false, false] rfl rfl (by kernel_rfl) (fun _ _ _ h => h) (Or.inl ⟨by rfl, ?_⟩) ?_ ?_
                        rotate_left
                        · intro w'
                          go_simp
                          try with_reducible rfl
                        rotate_left
                        · simp only [Act.put, List.setIfInBounds_toArray, List.set_cons_zero, List.set_cons_succ, i64_w, i32_w]
                          rfl
                        refine take_ (i := 3) (N := some 167) (v := ?_) (a' := ?_) #[true, true, true, true, false, false, false, false, false, false, false, false, false, false, false, false, false, false, false, false, false, false, false] rfl rfl (by kernel_rfl) (fun _ _ _ h => h) (Or.inl ⟨by rfl, ?_⟩) hHeld ?_ ?_
                        rotate_left
                        · rintro w' ⟨s0, s1, s2⟩
                          go_simp
                          try with_reducible rfl
                        rotate_left
                        · simp only [Act.put, List.setIfInBounds_toArray, List.set_cons_zero, List.set_cons_succ, i64_w, i32_w]
                          rfl
                        refine pure_ (i := 4) (N := some 168) (v := ?_) (a' := ?_) #[true, true, true, true, true, false, false, false, false, false, false, false, false, false, false, false, false, false, false, false, false, false, false] rfl rfl (by kernel_rfl) (fun _ _ _ h => h) (Or.inl ⟨by rfl, ?_⟩) ?_ ?_
                        rotate_left
                        · intro w'
                          go_simp
                          try with_reducible rfl
                        rotate_left
                        · simp only [Act.put, List.setIfInBounds_toArray, List.set_cons_zero, List.set_cons_succ, i64_w, i32_w]
                          rfl
                        refine pure_ (i := 5) (N := some 169) (v := ?_) (a' := ?_) #[true, true, true, true, true, true, false, false, false, false, false, false, false, false, false, false, false, false, false, false, false, false, false] rfl rfl (by kernel_rfl) (fun _ _ _ h => h) (Or.inl ⟨by rfl, ?_⟩) ?_ ?_
                        rotate_left
                        · intro w'
                          go_simp
                          try with_reducible rfl
                        rotate_left
                        · simp only [Act.put, List.setIfInBounds_toArray, List.set_cons_zero, List.set_cons_succ, i64_w, i32_w]
                          rfl
                        refine take_ (i := 6) (N := some 170) (v := ?_) (a' := ?_) #[true, true, true, true, true, true, true, false, false, false, false, false, false, false, false, false, false, false, false, false, false, false, false] rfl rfl (by kernel_rfl) (fun _ _ _ h => h) (Or.inl ⟨by rfl, ?_⟩) hHeld ?_ ?_
                        rotate_left
                        · rintro w' ⟨s0, s1, s2⟩
                          go_simp
                          try with_reducible rfl
                        rotate_left
                        · simp only [Act.put, List.setIfInBounds_toArray, List.set_cons_zero, List.set_cons_succ, i64_w, i32_w]
                          rfl
                        refine pure_ (i := 7) (N := some 171) (v := ?_) (a' := ?_) #[true, true, true, true, true, true, true, true, false, false, false, false, false, false, false, false, false, false, false, false, false, false, false] rfl rfl (by kernel_rfl) (fun _ _ _ h => h) (Or.inl ⟨by rfl, ?_⟩) ?_ ?_
                        rotate_left
                        · intro w'
                          go_simp
                          try with_reducible rfl
                        rotate_left
                        · simp only [Act.put, List.setIfInBounds_toArray, List.set_cons_zero, List.set_cons_succ, i64_w, i32_w]
                          rfl
                        refine take_ (i := 8) (N := some 172) (v := ?_) (a' := ?_) #[true, true, true, true, true, true, true, true, true, false, false, false, false, false, false, false, false, false, false, false, false, false, false] rfl rfl (by kernel_rfl) (fun _ _ _ h => h) (Or.inl ⟨by rfl, ?_⟩) hHeld ?_ ?_
                        rotate_left
                        · rintro w' ⟨s0, s1, s2⟩
                          go_simp
                          try with_reducible rfl
                        rotate_left
                        · simp only [Act.put, List.setIfInBounds_toArray, List.set_cons_zero, List.set_cons_succ, i64_w, i32_w]
                          rfl
                        refine pure_ (i := 9) (N := some 173) (v := ?_) (a' := ?_) #[true, true, true, true, true, true, true, true, true, true, false, false, false, false, false, false, false, false, false, false, false, false, false] rfl rfl (by kernel_rfl) (fun _ _ _ h => h) (Or.inl ⟨by rfl, ?_⟩) ?_ ?_
                        rotate_left
                        · intro w'
                          go_simp
                          try with_reducible rfl
                        rotate_left
                        · simp only [Act.put, List.setIfInBounds_toArray, List.set_cons_zero, List.set_cons_succ, i64_w, i32_w]
                          rfl
                        refine pure_ (i := 10) (N := some 174) (v := .int .i64 ((j : Int) + 1)) (a' := ?_) #[true, true, true, true, true, true, true, true, true, true, true, false, false, false, false, false, false, false, false, false, false, false, false] rfl rfl (by kernel_rfl) (fun _ _ _ h => h) (Or.inl ⟨by rfl, ?_⟩) ?_ ?_
                        · intro w'
                          go_simp
                          first | done | (with_reducible rfl) | (simp only [*, decide_true, decide_false, if_true, if_false]; done) | (simp [*]; done) | omega | (unfold wrap64; omega)
                        rotate_left
                        · simp only [Act.put, List.setIfInBounds_toArray, List.set_cons_zero, List.set_cons_succ, i64_w, i32_w]
                          rfl
                        refine one_ (i := 11) (N := some 175) #[true, true, true, true, true, true, true, true, true, true, true, true, false, false, false, false, false, false, false, false, false, false, false] rfl rfl (by kernel_rfl) (by decide) (fun K hK => ?_)
                        refine call_ 28 _ (by rfl) rfl (by go_simp; rfl) ?_
                        refine (hal.out (i : Int) a x.f4 ((j : Int) + 1) true _ hCLd.out.below hfarg.out).mono ?_
                        rintro e w9 ⟨rfl, hd9⟩
                        refine ⟨_, rfl, ?_⟩
                        have hCL9 := Aside0.mk (hCLd.out.step (drawn0_below hd9 _))
                        have hblk9 := Aside0.mk (((drawn0_below hd9 _).block g (Array.getElem?_eq_some_iff.1 hblkd.out).1).trans hblkd.out)
                        have hB9 := Aside0.mk (below_step hBd.out (drawn0_below hd9 _))
                        refine hK.out _ _ ⟨pw_cell_below (drawn0_below hd9 _) hHeld.1, pw_cell_below (drawn0_below hd9 _) hHeld.2.1, pw_cell_below (drawn0_below hd9 _) hHeld.2.2⟩ (fun hHeld => ?_)
                        clear hd9
                        clear hK K
                        refine norm_ (a' := ?_) ?_ ?_
                        rotate_left
                        · show Act.put _ (some 175) _ = _
                          simp only [Act.put, List.setIfInBounds_toArray, List.set_cons_zero, List.set_cons_succ, i64_w, i32_w]
                          rfl
                        refine pure_ (i := 12) (N := some 176) (v := ?_) (a' := ?_) #[true, true, true, true, true, true, true, true, true, true, true, true, true, false, false, false, false, false, false, false, false, false, false] rfl rfl (by kernel_rfl) (fun _ _ _ h => h) (Or.inl ⟨by rfl, ?_⟩) ?_ ?_
                        rotate_left
                        · intro w'
                          go_simp
                          try with_reducible rfl
                        rotate_left
                        · simp only [Act.put, List.setIfInBounds_toArray, List.set_cons_zero, List.set_cons_succ, i64_w, i32_w]
                          rfl
                        refine pure_ (i := 13) (N := some 177) (v := ?_) (a' := ?_) #[true, true, true, true, true, true, true, true, true, true, true, true, true, true, false, false, false, false, false, false, false, false, false] rfl rfl (by kernel_rfl) (fun _ _ _ h => h) (Or.inl ⟨by rfl, ?_⟩) ?_ ?_
                        rotate_left
                        · intro w'
                          go_simp
                          try with_reducible rfl
                        rotate_left
                        · simp only [Act.put, List.setIfInBounds_toArray, List.set_cons_zero, List.set_cons_succ, i64_w, i32_w]
                          rfl
                        refine pure_ (i := 14) (N := some 178) (v := undef) (a' := ?_) #[true, true, true, true, true, true, true, true, true, true, true, true, true, true, true, false, false, false, false, false, false, false, false] rfl rfl (by kernel_rfl) (fun _ _ _ h => h) (Or.inr ⟨by rfl, rfl⟩) ?_ ?_
                        rotate_left
                        · simp only [Act.put, List.setIfInBounds_toArray, List.set_cons_zero, List.set_cons_succ, i64_w, i32_w]
                          rfl
                        refine pure_ (i := 15) (N := some 179) (v := undef) (a' := ?_) #[true, true, true, true, true, true, true, true, true, true, true, true, true, true, true, true, false, false, false, false, false, false, false] rfl rfl (by kernel_rfl) (fun _ _ _ h => h) (Or.inr ⟨by rfl, rfl⟩) ?_ ?_
                        rotate_left
                        · simp only [Act.put, List.setIfInBounds_toArray, List.set_cons_zero, List.set_cons_succ, i64_w, i32_w]
                          rfl
                        refine pure_ (i := 16) (N := some 180) (v := undef) (a' := ?_) #[true, true, true, true, true, true, true, true, true, true, true, true, true, true, true, true, true, false, false, false, false, false, false] rfl rfl (by kernel_rfl) (fun _ _ _ h => h) (Or.inr ⟨by rfl, rfl⟩) ?_ ?_
                        rotate_left
                        · simp only [Act.put, List.setIfInBounds_toArray, List.set_cons_zero, List.set_cons_succ, i64_w, i32_w]
                          rfl
                        refine pure_ (i := 17) (N := some 181) (v := undef) (a' := ?_) #[true, true, true, true, true, true, true, true, true, true, true, true, true, true, true, true, true, true, false, false, false, false, false] rfl rfl (by kernel_rfl) (fun _ _ _ h => h) (Or.inr ⟨by rfl, rfl⟩) ?_ ?_
                        rotate_left
                        · simp only [Act.put, List.setIfInBounds_toArray, List.set_cons_zero, List.set_cons_succ, i64_w, i32_w]
                          rfl
                        refine pure_ (i := 18) (N := some 182) (v := undef) (a' := ?_) #[true, true, true, true, true, true, true, true, true, true, true, true, true, true, true, true, true, true, true, false, false, false, false] rfl rfl (by kernel_rfl) (fun _ _ _ h => h) (Or.inr ⟨by rfl, rfl⟩) ?_ ?_
                        rotate_left
                        · simp only [Act.put, List.setIfInBounds_toArray, List.set_cons_zero, List.set_cons_succ, i64_w, i32_w]
                          rfl
                        refine pure_ (i := 19) (N := some 183) (v := undef) (a' := ?_) #[true, true, true, true, true, true, true, true, true, true, true, true, true, true, true, true, true, true, true, true, false, false, false] rfl rfl (by kernel_rfl) (fun _ _ _ h => h) (Or.inr ⟨by rfl, rfl⟩) ?_ ?_
                        rotate_left
                        · simp only [Act.put, List.setIfInBounds_toArray, List.set_cons_zero, List.set_cons_succ, i64_w, i32_w]
                          rfl
                        refine pure_ (i := 20) (N := some 184) (v := undef) (a' := ?_) #[true, true, true, true, true, true, true, true, true, true, true, true, true, true, true, true, true, true, true, true, true, false, false] rfl rfl (by kernel_rfl) (fun _ _ _ h => h) (Or.inr ⟨by rfl, rfl⟩) ?_ ?_
                        rotate_left
                        · simp only [Act.put, List.setIfInBounds_toArray, List.set_cons_zero, List.set_cons_succ, i64_w, i32_w]
                          rfl
                        refine pure_ (i := 21) (N := some 185) (v := undef) (a' := ?_) #[true, true, true, true, true, true, true, true, true, true, true, true, true, true, true, true, true, true, true, true, true, true, false] rfl rfl (by kernel_rfl) (fun _ _ _ h => h) (Or.inr ⟨by rfl, rfl⟩) ?_ ?_
                        rotate_left
                        · simp only [Act.put, List.setIfInBounds_toArray, List.set_cons_zero, List.set_cons_succ, i64_w, i32_w]
                          rfl
                        refine pure_ (i := 22) (N := some 186) (v := ?_) (a' := ?_) #[true, true, true, true, true, true, true, true, true, true, true, true, true, true, true, true, true, true, true, true, true, true, true] rfl rfl (by kernel_rfl) (fun _ _ _ h => h) (Or.inl ⟨by rfl, ?_⟩) ?_ ?_
                        rotate_left
                        · intro w'
                          go_simp
                          try with_reducible rfl
                        rotate_left
                        · simp only [Act.put, List.setIfInBounds_toArray, List.set_cons_zero, List.set_cons_succ, i64_w, i32_w]
                          rfl
                        refine done_ (by kernel_rfl) ?_
                        go_wp2
                        go_roundw
                        case rel => exact ⟨j + 1, by go_num, by clear hwj hwj2; omega, ⟨hCL9.out, hblk9.out, hB9.out⟩⟩
                        case measure => clear hwj hwj2; simp [RowKit.intOf]; omega
                      · have hjb : decide ((j : Int) < (n5 : Int)) = false := decide_eq_false (by omega)
                        go_wp2
                        go_roundw
                        case rel => exact ⟨_, k + 1, rfl, by go_num, by omega, ⟨_, by have := hcs'.out; omega, hCLj.out⟩⟩
                        case measure => simp [RowKit.intOf]; omega
                by_cases n4 : x.f0 = 4
                · have hkind := n4
                  clear n3 n2 n7 n4
                  have h3b : (x.f0 == 3) = false := by rw [hkind]; rfl
                  have h2b : (x.f0 == 2) = false := by rw [hkind]; rfl
                  have h7b : (x.f0 == 7) = false := by rw [hkind]; rfl
                  have h4b : (x.f0 == 4) = true := by rw [hkind]; rfl
                  have h5b : (x.f0 == 5) = false := by rw [hkind]; rfl
                  have hok6 := Aside0.mk (hPC'.out.c4 i y hy.out z hzm.out x hxm.out hkind)
                  have hn0 : Aside0 (n5 = 0) := ⟨by rw [← hn5'.out]; exact hnoargs.out (by omega)⟩
                  clear hkind
                  as_aux_lemma =>
                    go_wp2
                    have hOB := Aside0.mk (show CL l w5 vc cs _ ∧ _ ∧ _ from ⟨hCLo.out, hblk.out, hBo.out⟩)
                    clear hCLo hblk hBo x0 x1 x2 x3 x4 x5 y1 u0 v0 v1 v2 v3 v4 v5 hwo
                    go_loopw [13] (fun v13 wr => ∃ (j : Nat), v13 = .int .i64 j ∧ j ≤ n5 ∧ Aside0 (CL l w5 vc cs wr ∧ wr.heap[g]? = some (.cells #[.int .i64 x.f0, .int .i64 x.f1, .int .i64 x.f2, .int .i64 x.f3, .int .i64 x.f4, .slice A5 n5 c5] 60 (0, 0)) ∧ Below w.heap.size w wr)) (fun v13 _ => n5 - (RowKit.intOf v13).toNat)
                    case atStart => exact ⟨0, rfl, by omega, hOB⟩
                    case round =>
                      clear hOB
                      obtain ⟨j, rfl, hj, hrel⟩ := hrel
                      have hCLj := Aside0.mk hrel.out.1
                      have hblkj := Aside0.mk hrel.out.2.1
                      have hBj := Aside0.mk hrel.out.2.2
                      clear hrel
                      have x0 : wr.cell? ⟨g, 0, none⟩ = some (.int .i64 x.f0) := by rw [cell_in hblkj.out]; rfl
                      have x1 : wr.cell? ⟨g, 1, none⟩ = some (.int .i64 x.f1) := by rw [cell_in hblkj.out]; rfl
                      have x2 : wr.cell? ⟨g, 2, none⟩ = some (.int .i64 x.f2) := by rw [cell_in hblkj.out]; rfl
                      have x3 : wr.cell? ⟨g, 3, none⟩ = some (.int .i64 x.f3) := by rw [cell_in hblkj.out]; rfl
                      have x4 : wr.cell? ⟨g, 4, none⟩ = some (.int .i64 x.f4) := by rw [cell_in hblkj.out]; rfl
                      have x5 : wr.cell? ⟨g, 5, none⟩ = some (.slice A5 n5 c5) := by rw [cell_in hblkj.out]; rfl
                      have hjl : ¬ j < n5 := by have := hn0.out; omega
                      have hjb : decide ((j : Int) < (n5 : Int)) = false := decide_eq_false (by omega)
                      go_wp2_with (first | ((with_reducible refine gate_builtin (b := .append) (xs := #[.tmp 190, .tmp 197]) rfl ?_); at_builtin; refine Kd.R_append k62 (w0 := w5) w5.heap.size rfl (.tmp 190) (.tmp 197) 49 62 (.agg #[.int .i64 0, .int .i64 0, .int .i64 0]) 24 rfl Try.underlying49 info62 rfl (by decide) (by decide) vc cs ⟨(i : Int), x.f2, x.f1⟩ [.int .i64 (i : Int), .int .i64 x.f2, .int .i64 x.f1] (fun _ => True) (fun _ => False) rfl rfl ?aP (fun _ hk => hk.elim) ?aF ?aO ?aB ?aS ?aL ?_; (case aP => exact k62_mkM _ _ _ _); (case aB => exact hCLj.out.below); (case aF => exact (fun _ _ => trivial)); (case aO => exact hCLj.out.own); (case aS => exact hCLj.out.below.size); (case aL => have := hcs'.out; omega); intro v61 w61 hv61 hb61 hg61 hat61; have hCL6 := Aside0.mk (CL.mk hb61 hv61 (by intro c hc; rcases List.mem_append.1 hc with hc | hc; exact hCLj.out.ok c hc; rw [List.mem_singleton.1 hc]; exact hok6.out)); have q0 : w61.cell? ⟨g, 0, none⟩ = some (.int .i64 x.f0) := cell_grown hg61 x0 (Kd.R_ne hCLj.out.own hblkj.out (by decide)); clear hv61 hb61 hg61 hat61))
                      go_roundw
                      case rel => exact ⟨_, k + 1, rfl, by go_num, by omega, ⟨_, by rw [List.length_append, List.length_singleton]; have := hcs'.out; omega, hCL6.out⟩⟩
                      case measure => simp [RowKit.intOf]; omega
                by_cases n5x : x.f0 = 5
                · have hkind := n5x
                  clear n3 n2 n7 n4 n5x
                  have h3b : (x.f0 == 3) = false := by rw [hkind]; rfl
                  have h2b : (x.f0 == 2) = false := by rw [hkind]; rfl
                  have h7b : (x.f0 == 7) = false := by rw [hkind]; rfl
                  have h4b : (x.f0 == 4) = false := by rw [hkind]; rfl
                  have h5b : (x.f0 == 5) = true := by rw [hkind]; rfl
                  have hok6 := Aside0.mk (hPC'.out.c5 i y hy.out z hzm.out x hxm.out hkind)
                  have hn0 : Aside0 (n5 = 0) := ⟨by rw [← hn5'.out]; exact hnoargs.out (by omega)⟩
                  clear hkind
                  as_aux_lemma =>
                    go_wp2
                    have hOB := Aside0.mk (show CL l w5 vc cs _ ∧ _ ∧ _ from ⟨hCLo.out, hblk.out, hBo.out⟩)
                    clear hCLo hblk hBo x0 x1 x2 x3 x4 x5 y1 u0 v0 v1 v2 v3 v4 v5 hwo
                    go_loopw [13] (fun v13 wr => ∃ (j : Nat), v13 = .int .i64 j ∧ j ≤ n5 ∧ Aside0 (CL l w5 vc cs wr ∧ wr.heap[g]? = some (.cells #[.int .i64 x.f0, .int .i64 x.f1, .int .i64 x.f2, .int .i64 x.f3, .int .i64 x.f4, .slice A5 n5 c5] 60 (0, 0)) ∧ Below w.heap.size w wr)) (fun v13 _ => n5 - (RowKit.intOf v13).toNat)
                    case atStart => exact ⟨0, rfl, by omega, hOB⟩
                    case round =>
                      clear hOB
                      obtain ⟨j, rfl, hj, hrel⟩ := hrel
                      have hCLj := Aside0.mk hrel.out.1
                      have hblkj := Aside0.mk hrel.out.2.1
                      have hBj := Aside0.mk hrel.out.2.2
                      clear hrel
                      have x0 : wr.cell? ⟨g, 0, none⟩ = some (.int .i64 x.f0) := by rw [cell_in hblkj.out]; rfl
                      have x1 : wr.cell? ⟨g, 1, none⟩ = some (.int .i64 x.f1) := by rw [cell_in hblkj.out]; rfl
                      have x2 : wr.cell? ⟨g, 2, none⟩ = some (.int .i64 x.f2) := by rw [cell_in hblkj.out]; rfl
                      have x3 : wr.cell? ⟨g, 3, none⟩ = some (.int .i64 x.f3) := by rw [cell_in hblkj.out]; rfl
                      have x4 : wr.cell? ⟨g, 4, none⟩ = some (.int .i64 x.f4) := by rw [cell_in hblkj.out]; rfl
                      have x5 : wr.cell? ⟨g, 5, none⟩ = some (.slice A5 n5 c5) := by rw [cell_in hblkj.out]; rfl
                      have hjl : ¬ j < n5 := by have := hn0.out; omega
                      have hjb : decide ((j : Int) < (n5 : Int)) = false := decide_eq_false (by omega)
                      go_wp2_with (first | ((with_reducible refine gate_builtin (b := .append) (xs := #[.tmp 202, .tmp 209]) rfl ?_); at_builtin; refine Kd.R_append k62 (w0 := w5) w5.heap.size rfl (.tmp 202) (.tmp 209) 49 62 (.agg #[.int .i64 0, .int .i64 0, .int .i64 0]) 24 rfl Try.underlying49 info62 rfl (by decide) (by decide) vc cs ⟨(i : Int), x.f2, x.f3⟩ [.int .i64 (i : Int), .int .i64 x.f2, .int .i64 x.f3] (fun _ => True) (fun _ => False) rfl rfl ?aP (fun _ hk => hk.elim) ?aF ?aO ?aB ?aS ?aL ?_; (case aP => exact k62_mkM _ _ _ _); (case aB => exact hCLj.out.below); (case aF => exact (fun _ _ => trivial)); (case aO => exact hCLj.out.own); (case aS => exact hCLj.out.below.size); (case aL => have := hcs'.out; omega); intro v61 w61 hv61 hb61 hg61 hat61; have hCL6 := Aside0.mk (CL.mk hb61 hv61 (by intro c hc; rcases List.mem_append.1 hc with hc | hc; exact hCLj.out.ok c hc; rw [List.mem_singleton.1 hc]; exact hok6.out)); have q0 : w61.cell? ⟨g, 0, none⟩ = some (.int .i64 x.f0) := cell_grown hg61 x0 (Kd.R_ne hCLj.out.own hblkj.out (by decide)); clear hv61 hb61 hg61 hat61))
                      go_roundw
                      case rel => exact ⟨_, k + 1, rfl, by go_num, by omega, ⟨_, by rw [List.length_append, List.length_singleton]; have := hcs'.out; omega, hCL6.out⟩⟩
                      case measure => simp [RowKit.intOf]; omega
                · skip
                  have h3b : (x.f0 == 3) = false := beq_false_of_ne (by omega)
                  have h2b : (x.f0 == 2) = false := beq_false_of_ne (by omega)
                  have h7b : (x.f0 == 7) = false := beq_false_of_ne (by omega)
                  have h4b : (x.f0 == 4) = false := beq_false_of_ne (by omega)
                  have h5b : (x.f0 == 5) = false := beq_false_of_ne (by omega)
                  have hn0 : Aside0 (n5 = 0) := ⟨by rw [← hn5'.out]; exact hnoargs.out (by omega)⟩
                  clear n3 n2 n7 n4 n5x
                  as_aux_lemma =>
                    go_wp2
                    have hOB := Aside0.mk (show CL l w5 vc cs _ ∧ _ ∧ _ from ⟨hCLo.out, hblk.out, hBo.out⟩)
                    clear hCLo hblk hBo x0 x1 x2 x3 x4 x5 y1 u0 v0 v1 v2 v3 v4 v5 hwo
                    go_loopw [13] (fun v13 wr => ∃ (j : Nat), v13 = .int .i64 j ∧ j ≤ n5 ∧ Aside0 (CL l w5 vc cs wr ∧ wr.heap[g]? = some (.cells #[.int .i64 x.f0, .int .i64 x.f1, .int .i64 x.f2, .int .i64 x.f3, .int .i64 x.f4, .slice A5 n5 c5] 60 (0, 0)) ∧ Below w.heap.size w wr)) (fun v13 _ => n5 - (RowKit.intOf v13).toNat)
                    case atStart => exact ⟨0, rfl, by omega, hOB⟩
                    case round =>
                      clear hOB
                      obtain ⟨j, rfl, hj, hrel⟩ := hrel
                      have hCLj := Aside0.mk hrel.out.1
                      have hblkj := Aside0.mk hrel.out.2.1
                      have hBj := Aside0.mk hrel.out.2.2
                      clear hrel
                      have x0 : wr.cell? ⟨g, 0, none⟩ = some (.int .i64 x.f0) := by rw [cell_in hblkj.out]; rfl
                      have x1 : wr.cell? ⟨g, 1, none⟩ = some (.int .i64 x.f1) := by rw [cell_in hblkj.out]; rfl
                      have x2 : wr.cell? ⟨g, 2, none⟩ = some (.int .i64 x.f2) := by rw [cell_in hblkj.out]; rfl
                      have x3 : wr.cell? ⟨g, 3, none⟩ = some (.int .i64 x.f3) := by rw [cell_in hblkj.out]; rfl
                      have x4 : wr.cell? ⟨g, 4, none⟩ = some (.int .i64 x.f4) := by rw [cell_in hblkj.out]; rfl
                      have x5 : wr.cell? ⟨g, 5, none⟩ = some (.slice A5 n5 c5) := by rw [cell_in hblkj.out]; rfl
                      have hjl : ¬ j < n5 := by have := hn0.out; omega
                      have hjb : decide ((j : Int) < (n5 : Int)) = false := decide_eq_false (by omega)
                      go_wp2
                      go_roundw
                      case rel => exact ⟨_, k + 1, rfl, by go_num, by omega, ⟨_, by have := hcs'.out; omega, hCLj.out⟩⟩
                      case measure => simp [RowKit.intOf]; omega
              · have hkb : decide ((k : Int) < (nk : Int)) = false := decide_eq_false (by omega)
                have hst := Aside0.mk (show ∃ cs : List S3, cs.length ≤ 10000 * i + 250 * (b + 1) ∧ CL l w5 vc cs wr by obtain ⟨cs, h1, h2⟩ := hrel.out; exact ⟨cs, by omega, h2⟩)
                clear hrel
                go_wp2
                go_roundw
                case rel => exact ⟨_, b + 1, rfl, by go_num, by omega, hst⟩
                case measure => simp [RowKit.intOf]; omega
        · have hbb : decide ((b : Int) < (nb : Int)) = false := decide_eq_false (by omega)
          have hst := Aside0.mk (show ∃ cs : List S3, cs.length ≤ 10000 * (i + 1) ∧ CL l w5 vc cs wr by obtain ⟨cs, h1, h2⟩ := hrel.out; exact ⟨cs, by omega, h2⟩)
          clear hrel
          go_wp2
          go_roundw
          case rel => exact ⟨_, i + 1, rfl, by go_num, by omega, hst⟩
          case measure => simp [RowKit.intOf]; omega
    · have hib : decide ((i : Int) < (N0 : Int)) = false := decide_eq_false (by omega)
      obtain ⟨cs, hcs, hCL⟩ := hrel.out
      obtain ⟨A6, c6, rfl, hc6, hC6⟩ := Kd.R_reads hCL.own
      have hok := Aside0.mk hCL.ok
      have hB := Aside0.mk hCL.below
      clear hrel hCL
      have hC6' := Aside0.mk hC6
      clear hC6
      have hcs6 : cs.length ≤ 60000 := by omega
      obtain ⟨nc, hnc⟩ : ∃ nc, cs.length = nc := ⟨_, rfl⟩
      rw [hnc] at hC6' hcs6 ⊢
      have hnc' := Aside0.mk hnc
      have hst := Aside0.mk (show Below w5.heap.size w5 wr ∧ Kd.C k62 wr A6 nc cs from ⟨hB.out, hC6'.out⟩)
      clear hcs hnc hc6 hB hC6'
      go_wp2
      go_loopw [14] (fun v14 wx => ∃ m : Nat, v14 = .int .i64 m ∧ m ≤ nc ∧ Aside0 (Below w5.heap.size w5 wx ∧ Kd.C k62 wx A6 nc cs)) (fun v14 _ => nc - (RowKit.intOf v14).toNat)
      case atStart => exact ⟨0, rfl, by omega, hst⟩
      case round =>
        clear hst
        obtain ⟨m, rfl, hm, hrel⟩ := hrel
        by_cases hml : m < nc
        · have hmb : decide ((m : Int) < (nc : Int)) = true := decide_eq_true (by omega)
          have hrel0 := hrel
          clear hrel
          go_wp2
          go_loopw [15] (fun v15 wx => ∃ q : Nat, v15 = .int .i64 q ∧ q ≤ m ∧ Aside0 (Below w5.heap.size w5 wx ∧ Kd.C k62 wx A6 nc cs)) (fun v15 _ => m - (RowKit.intOf v15).toNat)
          case atStart => exact ⟨0, rfl, by omega, hrel0⟩
          case round =>
            clear hrel0
            obtain ⟨q, rfl, hq, hrel⟩ := hrel
            by_cases hql : q < m
            · have hqb : decide ((q : Int) < (m : Int)) = true := decide_eq_true (by omega)
              have hp1 : (0 : Int) ≤ (m : Int) := by omega
              have hp2 : (m : Int) < (nc : Int) := by omega
              have hp3 : (0 : Int) ≤ (q : Int) := by omega
              have hp4 : (q : Int) < (nc : Int) := by omega
              obtain ⟨ad6, e6, a0, a1, a2⟩ := at_T62 hrel.out.2 (m : Int) hp1 hp2
              obtain ⟨ad7, e7, b0, b1, b2⟩ := at_T62 hrel.out.2 (q : Int) hp3 hp4
              subst e6
              cases e7
              rw [Int.toNat_natCast] at a0 a1 a2 b0 b1 b2
              have hc := hok.out (rd_T62 cs (m : Int)) (by have := hnc'.out; unfold rd_T62; rw [Int.toNat_natCast, List.getD_eq_getElem?_getD, List.getElem?_eq_getElem (by omega)]; exact List.getElem_mem _)
              have hd := hok.out (rd_T62 cs (q : Int)) (by have := hnc'.out; unfold rd_T62; rw [Int.toNat_natCast, List.getD_eq_getElem?_getD, List.getElem?_eq_getElem (by omega)]; exact List.getElem_mem _)
              generalize rd_T62 cs (m : Int) = c at a0 a1 a2 hc
              generalize rd_T62 cs (q : Int) = d at b0 b1 b2 hd
              obtain ⟨r, hr1, hr2⟩ := hPC'.out.cell c d hc hd
              clear hc hd
              obtain ⟨wa, hwa⟩ : ∃ wa, wr.alloc (.cells #[.int .i64 c.f, .int .i64 c.a, .int .i64 c.d] 62) = wa := ⟨_, rfl⟩
              obtain ⟨wb, hwb⟩ : ∃ wb, wa.alloc (.cells #[.int .i64 d.f, .int .i64 d.a, .int .i64 d.d] 62) = wb := ⟨_, rfl⟩
              have hba : Aside0 (Below wr.heap.size wr wa) := ⟨by rw [← hwa]; exact below_alloc (Below.refl _ _) _⟩
              have hbb : Aside0 (Below wa.heap.size wa wb) := ⟨by rw [← hwb]; exact below_alloc (Below.refl _ _) _⟩
              have b0' := pw_cell_below hba.out b0
              have b1' := pw_cell_below hba.out b1
              have b2' := pw_cell_below hba.out b2
              have hst := Aside0.mk (show Below w5.heap.size w5 wb ∧ Kd.C k62 wb (some ad6) nc cs from ⟨(hrel.out.1.trans (hba.out.mono hrel.out.1.size)).trans (hbb.out.mono (hrel.out.1.trans (hba.out.mono hrel.out.1.size)).size), Kd.C_below (Kd.C_below hrel.out.2 hba.out) hbb.out⟩)
              have p0 : wb.cell? ⟨wr.heap.size, 0, none⟩ = some (.int .i64 c.f) := by refine pw_cell_below hbb.out ?_; rw [← hwa]; simp [go_sem]
              have p1 : wb.cell? ⟨wr.heap.size, 1, none⟩ = some (.int .i64 c.a) := by refine pw_cell_below hbb.out ?_; rw [← hwa]; simp [go_sem]
              have p2 : wb.cell? ⟨wr.heap.size, 2, none⟩ = some (.int .i64 c.d) := by refine pw_cell_below hbb.out ?_; rw [← hwa]; simp [go_sem]
              have q0 : wb.cell? ⟨wa.heap.size, 0, none⟩ = some (.int .i64 d.f) := by rw [← hwb]; simp [go_sem]
              have q1 : wb.cell? ⟨wa.heap.size, 1, none⟩ = some (.int .i64 d.a) := by rw [← hwb]; simp [go_sem]
              have q2 : wb.cell? ⟨wa.heap.size, 2, none⟩ = some (.int .i64 d.d) := by rw [← hwb]; simp [go_sem]
              have hr1' := Aside0.mk hr1
              clear hrel hba hbb b0 b1 b2 hr1
              cases r with
              | false =>
                clear hr2
                go_wp2_with (go_at_call 28; refine (hal.out c.f c.a d.f d.a false _ hst.out.1 hr1'.out).mono ?_; rintro e w9 ⟨rfl, hd9⟩; have hst9 := Aside0.mk (show Below w5.heap.size w5 w9 ∧ Kd.C k62 w9 (some ad6) nc cs from ⟨hst.out.1.trans (drawn0_below hd9 _), Kd.C_below hst.out.2 (drawn0_below hd9 _)⟩); clear hd9)
                clear hwa hwb hst
                go_wp2
                go_roundw
                case rel => exact ⟨q + 1, by go_num, by omega, hst9⟩
                case measure => simp [RowKit.intOf]; omega
              | true =>
                have hr2' := Aside0.mk (hr2 rfl)
                clear hr2
                have hA1 := Aside0.mk (fun W hW => hal.out c.f c.a d.f d.a true W hW hr1'.out)
                have hA2 := Aside0.mk (fun W hW => hal.out c.f c.d d.f d.d true W hW hr2'.out)
                go_wp2_with (first | (go_at_call 28; refine (hA1.out _ hst.out.1).mono ?_; clear hA1; rintro e w9 ⟨rfl, hd9⟩; replace p0 := pw_cell_below (drawn0_below hd9 _) p0; replace p2 := pw_cell_below (drawn0_below hd9 _) p2; replace q0 := pw_cell_below (drawn0_below hd9 _) q0; replace q2 := pw_cell_below (drawn0_below hd9 _) q2; replace hst := Aside0.mk (show Below w5.heap.size w5 w9 ∧ Kd.C k62 w9 (some ad6) nc cs from ⟨hst.out.1.trans (drawn0_below hd9 _), Kd.C_below hst.out.2 (drawn0_below hd9 _)⟩); clear hd9) | (go_at_call 28; refine (hA2.out _ hst.out.1).mono ?_; clear hA2; rintro e w9 ⟨rfl, hd9⟩; replace p0 := pw_cell_below (drawn0_below hd9 _) p0; replace p2 := pw_cell_below (drawn0_below hd9 _) p2; replace q0 := pw_cell_below (drawn0_below hd9 _) q0; replace q2 := pw_cell_below (drawn0_below hd9 _) q2; replace hst := Aside0.mk (show Below w5.heap.size w5 w9 ∧ Kd.C k62 w9 (some ad6) nc cs from ⟨hst.out.1.trans (drawn0_below hd9 _), Kd.C_below hst.out.2 (drawn0_below hd9 _)⟩); clear hd9))
                clear hwa hwb p0 p1 p2 q0 q1 q2
                go_wp2
                go_roundw
                case rel => exact ⟨q + 1, by go_num, by omega, hst⟩
                case measure => simp [RowKit.intOf]; omega
            · have hqb : decide ((q : Int) < (m : Int)) = false := decide_eq_false (by omega)
              have hrel0 := hrel
              clear hrel
              go_wp2
              go_roundw
              case rel => exact ⟨m + 1, by go_num, by omega, hrel0⟩
              case measure => simp [RowKit.intOf]; omega
        · have hmb : decide ((m : Int) < (nc : Int)) = false := decide_eq_false (by omega)
          have hrel0 := hrel
          clear hrel
          go_wp2
          go_ret
          exact ⟨rfl, below_step hB5.out hrel0.out.1⟩
end Go.Proofs.Yteeapfmgdlcgfaa.A


namespace Go.Proofs.Yteeapfmgdlcgfaa.A
open Go.Deep Go.RowKit Go.Proofs.YteeapfmgdlcgfaaW.PrintWords Go.Proofs.YteeapfmgdlcgfaaW.PrintLast
set_option maxRecDepth 100000
set_option linter.unusedVariables false
set_option linter.unusedSimpArgs false

section
variable {H : Type} {enc : TypeId × Value → H} {P : Program} {w : World} {base : Nat} {α : Type} [Inhabited α]

def OpensW (enc : TypeId × Value → H) (P : Program) (w : World) (base : Nat) (t : TypeId) (d : Kd α) (p : α → Prop) : Prop :=
  ∀ fuel cs x, DataW.trod enc P w base (fun _ => true) true fuel t cs = some x → (∀ n ∈ x.1.weights P t, n ≤ reachBytes) → ∃ y, d.K w y cs ∧ p y

omit [Inhabited α] in
theorem OpensW.of {t : TypeId} {d : Kd α} {p : α → Prop} (h : Opens enc P w base t d p) : OpensW enc P w base t d p := fun fuel cs x hx _ => h fuel cs x hx
theorem weights_all {e : TypeId} : ∀ {ds : List (DataW H)} {d : DataW H}, d ∈ ds → ∀ n ∈ d.weights P e, n ∈ DataW.weightsAll P e ds
  | a :: tl, d, hd, n, hn => by
    simp only [DataW.weightsAll, List.mem_append]
    rcases List.mem_cons.1 hd with rfl | hd
    · exact Or.inl hn
    · exact Or.inr (weights_all hd n hn)
theorem opens_sliceW {t e : TypeId} {d : Kd α} {p : α → Prop} (ht : P.underlying t = some (.slice e)) (hc : P.cellsOf e = d.sz) (ho : OpensW enc P w base e d p) : OpensW enc P w base t (Kd.slice e d) (fun xs => (∀ x ∈ xs, p x) ∧ xs.length * P.bytesOf e ≤ reachBytes) := by
  intro fuel cs x h hw
  rcases open_slice ht h with ⟨rfl, _⟩ | ⟨a, len, cap, m, n, D, Pl, rfl, hb, hl, hm, hmm, hxe, hx⟩
  · exact ⟨[], ⟨none, 0, rfl, Nat.le_refl _, rfl, by simp, fun h => by simp at h⟩, fun x hx => by simp at hx, by simp⟩
  · simp only [if_true] at hmm
    rw [hxe] at hw
    simp only [DataW.weights, ht] at hw
    have hlen0 := hw _ List.mem_cons_self
    rw [List.length_map, List.length_map, List.length_range, List.length_range] at hlen0
    obtain ⟨Y, hY⟩ := choose_lt (α := α) (n := len) (p := fun i y => p y ∧ ∃ c, d.K w y c ∧ ∀ j u, c[j]? = some u → w.cell? (a.add (i * d.sz + j)) = some u) (fun i hi => by
      obtain ⟨cs', h1, h2⟩ := hx i (by omega)
      obtain ⟨y, hy, hp⟩ := ho _ _ _ h2 (fun n hn => hw n (List.mem_cons_of_mem _ (List.mem_append_left _ (weights_all (List.mem_map.2 ⟨i, List.mem_range.2 hi, rfl⟩) n hn))))
      obtain ⟨_, hlen, hcell⟩ := World.cells?_some h1
      refine ⟨y, hp, cs', hy, fun j u hj => ?_⟩
      have hj' : j < cs'.length := (List.getElem?_eq_some_iff.1 hj).1
      have := hcell j (by omega)
      rw [hj, hc] at this
      rwa [Addr.add_add] at this)
    have hlen : ((List.range len).map Y).length = len := by simp
    refine ⟨(List.range len).map Y, ⟨some a, cap, by rw [hlen], by rw [hlen]; exact hl, hlen.trans hlen.symm, by rw [hlen]; unfold maxLen at hm; omega, fun _ => ⟨a, rfl, fun j y hj => ?_⟩⟩, fun y hy => ?_, ?_⟩
    · have hjl : j < len := by have := (List.getElem?_eq_some_iff.1 hj).1; omega
      rw [List.getElem?_map, List.getElem?_range hjl] at hj
      obtain rfl := Option.some.inj hj
      obtain ⟨_, c, hk, hcell⟩ := hY j hjl
      exact ⟨c, d.K_len hk, hk, hcell⟩
    · obtain ⟨i, hi, rfl⟩ := List.mem_map.1 hy
      exact (hY i (List.mem_range.1 hi)).1
    · rw [hlen]
      exact Nat.le_trans (Nat.mul_le_mul_right _ (Nat.le_add_right _ _)) hlen0
omit [Inhabited α] in
/-- of a parameter: a slice -/
theorem opens_paramW {t e : TypeId} {d : Kd α} {p : List α → Prop} (ho : OpensW enc P w base t (Kd.slice e d) p) {A : Option Addr} {len cap : Nat} {x : DataW H} {ps : List MemPlace} (h : DataW.Trod enc P w base (fun _ => true) true t (.slice A len cap) x ps) (hw : ∀ n ∈ x.weights P t, n ≤ reachBytes) :
    ∃ xs : List α, len = xs.length ∧ xs.length ≤ cap ∧ d.C w A xs.length xs ∧ p xs := by
  obtain ⟨fuel, hf⟩ := h
  obtain ⟨xs, ⟨A', c', he, hl, hC⟩, hp⟩ := ho _ _ _ hf hw
  simp [Value.cells] at he
  obtain ⟨rfl, rfl, rfl⟩ := he
  exact ⟨xs, rfl, hl, hC, hp⟩
end
section
variable {H : Type} {enc : TypeId × Value → H} {w : World} {base : Nat}
instance : Inhabited S60 := ⟨z60⟩
instance : Inhabited S57 := ⟨z57⟩
instance : Inhabited S52 := ⟨z52⟩
theorem opens_60 : Opens enc Try.prog w base 60 k60 (fun _ => True) := by
  intro fuel cs x h
  obtain ⟨xs, n, _, _, hl, hlen, hf⟩ := DataW.trod_struct Try.underlying60 h
  have hl' : cs.length = 6 := hl.trans (by kernel_rfl)
  match cs, hl' with
  | [c0, c1, c2, c3, c4, c5], _ =>
    have int_ : ∀ (i : Nat) (c : Value), DataW.trod enc Try.prog w base (fun _ => true) true n 3 [c] = xs[i]? → i < 6 → ∃ m, c = .int .i64 m := by
      intro i c h hi
      have : i < xs.length := by rw [hlen]; exact hi
      rw [List.getElem?_eq_getElem this] at h
      obtain ⟨m, hm, _, _⟩ := DataW.trod_int Try.underlying3 h
      exact ⟨m, by simpa using hm⟩
    have h0 : DataW.trod enc Try.prog w base (fun _ => true) true n 3 (([c0, c1, c2, c3, c4, c5].drop 0).take (Try.prog.cellsOf 3)) = xs[0]? := hf 0 _ rfl
    have h1 : DataW.trod enc Try.prog w base (fun _ => true) true n 3 (([c0, c1, c2, c3, c4, c5].drop 1).take (Try.prog.cellsOf 3)) = xs[1]? := hf 1 _ rfl
    have h2 : DataW.trod enc Try.prog w base (fun _ => true) true n 3 (([c0, c1, c2, c3, c4, c5].drop 2).take (Try.prog.cellsOf 3)) = xs[2]? := hf 2 _ rfl
    have h3 : DataW.trod enc Try.prog w base (fun _ => true) true n 3 (([c0, c1, c2, c3, c4, c5].drop 3).take (Try.prog.cellsOf 3)) = xs[3]? := hf 3 _ rfl
    have h4 : DataW.trod enc Try.prog w base (fun _ => true) true n 3 (([c0, c1, c2, c3, c4, c5].drop 4).take (Try.prog.cellsOf 3)) = xs[4]? := hf 4 _ rfl
    have h5 : DataW.trod enc Try.prog w base (fun _ => true) true n 36 (([c0, c1, c2, c3, c4, c5].drop 5).take (Try.prog.cellsOf 36)) = xs[5]? := hf 5 _ rfl
    rw [show Try.prog.cellsOf 3 = 1 by kernel_rfl] at h0 h1 h2 h3 h4
    rw [show Try.prog.cellsOf 36 = 1 by kernel_rfl] at h5
    obtain ⟨m0, rfl⟩ := int_ 0 c0 h0 (by omega)
    obtain ⟨m1, rfl⟩ := int_ 1 c1 h1 (by omega)
    obtain ⟨m2, rfl⟩ := int_ 2 c2 h2 (by omega)
    obtain ⟨m3, rfl⟩ := int_ 3 c3 h3 (by omega)
    obtain ⟨m4, rfl⟩ := int_ 4 c4 h4 (by omega)
    have h5' : 5 < xs.length := by rw [hlen]; decide
    rw [List.getElem?_eq_getElem h5'] at h5
    obtain ⟨ys, ⟨A, c, he, hl5, hC⟩, _⟩ := opens_slice (d := Kd.int .i64) Try.underlying36 (by kernel_rfl) (opens_int Try.underlying3) _ _ _ h5
    have he' : c5 = .slice A ys.length c := by simpa using he
    subst he'
    exact ⟨⟨m0, m1, m2, m3, m4, ys⟩, k60_mk w ⟨m0, m1, m2, m3, m4, ys⟩ hl5 hC, trivial⟩
theorem opens_55 : Opens enc Try.prog w base 55 k55 (fun _ => True) := by
  intro fuel cs x h
  obtain ⟨xs, n, _, _, hl, hlen, hf⟩ := DataW.trod_struct Try.underlying55 h
  have hl' : cs.length = 4 := hl.trans (by kernel_rfl)
  match cs, hl' with
  | [c0, c1, c2, c3], _ =>
    have int_ : ∀ (i : Nat) (c : Value), DataW.trod enc Try.prog w base (fun _ => true) true n 3 [c] = xs[i]? → i < 4 → ∃ m, c = .int .i64 m := by
      intro i c h hi
      have : i < xs.length := by rw [hlen]; exact hi
      rw [List.getElem?_eq_getElem this] at h
      obtain ⟨m, hm, _, _⟩ := DataW.trod_int Try.underlying3 h
      exact ⟨m, by simpa using hm⟩
    have h0 : DataW.trod enc Try.prog w base (fun _ => true) true n 3 (([c0, c1, c2, c3].drop 0).take (Try.prog.cellsOf 3)) = xs[0]? := hf 0 _ rfl
    have h1 : DataW.trod enc Try.prog w base (fun _ => true) true n 3 (([c0, c1, c2, c3].drop 1).take (Try.prog.cellsOf 3)) = xs[1]? := hf 1 _ rfl
    have h2 : DataW.trod enc Try.prog w base (fun _ => true) true n 3 (([c0, c1, c2, c3].drop 2).take (Try.prog.cellsOf 3)) = xs[2]? := hf 2 _ rfl
    have h3 : DataW.trod enc Try.prog w base (fun _ => true) true n 3 (([c0, c1, c2, c3].drop 3).take (Try.prog.cellsOf 3)) = xs[3]? := hf 3 _ rfl
    rw [show Try.prog.cellsOf 3 = 1 by kernel_rfl] at h0 h1 h2 h3
    obtain ⟨m0, rfl⟩ := int_ 0 c0 h0 (by omega)
    obtain ⟨m1, rfl⟩ := int_ 1 c1 h1 (by omega)
    obtain ⟨m2, rfl⟩ := int_ 2 c2 h2 (by omega)
    obtain ⟨m3, rfl⟩ := int_ 3 c3 h3 (by omega)
    exact ⟨⟨m0, m1, m2, m3⟩, k55_mk w ⟨m0, m1, m2, m3⟩, trivial⟩
theorem opens_57 : OpensW enc Try.prog w base 57 k57 (fun y => y.f0.length ≤ 3000000000000) := by
  intro fuel cs x h hw
  obtain ⟨xs, n, _, hxe, hl, hlen, hf⟩ := DataW.trod_struct Try.underlying57 h
  have hl' : cs.length = 5 := hl.trans (by kernel_rfl)
  match cs, hl' with
  | [c0, c1, c2, c3, c4], _ =>
    have h0 : DataW.trod enc Try.prog w base (fun _ => true) true n 53 (([c0, c1, c2, c3, c4].drop 0).take (Try.prog.cellsOf 53)) = xs[0]? := hf 0 _ rfl
    have h1 : DataW.trod enc Try.prog w base (fun _ => true) true n 55 (([c0, c1, c2, c3, c4].drop 1).take (Try.prog.cellsOf 55)) = xs[1]? := hf 1 _ rfl
    rw [show Try.prog.cellsOf 53 = 1 by kernel_rfl] at h0
    rw [show Try.prog.cellsOf 55 = 4 by kernel_rfl] at h1
    have h0' : 0 < xs.length := by rw [hlen]; decide
    have h1' : 1 < xs.length := by rw [hlen]; decide
    rw [List.getElem?_eq_getElem h0'] at h0
    rw [List.getElem?_eq_getElem h1'] at h1
    have hw0 : ∀ n ∈ (xs[0]).1.weights Try.prog 53, n ≤ reachBytes := by
      intro n hn
      refine hw n ?_
      rw [hxe]
      simp only [DataW.weights, Try.underlying57]
      exact DataW.weights_mem_each (j := 0) (t := 53) (d := (xs[0]).1) rfl (by rw [List.getElem?_map, List.getElem?_eq_getElem h0']; rfl) n hn
    obtain ⟨ys, ⟨A, c, he, hl5, hC⟩, _, hby⟩ := opens_sliceW (d := k60) Try.underlying53 (by kernel_rfl) (OpensW.of opens_60) _ _ _ h0 hw0
    obtain ⟨t, ht, _⟩ := opens_55 _ _ _ h1
    rw [show Try.prog.bytesOf 60 = 64 by kernel_rfl] at hby
    have hr := reachBytes_lt
    have he' : c0 = .slice A ys.length c := by simpa using he
    subst he'
    refine ⟨⟨ys, t⟩, ?_, by show ys.length ≤ _; omega⟩
    have hk : k57.K w ⟨ys, t⟩ ([.slice A ys.length c] ++ [c1, c2, c3, c4]) := ⟨[.slice A ys.length c], [c1, c2, c3, c4], rfl, ⟨A, c, rfl, hl5, hC⟩, ht⟩
    exact hk
theorem opens_52 : OpensW enc Try.prog w base 52 k52 (fun f => ∀ y ∈ f.f1, y.f0.length ≤ 3000000000000) := by
  intro fuel cs x h hw
  obtain ⟨xs, n, _, hxe, hl, hlen, hf⟩ := DataW.trod_struct Try.underlying52 h
  have hl' : cs.length = 2 := hl.trans (by kernel_rfl)
  match cs, hl' with
  | [c0, c1], _ =>
    have h0 : DataW.trod enc Try.prog w base (fun _ => true) true n 3 (([c0, c1].drop 0).take (Try.prog.cellsOf 3)) = xs[0]? := hf 0 _ rfl
    have h1 : DataW.trod enc Try.prog w base (fun _ => true) true n 50 (([c0, c1].drop 1).take (Try.prog.cellsOf 50)) = xs[1]? := hf 1 _ rfl
    rw [show Try.prog.cellsOf 3 = 1 by kernel_rfl] at h0
    rw [show Try.prog.cellsOf 50 = 1 by kernel_rfl] at h1
    have h0' : 0 < xs.length := by rw [hlen]; decide
    have h1' : 1 < xs.length := by rw [hlen]; decide
    rw [List.getElem?_eq_getElem h0'] at h0
    rw [List.getElem?_eq_getElem h1'] at h1
    have hw1 : ∀ n ∈ (xs[1]).1.weights Try.prog 50, n ≤ reachBytes := by
      intro n hn
      refine hw n ?_
      rw [hxe]
      simp only [DataW.weights, Try.underlying52]
      exact DataW.weights_mem_each (j := 1) (t := 50) (d := (xs[1]).1) rfl (by rw [List.getElem?_map, List.getElem?_eq_getElem h1']; rfl) n hn
    obtain ⟨m, hm, _, _⟩ := DataW.trod_int Try.underlying3 h0
    have hm' : c0 = .int .i64 m := by simpa using hm
    obtain ⟨ys, ⟨A, c, he, hl5, hC⟩, hys, hby⟩ := opens_sliceW (d := k57) Try.underlying50 (by kernel_rfl) opens_57 _ _ _ h1 hw1
    have he' : c1 = .slice A ys.length c := by simpa using he
    subst he'
    subst hm'
    exact ⟨⟨m, ys⟩, k52_mk w ⟨m, ys⟩ hl5 hC, hys⟩
theorem opens_funcs : OpensW enc Try.prog w base 46 (Kd.slice 52 k52) LenB := by
  intro fuel cs x h hw
  obtain ⟨xs, hx, h1, _⟩ := opens_sliceW (d := k52) Try.underlying46 (by kernel_rfl) opens_52 _ _ _ h hw
  exact ⟨xs, hx, ⟨fun f hf y hy => h1 f hf y hy⟩⟩
end
end Go.Proofs.Yteeapfmgdlcgfaa.A


namespace Go.Proofs.Yteeapfmgdlcgfaa.A
open Go.RowKit Go.Maps Go.Proofs.YteeapfmgdlcgfaaW.PrintWords
theorem law_closew (A2 : Option Addr) (c2 : Nat) (l : List S52) (w : World) (hC2 : Kd.C k52 w A2 l.length l) (hc2 : l.length ≤ c2) (hLB : LenB l) :
    Calls Try.prog 6 #[.slice A2 l.length c2] w fun e w' => e = .returned (.bool true) ∧ Below w.heap.size w w' := law_close A2 c2 l w hC2 hc2 hLB
end Go.Proofs.Yteeapfmgdlcgfaa.A

