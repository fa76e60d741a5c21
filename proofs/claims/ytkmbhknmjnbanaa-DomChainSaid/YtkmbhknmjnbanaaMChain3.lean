/- Parts of the proof, in the order in which they rest on one another. -/
import Derived.Test.YtkmbhknmjnbanaaMChain2
import Derived.Below
import Derived.Deep.Draws
import Derived.Deep.AppendLies
import Derived.Maps.AppendAt
import Derived.OwnWalk
import Derived.Laws.BytesArg
import Derived.Laws.MakeOwn
import Derived.Laws.OwnMore
import Derived.Deep.OwnRows
import Derived.Tactics
import Derived.Lib.ConvBytes
import Derived.Laws.Slices
import Derived.WalkKit
import Derived.KernelRfl
import Derived.RowKit3
import Derived.Deep.LoopGhost
import Derived.Deep.QuietTactic
import Derived.BigQuiet
import Derived.WideLaws
import Derived.Deep.DeepCutAuto
import Derived.Deep.CutBlock
import Derived.Deep.RegionHeld3
import Derived.Laws.Rows
import Derived.Lib.AppendStr
import Derived.ArgAppend
import Derived.Laws.IdiomCopy
import Derived.RowKit
import Derived.OrdersHeld
import Derived.Laws.BitsLemmas
import Derived.Laws.StructEq
import Derived.Test.YtkmbhknmjnbanaaProg
import Derived.Shelf.Abstract
import Derived.Lib.Walk
import Derived.RangeFuncWrites
import Derived.RangeFuncNested
import Derived.RangeFuncBound
import Derived.RangeFuncCalls
import Derived.RangeFuncLeaves
import Derived.Shelf.RegionOpen
import Derived.OwnWalkIn
import Derived.TacticsInMore
import Derived.LoopNIn
import Derived.LoopIn
import Derived.Laws.EntriesVeiled
import Derived.RangeFuncBox
import Derived.Laws.CopyOwn
import Derived.Deep.RegionLaw
import Derived.BigRegion
import Derived.WalkSpells
import Derived.Shelf.SlIterI.Nil
import Derived.Shelf.SortM.Plain
import Derived.Shelf.SortM.SortNone
import Derived.Ground.GgzProg
import Derived.Ground.SlgmProg
import Derived.Shelf.SlGeneric
import Derived.Maps.Own
import Derived.Maps.OwnOps
import Derived.Maps.OwnSet
import Derived.Maps.Views
import Derived.RangeFuncRecord
import Derived.Deep.RegionLawGrows
import Derived.Deep.Upon
import Derived.Maps.OwnRows
import Derived.Maps.GroupsBeside
import Derived.Deep.RegionWith
import Derived.Deep.CutRange
import Derived.Maps.OwnIn
import Derived.Lib.SliceRun
import Derived.Outline
namespace Go.Proofs.Ytkmbhknmjnbanaa.A
open Go.RowKit Go.Proofs.YtkmbhknmjnbanaaW.PrintWords Go.Proofs.YtkmbhknmjnbanaaW.PrintLast Go.Shelf
set_option linter.unusedVariables false
set_option linter.unusedSimpArgs false

/-- the tree's block and its two rows -/
structure TA (n : Nat) (W0 : World) (T gi ci gp cp : Nat) (D pl : List Int) (W : World) : Prop where
  hB : Below W0.heap.size W0 W
  hT : W.heap[T]? = some (.cells #[.slice (some ⟨gi, 0, none⟩) n ci, .slice (some ⟨gp, 0, none⟩) n cp] 63 (0, 0))
  hT0 : W0.heap.size ≤ T
  hD : Kd.R (Kd.int .i64) 3 W W0.heap.size (fun k => k = gi) (.slice (some ⟨gi, 0, none⟩) n ci) D
  hP : Kd.R (Kd.int .i64) 3 W W0.heap.size (fun k => k = gp) (.slice (some ⟨gp, 0, none⟩) n cp) pl
  ne : gi ≠ gp
theorem R_only {e n c g : Nat} {W : World} {base : Nat} {ok : Nat → Prop} {xs : List Int} (h : Kd.R (Kd.int .i64) e W base ok (.slice (some ⟨g, 0, none⟩) n c) xs) : Kd.R (Kd.int .i64) e W base (fun k => k = g) (.slice (some ⟨g, 0, none⟩) n c) xs :=
  ⟨fun k hk => by simp [Value.ownBlock] at hk; exact hk.symm, h.2⟩
section
variable {n T gi ci gp cp : Nat} {W0 W W1 : World} {D pl : List Int}
theorem TA.c0 (h : TA n W0 T gi ci gp cp D pl W) : W.cell? ⟨T, 0, none⟩ = some (.slice (some ⟨gi, 0, none⟩) n ci) := (blk_cell h.hT 0).trans rfl
theorem TA.c1 (h : TA n W0 T gi ci gp cp D pl W) : W.cell? ⟨T, 1, none⟩ = some (.slice (some ⟨gp, 0, none⟩) n cp) := (blk_cell h.hT 1).trans rfl
theorem TA.drewN (h : TA n W0 T gi ci gp cp D pl W) (q : Nat) : TA n W0 T gi ci gp cp D pl (W.drewN q) :=
  ⟨h.hB.trans (pw_below_drewN (Below.refl _ _) q), h.hT, h.hT0, Kd.R_below h.hD (pw_below_drewN (Below.refl _ _) q), Kd.R_below h.hP (pw_below_drewN (Below.refl _ _) q), h.ne⟩
theorem TA.cD (h : TA n W0 T gi ci gp cp D pl W) : Kd.C (Kd.int .i64) W (some ⟨gi, 0, none⟩) n D := by
  obtain ⟨e, _, hc⟩ := Kd.R_reads' h.hD
  rwa [← e] at hc
theorem TA.cP (h : TA n W0 T gi ci gp cp D pl W) : Kd.C (Kd.int .i64) W (some ⟨gp, 0, none⟩) n pl := by
  obtain ⟨e, _, hc⟩ := Kd.R_reads' h.hP
  rwa [← e] at hc
theorem TA.ti (h : TA n W0 T gi ci gp cp D pl W) : T ≠ gi := fun e => by
  obtain ⟨cells, hc⟩ := Kd.R_typed h.hD gi (by simp [Value.ownBlock])
  have := h.hT
  rw [e, hc] at this
  simp at this
theorem TA.tp (h : TA n W0 T gi ci gp cp D pl W) : T ≠ gp := fun e => by
  obtain ⟨cells, hc⟩ := Kd.R_typed h.hP gp (by simp [Value.ownBlock])
  have := h.hT
  rw [e, hc] at this
  simp at this
theorem TA.putD (h : TA n W0 T gi ci gp cp D pl W) (i : Nat) (x : Int) : TA n W0 T gi ci gp cp (D.set i x) pl (W.setCell ⟨gi, i, none⟩ (.int .i64 x)) := by
  have h1 := Kd.R_putg h.hD (i : Int) x
  rw [Int.toNat_natCast] at h1
  have hb : W0.heap.size ≤ gi := Kd.R_base h.hD gi (by simp [Value.ownBlock])
  exact ⟨h.hB.grown h1.2 h.hB.size (fun j ej => by cases ej; exact hb), blk_grown h.hT h1.2 (fun e => h.ti (Option.some.inj e)), h.hT0, h1.1, Kd.R_grown h.hP h1.2 (fun k hk e => h.ne (by rw [← Option.some.inj e]; exact hk)), h.ne⟩
theorem TA.putP (h : TA n W0 T gi ci gp cp D pl W) (i : Nat) (x : Int) : TA n W0 T gi ci gp cp D (pl.set i x) (W.setCell ⟨gp, i, none⟩ (.int .i64 x)) := by
  have h1 := Kd.R_putg h.hP (i : Int) x
  rw [Int.toNat_natCast] at h1
  have hb : W0.heap.size ≤ gp := Kd.R_base h.hP gp (by simp [Value.ownBlock])
  exact ⟨h.hB.grown h1.2 h.hB.size (fun j ej => by cases ej; exact hb), blk_grown h.hT h1.2 (fun e => h.tp (Option.some.inj e)), h.hT0, Kd.R_grown h.hD h1.2 (fun k hk e => h.ne (by rw [← Option.some.inj e]; exact hk.symm)), h1.1, h.ne⟩
end
theorem made3 (n : Nat) : madeCells #[.int .i64 0] n = ((List.replicate n (0 : Int)).map (Value.int .i64)).toArray := by
  unfold madeCells
  apply Array.ext
  · simp
  · intro i h1 h2; simp [Nat.mod_one]
theorem zero_row (V : World) (base n : Nat) (hb : base ≤ V.heap.size) (hn : n ≤ 4096) : Kd.R (Kd.int .i64) 3 (V.alloc (.cells (madeCells #[.int .i64 0] n) 3)) base (fun _ => True) (.slice (some ⟨V.heap.size, 0, none⟩) n n) (List.replicate n 0) := by
  have h := R_new_lit (Kd.int .i64) V base 3 (xs := List.replicate n (0 : Int)) (ok := fun _ => True) (okp := fun _ => True) (reps_ints _) (fun _ h => h) trivial hb (by simp; omega)
  rw [← made3, List.length_replicate] at h
  exact h
theorem TA.new {n gi ci gp cp : Nat} {W0 V : World} {D pl : List Int} {okd okp : Nat → Prop} (hB : Below W0.heap.size W0 V) (hD : Kd.R (Kd.int .i64) 3 V W0.heap.size okd (.slice (some ⟨gi, 0, none⟩) n ci) D) (hP : Kd.R (Kd.int .i64) 3 V W0.heap.size okp (.slice (some ⟨gp, 0, none⟩) n cp) pl) (ne : gi ≠ gp) :
    TA n W0 V.heap.size gi ci gp cp D pl (V.alloc (.cells #[.slice (some ⟨gi, 0, none⟩) n ci, .slice (some ⟨gp, 0, none⟩) n cp] 63)) :=
  ⟨below_alloc hB _, World.alloc_heap_new _ _, hB.size, Kd.R_alloc (R_only hD) _, Kd.R_alloc (R_only hP) _, ne⟩
/-- places as dom keeps them: none is 0 -/
def zpl (o : List Int) (n m : Nat) : List Int := (List.range m).foldl (fun p (i : Nat) => p.set (o.getD i 0).toNat (i : Int)) (List.replicate n 0)
theorem zpl_succ (o : List Int) (n m : Nat) : zpl o n (m + 1) = (zpl o n m).set (o.getD m 0).toNat m := by simp [zpl, List.range_succ]
theorem zpl_len (o : List Int) (n : Nat) : ∀ m, (zpl o n m).length = n
  | 0 => by simp [zpl]
  | m + 1 => by rw [zpl_succ, List.length_set, zpl_len o n m]
theorem zpl_pos {g : List (List Int)} (hr : rightB g = true) : ∀ m, m ≤ (orderOf g).length → ∀ v, Way g 0 v → pos g v < m → (zpl (orderOf g) g.length m).getD v 0 = (pos g v : Int)
  | 0, _, v, _, hp => by omega
  | m + 1, hm, v, hv, hp => by
    have hlt : m < (orderOf g).length := by omega
    obtain ⟨u, eu, hu, hpu⟩ := pos_at hr hlt
    have hul := reach_lt hr hu
    have hz := zpl_len (orderOf g) g.length m
    have hom : (orderOf g).getD m 0 = (u : Int) := by rw [← eu]; simp [List.getD_eq_getElem?_getD, hlt]
    rw [zpl_succ, hom, Int.toNat_natCast, getD_set (by omega)]
    by_cases e : v = u
    · subst e; rw [if_pos rfl, hpu]
    · rw [if_neg e]
      have : pos g v ≠ pos g u := fun e2 => e (pos_inj hr hv hu e2)
      exact zpl_pos hr m (by omega) v hv (by omega)

set_option maxRecDepth 100000 in
set_option maxHeartbeats 4000000 in
theorem idom_calls (k : Nat) (A : Option Addr) (c : Nat) (g : List (List Int)) (r : List Int) (w : World) (hC : Kd.C (Kd.slice 3 (Kd.int .i64)) w A g.length g) (hc : g.length ≤ c) (h : idomO g k = some r) :
    Calls Try.prog 36 #[.slice A g.length c] w fun e w' => ∃ v, e = .returned v ∧ Kd.R (Kd.int .i64) 3 w' w.heap.size (fun _ => True) v r ∧ Below w.heap.size w w' := by
  have hu63 := Try.underlying63
  have hrc := right_calls A c g w hC
  unfold idomO at h
  cases hr : rightB g with
  | false =>
    rw [hr] at hrc h
    obtain rfl := Option.some.inj h
    go_enter Try.func36, Try.ntmps36
    go_wp2_with fail
    refine hrc.mono ?_
    rintro e w1 ⟨rfl, hb⟩
    go_wp2_with fail
    go_ret
    exact ⟨_, rfl, Kd.R_nil _ _ _ _ _, hb⟩
  | true =>
    rw [hr] at hrc h
    rw [if_pos rfl, Option.map_eq_some_iff] at h
    obtain ⟨R, hR, rfl⟩ := h
    have hR' := Aside0.mk hR
    obtain ⟨hn1, hn0, hg⟩ := right_rows hr
    have hg' := Aside0.mk hg
    clear hR hg
    go_enter Try.func36, Try.ntmps36
    go_wp2_with fail
    refine hrc.mono ?_
    rintro e w1 ⟨rfl, hb1⟩
    have hC1 := Aside0.mk (Kd.C_below hC hb1)
    have hB1 := Aside0.mk hb1
    have ho := order_calls A c g w1 hC1.out
    rw [hr, if_pos rfl] at ho
    clear hrc hb1
    go_wp2_with fail
    refine ho.mono ?_
    rintro e w2 ⟨v2, rfl, hv2, hb2⟩
    have hC2 := Aside0.mk (Kd.C_below hC1.out hb2)
    have hB2 := Aside0.mk (below_step hB1.out hb2)
    obtain ⟨kp, hkp⟩ := (preds_ev g).get
    rw [hr, if_pos rfl] at hkp
    have hpr := graph_Preds.calls kp A c g _ w2 hC2.out hc hkp
    have eo : (walkOf g 0).reverse = orderOf g := by unfold orderOf; rw [if_pos hr]
    rw [eo] at hv2
    obtain ⟨Ao, co, rfl⟩ := Kd.R_slice hv2
    have hv2' := Aside0.mk hv2
    clear ho hb2 hC1 hB1 hkp hv2
    go_wp2_with fail
    refine hpr.mono ?_
    rintro e w3 ⟨v3, rfl, hv3, hb3⟩
    obtain ⟨Ap, cp, rfl⟩ := Kd.S_slice hv3
    have hB3 := Aside0.mk (below_step hB2.out hb3)
    have hO3 := Aside0.mk (Kd.C_below (Kd.R_reads' hv2'.out).2.2 hb3)
    have hol := orderOf_len g
    have hoc : (orderOf g).length ≤ co := (Kd.R_reads' hv2'.out).2.1
    have hP3 := Aside0.mk (Kd.S_reads' hv3).2.2
    clear hpr hv3 hb3 hC2 hB2 hv2' hC
    have hmk : ∀ V : World, (Instr.makeSlice 27 (.int .i64 (g.length : Int)) (.int .i64 (g.length : Int))).run Try.prog V = .ok (.slice (some ⟨V.heap.size, 0, none⟩) g.length g.length) (V.alloc (.cells (madeCells #[.int .i64 0] g.length) 3)) := by
      intro V
      obtain ⟨i0, hi, hz0, hz1, hz2⟩ := info_parts info3
      have := run_make V 27 3 i0 _ Try.underlying27 hi hz0 .i64 .i64 (g.length : Int) (g.length : Int) (by omega) (by omega) (by rw [hz2]; omega) (by omega)
      rw [Int.toNat_natCast, hz1, Nat.mul_one] at this
      exact this
    go_upto_region 4 with fail
    go_cut [5] (fun s5 wx => ∃ T gi ci gp cp', s5 = .pointer (some ⟨T, 0, none⟩) ∧ Aside0 (TA g.length w3 T gi ci gp cp' (List.replicate g.length (-1)) (List.replicate g.length 0) wx))
    case first =>
      have hrp : ∀ (V : World) (ad : Addr), V.cell? (ad.add 0) = some (.int .i64 (-1)) → Calls Try.prog 61 #[.slice (some ad) 1 1, .int .i64 g.length] V fun e w' => ∃ v, e = .returned v ∧ Kd.R (Kd.int .i64) 3 w' V.heap.size (fun _ => True) v (List.replicate g.length (-1)) ∧ Below V.heap.size V w' := fun V ad hv => repeat_calls ad 1 g.length V hn0 hn1 hv
      clear hO3 hP3
      go_region_with (go_at_call 61; refine (hrp _ _ (by go_simp)).mono ?_; rintro e w5 ⟨v5, rfl, hv5, hb5⟩; obtain ⟨gi, ci, rfl, hgi0, hgi1, hgi2⟩ := Kd.R_form hv5 (by rw [List.length_replicate]; omega); rw [List.length_replicate] at hv5)
      all_goals
        go_wp2_with fail
        go_meet
      case rel =>
        have hBv : Below w3.heap.size w3 (w3.alloc (.cells #[.int .i64 (-1)] 3)).drew := below_drew (below_alloc (Below.refl _ _) _)
        have hB5 := hBv.trans (hb5.mono hBv.size)
        exact ⟨_, gi, ci, _, _, by rw [World.size_alloc], ⟨TA.new (V := w5.alloc (.cells (madeCells #[.int .i64 0] g.length) 3)) (below_alloc hB5 _) (Kd.R_alloc (Kd.R_lower hv5 hBv.size) _) (zero_row w5 _ _ hB5.size hn1) (by omega)⟩⟩
      case rel =>
        have hBv : Below w3.heap.size w3 ((w3.alloc (.cells #[.int .i64 (-1)] 3)).alloc (.cells (madeCells #[.int .i64 0] g.length) 3)).drew := below_drew (below_alloc (below_alloc (Below.refl _ _) _) _)
        have hB5 := hBv.trans (hb5.mono hBv.size)
        have hz := Kd.R_below (Kd.R_below (zero_row (w3.alloc (.cells #[.int .i64 (-1)] 3)) w3.heap.size g.length (by simp) hn1) (below_drew (Below.refl _ _))) hb5
        rw [World.size_alloc] at hz
        exact ⟨_, gi, ci, _, _, rfl, ⟨TA.new (V := w5) hB5 (Kd.R_lower hv5 hBv.size) hz (by
          have e0 : (w3.alloc (.cells #[.int .i64 (-1)] 3)).heap.size = w3.heap.size + 1 := World.size_alloc _ _
          have e : ((w3.alloc (.cells #[.int .i64 (-1)] 3)).alloc (.cells (madeCells #[.int .i64 0] g.length) 3)).drew.heap.size = (w3.alloc (.cells #[.int .i64 (-1)] 3)).heap.size + 1 := by
            show ((w3.alloc (.cells #[.int .i64 (-1)] 3)).alloc (.cells (madeCells #[.int .i64 0] g.length) 3)).heap.size = _
            rw [World.size_alloc]
          omega)⟩⟩
      case rel =>
        have hBv : Below w3.heap.size w3 ((w3.alloc (.cells (madeCells #[.int .i64 0] g.length) 3)).alloc (.cells #[.int .i64 (-1)] 3)).drew := below_drew (below_alloc (below_alloc (Below.refl _ _) _) _)
        have hB5 := hBv.trans (hb5.mono hBv.size)
        have hz := Kd.R_below (Kd.R_below (Kd.R_alloc (zero_row w3 w3.heap.size g.length (Nat.le_refl _) hn1) (.cells #[.int .i64 (-1)] 3)) (below_drew (Below.refl _ _))) hb5
        exact ⟨_, gi, ci, _, _, rfl, ⟨TA.new (V := w5) hB5 (Kd.R_lower hv5 hBv.size) hz (by
          have e : ((w3.alloc (.cells (madeCells #[.int .i64 0] g.length) 3)).alloc (.cells #[.int .i64 (-1)] 3)).drew.heap.size = w3.heap.size + 2 := by
            show ((w3.alloc (.cells (madeCells #[.int .i64 0] g.length) 3)).alloc (.cells #[.int .i64 (-1)] 3)).heap.size = _
            rw [World.size_alloc, World.size_alloc]
          omega)⟩⟩
    case rest =>
      obtain ⟨T, gi, ci, gp, cp', rfl, hTA⟩ := hcut
      clear hmk
      go_wp2_with fail
      go_loopw [30] (fun s wr => ∃ m : Nat, m ≤ (orderOf g).length ∧ s = .int .i64 m ∧ Aside0 (TA g.length w3 T gi ci gp cp' (List.replicate g.length (-1)) (zpl (orderOf g) g.length m) wr))
        (fun s _ => (orderOf g).length - (RowKit.intOf s).toNat)
      case atStart => exact ⟨0, Nat.zero_le _, rfl, hTA⟩
      case round =>
        clear hTA
        obtain ⟨m, hm, rfl, hTA⟩ := hrel
        by_cases hlt : m < (orderOf g).length
        · have hmn : (m : Int) < ((orderOf g).length : Int) := by omega
          have hm0 : (0 : Int) ≤ (m : Int) := by omega
          obtain ⟨ao, rfl, q0⟩ := Kd.at_int (Kd.C_below hO3.out hTA.out.hB) (m : Int) hm0 hmn
          obtain ⟨u, eu, hu, hpu⟩ := pos_at hr hlt
          rw [Int.toNat_natCast, rdI hlt, eu] at q0
          have hul := reach_lt hr hu
          have x1 := hTA.out.c1
          obtain ⟨hce, hfr⟩ := Kd.R_celln (0 : Int) hTA.out.hP (u : Int) (by omega) (by omega)
          rw [Int.toNat_natCast] at hce hfr
          have hset := hTA.out.putP u m
          have hom : (orderOf g).getD m 0 = (u : Int) := by rw [← eu]; simp [List.getD_eq_getElem?_getD, hlt]
          have hz := zpl_succ (orderOf g) g.length m
          rw [hom, Int.toNat_natCast] at hz
          rw [← hz] at hset
          have hset' := Aside0.mk hset
          have hun : (u : Int) < (g.length : Int) := by omega
          clear hset hz hom
          go_wp2_with fail
          go_roundw
          case rel => exact ⟨m + 1, by omega, by go_num, hset'⟩
          case measure => simp [RowKit.intOf]; omega
        · obtain rfl : m = (orderOf g).length := by omega
          have hzp := zpl_pos hr (orderOf g).length (Nat.le_refl _)
          have hzp' : ∀ v, Way g 0 v → (zpl (orderOf g) g.length (orderOf g).length).getD v 0 = (pos g v : Int) := fun v hv => hzp v hv (pos_lt hr hv).1
          have hzl := zpl_len (orderOf g) g.length (orderOf g).length
          generalize zpl (orderOf g) g.length (orderOf g).length = pl at hTA hzp' hzl
          clear hzp
          have x0 := hTA.out.c0
          obtain ⟨hce, hfr⟩ := Kd.R_celln (0 : Int) hTA.out.hD (0 : Int) (by omega) (by omega)
          have hset := hTA.out.putD 0 0
          have hset' : Aside0 (TA g.length w3 T gi ci gp cp' (dom0 g) pl _) := ⟨hset⟩
          have h0n : (0 : Int) < (g.length : Int) := by omega
          rw [Int.toNat_zero] at hce hfr
          clear hset hTA
          go_wp2_with fail
          generalize wr.setCell ⟨gi, 0, none⟩ (.int .i64 0) = W6 at hset' ⊢
          clear x0 hce hfr
          have hm1 : 1 ≤ (orderOf g).length := by have := (pos_lt hr (.refl 0)).1; omega
          go_loopg [8] k (fun gk s8 wr => ∃ (more : Bool) (D : List Int), s8 = .bool more ∧ Aside0 (TA g.length w3 T gi ci gp cp' D pl wr) ∧ Aside0 (if more = true then (∃ kk S, 1 ≤ kk ∧ ListInv g kk 1 S D) ∧ runO g gk D = some R else D = R))
          case atStart => exact ⟨true, dom0 g, rfl, hset', ⟨⟨1, _, Nat.le_refl 1, dom0_inv hr⟩, hR'.out⟩⟩
          case round =>
            clear hset'
            obtain ⟨more, D, rfl, hTA, hst⟩ := hrel
            cases more with
            | false =>
              obtain rfl : D = R := hst.out
              have x0 := hTA.out.c0
              obtain ⟨hce, hfr⟩ := Kd.R_celln (0 : Int) hTA.out.hD (0 : Int) (by omega) (by omega)
              rw [Int.toNat_zero] at hce hfr
              have hset := hTA.out.putD 0 (-1)
              have x2 := hset.c0
              have hset' := Aside0.mk hset
              clear hset hTA
              go_wp2_with fail
              go_ret
              exact ⟨_, rfl, Kd.R_mono (Kd.R_lower hset'.out.hD hB3.out.size) (fun _ _ => trivial), below_step hB3.out hset'.out.hB⟩
            | true =>
              obtain ⟨⟨kk, S, hkk, hinv⟩, hrun⟩ := (show (∃ kk S, 1 ≤ kk ∧ ListInv g kk 1 S D) ∧ runO g gk D = some R from hst.out)
              obtain ⟨gk, rfl⟩ : ∃ m, gk = m + 1 := by
                cases gk with
                | zero => cases hrun
                | succ m => exact ⟨m, rfl⟩
              obtain ⟨ao, rfl, _⟩ := Kd.at_int hO3.out (0 : Int) (by omega) (by omega)
              have hpa : passA g D = passL g ((orderOf g).drop 1) (D, false) := by unfold passA; rw [tail_drop]
              have hrun' := Aside0.mk hrun
              have hmc : ((orderOf g).length : Int) ≥ 1 := by omega
              have hm2 : ¬ (1 : Int) > ((orderOf g).length : Int) := by omega
              clear hst hrun
              by_cases hc1 : co = 1
              · subst hc1
                have hone : (orderOf g).length = 1 := by omega
                have hp0 : passA g D = (D, false) := by rw [hpa, List.drop_eq_nil_of_le (by omega)]; rfl
                have hDR : D = R := by
                  have h := hrun'.out
                  unfold runO at h
                  rw [hp0] at h
                  exact Option.some.inj h
                have hDR' := Aside0.mk hDR
                have hz0 : ¬ (0 : Int) < (((orderOf g).length - 1 : Nat) : Int) := by omega
                clear hpa hp0 hDR hone
                go_wp2_with fail
                go_loopw [8, 52] (fun s8 s wq => s8 = .bool false ∧ s = .int .i64 0 ∧ Aside0 (TA g.length w3 T gi ci gp cp' D pl wq))
                  (fun _ _ _ => 0)
                case atStart => exact ⟨rfl, rfl, hTA⟩
                case round =>
                  clear hTA
                  obtain ⟨rfl, rfl, hTA⟩ := hrel
                  go_wp2_with fail
                  go_roundg gk
                  case measure => omega
                  case rel => exact ⟨false, D, rfl, hTA, ⟨by rw [if_neg (by simp)]; exact hDR'.out⟩⟩
              · have hco : (orderOf g).length - 1 ≤ co - 1 := by omega
                go_wp2_with fail
                go_loopw [8, 52] (fun s8 s52 wq => ∃ (j : Nat) (D1 : List Int) (more : Bool) (S1 : Nat → Prop), j + 1 ≤ (orderOf g).length ∧ s52 = .int .i64 j ∧ s8 = .bool more ∧ ListInv g kk (j + 1) S1 D1 ∧ Aside0 (TA g.length w3 T gi ci gp cp' D1 pl wq) ∧ Aside0 (passA g D = passL g ((orderOf g).drop (j + 1)) (D1, more)))
                  (fun _ s52 _ => (orderOf g).length - (RowKit.intOf s52).toNat)
                case atStart => exact ⟨0, D, false, S, hm1, rfl, rfl, hinv, hTA, ⟨hpa⟩⟩
                case round =>
                  clear hTA hpa hinv
                  obtain ⟨j, D1, more, S1, hj, rfl, rfl, hinv, hTA, hpa⟩ := hrel
                  by_cases hlt : j + 1 < (orderOf g).length
                  · obtain ⟨v, ev, hv, hpv⟩ := pos_at hr hlt
                    have hvl := reach_lt hr hv
                    have hv0 : v ≠ 0 := fun e => by rw [e, pos_zero hr] at hpv; omega
                    obtain ⟨ad, e1, q0⟩ := Kd.at_int (Kd.C_below hO3.out hTA.out.hB) ((j + 1 : Nat) : Int) (by omega) (by omega)
                    cases e1
                    rw [Int.toNat_natCast, rdI hlt, ev, Addr.add_succ', show ao.off + (j + 1) = ao.off + 1 + j by omega] at q0
                    obtain ⟨ap, Ar, cr, rfl, y0, y1, y2⟩ := at_L1 (Kd.C_below hP3.out hTA.out.hB) (v : Int) (by omega) (by rw [predsOf_len]; omega)
                    rw [Int.toNat_natCast, rdL] at y0
                    rw [rdL] at y1 y2
                    have hjn : (j : Int) < (((orderOf g).length - 1 : Nat) : Int) := by omega
                    have hj0 : (0 : Int) ≤ (j : Int) := by omega
                    rw [← hpv] at hinv
                    have hrl : (rowOf (predsOf g) v).length ≤ 1000000 := by
                      have h4 := row_le_tot (predsOf g) v
                      have h5 := tot_pfold hg'.out g.length (Nat.le_refl _)
                      rw [List.take_length] at h5
                      have h6 := tot_le (right_8 hr)
                      unfold predsOf at h4 ⊢; omega
                    have hnc := nearest_calls hr hinv hzl hzp' T (some ⟨gi, 0, none⟩) (some ⟨gp, 0, none⟩) ci cp' (v := v) (rowOf (predsOf g) v) Ar cr wr (fun x hx => by
                      obtain ⟨i, hi, rfl, he⟩ := (predsOf_mem hg'.out v x).1 hx
                      exact ⟨i, rfl, hi, he⟩) hrl hTA.out.c0 hTA.out.c1 hTA.out.cD hTA.out.cP y2
                    obtain ⟨D2, more2, es, hinv2, _, _⟩ := pstep_spec hr hkk (more := more) hv hv0 hinv
                    have hpa2 : passA g D = passL g ((orderOf g).drop (j + 1 + 1)) (D2, more2) := by
                      rw [hpa.out, List.drop_eq_getElem_cons hlt, ev]
                      show passL g _ (pstep g (D1, more) (v : Int)) = _
                      rw [es]
                    unfold pstep at es
                    rw [Int.toNat_natCast] at es
                    dsimp only at es
                    have es' := Aside0.mk es
                    have hpa' := Aside0.mk hpa2
                    have hinv' := Aside0.mk hinv2
                    have hvn : (v : Int) < ((predsOf g).length : Int) := by rw [predsOf_len]; omega
                    have hvg : (v : Int) < (g.length : Int) := by omega
                    clear es hpa2 hinv2 hpa hinv y1 y2
                    generalize nearestL g D1 (rowOf (predsOf g) v) = b at hnc es'
                    go_wp2_with fail
                    refine hnc.mono ?_
                    rintro e w7 ⟨rfl, ⟨q7, rfl⟩⟩
                    have hTA7 := Aside0.mk (hTA.out.drewN q7)
                    generalize wr.drewN q7 = w7 at hTA7 ⊢
                    have x0 := hTA7.out.c0
                    obtain ⟨hce, hfr⟩ := Kd.R_celln (0 : Int) hTA7.out.hD (v : Int) (by omega) (by omega)
                    rw [Int.toNat_natCast] at hce hfr
                    change w7.cell? ⟨gi, v, none⟩ = some (.int .i64 (rd D1 (v : Int))) at hce
                    rw [rdD] at hce
                    have hset := Aside0.mk (hTA7.out.putD v b)
                    clear hTA hnc q0 y0
                    generalize D1.getD v 0 = dv at hce es'
                    by_cases hbe : b = dv
                    · have e3 := es'.out
                      rw [if_pos hbe, Prod.mk.injEq] at e3
                      obtain ⟨rfl, rfl⟩ := e3
                      subst hbe
                      go_wp2_with fail
                      go_roundw
                      case rel => exact ⟨j + 1, D1, more, _, by omega, by go_num, rfl, by rw [← hpv]; exact hinv'.out, hTA7, hpa'⟩
                      case measure => simp [RowKit.intOf]; omega
                    · have e3 := es'.out
                      rw [if_neg hbe, Prod.mk.injEq] at e3
                      obtain ⟨rfl, rfl⟩ := e3
                      go_wp2_with fail
                      go_roundw
                      case rel => exact ⟨j + 1, _, true, _, by omega, by go_num, rfl, by rw [← hpv]; exact hinv'.out, hset, hpa'⟩
                      case measure => simp [RowKit.intOf]; omega
                  · have hjn : ¬ (j : Int) < (((orderOf g).length - 1 : Nat) : Int) := by omega
                    have hje : j + 1 = (orderOf g).length := by omega
                    have hpe : passA g D = (D1, more) := by rw [hpa.out, hje, List.drop_length]; rfl
                    have hrr := hrun'.out
                    unfold runO at hrr
                    rw [hpe] at hrr
                    rw [hje] at hinv
                    have hrr' := Aside0.mk hrr
                    have hinv' := Aside0.mk (hinv.next hr hkk)
                    clear hrr hinv hpe hpa
                    go_wp2_with fail
                    go_roundg gk
                    case measure => omega
                    case rel =>
                      refine ⟨more, D1, rfl, hTA, ⟨?_⟩⟩
                      have h := hrr'.out
                      cases more with
                      | true => exact ⟨⟨kk + 1, S1, by omega, hinv'.out⟩, by simpa using h⟩
                      | false => rw [if_neg (by simp)]; exact Option.some.inj (by simpa using h)
end Go.Proofs.Ytkmbhknmjnbanaa.A


namespace Go.Proofs.Ytkmbhknmjnbanaa.A
open Go.RowKit Go.Proofs.YtkmbhknmjnbanaaW.PrintWords Go.Proofs.YtkmbhknmjnbanaaW.PrintLast Go.Shelf Go.Lib
attribute [local go_sem] Oper.semAt_some
set_option linter.unusedVariables false
set_option linter.unusedSimpArgs false

/-- a block and those over it, so many at most -/
def upL (D : List Int) : Nat → Int → List Int
  | 0, _ => []
  | k + 1, a => if 0 ≤ a ∧ a < (D.length : Int) then a :: upL D k (D.getD a.toNat 0) else []
/-- what a round may touch -/
def KU (n₀ Bg Bf : Nat) (k : Nat) : Prop := ¬ (k < n₀ ∨ k = Bg ∨ k = Bf)
structure US (A : Option Addr) (c n : Nat) (w0 : World) (Bg Bf : Nat) (a : Int) (W : World) : Prop where
  hB : Below w0.heap.size w0 W
  cg : W.cell? ⟨Bg, 0, none⟩ = some (.slice A n c)
  cf : W.cell? ⟨Bf, 0, none⟩ = some (.int .i64 a)
  fr : W.frozen? ⟨Bf, 0, none⟩ = false
theorem US.keep {A : Option Addr} {c n : Nat} {w0 : World} {Bg Bf : Nat} {a : Int} {W W' : World} (h : US A c n w0 Bg Bf a W) (k : KeepsBut (KU w0.heap.size Bg Bf) W W') : US A c n w0 Bg Bf a W' :=
  ⟨h.hB.trans (k.below h.hB.size (fun j hj hx => hx (.inl hj))), k.cell h.cg (fun hx => hx (.inr (.inl rfl))), k.cell h.cf (fun hx => hx (.inr (.inr rfl))), k.frozen h.cf (fun hx => hx (.inr (.inr rfl))) h.fr⟩
theorem US.set {A : Option Addr} {c n : Nat} {w0 : World} {Bg Bf : Nat} {a : Int} {W : World} (h : US A c n w0 Bg Bf a W) (hne : Bg ≠ Bf) (hf : w0.heap.size ≤ Bf) (b : Int) : US A c n w0 Bg Bf b (W.setCell ⟨Bf, 0, none⟩ (.int .i64 b)) :=
  ⟨h.hB.trans ((Below.refl _ _).setCell hf _), (World.cell?_setCell_far _ _ _ _ (fun e => hne e.symm)).trans h.cg, World.cell?_setCell_same' _ _ _ (by rw [h.cf]; rfl), by rw [World.frozen?_setCell]; exact h.fr⟩

set_option maxRecDepth 100000 in
set_option maxHeartbeats 4000000 in
theorem up1_in (F : Fence) (hd : F.depth = none) (n : Nat) (h80 : F.fn 80) (hro : F.round = none) (l Bg Bf : Nat) (a0 : Int) (A : Option Addr) (c : Nat) (D : List Int) (w0 : World)
    (hC0 : Kd.C (Kd.int .i64) w0 A D.length D) (hDl : D.length ≤ 1000000) (hne : Bg ≠ Bf) (hf0 : w0.heap.size ≤ Bf)
    (J Jx : List Int → World → Prop) (W : World) (hU : US A c D.length w0 Bg Bf a0 W) (hJ : AbX (fun k => k = Bf) J)
    (hY : ∀ pre x W', 0 ≤ x → x < (D.length : Int) → J pre W' → W.heap.size ≤ W'.heap.size → pre.length < D.length + 1 → YieldAt F (n - 1) Try.prog l #[.int .i64 x] W' fun e W'' =>
      (e = .returned (.bool true) ∧ J (pre ++ [x]) W'' ∧ KeepsBut (KU w0.heap.size Bg Bf) W' W'') ∨ (e = .returned (.bool false) ∧ Jx (pre ++ [x]) W''))
    (h0 : J [] W) :
    CallsIn F n Try.prog 80 #[.func (.yield l) #[] #[], .pointer (some ⟨Bg, 0, none⟩), .pointer (some ⟨Bf, 0, none⟩)] W fun e W' => (∃ v, e = .returned v) ∧
      ((∃ ys, ys = upL D (D.length + 1) a0 ∧ J ys W') ∨ (∃ pre, pre <+: upL D (D.length + 1) a0 ∧ Jx pre W')) := by
  have hdd : ∀ k : Nat, (F.depth.isSome = true → 1 ≤ k) := fun k h => by rw [hd] at h; cases h
  have c1 := hU.cg
  have hU' := Aside0.mk hU
  have h0' := Aside0.mk h0
  have hlen1 : wrap64 ((D.length : Int) + 1) = ((D.length + 1 : Nat) : Int) := by unfold wrap64; omega
  clear hU h0
  refine callsIn_of_wp Try.func80 rfl h80 ?_ hro
  simp only [Try.ntmps80, List.size_toArray, List.length_cons, List.length_nil, Nat.reduceAdd, Nat.reduceSub, Array.replicate_succ, Array.replicate_zero, List.push_toArray, List.append_toArray, List.nil_append, List.cons_append]
  gi_wp2
  gi_loopw [7] (fun s wr => ∃ (m : Nat) (pre : List Int) (a : Int), m ≤ D.length + 1 ∧ s = .int .i64 m ∧ pre.length = m ∧ Aside0 (pre ++ upL D (D.length + 1 - m) a = upL D (D.length + 1) a0) ∧ Aside0 (US A c D.length w0 Bg Bf a wr) ∧ Aside0 (J pre wr) ∧ Aside0 (W.heap.size ≤ wr.heap.size))
    (fun s wr => D.length + 1 - (RowKit.intOf s).toNat)
  case atStart => exact ⟨0, [], a0, Nat.zero_le _, rfl, rfl, ⟨rfl⟩, hU', h0', ⟨Nat.le_refl _⟩⟩
  case round =>
    clear hU' h0' c1
    obtain ⟨m, pre, a, hm, rfl, hpl, hup, hU, hJ0, hsz⟩ := hrel
    by_cases hlt : m < D.length + 1
    · have hmn : (m : Int) < (D.length : Int) + 1 := by omega
      have k1 := hU.out.cg
      have k2 := hU.out.cf
      have k3 := hU.out.fr
      have hupn : upL D (D.length + 1 - m) a = if 0 ≤ a ∧ a < (D.length : Int) then a :: upL D (D.length + 1 - (m + 1)) (D.getD a.toNat 0) else [] := by
        rw [show D.length + 1 - m = (D.length + 1 - (m + 1)) + 1 by omega]
        rfl
      by_cases ha0 : a < 0
      · have hend : pre = upL D (D.length + 1) a0 := by
          have := hup.out
          rw [hupn, if_neg (by omega), List.append_nil] at this
          exact this
        have hend' := Aside0.mk hend
        clear hupn hend hY
        gi_wp2
        refine ⟨fun _ h => (by cases h), ?_⟩
        gi_wp2
        refine bodyPost_ret (results_none rfl _ _ _) rfl ?_
        exact ⟨⟨_, rfl⟩, .inl ⟨_, hend'.out, hJ0.out⟩⟩
      · by_cases ha1 : a ≥ (D.length : Int)
        · have hend : pre = upL D (D.length + 1) a0 := by
            have := hup.out
            rw [hupn, if_neg (by omega), List.append_nil] at this
            exact this
          have hend' := Aside0.mk hend
          clear hupn hend hY
          gi_wp2
          refine ⟨fun _ h => (by cases h), ?_⟩
          gi_wp2
          refine bodyPost_ret (results_none rfl _ _ _) rfl ?_
          exact ⟨⟨_, rfl⟩, .inl ⟨_, hend'.out, hJ0.out⟩⟩
        · have hap : 0 ≤ a := by omega
          have hal : a < (D.length : Int) := by omega
          have hnx : (pre ++ [a]) ++ upL D (D.length + 1 - (m + 1)) (D.getD a.toNat 0) = upL D (D.length + 1) a0 := by
            have := hup.out
            rw [hupn, if_pos ⟨hap, hal⟩] at this
            rw [List.append_assoc]
            exact this
          have hnx' := Aside0.mk hnx
          obtain ⟨an, rfl⟩ := Int.eq_ofNat_of_zero_le hap
          obtain ⟨ad, rfl, q0⟩ := Kd.at_int hC0 (an : Int) hap hal
          rw [Int.toNat_natCast, rdD] at q0
          have q0' := Aside0.mk q0
          obtain ⟨fn, tmps, assign, body, hy, hR⟩ := hY pre (an : Int) wr hap hal hJ0.out hsz.out (by omega)
          clear hupn hnx hup q0
          gi_wp2_with ((try refine ⟨hdd _, ?_⟩); refine hR.mono ?_; clear hR; rintro e W2 (⟨rfl, hJ2, hk2⟩ | ⟨rfl, hx2⟩); have hU2 := hU.out.keep hk2; have k4 := hU2.cg; have k5 := hU2.cf; have k6 := hU2.fr; have q1 := (hU2.hB.cell (World.block_lt_of_cell? _ _ q0'.out)).trans q0'.out; clear hy)
          · have hU3 := Aside0.mk (hU2.set hne hf0 (D.getD an 0))
            have hJ3 := Aside0.mk (hJ _ _ _ hJ2 (KeepsBut.setCell W2 ⟨Bf, 0, none⟩ (.int .i64 (D.getD an 0)) rfl))
            have hsz3 : Aside0 (W.heap.size ≤ (W2.setCell ⟨Bf, 0, none⟩ (.int .i64 (D.getD an 0))).heap.size) := ⟨Nat.le_trans hsz.out (Nat.le_trans hk2.size (by show W2.heap.size ≤ (W2.heap.modify _ _).size; rw [Array.size_modify]; exact Nat.le_refl _))⟩
            clear hU2 hJ2 hk2
            go_roundw
            case rel => exact ⟨m + 1, pre ++ [(an : Int)], _, by omega, by go_num, by rw [List.length_append, hpl]; rfl, hnx', hU3, hJ3, hsz3⟩
            case measure => simp [RowKit.intOf]; omega
          · refine bodyPost_ret (results_none rfl _ _ _) rfl ?_
            exact ⟨⟨_, rfl⟩, .inr ⟨_, ⟨_, hnx'.out⟩, hx2⟩⟩
    · obtain rfl : m = D.length + 1 := by omega
      have hend : pre = upL D (D.length + 1) a0 := by
        have := hup.out
        rw [Nat.sub_self] at this
        simpa [upL] using this
      have hend' := Aside0.mk hend
      clear hend hY
      gi_wp2
      go_end0
      exact ⟨⟨_, rfl⟩, .inl ⟨_, hend'.out, hJ0.out⟩⟩
/-- a block of a row of so many -/
abbrev BlkN (n : Nat) := { x : Int // 0 ≤ x ∧ x < (n : Int) }
theorem up_stops (F : Fence) (hd : F.depth = none) (n : Nat) (h80 : F.fn 80) (hro : F.round = none) (Bg Bf : Nat) (a : Int) (A : Option Addr) (c : Nat) (D : List Int) (w0 w : World)
    (hC0 : Kd.C (Kd.int .i64) w0 A D.length D) (hDl : D.length ≤ 1000000) (hne : Bg ≠ Bf) (hf0 : w0.heap.size ≤ Bf) (hU : US A c D.length w0 Bg Bf a w) :
    SeqX F n Try.prog 80 #[.pointer (some ⟨Bg, 0, none⟩), .pointer (some ⟨Bf, 0, none⟩)] (fun x : BlkN D.length => #[.int .i64 x.1]) (fun _ k => k = Bf) (fun _ => KeepsBut (KU w0.heap.size Bg Bf)) (fun ys => ys.map (·.1) = upL D (D.length + 1) a) (fun pre => pre.map (·.1) <+: upL D (D.length + 1) a) (D.length + 1) 0 w := by
  intro l J Jx W hW hJ hJx hY h0
  have hU1 : US A c D.length w0 Bg Bf a W :=
    ⟨hU.hB.trans (hW.mono hU.hB.size), (hW.cell (World.block_lt_of_cell? _ _ hU.cg)).trans hU.cg, (hW.cell (World.block_lt_of_cell? _ _ hU.cf)).trans hU.cf, by
      have hb := hW.block Bf (World.block_lt_of_cell? _ _ hU.cf)
      have := hU.fr
      unfold World.frozen? at this ⊢
      rw [show (⟨Bf, 0, none⟩ : Addr).block = Bf from rfl] at this ⊢
      rw [hb]; exact this⟩
  refine (up1_in F hd n h80 hro l Bg Bf a A c D w0 hC0 hDl hne hf0 (fun pre W => ∃ p : List (BlkN D.length), p.map (·.1) = pre ∧ J p W) (fun pre W => ∃ p : List (BlkN D.length), p.map (·.1) = pre ∧ Jx p W) W
    hU1 (fun s W1 W2 ⟨p, hp, hj⟩ hk => ⟨p, hp, hJ p W1 W2 hj hk⟩) ?_ ⟨[], rfl, h0⟩).mono ?_
  · rintro pre x W' x0 x1 ⟨p, rfl, hj⟩ h4 hlen
    refine (hY p ⟨x, x0, x1⟩ W' hj (by omega) (by simpa using hlen)).mono ?_
    rintro e W'' (⟨rfl, h1, h2⟩ | ⟨rfl, h1⟩)
    · exact .inl ⟨rfl, ⟨p ++ [⟨x, x0, x1⟩], by simp, h1⟩, h2⟩
    · exact .inr ⟨rfl, p ++ [⟨x, x0, x1⟩], by simp, h1⟩
  · rintro e W' ⟨hv, (⟨ys, rfl, p, hp, hj⟩ | ⟨_, hpre, p, hp, hj⟩)⟩
    · exact ⟨hv, .inl ⟨p, hp, hj⟩⟩
    · exact ⟨hv, .inr ⟨p, by show p.map (·.1) <+: _; rw [hp]; exact hpre, hj⟩⟩
theorem up_in (F : Fence) (n : Nat) (h64 : F.fn 64) (hro : F.round = none) (A : Option Addr) (m c : Nat) (a : Int) (w : World) :
    CallsIn F n Try.prog 64 #[.slice A m c, .int .i64 a] w fun e w' => e = .returned (.func (.func 80) #[] #[.pointer (some ⟨w.heap.size, 0, none⟩), .pointer (some ⟨w.heap.size + 1, 0, none⟩)]) ∧ w' = (w.alloc (.cells #[.slice A m c] 27)).alloc (.cells #[.int .i64 a] 3) := by
  refine callsIn_of_wp Try.func64 rfl h64 ?_ hro
  simp only [Try.ntmps64, List.size_toArray, List.length_cons, List.length_nil, Nat.reduceAdd, Nat.reduceSub, Array.replicate_succ, Array.replicate_zero, List.push_toArray, List.append_toArray, List.nil_append, List.cons_append]
  gi_wp2
  go_ret
  exact ⟨rfl, rfl⟩
/-- behind the making of the two boxes -/
theorem up_state {A : Option Addr} {c : Nat} {a : Int} {D : List Int} {w0 w : World} (hB : Below w0.heap.size w0 w) : US A c D.length w0 w.heap.size (w.heap.size + 1) a ((w.alloc (.cells #[.slice A D.length c] 27)).alloc (.cells #[.int .i64 a] 3)) :=
  ⟨below_alloc (below_alloc hB _) _, by simp [go_sem], by simp [go_sem], by simp [go_sem]⟩
end Go.Proofs.Ytkmbhknmjnbanaa.A


namespace Go.Proofs.Ytkmbhknmjnbanaa.A
open Go.RowKit Go.Proofs.YtkmbhknmjnbanaaW.PrintWords Go.Proofs.YtkmbhknmjnbanaaW.PrintLast Go.Proofs.YtkmbhknmjnbanaaW.PrintMore
attribute [local go_sem] max2_int min2_int max_two min_two max_three min_three max_four min_four   -- for this text's walks alone
set_option linter.unusedVariables false
set_option linter.unusedSimpArgs false

def dom_counts.f (l0 : List Int) (a1 : Int) : Option (Bool) := if a1 ≥ 0 then (if a1 < (l0.length : Int) then (if a1 = 0 then (some true) else (if 0 ≤ a1 then (some (decide ((rd l0 a1) ≥ 0))) else (none))) else (some false)) else (some false)
set_option maxHeartbeats 8000000 in
set_option maxRecDepth 100000 in
theorem dom_counts.calls (A0 : Option Addr) (c0 : Nat) (l0 : List Int) (a1 : Int) (r : Bool) (w : World) (hr0 : Kd.C (Kd.int .i64) w A0 l0.length l0) (hc0 : l0.length ≤ c0) (h : dom_counts.f l0 a1 = some r) :
    Calls Try.prog 63 #[.slice A0 l0.length c0, .int .i64 a1] w fun e w' => e = .returned (.bool r) ∧ Drawn0 w w' := by
  have HR0 := Aside0.mk hr0
  have HC0 := Aside0.mk hc0
  clear hr0 hc0
  have H : (if a1 ≥ 0 then (if a1 < (l0.length : Int) then (if a1 = 0 then (some true) else (if 0 ≤ a1 then (some (decide ((rd l0 a1) ≥ 0))) else (none))) else (some false)) else (some false)) = some r := h
  clear h
  by_cases c3 : a1 ≥ 0
  · rw [if_pos c3] at H
    have c3b0 : decide (0 ≤ a1) = true := decide_eq_true c3
    clear c3
    by_cases c4 : a1 < (l0.length : Int)
    · rw [if_pos c4] at H
      have c4b0 : decide (a1 < (l0.length : Int)) = true := decide_eq_true c4
      clear c4
      by_cases c5 : a1 = 0
      · rw [if_pos c5] at H
        have c5b0 : (a1 == 0) = true := beq_iff_eq.mpr c5
        have c5b1 : (a1 != 0) = false := bne_eq_false_iff_eq.mpr c5
        clear c5
        obtain rfl := Option.some.inj H
        go_enter Try.func63, Try.ntmps63
        go_wp2
        go_ret
        exact ⟨by first | rfl | (simp; done) | (simp [*]; done), by repeat (first | exact Drawn0.refl _ | apply Drawn0.step)⟩
      · rw [if_neg c5] at H
        have c5b0 : (a1 == 0) = false := beq_eq_false_iff_ne.mpr c5
        have c5b1 : (a1 != 0) = true := bne_iff_ne.mpr c5
        by_cases c6 : 0 ≤ a1
        · rw [if_pos c6] at H
          have c6b0 : decide (0 ≤ a1) = true := decide_eq_true c6
          clear c6
          obtain rfl := Option.some.inj H
          have p616 : 0 ≤ (a1 : Int) := of_decide_eq_true (by first | (with_reducible assumption) | assumption)
          have q616 : a1 < (l0.length : Int) := of_decide_eq_true (by first | (with_reducible assumption) | assumption)
          obtain ⟨ad616, e616, hx616_0⟩ := Kd.at_int HR0.out a1 p616 q616
          cases e616
          replace p616 := eq_true p616
          replace q616 := eq_true q616
          go_enter Try.func63, Try.ntmps63
          go_wp2
          go_ret
          exact ⟨by first | rfl | (simp; done) | (simp [*]; done), by repeat (first | exact Drawn0.refl _ | apply Drawn0.step)⟩
        · rw [if_neg c6] at H
          exact absurd H (by simp)
    · rw [if_neg c4] at H
      have c4b0 : decide (a1 < (l0.length : Int)) = false := decide_eq_false c4
      clear c4
      obtain rfl := Option.some.inj H
      go_enter Try.func63, Try.ntmps63
      go_wp2
      go_ret
      exact ⟨by first | rfl | (simp; done) | (simp [*]; done), by repeat (first | exact Drawn0.refl _ | apply Drawn0.step)⟩
  · rw [if_neg c3] at H
    have c3b0 : decide (0 ≤ a1) = false := decide_eq_false c3
    clear c3
    obtain rfl := Option.some.inj H
    go_enter Try.func63, Try.ntmps63
    go_wp2
    go_ret
    exact ⟨by first | rfl | (simp; done) | (simp [*]; done), by repeat (first | exact Drawn0.refl _ | apply Drawn0.step)⟩

end Go.Proofs.Ytkmbhknmjnbanaa.A


namespace Go.Proofs.Ytkmbhknmjnbanaa.A
open Go.RowKit Go.Proofs.YtkmbhknmjnbanaaW.PrintWords Go.Proofs.YtkmbhknmjnbanaaW.PrintLast Go.Shelf Go.Lib
attribute [local go_sem] Oper.semAt_some
set_option linter.unusedVariables false
set_option linter.unusedSimpArgs false

def countsB (D : List Int) (a : Int) : Bool := decide (0 ≤ a) && decide (a < (D.length : Int)) && (decide (a = 0) || decide (0 ≤ D.getD a.toNat 0))
theorem counts_f (D : List Int) (a : Int) : dom_counts.f D a = some (countsB D a) := by
  unfold dom_counts.f countsB
  by_cases h0 : 0 ≤ a
  · rw [if_pos h0, decide_eq_true h0]
    by_cases h1 : a < (D.length : Int)
    · rw [if_pos h1, decide_eq_true h1]
      by_cases h2 : a = 0
      · rw [if_pos h2, decide_eq_true h2]; rfl
      · rw [if_neg h2, if_pos h0, decide_eq_false h2, rdD' h0]; rfl
    · rw [if_neg h1, decide_eq_false h1]; rfl
  · rw [if_neg h0, decide_eq_false h0]; rfl
theorem counts_calls (A : Option Addr) (c : Nat) (D : List Int) (a : Int) (w : World) (h : Kd.C (Kd.int .i64) w A D.length D) (hc : D.length ≤ c) :
    Calls Try.prog 63 #[.slice A D.length c, .int .i64 a] w fun e w' => e = .returned (.bool (countsB D a)) ∧ Drawn0 w w' := dom_counts.calls A c D a _ w h hc (counts_f D a)
/-- is a among them? -/
def HasV {n : Nat} (a : Int) (pre : List (BlkN n)) : Prop := a ∈ pre.map (·.1)
theorem HasV.snoc {n : Nat} {a : Int} {pre : List (BlkN n)} {x : BlkN n} : HasV a (pre ++ [x]) ↔ HasV a pre ∨ a = x.1 := by
  unfold HasV; rw [List.map_append, List.mem_append]; simp
/-- does a stand over b? -/
def domB (D : List Int) (a b : Int) : Bool := countsB D a && (countsB D b && decide (a ∈ upL D (D.length + 1) b))

set_option maxRecDepth 100000 in
set_option maxHeartbeats 4000000 in
theorem dominates_calls (A : Option Addr) (c : Nat) (D : List Int) (a b : Int) (w : World) (h : Kd.C (Kd.int .i64) w A D.length D) (hc : D.length ≤ c) (hDl : D.length ≤ 1000000) :
    Calls Try.prog 37 #[.slice A D.length c, .int .i64 a, .int .i64 b] w fun e w' => e = .returned (.bool (domB D a b)) ∧ Below w.heap.size w w' := by
  rw [← callsIn_wide (n := 5)]
  have hro : (Fence.wide).round = none := rfl
  have hd : (Fence.wide).depth = none := rfl
  have hca : ∀ V : World, Below w.heap.size w V → CallsIn Fence.wide (5 - 1) Try.prog 63 #[.slice A D.length c, .int .i64 a] V fun e w' => e = .returned (.bool (countsB D a)) ∧ Drawn0 V w' := fun V hV => callsIn_wide.2 (counts_calls A c D a V (Kd.C_below h hV) hc)
  have hcb : ∀ V : World, Below w.heap.size w V → CallsIn Fence.wide (5 - 1) Try.prog 63 #[.slice A D.length c, .int .i64 b] V fun e w' => e = .returned (.bool (countsB D b)) ∧ Drawn0 V w' := fun V hV => callsIn_wide.2 (counts_calls A c D b V (Kd.C_below h hV) hc)
  have hB2 : Below w.heap.size w ((w.alloc (.cells #[.int .i64 a] 3)).alloc (.cells #[.bool false] 4)) := below_alloc (below_alloc (Below.refl _ _) _) _
  have hca1 := hca _ hB2
  have e0 : ((w.alloc (.cells #[.int .i64 a] 3)).alloc (.cells #[.bool false] 4)).cell? ⟨w.heap.size, 0, none⟩ = some (.int .i64 a) := by simp [go_sem]
  have e1 : ((w.alloc (.cells #[.int .i64 a] 3)).alloc (.cells #[.bool false] 4)).cell? ⟨w.heap.size + 1, 0, none⟩ = some (.bool false) := by simp [go_sem]
  have e2 : ((w.alloc (.cells #[.int .i64 a] 3)).alloc (.cells #[.bool false] 4)).frozen? ⟨w.heap.size + 1, 0, none⟩ = false := by simp [go_sem]
  have e3 : ((w.alloc (.cells #[.int .i64 a] 3)).alloc (.cells #[.bool false] 4)).heap.size = w.heap.size + 2 := by simp
  refine callsIn_of_wp_marks Try.func37 rfl trivial ?_ hro
  simp only [Try.ntmps37, List.size_toArray, List.length_cons, List.length_nil, Nat.reduceAdd, Nat.reduceSub, Array.replicate_succ, Array.replicate_zero, List.push_toArray, List.append_toArray, List.nil_append, List.cons_append]
  unfold domB
  cases hka : countsB D a with
  | false =>
    rw [hka] at hca1
    gi_wp2_with ((try refine ⟨trivial, ?_⟩); gi_at_call 63; refine hca1.mono ?_; clear hca1; rintro e w1 ⟨rfl, ⟨q1, rfl⟩⟩)
    refine ⟨trivial, ?_⟩
    gi_wp2
    refine ⟨.bool false, ?_, rfl, (((hB2.trans (pw_below_drewN (Below.refl _ _) q1)).setCell (by show w.heap.size ≤ w.heap.size + 1; omega) _))⟩
    simp [results, Try.f37, go_sem]
  | true =>
    rw [hka] at hca1
    have hcb1 : ∀ q, CallsIn Fence.wide (5 - 1) Try.prog 63 #[.slice A D.length c, .int .i64 b] (((w.alloc (.cells #[.int .i64 a] 3)).alloc (.cells #[.bool false] 4)).drewN q) _ := fun q => hcb _ (hB2.trans (pw_below_drewN (Below.refl _ _) q))
    cases hkb : countsB D b with
    | false =>
      rw [hkb] at hcb1
      gi_wp2_with (first
        | ((try refine ⟨trivial, ?_⟩); gi_at_call 63; refine hca1.mono ?_; clear hca1; rintro e w1 ⟨rfl, ⟨q1, rfl⟩⟩)
        | ((try refine ⟨trivial, ?_⟩); gi_at_call 63; refine (hcb1 _).mono ?_; clear hcb1; rintro e w1 ⟨rfl, ⟨q2, rfl⟩⟩))
      refine ⟨.bool false, ?_, rfl, (((hB2.trans (pw_below_drewN (Below.refl _ _) (q1 + q2))).setCell (by show w.heap.size ≤ w.heap.size + 1; omega) _))⟩
      simp [results, Try.f37, go_sem]
    | true =>
      rw [hkb] at hcb1
      gi_wp2_with (first
        | ((try refine ⟨trivial, ?_⟩); gi_at_call 63; refine hca1.mono ?_; clear hca1; rintro e w1 ⟨rfl, ⟨q1, rfl⟩⟩)
        | ((try refine ⟨trivial, ?_⟩); gi_at_call 63; refine (hcb1 _).mono ?_; clear hcb1; rintro e w1 ⟨rfl, ⟨q2, rfl⟩⟩)
        | ((try refine ⟨trivial, ?_⟩); gi_at_call 64; refine (up_in Fence.wide _ trivial hro A D.length c b _).mono ?_; rintro e w2 ⟨rfl, rfl⟩))
      obtain ⟨V, hV⟩ : ∃ V, ((w.alloc (.cells #[.int .i64 a] 3)).alloc (.cells #[.bool false] 4)).drewN (q1 + q2) = V := ⟨_, rfl⟩
      have hVs : V.heap.size = w.heap.size + 2 := by rw [← hV]; exact e3
      have hVB : Below w.heap.size w V := by rw [← hV]; exact hB2.trans (pw_below_drewN (Below.refl _ _) _)
      have hU := up_state (A := A) (c := c) (a := b) (D := D) hVB
      obtain ⟨WL, hWL⟩ : ∃ WL, (V.alloc (.cells #[.slice A D.length c] 27)).alloc (.cells #[.int .i64 b] 3) = WL := ⟨_, rfl⟩
      rw [hWL, hVs] at hU
      have f0 : WL.cell? ⟨w.heap.size, 0, none⟩ = some (.int .i64 a) := by rw [← hWL, ← hV]; simp [go_sem]
      have f1 : WL.cell? ⟨w.heap.size + 1, 0, none⟩ = some (.bool false) := by rw [← hWL, ← hV]; simp [go_sem]
      have f2 : WL.frozen? ⟨w.heap.size + 1, 0, none⟩ = false := by rw [← hWL, ← hV]; simp [go_sem]
      have hsz : WL.heap.size = w.heap.size + 4 := by rw [← hWL]; simp [hVs]
      simp only [hV, hVs]
      rw [hWL]
      clear hca hcb e0 e1 e2 e3 hV hWL hVB hB2
      have hst := up_stops Fence.wide hd 4 trivial hro (w.heap.size + 2) (w.heap.size + 2 + 1) b A c D w WL h hDl (by omega) (by omega) hU
      refine wpIn_rangeFunc_X hro (by omega) (gf := 80) (lb := #[.pointer (some ⟨w.heap.size + 2, 0, none⟩), .pointer (some ⟨w.heap.size + 2 + 1, 0, none⟩)]) rfl trivial (enters_of Try.func80 (by kernel_rfl) rfl) hst
        (fun k hk => by have : k = w.heap.size + 2 + 1 := hk; omega) (fun h k => h.trans k) (fun W l o o' h1 h2 _ _ _ => KeepsBut.putObj W o' (by rintro (h | h | h) <;> omega)) (Below.refl _ _) (fun _ => rfl)
        (fun pre W => Aside0 (Below w.heap.size w W ∧ W.cell? ⟨w.heap.size, 0, none⟩ = some (.int .i64 a) ∧ W.cell? ⟨w.heap.size + 1, 0, none⟩ = some (.bool false) ∧ W.frozen? ⟨w.heap.size + 1, 0, none⟩ = false ∧ ¬ HasV a pre))
        (fun cc pre W => Aside0 (cc = .ret ∧ Below w.heap.size w W ∧ W.cell? ⟨w.heap.size + 1, 0, none⟩ = some (.bool true) ∧ HasV a pre)) ?hI ?hIx ⟨⟨hU.hB, f0, f1, f2, by simp [HasV]⟩⟩ ?a1 ?assign ?body ?done ?stop
      case hI =>
        rintro pre W W' ⟨⟨h1, h2, h3, h4, h5⟩⟩ hk
        have hx : ∀ k, XX (fun _ k => k = w.heap.size + 2 + 1) WL.heap.size k → w.heap.size + 2 ≤ k := by
          rintro k (h | h)
          · have : k = w.heap.size + 2 + 1 := h; omega
          · omega
        exact ⟨⟨h1.trans (hk.below h1.size (fun k hk hX => by have := hx k hX; omega)), hk.cell h2 (fun hX => by have : w.heap.size + 2 ≤ w.heap.size := hx _ hX; omega), hk.cell h3 (fun hX => by have : w.heap.size + 2 ≤ w.heap.size + 1 := hx _ hX; omega), hk.frozen h3 (fun hX => by have : w.heap.size + 2 ≤ w.heap.size + 1 := hx _ hX; omega) h4, h5⟩⟩
      case hIx =>
        rintro cc pre W W' ⟨⟨rfl, h1, h3, h5⟩⟩ hk
        have hx : ∀ k, XX (fun _ k => k = w.heap.size + 2 + 1) WL.heap.size k → w.heap.size + 2 ≤ k := by
          rintro k (h | h)
          · have : k = w.heap.size + 2 + 1 := h; omega
          · omega
        exact ⟨⟨rfl, h1.trans (hk.below h1.size (fun k hk hX => by have := hx k hX; omega)), hk.cell h3 (fun hX => by have : w.heap.size + 2 ≤ w.heap.size + 1 := hx _ hX; omega), h5⟩⟩
      case assign =>
        intro l x W K hK
        gi_wp2
        exact hK
      case body =>
        rintro l pre ⟨x, x0, x1⟩ W ⟨⟨h1, h2, h3, h4, h5⟩⟩ _ _
        dsimp only
        by_cases hxa : x = a
        · subst hxa
          gi_wp2
          exact ⟨(KeepsOthers.setCell _ _ _).from _, ⟨rfl, h1.setCell (by show w.heap.size ≤ w.heap.size + 1; omega) _, World.cell?_setCell_same' _ _ _ (by rw [h3]; rfl), HasV.snoc.2 (.inr rfl)⟩⟩
        · gi_wp2
          refine ⟨(KeepsOthers.refl _).from _, KeepsBut.refl _ _, ⟨h1, h2, h3, h4, fun hy => ?_⟩⟩
          rcases HasV.snoc.1 hy with hy | hy
          · exact h5 hy
          · exact hxa hy.symm
      case done =>
        rintro Dd ys W hD hys ⟨⟨h1, h2, h3, h4, h5⟩⟩ hK
        gi_wp2
        have hK' := (KeepsOthers.setCell W ⟨w.heap.size + 1, 0, none⟩ (.bool false)).same Dd _ hK rfl
        refine ⟨by simp, .inl ⟨_, _, rfl, run_takeDeferred hK', ?_⟩⟩
        have hc5 := cell_kept (World.cell?_setCell_same' W ⟨w.heap.size + 1, 0, none⟩ (.bool false) (by rw [h3]; rfl)) (grownBy_putObj' _ Dd (.deferred none)) (fun r e => by cases e; exact ⟨_, hK', rfl⟩)
        have hno : a ∉ upL D (D.length + 1) b := by
          rw [← hys]
          exact h5
        refine ⟨.bool false, ?_, by rw [decide_eq_false hno], ?_⟩
        · simp [results, Try.f37, go_sem, hc5]
        · exact (h1.setCell (by show w.heap.size ≤ w.heap.size + 1; omega) _).trans (belowK_b (w := w) (Nat.le_refl _) _ Dd _ (.deferred none) (by omega) hK' rfl rfl)
      case stop =>
        rintro Dd cc pre W hD hpre ⟨⟨rfl, h1, h3, hy⟩⟩ hK
        gi_wp2
        refine ⟨by simp, .inl ⟨_, _, rfl, run_takeDeferred hK, ?_⟩⟩
        have hc5 := cell_kept h3 (grownBy_putObj' _ Dd (.deferred none)) (fun r e => by cases e; exact ⟨_, hK, rfl⟩)
        refine ⟨.bool true, ?_, ?_, ?_⟩
        · simp [results, Try.f37, go_sem, hc5]
        · have hm : a ∈ upL D (D.length + 1) b := hpre.subset hy
          rw [decide_eq_true hm]
        · exact h1.trans (belowK_b (w := w) (Nat.le_refl _) _ Dd _ (.deferred none) (by omega) hK rfl rfl)
end Go.Proofs.Ytkmbhknmjnbanaa.A


namespace Go.Proofs.Ytkmbhknmjnbanaa.A
open Go.RowKit Go.Maps Go.Proofs.YtkmbhknmjnbanaaW.PrintWords Go.Proofs.YtkmbhknmjnbanaaW.PrintLast Go.Shelf Go.Lib
attribute [local go_sem] Oper.semAt_some
set_option linter.unusedVariables false
set_option linter.unusedSimpArgs false

/-- those over a block, as far as the one over another -/
def cutL (D : List Int) (at_ : Nat) (p : Int) : List Int := (upL D (D.length + 1) p).takeWhile fun a => !decide (a = D.getD at_ 0)
/-- is a block in the frontier of another? -/
def inF (D : List Int) (P : List (List Int)) (at_ a : Nat) : Bool := (rowOf P at_).any fun p => countsB D p && decide ((a : Int) ∈ cutL D at_ p)
def frRow (D : List Int) (P : List (List Int)) (n a : Nat) : List Int := ((List.range n).filter fun at_ => inF D P at_ a).map fun k : Nat => (k : Int)
def frRows (D : List Int) (P : List (List Int)) (n : Nat) : List (List Int) := (List.range n).map (frRow D P n)

theorem SetAt.at {w w1 : World} {b n : Nat} {s : Int → Bool} (h : SetAt w b n s) (hb : w1.heap[b]? = w.heap[b]?) : SetAt w1 b n s := by
  obtain ⟨D, ⟨es, clock, h1, h2⟩, h3⟩ := h
  exact ⟨D, ⟨es, clock, hb.trans h1, h2⟩, h3⟩

theorem info69 : (Try.prog.info? 69).map (fun i => (i.zero, i.size, i.bytes)) = some (some (.map none), 1, 8) := by kernel_rfl
theorem made69 (n : Nat) : madeCells #[.map none] n = (Array.range n).map (fun _ => Value.map none) := by
  unfold madeCells
  apply Array.ext
  · simp
  · intro i h1 h2; simp [Nat.mod_one]
/-- the row of sets while they are made -/
structure FA (n : Nat) (w3 : World) (A : Option Addr) (ci m : Nat) (W : World) : Prop where
  hB : Below w3.heap.size w3 W
  bi : W.cell? ⟨w3.heap.size, 0, none⟩ = some (.slice A n ci)
  bs : W.cell? ⟨w3.heap.size + 1 + 1, 0, none⟩ = some (.slice (some ⟨w3.heap.size + 1, 0, none⟩) n n)
  row : ∀ j, j < n → W.cell? ⟨w3.heap.size + 1, j, none⟩ = some (if j < m then .map (some (w3.heap.size + 3 + j)) else .map none)
  fr : ∀ j, W.frozen? ⟨w3.heap.size + 1, j, none⟩ = false
  sets : ∀ j, j < m → SetAt W (w3.heap.size + 3 + j) 0 (fun _ => false)
  size : W.heap.size = w3.heap.size + 3 + m
theorem FA.step {n : Nat} {w3 : World} {A : Option Addr} {ci m : Nat} {W : World} (h : FA n w3 A ci m W) (hm : m < n) : FA n w3 A ci (m + 1) ((W.alloc (.map #[] 0)).setCell ⟨w3.heap.size + 1, m, none⟩ (.map (some W.heap.size))) := by
  have hl : ∀ k, k < W.heap.size → (W.alloc (.map #[] 0)).heap[k]? = W.heap[k]? := fun k hk => Below.heap_alloc _ _ _ hk
  have hc : ∀ (q : Addr) (v : Value), W.cell? q = some v → (W.alloc (.map #[] 0)).cell? q = some v := fun q v hv => (World.cell?_alloc_lt _ _ _ (World.block_lt_of_cell? _ _ hv)).trans hv
  refine ⟨(below_alloc h.hB _).setCell (by show w3.heap.size ≤ w3.heap.size + 1; omega) _, (World.cell?_setCell_far _ _ _ _ (by show w3.heap.size + 1 ≠ w3.heap.size; omega)).trans (hc _ _ h.bi), (World.cell?_setCell_far _ _ _ _ (by show w3.heap.size + 1 ≠ w3.heap.size + 1 + 1; omega)).trans (hc _ _ h.bs), fun j hj => ?_, fun j => ?_, fun j hj => ?_, ?_⟩
  · by_cases e : j = m
    · subst e
      rw [World.cell?_setCell_same' _ _ _ (by rw [hc _ _ (h.row j hj)]; rfl), if_pos (by omega), h.size]
    · rw [World.cell?_setCell_other _ _ _ _ (by intro h; cases h; exact e rfl), hc _ _ (h.row j hj)]
      by_cases e2 : j < m
      · rw [if_pos e2, if_pos (by omega)]
      · rw [if_neg e2, if_neg (by omega)]
  · rw [World.frozen?_setCell]
    have hb := hl (w3.heap.size + 1) (World.block_lt_of_cell? _ _ (h.row m hm))
    have := h.fr j
    unfold World.frozen? at this ⊢
    rw [show (⟨w3.heap.size + 1, j, none⟩ : Addr).block = w3.heap.size + 1 from rfl] at this ⊢
    rw [hb]; exact this
  · have hsame : ∀ k, k ≠ w3.heap.size + 1 → ((W.alloc (.map #[] 0)).setCell ⟨w3.heap.size + 1, m, none⟩ (.map (some W.heap.size))).heap[k]? = (W.alloc (.map #[] 0)).heap[k]? := fun k hk => Below.heap_setCell _ _ _ k hk
    by_cases e : j < m
    · exact ((h.sets j e).at ((hsame _ (by omega)).trans (hl _ (h.sets j e).lt)))
    · obtain rfl : j = m := by omega
      rw [← h.size]
      exact (SetAt.made W).at (hsame _ (by have := h.size; omega))
  · show ((W.alloc (.map #[] 0)).heap.modify _ _).size = _
    rw [Array.size_modify]
    show (W.alloc (.map #[] 0)).heap.size = _
    rw [World.size_alloc, h.size]
    omega

/-- what lies in memory in Frontier, when the sets are made -/
structure FM (n : Nat) (w3 : World) (A : Option Addr) (ci cnt : Nat) (S : Nat → Int → Bool) (W : World) : Prop where
  hB : Below w3.heap.size w3 W
  bi : W.cell? ⟨w3.heap.size, 0, none⟩ = some (.slice A n ci)
  bs : W.cell? ⟨w3.heap.size + 1 + 1, 0, none⟩ = some (.slice (some ⟨w3.heap.size + 1, 0, none⟩) n n)
  row : ∀ j, j < n → W.cell? ⟨w3.heap.size + 1, j, none⟩ = some (.map (some (w3.heap.size + 3 + j)))
  sets : ∀ j, j < n → ∃ c, c ≤ cnt ∧ SetAt W (w3.heap.size + 3 + j) c (S j)
  size : w3.heap.size + 3 + n ≤ W.heap.size
theorem FA.done {n : Nat} {w3 : World} {A : Option Addr} {ci : Nat} {W : World} (h : FA n w3 A ci n W) : FM n w3 A ci 0 (fun _ _ => false) W :=
  ⟨h.hB, h.bi, h.bs, fun j hj => by have := h.row j hj; rwa [if_pos hj] at this, fun j hj => ⟨0, Nat.le_refl _, h.sets j hj⟩, by rw [h.size]; exact Nat.le_refl _⟩
section
variable {n : Nat} {w3 : World} {A : Option Addr} {ci cnt : Nat} {S : Nat → Int → Bool} {W W1 : World}
theorem FM.keep (h : FM n w3 A ci cnt S W) {X : Nat → Prop} (hk : KeepsBut X W W1) (hX : ∀ k, k < w3.heap.size + 3 + n → ¬ X k) : FM n w3 A ci cnt S W1 :=
  ⟨h.hB.trans (hk.below h.hB.size (fun k hk => hX k (by omega))), hk.cell h.bi (hX _ (by show w3.heap.size < _; omega)), hk.cell h.bs (hX _ (by show w3.heap.size + 1 + 1 < _; omega)), fun j hj => hk.cell (h.row j hj) (hX _ (by show w3.heap.size + 1 < _; omega)),
    fun j hj => by obtain ⟨c, hc, hs⟩ := h.sets j hj; exact ⟨c, hc, hs.at (hk.block _ hs.lt (hX _ (by omega)))⟩, Nat.le_trans h.size hk.size⟩
theorem FM.alloc (h : FM n w3 A ci cnt S W) (o : Obj) : FM n w3 A ci cnt S (W.alloc o) := h.keep (KeepsBut.alloc (fun _ => False) W o) (fun _ _ h => h)
theorem FM.drewN (h : FM n w3 A ci cnt S W) (q : Nat) : FM n w3 A ci cnt S (W.drewN q) := h.keep (X := fun _ => False) ⟨rfl, rfl, rfl, Nat.le_refl _, fun _ _ _ => rfl⟩ (fun _ _ h => h)
theorem FM.more (h : FM n w3 A ci cnt S W) {cnt' : Nat} (hc : cnt ≤ cnt') : FM n w3 A ci cnt' S W :=
  ⟨h.hB, h.bi, h.bs, h.row, fun j hj => by obtain ⟨c, h1, h2⟩ := h.sets j hj; exact ⟨c, by omega, h2⟩, h.size⟩
/-- one more in one set -/
theorem FM.store (h : FM n w3 A ci cnt S W) (hc : cnt ≤ 1000000) {j : Nat} (hj : j < n) {k : Int} (hk : Wf k) :
    ∃ W1, (Instr.mapUpdate 69 (.map (some (w3.heap.size + 3 + j))) (.int .i64 k) (.bool true)).run Try.prog W = .ok () W1 ∧ FM n w3 A ci (cnt + 1) (fun i => if i = j then ins (S j) k else S i) W1 ∧ W.grownBy W1 (some (w3.heap.size + 3 + j)) := by
  obtain ⟨c, h1, h2⟩ := h.sets j hj
  obtain ⟨W1, r1, r2, r3⟩ := h2.store (by unfold maxLen; omega) hk
  refine ⟨W1, r1, ?_, r3⟩
  have hcell : ∀ (q : Addr) (v : Value), q.block < w3.heap.size + 3 → W.cell? q = some v → W1.cell? q = some v := fun q v hq hv => by
    have hb := r3.block q.block (World.block_lt_of_cell? _ _ hv) (fun e => by have := Option.some.inj e; omega)
    unfold World.cell? at hv ⊢
    rw [hb]; exact hv
  refine ⟨h.hB.grown r3 h.hB.size (fun i e => by have := Option.some.inj e; omega), hcell _ _ (by show w3.heap.size < _; omega) h.bi, hcell _ _ (by show w3.heap.size + 1 + 1 < _; omega) h.bs, fun i hi => hcell _ _ (by show w3.heap.size + 1 < _; omega) (h.row i hi), fun i hi => ?_, Nat.le_trans h.size r3.size⟩
  by_cases e : i = j
  · subst e
    exact ⟨c + 1, by omega, by simpa using r2⟩
  · obtain ⟨c', h3, h4⟩ := h.sets i hi
    refine ⟨c', by omega, ?_⟩
    rw [if_neg e]
    exact h4.grown r3 (fun e2 => by have := Option.some.inj e2; omega)
end
/-- a mark of a range over a function -/
def mkD (D : Nat) : Deferred := { target := .collected D, args := #[] }
/-- marks that lie there, the newest first -/
structure Marks (b : Nat) (Ds : List Nat) (W : World) : Prop where
  ord : Ds.Pairwise (fun x y => y < x)
  at_ : ∀ D ∈ Ds, b ≤ D ∧ W.heap[D]? = some (.deferred (some []))
theorem Marks.lt {b : Nat} {Ds : List Nat} {W : World} (h : Marks b Ds W) : ∀ D ∈ Ds, D < W.heap.size := fun D hD => (Array.getElem?_eq_some_iff.1 (h.at_ D hD).2).1
theorem Marks.keep {b : Nat} {Ds : List Nat} {W W1 : World} (h : Marks b Ds W) {X : Nat → Prop} (hk : KeepsBut X W W1) (hX : ∀ D ∈ Ds, ¬ X D) : Marks b Ds W1 :=
  ⟨h.ord, fun D hD => ⟨(h.at_ D hD).1, (hk.block D (h.lt D hD) (hX D hD)).trans (h.at_ D hD).2⟩⟩
theorem Marks.cons {b : Nat} {Ds : List Nat} {W : World} (h : Marks b Ds W) {D : Nat} (hb : b ≤ D) (hD : ∀ x ∈ Ds, x < D) (hW : W.heap[D]? = some (.deferred (some []))) : Marks b (D :: Ds) W :=
  ⟨List.pairwise_cons.2 ⟨fun x hx => hD x hx, h.ord⟩, fun x hx => by
    rcases List.mem_cons.1 hx with rfl | hx
    · exact ⟨hb, hW⟩
    · exact h.at_ x hx⟩
theorem leaves_all {F : Fence} {n b : Nat} {P : Program} {fn : Func} {tmps : Array Value} {R : Ending → World → Prop} : ∀ (Ds : List Nat) (W : World), Marks b Ds W →
    (∀ W', KeepsBut (fun k => k ∈ Ds) W W' → ∃ v, (results fn tmps).run P W' = .ok v W' ∧ R (.returned v) W') → LeavesInM F n P fn tmps R (Ds.map mkD) .returning W
  | [], W, _, h => h W (KeepsBut.refl _ _)
  | D :: Ds, W, hm, h => by
    have hD := hm.at_ D (by simp)
    have ho := List.pairwise_cons.1 hm.ord
    refine ⟨by simp, .inl ⟨D, W.putObj D (.deferred none), rfl, run_takeDeferred hD.2, leaves_all (b := b) Ds _ ?_ fun W' hk => h W' ?_⟩⟩
    · exact Marks.keep ⟨ho.2, fun x hx => hm.at_ x (by simp [hx])⟩ (KeepsBut.putObj (X := fun k => k = D) W _ rfl) (fun x hx e => by have := ho.1 x hx; omega)
    · exact (KeepsBut.putObj (X := fun k => k ∈ D :: Ds) W _ (by simp)).trans (hk.mono fun k hk => by simp [hk])
/-- what stands in the sets when the blocks ahead of m are done, and of m's own the first q -/
def Cnd (D : List Int) (P : List (List Int)) (m q j : Nat) (k : Int) : Prop :=
  ∃ at_ i : Nat, k = (at_ : Int) ∧ (at_ < m ∧ i < (rowOf P at_).length ∨ at_ = m ∧ i < q) ∧ countsB D ((rowOf P at_).getD i 0) = true ∧ (j : Int) ∈ cutL D at_ ((rowOf P at_).getD i 0)
theorem cnd_zero (D : List Int) (P : List (List Int)) (j : Nat) (k : Int) : ¬ Cnd D P 0 0 j k := by
  rintro ⟨a, i, _, h, _⟩; omega
theorem cnd_next (D : List Int) (P : List (List Int)) (m j : Nat) (k : Int) : Cnd D P (m + 1) 0 j k ↔ Cnd D P m (rowOf P m).length j k := by
  constructor
  · rintro ⟨a, i, e, h, h2⟩
    refine ⟨a, i, e, ?_, h2⟩
    rcases h with h | h
    · by_cases ea : a = m
      · subst ea; exact .inr ⟨rfl, h.2⟩
      · exact .inl ⟨by omega, h.2⟩
    · omega
  · rintro ⟨a, i, e, h, h2⟩
    refine ⟨a, i, e, ?_, h2⟩
    rcases h with h | ⟨rfl, h⟩
    · exact .inl ⟨by omega, h.2⟩
    · exact .inl ⟨by omega, h⟩
theorem cnd_succ (D : List Int) (P : List (List Int)) (m q j : Nat) (k : Int) : Cnd D P m (q + 1) j k ↔ Cnd D P m q j k ∨ (k = (m : Int) ∧ countsB D ((rowOf P m).getD q 0) = true ∧ (j : Int) ∈ cutL D m ((rowOf P m).getD q 0)) := by
  constructor
  · rintro ⟨a, i, e, h, h2⟩
    rcases h with h | ⟨rfl, h⟩
    · exact .inl ⟨a, i, e, .inl h, h2⟩
    · by_cases ei : i = q
      · subst ei; exact .inr ⟨e, h2⟩
      · exact .inl ⟨a, i, e, .inr ⟨rfl, by omega⟩, h2⟩
  · rintro (⟨a, i, e, h, h2⟩ | ⟨e, h2⟩)
    · exact ⟨a, i, e, h.imp id fun h => ⟨h.1, by omega⟩, h2⟩
    · exact ⟨m, q, e, .inr ⟨rfl, by omega⟩, h2⟩
theorem cnd_all (D : List Int) (P : List (List Int)) (n j : Nat) (k : Int) : Cnd D P n 0 j k ↔ ∃ at_ : Nat, k = (at_ : Int) ∧ at_ < n ∧ inF D P at_ j = true := by
  unfold inF
  constructor
  · rintro ⟨a, i, e, h, h1, h2⟩
    rcases h with h | h
    · refine ⟨a, e, h.1, ?_⟩
      rw [List.any_eq_true]
      refine ⟨(rowOf P a).getD i 0, ?_, by rw [h1, decide_eq_true h2]; rfl⟩
      rw [List.getD_eq_getElem?_getD, List.getElem?_eq_getElem h.2]
      exact List.getElem_mem h.2
    · omega
  · rintro ⟨a, e, ha, h⟩
    rw [List.any_eq_true] at h
    obtain ⟨p, hp, hb⟩ := h
    obtain ⟨i, hi, rfl⟩ := List.getElem_of_mem hp
    rw [Bool.and_eq_true, decide_eq_true_eq] at hb
    have e2 : (rowOf P a).getD i 0 = (rowOf P a)[i] := by simp [List.getD_eq_getElem?_getD, hi]
    exact ⟨a, i, e, .inl ⟨ha, hi⟩, by rw [e2]; exact hb.1, by rw [e2]; exact hb.2⟩
/-- the frame of the loop over the blocks -/
def RB (A Ap : Option Addr) (c cp Lp n O : Nat) (R : Nat → List Nat → World → Prop) (a : Act) (W : World) : Prop := ∃ (m : Nat) (Ds : List Nat), R m Ds W ∧ ∃ s1 s2 s6 s7 s8 s9 s10 s11 s12 s13 s14 s15 s16 s17 s18 s19 s20 s21 s22 s23 s24 s25 s26 s27 s28 s29 s30 s31 s32 s33 s34 s37 s38 s39 s40 s41 s42 s43 s44 s45 s46 s47 s48 s49 s50 s51 s52 s53 s54 s55 s56 s57 s58 s59 s60 s61 s62 s63 s64 s65 s66 s67 s68 s69 s70 s71 s72 s73 s74 s75 s76 s77 s78 s79 s80 s81 s82 s83 s84 s85 s86 : Value, a = { tmps := #[.slice A n c, s1, s2, .pointer (some ⟨O, 0, none⟩), .slice Ap Lp cp, .pointer (some ⟨O + 1 + 1, 0, none⟩), s6, s7, s8, s9, s10, s11, s12, s13, s14, s15, s16, s17, s18, s19, s20, s21, s22, s23, s24, s25, s26, s27, s28, s29, s30, s31, s32, s33, s34, .int .i64 (n : Int), .int .i64 (m : Int), s37, s38, s39, s40, s41, s42, s43, s44, s45, s46, s47, s48, s49, s50, s51, s52, s53, s54, s55, s56, s57, s58, s59, s60, s61, s62, s63, s64, s65, s66, s67, s68, s69, s70, s71, s72, s73, s74, s75, s76, s77, s78, s79, s80, s81, s82, s83, s84, s85, s86], defers := Ds.map mkD }
/-- the frame of the loop over those ahead of one -/
def RP (A Ap Ar : Option Addr) (c cp Lp n O m Oa cr Lr : Nat) (R : Nat → List Nat → World → Prop) (a : Act) (W : World) : Prop := ∃ (q : Nat) (Ds : List Nat), R q Ds W ∧ ∃ s1 s2 s6 s8 s9 s10 s11 s12 s13 s14 s15 s16 s17 s18 s19 s20 s21 s22 s23 s24 s25 s26 s27 s28 s29 s30 s31 s32 s33 s34 s37 s38 s39 s40 s41 s45 s46 s47 s48 s49 s50 s51 s52 s53 s54 s55 s56 s57 s58 s59 s60 s61 s62 s63 s64 s65 s66 s67 s68 s69 s70 s71 s72 s73 s74 s75 s76 s77 s78 s79 s80 s81 s82 s83 s84 s85 s86 : Value, a = { tmps := #[.slice A n c, s1, s2, .pointer (some ⟨O, 0, none⟩), .slice Ap Lp cp, .pointer (some ⟨O + 1 + 1, 0, none⟩), s6, .pointer (some ⟨Oa, 0, none⟩), s8, s9, s10, s11, s12, s13, s14, s15, s16, s17, s18, s19, s20, s21, s22, s23, s24, s25, s26, s27, s28, s29, s30, s31, s32, s33, s34, .int .i64 (n : Int), .int .i64 (m : Int), s37, s38, s39, s40, s41, .slice Ar Lr cr, .int .i64 (Lr : Int), .int .i64 (q : Int), s45, s46, s47, s48, s49, s50, s51, s52, s53, s54, s55, s56, s57, s58, s59, s60, s61, s62, s63, s64, s65, s66, s67, s68, s69, s70, s71, s72, s73, s74, s75, s76, s77, s78, s79, s80, s81, s82, s83, s84, s85, s86], defers := Ds.map mkD }

theorem pstep_len (g : List (List Int)) (s : List Int × Bool) (x : Int) : (pstep g s x).1.length = s.1.length := by
  unfold pstep
  dsimp only
  by_cases e : nearestL g s.1 (rowOf (predsOf g) x.toNat) = s.1.getD x.toNat 0
  · rw [if_pos e]
  · rw [if_neg e]; exact List.length_set
theorem passL_len (g : List (List Int)) : ∀ (l : List Int) (s : List Int × Bool), (passL g l s).1.length = s.1.length
  | [], _ => rfl
  | x :: l, s => (passL_len g l (pstep g s x)).trans (pstep_len g s x)
theorem runO_len (g : List (List Int)) : ∀ (k : Nat) (D R : List Int), runO g k D = some R → R.length = D.length
  | 0, _, _, h => by cases h
  | k + 1, D, R, h => by
    have hl : (passA g D).1.length = D.length := passL_len g _ _
    unfold runO at h
    by_cases e : (passA g D).2 = true
    · rw [if_pos e] at h
      exact (runO_len g k _ R h).trans hl
    · rw [if_neg e] at h
      rw [← Option.some.inj h, hl]
theorem idomO_len {g : List (List Int)} (hr : rightB g = true) {k : Nat} {D : List Int} (h : idomO g k = some D) : D.length = g.length := by
  unfold idomO at h
  rw [if_pos hr] at h
  obtain ⟨R, hR, rfl⟩ := Option.map_eq_some_iff.1 h
  rw [List.length_set, runO_len g k _ R hR]
  simp [dom0]
theorem preds_row {g : List (List Int)} (hr : rightB g = true) (hn : g.length ≤ 40) (v : Nat) : (rowOf (predsOf g) v).length ≤ 320 := by
  obtain ⟨_, _, hg⟩ := right_rows hr
  have h4 := row_le_tot (predsOf g) v
  have h5 := tot_pfold hg g.length (Nat.le_refl _)
  rw [List.take_length] at h5
  have h6 := tot_le (right_8 hr)
  unfold predsOf at h4 ⊢; omega
theorem cut_all {D : List Int} {m : Nat} {p : Int} (h : D.getD m 0 ∉ upL D (D.length + 1) p) : cutL D m p = upL D (D.length + 1) p := by
  unfold cutL
  have := List.takeWhile_append_of_pos (p := fun a => !decide (a = D.getD m 0)) (l₁ := upL D (D.length + 1) p) (l₂ := []) fun a ha => by
    have : a ≠ D.getD m 0 := fun e => h (e ▸ ha)
    rw [decide_eq_false this]; rfl
  simpa only [List.append_nil, List.takeWhile_nil] using this
theorem cut_stop {D : List Int} {m : Nat} {p : Int} {pre : List Int} {x : Int} (hx : x = D.getD m 0) (hp : D.getD m 0 ∉ pre) (h : pre ++ [x] <+: upL D (D.length + 1) p) : cutL D m p = pre := by
  obtain ⟨t, ht⟩ := h
  unfold cutL
  rw [← ht, List.append_assoc, List.takeWhile_append_of_pos (fun a ha => by
    have : a ≠ D.getD m 0 := fun e => hp (e ▸ ha)
    rw [decide_eq_false this]; rfl)]
  rw [List.singleton_append, List.takeWhile_cons, hx, decide_eq_true rfl]
  simp

theorem upL_len (D : List Int) : ∀ (n : Nat) (a : Int), (upL D n a).length ≤ n
  | 0, _ => Nat.le_refl _
  | n + 1, a => by
    unfold upL
    by_cases h : 0 ≤ a ∧ a < (D.length : Int)
    · rw [if_pos h, List.length_cons]
      have := upL_len D n (D.getD a.toNat 0)
      omega
    · rw [if_neg h]; exact Nat.zero_le _
/-- the answer so far: the first m rows -/
def frUp (D : List Int) (P : List (List Int)) (n m : Nat) : List (List Int) := (List.range m).map (frRow D P n) ++ List.replicate (n - m) []
theorem frUp_set (D : List Int) (P : List (List Int)) {n m : Nat} (h : m < n) : (frUp D P n m).set m (frRow D P n m) = frUp D P n (m + 1) := by
  unfold frUp
  have e : n - m = (n - (m + 1)) + 1 := by omega
  have hl : ((List.range m).map (frRow D P n)).length = m := by simp
  rw [e, List.replicate_succ, List.range_succ, List.map_append, List.append_assoc]
  rw [List.set_append_right _ _ (by omega), hl, Nat.sub_self]
  rfl
theorem frUp_all (D : List Int) (P : List (List Int)) (n : Nat) : frUp D P n n = frRows D P n := by simp [frUp, frRows]
theorem frRow_rising (D : List Int) (P : List (List Int)) (n a : Nat) : Rising (frRow D P n a) := by
  unfold Rising frRow
  rw [List.pairwise_map]
  exact (List.pairwise_lt_range.filter _).imp (fun h => by omega)
theorem frRow_mem (D : List Int) (P : List (List Int)) (n a : Nat) (k : Int) : k ∈ frRow D P n a ↔ ∃ at_ : Nat, k = (at_ : Int) ∧ at_ < n ∧ inF D P at_ a = true := by
  unfold frRow
  rw [List.mem_map]
  constructor
  · rintro ⟨x, hx, rfl⟩
    have := List.mem_filter.1 hx
    exact ⟨x, rfl, List.mem_range.1 this.1, this.2⟩
  · rintro ⟨x, rfl, h1, h2⟩
    exact ⟨x, List.mem_filter.2 ⟨List.mem_range.2 h1, h2⟩, rfl⟩
/-- a fresh row, laid into a row of rows -/
theorem fr_store {wr w9 : World} {base G n m : Nat} {X : List (List Int)} {v : Value} {ks : List Int} (hS : Kd.S (Kd.slice 3 (Kd.int .i64)) 27 wr base (fun _ => True) (.slice (some ⟨G, 0, none⟩) n n) X) (h0 : (0 : Int) ≤ (m : Int)) (h1 : (m : Int) < (n : Int)) (hG : G < wr.heap.size) (hb : base ≤ wr.heap.size)
    (hR : Kd.R (Kd.int .i64) 3 w9 wr.heap.size (fun _ => True) v ks) (hB : Below wr.heap.size wr w9) :
    ∃ u, w9.cell? ⟨G, m, none⟩ = some u ∧ w9.frozen? ⟨G, m, none⟩ = false ∧ Kd.S (Kd.slice 3 (Kd.int .i64)) 27 (w9.setCell ⟨G, m, none⟩ v) base (fun _ => True) (.slice (some ⟨G, 0, none⟩) n n) (X.set m ks) := by
  have hS9 := Kd.S_below (Kd.S_mono (Kd.S_bound hS) (ok' := fun k => True ∧ ¬ wr.heap.size ≤ k) (fun k hk => ⟨trivial, by have := hk.2.2.1; omega⟩)) hB
  obtain ⟨oki, cc, hcl, hM, hcc, hfr, hoki, hH⟩ := Kd.S_elem hS9 ([] : List Int) (m : Int) h0 h1
  obtain ⟨u, rfl⟩ : ∃ u, cc = [u] := List.length_eq_one_iff.1 hcl
  have x1 := hcc 0 u rfl
  have x2 := hfr 0
  have e : (m : Int).toNat * (Kd.slice 3 (Kd.int .i64)).sz + 0 = m := by show (m : Int).toNat * 1 + 0 = m; omega
  rw [e] at x1 x2
  obtain ⟨y1, y2⟩ := Kd.S_seg (okp := fun k => wr.heap.size ≤ k) (x' := ks) (seg := [v]) (j := 0) hH h0 h1 (Nat.le_refl 1) ⟨v, rfl, Kd.R_lower (Kd.R_mono (Kd.R_bound hR) (fun k hk => hk.2.1)) hb⟩ (fun k hk => .inr hk) (fun k hk => ⟨trivial, by omega⟩)
  rw [e, Int.toNat_natCast] at y1
  exact ⟨u, x1, x2, y1⟩
theorem rows_made (V : World) (base n : Nat) (hb : base ≤ V.heap.size) (hn : n ≤ 4096) : Kd.S (Kd.slice 3 (Kd.int .i64)) 27 (V.alloc (.cells (madeCells #[.slice none 0 0] n) 27)) base (fun _ => True) (.slice (some ⟨V.heap.size, 0, none⟩) n n) (List.replicate n []) := by
  have h := R_new_lit (Kd.bare (Kd.slice 3 (Kd.int .i64))) V base 27 (xs := List.replicate n ([] : List Int)) (inner := (madeCells #[.slice none 0 0] (n * 1)).toList) (ok := fun _ => True) (okp := fun _ => False) (Kd.reps_made (z := .slice none 0 0) rfl (by decide) (show (Kd.slice 3 (Kd.int .i64)).M _ _ (fun _ => False) _ _ from ⟨_, rfl, Kd.R_nil _ _ _ _ _⟩) n) (fun _ h => h.elim) trivial hb (by simp; omega)
  rw [List.length_replicate, Nat.mul_one, Array.toArray_toList] at h
  exact Kd.S_bare h

set_option maxRecDepth 100000 in
set_option maxHeartbeats 4000000 in
theorem frontier_calls (k : Nat) (A : Option Addr) (c : Nat) (g : List (List Int)) (D : List Int) (w : World) (hC : Kd.C (Kd.slice 3 (Kd.int .i64)) w A g.length g) (hc : g.length ≤ c) (hn : g.length ≤ 40) (h : idomO g k = some D) (hr : rightB g = true) :
    Calls Try.prog 44 #[.slice A g.length c] w fun e w' => ∃ v, e = .returned v ∧ Kd.S (Kd.slice 3 (Kd.int .i64)) 27 w' w.heap.size (fun _ => True) v (frRows D (predsOf g) g.length) ∧ Below w.heap.size w w' := by
  have hmm := @run_makeMap Try.prog
  rw [← callsIn_wide (n := 5)]
  have hro : (Fence.wide).round = none := rfl
  have hd : (Fence.wide).depth = none := rfl
  obtain ⟨hn1, hn0, hg⟩ := right_rows hr
  have hDl : D.length = g.length := idomO_len hr h
  have hrc : CallsIn Fence.wide (5 - 1) Try.prog 19 #[.slice A g.length c] w _ := callsIn_wide.2 (right_calls A c g w hC)
  rw [hr] at hrc
  have hid : ∀ V, Below w.heap.size w V → CallsIn Fence.wide (5 - 1) Try.prog 36 #[.slice A g.length c] V _ := fun V hV => callsIn_wide.2 (idom_calls k A c g D V (Kd.C_below hC hV) hc h)
  obtain ⟨kp, hkp⟩ := (preds_ev g).get
  rw [hr, if_pos rfl] at hkp
  have hpr : ∀ V, Below w.heap.size w V → CallsIn Fence.wide (5 - 1) Try.prog 16 #[.slice A g.length c] V _ := fun V hV => callsIn_wide.2 (graph_Preds.calls kp A c g _ V (Kd.C_below hC hV) hc hkp)
  have hmk68 : ∀ V : World, (Instr.makeSlice 68 (.int .i64 (g.length : Int)) (.int .i64 (g.length : Int))).run Try.prog V = .ok (.slice (some ⟨V.heap.size, 0, none⟩) g.length g.length) (V.alloc (.cells (madeCells #[.map none] g.length) 69)) := by
    intro V
    obtain ⟨i0, hi, hz0, hz1, hz2⟩ := info_parts info69
    have := run_make V 68 69 i0 _ Try.underlying68 hi hz0 .i64 .i64 (g.length : Int) (g.length : Int) (by omega) (by omega) (by rw [hz2]; omega) (by omega)
    rw [Int.toNat_natCast, hz1, Nat.mul_one] at this
    exact this
  refine callsIn_of_wp_marks Try.func44 rfl trivial ?_ hro
  simp only [Try.ntmps44, List.size_toArray, List.length_cons, List.length_nil, Nat.reduceAdd, Nat.reduceSub, Array.replicate_succ, Array.replicate_zero, List.push_toArray, List.append_toArray, List.nil_append, List.cons_append]
  clear hkp h
  gi_wp2_with (first
    | ((try refine ⟨trivial, ?_⟩); gi_at_call 19; refine hrc.mono ?_; clear hrc; rintro e w1 ⟨rfl, hb1⟩)
    | ((try refine ⟨trivial, ?_⟩); gi_at_call 36; refine (hid _ hb1).mono ?_; clear hid; rintro e w2 ⟨v2, rfl, hv2, hb2⟩; obtain ⟨Ai, ci, rfl⟩ := Kd.R_slice hv2; have hv2' := Aside0.mk hv2; have hB2 := below_step hb1 hb2; clear hv2 hb2)
    | ((try refine ⟨trivial, ?_⟩); gi_at_call 16; refine (hpr _ hB2).mono ?_; clear hpr; rintro e w3 ⟨v3, rfl, hv3, hb3⟩; obtain ⟨Ap, cp, rfl⟩ := Kd.S_slice hv3; have hv3' := Aside0.mk hv3; have hb3' := Aside0.mk hb3; clear hv3 hb3))
  have hFA : FA g.length w3 Ai ci 0 (((w3.alloc (.cells #[.slice Ai g.length ci] 27)).alloc (.cells (madeCells #[.map none] g.length) 69)).alloc (.cells #[.slice (some ⟨w3.heap.size + 1, 0, none⟩) g.length g.length] 68)) :=
    ⟨below_alloc (below_alloc (below_alloc (Below.refl _ _) _) _) _, by simp [go_sem], by simp [go_sem], fun j hj => by simp [go_sem, made69, hj], fun j => by simp [go_sem], fun j hj => absurd hj (Nat.not_lt_zero j), by simp⟩
  have hFA' := Aside0.mk hFA
  clear hFA hmk68
  gi_loopw [26] (fun s wr => ∃ m : Nat, m ≤ g.length ∧ s = .int .i64 m ∧ Aside0 (FA g.length w3 Ai ci m wr))
    (fun s _ => g.length - (RowKit.intOf s).toNat)
  case atStart => exact ⟨0, Nat.zero_le _, rfl, hFA'⟩
  case round =>
    clear hFA'
    obtain ⟨m, hm, rfl, hF⟩ := hrel
    by_cases hlt : m < g.length
    · have hmn : (m : Int) < (g.length : Int) := by omega
      have hm0 : (0 : Int) ≤ (m : Int) := by omega
      have x0 := hF.out.bs
      have x1 := hF.out.row m hlt
      rw [if_neg (by omega)] at x1
      have x2 := hF.out.fr m
      have y1 : (wr.alloc (.map #[] 0)).cell? ⟨w3.heap.size + 1, m, none⟩ = some (.map none) := (World.cell?_alloc_lt _ _ _ (World.block_lt_of_cell? _ _ x1)).trans x1
      have y2 : (wr.alloc (.map #[] 0)).frozen? ⟨w3.heap.size + 1, m, none⟩ = false := by
        have hb : (wr.alloc (.map #[] 0)).heap[w3.heap.size + 1]? = wr.heap[w3.heap.size + 1]? := Below.heap_alloc _ _ _ (World.block_lt_of_cell? _ _ x1)
        unfold World.frozen? at x2 ⊢
        rw [show (⟨w3.heap.size + 1, m, none⟩ : Addr).block = w3.heap.size + 1 from rfl] at x2 ⊢
        rw [hb]; exact x2
      have hst := Aside0.mk (hF.out.step hlt)
      clear hF x1 x2
      gi_wp2
      go_roundw
      case rel => exact ⟨m + 1, by omega, by go_num, hst⟩
      case measure => simp [RowKit.intOf]; omega
    · obtain rfl : m = g.length := by omega
      have hFM := Aside0.mk hF.out.done
      have hD2 := Kd.R_reads' hv2'.out
      have hD3 := Aside0.mk (Kd.C_below hD2.2.2 hb3'.out)
      have hP3 := Aside0.mk (Kd.S_reads' hv3'.out).2.2
      have hci := Aside0.mk hD2.2.1
      clear hF hD2 hmm hv2' hv3'
      gi_wp2
      obtain ⟨Rel, hRel⟩ : ∃ R : Nat → List Nat → World → Prop, R = fun m Ds W => m ≤ g.length ∧ Aside0 (∃ S, FM g.length w3 Ai ci (m * 13120) S W ∧ (∀ j, j < g.length → ∀ k, S j k = true ↔ Cnd D (predsOf g) m 0 j k) ∧ Marks (w3.heap.size + 3 + g.length) Ds W) := ⟨_, rfl⟩
      refine wpIn_loop (RB A Ap c cp (predsOf g).length g.length w3.heap.size Rel) (fun a _ => g.length - (RowKit.intOf (a.tmps.getD 36 (.bool false))).toNat) ?_ ?_
      · refine ⟨0, [], ?_, ?_⟩
        · rw [hRel]
          exact ⟨Nat.zero_le _, ⟨_, hFM.out, fun j hj k => ⟨fun h => absurd h Bool.false_ne_true, fun h => absurd h (cnd_zero _ _ _ _)⟩, ⟨List.Pairwise.nil, fun _ h => by cases h⟩⟩⟩
        · repeat apply Exists.intro
          rfl
      clear hFM
      rintro a W ⟨m, Ds, hR, s1, s2, s6, s7, s8, s9, s10, s11, s12, s13, s14, s15, s16, s17, s18, s19, s20, s21, s22, s23, s24, s25, s26, s27, s28, s29, s30, s31, s32, s33, s34, s37, s38, s39, s40, s41, s42, s43, s44, s45, s46, s47, s48, s49, s50, s51, s52, s53, s54, s55, s56, s57, s58, s59, s60, s61, s62, s63, s64, s65, s66, s67, s68, s69, s70, s71, s72, s73, s74, s75, s76, s77, s78, s79, s80, s81, s82, s83, s84, s85, s86, rfl⟩
      have hR' := hR
      rw [hRel] at hR'
      obtain ⟨hm, hR'⟩ := hR'
      by_cases hlt : m < g.length
      · have hmn : (m : Int) < (g.length : Int) := by omega
        have hm0 : (0 : Int) ≤ (m : Int) := by omega
        have hB1 : Below w3.heap.size w3 W := hR'.out.choose_spec.1.hB
        have hsz1 : w3.heap.size + 3 + g.length ≤ W.heap.size := hR'.out.choose_spec.1.size
        obtain ⟨ap, Ar, cr, rfl, y0, y1, y2⟩ := at_L1 (Kd.C_below hP3.out (below_alloc hB1 (.cells #[.int .i64 (m : Int)] 3))) (m : Int) (by omega) (by rw [predsOf_len]; omega)
        rw [Int.toNat_natCast, rdL] at y0
        rw [rdL] at y1 y2
        have hmp : (m : Int) < ((predsOf g).length : Int) := by rw [predsOf_len]; omega
        have hrow := preds_row hr hn m
        obtain ⟨P, hP⟩ : ∃ P, Aside0 (P = rowOf (predsOf g) m) := ⟨_, ⟨rfl⟩⟩
        rw [← hP.out] at y0 y1 y2 hrow
        obtain ⟨O, hO⟩ : ∃ O, Aside0 (O = W.heap.size) := ⟨_, ⟨rfl⟩⟩
        have hst0 : Aside0 (∃ S, FM g.length w3 Ai ci (m * 13120) S (W.alloc (.cells #[.int .i64 (m : Int)] 3)) ∧ (∀ j, j < g.length → ∀ k, S j k = true ↔ Cnd D (predsOf g) m 0 j k) ∧ Marks (w3.heap.size + 3 + g.length) Ds (W.alloc (.cells #[.int .i64 (m : Int)] 3)) ∧ (W.alloc (.cells #[.int .i64 (m : Int)] 3)).cell? ⟨O, 0, none⟩ = some (.int .i64 m)) := by
          obtain ⟨⟨S, h1, h2, h3⟩⟩ := hR'
          exact ⟨S, h1.alloc _, h2, h3.keep (KeepsBut.alloc (fun _ => False) W _) (fun _ _ h => h), by rw [hO.out]; simp [go_sem]⟩
        have hPC : Aside0 (Kd.C (Kd.int .i64) w3 Ar P.length P) := by
          obtain ⟨ap2, Ar2, cr2, e2, z0, z1, z2⟩ := at_L1 hP3.out (m : Int) (by omega) hmp
          cases e2
          rw [Int.toNat_natCast, rdL] at z0
          rw [rdL] at z2
          rw [← hP.out] at z0 z2
          have z3 := ((below_alloc hB1 (.cells #[.int .i64 (m : Int)] 3)).cell (World.block_lt_of_cell? _ _ z0)).trans z0
          rw [y0] at z3
          cases z3
          exact ⟨z2⟩
        clear hB1 hR' hR y1 y2
        gi_wp2
        obtain ⟨RelP, hRelP⟩ : ∃ R : Nat → List Nat → World → Prop, R = fun q Ds W => q ≤ P.length ∧ Aside0 (∃ S, FM g.length w3 Ai ci (m * 13120 + q * 41) S W ∧ (∀ j, j < g.length → ∀ k, S j k = true ↔ Cnd D (predsOf g) m q j k) ∧ Marks (w3.heap.size + 3 + g.length) Ds W ∧ W.cell? ⟨O, 0, none⟩ = some (.int .i64 m)) := ⟨_, rfl⟩
        refine wpIn_loop (RP A (some ap) Ar c cp (predsOf g).length g.length w3.heap.size m O cr P.length RelP) (fun a _ => P.length - (RowKit.intOf (a.tmps.getD 44 (.bool false))).toNat) ?_ ?_
        · refine ⟨0, Ds, ?_, ?_⟩
          · rw [hRelP]
            exact ⟨Nat.zero_le _, hst0⟩
          · rw [← hO.out]
            repeat apply Exists.intro
            rfl
        clear hst0
        rintro a W2 ⟨q, Ds2, hRP, s1, s2, s6, s8, s9, s10, s11, s12, s13, s14, s15, s16, s17, s18, s19, s20, s21, s22, s23, s24, s25, s26, s27, s28, s29, s30, s31, s32, s33, s34, s37, s38, s39, s40, s41, s45, s46, s47, s48, s49, s50, s51, s52, s53, s54, s55, s56, s57, s58, s59, s60, s61, s62, s63, s64, s65, s66, s67, s68, s69, s70, s71, s72, s73, s74, s75, s76, s77, s78, s79, s80, s81, s82, s83, s84, s85, s86, rfl⟩
        have hRP' := hRP
        rw [hRelP] at hRP'
        obtain ⟨hq, hRP'⟩ := hRP'
        by_cases hqt : q < P.length
        · have hqn : (q : Int) < (P.length : Int) := by omega
          have hq0 : (0 : Int) ≤ (q : Int) := by omega
          have hB2 : Below w3.heap.size w3 W2 := hRP'.out.choose_spec.1.hB
          have hsz2 : w3.heap.size + 3 + g.length ≤ W2.heap.size := hRP'.out.choose_spec.1.size
          have xO : W2.cell? ⟨O, 0, none⟩ = some (.int .i64 m) := hRP'.out.choose_spec.2.2.2
          have xi : W2.cell? ⟨w3.heap.size, 0, none⟩ = some (.slice Ai g.length ci) := hRP'.out.choose_spec.1.bi
          obtain ⟨ar, rfl, q0⟩ := Kd.at_int (Kd.C_below hPC.out hB2) (q : Int) hq0 hqn
          rw [Int.toNat_natCast, rdD] at q0
          have hca : CallsIn Fence.wide (5 - 1) Try.prog 63 #[.slice Ai D.length ci, .int .i64 (P.getD q 0)] W2 _ := callsIn_wide.2 (counts_calls Ai ci D (P.getD q 0) W2 (Kd.C_below hD3.out hB2) hci.out)
          rw [hDl] at hca
          have hP' := hP.out
          obtain ⟨p, hp⟩ : ∃ p, P.getD q 0 = p := ⟨_, rfl⟩
          rw [hp] at q0 hca
          have hsucc : ∀ j k, Cnd D (predsOf g) m (q + 1) j k ↔ Cnd D (predsOf g) m q j k ∨ (k = (m : Int) ∧ countsB D p = true ∧ (j : Int) ∈ cutL D m p) := fun j k => by
            rw [cnd_succ, ← hP', hp]
          have hsucc' := Aside0.mk hsucc
          have hB2' := Aside0.mk hB2
          clear hsucc hp hB2 hP'
          cases hkp : countsB D p with
          | false =>
            rw [hkp] at hca
            gi_wp2_with ((try refine ⟨trivial, ?_⟩); gi_at_call 63; refine hca.mono ?_; clear hca; rintro e w4 ⟨rfl, ⟨q4, rfl⟩⟩)
            refine ⟨⟨q + 1, Ds2, ?_, ?_⟩, ?_⟩
            · rw [hRelP]
              obtain ⟨⟨S, h1, h2, h3, h4⟩⟩ := hRP'
              exact ⟨hqt, ⟨S, (h1.drewN q4).more (by omega), fun j hj k => by rw [h2 j hj, hsucc'.out, hkp]; simp, h3.keep (X := fun _ => False) ⟨rfl, rfl, rfl, Nat.le_refl _, fun _ _ _ => rfl⟩ (fun _ _ h => h), h4⟩⟩
            · repeat apply Exists.intro
              rfl
            · simp [RowKit.intOf]; omega
          | true =>
            rw [hkp] at hca
            gi_wp2_with (first
              | ((try refine ⟨trivial, ?_⟩); gi_at_call 63; refine hca.mono ?_; clear hca; rintro e w4 ⟨rfl, ⟨q4, rfl⟩⟩)
              | ((try refine ⟨trivial, ?_⟩); gi_at_call 64; refine (up_in Fence.wide _ trivial hro Ai g.length ci p _).mono ?_; rintro e w5 ⟨rfl, rfl⟩))
            obtain ⟨V, hV⟩ : ∃ V, Aside0 (W2.drewN q4 = V) := ⟨_, ⟨rfl⟩⟩
            simp only [hV.out]
            have hsucc2 : Aside0 (∀ j k, Cnd D (predsOf g) m (q + 1) j k ↔ Cnd D (predsOf g) m q j k ∨ (k = (m : Int) ∧ (j : Int) ∈ cutL D m p)) := ⟨fun j k => by rw [hsucc'.out, hkp]; simp⟩
            have hst1 : Aside0 (∃ S, FM g.length w3 Ai ci (m * 13120 + q * 41) S V ∧ (∀ j, j < g.length → ∀ k, S j k = true ↔ Cnd D (predsOf g) m q j k) ∧ Marks (w3.heap.size + 3 + g.length) Ds2 V ∧ V.cell? ⟨O, 0, none⟩ = some (.int .i64 m)) := by
              obtain ⟨⟨S, h1, h2, h3, h4⟩⟩ := hRP'
              rw [← hV.out]
              exact ⟨S, h1.drewN q4, h2, h3.keep (X := fun _ => False) ⟨rfl, rfl, rfl, Nat.le_refl _, fun _ _ _ => rfl⟩ (fun _ _ h => h), h4⟩
            have hVB : Below w3.heap.size w3 V := hst1.out.choose_spec.1.hB
            have hsz3 : w3.heap.size + 3 + g.length ≤ V.heap.size := hst1.out.choose_spec.1.size
            have hMlt : ∀ x ∈ Ds2, x < V.heap.size := hst1.out.choose_spec.2.2.1.lt
            have hOl : O < V.heap.size := World.block_lt_of_cell? _ _ hst1.out.choose_spec.2.2.2
            have hU := up_state (A := Ai) (c := ci) (a := p) (D := D) hVB
            rw [hDl] at hU
            obtain ⟨WL, hWL⟩ : ∃ WL, Aside0 ((V.alloc (.cells #[.slice Ai g.length ci] 27)).alloc (.cells #[.int .i64 p] 3) = WL) := ⟨_, ⟨rfl⟩⟩
            rw [hWL.out] at hU ⊢
            have hszL : WL.heap.size = V.heap.size + 2 := by rw [← hWL.out]; simp
            have hst2 : Aside0 (∃ S, FM g.length w3 Ai ci (m * 13120 + q * 41) S WL ∧ (∀ j, j < g.length → ∀ k, S j k = true ↔ Cnd D (predsOf g) m q j k) ∧ Marks (w3.heap.size + 3 + g.length) Ds2 WL ∧ WL.cell? ⟨O, 0, none⟩ = some (.int .i64 m)) := by
              obtain ⟨⟨S, h1, h2, h3, h4⟩⟩ := hst1
              have hk : KeepsBut (fun _ => False) V WL := by rw [← hWL.out]; exact (KeepsBut.alloc _ V _).trans (KeepsBut.alloc _ _ _)
              exact ⟨S, h1.keep hk (fun _ _ h => h), h2, h3.keep hk (fun _ _ h => h), hk.cell h4 (fun h => h)⟩
            clear hst1 hRP' hRP xO xi hsucc' hsz2
            have hst := up_stops Fence.wide hd 4 trivial hro V.heap.size (V.heap.size + 1) p Ai ci D w3 WL hD3.out (by omega) (by omega) (by omega) (by rw [hDl]; exact hU)
            have hVs : V.heap.size = W2.heap.size := by rw [← hV.out]; rfl
            rw [hVs] at hst hMlt hOl hsz3 hszL
            clear hVs
            have hx : ∀ k, XX (fun _ k => k = W2.heap.size + 1) WL.heap.size k → W2.heap.size < k := by
              rintro k (h | h)
              · have : k = W2.heap.size + 1 := h; omega
              · omega
            refine wpIn_rangeFunc_X hro (by omega) (gf := 80) (lb := #[.pointer (some ⟨W2.heap.size, 0, none⟩), .pointer (some ⟨W2.heap.size + 1, 0, none⟩)]) rfl trivial (enters_of Try.func80 (by kernel_rfl) rfl) hst
              (fun k hk => by have : k = W2.heap.size + 1 := hk; omega) (fun h k => h.trans k) (fun W l o o' h1 h2 _ _ _ => KeepsBut.putObj W o' (by rintro (h | h | h) <;> omega)) (Below.refl _ _) (fun _ => rfl)
              (fun pre W => Aside0 (∃ S, FM g.length w3 Ai ci (m * 13120 + q * 41 + pre.length) S W ∧ (∀ j, j < g.length → ∀ k, S j k = true ↔ Cnd D (predsOf g) m q j k ∨ (k = (m : Int) ∧ HasV (j : Int) pre)) ∧ Marks (w3.heap.size + 3 + g.length) Ds2 W ∧ W.cell? ⟨O, 0, none⟩ = some (.int .i64 m) ∧ ¬ HasV (D.getD m 0) pre))
              (fun cc pre W => Aside0 (cc = .exit 6 ∧ ∃ S pre', (∃ x : BlkN D.length, pre = pre' ++ [x] ∧ x.1 = D.getD m 0) ∧ pre'.length ≤ 41 ∧ FM g.length w3 Ai ci (m * 13120 + q * 41 + pre'.length) S W ∧ (∀ j, j < g.length → ∀ k, S j k = true ↔ Cnd D (predsOf g) m q j k ∨ (k = (m : Int) ∧ HasV (j : Int) pre')) ∧ Marks (w3.heap.size + 3 + g.length) Ds2 W ∧ W.cell? ⟨O, 0, none⟩ = some (.int .i64 m) ∧ ¬ HasV (D.getD m 0) pre')) ?hI ?hIx ?h0 ?a1 ?assign ?body ?done ?stop
            case hI =>
              rintro pre W W' ⟨⟨S, h1, h2, h3, h4, h5⟩⟩ hk
              exact ⟨⟨S, h1.keep hk (fun k hk2 hX => by have := hx k hX; omega), h2, h3.keep hk (fun k hk2 hX => by have := hx k hX; have := hMlt k hk2; omega), hk.cell h4 (fun hX => by have : W2.heap.size < O := hx _ hX; omega), h5⟩⟩
            case hIx =>
              rintro cc pre W W' ⟨⟨rfl, S, pre', e, hl, h1, h2, h3, h4, h5⟩⟩ hk
              exact ⟨⟨rfl, S, pre', e, hl, h1.keep hk (fun k hk2 hX => by have := hx k hX; omega), h2, h3.keep hk (fun k hk2 hX => by have := hx k hX; have := hMlt k hk2; omega), hk.cell h4 (fun hX => by have : W2.heap.size < O := hx _ hX; omega), h5⟩⟩
            case h0 =>
              obtain ⟨⟨S, h1, h2, h3, h4⟩⟩ := hst2
              exact ⟨⟨S, h1, fun j hj k => by rw [h2 j hj]; simp [HasV], h3, h4, by simp [HasV]⟩⟩
            case assign =>
              intro l x W K hK
              gi_wp2
              exact hK
            case body =>
              rintro l pre ⟨x, x0, x1⟩ W ⟨⟨S, h1, h2, h3, h4, h5⟩⟩ hWs hlen
              dsimp only
              obtain ⟨xn, rfl⟩ := Int.eq_ofNat_of_zero_le x0
              have hxl : xn < g.length := by omega
              have z0 := h1.bi
              have z1 := h1.bs
              have z2 := h1.row xn hxl
              obtain ⟨ad, rfl, qD⟩ := Kd.at_int (Kd.C_below hD3.out h1.hB) (m : Int) hm0 (by omega)
              rw [Int.toNat_natCast, rdD] at qD
              obtain ⟨dm, hdm⟩ : ∃ dm, Aside0 (D.getD m 0 = dm) := ⟨_, ⟨rfl⟩⟩
              rw [hdm.out] at qD h5
              clear hst hst2 hU
              by_cases hxm : (xn : Int) = dm
              · subst hxm
                gi_wp2
                exact ⟨KeepsFrom.refl _ _, ⟨rfl, S, pre, ⟨_, rfl, hdm.out.symm⟩, by omega, h1, h2, h3, h4, by rw [hdm.out]; exact h5⟩⟩
              · have hcm : m * 13120 + q * 41 + pre.length ≤ 1000000 := by
                  have : m * 13120 ≤ 39 * 13120 := Nat.mul_le_mul_right _ (by omega)
                  have : q * 41 ≤ 320 * 41 := Nat.mul_le_mul_right _ (by omega)
                  omega
                have hdw : KeepsBut (fun _ => False) W W.drew := ⟨rfl, rfl, rfl, Nat.le_refl _, fun _ _ _ => rfl⟩
                have h3d := h3.keep hdw (fun _ _ h => h)
                have h4d := hdw.cell h4 (fun h => h)
                obtain ⟨W1, r1, r2, r3⟩ := (h1.keep hdw (fun _ _ h => h)).store hcm hxl (wf_small (n := (m : Int)) (by omega) (by omega))
                have hfin : ownPostG WL.heap.size (KeepsBut (KU w3.heap.size W2.heap.size (W2.heap.size + 1))) (fun pre W => Aside0 (∃ S, FM g.length w3 (some ad) ci (m * 13120 + q * 41 + pre.length) S W ∧ (∀ j, j < g.length → ∀ k, S j k = true ↔ Cnd D (predsOf g) m q j k ∨ (k = (m : Int) ∧ HasV (j : Int) pre)) ∧ Marks (w3.heap.size + 3 + g.length) Ds2 W ∧ W.cell? ⟨O, 0, none⟩ = some (.int .i64 m) ∧ ¬ HasV (D.getD m 0) pre))
                  (fun cc pre W => Aside0 (cc = .exit 6 ∧ ∃ S pre', (∃ x : BlkN D.length, pre = pre' ++ [x] ∧ x.1 = D.getD m 0) ∧ pre'.length ≤ 41 ∧ FM g.length w3 (some ad) ci (m * 13120 + q * 41 + pre'.length) S W ∧ (∀ j, j < g.length → ∀ k, S j k = true ↔ Cnd D (predsOf g) m q j k ∨ (k = (m : Int) ∧ HasV (j : Int) pre')) ∧ Marks (w3.heap.size + 3 + g.length) Ds2 W ∧ W.cell? ⟨O, 0, none⟩ = some (.int .i64 m) ∧ ¬ HasV (D.getD m 0) pre'))
                  (pre ++ [⟨(xn : Int), x0, x1⟩]) W .normal { tmps := #[], defers := [] } W1 := by
                  have hkb : KeepsBut (fun k => k = w3.heap.size + 3 + xn) W.drew W1 := ⟨r3.os, r3.tape, r3.output, r3.size, fun k hk hn => r3.block k hk (fun e => hn (Option.some.inj e))⟩
                  refine ⟨((KeepsOthers.drew W).from _).trans (KeepsFrom.of_grownBy r3 (fun j e => by have := Option.some.inj e; omega)), KeepsBut.trans (hdw.mono (fun _ h => h.elim)) (hkb.mono (fun k hk => by rintro (h | h | h) <;> omega)), ⟨_, by rw [List.length_append]; exact r2, fun j hj k => ?_, h3d.keep hkb (fun x hx2 e => by have := (h3.at_ x hx2).1; omega), hkb.cell h4d (fun e => ?_), fun hy => ?_⟩⟩
                  · by_cases ej : j = xn
                    · subst ej
                      rw [if_pos rfl, HasV.snoc]
                      unfold ins
                      rw [Bool.or_eq_true, h2 j hj, decide_eq_true_eq]
                      constructor
                      · rintro (h | h | h)
                        · exact .inr ⟨h, .inr rfl⟩
                        · exact .inl h
                        · exact .inr ⟨h.1, .inl h.2⟩
                      · rintro (h | ⟨h, h6⟩)
                        · exact .inr (.inl h)
                        · exact .inl h
                    · rw [if_neg ej, h2 j hj, HasV.snoc]
                      constructor
                      · rintro (h | ⟨h, h6⟩)
                        · exact .inl h
                        · exact .inr ⟨h, .inl h6⟩
                      · rintro (h | ⟨h, h6 | h6⟩)
                        · exact .inl h
                        · exact .inr ⟨h, h6⟩
                        · exact absurd (Int.ofNat.inj h6) ej
                  · have e' : O = w3.heap.size + 3 + xn := e
                    have := hO.out
                    omega
                  · rcases HasV.snoc.1 hy with hy | hy
                    · exact h5 (by rw [hdm.out] at hy; exact hy)
                    · exact hxm (by rw [hdm.out] at hy; exact hy.symm)
                have hfin' := Aside0.mk hfin
                clear hfin
                have hmix : Try.prog.follows .mixedOrders = true := by kernel_rfl
                gi_wp2
                gi_region_with_o (fail)
                all_goals exact hfin'.out
            case done =>
              rintro Dd ys W hDd hys ⟨⟨S, h1, h2, h3, h4, h5⟩⟩ hK
              clear hst hst2 hU
              gi_wp2
              refine ⟨⟨q + 1, Dd :: Ds2, ?_, ?_⟩, ?_⟩
              · rw [hRelP]
                have hDV := h3.lt
                have hno : D.getD m 0 ∉ upL D (D.length + 1) p := by rw [← hys]; exact h5
                have hyl : ys.length ≤ 41 := by
                  have e := congrArg List.length hys
                  rw [List.length_map] at e
                  have := upL_len D (D.length + 1) p
                  omega
                refine ⟨hqt, ⟨S, h1.more (by omega), fun j hj k => ?_, h3.cons (by omega) (fun x hx2 => by have := hMlt x hx2; omega) hK, h4⟩⟩
                rw [h2 j hj, hsucc2.out, cut_all hno, ← hys]
                exact Iff.rfl
              · repeat apply Exists.intro
                rfl
              · simp [RowKit.intOf]; omega
            case stop =>
              rintro Dd cc pre W hDd hpre ⟨⟨rfl, S, pre', ⟨x, e, e2⟩, hl, h1, h2, h3, h4, h5⟩⟩ hK
              clear hst hst2 hU
              gi_wp2
              refine ⟨⟨q + 1, Dd :: Ds2, ?_, ?_⟩, ?_⟩
              · rw [hRelP]
                refine ⟨hqt, ⟨S, h1.more (by omega), fun j hj k => ?_, h3.cons (by omega) (fun x hx2 => by have := hMlt x hx2; omega) hK, h4⟩⟩
                rw [e, List.map_append] at hpre
                rw [h2 j hj, hsucc2.out, cut_stop (x := x.1) e2 h5 hpre]
                exact Iff.rfl
              · repeat apply Exists.intro
                rfl
              · simp [RowKit.intOf]; omega
        · obtain rfl : q = P.length := by omega
          gi_wp2
          refine ⟨⟨m + 1, Ds2, ?_, ?_⟩, ?_⟩
          · rw [hRel]
            obtain ⟨⟨S, h1, h2, h3, _⟩⟩ := hRP'
            exact ⟨hlt, ⟨S, h1.more (by omega), fun j hj k => by rw [h2 j hj, cnd_next, ← hP.out], h3⟩⟩
          · repeat apply Exists.intro
            rfl
          · simp [RowKit.intOf]; omega
      · obtain rfl : m = g.length := by omega
        have hMl : ∀ x ∈ Ds, x < W.heap.size := hR'.out.choose_spec.2.2.lt
        have hszW : w3.heap.size + 3 + g.length ≤ W.heap.size := hR'.out.choose_spec.1.size
        have hBW : Below w3.heap.size w3 W := hR'.out.choose_spec.1.hB
        obtain ⟨G, hG⟩ : ∃ G, Aside0 (W.heap.size = G) := ⟨_, ⟨rfl⟩⟩
        obtain ⟨W0, hW0⟩ : ∃ W0, Aside0 (W.alloc (.cells (madeCells #[.slice none 0 0] g.length) 27) = W0) := ⟨_, ⟨rfl⟩⟩
        have hmk22 : (Instr.makeSlice 22 (.int .i64 (g.length : Int)) (.int .i64 (g.length : Int))).run Try.prog W = .ok (.slice (some ⟨G, 0, none⟩) g.length g.length) W0 := by
          obtain ⟨i0, hi, hz0, hz1, hz2⟩ := info_parts info27
          have := run_make W 22 27 i0 _ Try.underlying22 hi hz0 .i64 .i64 (g.length : Int) (g.length : Int) (by omega) (by omega) (by rw [hz2]; omega) (by omega)
          rw [Int.toNat_natCast, hz1, Nat.mul_one] at this
          rw [← hG.out, ← hW0.out]
          exact this
        rw [hG.out] at hMl hszW
        have hkA : KeepsBut (fun k => k = G) W W0 := by rw [← hW0.out]; exact KeepsBut.alloc _ _ _
        have hS0 := rows_made W w.heap.size g.length (Nat.le_trans hB2.size (Nat.le_trans hb3'.out.size hBW.size)) (by omega)
        rw [hW0.out, hG.out] at hS0
        obtain ⟨S, hSt⟩ : ∃ S, Aside0 (FM g.length w3 Ai ci (g.length * 13120) S W0 ∧ (∀ j, j < g.length → ∀ k, S j k = true ↔ Cnd D (predsOf g) g.length 0 j k) ∧ Marks (w3.heap.size + 3 + g.length) Ds W0) := by
          obtain ⟨⟨S, h1, h2, h3⟩⟩ := hR'
          exact ⟨S, ⟨h1.keep hkA (fun k hk e => by omega), h2, h3.keep hkA (fun x hx e => by have := hMl x hx; omega)⟩⟩
        have hGl : G < W0.heap.size := by rw [← hG.out, ← hW0.out]; simp
        have z0 := hSt.out.1.bs
        have hS0' := Aside0.mk hS0
        clear hS0 hR' hR hkA hBW
        gi_wp2
        gi_loopw [74] (fun s wr => ∃ m : Nat, m ≤ g.length ∧ s = .int .i64 m ∧ Aside0 (FM g.length w3 Ai ci (g.length * 13120) S wr ∧ Marks (w3.heap.size + 3 + g.length) Ds wr ∧ Kd.S (Kd.slice 3 (Kd.int .i64)) 27 wr w.heap.size (fun _ => True) (.slice (some ⟨G, 0, none⟩) g.length g.length) (frUp D (predsOf g) g.length m) ∧ G < wr.heap.size))
          (fun s _ => g.length - (RowKit.intOf s).toNat)
        case atStart => exact ⟨0, Nat.zero_le _, rfl, ⟨hSt.out.1, hSt.out.2.2, hS0'.out, hGl⟩⟩
        case round =>
          have hS2 := hSt.out.2.1
          have hS2' := Aside0.mk hS2
          clear hSt hS0' hS2 z0 hGl
          obtain ⟨m, hm, rfl, h0⟩ := hrel
          by_cases hlt : m < g.length
          · have hmn : (m : Int) < (g.length : Int) := by omega
            have hm0 : (0 : Int) ≤ (m : Int) := by omega
            have z1 := h0.out.1.row m hlt
            obtain ⟨cS, hcS, DD, hown, hRd⟩ := h0.out.1.sets m hlt
            have hk1 : CallsIn Fence.wide (5 - 1) Try.prog 68 #[.map (some (w3.heap.size + 3 + m))] wr _ := callsIn_wide.2 (keys68_calls (some (w3.heap.size + 3 + m)) wr)
            have hk2 : CallsIn Fence.wide (5 - 1) Try.prog 57 #[.func (.func 82) #[] #[.pointer (some ⟨wr.heap.size, 0, none⟩)]] (wr.alloc (.cells #[.map (some (w3.heap.size + 3 + m))] 69)) _ := callsIn_wide.2 (sorted68_calls (w3.heap.size + 3 + m) cS (S m) wr hown hRd.has (by omega))
            have hks : Aside0 (∀ ks, Rising ks → (∀ k, k ∈ ks ↔ S m k = true) → ks = frRow D (predsOf g) g.length m) := ⟨fun ks h1 h2 => rising_eq h1 (frRow_rising _ _ _ _) fun k => by
              rw [h2, hS2'.out m hlt, cnd_all, frRow_mem]⟩
            have hbw : w.heap.size ≤ wr.heap.size := Nat.le_trans hB2.size (Nat.le_trans hb3'.out.size h0.out.1.hB.size)
            clear hown hRd
            gi_wp2_with (first
              | ((try refine ⟨trivial, ?_⟩); gi_at_call 68; refine hk1.mono ?_; clear hk1; rintro e w8 ⟨rfl, rfl⟩)
              | ((try refine ⟨trivial, ?_⟩); gi_at_call 57; refine hk2.mono ?_; clear hk2; rintro e w9 ⟨v9, ks, rfl, q1, q2, q3, q4, q5⟩; obtain rfl := hks.out ks q1 q2; obtain ⟨A9, c9, rfl⟩ := Kd.R_slice q4;
                 obtain ⟨u, x1, x2, x3⟩ := fr_store h0.out.2.2.1 hm0 hmn h0.out.2.2.2 hbw q4 q5; have x3' := Aside0.mk x3; have q5' := Aside0.mk q5; clear x3 q5 q4 q1 q2))
            have hkw : Aside0 (KeepsBut (fun k => k = G) wr (w9.setCell ⟨G, m, none⟩ (.slice A9 (frRow D (predsOf g) g.length m).length c9))) := ⟨KeepsBut.trans ⟨q5'.out.os, q5'.out.tape, q5'.out.output, q5'.out.size, fun k hk _ => q5'.out.block k hk⟩ (KeepsBut.setCell _ _ _ rfl)⟩
            go_roundw
            case rel =>
              refine ⟨m + 1, by omega, by go_num, ⟨h0.out.1.keep hkw.out (fun k hk e => by omega), h0.out.2.1.keep hkw.out (fun x hx e => by have := hMl x hx; omega), ?_, Nat.lt_of_lt_of_le h0.out.2.2.2 hkw.out.size⟩⟩
              rw [← frUp_set _ _ hlt]
              exact x3'.out
            case measure => simp [RowKit.intOf]; omega
          · obtain rfl : m = g.length := by omega
            gi_wp2
            refine leaves_all (b := w3.heap.size + 3 + g.length) Ds wr h0.out.2.1 (fun W' hk => ⟨.slice (some ⟨G, 0, none⟩) g.length g.length, ?_, .slice (some ⟨G, 0, none⟩) g.length g.length, rfl, ?_, ?_⟩)
            · simp [results, Try.f44, go_sem]
            · rw [← frUp_all]
              refine Kd.S_mono (Kd.S_step (Kd.S_bound h0.out.2.2.1) (fun k hok hk2 => hk.block k hk2 (fun hmem => ?_))) (fun _ _ => trivial)
              obtain ⟨_, _, _, qq, _, cells, hcl⟩ := hok
              rw [(h0.out.2.1.at_ k hmem).2] at hcl
              cases hcl
            · have hBr := h0.out.1.hB
              exact (hB2.trans (hb3'.out.mono hB2.size)).trans ((hBr.trans (hk.below hBr.size (fun k hk2 hmem => by have := (h0.out.2.1.at_ k hmem).1; omega))).mono (Nat.le_trans hB2.size hb3'.out.size))
end Go.Proofs.Ytkmbhknmjnbanaa.A


namespace Go.Proofs.Ytkmbhknmjnbanaa.A
open Go.RowKit Go.Maps Go.Proofs.YtkmbhknmjnbanaaW.PrintWords Go.Proofs.YtkmbhknmjnbanaaW.PrintLast Go.Shelf
set_option linter.unusedVariables false
set_option linter.unusedSimpArgs false

set_option maxHeartbeats 1000000 in
theorem clone77_calls (A : Option Addr) (c : Nat) (xs : List Int) (w : World) (hx : Kd.C (Kd.int .i64) w A xs.length xs) (hc : xs.length ≤ c) (hl : xs.length ≤ 1000000) :
    Calls Try.prog 77 #[.slice A xs.length c] w fun e w' => ∃ v, e = .returned v ∧ Kd.R (Kd.int .i64) 3 w' w.heap.size (fun _ => True) v xs ∧ Below w.heap.size w w' := by
  have q22 : ∀ (w : World) (a : Option Addr) (n c n' c' : Nat), (binOp .eql 27 (.slice a n c) (.slice none n' c')).run Try.prog w = .ok (.bool a.isNone) w := fun w a n c n' c' => Lib.run_eql_slice_nil w _ _ a n c n' c' Try.underlying27
  cases A with
  | none =>
    have h0 : xs = [] := by
      obtain ⟨h1, h2, h3⟩ := hx
      rcases Nat.eq_zero_or_pos xs.length with h | h
      · exact List.eq_nil_of_length_eq_zero h
      · obtain ⟨ad, e, _⟩ := h3 h; cases e
    subst h0
    go_enter Try.func77, Try.ntmps77
    go_wp2
    go_ret
    exact ⟨_, rfl, Kd.R_nil _ _ _ _ _, Below.refl _ _⟩
  | some ad =>
    have hr : ReadsInt w .i64 (some ad) xs.length xs := by
      obtain ⟨h1, h2, h3⟩ := hx
      refine ⟨rfl, h2, fun hp => ⟨ad, rfl, fun j hj => ?_⟩⟩
      obtain ⟨ad', e, hc⟩ := Kd.at_int ⟨h1, h2, h3⟩ (j : Int) (by omega) (by omega)
      obtain rfl : ad = ad' := Option.some.inj e
      rw [Int.toNat_natCast] at hc
      rw [hc]
      simp [rd]
    clear hx
    have hr' := Aside0.mk (hr.below (below_alloc (Below.refl _ _) (.cells #[] 3)))
    have ho := Aside0.mk (World.ownsRow_made w #[] 0 (Nat.le_refl _) (Nat.zero_le _) (by simp) : (w.alloc (.cells #[] 3)).ownsRow w.heap.size 3 1 (.slice (some ⟨w.heap.size, 0, none⟩) 0 0) 0 [])
    clear hr
    go_enter Try.func77, Try.ntmps77
    go_wp2_with (at_builtin; refine print_append_row (w0 := w) w.heap.size rfl (.tmp 5) (.tmp 6) 27 3 .i64 8 rfl Try.underlying27 info3 (by decide) _ [] xs (some ad) xs.length c rfl rfl ho.out hr'.out (below_alloc (Below.refl _ _) _) (by simp) (by simp; omega) ?_; intro v1 w1 hown hb hg hat)
    go_ret
    exact ⟨v1, rfl, Kd.R_of_own (show w1.ownsRow w.heap.size 3 1 v1 xs.length (nums .i64 xs) by simpa using hown) (fun _ _ => trivial), hb⟩

/-- what comes in newly waits -/
def iterStep (s : List Int × List Int) (b : Int) : List Int × List Int := if b ∈ s.2 then s else (s.1 ++ [b], s.2 ++ [b])
/-- what dom.Iterated finds, if so many rounds suffice -/
def iterO (F : List (List Int)) : Nat → List Int → List Int → Option (List Int)
  | 0, _, _ => none
  | _ + 1, [], acc => some acc
  | k + 1, a :: ws, acc => if 0 ≤ a ∧ a < (F.length : Int) then iterO F k ((rowOf F a.toNat).foldl iterStep (ws, acc)).1 ((rowOf F a.toNat).foldl iterStep (ws, acc)).2 else iterO F k ws acc
theorem iter_len : ∀ (l : List Int) (s : List Int × List Int), (l.foldl iterStep s).1.length ≤ s.1.length + l.length ∧ (l.foldl iterStep s).2.length ≤ s.2.length + l.length
  | [], s => ⟨by simp, by simp⟩
  | b :: l, s => by
    have ih := iter_len l (iterStep s b)
    have h : (iterStep s b).1.length ≤ s.1.length + 1 ∧ (iterStep s b).2.length ≤ s.2.length + 1 := by
      unfold iterStep
      by_cases e : b ∈ s.2
      · rw [if_pos e]; omega
      · rw [if_neg e]; simp
    rw [List.foldl_cons, List.length_cons]
    omega
theorem dec_snoc (acc : List Int) (b : Int) : (fun x => decide (x ∈ acc ++ [b])) = ins (fun x => decide (x ∈ acc)) b := by
  funext x
  unfold ins
  by_cases h : x = b <;> by_cases h2 : x ∈ acc <;> simp [h, h2]
  all_goals simp_all

set_option maxRecDepth 100000 in
set_option maxHeartbeats 4000000 in
theorem iter_calls (k kk : Nat) (A : Option Addr) (c : Nat) (g : List (List Int)) (D : List Int) (A2 : Option Addr) (c2 : Nat) (at_ R : List Int) (w : World) (hC : Kd.C (Kd.slice 3 (Kd.int .i64)) w A g.length g) (hc : g.length ≤ c) (hn : g.length ≤ 40) (h : idomO g k = some D) (hr : rightB g = true)
    (hC2 : Kd.C (Kd.int .i64) w A2 at_.length at_) (hc2 : at_.length ≤ c2) (hal : at_.length ≤ 1000) (hkk : kk ≤ 1000) (hi : iterO (frRows D (predsOf g) g.length) kk at_ [] = some R) :
    Calls Try.prog 60 #[.slice A g.length c, .slice A2 at_.length c2] w fun e w' => ∃ v ks, e = .returned v ∧ Rising ks ∧ (∀ x, x ∈ ks ↔ x ∈ R) ∧ Kd.R (Kd.int .i64) 3 w' w.heap.size (fun _ => True) v ks ∧ Below w.heap.size w w' := by
  have hmm := @run_makeMap Try.prog
  have hfr := frontier_calls k A c g D w hC hc hn h hr
  obtain ⟨F, hF⟩ : ∃ F, Aside0 (F = frRows D (predsOf g) g.length) := ⟨_, ⟨rfl⟩⟩
  have hFl : F.length = g.length := by rw [hF.out]; simp [frRows]
  have hFr : Aside0 (∀ a, (rowOf F a).length ≤ 40 ∧ ∀ x ∈ rowOf F a, 0 ≤ x ∧ x < 40) := ⟨fun a => by
    rw [hF.out]
    unfold frRows rowOf
    by_cases ha : a < g.length
    · rw [List.getD_eq_getElem?_getD, List.getElem?_map, List.getElem?_range ha]
      show (frRow D (predsOf g) g.length a).length ≤ 40 ∧ ∀ x ∈ frRow D (predsOf g) g.length a, 0 ≤ x ∧ x < 40
      refine ⟨?_, fun x hx => ?_⟩
      · unfold frRow
        rw [List.length_map]
        refine Nat.le_trans (List.length_filter_le _ _) ?_
        rw [List.length_range]; exact hn
      · obtain ⟨y, rfl, hy, _⟩ := (frRow_mem _ _ _ _ _).1 hx
        omega
    · rw [List.getD_eq_getElem?_getD, List.getElem?_eq_none (by simp; omega)]
      simp⟩
  rw [← hF.out] at hfr hi
  have hi' := Aside0.mk hi
  clear h hi hr
  go_enter Try.func60, Try.ntmps60
  go_wp2_with fail
  refine hfr.mono ?_
  rintro e w2 ⟨v2, rfl, hv2, hb2⟩
  obtain ⟨Af, cf, rfl⟩ := Kd.S_slice hv2
  have hFC := Aside0.mk (Kd.S_reads' hv2).2.2
  have hb2' := Aside0.mk hb2
  have hst := Aside0.mk (SetAt.made w2)
  have hBm : Below w2.heap.size w2 (w2.alloc (.map #[] 0)) := below_alloc (Below.refl _ _) _
  have hcl := clone77_calls A2 c2 at_ (w2.alloc (.map #[] 0)) (Kd.C_below hC2 (hb2.trans (hBm.mono hb2.size))) hc2 (by omega)
  clear hfr hv2 hb2 hBm
  go_wp2_with fail
  refine hcl.mono ?_
  rintro e w3 ⟨v3, rfl, hv3, hb3⟩
  rw [World.size_alloc] at hv3 hb3
  have hst3 := Aside0.mk (hst.out.below (by rw [World.size_alloc]; exact hb3))
  have hQ3 := Aside0.mk (Kd.Q_of_R (Kd.R_mono (Kd.R_bound hv3) (ok' := fun k => w2.heap.size + 1 ≤ k) (fun k hk => hk.2.1)))
  have hB3 := Aside0.mk ((below_alloc (Below.refl w2.heap.size w2) (.map #[] 0)).trans (hb3.mono (by omega)))
  clear hcl hst hv3 hb3
  go_wp2_with fail
  go_loopg [7] kk (fun gk s7 wr => ∃ (ws acc : List Int), Kd.Q (Kd.int .i64) 3 wr (w2.heap.size + 1) (fun k => w2.heap.size + 1 ≤ k) s7 ws ∧ ws.length + gk * 40 ≤ 100000 ∧ acc.length + gk * 40 ≤ 100000 ∧ Aside0 (SetAt wr w2.heap.size acc.length (fun x => decide (x ∈ acc))) ∧ Aside0 (iterO F gk ws acc = some R) ∧ Aside0 (Below w2.heap.size w2 wr))
  case atStart => exact ⟨at_, [], hQ3.out, by omega, by simp; omega, ⟨by simpa using hst3.out⟩, hi', hB3⟩
  case round =>
    clear hQ3 hst3 hi' hB3
    obtain ⟨ws, acc, hQ, hwl, hal2, hS, hit, hB⟩ := hrel
    cases ws with
    | nil =>
      obtain ⟨A7, c7, rfl, hc7⟩ := Kd.Q_slice hQ
      obtain ⟨DD, hown, hRd⟩ := hS.out
      have hacc : acc = R := by
        have := hit.out
        cases gk with
        | zero => cases this
        | succ gk => exact Option.some.inj this
      have hso := sorted68_calls w2.heap.size acc.length _ wr hown hRd.has (by omega)
      have hbw : w.heap.size ≤ wr.heap.size := Nat.le_trans hb2'.out.size hB.out.size
      clear hQ hown hRd hS hit
      go_wp2_with fail
      refine (keys68_calls _ _).mono ?_
      rintro e w' ⟨rfl, rfl⟩
      go_wp2_with fail
      refine hso.mono ?_
      rintro e w5 ⟨v, ks, rfl, k1, k2, k3, k4, k5⟩
      obtain ⟨A5, c5, rfl⟩ := Kd.R_slice k4
      have k4' := Aside0.mk k4
      clear hso k4
      go_wp2_with fail
      go_ret
      refine ⟨_, ks, rfl, k1, fun x => by rw [k2 x, ← hacc, decide_eq_true_eq], Kd.R_lower k4'.out hbw, (hb2'.out.trans (hB.out.mono hb2'.out.size)).trans (k5.mono hbw)⟩
    | cons a ws =>
      obtain ⟨gk, rfl⟩ : ∃ g', gk = g' + 1 := by
        cases gk with
        | zero => have := hit.out; cases this
        | succ gk => exact ⟨gk, rfl⟩
      obtain ⟨A7, c7, rfl, hc7⟩ := Kd.Q_slice hQ
      obtain ⟨ad, rfl, q0⟩ := Kd.at_int (Kd.Q_reads' hQ).2.2 (0 : Int) (by omega) (by simp)
      change wr.cell? (ad.add 0) = some (.int .i64 a) at q0
      rw [Addr.add_zero'] at q0
      have hl1 : (a :: ws).length = ws.length + 1 := rfl
      obtain ⟨A8, hcut, hQ2⟩ : ∃ A8, (∀ W, (Instr.slice 27 (.slice (some ad) (ws.length + 1) c7) (some (.int .i64 1)) none none).run Try.prog W = .ok (.slice A8 ws.length (c7 - 1)) W) ∧ Aside0 (Kd.Q (Kd.int .i64) 3 wr (w2.heap.size + 1) (fun k => w2.heap.size + 1 ≤ k) (.slice A8 ws.length (c7 - 1)) ws) := by
        obtain ⟨i0, hi0, hz0, hz1, hz2⟩ := info_parts info3
        have h1 := Kd.Q_drop hQ (k := 1) (by simp)
        refine ⟨_, fun W => cut_from 27 3 .i64 Try.underlying27 hi0 1 hz1 (some ad) (ws.length + 1) c7 1 (by omega) (by omega) W, ⟨h1⟩⟩
      have hit' := hit.out
      unfold iterO at hit'
      have hwl2 : ws.length + 1 + (gk + 1) * 40 ≤ 100000 := hwl
      have hl0 : ((ws.length + 1 : Nat) : Int) > 0 := by omega
      rw [hl1] at hc7 ⊢
      clear hQ hit hwl hl1
      by_cases ha : 0 ≤ a ∧ a < (F.length : Int)
      · rw [if_pos ha] at hit'
        obtain ⟨an, rfl⟩ := Int.eq_ofNat_of_zero_le ha.1
        obtain ⟨ap, Ar, cr, rfl, y0, y1, y2⟩ := at_L1 (Kd.C_below hFC.out hB.out) (an : Int) ha.1 ha.2
        rw [Int.toNat_natCast, rdL] at y0
        rw [rdL] at y1 y2
        rw [Int.toNat_natCast] at hit'
        obtain ⟨row, hrow⟩ : ∃ row, Aside0 (rowOf F an = row) := ⟨_, ⟨rfl⟩⟩
        have hrf := hFr.out an
        rw [hrow.out] at y0 y1 y2 hit' hrf
        have hyC := Aside0.mk (show Kd.C (Kd.int .i64) w2 Ar row.length row from by
          obtain ⟨ap2, Ar2, cr2, e2, x0, x1, x2⟩ := at_L1 hFC.out (an : Int) ha.1 ha.2
          cases e2
          rw [Int.toNat_natCast, rdL, hrow.out] at x0
          rw [rdL, hrow.out] at x2
          have x3 := (hB.out.cell (World.block_lt_of_cell? _ _ x0)).trans x0
          rw [y0] at x3
          cases x3
          exact x2)
        have hitn := Aside0.mk hit'
        have hB0 := Aside0.mk (Below.refl wr.heap.size wr)
        obtain ⟨hrl, hrm⟩ := hrf
        have hrm' := Aside0.mk hrm
        clear hit' y2 hrm
        go_wp2_with fail
        go_loopw [7, 37] (fun s7 s37 wq => ∃ (q : Nat) (ws' acc' : List Int), q ≤ row.length ∧ s37 = .int .i64 q ∧ Aside0 (Kd.Q (Kd.int .i64) 3 wq (w2.heap.size + 1) (fun k => w2.heap.size + 1 ≤ k) s7 ws') ∧ Aside0 ((row.take q).foldl iterStep (ws, acc) = (ws', acc')) ∧ Aside0 (SetAt wq w2.heap.size acc'.length (fun x => decide (x ∈ acc'))) ∧ Aside0 (Below w2.heap.size w2 wq))
          (fun s7 s37 wq => row.length - (RowKit.intOf s37).toNat)
        case atStart => exact ⟨0, ws, acc, Nat.zero_le _, rfl, hQ2, ⟨rfl⟩, hS, hB⟩
        case round =>
          clear hQ2 hS hB hB0
          obtain ⟨q, ws', acc', hq, rfl, hQ, hfo, hS, hB⟩ := hrel
          by_cases hql : q < row.length
          · have hqn : (q : Int) < (row.length : Int) := by omega
            have hq0 : (0 : Int) ≤ (q : Int) := by omega
            obtain ⟨ar, rfl, z0⟩ := Kd.at_int (Kd.C_below hyC.out hB.out) (q : Int) hq0 hqn
            rw [Int.toNat_natCast, rdI hql] at z0
            have hbr := hrm'.out row[q] (List.getElem_mem hql)
            have hfo2 : (row.take (q + 1)).foldl iterStep (ws, acc) = iterStep (ws', acc') row[q] := by
              rw [List.take_succ_eq_append_getElem hql, List.foldl_append, hfo.out]; rfl
            generalize row[q] = b at z0 hbr hfo2
            have hwf : Wf b := wf_small hbr.1 (by omega)
            have hlk := hS.out.look hwf
            have hil := iter_len (row.take q) (ws, acc)
            rw [hfo.out] at hil
            have hil1 : ws'.length ≤ 100100 := by have := hil.1; simp only [List.length_take] at this; omega
            have hil2 : acc'.length ≤ 100100 := by have := hil.2; simp only [List.length_take] at this; omega
            clear hfo hil
            by_cases hb : b ∈ acc'
            · rw [decide_eq_true hb] at hlk
              unfold iterStep at hfo2
              rw [if_pos hb] at hfo2
              have hfo3 := Aside0.mk hfo2
              clear hfo2
              go_wp2_with fail
              go_roundw
              case rel => exact ⟨q + 1, ws', acc', by omega, by go_num, hQ, hfo3, hS, hB⟩
              case measure => simp [RowKit.intOf]; omega
            · rw [decide_eq_false hb] at hlk
              unfold iterStep at hfo2
              rw [if_neg hb] at hfo2
              have hfo3 := Aside0.mk hfo2
              clear hfo2
              obtain ⟨W1, u1, u2, u3⟩ := hS.out.store (by unfold maxLen; omega) hwf
              have hQ1 := Aside0.mk (Kd.Q_grown hQ.out u3 (fun k hk e => by have := Option.some.inj e; omega))
              have hB1 := Aside0.mk (hB.out.grown u3 hB.out.size (fun j e => by cases e; exact Nat.le_refl _))
              have hle1 : w2.heap.size + 1 ≤ W1.heap.size := by have := u2.lt; omega
              have u2' := Aside0.mk u2
              clear hS hB hQ u3 u2
              go_wp2_with (at_builtin; refine Kd.Q_append (Kd.int .i64) (w0 := W1) (w2.heap.size + 1) rfl (.tmp 47) (.tmp 49) 27 3 (.int .i64 0) 8 rfl Try.underlying27 info3 rfl (by decide) (by decide) _ ws' b [.int .i64 b] (fun k => w2.heap.size + 1 ≤ k) (fun _ => False) rfl rfl rfl (fun _ h => h.elim) (fun k hk => Nat.le_trans hle1 hk) hQ1.out (Below.refl _ _) hle1 (by omega) ?_; intro v7 w7 hown7 hb7 hg7 hat7)
              have hS7 : SetAt w7 w2.heap.size (acc' ++ [b]).length (fun x => decide (x ∈ acc' ++ [b])) := by
                rw [dec_snoc, List.length_append]
                exact u2'.out.grown hg7 (fun e => by have := hQ1.out.1 _ e.symm; omega)
              have hB7 := hB1.out.trans (hb7.mono (by omega))
              obtain ⟨A9, c9, rfl, _⟩ := Kd.Q_slice hown7
              have hown7' := Aside0.mk hown7
              have hS7' := Aside0.mk hS7
              have hB7' := Aside0.mk hB7
              clear hS7 hB7 hown7 hg7 hb7 hat7
              go_roundw
              case rel => exact ⟨_, _, _, ⟨q + 1, by omega, by go_num, ws' ++ [b], hown7', acc' ++ [b], hfo3, hS7', hB7'⟩, rfl, rfl, rfl⟩
              case measure => simp [RowKit.intOf]; omega
          · obtain rfl : q = row.length := by omega
            have hfo' := hfo.out
            rw [List.take_length] at hfo'
            have hil := iter_len row (ws, acc)
            rw [hfo'] at hil
            have hitn2 := hitn.out
            rw [hfo'] at hitn2
            have hitn3 := Aside0.mk hitn2
            clear hfo' hitn2
            go_wp2_with fail
            go_roundg gk
            case measure => omega
            case rel => exact ⟨ws', acc', hQ.out, by have : ws'.length ≤ ws.length + row.length := hil.1; omega, by have : acc'.length ≤ acc.length + row.length := hil.2; omega, hS, hitn3, hB⟩
      · rw [if_neg ha] at hit'
        have hitn := Aside0.mk hit'
        clear hit'
        by_cases h0 : a < 0
        · go_wp2_with fail
          go_roundg gk
          case measure => omega
          case rel => exact ⟨ws, acc, hQ2.out, by omega, by omega, hS, hitn, hB⟩
        · have h1 : (F.length : Int) ≤ a := by omega
          have h2 : ¬ a < 0 := h0
          go_wp2_with fail
          go_roundg gk
          case measure => omega
          case rel => exact ⟨ws, acc, hQ2.out, by omega, by omega, hS, hitn, hB⟩
end Go.Proofs.Ytkmbhknmjnbanaa.A


namespace Go.Proofs.Ytkmbhknmjnbanaa.A
open Go.RowKit Go.Proofs.YtkmbhknmjnbanaaW.PrintWords Go.Proofs.YtkmbhknmjnbanaaW.PrintLast Go.Shelf Go.Lib
attribute [local go_sem] Oper.semAt_some
set_option linter.unusedVariables false
set_option linter.unusedSimpArgs false

/-- the place of the first 0; -1: there is none -/
def zeroAt : List Int → Int
  | [] => -1
  | x :: l => if x = 0 then 0 else if zeroAt l = -1 then -1 else zeroAt l + 1
theorem zeroAt_no : ∀ l : List Int, (0 : Int) ∉ l → zeroAt l = -1
  | [], _ => rfl
  | x :: l, h => by
    unfold zeroAt
    rw [if_neg (fun e => h (by rw [e]; simp)), zeroAt_no l (fun h2 => h (by simp [h2])), if_pos rfl]
theorem zeroAt_pre : ∀ (q r : List Int), (0 : Int) ∉ q → zeroAt (q ++ 0 :: r) = (q.length : Int)
  | [], r, _ => by unfold zeroAt; simp
  | x :: q, r, h => by
    have ih := zeroAt_pre q r (fun h2 => h (by simp [h2]))
    show zeroAt (x :: (q ++ 0 :: r)) = _
    unfold zeroAt
    rw [if_neg (fun e => h (by rw [e]; simp)), ih, if_neg (by omega)]
    simp
def depI (D : List Int) (a : Int) : Int := zeroAt (upL D (D.length + 1) a)
/-- 0 came just now, and not before -/
def Came0 {n : Nat} (pre : List (BlkN n)) : Prop := ∃ q : List Int, pre.map (·.1) = q ++ [0] ∧ (0 : Int) ∉ q

set_option maxRecDepth 100000 in
set_option maxHeartbeats 4000000 in
theorem depth_calls (A : Option Addr) (c : Nat) (D : List Int) (b : Int) (w : World) (h : Kd.C (Kd.int .i64) w A D.length D) (hc : D.length ≤ c) (hDl : D.length ≤ 1000000) :
    Calls Try.prog 67 #[.slice A D.length c, .int .i64 b] w fun e w' => e = .returned (.int .i64 (depI D b)) ∧ Below w.heap.size w w' := by
  rw [← callsIn_wide (n := 5)]
  have hro : (Fence.wide).round = none := rfl
  have hd : (Fence.wide).depth = none := rfl
  refine callsIn_of_wp_marks Try.func67 rfl trivial ?_ hro
  simp only [Try.ntmps67, List.size_toArray, List.length_cons, List.length_nil, Nat.reduceAdd, Nat.reduceSub, Array.replicate_succ, Array.replicate_zero, List.push_toArray, List.append_toArray, List.nil_append, List.cons_append]
  gi_wp2_with ((try refine ⟨trivial, ?_⟩); gi_at_call 64; refine (up_in Fence.wide _ trivial hro A D.length c b _).mono ?_; rintro e w2 ⟨rfl, rfl⟩)
  obtain ⟨V, hV⟩ : ∃ V, (w.alloc (.cells #[.int .i64 0] 3)).alloc (.cells #[.int .i64 0] 3) = V := ⟨_, rfl⟩
  have hVs : V.heap.size = w.heap.size + 1 + 1 := by rw [← hV]; simp
  have hVB : Below w.heap.size w V := by rw [← hV]; exact below_alloc (below_alloc (Below.refl _ _) _) _
  have hU := up_state (A := A) (c := c) (a := b) (D := D) hVB
  obtain ⟨WL, hWL⟩ : ∃ WL, (V.alloc (.cells #[.slice A D.length c] 27)).alloc (.cells #[.int .i64 b] 3) = WL := ⟨_, rfl⟩
  rw [hWL, hVs] at hU
  have f0 : WL.cell? ⟨w.heap.size, 0, none⟩ = some (.int .i64 0) := by rw [← hWL, ← hV]; simp [go_sem]
  have g0 : WL.frozen? ⟨w.heap.size, 0, none⟩ = false := by rw [← hWL, ← hV]; simp [go_sem]
  have f1 : WL.cell? ⟨w.heap.size + 1, 0, none⟩ = some (.int .i64 0) := by rw [← hWL, ← hV]; simp [go_sem]
  have g1 : WL.frozen? ⟨w.heap.size + 1, 0, none⟩ = false := by rw [← hWL, ← hV]; simp [go_sem]
  have hsz : WL.heap.size = w.heap.size + 4 := by rw [← hWL]; simp [hVs]
  simp only [hV]
  rw [hWL]
  clear hV hWL hVB hVs
  have hst := up_stops Fence.wide hd 4 trivial hro (w.heap.size + 1 + 1) (w.heap.size + 1 + 1 + 1) b A c D w WL h hDl (by omega) (by omega) hU
  refine wpIn_rangeFunc_X hro (by omega) (gf := 80) (lb := #[.pointer (some ⟨w.heap.size + 1 + 1, 0, none⟩), .pointer (some ⟨w.heap.size + 1 + 1 + 1, 0, none⟩)]) rfl trivial (enters_of Try.func80 (by kernel_rfl) rfl) hst
    (fun k hk => by have : k = w.heap.size + 1 + 1 + 1 := hk; omega) (fun h k => h.trans k) (fun W l o o' h1 h2 _ _ _ => KeepsBut.putObj W o' (by rintro (h | h | h) <;> omega)) (Below.refl _ _) (fun _ => rfl)
    (fun pre W => Aside0 (Below w.heap.size w W ∧ (W.cell? ⟨w.heap.size, 0, none⟩ = some (.int .i64 0) ∧ W.frozen? ⟨w.heap.size, 0, none⟩ = false) ∧ W.cell? ⟨w.heap.size + 1, 0, none⟩ = some (.int .i64 (pre.length : Int)) ∧ W.frozen? ⟨w.heap.size + 1, 0, none⟩ = false ∧ ¬ HasV 0 pre))
    (fun cc pre W => Aside0 (cc = .ret ∧ Below w.heap.size w W ∧ W.cell? ⟨w.heap.size, 0, none⟩ = some (.int .i64 ((pre.length : Int) - 1)) ∧ Came0 pre)) ?hI ?hIx ⟨⟨hU.hB, ⟨f0, g0⟩, f1, g1, by simp [HasV]⟩⟩ ?a1 ?assign ?body ?done ?stop
  case hI =>
    rintro pre W W' ⟨⟨h1, ⟨h2, h2'⟩, h3, h4, h5⟩⟩ hk
    have hx : ∀ k, XX (fun _ k => k = w.heap.size + 1 + 1 + 1) WL.heap.size k → w.heap.size + 2 ≤ k := by
      rintro k (h | h)
      · have : k = w.heap.size + 1 + 1 + 1 := h; omega
      · omega
    exact ⟨⟨h1.trans (hk.below h1.size (fun k hk hX => by have := hx k hX; omega)), ⟨hk.cell h2 (fun hX => by have : w.heap.size + 2 ≤ w.heap.size := hx _ hX; omega), hk.frozen h2 (fun hX => by have : w.heap.size + 2 ≤ w.heap.size := hx _ hX; omega) h2'⟩, hk.cell h3 (fun hX => by have : w.heap.size + 2 ≤ w.heap.size + 1 := hx _ hX; omega), hk.frozen h3 (fun hX => by have : w.heap.size + 2 ≤ w.heap.size + 1 := hx _ hX; omega) h4, h5⟩⟩
  case hIx =>
    rintro cc pre W W' ⟨⟨rfl, h1, h3, h5⟩⟩ hk
    have hx : ∀ k, XX (fun _ k => k = w.heap.size + 1 + 1 + 1) WL.heap.size k → w.heap.size + 2 ≤ k := by
      rintro k (h | h)
      · have : k = w.heap.size + 1 + 1 + 1 := h; omega
      · omega
    exact ⟨⟨rfl, h1.trans (hk.below h1.size (fun k hk hX => by have := hx k hX; omega)), hk.cell h3 (fun hX => by have : w.heap.size + 2 ≤ w.heap.size := hx _ hX; omega), h5⟩⟩
  case assign =>
    intro l x W K hK
    gi_wp2
    exact hK
  case body =>
    rintro l pre ⟨x, x0, x1⟩ W ⟨⟨h1, ⟨h2, h2'⟩, h3, h4, h5⟩⟩ _ hpl
    dsimp only
    have hw1 : wrap64 ((pre.length : Int) + 1) = (pre.length : Int) + 1 := by unfold wrap64; omega
    by_cases hxa : x = 0
    · subst hxa
      gi_wp2
      exact ⟨(KeepsOthers.setCell _ _ _).from _, ⟨rfl, h1.setCell (by show w.heap.size ≤ w.heap.size; omega) _, by rw [World.cell?_setCell_same' _ _ _ (by rw [h2]; rfl), List.length_append]; simp, pre.map (fun y : BlkN D.length => y.1), by rw [List.map_append]; rfl, h5⟩⟩
    · gi_wp2
      refine ⟨(KeepsOthers.setCell _ _ _).from _, KeepsBut.setCell _ _ _ (by rintro (h | h | h) <;> simp only [] at h <;> omega), ⟨h1.setCell (by show w.heap.size ≤ w.heap.size + 1; omega) _, ⟨(World.cell?_setCell_far _ _ _ _ (by show w.heap.size + 1 ≠ w.heap.size; omega)).trans h2, by rw [World.frozen?_setCell]; exact h2'⟩, ?_, by rw [World.frozen?_setCell]; exact h4, fun hy => ?_⟩⟩
      · rw [World.cell?_setCell_same' _ _ _ (by rw [h3]; rfl), List.length_append]; simp
      · rcases HasV.snoc.1 hy with hy | hy
        · exact h5 hy
        · exact hxa hy.symm
  case done =>
    rintro Dd ys W hD hys ⟨⟨h1, ⟨h2, h2'⟩, h3, h4, h5⟩⟩ hK
    gi_wp2
    have hK' := (KeepsOthers.setCell W ⟨w.heap.size, 0, none⟩ (.int .i64 (-1))).same Dd _ hK rfl
    refine ⟨by simp, .inl ⟨_, _, rfl, run_takeDeferred hK', ?_⟩⟩
    have hc5 := cell_kept (World.cell?_setCell_same' W ⟨w.heap.size, 0, none⟩ (.int .i64 (-1)) (by rw [h2]; rfl)) (grownBy_putObj' _ Dd (.deferred none)) (fun r e => by cases e; exact ⟨_, hK', rfl⟩)
    have hno : (0 : Int) ∉ upL D (D.length + 1) b := by
      rw [← hys]
      exact h5
    refine ⟨.int .i64 (-1), ?_, by unfold depI; rw [zeroAt_no _ hno], ?_⟩
    · simp [results, Try.f67, go_sem, hc5]
    · exact (h1.setCell (by show w.heap.size ≤ w.heap.size; omega) _).trans (belowK_b (w := w) (Nat.le_refl _) _ Dd _ (.deferred none) (by omega) hK' rfl rfl)
  case stop =>
    rintro Dd cc pre W hD hpre ⟨⟨rfl, h1, h3, q, hq, hq0⟩⟩ hK
    gi_wp2
    refine ⟨by simp, .inl ⟨_, _, rfl, run_takeDeferred hK, ?_⟩⟩
    have hc5 := cell_kept h3 (grownBy_putObj' _ Dd (.deferred none)) (fun r e => by cases e; exact ⟨_, hK, rfl⟩)
    refine ⟨.int .i64 ((pre.length : Int) - 1), ?_, ?_, ?_⟩
    · simp [results, Try.f67, go_sem, hc5]
    · obtain ⟨r, hr⟩ := hpre
      have hl : pre.length = q.length + 1 := by have := congrArg List.length hq; simpa using this
      unfold depI
      rw [← hr, hq, List.append_assoc]
      show _ = Ending.returned (.int .i64 (zeroAt (q ++ 0 :: r)))
      rw [zeroAt_pre q r hq0, hl]
      simp
    · exact h1.trans (belowK_b (w := w) (Nat.le_refl _) _ Dd _ (.deferred none) (by omega) hK rfl rfl)
end Go.Proofs.Ytkmbhknmjnbanaa.A


namespace Go.Proofs.Ytkmbhknmjnbanaa.A
open Go.RowKit Go.Proofs.YtkmbhknmjnbanaaW.PrintWords Go.Proofs.YtkmbhknmjnbanaaW.PrintLast Go.Proofs.YtkmbhknmjnbanaaW.PrintMore
attribute [local go_sem] max2_int min2_int max_two min_two max_three min_three max_four min_four   -- for this text's walks alone
set_option linter.unusedVariables false
set_option linter.unusedSimpArgs false

def dom_Kids.l0 : Nat → List Int → List (List Int) → List Int → Int → Int → Option ((List (List Int)))
  | 0, _, _, _, _, _ => none
  | k + 1, x0, x3, x9, x10, x11 => if x11 < x10 then (if 0 ≤ x11 then (if x11 < (x9.length : Int) then (if (rd x9 x11) ≥ 0 then (if (rd x9 x11) < (x0.length : Int) then (if 0 ≤ (rd x9 x11) then (if (rd x9 x11) < (x3.length : Int) then (if (rd_L1 x3 (rd x9 x11)).length < 17592186044416 then (dom_Kids.l0 k x0 (x3.set ((rd x9 x11) : Int).toNat ((rd_L1 x3 (rd x9 x11)) ++ [x11])) x9 x10 (wrap64 (x11 + 1))) else (none)) else (none)) else (none)) else (dom_Kids.l0 k x0 x3 x9 x10 (wrap64 (x11 + 1)))) else (dom_Kids.l0 k x0 x3 x9 x10 (wrap64 (x11 + 1)))) else (none)) else (none)) else (some x3)
def dom_Kids.f (k : Nat) (l0 : List Int) : Option ((List (List Int))) := if 0 ≤ (l0.length : Int) then (if ((l0.length : Int) : Int).toNat ≤ 11728124029610 then (dom_Kids.l0 k l0 (List.replicate ((l0.length : Int) : Int).toNat []) l0 (l0.length : Int) 0) else (none)) else (none)
set_option maxHeartbeats 8000000 in
set_option maxRecDepth 100000 in
theorem dom_Kids.calls (k : Nat) (A0 : Option Addr) (c0 : Nat) (l0 : List Int) (r : List (List Int)) (w : World) (hr0 : Kd.C (Kd.int .i64) w A0 l0.length l0) (hc0 : l0.length ≤ c0) (h : dom_Kids.f k l0 = some r) :
    Calls Try.prog 40 #[.slice A0 l0.length c0] w fun e w' => ∃ v0_ : Value, e = .returned (v0_) ∧ Kd.S (Kd.slice 3 (Kd.int .i64)) 27 w' w.heap.size (fun _ => True) v0_ r ∧ Below w.heap.size w w' := by
  have HR0 := Aside0.mk hr0
  have HC0 := Aside0.mk hc0
  clear hr0 hc0
  have HB := Aside0.mk (Below.refl w.heap.size w)
  have H : (if 0 ≤ (l0.length : Int) then (if ((l0.length : Int) : Int).toNat ≤ 11728124029610 then (dom_Kids.l0 k l0 (List.replicate ((l0.length : Int) : Int).toNat []) l0 (l0.length : Int) 0) else (none)) else (none)) = some r := h
  clear h
  by_cases c2 : 0 ≤ (l0.length : Int)
  · rw [if_pos c2] at H
    have c2b0 := eq_true c2
    have c2b1 : decide (0 ≤ (l0.length : Int)) = true := decide_eq_true c2
    clear c2
    by_cases c3 : ((l0.length : Int) : Int).toNat ≤ 11728124029610
    · rw [if_pos c3] at H
      have c3b0 := eq_true c3
      have c3b1 : decide (((l0.length : Int) : Int).toNat ≤ 11728124029610) = true := decide_eq_true c3
      clear c3
      obtain ⟨y617, hy617⟩ : ∃ y_ : List (List Int), y_ = (List.replicate ((l0.length : Int) : Int).toNat []) := ⟨_, rfl⟩
      replace H : (dom_Kids.l0 k l0 y617 l0 (l0.length : Int) 0) = some r := by first | (rw [hy617]; with_reducible exact H) | (have H2_ := (Option.bind_some _ _).symm.trans H; rw [hy617]; with_reducible exact H2_) | (have H2_ := (Option.bind_some _ _).symm.trans H; with_reducible exact H2_) | with_reducible exact H | (rw [hy617]; exact H) | exact H
      have Ny617 := Aside0.mk hy617
      clear hy617
      have H' := Aside0.mk H
      clear H
      go_enter Try.func40, Try.ntmps40
      go_wp2_with (first | ((with_reducible refine gate_dst (N := 8) rfl ?_); (try (refine gate_guard (by rfl) ?_; dsimp only)); refine Kd.S_make (Kd.slice 3 (Kd.int .i64)) _ 27 rfl (N := 8) rfl 22 _ _ rfl (l0.length : Int) rfl rfl Try.underlying22 (.slice none 0 0) 24 info27 rfl (by decide) (by omega) [] (ok := fun _ => True) (okp := fun _ => True) ⟨_, rfl, Kd.R_nil _ _ _ _ _⟩ (fun _ hk => hk) trivial (of_decide_eq_true (by first | (with_reducible assumption) | assumption)) (Nat.le_trans (Nat.mul_le_mul_right _ (of_decide_eq_true (by first | (with_reducible assumption) | assumption) : (l0.length : Int).toNat ≤ 11728124029610)) (by omega)) (Below.refl _ _) (Nat.le_refl _) ?_; intro v618 w4 ho5 hb hg_ hnew_; clear hg_ hnew_; (first | rw [← Ny617.out] at ho5 | (simp only [Int.reduceToNat] at ho5; rw [← Ny617.out] at ho5)); have n0_ := Aside0.mk (Kd.S_lower ho5 (below_size (by repeat (first | (with_reducible first | exact HB.out | apply below_alloc | apply pw_below_drewN | apply below_drew1) | exact HB.out)))); have n1_ := Aside0.mk (below_step (by repeat (first | (with_reducible first | exact HB.out | apply below_alloc | apply pw_below_drewN | apply below_drew1) | exact HB.out)) hb); clear HB; have HO619 := n0_; have HB := n1_; clear n0_ n1_; clear hb ho5))
      go_loopg [11] k (fun kq v11 w' => ∃ (x3_1 : List (List Int)) (x11_1 : Int), v11 = .int .i64 x11_1 ∧ Aside0 (dom_Kids.l0 kq l0 x3_1 l0 (l0.length : Int) x11_1 = some r) ∧ Aside0 (kq ≤ k) ∧ Aside0 (Kd.S (Kd.slice 3 (Kd.int .i64)) 27 w' w.heap.size (fun _ => True) v618 x3_1) ∧ Aside0 (Below w.heap.size w w'))
      case atStart => exact ⟨(y617), (0), (by first | rfl | (simp; done) | (simp [*]; done)), H', ⟨Nat.le_refl _⟩, ⟨by (with_reducible repeat (first | apply Kd.S_alloc | apply Kd.S_drewN | apply Kd.S_drew)); exact HO619.out⟩, ⟨by repeat (first | (with_reducible first | exact HB.out | apply below_alloc | apply pw_below_drewN | apply below_drew1) | exact HB.out)⟩⟩
      case round =>
        clear H'
        try clear c2
        try clear c2b0
        try clear c2b1
        try clear p2
        try clear c3
        try clear c3b0
        try clear c3b1
        try clear c4
        obtain ⟨x3_1, x11_1, rfl, HA, HK1, HO_3, HB⟩ := hrel
        cases gk with
        | zero => exact absurd HA.out (by simp [dom_Kids.l0])
        | succ k1 =>
          have H := HA.out
          clear HA
          simp only [dom_Kids.l0] at H
          by_cases c6 : x11_1 < (l0.length : Int)
          · rw [if_pos c6] at H
            have c6b0 : decide (x11_1 < (l0.length : Int)) = true := decide_eq_true c6
            clear c6
            by_cases c7 : 0 ≤ x11_1
            · rw [if_pos c7] at H
              have c7b0 : decide (0 ≤ x11_1) = true := decide_eq_true c7
              clear c7
              by_cases c8 : x11_1 < (l0.length : Int)
              · rw [if_pos c8] at H
                have c8b0 : decide (x11_1 < (l0.length : Int)) = true := decide_eq_true c8
                clear c8
                by_cases c9 : (rd l0 x11_1) ≥ 0
                · rw [if_pos c9] at H
                  have c9b0 : decide (0 ≤ (rd l0 x11_1)) = true := decide_eq_true c9
                  clear c9
                  by_cases c10 : (rd l0 x11_1) < (l0.length : Int)
                  · rw [if_pos c10] at H
                    have c10b0 : decide ((rd l0 x11_1) < (l0.length : Int)) = true := decide_eq_true c10
                    clear c10
                    by_cases c11 : 0 ≤ (rd l0 x11_1)
                    · rw [if_pos c11] at H
                      have c11b0 : decide (0 ≤ (rd l0 x11_1)) = true := decide_eq_true c11
                      clear c11
                      by_cases c12 : (rd l0 x11_1) < (x3_1.length : Int)
                      · rw [if_pos c12] at H
                        have c12b0 : decide ((rd l0 x11_1) < (x3_1.length : Int)) = true := decide_eq_true c12
                        clear c12
                        by_cases c13 : (rd_L1 x3_1 (rd l0 x11_1)).length < 17592186044416
                        · rw [if_pos c13] at H
                          have LMc13 := Aside0.mk c13
                          clear c13
                          obtain ⟨y622, hy622⟩ : ∃ y_ : List Int, y_ = ((rd_L1 x3_1 (rd l0 x11_1)) ++ [x11_1]) := ⟨_, rfl⟩
                          replace H : (dom_Kids.l0 k1 l0 (x3_1.set ((rd l0 x11_1) : Int).toNat y622) l0 (l0.length : Int) (wrap64 (x11_1 + 1))) = some r := by first | (rw [hy622]; with_reducible exact H) | (have H2_ := (Option.bind_some _ _).symm.trans H; rw [hy622]; with_reducible exact H2_) | (have H2_ := (Option.bind_some _ _).symm.trans H; with_reducible exact H2_) | with_reducible exact H | (rw [hy622]; exact H) | exact H
                          have Ny622 := Aside0.mk hy622
                          clear hy622
                          obtain ⟨y625, hy625⟩ : ∃ y_ : List (List Int), y_ = (x3_1.set ((rd l0 x11_1) : Int).toNat y622) := ⟨_, rfl⟩
                          replace H : (dom_Kids.l0 k1 l0 y625 l0 (l0.length : Int) (wrap64 (x11_1 + 1))) = some r := by first | (rw [hy625]; with_reducible exact H) | (have H2_ := (Option.bind_some _ _).symm.trans H; rw [hy625]; with_reducible exact H2_) | (have H2_ := (Option.bind_some _ _).symm.trans H; with_reducible exact H2_) | with_reducible exact H | (rw [hy625]; exact H) | exact H
                          have Ny625 := Aside0.mk hy625
                          clear hy625
                          have H' := Aside0.mk H
                          clear H
                          have p620 : 0 ≤ (x11_1 : Int) := of_decide_eq_true (by first | (with_reducible assumption) | assumption)
                          have q620 : x11_1 < (l0.length : Int) := of_decide_eq_true (by first | (with_reducible assumption) | assumption)
                          obtain ⟨ad620, e620, hx620_0⟩ := Kd.at_int HR0.out x11_1 p620 q620
                          cases e620
                          replace hx620_0 := (HB.out.cell (World.block_lt_of_cell? w _ hx620_0)).trans hx620_0
                          replace p620 := eq_true p620
                          replace q620 := eq_true q620
                          obtain ⟨Ao15, co15, eo15⟩ := Kd.S_slice HO_3.out
                          subst eo15
                          have p621 : 0 ≤ ((rd l0 x11_1) : Int) := of_decide_eq_true (by first | (with_reducible assumption) | assumption)
                          have q621 : (rd l0 x11_1) < (x3_1.length : Int) := of_decide_eq_true (by first | (with_reducible assumption) | assumption)
                          obtain ⟨ad621, A621_0, c621_0, e621, hx621_0, hl621_0, hi621_0⟩ := at_L1 (Kd.S_reads' HO_3.out).2.2 (rd l0 x11_1) p621 q621
                          cases e621
                          obtain ⟨ce621, hce621, hMe621, hcc621⟩ := Kd.S_get HO_3.out [] (rd l0 x11_1) p621 (by first | exact q621 | exact of_decide_eq_true (by first | (with_reducible assumption) | assumption) | (have e_ := (Kd.S_reads' HO_3.out).1; omega))
                          obtain ⟨ve621_0, rfl, ge621_0⟩ := hMe621
                          have hv621_0 := hcc621 0 _ rfl
                          rw [Nat.add_zero, show ((Kd.slice 3 (Kd.int .i64))).sz = 1 from rfl, Nat.mul_one] at hv621_0
                          replace hv621_0 := Option.some.inj (hv621_0.symm.trans hx621_0)
                          rw [hv621_0] at ge621_0
                          have HL621_0 := Aside0.mk (show Kd.R (Kd.int .i64) 3 _ _ _ _ (rd_L1 x3_1 (rd l0 x11_1)) from ge621_0)
                          clear hv621_0 ge621_0
                          have HX621_0 := Aside0.mk hx621_0
                          clear hcc621 hce621
                          have HR621_0 := Aside0.mk hi621_0
                          have HC621_0 := Aside0.mk hl621_0
                          clear hi621_0 hl621_0
                          replace p621 := eq_true p621
                          replace q621 := eq_true q621
                          obtain ⟨go16, co16, eo16, gb16, gl16, cl16, HG16⟩ := Kd.S_form HO_3.out (by have h_ : ((rd l0 x11_1) : Int) < ((x3_1.length : Int) : Int) := of_decide_eq_true (by first | (with_reducible assumption) | assumption); have h2_ : 0 ≤ ((rd l0 x11_1) : Int) := (of_decide_eq_true (by first | (with_reducible assumption) | assumption)); omega)
                          (first | cases eo16 | (injection eo16 with ea_ en_ ec_; (first | subst ea_ | (injection ea_ with ea_; subst ea_)); subst ec_; clear en_))
                          have GB16 := Aside0.mk gb16
                          have GG16 := Aside0.mk HG16
                          clear gb16 gl16 HG16
                          (first | simp only [add_plain] at hx621_0 | skip)
                          obtain ⟨oki16, ce16, hcl16, hM16, hcc16, _, _, hH16⟩ := Kd.S_elem HO_3.out [] ((rd l0 x11_1) : Int) (of_decide_eq_true (by first | (with_reducible assumption) | assumption)) (by have h_ : ((rd l0 x11_1) : Int) < ((x3_1.length : Int) : Int) := of_decide_eq_true (by first | (with_reducible assumption) | assumption); first | exact h_ | (have e_ := (Kd.S_reads' HO_3.out).1; omega) | simpa using h_)
                          obtain ⟨ve16_0, rfl, ge16_0⟩ := hM16
                          have hv16 := hcc16 0 _ rfl
                          have hX16 := HX621_0.out
                          (try simp only [add_plain] at hX16)
                          (try simp only [Nat.add_zero] at hv16)
                          (try rw [show ((Kd.slice 3 (Kd.int .i64))).sz = 1 from rfl, Nat.mul_one] at hv16)
                          replace hv16 := Option.some.inj (hv16.symm.trans hX16)
                          subst hv16
                          clear hX16 hcc16 hcl16
                          have UU16 := Aside0.mk (show Kd.R (Kd.int .i64) 3 _ w.heap.size oki16 (.slice A621_0 (rd_L1 x3_1 (rd l0 x11_1)).length c621_0) (rd_L1 x3_1 (rd l0 x11_1)) from ge16_0)
                          have HH16 := Aside0.mk hH16
                          have HN16 := Aside0.mk (Kd.S_reads' HO_3.out).1
                          clear hH16 ge16_0
                          go_wp2_with (first | ((with_reducible refine gate_builtin (b := .append) (xs := #[.tmp 29, .tmp 31]) rfl ?_); (try (refine gate_guard (by rfl) ?_; dsimp only)); at_builtin; refine Kd.R_append (Kd.int .i64) (w0 := w) w.heap.size rfl (.tmp 29) (.tmp 31) 27 3 (.int .i64 0) 8 rfl Try.underlying27 info3 rfl (by decide) (by omega) (.slice A621_0 (rd_L1 x3_1 (rd l0 x11_1)).length c621_0) (rd_L1 x3_1 (rd l0 x11_1)) x11_1 [.int .i64 x11_1] (fun k_ => oki16 k_ ∨ ((fun _ => True)) k_ ∧ wr.heap.size ≤ k_) (fun _ => False) rfl rfl ?aP (fun _ hk => hk.elim) ?aF ?aO ?aB ?aS ?aL ?_; (case aP => exact rfl); (case aB => exact (by repeat (first | (with_reducible first | exact HB.out | apply below_alloc | apply pw_below_drewN | apply below_drew1) | exact HB.out))); (case aF => exact (fun k_ hk => .inr ⟨trivial, hk⟩)); (case aO => exact (by (with_reducible repeat (first | apply Kd.R_alloc | apply Kd.R_drewN | apply Kd.R_drew)); exact Kd.R_mono UU16.out (fun _ hk => .inl hk))); (case aS => exact (below_size (by repeat (first | (with_reducible first | exact HB.out | apply below_alloc | apply pw_below_drewN | apply below_drew1) | exact HB.out)))); (case aL => have := LMc13.out; omega); intro v623 w17 ho hb hg hat; rw [← Ny622.out] at ho; have n0_ := Aside0.mk (hb); have n1_ := Aside0.mk (Kd.H_grown (Kd.H_widen (by repeat (first | exact HH16.out | refine Kd.H_alloc ?_ _ | refine Kd.H_drewN ?_ _ | refine Kd.H_drew ?_))) hg (fun k_ e_ => .inl (UU16.out.1 k_ e_))); have n2_ := Aside0.mk (ho); clear HB; clear HH16; clear HO_3; clear UU16; clear HL621_0; have HB := n0_; have HH16 := n1_; have HO624 := n2_; clear n0_ n1_ n2_; clear ho hb hg hat; have p14 : 0 ≤ ((rd l0 x11_1) : Int) := of_decide_eq_true (by first | (with_reducible assumption) | assumption); have q14 : ((rd l0 x11_1) : Int) < ((x3_1.length : Int) : Int) := of_decide_eq_true (by first | (with_reducible assumption) | assumption); replace p14 := eq_true p14; replace q14 := eq_true q14; obtain ⟨Ao20, co20, eo20⟩ := Kd.R_slice HO624.out; subst eo20; obtain ⟨_, _, hraw18, _, _, hcc18, _⟩ := Kd.H_raw HH16.out (of_decide_eq_true (by first | (with_reducible assumption) | assumption)) (by have h_ : ((rd l0 x11_1) : Int) < ((x3_1.length : Int) : Int) := of_decide_eq_true (by first | (with_reducible assumption) | assumption); first | exact h_ | (have e_ := (HN16.out); omega) | simpa using h_); obtain ⟨_, hfr18⟩ := Kd.H_at HH16.out (of_decide_eq_true (by first | (with_reducible assumption) | assumption)) (by have h_ : ((rd l0 x11_1) : Int) < ((x3_1.length : Int) : Int) := of_decide_eq_true (by first | (with_reducible assumption) | assumption); first | exact h_ | (have e_ := (HN16.out); omega) | simpa using h_); have hx18_0 := hcc18 0 _ rfl; have hf18_0 := hfr18 0; (try simp only [Nat.add_zero] at hx18_0 hf18_0); (try rw [show ((Kd.slice 3 (Kd.int .i64))).sz = 1 from rfl, Nat.mul_one] at hx18_0); (try rw [show ((Kd.slice 3 (Kd.int .i64))).sz = 1 from rfl, Nat.mul_one] at hf18_0); have HP18 := Kd.S_seg0 HH16.out (of_decide_eq_true (by first | (with_reducible assumption) | assumption)) (by have h_ : ((rd l0 x11_1) : Int) < ((x3_1.length : Int) : Int) := of_decide_eq_true (by first | (with_reducible assumption) | assumption); first | exact h_ | (have e_ := (HN16.out); omega) | simpa using h_) (seg := [.slice Ao20 y622.length co20]) (j := 0) (show 1 ≤ 1 from by decide) (x' := y622) (Kd.M_row HO624.out) (fun _ hk => hk); (try simp only [show ((Kd.slice 3 (Kd.int .i64))).sz = 1 from rfl, Nat.mul_one, Nat.add_zero] at HP18); clear hcc18 hfr18) | ((with_reducible refine gate_store (t := 27) (p := 33) rfl ?_); refine store_event (t := 27) (p := 33) (v := ?vo_w19) (w1 := (w17.setCell ⟨go16, ((rd l0 x11_1) : Int).toNat, none⟩ (.slice Ao20 y622.length co20))) ?hg ?ho ?hn ?hr ?_; (case ho => rfl); (case hg => rfl); (case hn => rfl); (case hr => first | (go_simp; done) | (go_simp; rfl)); intro w19 hw; have hg : w17.grownBy w19 (some go16) := (by rw [hw]; exact HP18.2); have hp_ : Kd.S (Kd.slice 3 (Kd.int .i64)) 27 w19 w.heap.size (fun _ => True) (.slice (some ⟨go16, 0, none⟩) x3_1.length co15) y625 := (by rw [hw, Ny625.out]; exact HP18.1); clear HP18; have n0_ := Aside0.mk ((by rw [hw]; exact below_set HB.out GB16.out : Below w.heap.size w w19)); have n1_ := Aside0.mk (hp_); clear HB; clear HO624; clear HH16; have HB := n0_; have HO_3 := n1_; clear n0_ n1_; clear hg hw hp_ hraw18))
                          go_roundg k1
                          case measure => have := HK1.out; omega
                          case rel => exact ⟨(y625), (wrap64 (x11_1 + 1)), (by first | rfl | (simp; done) | (simp [*]; done)), H', ⟨by have := HK1.out; omega⟩, ⟨by (with_reducible repeat (first | apply Kd.S_alloc | apply Kd.S_drewN | apply Kd.S_drew)); exact HO_3.out⟩, ⟨by repeat (first | (with_reducible first | exact HB.out | apply below_alloc | apply pw_below_drewN | apply below_drew1) | exact HB.out)⟩⟩
                        · rw [if_neg c13] at H
                          exact absurd H (by simp)
                      · rw [if_neg c12] at H
                        exact absurd H (by simp)
                    · rw [if_neg c11] at H
                      exact absurd H (by simp)
                  · rw [if_neg c10] at H
                    have c10b0 : decide ((rd l0 x11_1) < (l0.length : Int)) = false := decide_eq_false c10
                    clear c10
                    have H' := Aside0.mk H
                    clear H
                    have p620 : 0 ≤ (x11_1 : Int) := of_decide_eq_true (by first | (with_reducible assumption) | assumption)
                    have q620 : x11_1 < (l0.length : Int) := of_decide_eq_true (by first | (with_reducible assumption) | assumption)
                    obtain ⟨ad620, e620, hx620_0⟩ := Kd.at_int HR0.out x11_1 p620 q620
                    cases e620
                    replace hx620_0 := (HB.out.cell (World.block_lt_of_cell? w _ hx620_0)).trans hx620_0
                    replace p620 := eq_true p620
                    replace q620 := eq_true q620
                    go_wp2
                    go_roundg k1
                    case measure => have := HK1.out; omega
                    case rel => exact ⟨(x3_1), (wrap64 (x11_1 + 1)), (by first | rfl | (simp; done) | (simp [*]; done)), H', ⟨by have := HK1.out; omega⟩, ⟨by (with_reducible repeat (first | apply Kd.S_alloc | apply Kd.S_drewN | apply Kd.S_drew)); exact HO_3.out⟩, ⟨by repeat (first | (with_reducible first | exact HB.out | apply below_alloc | apply pw_below_drewN | apply below_drew1) | exact HB.out)⟩⟩
                · rw [if_neg c9] at H
                  have c9b0 : decide (0 ≤ (rd l0 x11_1)) = false := decide_eq_false c9
                  clear c9
                  have H' := Aside0.mk H
                  clear H
                  have p620 : 0 ≤ (x11_1 : Int) := of_decide_eq_true (by first | (with_reducible assumption) | assumption)
                  have q620 : x11_1 < (l0.length : Int) := of_decide_eq_true (by first | (with_reducible assumption) | assumption)
                  obtain ⟨ad620, e620, hx620_0⟩ := Kd.at_int HR0.out x11_1 p620 q620
                  cases e620
                  replace hx620_0 := (HB.out.cell (World.block_lt_of_cell? w _ hx620_0)).trans hx620_0
                  replace p620 := eq_true p620
                  replace q620 := eq_true q620
                  go_wp2
                  go_roundg k1
                  case measure => have := HK1.out; omega
                  case rel => exact ⟨(x3_1), (wrap64 (x11_1 + 1)), (by first | rfl | (simp; done) | (simp [*]; done)), H', ⟨by have := HK1.out; omega⟩, ⟨by (with_reducible repeat (first | apply Kd.S_alloc | apply Kd.S_drewN | apply Kd.S_drew)); exact HO_3.out⟩, ⟨by repeat (first | (with_reducible first | exact HB.out | apply below_alloc | apply pw_below_drewN | apply below_drew1) | exact HB.out)⟩⟩
              · rw [if_neg c8] at H
                exact absurd H (by simp)
            · rw [if_neg c7] at H
              exact absurd H (by simp)
          · rw [if_neg c6] at H
            have c6b0 : decide (x11_1 < (l0.length : Int)) = false := decide_eq_false c6
            clear c6
            obtain rfl := Option.some.inj H
            go_wp2
            go_ret
            exact ⟨_, by first | rfl | (simp [errW_none, errW_some] <;> rfl) | (simp [*, errW_none, errW_some] <;> rfl), by (with_reducible repeat (first | apply Kd.S_alloc | apply Kd.S_drewN | apply Kd.S_drew)); exact HO_3.out, by repeat (first | (with_reducible first | exact HB.out | apply below_alloc | apply pw_below_drewN | apply below_drew1) | exact HB.out)⟩
    · rw [if_neg c3] at H
      exact absurd H (by simp)
  · rw [if_neg c2] at H
    exact absurd H (by simp)

end Go.Proofs.Ytkmbhknmjnbanaa.A


namespace Go.Proofs.Ytkmbhknmjnbanaa.A
open Go.RowKit Go.Maps Go.Proofs.YtkmbhknmjnbanaaW.PrintWords Go.Proofs.YtkmbhknmjnbanaaW.PrintLast Go.Shelf
set_option linter.unusedVariables false
set_option linter.unusedSimpArgs false

/-- how deep each block lies -/
def depths (D : List Int) (m : Nat) : List Int := (List.range m).map fun i : Nat => depI D (i : Int)
theorem depths_succ (D : List Int) (m : Nat) : depths D (m + 1) = depths D m ++ [depI D (m : Int)] := by simp [depths, List.range_succ]
set_option maxRecDepth 100000 in
set_option maxHeartbeats 2000000 in
theorem depths_calls (A : Option Addr) (c : Nat) (D : List Int) (w : World) (h : Kd.C (Kd.int .i64) w A D.length D) (hc : D.length ≤ c) (hDl : D.length ≤ 100000) :
    Calls Try.prog 42 #[.slice A D.length c] w fun e w' => ∃ v, e = .returned v ∧ Kd.R (Kd.int .i64) 3 w' w.heap.size (fun _ => True) v (depths D D.length) ∧ Below w.heap.size w w' := by
  go_enter Try.func42, Try.ntmps42
  go_wp2_with fail
  go_loopw [3, 7] (fun s3 s7 wr => ∃ m : Nat, m ≤ D.length ∧ s7 = .int .i64 m ∧ Kd.R (Kd.int .i64) 3 wr w.heap.size (fun _ => True) s3 (depths D m) ∧ Aside0 (Below w.heap.size w wr))
    (fun s3 s7 _ => D.length - (RowKit.intOf s7).toNat)
  case atStart => exact ⟨0, Nat.zero_le _, rfl, Kd.R_nil _ _ _ _ _, ⟨Below.refl _ _⟩⟩
  case round =>
    obtain ⟨m, hm, rfl, hR, hB⟩ := hrel
    obtain ⟨A3, c3, rfl⟩ := Kd.R_slice hR
    have hR' := Aside0.mk hR
    clear hR
    by_cases hlt : m < D.length
    · have hmn : (m : Int) < (D.length : Int) := by omega
      have hdc := depth_calls A c D (m : Int) wr (Kd.C_below h hB.out) hc (by omega)
      have hdl : (depths D m).length ≤ 100000 := by simp [depths]; omega
      go_wp2_with fail
      refine hdc.mono ?_
      rintro e w2 ⟨rfl, hb2⟩
      have hR2 := Aside0.mk (Kd.R_below hR'.out hb2)
      have hB2 := Aside0.mk (below_step hB.out hb2)
      clear hdc hR' hB hb2
      go_wp2_with (at_builtin; refine Kd.R_append (Kd.int .i64) (w0 := w) w.heap.size rfl (.tmp 10) (.tmp 14) 27 3 (.int .i64 0) 8 rfl Try.underlying27 info3 rfl (by decide) (by omega) _ (depths D m) (depI D (m : Int)) [.int .i64 (depI D (m : Int))] (fun _ => True) (fun _ => False) rfl rfl rfl (fun _ hk => hk.elim) (fun _ _ => trivial) hR2.out hB2.out hB2.out.size (by omega) ?_; intro v7 w7 hown7 hb7 hg7 hat7)
      rw [← depths_succ] at hown7
      obtain ⟨A7, c7, rfl⟩ := Kd.R_slice hown7
      have hown7' := Aside0.mk hown7
      have hb7' := Aside0.mk hb7
      clear hown7 hb7 hg7 hat7
      go_roundw
      case rel => exact ⟨m + 1, by omega, by go_num, hown7'.out, hb7'⟩
      case measure => simp [RowKit.intOf]; omega
    · obtain rfl : m = D.length := by omega
      go_wp2_with fail
      go_ret
      exact ⟨_, rfl, hR'.out, hB.out⟩
end Go.Proofs.Ytkmbhknmjnbanaa.A


namespace Go.Proofs.Ytkmbhknmjnbanaa.A
open Go.RowKit Go.Maps Go.Proofs.YtkmbhknmjnbanaaW.PrintWords Go.Proofs.YtkmbhknmjnbanaaW.PrintLast Go.Shelf
set_option linter.unusedVariables false
set_option linter.unusedSimpArgs false

def d4 : List Int := [-1, 0, 0, 0]
theorem u_right : rightB g4 = true := by kernel_rfl
theorem u_idom : idomO g4 10 = some d4 := by kernel_rfl
theorem u_front : frRows d4 (predsOf g4) 4 = [[0], [3], [3], [0]] := by kernel_rfl
theorem u_dom03 : domB d4 0 3 = true := by kernel_rfl
theorem u_dom13 : domB d4 1 3 = false := by kernel_rfl
theorem u_kids : dom_Kids.f 9 d4 = some [[1, 2, 3], [], [], []] := by kernel_rfl
theorem u_deep : depths d4 4 = [0, 1, 1, 1] := by kernel_rfl
theorem u_iter : iterO [[0], [3], [3], [0]] 10 [1] [] = some [3, 0] := by kernel_rfl
theorem u_ints1 : swageref02_Ints.f 9 d4 d4 = some true := by kernel_rfl
theorem u_ints2 : swageref02_Ints.f 9 [0, 1, 1, 1] [0, 1, 1, 1] = some true := by kernel_rfl
theorem u_ints3 : swageref02_Ints.f 9 [0, 3] [0, 3] = some true := by kernel_rfl
theorem u_rows1 : swageref06_Rows.f 40 [[0], [3], [3], [0]] [[0], [3], [3], [0]] = some true := by kernel_rfl
theorem u_rows2 : swageref06_Rows.f 40 [[1, 2, 3], [], [], []] [[1, 2, 3], [], [], []] = some true := by kernel_rfl
theorem lit_rows1n (W : World) (a : List Int) (ha : a.length ≤ 1000) : Kd.C (Kd.slice 3 (Kd.int .i64)) ((W.alloc (cellsI a)).alloc (.cells #[.slice (some ⟨W.heap.size, 0, none⟩) a.length a.length, .slice none 0 0, .slice none 0 0, .slice none 0 0] 27)) (some ⟨W.heap.size + 1, 0, none⟩) 4 [a, [], [], []] := by
  have h1 := lit_row W a ha
  have h2 := R_new_lit (Kd.slice 3 (Kd.int .i64)) (W.alloc (cellsI a)) W.heap.size 27 (xs := [a, [], [], []]) (inner := [.slice (some ⟨W.heap.size, 0, none⟩) a.length a.length, .slice none 0 0, .slice none 0 0, .slice none 0 0]) (ok := fun _ => True) (okp := fun _ => True) (reps_rows (.cons h1 (.cons (Kd.R_nil _ _ _ _ _) (.cons (Kd.R_nil _ _ _ _ _) (.cons (Kd.R_nil _ _ _ _ _) .nil))))) (fun _ h => h) trivial (by simp) (by simp)
  rw [World.size_alloc] at h2
  exact (Kd.R_reads' h2).2.2

set_option maxRecDepth 100000 in
set_option maxHeartbeats 2000000 in
theorem small7_calls (w : World) : Calls Try.prog 34 #[] w fun e w' => e = .returned (.bool true) ∧ Below w.heap.size w w' := by
  go_enter Try.func34, Try.ntmps34
  go_wp2_with fail
  have hC0 : Kd.C (Kd.slice 3 (Kd.int .i64)) (((((w.alloc (.cells #[.int .i64 1, .int .i64 2] 3)).alloc (.cells #[.int .i64 3] 3)).alloc (.cells #[.int .i64 3] 3)).alloc (.cells #[.int .i64 0] 3)).alloc (.cells #[.slice (some ⟨w.heap.size, 0, none⟩) 2 2, .slice (some ⟨w.heap.size + 1, 0, none⟩) 1 1, .slice (some ⟨w.heap.size + 1 + 1, 0, none⟩) 1 1, .slice (some ⟨w.heap.size + 1 + 1 + 1, 0, none⟩) 1 1] 27)) (some ⟨w.heap.size + 1 + 1 + 1 + 1, 0, none⟩) 4 g4 := lit_rows4 w [1, 2] [3] [3] [0] (by decide) (by decide) (by decide) (by decide)
  have hB0 : Below w.heap.size w (((((w.alloc (.cells #[.int .i64 1, .int .i64 2] 3)).alloc (.cells #[.int .i64 3] 3)).alloc (.cells #[.int .i64 3] 3)).alloc (.cells #[.int .i64 0] 3)).alloc (.cells #[.slice (some ⟨w.heap.size, 0, none⟩) 2 2, .slice (some ⟨w.heap.size + 1, 0, none⟩) 1 1, .slice (some ⟨w.heap.size + 1 + 1, 0, none⟩) 1 1, .slice (some ⟨w.heap.size + 1 + 1 + 1, 0, none⟩) 1 1] 27)) := below_alloc (below_alloc (below_alloc (below_alloc (below_alloc (Below.refl _ _) _) _) _) _) _
  generalize (((((w.alloc (.cells #[.int .i64 1, .int .i64 2] 3)).alloc (.cells #[.int .i64 3] 3)).alloc (.cells #[.int .i64 3] 3)).alloc (.cells #[.int .i64 0] 3)).alloc (.cells #[.slice (some ⟨w.heap.size, 0, none⟩) 2 2, .slice (some ⟨w.heap.size + 1, 0, none⟩) 1 1, .slice (some ⟨w.heap.size + 1 + 1, 0, none⟩) 1 1, .slice (some ⟨w.heap.size + 1 + 1 + 1, 0, none⟩) 1 1] 27)) = W0 at hC0 hB0 ⊢
  generalize w.heap.size + 1 + 1 + 1 + 1 = b0 at hC0 ⊢
  -- Idom
  have hid : Calls Try.prog 36 #[.slice (some ⟨b0, 0, none⟩) 4 4] W0 fun e w' => ∃ A c, e = .returned (.slice A 4 c) ∧ 4 ≤ c ∧ Kd.C (Kd.int .i64) w' A 4 d4 ∧ Below W0.heap.size W0 w' :=
    (idom_calls 10 (some ⟨b0, 0, none⟩) 4 g4 d4 W0 hC0 (by decide) u_idom).mono fun e w' ⟨v, he, hR, hB⟩ => by
      obtain ⟨A, c, rfl, h1, h2⟩ := Kd.R_reads hR
      exact ⟨A, c, he, h1, h2, hB⟩
  refine hid.mono ?_
  rintro e w1 ⟨AI, cI, rfl, hcI, hI, hb1⟩
  have hC := Aside0.mk (Kd.C_below hC0 hb1)
  have hB := Aside0.mk (below_step hB0 hb1)
  have hcI' := Aside0.mk hcI
  have hI' := Aside0.mk hI
  clear hid hC0 hB0 hb1 hcI hI
  have hq : Calls Try.prog 27 #[.slice AI 4 cI, .slice (some ⟨w1.heap.size, 0, none⟩) 4 4] (w1.alloc (.cells #[.int .i64 (-1), .int .i64 0, .int .i64 0, .int .i64 0] 3)) fun e w' => e = .returned (.bool true) ∧ Drawn0 (w1.alloc (.cells #[.int .i64 (-1), .int .i64 0, .int .i64 0, .int .i64 0] 3)) w' := swageref02_Ints.calls 9 AI cI [-1, 0, 0, 0] (some ⟨w1.heap.size, 0, none⟩) 4 [-1, 0, 0, 0] true _ (Kd.C_alloc hI'.out (cellsI [-1, 0, 0, 0])) hcI'.out (Kd.R_reads' (lit_row w1 [-1, 0, 0, 0] (by decide))).2.2 (by decide) u_ints1
  have hCn := Aside0.mk (Kd.C_alloc hC.out (cellsI [-1, 0, 0, 0]))
  have hIn := Aside0.mk (Kd.C_alloc hI'.out (cellsI [-1, 0, 0, 0]))
  have hBn := Aside0.mk (below_alloc hB.out (cellsI [-1, 0, 0, 0]))
  clear hC hI' hB
  go_wp2_with fail
  refine hq.mono ?_
  rintro e w2 ⟨rfl, hd⟩
  have hC := Aside0.mk (Kd.C_below hCn.out hd.below)
  have hI' := Aside0.mk (Kd.C_below hIn.out hd.below)
  have hB := Aside0.mk (below_step hBn.out hd.below)
  clear hq hd hCn hIn hBn
  have hf : Calls Try.prog 44 #[.slice (some ⟨b0, 0, none⟩) 4 4] w2 fun e w' => ∃ A c, e = .returned (.slice A 4 c) ∧ 4 ≤ c ∧ Kd.C (Kd.slice 3 (Kd.int .i64)) w' A 4 [[0], [3], [3], [0]] ∧ Below w2.heap.size w2 w' := 
    (frontier_calls 10 (some ⟨b0, 0, none⟩) 4 g4 d4 w2 hC.out (by decide) (by decide) u_idom u_right).mono fun e w' ⟨v, he, hR, hB⟩ => by
      rw [show g4.length = 4 from rfl, u_front] at hR
      obtain ⟨A, c, rfl, h1, h2⟩ := Kd.S_reads hR
      exact ⟨A, c, he, h1, h2, hB⟩
  go_wp2_with fail
  refine hf.mono ?_
  rintro e w3 ⟨AX, cX, rfl, hcX, hX, hb⟩
  have hCm := Aside0.mk (Kd.C_below hC.out hb)
  have hIm := Aside0.mk (Kd.C_below hI'.out hb)
  have hBm := Aside0.mk (below_step hB.out hb)
  have hX' := Aside0.mk hX
  clear hf hb hC hI' hB hX
  have hC := hCm
  have hI' := hIm
  have hB := hBm
  clear hCm hIm hBm
  have hq : Calls Try.prog 17 #[.slice AX 4 cX, .slice (some ⟨w3.heap.size + 1 + 1 + 1 + 1, 0, none⟩) 4 4] (((((w3.alloc (.cells #[.int .i64 0] 3)).alloc (.cells #[.int .i64 3] 3)).alloc (.cells #[.int .i64 3] 3)).alloc (.cells #[.int .i64 0] 3)).alloc (.cells #[.slice (some ⟨w3.heap.size, 0, none⟩) 1 1, .slice (some ⟨w3.heap.size + 1, 0, none⟩) 1 1, .slice (some ⟨w3.heap.size + 1 + 1, 0, none⟩) 1 1, .slice (some ⟨w3.heap.size + 1 + 1 + 1, 0, none⟩) 1 1] 27)) fun e w' => e = .returned (.bool true) ∧ Drawn0 (((((w3.alloc (.cells #[.int .i64 0] 3)).alloc (.cells #[.int .i64 3] 3)).alloc (.cells #[.int .i64 3] 3)).alloc (.cells #[.int .i64 0] 3)).alloc (.cells #[.slice (some ⟨w3.heap.size, 0, none⟩) 1 1, .slice (some ⟨w3.heap.size + 1, 0, none⟩) 1 1, .slice (some ⟨w3.heap.size + 1 + 1, 0, none⟩) 1 1, .slice (some ⟨w3.heap.size + 1 + 1 + 1, 0, none⟩) 1 1] 27)) w' :=
    swageref06_Rows.calls 40 AX cX [[0], [3], [3], [0]] (some ⟨w3.heap.size + 1 + 1 + 1 + 1, 0, none⟩) 4 [[0], [3], [3], [0]] true _ (Kd.C_alloc (Kd.C_alloc (Kd.C_alloc (Kd.C_alloc (Kd.C_alloc hX'.out _) _) _) _) _) hcX (lit_rows4 w3 [0] [3] [3] [0] (by decide) (by decide) (by decide) (by decide)) (by decide) u_rows1
  have hCn : Aside0 (Kd.C (Kd.slice 3 (Kd.int .i64)) (((((w3.alloc (.cells #[.int .i64 0] 3)).alloc (.cells #[.int .i64 3] 3)).alloc (.cells #[.int .i64 3] 3)).alloc (.cells #[.int .i64 0] 3)).alloc (.cells #[.slice (some ⟨w3.heap.size, 0, none⟩) 1 1, .slice (some ⟨w3.heap.size + 1, 0, none⟩) 1 1, .slice (some ⟨w3.heap.size + 1 + 1, 0, none⟩) 1 1, .slice (some ⟨w3.heap.size + 1 + 1 + 1, 0, none⟩) 1 1] 27)) (some ⟨b0, 0, none⟩) 4 g4) := ⟨Kd.C_alloc (Kd.C_alloc (Kd.C_alloc (Kd.C_alloc (Kd.C_alloc hC.out _) _) _) _) _⟩
  have hIn : Aside0 (Kd.C (Kd.int .i64) (((((w3.alloc (.cells #[.int .i64 0] 3)).alloc (.cells #[.int .i64 3] 3)).alloc (.cells #[.int .i64 3] 3)).alloc (.cells #[.int .i64 0] 3)).alloc (.cells #[.slice (some ⟨w3.heap.size, 0, none⟩) 1 1, .slice (some ⟨w3.heap.size + 1, 0, none⟩) 1 1, .slice (some ⟨w3.heap.size + 1 + 1, 0, none⟩) 1 1, .slice (some ⟨w3.heap.size + 1 + 1 + 1, 0, none⟩) 1 1] 27)) AI 4 d4) := ⟨Kd.C_alloc (Kd.C_alloc (Kd.C_alloc (Kd.C_alloc (Kd.C_alloc hI'.out _) _) _) _) _⟩
  have hBn : Aside0 (Below w.heap.size w (((((w3.alloc (.cells #[.int .i64 0] 3)).alloc (.cells #[.int .i64 3] 3)).alloc (.cells #[.int .i64 3] 3)).alloc (.cells #[.int .i64 0] 3)).alloc (.cells #[.slice (some ⟨w3.heap.size, 0, none⟩) 1 1, .slice (some ⟨w3.heap.size + 1, 0, none⟩) 1 1, .slice (some ⟨w3.heap.size + 1 + 1, 0, none⟩) 1 1, .slice (some ⟨w3.heap.size + 1 + 1 + 1, 0, none⟩) 1 1] 27))) := ⟨below_alloc (below_alloc (below_alloc (below_alloc (below_alloc hB.out _) _) _) _) _⟩
  clear hC hI' hB hX' hcX
  go_wp2_with fail
  refine hq.mono ?_
  rintro e w4 ⟨rfl, hd⟩
  have hC := Aside0.mk (Kd.C_below hCn.out hd.below)
  have hI' := Aside0.mk (Kd.C_below hIn.out hd.below)
  have hB := Aside0.mk (below_step hBn.out hd.below)
  clear hq hd hCn hIn hBn
  have hq : Calls Try.prog 37 #[.slice AI 4 cI, .int .i64 0, .int .i64 3] w4 fun e w' => e = .returned (.bool true) ∧ Below w4.heap.size w4 w' := by
    have h := dominates_calls AI cI d4 0 3 w4 hI'.out hcI'.out (by decide)
    rw [u_dom03] at h
    exact h
  have hCn := hC
  have hIn := hI'
  have hBn := hB
  clear hC hI' hB
  go_wp2_with fail
  refine hq.mono ?_
  rintro e w5 ⟨rfl, hd⟩
  have hC := Aside0.mk (Kd.C_below hCn.out hd)
  have hI' := Aside0.mk (Kd.C_below hIn.out hd)
  have hB := Aside0.mk (below_step hBn.out hd)
  clear hq hd hCn hIn hBn
  have hq : Calls Try.prog 37 #[.slice AI 4 cI, .int .i64 1, .int .i64 3] w5 fun e w' => e = .returned (.bool false) ∧ Below w5.heap.size w5 w' := by
    have h := dominates_calls AI cI d4 1 3 w5 hI'.out hcI'.out (by decide)
    rw [u_dom13] at h
    exact h
  have hCn := hC
  have hIn := hI'
  have hBn := hB
  clear hC hI' hB
  go_wp2_with fail
  refine hq.mono ?_
  rintro e w6 ⟨rfl, hd⟩
  have hC := Aside0.mk (Kd.C_below hCn.out hd)
  have hI' := Aside0.mk (Kd.C_below hIn.out hd)
  have hB := Aside0.mk (below_step hBn.out hd)
  clear hq hd hCn hIn hBn
  have hf : Calls Try.prog 40 #[.slice AI 4 cI] w6 fun e w' => ∃ A c, e = .returned (.slice A 4 c) ∧ 4 ≤ c ∧ Kd.C (Kd.slice 3 (Kd.int .i64)) w' A 4 [[1, 2, 3], [], [], []] ∧ Below w6.heap.size w6 w' := 
    (dom_Kids.calls 9 AI cI d4 [[1, 2, 3], [], [], []] w6 hI'.out hcI'.out u_kids).mono fun e w' ⟨v, he, hR, hB⟩ => by
      obtain ⟨A, c, rfl, h1, h2⟩ := Kd.S_reads hR
      exact ⟨A, c, he, h1, h2, hB⟩
  go_wp2_with fail
  refine hf.mono ?_
  rintro e w7 ⟨AX, cX, rfl, hcX, hX, hb⟩
  have hCm := Aside0.mk (Kd.C_below hC.out hb)
  have hIm := Aside0.mk (Kd.C_below hI'.out hb)
  have hBm := Aside0.mk (below_step hB.out hb)
  have hX' := Aside0.mk hX
  clear hf hb hC hI' hB hX
  have hC := hCm
  have hI' := hIm
  have hB := hBm
  clear hCm hIm hBm
  have hq : Calls Try.prog 17 #[.slice AX 4 cX, .slice (some ⟨w7.heap.size + 1, 0, none⟩) 4 4] ((w7.alloc (.cells #[.int .i64 1, .int .i64 2, .int .i64 3] 3)).alloc (.cells #[.slice (some ⟨w7.heap.size, 0, none⟩) 3 3, .slice none 0 0, .slice none 0 0, .slice none 0 0] 27)) fun e w' => e = .returned (.bool true) ∧ Drawn0 ((w7.alloc (.cells #[.int .i64 1, .int .i64 2, .int .i64 3] 3)).alloc (.cells #[.slice (some ⟨w7.heap.size, 0, none⟩) 3 3, .slice none 0 0, .slice none 0 0, .slice none 0 0] 27)) w' :=
    swageref06_Rows.calls 40 AX cX [[1, 2, 3], [], [], []] (some ⟨w7.heap.size + 1, 0, none⟩) 4 [[1, 2, 3], [], [], []] true _ (Kd.C_alloc (Kd.C_alloc hX'.out _) _) hcX (lit_rows1n w7 [1, 2, 3] (by decide)) (by decide) u_rows2
  have hCn : Aside0 (Kd.C (Kd.slice 3 (Kd.int .i64)) ((w7.alloc (.cells #[.int .i64 1, .int .i64 2, .int .i64 3] 3)).alloc (.cells #[.slice (some ⟨w7.heap.size, 0, none⟩) 3 3, .slice none 0 0, .slice none 0 0, .slice none 0 0] 27)) (some ⟨b0, 0, none⟩) 4 g4) := ⟨Kd.C_alloc (Kd.C_alloc hC.out _) _⟩
  have hIn : Aside0 (Kd.C (Kd.int .i64) ((w7.alloc (.cells #[.int .i64 1, .int .i64 2, .int .i64 3] 3)).alloc (.cells #[.slice (some ⟨w7.heap.size, 0, none⟩) 3 3, .slice none 0 0, .slice none 0 0, .slice none 0 0] 27)) AI 4 d4) := ⟨Kd.C_alloc (Kd.C_alloc hI'.out _) _⟩
  have hBn : Aside0 (Below w.heap.size w ((w7.alloc (.cells #[.int .i64 1, .int .i64 2, .int .i64 3] 3)).alloc (.cells #[.slice (some ⟨w7.heap.size, 0, none⟩) 3 3, .slice none 0 0, .slice none 0 0, .slice none 0 0] 27))) := ⟨below_alloc (below_alloc hB.out _) _⟩
  clear hC hI' hB hX' hcX
  go_wp2_with fail
  refine hq.mono ?_
  rintro e w8 ⟨rfl, hd⟩
  have hC := Aside0.mk (Kd.C_below hCn.out hd.below)
  have hI' := Aside0.mk (Kd.C_below hIn.out hd.below)
  have hB := Aside0.mk (below_step hBn.out hd.below)
  clear hq hd hCn hIn hBn
  have hf : Calls Try.prog 42 #[.slice AI 4 cI] w8 fun e w' => ∃ A c, e = .returned (.slice A 4 c) ∧ 4 ≤ c ∧ Kd.C (Kd.int .i64) w' A 4 [0, 1, 1, 1] ∧ Below w8.heap.size w8 w' := 
    (depths_calls AI cI d4 w8 hI'.out hcI'.out (by decide)).mono fun e w' ⟨v, he, hR, hB⟩ => by
      rw [show d4.length = 4 from rfl, u_deep] at hR
      obtain ⟨A, c, rfl, h1, h2⟩ := Kd.R_reads hR
      exact ⟨A, c, he, h1, h2, hB⟩
  go_wp2_with fail
  refine hf.mono ?_
  rintro e w9 ⟨AX, cX, rfl, hcX, hX, hb⟩
  have hCm := Aside0.mk (Kd.C_below hC.out hb)
  have hIm := Aside0.mk (Kd.C_below hI'.out hb)
  have hBm := Aside0.mk (below_step hB.out hb)
  have hX' := Aside0.mk hX
  clear hf hb hC hI' hB hX
  have hC := hCm
  have hI' := hIm
  have hB := hBm
  clear hCm hIm hBm
  have hq : Calls Try.prog 27 #[.slice AX 4 cX, .slice (some ⟨w9.heap.size, 0, none⟩) 4 4] (w9.alloc (.cells #[.int .i64 0, .int .i64 1, .int .i64 1, .int .i64 1] 3)) fun e w' => e = .returned (.bool true) ∧ Drawn0 (w9.alloc (.cells #[.int .i64 0, .int .i64 1, .int .i64 1, .int .i64 1] 3)) w' := swageref02_Ints.calls 9 AX cX [0, 1, 1, 1] (some ⟨w9.heap.size, 0, none⟩) 4 [0, 1, 1, 1] true _ (Kd.C_alloc hX'.out (cellsI [0, 1, 1, 1])) hcX (Kd.R_reads' (lit_row w9 [0, 1, 1, 1] (by decide))).2.2 (by decide) u_ints2
  have hCn := Aside0.mk (Kd.C_alloc hC.out (cellsI [0, 1, 1, 1]))
  have hIn := Aside0.mk (Kd.C_alloc hI'.out (cellsI [0, 1, 1, 1]))
  have hBn := Aside0.mk (below_alloc hB.out (cellsI [0, 1, 1, 1]))
  clear hC hI' hB
  clear hX' hcX
  go_wp2_with fail
  refine hq.mono ?_
  rintro e w10 ⟨rfl, hd⟩
  have hC := Aside0.mk (Kd.C_below hCn.out hd.below)
  have hI' := Aside0.mk (Kd.C_below hIn.out hd.below)
  have hB := Aside0.mk (below_step hBn.out hd.below)
  clear hq hd hCn hIn hBn
  have hf : Calls Try.prog 60 #[.slice (some ⟨b0, 0, none⟩) 4 4, .slice (some ⟨w10.heap.size, 0, none⟩) 1 1] (w10.alloc (.cells #[.int .i64 1] 3)) fun e w' => ∃ A c, e = .returned (.slice A 2 c) ∧ 2 ≤ c ∧ Kd.C (Kd.int .i64) w' A 2 [0, 3] ∧ Below (w10.alloc (.cells #[.int .i64 1] 3)).heap.size (w10.alloc (.cells #[.int .i64 1] 3)) w' :=
    (iter_calls 10 10 (some ⟨b0, 0, none⟩) 4 g4 d4 (some ⟨w10.heap.size, 0, none⟩) 1 [1] [3, 0] (w10.alloc (.cells #[.int .i64 1] 3)) (Kd.C_alloc hC.out _) (by decide) (by decide) u_idom u_right (Kd.R_reads' (lit_row w10 [1] (by decide))).2.2 (by decide) (by decide) (by decide) (by rw [show g4.length = 4 from rfl, u_front]; exact u_iter)).mono fun e w' ⟨v, ks, he, hr, hm, hR, hB⟩ => by
      have hks : ks = [0, 3] := rising_eq hr (by unfold Rising; decide) (fun x => by rw [hm]; simp [or_comm])
      subst hks
      obtain ⟨A, c, rfl, h1, h2⟩ := Kd.R_reads hR
      exact ⟨A, c, he, h1, h2, hB⟩
  have hBn := Aside0.mk (below_alloc hB.out (.cells #[.int .i64 1] 3))
  clear hC hI' hB
  go_wp2_with fail
  refine hf.mono ?_
  rintro e w11 ⟨AX, cX, rfl, hcX, hX, hb⟩
  have hB := Aside0.mk (below_step hBn.out hb)
  have hX' := Aside0.mk hX
  clear hf hBn hb hX
  have hq : Calls Try.prog 27 #[.slice AX 2 cX, .slice (some ⟨w11.heap.size, 0, none⟩) 2 2] (w11.alloc (.cells #[.int .i64 0, .int .i64 3] 3)) fun e w' => e = .returned (.bool true) ∧ Drawn0 (w11.alloc (.cells #[.int .i64 0, .int .i64 3] 3)) w' := swageref02_Ints.calls 9 AX cX [0, 3] (some ⟨w11.heap.size, 0, none⟩) 2 [0, 3] true _ (Kd.C_alloc hX'.out (cellsI [0, 3])) hcX (Kd.R_reads' (lit_row w11 [0, 3] (by decide))).2.2 (by decide) u_ints3
  have hBn := Aside0.mk (below_alloc hB.out (cellsI [0, 3]))
  clear hB hX' hcX
  go_wp2_with fail
  refine hq.mono ?_
  rintro e wz ⟨rfl, hd⟩
  have hB := Aside0.mk (below_step hBn.out hd.below)
  clear hq hd hBn
  go_wp2_with fail
  go_ret
  exact ⟨rfl, hB.out⟩
end Go.Proofs.Ytkmbhknmjnbanaa.A


namespace Go.Proofs.Ytkmbhknmjnbanaa.A
open Go.RowKit Go.Proofs.YtkmbhknmjnbanaaW.PrintWords Go.Proofs.YtkmbhknmjnbanaaW.PrintLast Go.Shelf
set_option linter.unusedVariables false
set_option linter.unusedSimpArgs false

theorem runO_mono (g : List (List Int)) : ∀ (k : Nat) (D R : List Int), runO g k D = some R → runO g (k + 1) D = some R
  | 0, _, _, h => by cases h
  | k + 1, D, R, h => by
    unfold runO at h ⊢
    by_cases e : (passA g D).2 = true
    · rw [if_pos e] at h ⊢
      exact runO_mono g k _ R h
    · rw [if_neg e] at h ⊢
      exact h
theorem idomO_mono (g : List (List Int)) (k : Nat) (D : List Int) (h : idomO g k = some D) : idomO g (k + 1) = some D := by
  unfold idomO at h ⊢
  by_cases e : rightB g = true
  · rw [if_pos e] at h ⊢
    obtain ⟨R, hR, rfl⟩ := Option.map_eq_some_iff.1 h
    rw [runO_mono g k _ R hR]; rfl
  · rw [if_neg e] at h ⊢
    exact h
def dom_Idom.f (k : Nat) (l0 : List (List Int)) : Option (List Int) := idomO l0 k
theorem dom_Idom.mono : ∀ a0 k, LeO (dom_Idom.f k a0) (dom_Idom.f (k + 1) a0) := fun a0 k r h => idomO_mono a0 k r h
theorem dom_Idom.calls (k : Nat) (A0 : Option Addr) (c0 : Nat) (l0 : List (List Int)) (r : List Int) (w : World) (hr0 : Kd.C (Kd.slice 3 (Kd.int .i64)) w A0 l0.length l0) (hc0 : l0.length ≤ c0) (h : dom_Idom.f k l0 = some r) :
    Calls Try.prog 36 #[.slice A0 l0.length c0] w fun e w' => ∃ v0_ : Value, e = .returned (v0_) ∧ Kd.R (Kd.int .i64) 3 w' w.heap.size (fun _ => True) v0_ r ∧ Below w.heap.size w w' := idom_calls k A0 c0 l0 r w hr0 hc0 h
def dom_Frontier.f (k : Nat) (l0 : List (List Int)) : Option (List (List Int)) := if rightB l0 = true ∧ l0.length ≤ 40 then (idomO l0 k).map fun D => frRows D (predsOf l0) l0.length else none
theorem dom_Frontier.mono : ∀ a0 k, LeO (dom_Frontier.f k a0) (dom_Frontier.f (k + 1) a0) := fun a0 k r h => by
  unfold dom_Frontier.f at h ⊢
  by_cases e : rightB a0 = true ∧ a0.length ≤ 40
  · rw [if_pos e] at h ⊢
    obtain ⟨D, hD, rfl⟩ := Option.map_eq_some_iff.1 h
    rw [idomO_mono a0 k D hD]; rfl
  · rw [if_neg e] at h; cases h
theorem dom_Frontier.calls (k : Nat) (A0 : Option Addr) (c0 : Nat) (l0 : List (List Int)) (r : List (List Int)) (w : World) (hr0 : Kd.C (Kd.slice 3 (Kd.int .i64)) w A0 l0.length l0) (hc0 : l0.length ≤ c0) (h : dom_Frontier.f k l0 = some r) :
    Calls Try.prog 44 #[.slice A0 l0.length c0] w fun e w' => ∃ v0_ : Value, e = .returned (v0_) ∧ Kd.S (Kd.slice 3 (Kd.int .i64)) 27 w' w.heap.size (fun _ => True) v0_ r ∧ Below w.heap.size w w' := by
  unfold dom_Frontier.f at h
  by_cases e : rightB l0 = true ∧ l0.length ≤ 40
  · rw [if_pos e] at h
    obtain ⟨D, hD, rfl⟩ := Option.map_eq_some_iff.1 h
    exact frontier_calls k A0 c0 l0 D w hr0 hc0 e.2 hD e.1
  · rw [if_neg e] at h; cases h
def dom_Dominates.f (l0 : List Int) (a1 : Int) (a2 : Int) : Option Bool := if l0.length ≤ 100000 then some (domB l0 a1 a2) else none
theorem dom_Dominates.calls (A0 : Option Addr) (c0 : Nat) (l0 : List Int) (a1 : Int) (a2 : Int) (r : Bool) (w : World) (hr0 : Kd.C (Kd.int .i64) w A0 l0.length l0) (hc0 : l0.length ≤ c0) (h : dom_Dominates.f l0 a1 a2 = some r) :
    Calls Try.prog 37 #[.slice A0 l0.length c0, .int .i64 a1, .int .i64 a2] w fun e w' => e = .returned (.bool r) ∧ Below w.heap.size w w' := by
  unfold dom_Dominates.f at h
  by_cases e : l0.length ≤ 100000
  · rw [if_pos e] at h
    obtain rfl := Option.some.inj h
    exact dominates_calls A0 c0 l0 a1 a2 w hr0 hc0 (by omega)
  · rw [if_neg e] at h; cases h
def swagelaw07_small.f : Option Bool := some true
theorem swagelaw07_small.calls (r : Bool) (w : World) (h : swagelaw07_small.f = some r) : Calls Try.prog 34 #[] w fun e w' => e = .returned (.bool r) ∧ Below w.heap.size w w' := by
  obtain rfl := Option.some.inj h
  exact small7_calls w
end Go.Proofs.Ytkmbhknmjnbanaa.A


namespace Go.Proofs.Ytkmbhknmjnbanaa.A
open Go.RowKit Go.Proofs.YtkmbhknmjnbanaaW.PrintWords Go.Proofs.YtkmbhknmjnbanaaW.PrintLast Go.Shelf
set_option linter.unusedVariables false
set_option linter.unusedSimpArgs false

theorem IsIdom.lt {g : List (List Int)} (hr : rightB g = true) {v b : Nat} (hv : Way g 0 v) (h : IsIdom g v b) : pos g b < pos g v := by
  have h1 := h.dom.le hr hv
  have h2 : pos g b ≠ pos g v := fun e => h.ne (pos_inj hr h.way hv e)
  omega
end Go.Proofs.Ytkmbhknmjnbanaa.A


namespace Go.Proofs.Ytkmbhknmjnbanaa.A
open Go.RowKit Go.Proofs.YtkmbhknmjnbanaaW.PrintWords Go.Proofs.YtkmbhknmjnbanaaW.PrintLast Go.Shelf
def chG (n : Nat) : List (List Int) := (List.range n).map fun j => if j + 1 = n then [] else [((j + 1 : Nat) : Int)]
def chD (n : Nat) : List Int := (List.range n).map fun j : Nat => (j : Int) - 1
def chH (n m : Nat) : List (List Int) := (chG n).set (n - 1) [(m : Int)]
def chF (n m : Nat) : List (List Int) := (List.range n).map fun j => if j < m then [] else [(m : Int)]
def chk1 (n : Nat) : Bool := decide (dom_Frontier.f 5 (chG n) = some (List.replicate n [])) && decide (dom_Idom.f 5 (chG n) = some (chD n))
def chk2 (n m : Nat) : Bool := decide (dom_Frontier.f 5 (chH n m) = some (chF n m)) && decide (dom_Idom.f 5 (chH n m) = some (chD n))
def chk3 (n i : Nat) : Bool := domB (chD n) 0 i && decide (domB (chD n) ((n - 1 : Nat) : Int) i = decide (i + 1 = n))
theorem all1 : ((List.range 20).all fun i => chk1 (i + 1)) = true := by kernel_rfl
theorem all2 : ((List.range 20).all fun i => (List.range (i + 1)).all fun m => chk2 (i + 1) m) = true := by kernel_rfl
theorem all3 : ((List.range 20).all fun i => (List.range (i + 1)).all fun m => chk3 (i + 1) m) = true := by kernel_rfl
end Go.Proofs.Ytkmbhknmjnbanaa.A

