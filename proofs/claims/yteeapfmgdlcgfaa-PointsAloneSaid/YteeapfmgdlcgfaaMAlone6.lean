/- Parts of the proof, in the order in which they rest on one another. -/
import Derived.Test.YteeapfmgdlcgfaaMAlone5
import Derived.Below
import Derived.Deep.Draws
import Derived.Deep.AppendLies
import Derived.Maps.AppendAt
import Derived.OwnWalk
import Derived.Laws.BytesArg
import Derived.Laws.MakeOwn
import Derived.Laws.OwnMore
import Derived.Deep.OwnRows
import Derived.Tactics
import Derived.Lib.ConvBytes
import Derived.Laws.Slices
import Derived.WalkKit
import Derived.KernelRfl
import Derived.RowKit3
import Derived.Deep.LoopGhost
import Derived.Deep.QuietTactic
import Derived.BigQuiet
import Derived.WideLaws
import Derived.Deep.DeepCutAuto
import Derived.Deep.CutBlock
import Derived.Deep.RegionHeld3
import Derived.Laws.Rows
import Derived.Lib.AppendStr
import Derived.ArgAppend
import Derived.Laws.IdiomCopy
import Derived.RowKit
import Derived.OrdersHeld
import Derived.Laws.BitsLemmas
import Derived.Laws.StructEq
import Derived.Test.YteeapfmgdlcgfaaProg
import Derived.Maps.Own
import Derived.Maps.OwnOps
import Derived.Maps.OwnSet
import Derived.Maps.Views
import Derived.WideKeyEntry
import Derived.RangeFuncWrites
import Derived.Lib.SlKeysI
import Derived.Shelf.SlIterI.Stops
import Derived.Shelf.SlIterI.Nil
import Derived.Shelf.SortM.Plain
import Derived.Shelf.SortM.SortNone
import Derived.Shelf.SlMaps.Clone
import Derived.Ground.GgzProg
import Derived.Ground.SlgmProg
import Derived.Ground.SlmcProg
import Derived.Shelf.SlGeneric
import Derived.RangeFuncLeaves
import Derived.RangeFuncCalls
import Derived.RangeFuncBox
import Derived.OwnWalkIn
import Derived.TacticsInMore
import Derived.LoopNIn
import Derived.LoopIn
import Derived.Maps.OwnIn
import Derived.Shelf.RegionOpen
import Derived.OpenShut
import Derived.Deep.Slices
import Derived.ChangeArms
import Derived.Maps.StringElems
import Derived.Sort.MapsRangeIn
import Derived.StringKeys
import Derived.Shelf.SlIter.Stops
import Derived.RangeFuncNested
import Derived.RangeFuncRecord
import Derived.Maps.RangeWalk
import Derived.OrdersIn
import Derived.TacticsIn
import Derived.LoopN
import Derived.Lib.SliceRun
import Derived.Outline
import Derived.SizedLaws
namespace Go.Proofs.Yteeapfmgdlcgfaa.A
open Go.RowKit Go.Maps Go.Proofs.YteeapfmgdlcgfaaW.PrintWords Go.Proofs.YteeapfmgdlcgfaaW.PrintLast Go.Proofs.YteeapfmgdlcgfaaW.PrintMore Go.Shelf
attribute [local go_sem] max2_int max_two
set_option linter.unusedVariables false
set_option linter.unusedSimpArgs false
attribute [local go_sem] Oper.semAt_some

theorem tmod3 (i : Nat) (h : i ≤ 1000) : ∃ r : Int, wrap64 (Int.tmod (i : Int) 3) = r ∧ Int.tmod (i : Int) 3 = r ∧ 0 ≤ r ∧ r < 3 ∧ rd [1, 6, 8] r = kindI i := by
  have e : Int.tmod (i : Int) 3 = ((i % 3 : Nat) : Int) := by rw [Int.tmod_eq_emod_of_nonneg (by omega)]; rfl
  refine ⟨((i % 3 : Nat) : Int), by rw [e]; unfold wrap64; omega, e, by omega, by omega, ?_⟩
  unfold kindI
  have h3 : i % 3 = 0 ∨ i % 3 = 1 ∨ i % 3 = 2 := by omega
  rcases h3 with h | h | h <;> rw [h] <;> rfl
/-- Of, whatever the program -/
theorem of_any {A : Option Addr} {c : Nat} {l : List S52} {w : World} (hC : Kd.C k52 w A l.length l) (hg : Guard l) :
    Calls Try.prog 26 #[.slice A l.length c] w fun e w' => ∃ A' c' rows, e = .returned (.slice A' rows.length c') ∧ rows.length ≤ c' ∧ Kd.C (Kd.slice 3 (Kd.int .i64)) w' A' rows.length rows ∧ OkN 0 rows.flatten ∧ rows.length ≤ 100 ∧ (∀ y ∈ rows, y.length ≤ 100) ∧ Below w.heap.size w w' := by
  cases hp : progB l with
  | false =>
    refine (of_no A c l w hC hg.sz hp).mono ?_
    rintro e w' ⟨rfl, hb⟩
    exact ⟨none, 0, [], rfl, Nat.le_refl _, ⟨rfl, by simp, fun h => by simp at h⟩, trivial, by simp, by simp, hb⟩
  | true =>
    refine (of_yes A c l w hC hg.sz (hg.few hp) (named_of hp (by have := hg.len; omega)) hp).mono ?_
    rintro e w' ⟨v, E, key, rfl, h⟩
    obtain ⟨A', c', rfl, h4, h5⟩ := Kd.S_reads h.out
    obtain ⟨r1, r2⟩ := rows_len (key := key) (hg.few hp)
    exact ⟨A', c', _, rfl, h4, h5, okN_rows key l, by rw [r1]; have := hg.len; omega, r2, h.bl⟩
theorem regs31 {w W : World} {b4 b50 base : Nat} {v : Value} {ops : List S60} (h : CH w b4 b50 base v ops W) (hl : ∀ x ∈ ops, Lone x) (hn : ops.length ≤ 30) :
    Calls Try.prog 31 #[.agg #[.int .i64 0, .slice (some ⟨b50, 0, none⟩) 1 1]] W fun e w' => e = .returned (.int .i64 (regsI 0 (fnOf ops).f1)) ∧ Below W.heap.size W w' := by
  obtain ⟨A, c, rfl, hc, hC⟩ := Kd.R_reads h.own
  refine regs_calls 0 (some ⟨b50, 0, none⟩) 1 [⟨ops, ⟨4, 0, 1, 0⟩⟩] W ?_ (by simp) ?_ ?_
  · refine ⟨rfl, by show 1 ≤ _; omega, fun _ => ⟨_, rfl, fun j p hj => ?_⟩⟩
    match j, hj with
    | 0, hj =>
      simp at hj
      subst hj
      refine ⟨_, rfl, k57_mk _ ⟨ops, ⟨4, 0, 1, 0⟩⟩ hc hC, fun i u hu => ?_⟩
      rw [Nat.zero_mul, Nat.zero_add, addz, cell_in h.h50]
      rw [← hu]; simp
    | j + 1, hj => simp at hj
  · intro y hy; rw [List.mem_singleton.1 hy]; show ops.length ≤ _; omega
  · intro y hy; rw [List.mem_singleton.1 hy]; intro x hx; rw [(hl x hx).rest.2.2.2]; simp
set_option maxRecDepth 100000 in
set_option maxHeartbeats 8000000 in
theorem law_alone (A1 : Option Addr) (c1 : Nat) (regs : List Int) (A2 : Option Addr) (c2 : Nat) (l : List S52) (w : World) (hC1 : Kd.C (Kd.int .i64) w A1 regs.length regs) (hc1 : regs.length ≤ c1) (hC2 : Kd.C k52 w A2 l.length l) (hc2 : l.length ≤ c2) (hLB : LenB l) :
    Calls Try.prog 7 #[.slice A1 regs.length c1, .slice A2 l.length c2] w fun e w' => e = .returned (.bool true) ∧ Below w.heap.size w w' := by
  have hmix : Try.prog.follows .mixedOrders = true := by kernel_rfl
  have hu52 := Try.underlying52
  have hu55 := Try.underlying55
  have hu57 := Try.underlying57
  have hu60 := Try.underlying60
  have hsm := smallp_calls w
  obtain ⟨b, hev, hg⟩ := few_ev hLB
  obtain ⟨K25, hK25⟩ := hev.get
  have h25 : Aside0 (∀ w1, Below w.heap.size w w1 → Calls Try.prog 25 #[.slice A2 l.length c2] w1 fun e w' => e = .returned (.bool b) ∧ Below w1.heap.size w1 w') := ⟨fun w1 hb => swagelaw20_few.calls K25 A2 c2 l b w1 (Kd.C_below hC2 hb) hc2 hK25⟩
  clear hev hK25 hLB
  cases b with
  | false =>
    clear hg hC1 hC2
    go_enter Try.func7, Try.ntmps7
    go_wp2_with fail
    refine hsm.mono ?_
    rintro e w1 ⟨rfl, hb1⟩
    have h25' := h25.out w1 hb1
    clear hsm
    go_wp2_with fail
    refine h25'.mono ?_
    rintro e w2 ⟨rfl, hb2⟩
    have hb3 := below_step hb1 hb2
    clear h25' h25 hb2 hb1
    go_wp2
    go_ret
    exact ⟨rfl, hb3⟩
  | true =>
  have hg := hg rfl
  by_cases h30 : (regs.length : Int) > 30
  · have h3b : decide ((regs.length : Int) > 30) = true := decide_eq_true h30
    have h3c : decide (30 < (regs.length : Int)) = true := decide_eq_true h30
    clear hg hC1 hC2
    go_enter Try.func7, Try.ntmps7
    go_wp2_with fail
    refine hsm.mono ?_
    rintro e w1 ⟨rfl, hb1⟩
    have h25' := h25.out w1 hb1
    clear hsm
    go_wp2_with fail
    refine h25'.mono ?_
    rintro e w2 ⟨rfl, hb2⟩
    have hb3 := below_step hb1 hb2
    clear h25' h25 hb2 hb1
    go_wp2
    go_ret
    exact ⟨rfl, hb3⟩
  have h3b : decide ((regs.length : Int) > 30) = false := decide_eq_false h30
  have h3c : decide (30 < (regs.length : Int)) = false := decide_eq_false h30
  obtain ⟨m, hm⟩ : ∃ m, regs.length = m := ⟨_, rfl⟩
  have hm30 : m ≤ 30 := by omega
  rw [hm] at h3b h3c hC1 ⊢
  have hof : Aside0 (∀ W, Below w.heap.size w W → Calls Try.prog 26 #[.slice A2 l.length c2] W fun e w' => ∃ A' c' rows, e = .returned (.slice A' rows.length c') ∧ rows.length ≤ c' ∧ Kd.C (Kd.slice 3 (Kd.int .i64)) w' A' rows.length rows ∧ OkN 0 rows.flatten ∧ rows.length ≤ 100 ∧ (∀ y ∈ rows, y.length ≤ 100) ∧ Below W.heap.size W w') := ⟨fun W hb => of_any (Kd.C_below hC2 hb) hg⟩
  have hreg : Aside0 (∀ (i : Nat), i < m → ∃ ad, A1 = some ad ∧ ∀ W, Below w.heap.size w W → W.cell? (ad.add i) = some (.int .i64 (rd regs (i : Int)))) := ⟨fun i hi => by
    obtain ⟨ad, e, _⟩ := Kd.at_int hC1 (i : Int) (by omega) (by omega)
    refine ⟨ad, e, fun W hW => ?_⟩
    obtain ⟨ad2, e2, hc⟩ := Kd.at_int (Kd.C_below hC1 hW) (i : Int) (by omega) (by omega)
    rw [e] at e2
    obtain rfl := Option.some.inj e2
    rw [Int.toNat_natCast] at hc
    exact hc⟩
  have hm' := Aside0.mk hm
  clear hg hC1 hC2 h30 hm hc1 hc2
  go_enter Try.func7, Try.ntmps7
  go_wp2_with fail
  refine hsm.mono ?_
  rintro e w0 ⟨rfl, hb0⟩
  have h25' := h25.out w0 hb0
  clear hsm
  go_wp2_with fail
  refine h25'.mono ?_
  rintro e w1 ⟨rfl, hb1'⟩
  have hb1 := below_step hb0 hb1'
  clear h25' h25 hb1' hb0
  obtain ⟨b50, hb50⟩ : ∃ b50, w1.heap.size = b50 := ⟨_, rfl⟩
  obtain ⟨w3, hw3⟩ : ∃ w3, (w1.alloc (.cells #[.slice none 0 0, .int .i64 4, .int .i64 0, .int .i64 1, .int .i64 0] 57)).alloc (.cells #[.int .i64 0, .slice (some ⟨b50, 0, none⟩) 1 1] 52) = w3 := ⟨_, rfl⟩
  have hG0 : Aside0 (CH w (b50 + 1) b50 (b50 + 2) (.slice none 0 0) (aloneL regs 0) w3) := by
    have hs := hb1.size
    have hba : Below w1.heap.size w1 w3 := by rw [← hw3]; exact below_alloc (below_alloc (Below.refl _ _) _) _
    have h5 := World.alloc_heap_new w1 (.cells #[.slice none 0 0, .int .i64 4, .int .i64 0, .int .i64 1, .int .i64 0] 57)
    have h4 := World.alloc_heap_new (w1.alloc (.cells #[.slice none 0 0, .int .i64 4, .int .i64 0, .int .i64 1, .int .i64 0] 57)) (.cells #[.int .i64 0, .slice (some ⟨b50, 0, none⟩) 1 1] 52)
    rw [World.size_alloc, hb50] at h4
    rw [hb50] at h5
    exact ⟨hb1.trans (hba.mono hs), by rw [← hw3]; exact h4, by rw [← hw3]; exact (Below.heap_alloc _ _ _ (by simp; omega)).trans h5, Kd.R_nil _ _ _ _ _, by omega, by omega, by omega, by rw [← hw3]; simp; omega⟩
  clear hb1
  go_wp2
  clear hb50 hw3
  go_loopw [8] (fun v8 wr => ∃ (i : Nat), v8 = .int .i64 i ∧ i ≤ m ∧ Aside0 (∃ v, CH w (b50 + 1) b50 (b50 + 2) v (aloneL regs i) wr)) (fun v8 _ => m - (RowKit.intOf v8).toNat)
  case atStart => exact ⟨0, rfl, by omega, ⟨_, hG0.out⟩⟩
  case round =>
    obtain ⟨i, rfl, hi, hrel⟩ := hrel
    clear hG0
    obtain ⟨vo, hG⟩ := hrel.out
    obtain ⟨base, hbase⟩ : ∃ base, Aside0 (b50 + 2 = base) := ⟨_, ⟨rfl⟩⟩
    rw [hbase.out] at hG
    by_cases hlt : i < m
    · have hltb : decide ((i : Int) < (m : Int)) = true := decide_eq_true (by omega)
      have hi0 : (0 : Int) ≤ (i : Int) := by omega
      have him : (i : Int) < (m : Int) := by omega
      obtain ⟨ops, hops⟩ : ∃ ops, Aside0 (aloneL regs i = ops) := ⟨_, ⟨rfl⟩⟩
      rw [hops.out] at hG
      have hol : Aside0 ((ops.length + 1) * 64 ≤ 140737488355328) := ⟨by rw [← hops.out]; simp [aloneL]; omega⟩
      obtain ⟨r3, hr3w, hr3t, hr30, hr33, hr3k⟩ := tmod3 i (by omega)
      have hr3k := Aside0.mk hr3k
      obtain ⟨ad, had, hcell⟩ := hreg.out i hlt
      subst had
      have hcell := Aside0.mk hcell
      obtain ⟨x, hx⟩ : ∃ x, Aside0 (rd regs (i : Int) = x) := ⟨_, ⟨rfl⟩⟩
      rw [hx.out] at hcell
      obtain ⟨bx, hbx⟩ : ∃ bx, bits .and .i64 x 31 = bx := ⟨_, rfl⟩
      have hb31 := bits31 x
      rw [hbx] at hb31
      obtain ⟨d1, hd1⟩ : ∃ d1 : Int, Aside0 (d1 = 1 + bx) := ⟨_, ⟨rfl⟩⟩
      have hwd : wrap64 (1 + bx) = d1 := by rw [hd1.out]; unfold wrap64; omega
      have hwd2 : IntKind.i64.wrap (1 + bx) = d1 := by rw [i64_w]; exact hwd
      have hb31' := Aside0.mk hb31
      clear hb31
      have hG' := Aside0.mk hG
      clear hrel hG
      go_wp2
      obtain ⟨Wd, hWd⟩ : ∃ Wd, wr.drew = Wd := ⟨_, rfl⟩
      have hG : Aside0 (CH w (b50 + 1) b50 base vo ops Wd) := ⟨by rw [← hWd]; exact hG'.out.step (drew_below _)⟩
      clear hG'
      refine start_ (n := 24) #[false, false, false, false, false, false, false, false, false, false, false, false, false, false, false, false, false, false, false, false, false, false, false, false] (S := fun w' => w'.cell? ⟨b50 + 1, 1, none⟩ = some (.slice (some ⟨b50, 0, none⟩) 1 1) ∧ w'.cell? ⟨b50, 0, none⟩ = some vo ∧ w'.cell? (ad.add i) = some (.int .i64 x)) (ds := [23]) hmix rfl rfl (by rw [hWd]; exact ⟨hG.out.held.1, hG.out.held.2, hcell.out _ hG.out.below⟩) (fun hHeld => ?_)
      rw [hWd] at hHeld ⊢
      clear hWd
      refine pure_ (i := 0) (N := some 36) (v := ?_) (a' := ?_) #[true, false, false, false, false, false, false, false, false, false, false, false, false, false, false, false, false, false, false, false, false, false, false, false] rfl rfl (by kernel_rfl) (fun _ _ _ h => h) (Or.inl ⟨by rfl, ?_⟩) ?_ ?_
      rotate_left
      · intro w'
        go_simp
        try with_reducible rfl
      rotate_left
      · simp only [Act.put, List.setIfInBounds_toArray, List.set_cons_zero, List.set_cons_succ, i64_w, i32_w]
        rfl
      refine take_ (i := 1) (N := some 37) (v := ?_) (a' := ?_) #[true, true, false, false, false, false, false, false, false, false, false, false, false, false, false, false, false, false, false, false, false, false, false, false] rfl rfl (by kernel_rfl) (fun _ _ _ h => h) (Or.inl ⟨by rfl, ?_⟩) hHeld ?_ ?_
      rotate_left
      · rintro w' ⟨s0, s1, s2⟩
        go_simp
        try with_reducible rfl
      rotate_left
      · simp only [Act.put, List.setIfInBounds_toArray, List.set_cons_zero, List.set_cons_succ, i64_w, i32_w]
        rfl
      refine pure_ (i := 2) (N := some 38) (v := ?_) (a' := ?_) #[true, true, true, false, false, false, false, false, false, false, false, false, false, false, false, false, false, false, false, false, false, false, false, false] rfl rfl (by kernel_rfl) (fun _ _ _ h => h) (Or.inl ⟨by rfl, ?_⟩) ?_ ?_
      rotate_left
      · intro w'
        go_simp
        try with_reducible rfl
      rotate_left
      · simp only [Act.put, List.setIfInBounds_toArray, List.set_cons_zero, List.set_cons_succ, i64_w, i32_w]
        rfl
      refine take_ (i := 3) (N := some 39) (v := ?_) (a' := ?_) #[true, true, true, true, false, false, false, false, false, false, false, false, false, false, false, false, false, false, false, false, false, false, false, false] rfl rfl (by kernel_rfl) (fun _ _ _ h => h) (Or.inl ⟨by rfl, ?_⟩) hHeld ?_ ?_
      rotate_left
      · rintro w' ⟨s0, s1, s2⟩
        go_simp
        try with_reducible rfl
      rotate_left
      · simp only [Act.put, List.setIfInBounds_toArray, List.set_cons_zero, List.set_cons_succ, i64_w, i32_w]
        rfl
      refine pure_ (i := 4) (N := some 40) (v := ?_) (a' := ?_) #[true, true, true, true, true, false, false, false, false, false, false, false, false, false, false, false, false, false, false, false, false, false, false, false] rfl rfl (by kernel_rfl) (fun _ _ _ h => h) (Or.inl ⟨by rfl, ?_⟩) ?_ ?_
      rotate_left
      · intro w'
        go_simp
        try with_reducible rfl
      rotate_left
      · simp only [Act.put, List.setIfInBounds_toArray, List.set_cons_zero, List.set_cons_succ, i64_w, i32_w]
        rfl
      refine pure_ (i := 5) (N := some 41) (v := ?_) (a' := ?_) #[true, true, true, true, true, true, false, false, false, false, false, false, false, false, false, false, false, false, false, false, false, false, false, false] rfl rfl (by kernel_rfl) (fun _ _ _ h => h) (Or.inl ⟨by rfl, ?_⟩) ?_ ?_
      rotate_left
      · intro w'
        go_simp
        try with_reducible rfl
      rotate_left
      · simp only [Act.put, List.setIfInBounds_toArray, List.set_cons_zero, List.set_cons_succ, i64_w, i32_w]
        rfl
      refine take_ (i := 6) (N := some 42) (v := ?_) (a' := ?_) #[true, true, true, true, true, true, true, false, false, false, false, false, false, false, false, false, false, false, false, false, false, false, false, false] rfl rfl (by kernel_rfl) (fun _ _ _ h => h) (Or.inl ⟨by rfl, ?_⟩) hHeld ?_ ?_
      rotate_left
      · rintro w' ⟨s0, s1, s2⟩
        go_simp
        try with_reducible rfl
      rotate_left
      · simp only [Act.put, List.setIfInBounds_toArray, List.set_cons_zero, List.set_cons_succ, i64_w, i32_w]
        rfl
      refine pure_ (i := 8) (N := some 44) (v := ?_) (a' := ?_) #[true, true, true, true, true, true, true, false, true, false, false, false, false, false, false, false, false, false, false, false, false, false, false, false] rfl rfl (by kernel_rfl) (fun _ _ _ h => h) (Or.inl ⟨by rfl, ?_⟩) ?_ ?_
      rotate_left
      · intro w'
        go_simp
        try with_reducible rfl
      rotate_left
      · simp only [Act.put, List.setIfInBounds_toArray, List.set_cons_zero, List.set_cons_succ, i64_w, i32_w]
        rfl
      refine pure_ (i := 9) (N := some 45) (v := .int .i64 r3) (a' := ?_) #[true, true, true, true, true, true, true, false, true, true, false, false, false, false, false, false, false, false, false, false, false, false, false, false] rfl rfl (by kernel_rfl) (fun _ _ _ h => h) (Or.inl ⟨by rfl, ?_⟩) ?_ ?_
      · intro w'
        go_simp
        first | done | (with_reducible rfl) | (simp only [*, decide_true, decide_false, if_true, if_false]; done) | (simp [*]; done) | omega | (unfold wrap64; omega)
      rotate_left
      · simp only [Act.put, List.setIfInBounds_toArray, List.set_cons_zero, List.set_cons_succ, i64_w, i32_w]
        rfl
      refine pure_ (i := 12) (N := some 48) (v := ?_) (a' := ?_) #[true, true, true, true, true, true, true, false, true, true, false, false, true, false, false, false, false, false, false, false, false, false, false, false] rfl rfl (by kernel_rfl) (fun _ _ _ h => h) (Or.inl ⟨by rfl, ?_⟩) ?_ ?_
      rotate_left
      · intro w'
        go_simp
        try with_reducible rfl
      rotate_left
      · simp only [Act.put, List.setIfInBounds_toArray, List.set_cons_zero, List.set_cons_succ, i64_w, i32_w]
        rfl
      refine pure_ (i := 13) (N := some 49) (v := ?_) (a' := ?_) #[true, true, true, true, true, true, true, false, true, true, false, false, true, true, false, false, false, false, false, false, false, false, false, false] rfl rfl (by kernel_rfl) (fun _ _ _ h => h) (Or.inl ⟨by rfl, ?_⟩) ?_ ?_
      rotate_left
      · intro w'
        go_simp
        try with_reducible rfl
      rotate_left
      · simp only [Act.put, List.setIfInBounds_toArray, List.set_cons_zero, List.set_cons_succ, i64_w, i32_w]
        rfl
      refine pure_ (i := 14) (N := some 50) (v := ?_) (a' := ?_) #[true, true, true, true, true, true, true, false, true, true, false, false, true, true, true, false, false, false, false, false, false, false, false, false] rfl rfl (by kernel_rfl) (fun _ _ _ h => h) (Or.inl ⟨by rfl, ?_⟩) ?_ ?_
      rotate_left
      · intro w'
        go_simp
        try with_reducible rfl
      rotate_left
      · simp only [Act.put, List.setIfInBounds_toArray, List.set_cons_zero, List.set_cons_succ, i64_w, i32_w]
        rfl
      refine take_ (i := 15) (N := some 51) (v := ?_) (a' := ?_) #[true, true, true, true, true, true, true, false, true, true, false, false, true, true, true, true, false, false, false, false, false, false, false, false] rfl rfl (by kernel_rfl) (fun _ _ _ h => h) (Or.inl ⟨by rfl, ?_⟩) hHeld ?_ ?_
      rotate_left
      · rintro w' ⟨s0, s1, s2⟩
        go_simp
        try with_reducible rfl
      rotate_left
      · simp only [Act.put, List.setIfInBounds_toArray, List.set_cons_zero, List.set_cons_succ, i64_w, i32_w]
        rfl
      refine pure_ (i := 16) (N := some 52) (v := .int .i64 bx) (a' := ?_) #[true, true, true, true, true, true, true, false, true, true, false, false, true, true, true, true, true, false, false, false, false, false, false, false] rfl rfl (by kernel_rfl) (fun _ _ _ h => h) (Or.inl ⟨by rfl, ?_⟩) ?_ ?_
      · intro w'
        go_simp
        first | done | (with_reducible rfl) | (simp only [*, decide_true, decide_false, if_true, if_false]; done) | (simp [*]; done) | omega | (unfold wrap64; omega)
      rotate_left
      · simp only [Act.put, List.setIfInBounds_toArray, List.set_cons_zero, List.set_cons_succ, i64_w, i32_w]
        rfl
      refine pure_ (i := 17) (N := some 53) (v := .int .i64 d1) (a' := ?_) #[true, true, true, true, true, true, true, false, true, true, false, false, true, true, true, true, true, true, false, false, false, false, false, false] rfl rfl (by kernel_rfl) (fun _ _ _ h => h) (Or.inl ⟨by rfl, ?_⟩) ?_ ?_
      · intro w'
        go_simp
        first | done | (with_reducible rfl) | (simp only [*, decide_true, decide_false, if_true, if_false]; done) | (simp [*]; done) | omega | (unfold wrap64; omega)
      rotate_left
      · simp only [Act.put, List.setIfInBounds_toArray, List.set_cons_zero, List.set_cons_succ, i64_w, i32_w]
        rfl
      refine one_ (i := 7) (N := some 43) #[true, true, true, true, true, true, true, true, true, true, false, false, true, true, true, true, true, true, false, false, false, false, false, false] rfl rfl (by kernel_rfl) (by decide) (fun K hK => ?_)
      refine call_ 30 _ (by rfl) rfl (by go_simp; rfl) ?_
      refine (swagelaw20_Kinds.calls [1, 6, 8] _ rfl).mono ?_
      rintro e w30 ⟨vk, rfl, hRk, hb30⟩
      obtain ⟨Ak, ck, rfl, hck, hCk⟩ := Kd.R_reads hRk
      obtain ⟨adk, ek, hcellk⟩ := Kd.at_int hCk r3 hr30 (by show r3 < ((3 : Nat) : Int); omega)
      subst ek
      obtain ⟨kd, hkd⟩ : ∃ kd, Aside0 (rd [1, 6, 8] r3 = kd) := ⟨_, ⟨rfl⟩⟩
      rw [hkd.out] at hcellk
      have hG30 : Aside0 (CH w (b50 + 1) b50 base vo ops w30) := ⟨hG.out.step hb30⟩
      have hl3 : ([1, 6, 8] : List Int).length = 3 := rfl
      rw [hl3]
      clear hRk hCk hck hb30 hG
      refine ⟨_, rfl, ?_⟩
      refine hK.out _ _ ⟨hG30.out.held.1, hG30.out.held.2, hcell.out _ hG30.out.below⟩ (fun hHeld => ?_)
      clear hK K
      refine norm_ (a' := ?_) ?_ ?_
      rotate_left
      · show Act.put _ (some 43) _ = _
        simp only [Act.put, List.setIfInBounds_toArray, List.set_cons_zero, List.set_cons_succ, i64_w, i32_w]
        rfl
      refine pure_ (i := 10) (N := some 46) (v := ?_) (a' := ?_) #[true, true, true, true, true, true, true, true, true, true, true, false, true, true, true, true, true, true, false, false, false, false, false, false] rfl rfl (by kernel_rfl) (fun _ _ _ h => h) (Or.inl ⟨by rfl, ?_⟩) ?_ ?_
      rotate_left
      · intro w'
        go_simp
        try with_reducible rfl
      rotate_left
      · simp only [Act.put, List.setIfInBounds_toArray, List.set_cons_zero, List.set_cons_succ, i64_w, i32_w]
        rfl
      refine one_ (i := 11) (N := some 47) #[true, true, true, true, true, true, true, true, true, true, true, true, true, true, true, true, true, true, false, false, false, false, false, false] rfl rfl (by kernel_rfl) (by decide) (fun K hK => ?_)
      refine value_ (w1 := ?_) (v := ?_) (by rfl) rfl ?_ ?_
      rotate_left 2
      · go_simp
        constructor
        · rfl
        · rfl
      refine hK.out _ _ ⟨hG30.out.held.1, hG30.out.held.2, hcell.out _ hG30.out.below⟩ (fun hHeld => ?_)
      clear hcellk
      clear hK K
      refine norm_ (a' := ?_) ?_ ?_
      rotate_left
      · show Act.put _ (some 47) _ = _
        simp only [Act.put, List.setIfInBounds_toArray, List.set_cons_zero, List.set_cons_succ, i64_w, i32_w]
        rfl
      refine pure_ (i := 18) (N := some 54) (v := ?_) (a' := ?_) #[true, true, true, true, true, true, true, true, true, true, true, true, true, true, true, true, true, true, true, false, false, false, false, false] rfl rfl (by kernel_rfl) (fun _ _ _ h => h) (Or.inl ⟨by rfl, ?_⟩) ?_ ?_
      rotate_left
      · intro w'
        go_simp
        try with_reducible rfl
      rotate_left
      · simp only [Act.put, List.setIfInBounds_toArray, List.set_cons_zero, List.set_cons_succ, i64_w, i32_w]
        rfl
      refine one_ (i := 19) (N := some 55) #[true, true, true, true, true, true, true, true, true, true, true, true, true, true, true, true, true, true, true, true, false, false, false, false] rfl rfl (by kernel_rfl) (by decide) (fun K hK => ?_)
      refine value_ (w1 := ?_) (v := ?_) (by rfl) rfl ?_ ?_
      rotate_left 2
      · go_simp
        constructor
        · rfl
        · rfl
      have hLb : Below w30.heap.size w30 _ := below_alloc (Below.refl w30.heap.size w30) (.cells #[.int .i64 kd, .int .i64 d1, .int .i64 0, .int .i64 0, .int .i64 0, .slice none 0 0] 60)
      have hlit : Aside0 (ReadsRow (fun (x : S60) cs => x.f5 = [] ∧ cs = c60 x) k60.sz (w30.alloc (.cells #[.int .i64 kd, .int .i64 d1, .int .i64 0, .int .i64 0, .int .i64 0, .slice none 0 0] 60)) (some ⟨w30.heap.size, 0, none⟩) 1 [⟨kd, d1, 0, 0, 0, []⟩]) :=
        ⟨reads_rows w30.heap.size (xs := [⟨kd, d1, 0, 0, 0, []⟩]) (World.alloc_heap_new w30 (.cells #[.int .i64 kd, .int .i64 d1, .int .i64 0, .int .i64 0, .int .i64 0, .slice none 0 0] 60)) (by simp) (by simp)⟩
      have hGa := Aside0.mk (hG30.out.step hLb)
      refine hK.out _ _ ⟨hGa.out.held.1, hGa.out.held.2, hcell.out _ hGa.out.below⟩ (fun hHeld => ?_)
      clear hK K
      refine norm_ (a' := ?_) ?_ ?_
      rotate_left
      · show Act.put _ (some 55) _ = _
        simp only [Act.put, List.setIfInBounds_toArray, List.set_cons_zero, List.set_cons_succ, i64_w, i32_w]
        rfl
      refine one_ (i := 20) (N := some 56) #[true, true, true, true, true, true, true, true, true, true, true, true, true, true, true, true, true, true, true, true, true, false, false, false] rfl rfl (by kernel_rfl) (by decide) (fun K hK => ?_)
      refine Kd.R_append_rows_step k60 (Rr := fun x cs => x.f5 = [] ∧ cs = c60 x) base (by rfl) (.tmp 42) (.tmp 55) 53 60 (.agg #[.int .i64 0, .int .i64 0, .int .i64 0, .int .i64 0, .int .i64 0, .slice none 0 0]) 64 rfl Try.underlying53 info60 rfl (by decide) (by decide) vo ops [⟨kd, d1, 0, 0, 0, []⟩] (some ⟨w30.heap.size, 0, none⟩) 1 1 (fun _ => True) (fun _ => False) rfl rfl hGa.out.own hlit.out (fun x cs h => by obtain ⟨h5, rfl⟩ := h; exact c60_M h5) (fun k h => h.elim) (fun _ _ => trivial) (Below.refl _ _) hGa.out.lo.2.2.2 hol.out ?_
      intro v1 w11 hv1 hb11 hg11 hat11
      obtain ⟨Av, cv, hve⟩ := Kd.R_slice hv1
      simp only [List.length_append, List.length_cons, List.length_nil, Nat.zero_add, Nat.reduceAdd] at hve
      subst hve
      have hG3 := Aside0.mk (hGa.out.put hv1 hg11)
      have hst1 := hGa.out.kept hg11
      have hst2 := hGa.out.kept4 hg11
      have hst3 : w11.cell? (ad.add i) = some (.int .i64 x) := hcell.out _ (hGa.out.below.grown hg11 hGa.out.below.size (fun i e => by have h1 := Kd.R_base hGa.out.own i e; have h2 := hGa.out.lo; omega))
      clear hv1 hb11 hg11 hat11
      refine hK.out _ _ ⟨hst2, hst1.1, hst3⟩ (fun hHeld => ?_)
      clear hK K
      refine norm_ (a' := ?_) ?_ ?_
      rotate_left
      · show Act.put _ (some 56) _ = _
        simp only [Act.put, List.setIfInBounds_toArray, List.set_cons_zero, List.set_cons_succ, i64_w, i32_w]
        rfl
      refine pure_ (i := 21) (N := some 57) (v := ?_) (a' := ?_) #[true, true, true, true, true, true, true, true, true, true, true, true, true, true, true, true, true, true, true, true, true, true, false, false] rfl rfl (by kernel_rfl) (fun _ _ _ h => h) (Or.inl ⟨by rfl, ?_⟩) ?_ ?_
      rotate_left
      · intro w'
        go_simp
        try with_reducible rfl
      rotate_left
      · simp only [Act.put, List.setIfInBounds_toArray, List.set_cons_zero, List.set_cons_succ, i64_w, i32_w]
        rfl
      refine pure_ (i := 22) (N := some 58) (v := ?_) (a' := ?_) #[true, true, true, true, true, true, true, true, true, true, true, true, true, true, true, true, true, true, true, true, true, true, true, false] rfl rfl (by kernel_rfl) (fun _ _ _ h => h) (Or.inl ⟨by rfl, ?_⟩) ?_ ?_
      rotate_left
      · intro w'
        go_simp
        try with_reducible rfl
      rotate_left
      · simp only [Act.put, List.setIfInBounds_toArray, List.set_cons_zero, List.set_cons_succ, i64_w, i32_w]
        rfl
      refine last_ (i := 23) (N := none) #[true, true, true, true, true, true, true, true, true, true, true, true, true, true, true, true, true, true, true, true, true, true, true, true] rfl rfl (by kernel_rfl) (by decide) (fun K hK => ?_)
      have z1 := hst1.1
      have z2 := hst1.2
      refine skip_ (w1 := ?_) (by rfl) rfl ?_ ?_
      rotate_left
      · go_simp
        rfl
      refine hK.out _ _ ?_
      clear hK K
      refine done_ (by kernel_rfl) ?_
      go_wp2
      go_roundw
      case rel =>
        refine ⟨i + 1, by go_num, by omega, ⟨.slice Av (ops.length + 1) cv, ?_⟩⟩
        rw [aloneL_succ, hops.out, hbase.out]
        have he : (⟨kd, d1, 0, 0, 0, []⟩ : S60) = aloneOp regs i := by unfold aloneOp; rw [hx.out, hbx, hd1.out, ← hr3k.out, hkd.out]
        rw [← he]
        exact hG3.out
      case measure => simp [RowKit.intOf]; omega
    · have hltb : decide ((i : Int) < (m : Int)) = false := decide_eq_false (by omega)
      have him : i = m := by omega
      subst him
      clear hreg
      obtain ⟨ops, hops⟩ : ∃ ops, Aside0 (aloneL regs i = ops) := ⟨_, ⟨rfl⟩⟩
      rw [hops.out] at hG
      have hLone : Aside0 (∀ x ∈ ops, Lone x) := ⟨by rw [← hops.out]; exact lone_of⟩
      have hol : Aside0 (ops.length ≤ 30) := ⟨by rw [← hops.out]; simp [aloneL]; omega⟩
      have hL := lit52 hG
      have h26 := of_alone hLone.out hol.out _ 1 _ hL
      have hB12 := Aside0.mk (below_alloc hG.below (.cells #[.int .i64 0, .slice (some ⟨b50, 0, none⟩) 1 1] 52))
      have hx0 : wr.cell? ⟨b50 + 1, 0, none⟩ = some (.int .i64 0) := by rw [cell_in hG.h4]; rfl
      have hx1 := hG.held.1
      have hG' := Aside0.mk hG
      clear hrel hG hL
      go_wp2_with fail
      refine h26.mono ?_
      rintro e w13 ⟨A6, c6, rfl, h6, hC6, hb13⟩
      obtain ⟨R, hR⟩ : ∃ R : Int, Aside0 (regsI 0 (fnOf ops).f1 = R) := ⟨_, ⟨rfl⟩⟩
      have hR2 : 0 ≤ R ∧ R ≤ 32 := by rw [← hR.out]; exact alone_regs hLone.out hol.out
      obtain ⟨row, hrow⟩ : ∃ row, Aside0 (rowA (regN (fnOf ops)) = row) := ⟨_, ⟨rfl⟩⟩
      rw [hrow.out] at hC6
      obtain ⟨L, hL⟩ : ∃ L : Nat, Aside0 (row.length = L) := ⟨_, ⟨rfl⟩⟩
      have hLR : Aside0 (L = regN (fnOf ops) ∧ (L : Int) = R + 1) := by
        have e : L = regN (fnOf ops) := by rw [← hL.out, ← hrow.out, rowA_len]
        have e2 : regN (fnOf ops) = (regsI 0 (fnOf ops).f1).toNat + 1 := rfl
        have e3 := hR.out
        exact ⟨e, by omega⟩
      have hG13 : Aside0 (CH w (b50 + 1) b50 base vo ops w13) := ⟨hG'.out.step (below_step (below_alloc (Below.refl _ _) _) hb13)⟩
      clear hG' hx0 hx1 hB12 h26
      have hrd : rd_L3 [row] 0 = row := rfl
      have hq1 : (0 : Int) < ((1 : Nat) : Int) := by decide
      have hat : Aside0 (∀ W, Kd.C (Kd.slice 3 (Kd.int .i64)) W A6 1 [row] → ∃ ad A7 c7, A6 = some ad ∧ W.cell? ad = some (.slice A7 L c7) ∧ Kd.C (Kd.int .i64) W A7 L row) := ⟨fun W hW => by
        obtain ⟨ad, A7, c7, e, g0, g1, g2⟩ := at_L3 hW (0 : Int) (Int.le_refl _) hq1
        rw [hrd, hL.out] at g0 g1 g2
        rw [show ad.add (0 : Int).toNat = ad by cases ad; rfl] at g0
        exact ⟨ad, A7, c7, e, g0, g2⟩⟩
      clear hrd
      obtain ⟨ad, A7, c7, e6, _, _⟩ := hat.out _ hC6
      have hC6' := Aside0.mk hC6
      have h6' := Aside0.mk h6
      clear hC6 hb13 h6
      subst e6
      go_wp2
      obtain ⟨Wd, hWd⟩ : ∃ Wd, w13.drew = Wd := ⟨_, rfl⟩
      have hG : Aside0 (CH w (b50 + 1) b50 base vo ops Wd) := ⟨by rw [← hWd]; exact hG13.out.step (drew_below _)⟩
      have hCd : Aside0 (Kd.C (Kd.slice 3 (Kd.int .i64)) Wd (some ad) 1 [row]) := ⟨by rw [← hWd]; exact Kd.C_below hC6'.out (drew_below _)⟩
      clear hG13 hC6'
      obtain ⟨ad2, A7, c7, e2, g0, _⟩ := hat.out _ hCd.out
      obtain rfl := Option.some.inj e2
      clear e2
      obtain ⟨Ab, cb, hve, hcb, hCb⟩ := Kd.R_reads hG.out.own
      have hw31 : wrap64 (R + 1) = (L : Int) := by have := hLR.out.2; rw [this]; unfold wrap64; omega
      have hw312 : IntKind.i64.wrap (R + 1) = (L : Int) := by rw [i64_w]; exact hw31
      have h31 : Aside0 (Calls Try.prog 31 #[.agg #[.int .i64 0, .slice (some ⟨b50, 0, none⟩) 1 1]] Wd fun e w' => e = .returned (.int .i64 R) ∧ Below Wd.heap.size Wd w') := ⟨by rw [← hR.out]; exact regs31 hG.out hLone.out hol.out⟩
      clear hve hcb hCb
      refine start_ (n := 13) #[false, false, false, false, false, false, false, false, false, false, false, false, false] (S := fun w' => w'.cell? ad = some (.slice A7 L c7) ∧ w'.cell? ⟨b50 + 1, 0, none⟩ = some (.int .i64 0) ∧ w'.cell? ⟨b50 + 1, 1, none⟩ = some (.slice (some ⟨b50, 0, none⟩) 1 1)) (ds := []) hmix rfl rfl (by rw [hWd]; exact ⟨g0, by rw [cell_in hG.out.h4]; rfl, hG.out.held.1⟩) (fun hHeld => ?_)
      rw [hWd] at hHeld ⊢
      clear hWd g0
      refine pure_ (i := 0) (N := some 62) (v := ?_) (a' := ?_) #[true, false, false, false, false, false, false, false, false, false, false, false, false] rfl rfl (by kernel_rfl) (fun _ _ _ h => h) (Or.inl ⟨by rfl, ?_⟩) ?_ ?_
      rotate_left
      · intro w'
        go_simp
        try with_reducible rfl
      rotate_left
      · simp only [Act.put, List.setIfInBounds_toArray, List.set_cons_zero, List.set_cons_succ, i64_w, i32_w]
        rfl
      refine pure_ (i := 1) (N := some 63) (v := ?_) (a' := ?_) #[true, true, false, false, false, false, false, false, false, false, false, false, false] rfl rfl (by kernel_rfl) (fun _ _ _ h => h) (Or.inl ⟨by rfl, ?_⟩) ?_ ?_
      rotate_left
      · intro w'
        go_simp
        try with_reducible rfl
      rotate_left
      · simp only [Act.put, List.setIfInBounds_toArray, List.set_cons_zero, List.set_cons_succ, i64_w, i32_w]
        rfl
      refine pure_ (i := 2) (N := some 64) (v := ?_) (a' := ?_) #[true, true, true, false, false, false, false, false, false, false, false, false, false] rfl rfl (by kernel_rfl) (fun _ _ _ h => h) (Or.inl ⟨by rfl, ?_⟩) ?_ ?_
      rotate_left
      · intro w'
        go_simp
        try with_reducible rfl
      rotate_left
      · simp only [Act.put, List.setIfInBounds_toArray, List.set_cons_zero, List.set_cons_succ, i64_w, i32_w]
        rfl
      refine pure_ (i := 3) (N := some 65) (v := ?_) (a' := ?_) #[true, true, true, true, false, false, false, false, false, false, false, false, false] rfl rfl (by kernel_rfl) (fun _ _ _ h => h) (Or.inl ⟨by rfl, ?_⟩) ?_ ?_
      rotate_left
      · intro w'
        go_simp
        try with_reducible rfl
      rotate_left
      · simp only [Act.put, List.setIfInBounds_toArray, List.set_cons_zero, List.set_cons_succ, i64_w, i32_w]
        rfl
      refine pure_ (i := 4) (N := some 66) (v := ?_) (a' := ?_) #[true, true, true, true, true, false, false, false, false, false, false, false, false] rfl rfl (by kernel_rfl) (fun _ _ _ h => h) (Or.inl ⟨by rfl, ?_⟩) ?_ ?_
      rotate_left
      · intro w'
        go_simp
        try with_reducible rfl
      rotate_left
      · simp only [Act.put, List.setIfInBounds_toArray, List.set_cons_zero, List.set_cons_succ, i64_w, i32_w]
        rfl
      refine pure_ (i := 5) (N := some 67) (v := ?_) (a' := ?_) #[true, true, true, true, true, true, false, false, false, false, false, false, false] rfl rfl (by kernel_rfl) (fun _ _ _ h => h) (Or.inl ⟨by rfl, ?_⟩) ?_ ?_
      rotate_left
      · intro w'
        go_simp
        try with_reducible rfl
      rotate_left
      · simp only [Act.put, List.setIfInBounds_toArray, List.set_cons_zero, List.set_cons_succ, i64_w, i32_w]
        rfl
      refine take_ (i := 6) (N := some 68) (v := ?_) (a' := ?_) #[true, true, true, true, true, true, true, false, false, false, false, false, false] rfl rfl (by kernel_rfl) (fun _ _ _ h => h) (Or.inl ⟨by rfl, ?_⟩) hHeld ?_ ?_
      rotate_left
      · rintro w' ⟨s0, s1, s2⟩
        go_simp
        try with_reducible rfl
      rotate_left
      · simp only [Act.put, List.setIfInBounds_toArray, List.set_cons_zero, List.set_cons_succ, i64_w, i32_w]
        rfl
      refine pure_ (i := 7) (N := some 69) (v := ?_) (a' := ?_) #[true, true, true, true, true, true, true, true, false, false, false, false, false] rfl rfl (by kernel_rfl) (fun _ _ _ h => h) (Or.inl ⟨by rfl, ?_⟩) ?_ ?_
      rotate_left
      · intro w'
        go_simp
        try with_reducible rfl
      rotate_left
      · simp only [Act.put, List.setIfInBounds_toArray, List.set_cons_zero, List.set_cons_succ, i64_w, i32_w]
        rfl
      refine take_ (i := 8) (N := some 70) (v := ?_) (a' := ?_) #[true, true, true, true, true, true, true, true, true, false, false, false, false] rfl rfl (by kernel_rfl) (fun _ _ _ h => h) (Or.inl ⟨by rfl, ?_⟩) hHeld ?_ ?_
      rotate_left
      · rintro w' ⟨s0, s1, s2⟩
        go_simp
        try with_reducible rfl
      rotate_left
      · simp only [Act.put, List.setIfInBounds_toArray, List.set_cons_zero, List.set_cons_succ, i64_w, i32_w]
        rfl
      refine one_ (i := 9) (N := some 71) #[true, true, true, true, true, true, true, true, true, true, false, false, false] rfl rfl (by kernel_rfl) (by decide) (fun K hK => ?_)
      refine call_ 31 _ (by rfl) rfl (by go_simp; rfl) ?_
      refine h31.out.mono ?_
      rintro e w31 ⟨rfl, hb31⟩
      have hG31 : Aside0 (CH w (b50 + 1) b50 base vo ops w31) := ⟨hG.out.step hb31⟩
      have hBf := hG31.out.below
      have hCf : Kd.C (Kd.slice 3 (Kd.int .i64)) w31 (some ad) 1 [row] := Kd.C_below hCd.out hb31
      have hg31 : w31.cell? ad = some (.slice A7 L c7) := pw_cell_below hb31 hHeld.1
      refine ⟨_, rfl, ?_⟩
      refine hK.out _ _ ⟨hg31, by rw [cell_in hG31.out.h4]; rfl, hG31.out.held.1⟩ (fun hHeld => ?_)
      clear hg31
      clear hK K
      refine norm_ (a' := ?_) ?_ ?_
      rotate_left
      · show Act.put _ (some 71) _ = _
        simp only [Act.put, List.setIfInBounds_toArray, List.set_cons_zero, List.set_cons_succ, i64_w, i32_w]
        rfl
      refine pure_ (i := 10) (N := some 72) (v := .int .i64 (L : Int)) (a' := ?_) #[true, true, true, true, true, true, true, true, true, true, true, false, false] rfl rfl (by kernel_rfl) (fun _ _ _ h => h) (Or.inl ⟨by rfl, ?_⟩) ?_ ?_
      · intro w'
        go_simp
        first | done | (with_reducible rfl) | (simp only [*, decide_true, decide_false, if_true, if_false]; done) | (simp [*]; done) | omega | (unfold wrap64; omega)
      rotate_left
      · simp only [Act.put, List.setIfInBounds_toArray, List.set_cons_zero, List.set_cons_succ, i64_w, i32_w]
        rfl
      refine pure_ (i := 11) (N := some 73) (v := ?_) (a' := ?_) #[true, true, true, true, true, true, true, true, true, true, true, true, false] rfl rfl (by kernel_rfl) (fun _ _ _ h => h) (Or.inl ⟨by rfl, ?_⟩) ?_ ?_
      rotate_left
      · intro w'
        go_simp
        try with_reducible rfl
      rotate_left
      · simp only [Act.put, List.setIfInBounds_toArray, List.set_cons_zero, List.set_cons_succ, i64_w, i32_w]
        rfl
      refine pure_ (i := 12) (N := some 74) (v := ?_) (a' := ?_) #[true, true, true, true, true, true, true, true, true, true, true, true, true] rfl rfl (by kernel_rfl) (fun _ _ _ h => h) (Or.inl ⟨by rfl, ?_⟩) ?_ ?_
      rotate_left
      · intro w'
        go_simp
        try with_reducible rfl
      rotate_left
      · simp only [Act.put, List.setIfInBounds_toArray, List.set_cons_zero, List.set_cons_succ, i64_w, i32_w]
        rfl
      refine done_ (by kernel_rfl) ?_
      clear hG h31 hw31 hw312 hHeld
      have hst := Aside0.mk (And.intro hBf hCf)
      clear hBf hCf
      go_wp2
      go_loopw [10] (fun v10 wr => ∃ (k : Nat), v10 = .int .i64 k ∧ k ≤ L ∧ Aside0 (Below w.heap.size w wr ∧ Kd.C (Kd.slice 3 (Kd.int .i64)) wr (some ad) 1 [row])) (fun v10 _ => L - (RowKit.intOf v10).toNat)
      case atStart => exact ⟨0, rfl, by omega, hst⟩
      case round =>
        obtain ⟨k, rfl, hk2, hr⟩ := hrel
        clear hst
        obtain ⟨ad2, A8, c8, e2, y0, y1⟩ := hat.out _ hr.out.2
        obtain rfl := Option.some.inj e2
        clear e2
        have hL33 : L ≤ 33 := by have := hLR.out.2; omega
        by_cases hkl : k < L
        · have hkb : decide ((k : Int) < (L : Int)) = true := decide_eq_true (by omega)
          have hp0 : (0 : Int) ≤ (k : Int) := by omega
          have hq0 : (k : Int) < (L : Int) := by omega
          obtain ⟨ad8, e8, hc⟩ := Kd.at_int y1 (k : Int) hp0 hq0
          subst e8
          obtain ⟨k1, hk1⟩ : ∃ k1 : Int, Aside0 (k1 = (k : Int) + 1) := ⟨_, ⟨rfl⟩⟩
          have hwk : wrap64 ((k : Int) + 1) = k1 := by rw [hk1.out]; unfold wrap64; omega
          have hwk2 : IntKind.i64.wrap ((k : Int) + 1) = k1 := by rw [i64_w]; exact hwk
          rw [Int.toNat_natCast, show rd row (k : Int) = k1 by rw [← hrow.out, hk1.out]; exact rowA_rd (by rw [← hLR.out.1]; exact hkl)] at hc
          clear y1
          go_wp2
          go_roundw
          case rel => exact ⟨k + 1, by rw [hk1.out]; go_num, by omega, hr⟩
          case measure => simp [RowKit.intOf, hk1.out]; omega
        · have hkb : decide ((k : Int) < (L : Int)) = false := decide_eq_false (by omega)
          have hB := hr.out.1
          have h26 := hof.out _ hB
          clear hof hat y1
          go_wp2_with fail
          refine h26.mono ?_
          rintro e w15 ⟨A9, c9, rows, rfl, hc9, hC9, hok, hrl, hyl, hb15⟩
          obtain ⟨M, hM⟩ : ∃ M : Int, Aside0 (rows.flatten.foldl mx 0 = M) := ⟨_, ⟨rfl⟩⟩
          have hcev := classes_ev (rows := rows) (by omega) (fun y hy => by have := hyl y hy; omega)
          rw [hM.out] at hcev
          obtain ⟨K32, hK32⟩ := hcev.get
          have hB15 := below_step hB hb15
          have h32 : Aside0 (∀ W, Kd.C (Kd.slice 3 (Kd.int .i64)) W A9 rows.length rows → Calls Try.prog 32 #[.slice A9 rows.length c9] W fun e w' => e = .returned (.int .i64 M) ∧ Below W.heap.size W w') := ⟨fun W hW => points_Classes.calls K32 A9 c9 rows M W hW hc9 hK32⟩
          obtain ⟨N, hN⟩ : ∃ N, rows.length = N := ⟨_, rfl⟩
          rw [hN] at h32 hC9 hrl ⊢
          have hN' := Aside0.mk hN
          have hyl' := Aside0.mk hyl
          have hst := Aside0.mk (And.intro hok (And.intro hM.out (And.intro hB15 hC9)))
          clear hcev hK32 hok hC9 hB15 hb15 hN hyl hB hc9 hr h26 hM
          go_wp2
          go_loopw [12, 13] (fun v12 v13 wr => ∃ (last : Int) (i : Nat), v12 = .int .i64 last ∧ v13 = .int .i64 i ∧ i ≤ N ∧ 0 ≤ last ∧ last ≤ 100 * (i : Int) ∧ Aside0 (OkN last (rows.drop i).flatten ∧ (rows.drop i).flatten.foldl mx last = M ∧ Below w.heap.size w wr ∧ Kd.C (Kd.slice 3 (Kd.int .i64)) wr A9 N rows)) (fun _ v13 _ => N - (RowKit.intOf v13).toNat)
          case atStart => exact ⟨0, 0, rfl, rfl, by omega, by omega, by omega, hst⟩
          case round =>
            obtain ⟨last, i, rfl, rfl, hiN, hl0, hl1, hr⟩ := hrel
            clear hst
            by_cases hil : i < N
            · have hib : decide ((i : Int) < (N : Int)) = true := decide_eq_true (by omega)
              have hiN2 : (i : Int) < (N : Int) := by omega
              have hi0 : (0 : Int) ≤ (i : Int) := by omega
              obtain ⟨y, hy⟩ : ∃ y, Aside0 (rows[i]? = some y) := ⟨_, ⟨List.getElem?_eq_getElem (by have := hN'.out; omega)⟩⟩
              have hyl := Aside0.mk (hyl'.out y (List.mem_of_getElem? hy.out))
              obtain ⟨Ly, hLy⟩ : ∃ Ly : Nat, Aside0 (y.length = Ly) := ⟨_, ⟨rfl⟩⟩
              have hLy100 : Ly ≤ 100 := by have := hLy.out; have := hyl.out; omega
              have hat : Aside0 (∀ W, Kd.C (Kd.slice 3 (Kd.int .i64)) W A9 N rows → ∃ ad A7 c7, A9 = some ad ∧ W.cell? (ad.add i) = some (.slice A7 Ly c7) ∧ Kd.C (Kd.int .i64) W A7 Ly y) := ⟨fun W hW => by
                obtain ⟨ad, A7, c7, e, g0, g1, g2⟩ := at_L3 hW (i : Int) hi0 hiN2
                rw [rdl3_of hy.out, hLy.out, Int.toNat_natCast] at g0
                rw [rdl3_of hy.out, hLy.out] at g2
                exact ⟨ad, A7, c7, e, g0, g2⟩⟩
              have hst := Aside0.mk (show OkN last (y.drop 0 ++ (rows.drop (i + 1)).flatten) ∧ (y.drop 0 ++ (rows.drop (i + 1)).flatten).foldl mx last = M ∧ Below w.heap.size w wr ∧ Kd.C (Kd.slice 3 (Kd.int .i64)) wr A9 N rows by
                have h := hr.out
                rw [drop_cons hy.out, List.flatten_cons] at h
                exact h)
              clear hr
              go_wp2
              go_loopw [12, 14] (fun v12 v14 wr => ∃ (last : Int) (k : Nat), v12 = .int .i64 last ∧ v14 = .int .i64 k ∧ k ≤ Ly ∧ 0 ≤ last ∧ last ≤ 100 * (i : Int) + (k : Int) ∧ Aside0 (OkN last (y.drop k ++ (rows.drop (i + 1)).flatten) ∧ (y.drop k ++ (rows.drop (i + 1)).flatten).foldl mx last = M ∧ Below w.heap.size w wr ∧ Kd.C (Kd.slice 3 (Kd.int .i64)) wr A9 N rows)) (fun _ v14 _ => Ly - (RowKit.intOf v14).toNat)
              case atStart => exact ⟨last, 0, rfl, rfl, by omega, by omega, by omega, hst⟩
              case round =>
                clear hst hl0 hl1
                obtain ⟨last, k, rfl, rfl, hkL, hl0, hl1, hr⟩ := hrel
                obtain ⟨ad9, A7, c7, e9, g0, g2⟩ := hat.out _ hr.out.2.2.2
                subst e9
                by_cases hkl : k < Ly
                · have hkb : decide ((k : Int) < (Ly : Int)) = true := decide_eq_true (by omega)
                  have hkL2 : (k : Int) < (Ly : Int) := by omega
                  have hk0 : (0 : Int) ≤ (k : Int) := by omega
                  obtain ⟨ad7, e7, hc⟩ := Kd.at_int g2 (k : Int) hk0 hkL2
                  subst e7
                  obtain ⟨x, hx⟩ : ∃ x, Aside0 (rd y (k : Int) = x) := ⟨_, ⟨rfl⟩⟩
                  rw [Int.toNat_natCast, hx.out] at hc
                  have hdk : y.drop k = x :: y.drop (k + 1) := by
                    have h1 : k < y.length := by have := hLy.out; omega
                    rw [drop_cons (List.getElem?_eq_getElem h1), ← rd_of h1, hx.out]
                  have hs := hr.out
                  rw [hdk] at hs
                  obtain ⟨⟨hx1, hx2, hok⟩, hfold, hB, hC⟩ := hs
                  have hxb : decide (x < 1) = false := decide_eq_false (by omega)
                  obtain ⟨l1, hl1'⟩ : ∃ l1 : Int, Aside0 (l1 = last + 1) := ⟨_, ⟨rfl⟩⟩
                  have hwl : wrap64 (last + 1) = l1 := by rw [hl1'.out]; unfold wrap64; omega
                  have hwl2 : IntKind.i64.wrap (last + 1) = l1 := by rw [i64_w]; exact hwl
                  have hxl : decide (x > l1) = false := by rw [hl1'.out]; exact decide_eq_false (by omega)
                  have hxl2 : decide (l1 < x) = false := hxl
                  obtain ⟨nl, hnl⟩ : ∃ nl : Int, (if last < x then x else last) = nl := ⟨_, rfl⟩
                  have hnl2 : Aside0 (nl = mx last x ∧ 0 ≤ nl ∧ nl ≤ last + 1) := by
                    refine ⟨?_, ?_, ?_⟩
                    · rw [← hnl]; rfl
                    · rw [← hnl]; split <;> omega
                    · rw [← hnl]; split <;> omega
                  have hst := Aside0.mk (show OkN nl (y.drop (k + 1) ++ (rows.drop (i + 1)).flatten) ∧ (y.drop (k + 1) ++ (rows.drop (i + 1)).flatten).foldl mx nl = M ∧ Below w.heap.size w wr ∧ Kd.C (Kd.slice 3 (Kd.int .i64)) wr (some ad9) N rows by
                    rw [hnl2.out.1]; exact ⟨hok, hfold, hB, hC⟩)
                  clear hr hok hfold hB hC g2 hdk
                  go_wp2
                  go_roundw
                  case rel => exact ⟨nl, k + 1, rfl, by go_num, by omega, hnl2.out.2.1, by have := hnl2.out.2.2; omega, hst⟩
                  case measure => simp [RowKit.intOf]; omega
                · have hkb : decide ((k : Int) < (Ly : Int)) = false := decide_eq_false (by omega)
                  have hst := Aside0.mk (show OkN last (rows.drop (i + 1)).flatten ∧ (rows.drop (i + 1)).flatten.foldl mx last = M ∧ Below w.heap.size w wr ∧ Kd.C (Kd.slice 3 (Kd.int .i64)) wr (some ad9) N rows by
                    have h := hr.out
                    rw [List.drop_of_length_le (by have := hLy.out; omega), List.nil_append] at h
                    exact h)
                  clear hr g2
                  go_wp2
                  go_roundw
                  case rel => exact ⟨last, i + 1, rfl, by go_num, by omega, hl0, by omega, hst⟩
                  case measure => simp [RowKit.intOf]; omega
            · have hib : decide ((i : Int) < (N : Int)) = false := decide_eq_false (by omega)
              have hs := hr.out
              rw [List.drop_of_length_le (by have := hN'.out; omega)] at hs
              have hlM : last = M := hs.2.1
              subst hlM
              have h32' := h32.out _ hs.2.2.2
              have hB := hs.2.2.1
              clear hr hs h32
              go_wp2_with (go_at_call 32; refine h32'.mono ?_; rintro e w17 ⟨rfl, hb17⟩; have hB17 := below_step hB hb17; clear hb17)
              go_ret
              exact ⟨rfl, hB17⟩
end Go.Proofs.Yteeapfmgdlcgfaa.A


namespace Go.Proofs.Yteeapfmgdlcgfaa.A
open Go.Deep Go.RowKit Go.Proofs.YteeapfmgdlcgfaaW.PrintWords Go.Proofs.YteeapfmgdlcgfaaW.PrintLast
set_option maxRecDepth 100000
set_option linter.unusedVariables false
set_option linter.unusedSimpArgs false

section
variable {H : Type} {enc : TypeId × Value → H} {P : Program} {w : World} {base : Nat} {α : Type} [Inhabited α]

def OpensW (enc : TypeId × Value → H) (P : Program) (w : World) (base : Nat) (t : TypeId) (d : Kd α) (p : α → Prop) : Prop :=
  ∀ fuel cs x, DataW.trod enc P w base (fun _ => true) true fuel t cs = some x → (∀ n ∈ x.1.weights P t, n ≤ reachBytes) → ∃ y, d.K w y cs ∧ p y

omit [Inhabited α] in
theorem OpensW.of {t : TypeId} {d : Kd α} {p : α → Prop} (h : Opens enc P w base t d p) : OpensW enc P w base t d p := fun fuel cs x hx _ => h fuel cs x hx
theorem weights_all {e : TypeId} : ∀ {ds : List (DataW H)} {d : DataW H}, d ∈ ds → ∀ n ∈ d.weights P e, n ∈ DataW.weightsAll P e ds
  | a :: tl, d, hd, n, hn => by
    simp only [DataW.weightsAll, List.mem_append]
    rcases List.mem_cons.1 hd with rfl | hd
    · exact Or.inl hn
    · exact Or.inr (weights_all hd n hn)
theorem opens_sliceW {t e : TypeId} {d : Kd α} {p : α → Prop} (ht : P.underlying t = some (.slice e)) (hc : P.cellsOf e = d.sz) (ho : OpensW enc P w base e d p) : OpensW enc P w base t (Kd.slice e d) (fun xs => (∀ x ∈ xs, p x) ∧ xs.length * P.bytesOf e ≤ reachBytes) := by
  intro fuel cs x h hw
  rcases open_slice ht h with ⟨rfl, _⟩ | ⟨a, len, cap, m, n, D, Pl, rfl, hb, hl, hm, hmm, hxe, hx⟩
  · exact ⟨[], ⟨none, 0, rfl, Nat.le_refl _, rfl, by simp, fun h => by simp at h⟩, fun x hx => by simp at hx, by simp⟩
  · simp only [if_true] at hmm
    rw [hxe] at hw
    simp only [DataW.weights, ht] at hw
    have hlen0 := hw _ List.mem_cons_self
    rw [List.length_map, List.length_map, List.length_range, List.length_range] at hlen0
    obtain ⟨Y, hY⟩ := choose_lt (α := α) (n := len) (p := fun i y => p y ∧ ∃ c, d.K w y c ∧ ∀ j u, c[j]? = some u → w.cell? (a.add (i * d.sz + j)) = some u) (fun i hi => by
      obtain ⟨cs', h1, h2⟩ := hx i (by omega)
      obtain ⟨y, hy, hp⟩ := ho _ _ _ h2 (fun n hn => hw n (List.mem_cons_of_mem _ (List.mem_append_left _ (weights_all (List.mem_map.2 ⟨i, List.mem_range.2 hi, rfl⟩) n hn))))
      obtain ⟨_, hlen, hcell⟩ := World.cells?_some h1
      refine ⟨y, hp, cs', hy, fun j u hj => ?_⟩
      have hj' : j < cs'.length := (List.getElem?_eq_some_iff.1 hj).1
      have := hcell j (by omega)
      rw [hj, hc] at this
      rwa [Addr.add_add] at this)
    have hlen : ((List.range len).map Y).length = len := by simp
    refine ⟨(List.range len).map Y, ⟨some a, cap, by rw [hlen], by rw [hlen]; exact hl, hlen.trans hlen.symm, by rw [hlen]; unfold maxLen at hm; omega, fun _ => ⟨a, rfl, fun j y hj => ?_⟩⟩, fun y hy => ?_, ?_⟩
    · have hjl : j < len := by have := (List.getElem?_eq_some_iff.1 hj).1; omega
      rw [List.getElem?_map, List.getElem?_range hjl] at hj
      obtain rfl := Option.some.inj hj
      obtain ⟨_, c, hk, hcell⟩ := hY j hjl
      exact ⟨c, d.K_len hk, hk, hcell⟩
    · obtain ⟨i, hi, rfl⟩ := List.mem_map.1 hy
      exact (hY i (List.mem_range.1 hi)).1
    · rw [hlen]
      exact Nat.le_trans (Nat.mul_le_mul_right _ (Nat.le_add_right _ _)) hlen0
omit [Inhabited α] in
/-- of a parameter: a slice -/
theorem opens_paramW {t e : TypeId} {d : Kd α} {p : List α → Prop} (ho : OpensW enc P w base t (Kd.slice e d) p) {A : Option Addr} {len cap : Nat} {x : DataW H} {ps : List MemPlace} (h : DataW.Trod enc P w base (fun _ => true) true t (.slice A len cap) x ps) (hw : ∀ n ∈ x.weights P t, n ≤ reachBytes) :
    ∃ xs : List α, len = xs.length ∧ xs.length ≤ cap ∧ d.C w A xs.length xs ∧ p xs := by
  obtain ⟨fuel, hf⟩ := h
  obtain ⟨xs, ⟨A', c', he, hl, hC⟩, hp⟩ := ho _ _ _ hf hw
  simp [Value.cells] at he
  obtain ⟨rfl, rfl, rfl⟩ := he
  exact ⟨xs, rfl, hl, hC, hp⟩
end
section
variable {H : Type} {enc : TypeId × Value → H} {w : World} {base : Nat}
instance : Inhabited S60 := ⟨z60⟩
instance : Inhabited S57 := ⟨z57⟩
instance : Inhabited S52 := ⟨z52⟩
theorem opens_60 : Opens enc Try.prog w base 60 k60 (fun _ => True) := by
  intro fuel cs x h
  obtain ⟨xs, n, _, _, hl, hlen, hf⟩ := DataW.trod_struct Try.underlying60 h
  have hl' : cs.length = 6 := hl.trans (by kernel_rfl)
  match cs, hl' with
  | [c0, c1, c2, c3, c4, c5], _ =>
    have int_ : ∀ (i : Nat) (c : Value), DataW.trod enc Try.prog w base (fun _ => true) true n 3 [c] = xs[i]? → i < 6 → ∃ m, c = .int .i64 m := by
      intro i c h hi
      have : i < xs.length := by rw [hlen]; exact hi
      rw [List.getElem?_eq_getElem this] at h
      obtain ⟨m, hm, _, _⟩ := DataW.trod_int Try.underlying3 h
      exact ⟨m, by simpa using hm⟩
    have h0 : DataW.trod enc Try.prog w base (fun _ => true) true n 3 (([c0, c1, c2, c3, c4, c5].drop 0).take (Try.prog.cellsOf 3)) = xs[0]? := hf 0 _ rfl
    have h1 : DataW.trod enc Try.prog w base (fun _ => true) true n 3 (([c0, c1, c2, c3, c4, c5].drop 1).take (Try.prog.cellsOf 3)) = xs[1]? := hf 1 _ rfl
    have h2 : DataW.trod enc Try.prog w base (fun _ => true) true n 3 (([c0, c1, c2, c3, c4, c5].drop 2).take (Try.prog.cellsOf 3)) = xs[2]? := hf 2 _ rfl
    have h3 : DataW.trod enc Try.prog w base (fun _ => true) true n 3 (([c0, c1, c2, c3, c4, c5].drop 3).take (Try.prog.cellsOf 3)) = xs[3]? := hf 3 _ rfl
    have h4 : DataW.trod enc Try.prog w base (fun _ => true) true n 3 (([c0, c1, c2, c3, c4, c5].drop 4).take (Try.prog.cellsOf 3)) = xs[4]? := hf 4 _ rfl
    have h5 : DataW.trod enc Try.prog w base (fun _ => true) true n 36 (([c0, c1, c2, c3, c4, c5].drop 5).take (Try.prog.cellsOf 36)) = xs[5]? := hf 5 _ rfl
    rw [show Try.prog.cellsOf 3 = 1 by kernel_rfl] at h0 h1 h2 h3 h4
    rw [show Try.prog.cellsOf 36 = 1 by kernel_rfl] at h5
    obtain ⟨m0, rfl⟩ := int_ 0 c0 h0 (by omega)
    obtain ⟨m1, rfl⟩ := int_ 1 c1 h1 (by omega)
    obtain ⟨m2, rfl⟩ := int_ 2 c2 h2 (by omega)
    obtain ⟨m3, rfl⟩ := int_ 3 c3 h3 (by omega)
    obtain ⟨m4, rfl⟩ := int_ 4 c4 h4 (by omega)
    have h5' : 5 < xs.length := by rw [hlen]; decide
    rw [List.getElem?_eq_getElem h5'] at h5
    obtain ⟨ys, ⟨A, c, he, hl5, hC⟩, _⟩ := opens_slice (d := Kd.int .i64) Try.underlying36 (by kernel_rfl) (opens_int Try.underlying3) _ _ _ h5
    have he' : c5 = .slice A ys.length c := by simpa using he
    subst he'
    exact ⟨⟨m0, m1, m2, m3, m4, ys⟩, k60_mk w ⟨m0, m1, m2, m3, m4, ys⟩ hl5 hC, trivial⟩
theorem opens_55 : Opens enc Try.prog w base 55 k55 (fun _ => True) := by
  intro fuel cs x h
  obtain ⟨xs, n, _, _, hl, hlen, hf⟩ := DataW.trod_struct Try.underlying55 h
  have hl' : cs.length = 4 := hl.trans (by kernel_rfl)
  match cs, hl' with
  | [c0, c1, c2, c3], _ =>
    have int_ : ∀ (i : Nat) (c : Value), DataW.trod enc Try.prog w base (fun _ => true) true n 3 [c] = xs[i]? → i < 4 → ∃ m, c = .int .i64 m := by
      intro i c h hi
      have : i < xs.length := by rw [hlen]; exact hi
      rw [List.getElem?_eq_getElem this] at h
      obtain ⟨m, hm, _, _⟩ := DataW.trod_int Try.underlying3 h
      exact ⟨m, by simpa using hm⟩
    have h0 : DataW.trod enc Try.prog w base (fun _ => true) true n 3 (([c0, c1, c2, c3].drop 0).take (Try.prog.cellsOf 3)) = xs[0]? := hf 0 _ rfl
    have h1 : DataW.trod enc Try.prog w base (fun _ => true) true n 3 (([c0, c1, c2, c3].drop 1).take (Try.prog.cellsOf 3)) = xs[1]? := hf 1 _ rfl
    have h2 : DataW.trod enc Try.prog w base (fun _ => true) true n 3 (([c0, c1, c2, c3].drop 2).take (Try.prog.cellsOf 3)) = xs[2]? := hf 2 _ rfl
    have h3 : DataW.trod enc Try.prog w base (fun _ => true) true n 3 (([c0, c1, c2, c3].drop 3).take (Try.prog.cellsOf 3)) = xs[3]? := hf 3 _ rfl
    rw [show Try.prog.cellsOf 3 = 1 by kernel_rfl] at h0 h1 h2 h3
    obtain ⟨m0, rfl⟩ := int_ 0 c0 h0 (by omega)
    obtain ⟨m1, rfl⟩ := int_ 1 c1 h1 (by omega)
    obtain ⟨m2, rfl⟩ := int_ 2 c2 h2 (by omega)
    obtain ⟨m3, rfl⟩ := int_ 3 c3 h3 (by omega)
    exact ⟨⟨m0, m1, m2, m3⟩, k55_mk w ⟨m0, m1, m2, m3⟩, trivial⟩
theorem opens_57 : OpensW enc Try.prog w base 57 k57 (fun y => y.f0.length ≤ 3000000000000) := by
  intro fuel cs x h hw
  obtain ⟨xs, n, _, hxe, hl, hlen, hf⟩ := DataW.trod_struct Try.underlying57 h
  have hl' : cs.length = 5 := hl.trans (by kernel_rfl)
  match cs, hl' with
  | [c0, c1, c2, c3, c4], _ =>
    have h0 : DataW.trod enc Try.prog w base (fun _ => true) true n 53 (([c0, c1, c2, c3, c4].drop 0).take (Try.prog.cellsOf 53)) = xs[0]? := hf 0 _ rfl
    have h1 : DataW.trod enc Try.prog w base (fun _ => true) true n 55 (([c0, c1, c2, c3, c4].drop 1).take (Try.prog.cellsOf 55)) = xs[1]? := hf 1 _ rfl
    rw [show Try.prog.cellsOf 53 = 1 by kernel_rfl] at h0
    rw [show Try.prog.cellsOf 55 = 4 by kernel_rfl] at h1
    have h0' : 0 < xs.length := by rw [hlen]; decide
    have h1' : 1 < xs.length := by rw [hlen]; decide
    rw [List.getElem?_eq_getElem h0'] at h0
    rw [List.getElem?_eq_getElem h1'] at h1
    have hw0 : ∀ n ∈ (xs[0]).1.weights Try.prog 53, n ≤ reachBytes := by
      intro n hn
      refine hw n ?_
      rw [hxe]
      simp only [DataW.weights, Try.underlying57]
      exact DataW.weights_mem_each (j := 0) (t := 53) (d := (xs[0]).1) rfl (by rw [List.getElem?_map, List.getElem?_eq_getElem h0']; rfl) n hn
    obtain ⟨ys, ⟨A, c, he, hl5, hC⟩, _, hby⟩ := opens_sliceW (d := k60) Try.underlying53 (by kernel_rfl) (OpensW.of opens_60) _ _ _ h0 hw0
    obtain ⟨t, ht, _⟩ := opens_55 _ _ _ h1
    rw [show Try.prog.bytesOf 60 = 64 by kernel_rfl] at hby
    have hr := reachBytes_lt
    have he' : c0 = .slice A ys.length c := by simpa using he
    subst he'
    refine ⟨⟨ys, t⟩, ?_, by show ys.length ≤ _; omega⟩
    have hk : k57.K w ⟨ys, t⟩ ([.slice A ys.length c] ++ [c1, c2, c3, c4]) := ⟨[.slice A ys.length c], [c1, c2, c3, c4], rfl, ⟨A, c, rfl, hl5, hC⟩, ht⟩
    exact hk
theorem opens_52 : OpensW enc Try.prog w base 52 k52 (fun f => ∀ y ∈ f.f1, y.f0.length ≤ 3000000000000) := by
  intro fuel cs x h hw
  obtain ⟨xs, n, _, hxe, hl, hlen, hf⟩ := DataW.trod_struct Try.underlying52 h
  have hl' : cs.length = 2 := hl.trans (by kernel_rfl)
  match cs, hl' with
  | [c0, c1], _ =>
    have h0 : DataW.trod enc Try.prog w base (fun _ => true) true n 3 (([c0, c1].drop 0).take (Try.prog.cellsOf 3)) = xs[0]? := hf 0 _ rfl
    have h1 : DataW.trod enc Try.prog w base (fun _ => true) true n 50 (([c0, c1].drop 1).take (Try.prog.cellsOf 50)) = xs[1]? := hf 1 _ rfl
    rw [show Try.prog.cellsOf 3 = 1 by kernel_rfl] at h0
    rw [show Try.prog.cellsOf 50 = 1 by kernel_rfl] at h1
    have h0' : 0 < xs.length := by rw [hlen]; decide
    have h1' : 1 < xs.length := by rw [hlen]; decide
    rw [List.getElem?_eq_getElem h0'] at h0
    rw [List.getElem?_eq_getElem h1'] at h1
    have hw1 : ∀ n ∈ (xs[1]).1.weights Try.prog 50, n ≤ reachBytes := by
      intro n hn
      refine hw n ?_
      rw [hxe]
      simp only [DataW.weights, Try.underlying52]
      exact DataW.weights_mem_each (j := 1) (t := 50) (d := (xs[1]).1) rfl (by rw [List.getElem?_map, List.getElem?_eq_getElem h1']; rfl) n hn
    obtain ⟨m, hm, _, _⟩ := DataW.trod_int Try.underlying3 h0
    have hm' : c0 = .int .i64 m := by simpa using hm
    obtain ⟨ys, ⟨A, c, he, hl5, hC⟩, hys, hby⟩ := opens_sliceW (d := k57) Try.underlying50 (by kernel_rfl) opens_57 _ _ _ h1 hw1
    have he' : c1 = .slice A ys.length c := by simpa using he
    subst he'
    subst hm'
    exact ⟨⟨m, ys⟩, k52_mk w ⟨m, ys⟩ hl5 hC, hys⟩
theorem opens_ints : Opens enc Try.prog w base 36 (Kd.slice 3 (Kd.int .i64)) (fun xs => ∀ x ∈ xs, (Lit.int .i64 x).wf = true) := opens_slice Try.underlying36 (by kernel_rfl) (opens_int Try.underlying3)
theorem opens_funcs : OpensW enc Try.prog w base 46 (Kd.slice 52 k52) LenB := by
  intro fuel cs x h hw
  obtain ⟨xs, hx, h1, _⟩ := opens_sliceW (d := k52) Try.underlying46 (by kernel_rfl) opens_52 _ _ _ h hw
  exact ⟨xs, hx, ⟨fun f hf y hy => h1 f hf y hy⟩⟩
end
end Go.Proofs.Yteeapfmgdlcgfaa.A


namespace Go.Proofs.Yteeapfmgdlcgfaa.A
open Go.RowKit Go.Maps Go.Proofs.YteeapfmgdlcgfaaW.PrintWords
theorem law_alonew (A1 : Option Addr) (c1 : Nat) (regs : List Int) (A2 : Option Addr) (c2 : Nat) (l : List S52) (w : World) (hC1 : Kd.C (Kd.int .i64) w A1 regs.length regs) (hc1 : regs.length ≤ c1) (_ : ∀ x ∈ regs, (Lit.int .i64 x).wf = true) (hC2 : Kd.C k52 w A2 l.length l) (hc2 : l.length ≤ c2) (hLB : LenB l) :
    Calls Try.prog 7 #[.slice A1 regs.length c1, .slice A2 l.length c2] w fun e w' => e = .returned (.bool true) ∧ Below w.heap.size w w' := law_alone A1 c1 regs A2 c2 l w hC1 hc1 hC2 hc2 hLB
end Go.Proofs.Yteeapfmgdlcgfaa.A

