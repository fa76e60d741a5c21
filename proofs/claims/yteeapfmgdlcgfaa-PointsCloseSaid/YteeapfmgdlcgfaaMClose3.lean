/- Parts of the proof, in the order in which they rest on one another. -/
import Derived.Test.YteeapfmgdlcgfaaMClose2
import Derived.Below
import Derived.Deep.Draws
import Derived.Deep.AppendLies
import Derived.Maps.AppendAt
import Derived.OwnWalk
import Derived.Laws.BytesArg
import Derived.Laws.MakeOwn
import Derived.Laws.OwnMore
import Derived.Deep.OwnRows
import Derived.Tactics
import Derived.Lib.ConvBytes
import Derived.Laws.Slices
import Derived.WalkKit
import Derived.KernelRfl
import Derived.RowKit3
import Derived.Deep.LoopGhost
import Derived.Deep.QuietTactic
import Derived.BigQuiet
import Derived.WideLaws
import Derived.Deep.DeepCutAuto
import Derived.Deep.CutBlock
import Derived.Deep.RegionHeld3
import Derived.Laws.Rows
import Derived.Lib.AppendStr
import Derived.ArgAppend
import Derived.Laws.IdiomCopy
import Derived.RowKit
import Derived.OrdersHeld
import Derived.Laws.BitsLemmas
import Derived.Laws.StructEq
import Derived.Test.YteeapfmgdlcgfaaProg
import Derived.Maps.Own
import Derived.Maps.OwnOps
import Derived.Maps.OwnSet
import Derived.Maps.Views
import Derived.WideKeyEntry
import Derived.RangeFuncWrites
import Derived.Lib.SlKeysI
import Derived.Shelf.SlIterI.Stops
import Derived.Shelf.SlIterI.Nil
import Derived.Shelf.SortM.Plain
import Derived.Shelf.SortM.SortNone
import Derived.Shelf.SlMaps.Clone
import Derived.Ground.GgzProg
import Derived.Ground.SlgmProg
import Derived.Ground.SlmcProg
import Derived.Shelf.SlGeneric
import Derived.RangeFuncLeaves
import Derived.RangeFuncCalls
import Derived.RangeFuncBox
import Derived.OwnWalkIn
import Derived.TacticsInMore
import Derived.LoopNIn
import Derived.LoopIn
import Derived.Maps.OwnIn
import Derived.Shelf.RegionOpen
import Derived.OpenShut
import Derived.Deep.Slices
import Derived.ChangeArms
import Derived.Maps.StringElems
import Derived.Sort.MapsRangeIn
import Derived.StringKeys
import Derived.Shelf.SlIter.Stops
import Derived.RangeFuncNested
import Derived.RangeFuncRecord
import Derived.Maps.RangeWalk
import Derived.OrdersIn
import Derived.TacticsIn
namespace Go.Proofs.Yteeapfmgdlcgfaa.A
open Go.RowKit Go.Maps Go.Sort Go.Shelf Go.Proofs.YteeapfmgdlcgfaaW.PrintWords Go.Proofs.YteeapfmgdlcgfaaW.PrintLast
set_option linter.unusedVariables false
set_option linter.unusedSimpArgs false

theorem rdH_cases {v : Value} {y : DU × List MemPlace} (h : rdH v = some y) : ∃ o : Option Hd, v = hv o := by
  unfold rdH at h
  split at h
  · exact ⟨none, rfl⟩
  · exact ⟨some ⟨_, _, _⟩, rfl⟩
  · cases h
/-- rows whose headers a map holds -/
structure RowsAt (W : World) (base : Nat) (f : Int → Option Hd) (H : Int → List Int) : Prop where
  no : ∀ r, f r = none → H r = []
  own : ∀ r h, f r = some h → base ≤ h.g ∧ h.n = (H r).length ∧ H r ≠ [] ∧ W.ownsRow base 3 1 h.val (H r).length ((H r).map (Value.int .i64))
  apart : ∀ r s h k, f r = some h → f s = some k → h.g = k.g → r = s
theorem RowsAt.keep {W W' : World} {base : Nat} {f : Int → Option Hd} {H : Int → List Int} (h : RowsAt W base f H) {X : Nat → Prop} (hk : KeepsBut X W W') (hx : ∀ r k, f r = some k → ¬ X k.g) : RowsAt W' base f H := by
  refine ⟨h.no, fun r k hr => ?_, h.apart⟩
  obtain ⟨h1, h2, h3, h4⟩ := h.own r k hr
  refine ⟨h1, h2, h3, ?_⟩
  refine ⟨h4.1, ?_⟩
  rcases h4.2 with h0 | ⟨g, cap, cur, hv, hb, hgb, hr'⟩
  · exact .inl h0
  · have hg : g = k.g := by
      unfold Hd.val at hv
      injection hv with e1
      injection e1 with e1
      injection e1 with e1
      exact e1.symm
    subst hg
    exact .inr ⟨k.g, cap, cur, hv, hb, (hk.block k.g (Array.getElem?_eq_some_iff.1 hgb).1 (hx r k hr)).trans hgb, hr'⟩
theorem RowsAt.lt {W : World} {base : Nat} {f : Int → Option Hd} {H : Int → List Int} (h : RowsAt W base f H) {r : Int} {k : Hd} (hr : f r = some k) : k.g < W.heap.size := by
  obtain ⟨h1, h2, h3, h4⟩ := h.own r k hr
  rcases h4.2 with ⟨h0, _⟩ | ⟨g, cap, cur, hv, hb, hgb, hr'⟩
  · unfold Hd.val at h0; cases h0
  · unfold Hd.val at hv
    injection hv with e1
    injection e1 with e1
    injection e1 with e1
    rw [e1]
    exact (Array.getElem?_eq_some_iff.1 hgb).1
/-- a row is not a map -/
theorem RowsAt.cells {W : World} {base : Nat} {f : Int → Option Hd} {H : Int → List Int} (h : RowsAt W base f H) {r : Int} {k : Hd} (hr : f r = some k) : ∃ cur : Array Value, W.heap[k.g]? = some (.cells cur 3 (0, 0)) := by
  obtain ⟨h1, h2, h3, h4⟩ := h.own r k hr
  rcases h4.2 with ⟨h0, _⟩ | ⟨g, cap, cur, hv, hb, hgb, hr'⟩
  · unfold Hd.val at h0; cases h0
  · unfold Hd.val at hv
    injection hv with e1
    injection e1 with e1
    injection e1 with e1
    rw [e1]
    exact ⟨cur, hgb⟩
def gupd (H : Int → List Int) (k x : Int) : Int → List Int := fun j => if j = k then H k ++ [x] else H j
/-- a row that a map holds is appended to, and its header is stored anew -/
theorem RowsAt.more {W W1 : World} {base : Nat} {f : Int → Option Hd} {H : Int → List Int} (h : RowsAt W base f H) {r x : Int} {v' : Value}
    (hrow : W1.ownsRow base 3 1 v' ((H r).length + 1) ((H r).map (Value.int .i64) ++ [.int .i64 x])) (hg : W.grownBy W1 (hv (f r)).ownBlock) (hat : v'.ownBlock = (hv (f r)).ownBlock ∨ v'.ownBlock = some W.heap.size) :
    ∃ k : Hd, v' = k.val ∧ RowsAt W1 base (updK f r k) (gupd H r x) ∧ (∀ s q, f s = some q → s ≠ r → q.g ≠ k.g) ∧ base ≤ k.g := by
  obtain ⟨g, cap, cur, hv', hb, hgb, h1, h2, h3, h4⟩ := hrow.2.resolve_left (fun ⟨_, e⟩ => by omega)
  have hold : ∀ s q, f s = some q → s ≠ r → q.g ≠ g := fun s q hs hne e => by
    have hlt := h.lt hs
    rw [hv'] at hat
    rcases hat with e1 | e1
    · cases hf : f r with
      | none => rw [hf] at e1; simp [hv, Value.ownBlock] at e1
      | some k =>
        rw [hf] at e1
        have : g = k.g := by simpa [hv, Hd.val, Value.ownBlock] using e1
        exact hne (h.apart s r q k hs hf (by rw [e, this]))
    · have : g = W.heap.size := by simpa [Value.ownBlock] using e1
      omega
  refine ⟨⟨g, (H r).length + 1, cap⟩, hv', ⟨fun s hs => ?_, fun s k hs => ?_, fun s t k q hs ht e => ?_⟩, hold, hb⟩
  · by_cases es : s = r
    · subst es; rw [updK_same] at hs; cases hs
    · rw [updK_other es] at hs
      unfold gupd; rw [if_neg es]; exact h.no s hs
  · by_cases es : s = r
    · subst es
      rw [updK_same] at hs
      obtain rfl := Option.some.inj hs
      unfold gupd
      rw [if_pos rfl]
      refine ⟨hb, by simp, by simp, ?_⟩
      rw [List.length_append, List.map_append]
      rw [hv'] at hrow
      exact hrow
    · rw [updK_other es] at hs
      unfold gupd; rw [if_neg es]
      obtain ⟨a1, a2, a3, a4⟩ := h.own s k hs
      refine ⟨a1, a2, a3, a4.kept hg (.inr fun e => ?_)⟩
      cases hf : f r with
      | none => rw [hf] at e; simp [hv, Hd.val, Value.ownBlock] at e
      | some q =>
        rw [hf] at e
        have : k.g = q.g := by simpa [hv, Hd.val, Value.ownBlock] using e
        exact es (h.apart s r k q hs hf this)
  · by_cases es : s = r
    · by_cases et : t = r
      · rw [es, et]
      · subst es
        rw [updK_same] at hs
        rw [updK_other et] at ht
        obtain rfl := Option.some.inj hs
        exact absurd e.symm (hold t q ht et)
    · by_cases et : t = r
      · subst et
        rw [updK_same] at ht
        rw [updK_other es] at hs
        obtain rfl := Option.some.inj ht
        exact absurd e (hold s k hs es)
      · rw [updK_other es] at hs
        rw [updK_other et] at ht
        exact h.apart s t k q hs ht e

/-- of the first i keys, those whose root is r -/
noncomputable def under (U : Int → Option Int) (r : Int) (l : List Int) : List Int := l.filter fun x => @decide (∃ d, To U d x r) (Classical.propDecidable _)
theorem under_mem {U : Int → Option Int} {r x : Int} {l : List Int} : x ∈ under U r l ↔ x ∈ l ∧ ∃ d, To U d x r := by unfold under; rw [List.mem_filter]; simp
theorem under_snoc {U : Int → Option Int} {x r : Int} {d : Nat} (h : To U d x r) (l : List Int) : (fun s => under U s (l ++ [x])) = gupd (fun s => under U s l) r x := by
  funext s
  unfold under gupd
  rw [List.filter_append]
  by_cases e : s = r
  · subst e
    rw [if_pos rfl, List.filter_cons]
    have : ∃ d, To U d x s := ⟨d, h⟩
    simp [this]
  · rw [if_neg e, List.filter_cons]
    have : ¬ ∃ d, To U d x s := fun ⟨d', h'⟩ => e (h'.det h).2
    simp [this]
theorem RowsAt.alloc {W : World} {base : Nat} {f : Int → Option Hd} {H : Int → List Int} (h : RowsAt W base f H) (o : Obj) : RowsAt (W.alloc o) base f H := h.keep (KeepsBut.alloc (fun _ => False) W o) (fun _ _ _ => id)
theorem RowsAt.row {W : World} {base : Nat} {f : Int → Option Hd} {H : Int → List Int} (h : RowsAt W base f H) (r : Int) : W.ownsRow base 3 1 (hv (f r)) (H r).length ((H r).map (Value.int .i64)) := by
  cases hf : f r with
  | none => rw [h.no r hf]; exact World.ownsRow_nil _ _ _ _
  | some k => exact (h.own r k hf).2.2.2
theorem MapR.block {w : World} {b N : Nat} {f : Int → Option Hd} (h : MapR w b f N) : ∃ es clock, w.heap[b]? = some (.map es clock) := by
  obtain ⟨D, ⟨es, clock, h1, _⟩, _⟩ := h; exact ⟨es, clock, h1⟩
theorem hd_inj {a b : Option Hd} (h : hd a = hd b) : a = b := by
  have h1 : rdH (hv a) = some (hd a, []) := by cases a <;> rfl
  have h2 := rdH_inv (o := b) (v := hv a) (ps := []) (by rw [h1, h])
  cases a with
  | none => cases b with
    | none => rfl
    | some k => exact absurd h2 (by simp [hv, Hd.val])
  | some q => cases b with
    | none => exact absurd h2 (by simp [hv, Hd.val])
    | some k =>
      cases q; cases k
      simp [hv, Hd.val] at h2
      obtain ⟨rfl, rfl, rfl⟩ := h2
      rfl
theorem rdH_hv (o : Option Hd) : rdH (hv o) = some (hd o, []) := by cases o <;> rfl
/-- what the second loop keeps -/
structure CB (p bu bs nu N : Nat) (U Z : Int → Option Int) (ks : List Int) (bR bo it nR : Nat) (D : DU) (f : Int → Option Hd) (w2 : World) (W : World) : Prop where
  ex : ∃ (U' : Int → Option Int) (left : Lit → Bool) (cnt : Nat) (fo : Int → Option Hd) (nF : Nat), Uni κI W p bu bs nu N U' Z ∧ Halved U U' ∧ W.ranges Try.prog 3 rdH bR it nR D left cnt ∧ MapR W bo fo nF ∧ nF + cnt ≤ nR ∧
    (∀ r k, f r = some k → left (.int .i64 r) = false → ∃ m, (under U r ks).head? = some m ∧ fo m = some k) ∧
    (∀ m k, fo m = some k → ∃ r, f r = some k ∧ left (.int .i64 r) = false ∧ (under U r ks).head? = some m)
  rows : RowsAt W w2.heap.size f (fun r => under U r ks)
  low : KeepsBut (fun b => UX bu bs b ∨ b = bR ∨ w2.heap.size ≤ b) w2 W
open Classical in
/-- the root of one -/
noncomputable def rootOf (U : Int → Option Int) (x : Int) : Int := if h : ∃ r d, To U d x r then h.choose else 0
theorem rootOf_eq {U : Int → Option Int} {d : Nat} {x r : Int} (h : To U d x r) : rootOf U x = r := by
  unfold rootOf
  have hx : ∃ r d, To U d x r := ⟨r, d, h⟩
  rw [dif_pos hx]
  obtain ⟨d', h'⟩ := hx.choose_spec
  exact (h'.det h).2
theorem under_pick {U : Int → Option Int} {d : Nat} {m r : Int} (h : To U d m r) (ks : List Int) : under U r ks = pick U m ks := by
  unfold under pick
  congr 1
  funext x
  apply decide_eq_decide.2
  constructor
  · rintro ⟨e, g⟩; exact ⟨r, e, d, g, h⟩
  · rintro ⟨r', e, d', g, g'⟩
    obtain rfl := (g'.det h).2
    exact ⟨e, g⟩
theorem classes_end {p bu bs nu N nF : Nat} {U U2 Z : Int → Option Int} {w w2 W : World} {ks : List Int} {f fo : Int → Option Hd} {bo base : Nat} (hF : Forest U Z) (hks1 : Rising ks) (hks2 : ∀ k, k ∈ ks ↔ (U k).isSome = true)
    (hU : Uni κI W p bu bs nu N U2 Z) (hh : Halved U U2) (hMo : MapR W bo fo nF) (hRows : RowsAt W base f (fun r => under U r ks))
    (hdn : ∀ r k, f r = some k → ∃ m, (under U r ks).head? = some m ∧ fo m = some k) (hfo : ∀ m k, fo m = some k → ∃ r, f r = some k ∧ (under U r ks).head? = some m) :
    ∃ G : Int → List Int, MapR W bo fo N ∧ RowsAt W base fo G ∧ (∀ m, (fo m).isSome = true → (∃ tl, G m = m :: tl) ∧ Rising (G m) ∧ ∀ x, x ∈ G m ↔ Eq2 U x m) ∧ (∀ x, (U x).isSome = true → ∃ m, (fo m).isSome = true ∧ Eq2 U x m) := by
  have hto : ∀ m k, fo m = some k → ∃ r d, f r = some k ∧ (under U r ks).head? = some m ∧ To U d m r := fun m k hm => by
    obtain ⟨r, h1, h2⟩ := hfo m k hm
    obtain ⟨d, hd⟩ := (under_mem.1 (List.mem_of_mem_head? (by rw [h2]; rfl) : m ∈ under U r ks)).2
    exact ⟨r, d, h1, h2, hd⟩
  have hcov : ∀ x, (U x).isSome = true → ∃ m r d e, (fo m).isSome = true ∧ To U d x r ∧ To U e m r := fun x hx => by
    obtain ⟨j, hj⟩ := Option.isSome_iff_exists.1 hx
    obtain ⟨d, r, hr⟩ := hF.up x j hj
    have hxu : x ∈ under U r ks := under_mem.2 ⟨(hks2 x).2 hx, d, hr⟩
    cases hf : f r with
    | none => have := hRows.no r hf; rw [this] at hxu; cases hxu
    | some k =>
      obtain ⟨m, h1, h2⟩ := hdn r k hf
      obtain ⟨e, he⟩ := (under_mem.1 (List.mem_of_mem_head? (by rw [h1]; rfl) : m ∈ under U r ks)).2
      exact ⟨m, r, d, e, by rw [h2]; rfl, hr, he⟩
  have hN : nF = N := by
    obtain ⟨D1, o1, r1, s1, _⟩ := hMo
    obtain ⟨D2, o2, r2, s2, _⟩ := hU.ms
    obtain ⟨n1, m1, l1⟩ := intKeys_of r1.has o1
    obtain ⟨n2, m2, l2⟩ := intKeys_of (s := fun k => (Z k).isSome) r2.has o2
    have hm2 : ∀ k, k ∈ intKeys D2 ↔ U2 k = some k := fun k => (m2 k).trans (hU.F.z k)
    have hroot : ∀ r, U2 r = some r ↔ U r = some r := fun r => (hU.F.z r).symm.trans (hF.z r)
    have hnd : ((intKeys D1).map (rootOf U)).Nodup := by
      refine List.pairwise_map.2 (n1.imp_of_mem fun {a b} ha hb hne e => hne ?_)
      obtain ⟨ka, hka⟩ := Option.isSome_iff_exists.1 ((m1 a).1 ha)
      obtain ⟨kb, hkb⟩ := Option.isSome_iff_exists.1 ((m1 b).1 hb)
      obtain ⟨ra, da, _, ha2, ha3⟩ := hto a ka hka
      obtain ⟨rb, db, _, hb2, hb3⟩ := hto b kb hkb
      rw [rootOf_eq ha3, rootOf_eq hb3] at e
      subst e
      rw [ha2] at hb2
      exact Option.some.inj hb2
    have h1 : ((intKeys D1).map (rootOf U)).length ≤ (intKeys D2).length := List.Nodup.length_le_of_subset hnd (fun x hx => by
      obtain ⟨a, ha, rfl⟩ := List.mem_map.1 hx
      obtain ⟨ka, hka⟩ := Option.isSome_iff_exists.1 ((m1 a).1 ha)
      obtain ⟨ra, da, _, ha2, ha3⟩ := hto a ka hka
      rw [rootOf_eq ha3, hm2, hroot]
      exact ha3.root)
    have h2 : (intKeys D2).length ≤ ((intKeys D1).map (rootOf U)).length := List.Nodup.length_le_of_subset n2 (fun x hx => by
      have hx' := (hroot x).1 ((hm2 x).1 hx)
      obtain ⟨m, r, d, e, g1, g2, g3⟩ := hcov x (by rw [hx']; rfl)
      obtain rfl := ((To.zero hx').det g2).2
      exact List.mem_map.2 ⟨m, (m1 m).2 g1, rootOf_eq g3⟩)
    rw [List.length_map, l1, l2, s1, s2] at *
    omega
  subst hN
  refine ⟨fun m => if (fo m).isSome = true then pick U m ks else [], hMo, ⟨fun m hm => by simp [hm], fun m k hm => ?_, fun m m' k k' hm hm' e => ?_⟩, fun m hm => ?_, fun x hx => ?_⟩
  · obtain ⟨r, d, h1, h2, h3⟩ := hto m k hm
    rw [if_pos (by rw [hm]; rfl), ← under_pick h3]
    exact hRows.own r k h1
  · obtain ⟨r, d, h1, h2, h3⟩ := hto m k hm
    obtain ⟨r', d', h1', h2', h3'⟩ := hto m' k' hm'
    obtain rfl := hRows.apart r r' k k' h1 h1' e
    rw [h2] at h2'
    exact Option.some.inj h2'
  · obtain ⟨k, hk⟩ := Option.isSome_iff_exists.1 hm
    obtain ⟨r, d, h1, h2, h3⟩ := hto m k hk
    simp only [if_pos hm]
    refine ⟨?_, hks1.sublist List.filter_sublist, fun x => ?_⟩
    · rw [← under_pick h3]
      cases hux : under U r ks with
      | nil => rw [hux] at h2; cases h2
      | cons a tl =>
        rw [hux] at h2
        have : a = m := Option.some.inj h2
        exact ⟨tl, by rw [this]⟩
    · rw [pick_mem]
      exact ⟨fun g => g.2, fun g => ⟨(hks2 x).2 ((Eq2.self_iff hF).1 (g.trans g.symm)), g⟩⟩
  · obtain ⟨m, r, d, e, g1, g2, g3⟩ := hcov x hx
    exact ⟨m, g1, r, d, e, g2, g3⟩
/-- what the first loop keeps -/
structure CA (p bu bs nu N : Nat) (U Z : Int → Option Int) (ks : List Int) (bR : Nat) (w2 : World) (i : Nat) (W : World) : Prop where
  ex : ∃ (U' : Int → Option Int) (f : Int → Option Hd) (nR : Nat), Uni κI W p bu bs nu N U' Z ∧ Halved U U' ∧ MapR W bR f nR ∧ nR ≤ i ∧ RowsAt W w2.heap.size f (fun r => under U r (ks.take i))
  low : KeepsBut (fun b => UX bu bs b ∨ b = bR ∨ w2.heap.size ≤ b) w2 W

set_option maxRecDepth 100000 in
set_option maxHeartbeats 8000000 in
theorem classes_calls {p bu bs nu N : Nat} {U Z : Int → Option Int} (w : World) (h : Uni κI w p bu bs nu N U Z) (hn : nu ≤ 100000) :
    Calls Try.prog 71 #[.pointer (some ⟨p, 0, none⟩)] w fun e w' => ∃ (b : Nat) (fo : Int → Option Hd) (G : Int → List Int) (U' : Int → Option Int), e = .returned (.map (some b)) ∧ w.heap.size ≤ b ∧ MapR w' b fo N ∧ RowsAt w' w.heap.size fo G ∧ (∀ m, (fo m).isSome = true → (∃ tl, G m = m :: tl) ∧ Rising (G m) ∧ ∀ x, x ∈ G m ↔ Eq2 U x m) ∧ (∀ x, (U x).isSome = true → ∃ m, (fo m).isSome = true ∧ Eq2 U x m) ∧ Uni κI w' p bu bs nu N U' Z ∧ Halved U U' ∧ KeepsBut (UX bu bs) w w' := by
  have hmm := @run_makeMap Try.prog
  have hmx : nu < maxLen := by unfold maxLen; omega
  have hplt : p < w.heap.size := World.block_lt_of_cell? _ _ h.cu
  have hbult := h.mu.lt
  have hbslt := h.ms.lt
  have hU1 := h.alloc (.map #[] 0)
  have hcu1 := hU1.cu
  obtain ⟨D, hown, hR, hsz, hwf⟩ := hU1.mu
  have hsk := sorted_keys 64 66 (ρ := Try.keys38_ren) { Try.keys38 with } rfl rfl (enters_of Try.func64 (by kernel_rfl) rfl) bu nu (fun k => (U k).isSome) (w.alloc (.map #[] 0)) hown hR.has (by omega)
  rw [World.size_alloc] at hsk
  go_enter Try.func71, Try.ntmps71
  go_wp2_with fail
  refine (keys38_calls (some bu) _).mono ?_
  rintro e w' ⟨rfl, rfl⟩
  go_wp2_with fail
  refine hsk.mono ?_
  clear hsk
  rintro e w2 ⟨vk, ks, rfl, hk1, hk2, hk3, hk4, hB2⟩
  rw [hsz] at hk3
  have hsA : (w.alloc (.map #[] 0)).heap.size = w.heap.size + 1 := by simp
  have hs2 : w.heap.size + 2 ≤ w2.heap.size := by have := hB2.size; simpa using this
  have hB0 : Below w.heap.size w w2 := ((below_alloc (Below.refl _ _) _).alloc (by simp) _).trans (hB2.mono (by omega))
  have hU2 : Uni κI w2 p bu bs nu N U Z := h.keep (keeps_below hB0 (fun _ => False)) id id id
  have hM2 : MapR w2 w.heap.size (fun _ => none) 0 := (MapR.made w).same (by
    rw [hB2.block _ (by omega), Below.heap_alloc _ _ _ (by simp)])
  obtain ⟨Ak, ck, rfl⟩ := own_shape hk4
  have hcell : Aside0 (∀ j x, ks[j]? = some x → ∃ ad, Ak = some ad ∧ w2.cell? (ad.add j) = some (.int .i64 x)) := ⟨fun j x hj => own_at hk4 (by rw [List.getElem?_map, hj]; rfl) (List.getElem?_eq_some_iff.1 hj).1⟩
  have hks : Aside0 (Rising ks ∧ (∀ k, k ∈ ks ↔ (U k).isSome = true) ∧ ks.length = nu) := ⟨⟨hk1, hk2, hk3⟩⟩
  have hC0 : Aside0 (CA p bu bs nu N U Z ks w.heap.size w2 0 w2) := ⟨⟨⟨U, _, 0, hU2, Halved.refl _, hM2, by omega, ⟨fun _ _ => rfl, fun _ _ h => (nomatch h), fun _ _ _ _ h => (nomatch h)⟩⟩, KeepsBut.refl _ _⟩⟩
  have hB0' := Aside0.mk hB0
  have hU2' := Aside0.mk hU2
  have hM2' := Aside0.mk hM2
  have hlen : ks.length ≤ 100000 := by omega
  clear hk1 hk2 hk3 hk4 hB2 hB0 hU2 hM2 hown hR hsz hwf hcu1 hU1
  go_wp2
  go_loopw [18] (fun v18 wr => ∃ (i : Nat), v18 = .int .i64 i ∧ i ≤ ks.length ∧ Aside0 (CA p bu bs nu N U Z ks w.heap.size w2 i wr)) (fun v18 _ => ks.length - (RowKit.intOf v18).toNat)
  case atStart => exact ⟨0, rfl, by omega, hC0⟩
  case round =>
    obtain ⟨i, rfl, hi, hC⟩ := hrel
    clear hC0
    by_cases hlt : i < ks.length
    · have hltb : decide ((i : Int) < (ks.length : Int)) = true := decide_eq_true (by omega)
      have hp0 : (0 : Int) ≤ (i : Int) := by omega
      have hq0 : (i : Int) < (ks.length : Int) := by omega
      obtain ⟨x, hx⟩ : ∃ x, ks[i] = x := ⟨_, rfl⟩
      have hx' : ks[i]? = some x := by rw [List.getElem?_eq_getElem hlt, hx]
      obtain ⟨ad, rfl, hck⟩ := hcell.out i x hx'
      obtain ⟨⟨U', f, nR, hU, hh, hM, hnR, hRows⟩, hlow⟩ := hC.out
      have hckr : wr.cell? (ad.add i) = some (.int .i64 x) := hlow.cell hck (by
        have hblk : (ad.add i).block = ad.block := by unfold Addr.add; split <;> rfl
        have g1 := hU2'.out.mu.noCell hck
        have g2 := hU2'.out.ms.noCell hck
        have g3 := hM2'.out.noCell hck
        have g4 := World.block_lt_of_cell? _ _ hck
        rintro ((g | g) | g | g)
        · exact g1 g
        · exact g2 g
        · exact g3 g
        · omega)
      have hxU : (U x).isSome = true := (hks.out.2.1 x).1 (List.mem_of_getElem? hx')
      have hroot := root_calls wr hU hmx (by rw [hh.dom]; exact hxU)
      clear hC
      go_wp2_with fail
      refine hroot.mono ?_
      clear hroot
      rintro e w5 ⟨r, U2, rfl, ⟨d, hto⟩, hU5, hh5, k5⟩
      obtain ⟨j0, hj0⟩ := Option.isSome_iff_exists.1 hxU
      obtain ⟨d0, r0, hto0⟩ := h.F.up x j0 hj0
      obtain ⟨d1, hto1⟩ := hh.tos _ _ _ hto0
      obtain rfl : r0 = r := (hto1.det hto).2
      have hwr : κI.wf r0 := (hU.mu.wfs hto.root).1
      have hbRn : ¬ UX bu bs w.heap.size := fun g => by rcases g with g | g <;> omega
      have hM5 : MapR w5 w.heap.size f nR := hM.same (k5.block _ hM.lt hbRn)
      have hR5 := hRows.keep k5 (fun s k hs g => by have := (hRows.own s k hs).1; rcases g with g | g <;> omega)
      have hl := hM5.look hwr
      have hrow := hR5.row r0
      have hul : (under U r0 (ks.take i)).length ≤ 100000 := by
        have : (under U r0 (ks.take i)).length ≤ (ks.take i).length := List.length_filter_le _ _
        rw [List.length_take] at this
        omega
      have hsz5 : w2.heap.size ≤ w5.heap.size := Nat.le_trans hlow.size k5.size
      have hownb : ∀ q, (hv (f r0)).ownBlock = some q → w2.heap.size ≤ q := fun q hq => (own_base hrow q hq).1
      obtain ⟨i0, hi0, hz0, hz1, hz2⟩ := info_parts info3
      have hlow5 := Aside0.mk (hlow.trans (k5.mono fun b g => Or.inl g))
      have hhU := Aside0.mk (hh.trans hh5)
      have htk : Aside0 ((fun s => under U s (ks.take (i + 1))) = gupd (fun s => under U s (ks.take i)) r0 x) := ⟨by
        rw [List.take_add_one, hx']
        exact under_snoc hto0 _⟩
      clear hU hh hM hRows hlow hto hto1 hh5 k5 hck hckr
      go_wp2_with (at_builtin; refine wpList_append_own_at _ rfl _ _ 36 rfl w2.heap.size 3 i0 _ 1 8 Try.underlying36 hi0 hz0 hz1 hz2 rfl (by decide) _ _ _ rfl (hrow.alloc _) ⟨w5.heap.size, 0, none⟩ 1 1 [.int .i64 x] rfl rfl (cell_one_new _ _ _) (by simp [Value.oneCell']) (by unfold maxLen; omega) (by omega) (by simp; omega) ?_; intro v' w6 hown' hgrow _ hat'; obtain ⟨k, rfl, hR6, hap, hbk⟩ := (hR5.alloc (.cells #[.int .i64 x] 3)).more hown' hgrow hat'; have hM6 : MapR w6 w.heap.size f nR := (hM5.same (Below.heap_alloc _ _ _ hM5.lt)).same (hgrow.block _ (by have := hM5.lt; simp; omega) (fun g => by have := hownb _ g.symm; omega)); obtain ⟨w7, hs1, hs2, hs3⟩ := hM6.store hwr k (by unfold maxLen; omega))
      have hk57 : KeepsBut (fun b => b = w.heap.size ∨ w2.heap.size ≤ b) w5 w7 := ((KeepsBut.alloc _ w5 _).trans (KeepsBut.of_grownBy hgrow fun q hq => .inr (hownb q hq))).trans (keeps_grown hs3 (.inl rfl))
      have hU7 := hU5.keep hk57 (by omega) (by omega) (by omega)
      have hR7 := hR6.keep (keeps_grown hs3 (X := fun b => b = w.heap.size) rfl) (fun s q hq g => by have := (hR6.own s q hq).1; omega)
      have hC7 : Aside0 (CA p bu bs nu N U Z ks w.heap.size w2 (i + 1) w7) := ⟨⟨⟨_, _, _, hU7, hhU.out, hs2, by split <;> omega, by rw [htk.out]; exact hR7⟩, hlow5.out.trans (hk57.mono fun b g => .inr g)⟩⟩
      clear hU7 hR7 hk57 hs2 hs3 hM6 hR6 hgrow hown' hat' hM5 hR5 hl hrow hU5
      go_wp2
      go_roundw
      case rel => exact ⟨i + 1, by go_num, by omega, hC7⟩
      case measure => simp [RowKit.intOf]; omega
    · have hltb : decide ((i : Int) < (ks.length : Int)) = false := decide_eq_false (by omega)
      obtain rfl : i = ks.length := by omega
      obtain ⟨⟨U', f, nR, hU, hh, hM, hnR, hRows⟩, hlow⟩ := hC.out
      rw [List.take_length] at hRows
      clear hC
      have hsz2 : w2.heap.size ≤ wr.heap.size := hlow.size
      have hM' : MapR (wr.alloc (.map #[] 0)) w.heap.size f nR := hM.same (Below.heap_alloc _ _ _ hM.lt)
      obtain ⟨D, hownR, hRd, hszD, hwfD⟩ := hM'
      have hMo : MapR (wr.alloc (.map #[] 0)) wr.heap.size (fun _ => none) 0 := MapR.made wr
      have hUo := hU.alloc (.map #[] 0)
      have hRo := hRows.alloc (.map #[] 0)
      have hlo : KeepsBut (fun b => UX bu bs b ∨ b = w.heap.size ∨ w2.heap.size ≤ b) w2 (wr.alloc (.map #[] 0)) := hlow.trans (KeepsBut.alloc _ wr _)
      go_wp2_with (at_range; refine wpList_range_own _ rfl _ 114 rfl 3 36 (int_keyed Try.underlying3) Try.underlying114 _ w.heap.size nR _ rfl hownR ?_; intro wb hrg hgb hsb)
      have hWs : (wr.alloc (.map #[] 0)).heap.size = wr.heap.size + 1 := by simp
      rw [hWs, hszD] at hrg
      have hkb := keeps_grown0 hgb (fun _ => False)
      have hB1 : Aside0 (CB p bu bs nu N U Z ks w.heap.size wr.heap.size (wr.heap.size + 1) nR D f w2 wb) :=
        ⟨⟨⟨U', _, _, _, 0, hUo.keep hkb id id id, hh, hrg, hMo.same (hgb.block _ hMo.lt (by simp)), by omega, (fun r k hr hl => by
          have := hRd.has r
          rw [hl, hr] at this; cases this), fun m k hm => (nomatch hm)⟩, hRo.keep hkb (fun _ _ _ => id), hlo.trans (keeps_grown0 hgb _)⟩⟩
      have hDf : Aside0 (ReadsH D f ∧ (∀ k, (f k).isSome = true → κI.wf k)) := ⟨⟨hRd, hwfD⟩⟩
      obtain ⟨bo, hbo⟩ : ∃ bo, wr.heap.size = bo := ⟨_, rfl⟩
      rw [hWs]
      rw [hbo] at hB1 ⊢
      have hbo2 : w2.heap.size ≤ bo := by omega
      clear hrg hgb hkb hMo hUo hRo hlo hownR hRd hwfD hU hh hM hRows hlow hsb
      go_frame
      go_loopw [9] (fun _ wq => Aside0 (CB p bu bs nu N U Z ks w.heap.size bo (bo + 1) nR D f w2 wq)) (fun _ wq => wq.rangeLeft w.heap.size (bo + 1))
      case atStart => exact hB1
      case round =>
        have hC := hrel
        clear hB1
        obtain ⟨⟨U2, left, cnt, fo, nF, hU, hh, hrg, hMo, hcn, hdn, hfo⟩, hRows, hlow⟩ := hC.out
        go_wp2_with (at_next; refine wpList_next_ranges _ rfl _ rfl 3 (int_keyed Try.underlying3) rdH (Value.int .i64) hv (fun key kl hk => by obtain ⟨x, hx, _⟩ := Maps.keyOf_i64 Try.underlying3 hk; exact ⟨x, hx⟩) (fun v y hy => rdH_cases hy) w.heap.size (bo + 1) nR _ _ _ rfl hrg ?_ ?_)
        · intro hc0 hl0
          obtain ⟨G, e1, e2, e3, e4⟩ := classes_end h.F hks.out.1 hks.out.2.1 hU hh hMo hRows (fun r k hr => hdn r k hr (hl0 _)) (fun m k hm => by obtain ⟨r, g1, g2, g3⟩ := hfo m k hm; exact ⟨r, g1, g3⟩) (w := w) (w2 := w2)
          have hbo3 : w.heap.size ≤ bo := by omega
          have hK : KeepsBut (UX bu bs) w wr := by
            have h0 : KeepsBut (UX bu bs) w w2 := keeps_below hB0'.out _
            refine ⟨hlow.os.trans h0.os, hlow.tape.trans h0.tape, hlow.output.trans h0.output, Nat.le_trans h0.size hlow.size, fun q hq hx => (hlow.block q (Nat.lt_of_lt_of_le hq h0.size) ?_).trans (h0.block q hq hx)⟩
            rintro (g | g | g)
            · exact hx g
            · omega
            · omega
          have e2' : RowsAt wr w.heap.size fo G := ⟨e2.no, fun r k hr => by
            obtain ⟨b1, b2, b3, b4⟩ := e2.own r k hr
            exact ⟨by omega, b2, b3, own_lower b4 (by omega)⟩, e2.apart⟩
          have hfin : Aside0 (∃ (b : Nat) (fo : Int → Option Hd) (G : Int → List Int) (U' : Int → Option Int), Ending.returned (.map (some bo)) = .returned (.map (some b)) ∧ w.heap.size ≤ b ∧ MapR wr b fo N ∧ RowsAt wr w.heap.size fo G ∧ (∀ m, (fo m).isSome = true → (∃ tl, G m = m :: tl) ∧ Rising (G m) ∧ ∀ x, x ∈ G m ↔ Eq2 U x m) ∧ (∀ x, (U x).isSome = true → ∃ m, (fo m).isSome = true ∧ Eq2 U x m) ∧ Uni κI wr p bu bs nu N U' Z ∧ Halved U U' ∧ KeepsBut (UX bu bs) w wr) :=
            ⟨⟨bo, fo, G, U2, rfl, hbo3, e1, e2', e3, e4, hU, hh, hK⟩⟩
          clear e1 e2 e2' e3 e4 hdn hfo hRows hMo hrg hU hh hlow hC hK
          go_wp2
          go_ret
          exact hfin.out
        · intro x c kl yd yp w6 cnt2 hkey hlk hv' hat hrg2 hlt2 hg2 hs2' hen
          obtain ⟨x', ex, rfl, hwx⟩ := Maps.keyOf_i64 Try.underlying3 hkey
          obtain rfl : x = x' := encZ_inj ex
          have hcf : f x = c := hd_inj (by
            rw [rdH_hv] at hv'
            rw [← hDf.out.1.at_ x, hat (.lit (.bool false))]
            exact (congrArg Prod.fst (Option.some.inj hv')).symm)
          have hhas : Maps.has D (.int .i64 x) = true := Maps.has_true_of_atKey hat
          rw [hDf.out.1.has x] at hhas
          obtain ⟨k, hk⟩ := Option.isSome_iff_exists.1 hhas
          obtain rfl : c = some k := by rw [← hcf, hk]
          clear hcf hat hhas ex
          have k6 : KeepsBut (fun b => b = bo + 1) wr w6 := keeps_grown hg2 rfl
          have hRows6 := hRows.keep k6 (fun r q hr g => by
            obtain ⟨cur, hcur⟩ := hRows.cells hr
            obtain ⟨ob, ho1, ho2⟩ := hrg.iter_walk
            have g' : q.g = bo + 1 := g
            rw [g', ho1] at hcur
            obtain rfl := Option.some.inj hcur
            cases ho2)
          obtain ⟨a1, a2, a3, a4⟩ := hRows6.own x k hk
          obtain ⟨m, tl, hmt⟩ : ∃ m tl, under U x ks = m :: tl := by
            cases hux : under U x ks with
            | nil => exact absurd hux a3
            | cons m tl => exact ⟨m, tl, rfl⟩
          have hmu : m ∈ under U x ks := by rw [hmt]; simp
          have hkn : k.n = tl.length + 1 := by rw [a2, hmt]; rfl
          have hq0 : (0 : Int) < (k.n : Int) := by omega
          have hp0 : (0 : Int) ≤ 0 := Int.le_refl _
          have hcm : w6.cell? ⟨k.g, 0, none⟩ = some (.int .i64 m) := by
            unfold Hd.val at a4
            rw [a2] at a4
            obtain ⟨ad, e1, e2⟩ := own_at a4 (j := 0) (x := .int .i64 m) (by rw [hmt]; rfl) (by rw [hmt]; simp)
            obtain rfl := Option.some.inj e1
            exact e2
          have hwm : κI.wf m := by
            have : (U2 m).isSome = true := by rw [hh.dom]; exact (hks.out.2.1 m).1 (under_mem.1 hmu).1
            obtain ⟨j, hj⟩ := Option.isSome_iff_exists.1 this
            exact (hU.mu.wfs hj).1
          have hfom : fo m = none := by
            cases hq : fo m with
            | none => rfl
            | some q =>
              obtain ⟨r, g1, g2, g3⟩ := hfo m q hq
              have hmr : m ∈ under U r ks := List.mem_of_mem_head? (by rw [g3]; rfl)
              obtain ⟨d1, t1⟩ := (under_mem.1 hmr).2
              obtain ⟨d2, t2⟩ := (under_mem.1 hmu).2
              obtain rfl := (t1.det t2).2
              rw [hlk] at g2; cases g2
          have hMo6 := hMo.same (k6.block bo hMo.lt (fun g => by have g' : bo = bo + 1 := g; omega))
          obtain ⟨w7, s1, s2, s3⟩ := hMo6.store hwm k (by unfold maxLen; omega)
          rw [hfom] at s2
          have hrg7 := ranges_kpB (B0 := bo + 1) hrg2 (Nat.le_refl _) (KpB.of_keeps (keeps_grown s3 (X := fun b => b = bo) rfl) (fun g => by have g' : w.heap.size = bo := g; omega) (fun q hq g => by have g' : q = bo := g; omega))
          have hRows7 := hRows6.keep (keeps_grown s3 (X := fun b => b = bo) rfl) (fun r q hr g => by
            obtain ⟨cur, hcur⟩ := hRows6.cells hr
            obtain ⟨es, ck', hb'⟩ := hMo6.block
            have g' : q.g = bo := g
            rw [g', hb'] at hcur
            cases hcur)
          have k67 : KeepsBut (fun b => w2.heap.size ≤ b) wr w7 := (k6.mono fun b g => by have g' : b = bo + 1 := g; show w2.heap.size ≤ b; omega).trans (keeps_grown s3 (show w2.heap.size ≤ bo from hbo2))
          have hfin : Aside0 (CB p bu bs nu N U Z ks w.heap.size bo (bo + 1) nR D f w2 w7) := by
            refine ⟨⟨⟨U2, _, cnt2, _, nF + 1, hU.keep k67 (fun g => by have g' : w2.heap.size ≤ p := g; omega) (fun g => by have g' : w2.heap.size ≤ bu := g; omega) (fun g => by have g' : w2.heap.size ≤ bs := g; omega), hh, hrg7, s2, by omega, ?_, ?_⟩, hRows7, hlow.trans (k67.mono fun b g => .inr (.inr g))⟩⟩
            · intro r q hr hl
              by_cases er : r = x
              · subst er
                rw [hk] at hr
                obtain rfl := Option.some.inj hr
                exact ⟨m, by rw [hmt]; rfl, updK_same _ _ _⟩
              · have hl' : left (.int .i64 r) = false := by
                  have : Lit.sameKey (.int .i64 r) (.int .i64 x) = false := by simp [Lit.sameKey, er]
                  rw [this] at hl
                  simpa using hl
                obtain ⟨m', g1, g2⟩ := hdn r q hr hl'
                refine ⟨m', g1, ?_⟩
                rw [updK_other (fun e => by rw [e, hfom] at g2; cases g2)]
                exact g2
            · intro m' q hq
              by_cases em : m' = m
              · subst em
                rw [updK_same] at hq
                obtain rfl := Option.some.inj hq
                exact ⟨x, hk, by simp [Lit.sameKey], by rw [hmt]; rfl⟩
              · rw [updK_other em] at hq
                obtain ⟨r, g1, g2, g3⟩ := hfo m' q hq
                exact ⟨r, g1, by rw [g2]; rfl, g3⟩
          have hmeas : wr.rangeLeft w.heap.size (bo + 1) = cnt := hrg.left_eq
          have hmeas7 : w7.rangeLeft w.heap.size (bo + 1) = cnt2 := hrg7.left_eq
          simp only [hv, Hd.val] at hen s1 ⊢
          clear hrg hrg2 hrg7 hMo hMo6 hRows hRows6 hRows7 hU hC hlow a4 s2 s3 hg2 hs2' hdn hfo k6 k67 hkn a1 a2 a3 hmt hmu hfom hk
          go_wp2
          go_roundw
          case rel => exact hfin
          case measure => rw [hmeas7, hmeas]; exact hlt2
end Go.Proofs.Yteeapfmgdlcgfaa.A


namespace Go.Proofs.Yteeapfmgdlcgfaa.A
open Go.RowKit

/-- J s: s: how large the heap was at the first round -/
def SeqR {α : Type} (F : Fence) (n : Nat) (P : Program) (g : Nat) (lb : Array Value) (encs : α → Array Value) (X : Nat → Prop) (Pre : Nat → Nat → α → World → Prop) (Kp : Nat → Nat → α → World → World → Prop) (S : List α → Prop) (Q : World → Prop) (Nn : Nat) (w : World) : Prop :=
  ∀ (l : Nat) (J : Nat → List α → World → Prop) (W : World), Below w.heap.size w W → (∀ W1, KeepsBut X W W1 → J W1.heap.size [] W1) →
    (∀ s pre x W1, W.heap.size ≤ s → s ≤ W1.heap.size → J s pre W1 → Pre W.heap.size s x W1 → pre.length < Nn → YieldAt F (n - 1) P l (encs x) W1 fun e W' =>
      e = .returned (.bool true) ∧ J s (pre ++ [x]) W' ∧ Kp W.heap.size s x W1 W') →
    CallsIn F n P g (#[.func (.yield l) #[] #[]] ++ lb) W fun e W' => (∃ v, e = .returned v) ∧ ∃ s xs, S xs ∧ J s xs W' ∧ Q W'

variable {F : Fence} {n : Nat} {P : Program}

theorem wpIn_rangeFunc_R {α : Type} {g : Operand} {ps : Array Tmp} {assign body : Code} {Q : Exit → Act → World → Prop} {a : Act} {w : World}
    (hro : F.round = none) (h1 : 1 ≤ n) {gf : Nat} {lb : Array Value} (hg : a.eval g = .func (.func gf) #[] lb) (hFg : F.fn gf) (eg : ∀ args w, (callFunc gf args).run P w = .ok (.enter gf args) w)
    {encs : α → Array Value} {X : Nat → Prop} {Pre : Nat → Nat → α → World → Prop} {Kp : Nat → Nat → α → World → World → Prop} {S : List α → Prop} {Qe : World → Prop} {Nn : Nat} {w0 : World} (hseq : SeqR F (n - 1) P gf lb encs X Pre Kp S Qe Nn w0)
    (hXd : ∀ k, X k → k < w.heap.size) (hKt : ∀ {s x} {A B C : World}, Kp (w.heap.size + 2) s x A B → Kp (w.heap.size + 2) s x B C → Kp (w.heap.size + 2) s x A C)
    (hKb : ∀ (s : Nat) (x : α) (W : World) (l : Nat) (o : Obj), w.heap.size ≤ l → l ≤ w.heap.size + 1 → Kp (w.heap.size + 2) s x W (W.putObj l o))
    (hPb : ∀ (s : Nat) (x : α) (W : World) (l : Nat) (o : Obj), w.heap.size ≤ l → l ≤ w.heap.size + 1 → Pre (w.heap.size + 2) s x W → Pre (w.heap.size + 2) s x (W.putObj l o))
    (hQb : ∀ (W : World) (l : Nat) (o : Obj), w.heap.size ≤ l → l ≤ w.heap.size + 1 → Qe W → Qe (W.putObj l o)) (hb0 : Below w0.heap.size w0 w) (hps : ∀ x, (encs x).size = ps.size)
    (I : Nat → List α → World → Prop) (hI : ∀ s pre (W : World) (l : Nat) (o : Obj), w.heap.size ≤ l → l ≤ w.heap.size + 1 → I s pre W → I s pre (W.putObj l o)) (h0 : ∀ W1, KeepsBut X w W1 → w.heap.size + 2 ≤ W1.heap.size → I W1.heap.size [] W1) (a₁ : α → Act)
    (hassign : ∀ (l : Nat) (x : α) (W : World) (K : Act → World → Prop), K (a₁ x) W →
      assign.wpIn (F.inRound l) (n - 1 - 1) P (Exit.then K (fun _ _ _ => False)) { tmps := (ps.zip (encs x)).foldl (fun t (p, v) => t.setIfInBounds p v) a.tmps, defers := [] } W)
    (hbody : ∀ (l s : Nat) (pre : List α) (x : α) (W : World), w.heap.size + 2 ≤ s → s ≤ W.heap.size → I s pre W → Pre (w.heap.size + 2) s x W → pre.length < Nn →
      body.wpIn (F.inRound l) (n - 1 - 1) P (ownPostG w.heap.size (Kp (w.heap.size + 2) s x) (I s) (fun _ _ _ => False) (pre ++ [x]) W) (a₁ x) W)
    (hdone : ∀ (D s : Nat) (xs : List α) (W : World), w.heap.size ≤ D → D ≤ w.heap.size + 1 → S xs → I s xs W → Qe W → W.heap[D]? = some (.deferred (some [])) → Q .normal { a with defers := { target := .collected D, args := #[] } :: a.defers } W) :
    (Code.rangeFunc g ps assign body).wpIn F n P Q a w := by
  refine wpIn_rangeFunc ?_
  intro fn hfn
  rw [hro]
  obtain ⟨rec, hrec⟩ : ∃ rec : LoopState → Option Code → Loop, rec = fun st pe => { state := st, pending := pe, fn, tmps := a.tmps, params := ps, assign, body, defers := w.heap.size } := ⟨_, rfl⟩
  obtain ⟨W1, hW1⟩ : ∃ W1, (w.alloc (.deferred (some []))).alloc (.loop (rec .ready none)) = W1 := ⟨_, rfl⟩
  have hL1 : W1.heap[w.heap.size + 1]? = some (.loop (rec .ready none)) := by
    rw [← hW1]; have := World.alloc_heap_new (w.alloc (.deferred (some []))) (.loop (rec .ready none)); rwa [World.size_alloc] at this
  have hK1 : W1.heap[w.heap.size]? = some (.deferred (some [])) := by
    rw [← hW1]; exact (Below.heap_alloc _ _ _ (by simp)).trans (World.alloc_heap_new w _)
  have hb1 : Below w0.heap.size w0 W1 := by
    rw [← hW1]; exact hb0.trans ((((Below.refl _ w).alloc (Nat.le_refl _) _).alloc (by simp) _).mono hb0.size)
  have hsz : W1.heap.size = w.heap.size + 2 := by rw [← hW1]; simp
  have hw1 : KeepsBut X w W1 := by rw [← hW1]; exact (KeepsBut.alloc X w _).trans (KeepsBut.alloc X _ _)
  refine ⟨w.heap.size + 1, [{ target := .collected w.heap.size, args := #[] }], W1, { target := .fn (.func gf) lb, args := #[.func (.yield (w.heap.size + 1)) #[] #[]] }, W1, gf,
    #[.func (.yield (w.heap.size + 1)) #[] #[]] ++ lb, W1, ?_, ?_, ?_, ?_, fun _ => h1, ?_⟩
  · rw [← hW1, hrec]; exact run_enterLoop_outer _ _ _ _ _
  · simp only [resolve, hg]
    simp [go_sem]
  · intro f' hf'; simp [Target.leads] at hf'; subst hf'; exact hFg
  · simp [invoke, go_sem, eg]
  · refine (hseq (w.heap.size + 1)
      (fun s pre W => I s pre W ∧ W.heap[w.heap.size + 1]? = some (.loop (rec .ready none)) ∧ W.heap[w.heap.size]? = some (.deferred (some [])))
      W1 hb1 (fun W2 hk => ?_) ?_).mono ?_
    · exact ⟨h0 W2 (hw1.trans hk) (by have := hk.size; omega), (hk.block _ (by omega) (fun h => by have := hXd _ h; omega)).trans hL1, (hk.block _ (by omega) (fun h => by have := hXd _ h; omega)).trans hK1⟩
    · rw [hsz]
      rintro s pre x W hs1 hs2 ⟨hi, hl, hk⟩ hP hNn
      have hlt : w.heap.size + 1 < W.heap.size := (Array.getElem?_eq_some_iff.1 hl).1
      have hy := run_yield (P := P) (args := encs x) hl (by rw [hrec]; exact hps x)
      rw [hrec] at hy
      refine ⟨fn, _, assign, body, hy, roundIn_of_wpIn hfn (hassign _ x W _ ⟨_, run_beginRound hl (by rw [hrec]), ?_⟩)⟩
      have hl2 : (W.putObj (w.heap.size + 1) (.loop { rec .ready none with state := .busy })).heap[w.heap.size + 1]? = some (.loop { rec .ready none with state := .busy }) := World.putObj_heap_same hlt
      have hk2 : (W.putObj (w.heap.size + 1) (.loop { rec .ready none with state := .busy })).heap[w.heap.size]? = some (.deferred (some [])) := (World.putObj_heap_other (by omega)).trans hk
      have hw2 : Kp (w.heap.size + 2) s x W (W.putObj (w.heap.size + 1) (.loop { rec .ready none with state := .busy })) := hKb _ _ _ _ _ (by omega) (by omega)
      refine wpIn_mono (hbody _ s pre x _ hs1 (by simpa using hs2) (hI _ _ _ _ _ (by omega) (by omega) hi) (hPb _ _ _ _ _ (by omega) (by omega) hP) hNn) ?_
      have fin : ∀ (W3 : World), KeepsFrom w.heap.size (W.putObj (w.heap.size + 1) (.loop { rec .ready none with state := .busy })) W3 →
          (Instr.endRound (w.heap.size + 1) none).run P W3 = .ok (.bool true) (W3.putObj (w.heap.size + 1) (.loop (rec .ready none))) ∧
          (W3.putObj (w.heap.size + 1) (.loop (rec .ready none))).heap[w.heap.size + 1]? = some (.loop (rec .ready none)) ∧
          (W3.putObj (w.heap.size + 1) (.loop (rec .ready none))).heap[w.heap.size]? = some (.deferred (some [])) := fun W3 hk3 => by
        have hl3 := hk3.same _ _ (by omega) hl2 rfl
        have := run_endRound (P := P) none hl3
        rw [hrec] at this ⊢
        exact ⟨this, World.putObj_heap_same (Array.getElem?_eq_some_iff.1 hl3).1, (World.putObj_heap_other (by omega)).trans (hk3.same _ _ (Nat.le_refl _) hk2 rfl)⟩
      rintro e a3 W3 hp
      cases e with
      | normal =>
        obtain ⟨hk3, hkp3, hi3⟩ := hp
        obtain ⟨hr, hl4, hk4⟩ := fin W3 hk3
        exact ⟨_, _, hr, rfl, ⟨hI _ _ _ _ _ (by omega) (by omega) hi3, hl4, hk4⟩, hKt (hKt hw2 hkp3) (hKb _ _ _ _ _ (by omega) (by omega))⟩
      | ret => exact hp.2.elim
      | exit id => exact hp.2.elim
      | goto t => exact hp.2.elim
      | panic ch => exact hp.elim
      | outgrown => exact hp.elim
    · rintro e W2 ⟨⟨v, rfl⟩, s, xs, hS, ⟨hi, hl, hk⟩, hq⟩
      exact ⟨none, _, by have := run_endLoop (P := P) hl (by rw [hrec]; simp); rw [hrec] at this; exact this, hdone _ s xs _ (Nat.le_refl _) (by omega) hS (hI _ _ _ _ _ (by omega) (by omega) hi) (hQb _ _ _ (by omega) (by omega) hq) ((World.putObj_heap_other (by omega)).trans hk)⟩
end Go.Proofs.Yteeapfmgdlcgfaa.A


namespace Go.Proofs.Yteeapfmgdlcgfaa.A
open Go.RowKit Go.Maps Go.Sort Go.Shelf Go.Proofs.YteeapfmgdlcgfaaW.PrintWords Go.Proofs.YteeapfmgdlcgfaaW.PrintLast
set_option linter.unusedVariables false
set_option linter.unusedSimpArgs false

/-- what comes: the least one, its row's header, its row -/
structure Ent where
  m : Int
  k : Hd
  row : List Int
def Ent.encs (x : Ent) : Array Value := #[.int .i64 x.m, x.k.val]
/-- a row of a class, rising, its least one first -/
structure IsRow (E : Int → Int → Prop) (x : Ent) : Prop where
  head : ∃ tl, x.row = x.m :: tl
  rising : Rising x.row
  mem : ∀ y, y ∈ x.row ↔ E y x.m
def PreE (E : Int → Int → Prop) (B s : Nat) (x : Ent) (W : World) : Prop := IsRow E x ∧ x.k.n = x.row.length ∧ B ≤ x.k.g ∧ x.k.g < s ∧ W.ownsRow B 3 1 x.k.val x.row.length (x.row.map (Value.int .i64))
def KpE (p bu bs : Nat) (B s : Nat) (x : Ent) (W W' : World) : Prop := W.heap.size ≤ W'.heap.size ∧ ∀ k, ((B ≤ k ∧ k < s) ∨ k = p ∨ k = bu ∨ k = bs) → k ≠ x.k.g → W'.heap[k]? = W.heap[k]?
structure AllE (E : Int → Int → Prop) (N : Nat) (xs : List Ent) : Prop where
  rising : Rising (xs.map (·.m))
  len : xs.length = N
  row : ∀ x ∈ xs, IsRow E x
  cover : ∀ y, E y y → ∃ x ∈ xs, E y x.m
theorem keys73_calls (mb : Option Nat) (W : World) : Calls Try.prog 73 #[.map mb] W fun e w' => e = .returned (.func (.func 103) #[] #[.pointer (some ⟨W.heap.size, 0, none⟩)]) ∧ w' = W.alloc (.cells #[.map mb] 114) :=
  (callsIn_wide (n := 5)).1 (AnyZI.keys_in Try.keys73 Fence.wide 5 trivial rfl mb W)

theorem cell_block {W W' : World} {a : Addr} {v : Value} (h : W.cell? a = some v) (hb : W'.heap[a.block]? = W.heap[a.block]?) : W'.cell? a = some v := by
  unfold World.cell? at h ⊢; rw [hb]; exact h
theorem own_block {W W' : World} {base : Nat} {e : TypeId} {size : Nat} {v : Value} {k : Nat} {xs : List Value} (h : W.ownsRow base e size v k xs) (hb : ∀ g, v.ownBlock = some g → W'.heap[g]? = W.heap[g]?) : W'.ownsRow base e size v k xs := by
  refine ⟨h.1, ?_⟩
  rcases h.2 with h0 | ⟨g, cap, cur, rfl, hbb, hgb, hr⟩
  · exact .inl h0
  · exact .inr ⟨g, cap, cur, rfl, hbb, (hb g rfl).trans hgb, hr⟩
/-- what the loop of All keeps -/
structure AI (J : Nat → List Ent → World → Prop) (p bu bs B : Nat) (fo : Int → Option Hd) (E : Int → Int → Prop) (ks : List Int) (W2 : World) (j : Nat) (ents : List Ent) (W : World) : Prop where
  ms : ents.map (·.m) = ks.take j
  rows : ∀ x ∈ ents, IsRow E x
  le : W2.heap.size ≤ W.heap.size
  kept : ∀ k, ((B ≤ k ∧ k < W2.heap.size) ∨ k = p ∨ k = bu ∨ k = bs) → (∀ m h, m ∈ ks.take j → fo m = some h → k ≠ h.g) → W.heap[k]? = W2.heap[k]?
  j : J W2.heap.size ents W

set_option maxRecDepth 100000 in
set_option maxHeartbeats 8000000 in
theorem all70_R {p bu bs nu N Bx : Nat} {U Z : Int → Option Int} (w : World) (h : Uni κI w p bu bs nu N U Z) (hn : nu ≤ 100000) (hN : N ≤ 100000) (hbx : w.cell? ⟨Bx, 0, none⟩ = some (.pointer (some ⟨p, 0, none⟩))) :
    SeqR Fence.wide 4 Try.prog 70 #[.pointer (some ⟨Bx, 0, none⟩)] Ent.encs (UX bu bs) (PreE (Eq2 U)) (KpE p bu bs) (AllE (Eq2 U) N) (fun W => ∃ U', Uni κI W p bu bs nu N U' Z ∧ Halved U U') N w := by
  intro l J W hW h0 hY
  have hplt : p < w.heap.size := World.block_lt_of_cell? _ _ h.cu
  have hbult := h.mu.lt
  have hbslt := h.ms.lt
  have hwW := hW.size
  have hUW : Uni κI W p bu bs nu N U Z := h.keep (keeps_below hW (fun _ => False)) id id id
  have hbxW : W.cell? ⟨Bx, 0, none⟩ = some (.pointer (some ⟨p, 0, none⟩)) := (hW.cell (p := ⟨Bx, 0, none⟩) (World.block_lt_of_cell? _ _ hbx)).trans hbx
  have hcl := classes_calls W hUW hn
  refine callsIn_of_wp Try.func70 rfl trivial ?_ rfl
  simp only [Try.ntmps70, List.size_toArray, List.length_cons, List.length_nil, Nat.reduceAdd, Nat.reduceSub, Array.replicate_succ, Array.replicate_zero, List.push_toArray, List.append_toArray, List.nil_append, List.cons_append]
  gi_wp2_with (first
    | ((try refine ⟨trivial, ?_⟩); gi_at_call 71; refine (callsIn_wide.2 hcl).mono ?_; clear hcl; rintro e W1 ⟨bo, fo, G, U1, rfl, hbo, hMo, hRows, hG1, hG2, hU1, hh1, k1⟩; obtain ⟨D, hownD, hRD, hszD, hwfD⟩ := hMo; have hsk := sorted_keys 103 114 (ρ := Try.keys73_ren) { Try.keys73 with } rfl rfl (enters_of Try.func103 (by kernel_rfl) rfl) bo N (fun k => (fo k).isSome) W1 hownD hRD.has (by omega))
    | ((try refine ⟨trivial, ?_⟩); gi_at_call 73; refine (callsIn_wide.2 (keys73_calls _ _)).mono ?_; rintro e w' ⟨rfl, rfl⟩)
    | ((try refine ⟨trivial, ?_⟩); gi_at_call 72; refine (callsIn_wide.2 hsk).mono ?_; clear hsk; rintro e W2 ⟨vk, ks, rfl, hk1, hk2, hk3, hk4, hB2⟩; obtain ⟨Ak, ck, rfl⟩ := own_shape hk4))
  have hcell : Aside0 (∀ j x, ks[j]? = some x → ∃ ad, Ak = some ad ∧ W1.heap.size + 1 ≤ ad.block ∧ ad.block < W2.heap.size ∧ W2.cell? (ad.add j) = some (.int .i64 x)) := ⟨fun j x hj => by
    obtain ⟨ad, rfl, hc⟩ := own_at hk4 (by rw [List.getElem?_map, hj]; rfl) (List.getElem?_eq_some_iff.1 hj).1
    have hblk : (ad.add j).block = ad.block := by unfold Addr.add; split <;> rfl
    obtain ⟨b1, b2⟩ := own_base hk4 ad.block rfl
    exact ⟨ad, rfl, b1, b2, hc⟩⟩
  have hks : Aside0 (Rising ks ∧ (∀ k, k ∈ ks ↔ (fo k).isSome = true) ∧ ks.length = N) := ⟨⟨hk1, hk2, by rw [hk3, hszD]⟩⟩
  have hlen : ks.length ≤ 100000 := by rw [hk3, hszD]; exact hN
  have hs12 : W1.heap.size + 1 ≤ W2.heap.size := by have := hB2.size; simpa using this
  have hB12 : Below W1.heap.size W1 W2 := (((Below.refl _ W1).alloc (Nat.le_refl _) _)).trans (hB2.mono (by omega))
  have hrg : Aside0 (∀ m k, fo m = some k → W.heap.size ≤ k.g ∧ k.g < W1.heap.size ∧ k.n = (G m).length ∧ W2.ownsRow W.heap.size 3 1 k.val (G m).length ((G m).map (Value.int .i64)) ∧ ∃ cur : Array Value, W2.heap[k.g]? = some (.cells cur 3 (0, 0))) := ⟨fun m k hm => by
    obtain ⟨a1, a2, a3, a4⟩ := hRows.own m k hm
    have hlt := hRows.lt hm
    obtain ⟨cur, hcur⟩ := hRows.cells hm
    refine ⟨a1, hlt, a2, own_block a4 (fun g hg => ?_), cur, (hB12.block _ hlt).trans hcur⟩
    have : k.g = g := by simpa [Hd.val, Value.ownBlock] using hg
    subst this
    exact hB12.block _ hlt⟩
  have hap : Aside0 (∀ r s h k, fo r = some h → fo s = some k → h.g = k.g → r = s) := ⟨hRows.apart⟩
  have hM2 : Aside0 (MapR W2 bo fo N ∧ W.heap.size ≤ bo ∧ bo < W1.heap.size) := ⟨⟨MapR.same ⟨D, hownD, hRD, hszD, hwfD⟩ (hB12.block _ hownD.lt), hbo, hownD.lt⟩⟩
  have hU2 : Aside0 (Uni κI W2 p bu bs nu N U1 Z) := ⟨hU1.keep (keeps_below hB12 (fun _ => False)) id id id⟩
  have hk12 : KeepsBut (UX bu bs) W W2 := k1.trans (keeps_below hB12 _)
  have hG : Aside0 ((∀ m, (fo m).isSome = true → (∃ tl, G m = m :: tl) ∧ Rising (G m) ∧ ∀ x, x ∈ G m ↔ Eq2 U x m) ∧ ∀ x, (U x).isSome = true → ∃ m, (fo m).isSome = true ∧ Eq2 U x m) := ⟨⟨hG1, hG2⟩⟩
  have hpl : p < W.heap.size ∧ bu < W.heap.size ∧ bs < W.heap.size := by omega
  have hI0 : Aside0 (AI J p bu bs W.heap.size fo (Eq2 U) ks W2 0 [] W2) := ⟨⟨rfl, fun _ h => (nomatch h), Nat.le_refl _, fun _ _ _ => rfl, h0 W2 hk12⟩⟩
  have hfoS : Aside0 (∀ m, (fo m).isSome = true → κI.wf m) := ⟨hwfD⟩
  have hsB1 : W.heap.size ≤ W1.heap.size := by have := k1.size; omega
  clear hk1 hk2 hk3 hk4 hB2 hB12 hRows hG1 hG2 hU1 k1 hk12 hownD hRD hszD hwfD hbo h0
  have hY' := Aside0.mk hY
  clear hY
  gi_loopw [12] (fun v12 wr => ∃ (j : Nat) (ents : List Ent), v12 = .int .i64 j ∧ j ≤ N ∧ Aside0 (AI J p bu bs W.heap.size fo (Eq2 U) ks W2 j ents wr)) (fun v12 _ => N - (RowKit.intOf v12).toNat)
  case atStart => exact ⟨0, [], rfl, by omega, hI0⟩
  case round =>
    obtain ⟨j, ents, rfl, hj, hI⟩ := hrel
    clear hI0
    have hkl := hks.out.2.2
    have hkl' := Aside0.mk hkl
    clear hkl
    by_cases hlt : j < N
    · have hltb : decide ((j : Int) < (N : Int)) = true := decide_eq_true (by omega)
      have hp0 : (0 : Int) ≤ (j : Int) := by omega
      have hq0 : (j : Int) < (N : Int) := by omega
      have hlt' : Aside0 (j < ks.length) := ⟨by rw [hkl'.out]; exact hlt⟩
      obtain ⟨x, hx'⟩ : ∃ x, ks[j]? = some x := ⟨_, List.getElem?_eq_getElem hlt'.out⟩
      obtain ⟨ad, rfl, hab1, hab2, hck⟩ := hcell.out j x hx'
      have hblk : (ad.add j).block = ad.block := by unfold Addr.add; split <;> rfl
      have hckr : wr.cell? (ad.add j) = some (.int .i64 x) := cell_block hck (hI.out.kept _ (.inl ⟨by omega, by omega⟩) (fun m k _ hm e => by have := (hrg.out m k hm).2.1; omega))
      have hxm : (fo x).isSome = true := (hks.out.2.1 x).1 (List.mem_of_getElem? hx')
      obtain ⟨k, hk⟩ := Option.isSome_iff_exists.1 hxm
      have hMr : MapR wr bo fo N := hM2.out.1.same (hI.out.kept _ (.inl ⟨hM2.out.2.1, by have := hM2.out.2.2; omega⟩) (fun m q _ hm e => by
        obtain ⟨_, _, _, _, cur, hcur⟩ := hrg.out m q hm
        obtain ⟨es, ck', hb'⟩ := hM2.out.1.block
        rw [← e, hb'] at hcur
        cases hcur))
      have hl := hMr.look (hfoS.out x hxm)
      rw [hk] at hl
      simp only [hv, Hd.val] at hl
      obtain ⟨r1, r2, r3, r4, _⟩ := hrg.out x k hk
      have hnot : ∀ m q, m ∈ ks.take j → fo m = some q → k.g ≠ q.g := fun m q hm hq e => by
        obtain rfl := hap.out x m k q hk hq e
        have hnd : ks.Nodup := hks.out.1.imp (fun h e => by omega)
        obtain ⟨i, hi, hi2⟩ := List.getElem_of_mem hm
        rw [List.length_take] at hi
        rw [List.getElem_take] at hi2
        have := (List.getElem_inj hnd (i := i) (j := j) (h₀ := by omega) (h₁ := hlt'.out)).1 (by rw [hi2]; exact ((List.getElem_eq_iff hlt'.out).2 hx').symm)
        omega
      have hrow : wr.ownsRow W.heap.size 3 1 k.val (G x).length ((G x).map (Value.int .i64)) := own_block r4 (fun g hg => by
        have : k.g = g := by simpa [Hd.val, Value.ownBlock] using hg
        subst this
        exact hI.out.kept _ (.inl ⟨r1, by omega⟩) hnot)
      obtain ⟨g1, g2, g3⟩ := hG.out.1 x hxm
      have hIR : IsRow (Eq2 U) ⟨x, k, G x⟩ := ⟨g1, g2, g3⟩
      obtain ⟨fn, tmps, assign, body, hy, hR⟩ := hY'.out W2.heap.size ents ⟨x, k, G x⟩ wr (by omega) hI.out.le hI.out.j ⟨hIR, r3, r1, by show k.g < _; omega, hrow⟩ (by have := congrArg List.length hI.out.ms; rw [List.length_map, List.length_take] at this; omega)
      simp only [Ent.encs, Hd.val] at hy
      clear hMr hrow g1 g2 g3 r3
      gi_wp2
      refine hR.mono ?_
      rintro e W3 ⟨rfl, hJ3, hk3⟩
      have hI3 : Aside0 (AI J p bu bs W.heap.size fo (Eq2 U) ks W2 (j + 1) (ents ++ [⟨x, k, G x⟩]) W3) := ⟨⟨by rw [List.map_append, hI.out.ms, List.take_add_one, hx']; rfl,
        fun y hy => by
          rcases List.mem_append.1 hy with hy | hy
          · exact hI.out.rows y hy
          · rw [List.mem_singleton.1 hy]; exact hIR,
        Nat.le_trans hI.out.le hk3.1, fun q hq hn => by
          rw [hk3.2 q hq (hn x k (by rw [List.take_add_one, hx']; simp) hk)]
          exact hI.out.kept q hq (fun m h hm => hn m h (by rw [List.take_add_one]; exact List.mem_append_left _ hm)), hJ3⟩⟩
      clear hI hk3 hJ3 hIR hR hy hnot
      gi_wp2
      go_roundw
      case rel => exact ⟨j + 1, _, by go_num, by omega, hI3⟩
      case measure => simp [RowKit.intOf]; omega
    · have hltb : decide ((j : Int) < (N : Int)) = false := decide_eq_false (by omega)
      obtain rfl : j = N := by omega
      gi_wp2
      go_end0
      have hms := hI.out.ms
      rw [← hkl'.out, List.take_length] at hms
      have hkp : ∀ q, (q = p ∨ q = bu ∨ q = bs) → wr.heap[q]? = W2.heap[q]? := fun q hq => hI.out.kept q (.inr hq) (fun m k _ hm e => by have := (hrg.out m k hm).1; omega)
      refine ⟨⟨_, rfl⟩, W2.heap.size, ents, ⟨by rw [hms]; exact hks.out.1, ?_, hI.out.rows, fun y hy => ?_⟩, hI.out.j, U1, ?_, hh1⟩
      · have := congrArg List.length hms
        rw [List.length_map] at this
        rw [this]; exact hks.out.2.2
      · obtain ⟨m, hm1, hm2⟩ := hG.out.2 y ((Eq2.self_iff h.F).1 hy)
        have : m ∈ ents.map (·.m) := by rw [hms]; exact (hks.out.2.1 m).2 hm1
        obtain ⟨e, he1, he2⟩ := List.mem_map.1 this
        exact ⟨e, he1, by rw [he2]; exact hm2⟩
      · exact ⟨cell_block hU2.out.cu (hkp p (.inl rfl)), cell_block hU2.out.cs (hkp p (.inl rfl)), hU2.out.mu.same (hkp bu (.inr (.inl rfl))), hU2.out.ms.same (hkp bs (.inr (.inr rfl))), hU2.out.ne, hU2.out.F⟩
end Go.Proofs.Yteeapfmgdlcgfaa.A


namespace Go.Proofs.Yteeapfmgdlcgfaa.A
open Go.RowKit
variable {P : Program} {ops : Array Oper} {Q : Exit → Act → World → Prop} {md : Region.Mode}

theorem opIn_of_op {l n i : Nat} {K K' : Act → World → Prop} {a : Act} {w : World} (hnd : ∀ (j : Nat) o, ops[j]? = some o → ∀ c, o.op ≠ .defer c) (hno : ¬ LetsOut Q) (hK : ∀ a w, K a w → K' a w)
    (h : wpOp P ops Q i K a w) : wpOpIn (Fence.wide.inRound l) n P ops Q i K' a w := by
  unfold wpOp at h
  unfold wpOpIn
  cases ho : ops[i]? with
  | none => rw [ho] at h; exact hK _ _ h
  | some o =>
    rw [ho] at h
    simp only at h ⊢
    split
    · rename_i hw
      rw [if_pos hw] at h
      rcases h with h | ⟨_, h⟩
      · unfold Oper.wp at h
        unfold Oper.wpIn
        refine ⟨fun _ _ => trivial, ?_⟩
        rw [Fence.inRound_round, Oper.semAt_some _ _ _ (hnd i o ho)]
        generalize (execOp a.eval o).run P w = r at h ⊢
        cases r with
        | ok x w' =>
          cases x with
          | value v => exact hK _ _ h
          | skip => exact hK _ _ h
          | defer d => exact hK _ _ h
          | enter f args =>
            refine ⟨fun g => by simp [Fence.wide] at g, CallsIn.inRound l (callsIn_wide.2 (Calls.mono h ?_))⟩
            intro e w'' he
            cases e with
            | returned v => exact hK _ _ he
            | panicked c => exact he
            | outgrown => exact he
          | row row args =>
            refine ⟨fun g => by simp [Fence.wide] at g, fun c cs _ => ?_⟩
            obtain ⟨v, w'', r, s⟩ := h c cs
            exact ⟨v, w'', hK _ _ r, stepsIn_wide.2 s⟩
          | _ => exact h.elim
        | halt x w' =>
          cases x <;> first | exact h | exact h.elim
      · exact absurd h hno
    · rename_i hw
      rw [if_neg hw] at h
      exact ⟨fun _ _ => trivial, hK _ _ h⟩
theorem anyIn_of_any {l n : Nat} (hnd : ∀ (j : Nat) o, ops[j]? = some o → ∀ c, o.op ≠ .defer c) (hno : ¬ LetsOut Q) : ∀ (fuel : Nat) (listed : Array Bool) (a : Act) (w : World),
    wpAny P md ops Q fuel listed a w → wpAnyIn (Fence.wide.inRound l) n P md ops Q fuel listed a w
  | 0, _, _, _, h => h
  | fuel + 1, listed, a, w, h => ⟨h.1, fun i hi => opIn_of_op hnd hno (fun a w => anyIn_of_any hnd hno fuel _ a w) (h.2 i hi)⟩
def noDefer (ops : Array Oper) : Bool := ops.all fun o => match o.op with | .defer _ => false | _ => true
theorem noDefer_spec (h : noDefer ops = true) : ∀ (j : Nat) o, ops[j]? = some o → ∀ c, o.op ≠ .defer c := fun j o hj c e => by
  have := (Array.all_eq_true'.1 h) o (Array.mem_of_getElem? hj)
  rw [e] at this
  cases this
theorem region_round {l n id : Nat} {a : Act} {w : World} (hm : P.follows .mixedOrders = true) (hnd : noDefer ops = true) (hno : ¬ LetsOut Q)
    (h : wpAny P .any ops Q ops.size (Array.replicate ops.size false) a w.drew) : (Code.region id ops true).wpIn (Fence.wide.inRound l) n P Q a w :=
  wpIn_region_any hm (anyIn_of_any (noDefer_spec hnd) hno _ _ _ _ h)
end Go.Proofs.Yteeapfmgdlcgfaa.A


namespace Go.Proofs.Yteeapfmgdlcgfaa.A
open Go.RowKit Go.Maps Go.Sort Go.Shelf Go.Proofs.YteeapfmgdlcgfaaW.PrintWords Go.Proofs.YteeapfmgdlcgfaaW.PrintLast
set_option linter.unusedVariables false
set_option linter.unusedSimpArgs false
attribute [local go_sem] Oper.semAt_some

theorem all45_calls (p : Nat) (w : World) : Calls Try.prog 45 #[.pointer (some ⟨p, 0, none⟩)] w fun e w' => e = .returned (.func (.func 70) #[] #[.pointer (some ⟨w.heap.size, 0, none⟩)]) ∧ w' = w.alloc (.cells #[.pointer (some ⟨p, 0, none⟩)] 24) := by
  go_enter Try.func45, Try.ntmps45
  go_wp2
  go_ret
  exact ⟨rfl, rfl⟩
theorem nil88 (q : Value) (W : World) : (binOp BinOp.eql 88 (.func (.func 70) #[] #[q]) .nilFunc).run Try.prog W = .ok (.bool false) W := by
  kernel_rfl
theorem info36 : (Try.prog.info? 36).map (fun i => (i.zero, i.size, i.bytes)) = some (some (.slice none 0 0), 1, 24) := by kernel_rfl
theorem startR_ {P : Program} {ops : Array Oper} {Q : Exit → Act → World → Prop} {S : World → Prop} {ds : List Nat} {id m l n : Nat} {a : Act} {w : World} (ls : Array Bool) (hm : P.follows .mixedOrders = true) (hnd : noDefer ops = true) (hno : ¬ LetsOut Q) (hn : ops.size = m) (hl : Array.replicate m false = ls) (hS : S w.drew)
    (h : S w.drew → wpAnyLast P .any ops Q S ds m ls a w.drew) : (Code.region id ops true).wpIn (Fence.wide.inRound l) n P Q a w := by
  subst hn
  subst hl
  exact region_round hm hnd hno (wpAny_of_last _ _ _ _ (h hS))
theorem own_ne {W : World} {b b' : Nat} {e e' : TypeId} {s s' : Nat} {v v' : Value} {k k' : Nat} {xs xs' : List Value} (h : W.ownsRow b e s v k xs) (h' : W.ownsRow b' e' s' v' k' xs') (hne : e ≠ e') : ∀ g, v.ownBlock = some g → v'.ownBlock ≠ some g := by
  intro g hg hg'
  rcases h.2 with ⟨rfl, _⟩ | ⟨g1, cap, cur, rfl, _, hb, _⟩
  · simp [Value.ownBlock] at hg
  · rcases h'.2 with ⟨rfl, _⟩ | ⟨g2, cap', cur', rfl, _, hb', _⟩
    · simp [Value.ownBlock] at hg'
    · obtain rfl : g1 = g := by simpa [Value.ownBlock] using hg
      obtain rfl : g2 = g1 := by simpa [Value.ownBlock] using hg'
      rw [hb] at hb'
      simp at hb'
      exact hne hb'.2
theorem Uni.few {w : World} {p bu bs nu N : Nat} {U Z : Int → Option Int} (h : Uni κI w p bu bs nu N U Z) {l : List Int} (hl : l.Nodup) (hm : ∀ y ∈ l, (U y).isSome = true) : l.length ≤ nu := by
  obtain ⟨D, hown, hR, hsz, _⟩ := h.mu
  obtain ⟨n2, m2, l2⟩ := intKeys_of (s := fun k => (U k).isSome) hR.has hown
  have := List.Nodup.length_le_of_subset hl (l₂ := intKeys D) (fun y hy => (m2 y).2 (hm y hy))
  omega
theorem results_cell1 {P : Program} {fn : Func} {p : Tmp} {ty : TypeId} (h : fn.results = #[.cell p ty]) (tmps : Array Value) (w : World) (q : Addr) (v : Value) (hp : tmps.getD p undef = .pointer (some q)) (hv : (loadVar ty q).run P w = .ok v w) : (results fn tmps).run P w = .ok v w := by
  have hp' : tmps[p]?.getD undef = .pointer (some q) := by simpa using hp
  simp [results, h, hp', asAddr, hv, Sem.run_bind, Result.andThen]
/-- a row of rows that a call has laid -/
def RowsV (W : World) (base : Nat) (v : Value) (rows : List (List Int)) : Prop :=
  ∃ hds : List Hd, hds.length = rows.length ∧ W.ownsRow base 36 1 v rows.length (hds.map Hd.val) ∧ ∀ (i : Nat) (h : Hd) (row : List Int), hds[i]? = some h → rows[i]? = some row → h.n = row.length ∧ W.ownsRow base 3 1 h.val row.length (row.map (Value.int .i64))
end Go.Proofs.Yteeapfmgdlcgfaa.A


namespace Go.Proofs.Yteeapfmgdlcgfaa.A
open Go.RowKit Go.Proofs.YteeapfmgdlcgfaaW.PrintWords Go.Proofs.YteeapfmgdlcgfaaW.PrintLast
set_option linter.unusedVariables false
set_option linter.unusedSimpArgs false
attribute [local go_sem] Oper.semAt_some

def rightB (p : Int) (l : List S57) (funcs : Int) : Bool :=
  wthB l.length 1 4096 && wthB p 0 8 && !(l.any fun y => !rightTermB y.f1 l.length) && (decide ((opsOf l).length ≤ 16384) && (opsOf l).all fun x => rightOpB x funcs)
theorem load4 (W : World) (q : Addr) (v : Value) (h : W.cell? q = some v) : (loadVar 4 q).run Try.prog W = .ok v W := by
  go_simp
/-- what the rounds over the operations keep -/
structure RI {wB : World} {l : List S57} (w : World) (funcs : Int) (bn : Nat) (pre : List (OpIn wB l)) (W : World) : Prop where
  below : Below w.heap.size w W
  bf : Boxed W (w.heap.size + 1) 3 (.int .i64 funcs)
  br : Boxed W (w.heap.size + 2) 4 (.bool false)
  bn : Boxed W bn 3 (.int .i64 pre.length)
  all : ∀ o ∈ pre, rightOpB o.1.x funcs = true
  len : pre.length ≤ 16384
structure RX {wB : World} {l : List S57} (w : World) (funcs : Int) (pre : List (OpIn wB l)) (W : World) : Prop where
  below : Below w.heap.size w W
  br : Boxed W (w.heap.size + 2) 4 (.bool false)
  bad : 16384 < pre.length ∨ ∃ o ∈ pre, rightOpB o.1.x funcs = false
theorem below_own {w W W' : World} {row : Option Nat} {B : Nat} (h : Below w.heap.size w W) (hg : W.grownBy W' row) (hr : ∀ r, row = some r → B ≤ r) (hB : w.heap.size ≤ B) : Below w.heap.size w W' :=
  ⟨hg.os.trans h.os, hg.tape.trans h.tape, hg.output.trans h.output, Nat.le_trans h.size hg.size, fun q hq => (hg.block q (Nat.lt_of_lt_of_le hq h.size) (fun e => by have := hr q e.symm; omega)).trans (h.block q hq)⟩
theorem boxed_below {W W' : World} {n g : Nat} {t : TypeId} {v : Value} (h : Boxed W g t v) (hb : Below n W W') (hg : g < n) : Boxed W' g t v := (hb.block g hg).trans h

theorem leaf55 {w w3 W : World} {b : Bool} {tmps : Array Value} (kr : Boxed w3 (w.heap.size + 2) 4 (.bool false)) (hB3 : Below w.heap.size w w3) (hW : Below w3.heap.size w3 W) (ht : tmps.getD 4 undef = .pointer (some ⟨w.heap.size + 2, 0, none⟩)) :
    bodyPost Try.prog Try.f55 (fun e w' => e = .returned (.bool b) ∧ Below w.heap.size w w') .ret { tmps := tmps, defers := [] } (W.setCell ⟨w.heap.size + 2, 0, none⟩ (.bool b)) := by
  have hb := boxed_below kr hW kr.lt
  have k2 : KeepsBut (fun q => q = w.heap.size + 2) W (W.setCell ⟨w.heap.size + 2, 0, none⟩ (.bool b)) := KeepsBut.setCell W _ _ rfl
  refine bodyPost_ret (results_cell1 rfl _ _ ⟨w.heap.size + 2, 0, none⟩ _ ht (load4 _ _ _ (hb.set _).cell)) rfl ⟨rfl, ?_⟩
  exact below_step hB3 hW |>.trans (k2.below (Nat.le_trans hB3.size hW.size) (fun q hq g => by omega))

set_option maxRecDepth 100000 in
set_option maxHeartbeats 8000000 in
theorem right_leaf (p : Int) (A : Option Addr) (c : Nat) (l : List S57) (funcs : Int) (w : World) (hC : Kd.C k57 w A l.length l) (hL : l.length ≤ 1000000)
    (hno : (wthB l.length 1 4096 && wthB p 0 8 && !(l.any fun y => !rightTermB y.f1 l.length)) = false) :
    Calls Try.prog 55 #[.agg #[.int .i64 p, .slice A l.length c], .int .i64 funcs] w fun e w' => e = .returned (.bool false) ∧ Below w.heap.size w w' := by
  have hu52 := Try.underlying52
  have hC' := Aside0.mk hC
  clear hC
  obtain ⟨w3, hw3⟩ : ∃ w3, ((w.alloc (.cells #[.int .i64 p, .slice A l.length c] 52)).alloc (.cells #[.int .i64 funcs] 3)).alloc (.cells #[.bool false] 4) = w3 := ⟨_, rfl⟩
  have hB3 : Below w.heap.size w w3 := by rw [← hw3]; exact below_alloc (below_alloc (below_alloc (Below.refl _ _) _) _) _
  have hs3 : w3.heap.size = w.heap.size + 3 := by rw [← hw3]; simp
  have k0 : w3.cell? ⟨w.heap.size, 0, none⟩ = some (.int .i64 p) := by rw [← hw3]; simp [go_sem]
  have k1 : w3.cell? ⟨w.heap.size, 1, none⟩ = some (.slice A l.length c) := by rw [← hw3]; simp [go_sem]
  have kr : Boxed w3 (w.heap.size + 2) 4 (.bool false) := by
    have := Boxed.new ((w.alloc (.cells #[.int .i64 p, .slice A l.length c] 52)).alloc (.cells #[.int .i64 funcs] 3)) 4 (.bool false)
    rw [World.size_alloc, World.size_alloc] at this
    rw [← hw3]; exact this
  have hcr := kr.cell
  have hfr := kr.frozen
  have kr' := Aside0.mk kr
  have hB3' := Aside0.mk hB3
  clear kr hB3
  cases h1 : wthB l.length 1 4096 with
  | false =>
    go_enter Try.func55, Try.ntmps55
    go_wp2_with (go_at_call 54; refine (code_within.calls _ _ _ _ _ (within_eq _ _ _)).mono ?_; rintro e w' ⟨rfl, ⟨nd, rfl⟩⟩)
    exact leaf55 kr'.out hB3'.out (by repeat (first | exact Below.refl _ _ | apply pw_below_drewN)) rfl
  | true =>
    cases h2 : wthB p 0 8 with
    | false =>
      go_enter Try.func55, Try.ntmps55
      go_wp2_with (go_at_call 54; refine (code_within.calls _ _ _ _ _ (within_eq _ _ _)).mono ?_; rintro e w' ⟨rfl, ⟨nd, rfl⟩⟩)
      exact leaf55 kr'.out hB3'.out (by repeat (first | exact Below.refl _ _ | apply pw_below_drewN)) rfl
    | true =>
      have h3 : (l.any fun y => !rightTermB y.f1 l.length) = true := by
        cases h3 : (l.any fun y => !rightTermB y.f1 l.length) with
        | true => rfl
        | false => rw [h1, h2, h3] at hno; cases hno
      clear hno
      go_enter Try.func55, Try.ntmps55
      go_wp2_with (first
        | (go_at_call 54; refine (code_within.calls _ _ _ _ _ (within_eq _ _ _)).mono ?_; rintro e w' ⟨rfl, ⟨nd, rfl⟩⟩)
        | (go_at_call 76; refine (any76_calls A c l w.heap.size A l.length c _ (by simpa [go_sem] using k1) (Kd.C_below hC'.out (by repeat (first | exact hB3'.out | apply pw_below_drewN))) hL).mono ?_; rintro e w5 ⟨rfl, hB5⟩; have hW5 := Aside0.mk (below_step (w := w3) (by repeat (first | exact Below.refl _ _ | apply pw_below_drewN)) hB5); have hb5 := boxed_below kr'.out hW5.out kr'.out.lt; have hc5 := hb5.cell; have hf5 := hb5.frozen; clear hb5 hB5))
      exact leaf55 kr'.out hB3'.out hW5.out rfl
end Go.Proofs.Yteeapfmgdlcgfaa.A


namespace Go.Proofs.Yteeapfmgdlcgfaa.A
open Go.RowKit Go.Proofs.YteeapfmgdlcgfaaW.PrintWords Go.Proofs.YteeapfmgdlcgfaaW.PrintLast
set_option linter.unusedVariables false
set_option linter.unusedSimpArgs false
attribute [local go_sem] Oper.semAt_some

def OpV.obj (o : OpV) : Obj := .cells #[.int .i64 o.x.f0, .int .i64 o.x.f1, .int .i64 o.x.f2, .int .i64 o.x.f3, .int .i64 o.x.f4, .slice o.A o.x.f5.length o.c] 60
def OpV.agg (o : OpV) : Value := .agg #[.int .i64 o.x.f0, .int .i64 o.x.f1, .int .i64 o.x.f2, .int .i64 o.x.f3, .int .i64 o.x.f4, .slice o.A o.x.f5.length o.c]
/-- a box with an operation -/
def OpBox (W : World) (b : Nat) (o : OpV) : Prop := W.heap[b]? = some o.obj
theorem OpBox.cells {W : World} {b : Nat} {o : OpV} (h : OpBox W b o) : W.cell? ⟨b, 0, none⟩ = some (.int .i64 o.x.f0) ∧ W.cell? ⟨b, 1, none⟩ = some (.int .i64 o.x.f1) ∧ W.cell? ⟨b, 2, none⟩ = some (.int .i64 o.x.f2) ∧ W.cell? ⟨b, 3, none⟩ = some (.int .i64 o.x.f3) ∧ W.cell? ⟨b, 4, none⟩ = some (.int .i64 o.x.f4) ∧ W.cell? ⟨b, 5, none⟩ = some (.slice o.A o.x.f5.length o.c) := by
  simp [World.cell?, show W.heap[b]? = some o.obj from h, OpV.obj]
theorem OpBox.lt {W : World} {b : Nat} {o : OpV} (h : OpBox W b o) : b < W.heap.size := (Array.getElem?_eq_some_iff.1 h).1
theorem OpBox.below {W W' : World} {n b : Nat} {o : OpV} (h : OpBox W b o) (hb : Below n W W') (hn : b < n) : OpBox W' b o := (hb.block b hn).trans h

theorem below_abides {w : World} {B : Nat} (hB : w.heap.size ≤ B) {W W' : World} {row : Option Nat} (h : Below w.heap.size w W) (hg : W.grownBy W' row) (hr : ∀ r, row = some r → B ≤ r ∧ ∃ o : Obj, W.heap[r]? = some o ∧ o.isCells = false) : Below w.heap.size w W' :=
  below_own h hg (fun r e => (hr r e).1) hB

variable {F : Fence} {n : Nat} {P : Program}
/-- a range over a function whose variable lies in a box of its own each round -/
theorem wpIn_rangeFunc_ops {wB : World} {l : List S57} {g : Operand} {p t : Tmp} {assign body : Code} {Q : Exit → Act → World → Prop} {a : Act} {w : World}
    (hro : F.round = none) (h1 : 1 ≤ n) {gf : Nat} {lb : Array Value} (hg : a.eval g = .func (.func gf) #[] lb) (hFg : F.fn gf) (eg : ∀ args w, (callFunc gf args).run P w = .ok (.enter gf args) w)
    {S Sp : List (OpIn wB l) → Prop} {N : Nat} {w0 : World} (hseq : SeqStopsK F (n - 1) P gf lb (fun o : OpIn wB l => o.1.encs) (fun W W' => Below wB.heap.size W W') S Sp N w0)
    (hwB : wB.heap.size ≤ w.heap.size) (hb0 : Below w0.heap.size w0 w)
    (I : List (OpIn wB l) → World → Prop) (Ix : Code → List (OpIn wB l) → World → Prop) (hI : OwnFrom w.heap.size I) (hIx : ∀ c, OwnFrom w.heap.size (Ix c)) (hIs : ∀ pre W, I pre W → w.heap.size ≤ W.heap.size) (h0 : I [] w)
    (hassign : ∀ (lp : Nat) (x : OpV) (W : World) (K : Act → World → Prop), K { tmps := (a.tmps.setIfInBounds p x.agg).setIfInBounds t (.pointer (some ⟨W.heap.size, 0, none⟩)), defers := [] } (W.alloc x.obj) →
      assign.wpIn (F.inRound lp) (n - 1 - 1) P (Exit.then K (fun _ _ _ => False)) { tmps := a.tmps.setIfInBounds p x.agg, defers := [] } W)
    (hbody : ∀ (lp b : Nat) (pre : List (OpIn wB l)) (x : OpIn wB l) (W : World), w.heap.size ≤ b → OpBox W b x.1 → I pre W → pre.length < N →
      body.wpIn (F.inRound lp) (n - 1 - 1) P (ownPostG w.heap.size (fun W W' => Below wB.heap.size W W') I Ix (pre ++ [x]) W) { tmps := (a.tmps.setIfInBounds p x.1.agg).setIfInBounds t (.pointer (some ⟨b, 0, none⟩)), defers := [] } W)
    (hdone : ∀ (D : Nat) (xs : List (OpIn wB l)) (W : World), w.heap.size ≤ D → S xs → I xs W → W.heap[D]? = some (.deferred (some [])) → Q .normal { a with defers := { target := .collected D, args := #[] } :: a.defers } W)
    (hstop : ∀ (D : Nat) (c : Code) (pre : List (OpIn wB l)) (W : World), w.heap.size ≤ D → Sp pre → Ix c pre W → W.heap[D]? = some (.deferred (some [])) → c.wpIn F n P Q { a with defers := { target := .collected D, args := #[] } :: a.defers } W) :
    (Code.rangeFunc g #[p] assign body).wpIn F n P Q a w := by
  refine wpIn_rangeFunc_ownH hro h1 hg hFg eg hseq (fun h k => h.trans k) ?_ hb0 (fun x => rfl) I Ix hI hIx h0
    (fun x a' W => ∃ b, w.heap.size ≤ b ∧ OpBox W b x.1 ∧ a' = { tmps := (a.tmps.setIfInBounds p x.1.agg).setIfInBounds t (.pointer (some ⟨b, 0, none⟩)), defers := [] }) ?_ ?_ ?_ hdone hstop
  · intro W lp o o' hlp ho _ _
    refine ⟨rfl, rfl, rfl, by simp, fun q hq => World.putObj_heap_other (by omega)⟩
  · rintro x a' u W W' row ⟨b, hb, hbox, rfl⟩ hg hr
    refine ⟨b, hb, (hg.block b hbox.lt fun e => ?_).trans hbox, rfl⟩
    obtain ⟨_, o, ho, hc⟩ := hr b e.symm
    rw [show W.heap[b]? = some x.1.obj from hbox] at ho
    cases ho
    cases hc
  · intro lp pre x W K hi hK
    have hs := hIs pre W hi
    rw [show ((#[p] : Array Tmp).zip x.1.encs).foldl (fun t (p, v) => t.setIfInBounds p v) a.tmps = a.tmps.setIfInBounds p x.1.agg by unfold OpV.encs OpV.agg; simp]
    refine hassign lp x.1 W K (hK _ _ ((KeepsOthers.alloc W x.1.obj).from _) ?_ (hI.alloc _ hi) ⟨W.heap.size, hs, World.alloc_heap_new W _, rfl⟩)
    exact below_alloc (Below.refl _ _) _ |>.mono (by omega)
  · rintro lp pre x a' W hlp hrec hi ⟨b, hb, hbox, rfl⟩ hN
    exact hbody lp b pre x W hb hbox hi hN
theorem boxed_abides {B g : Nat} {t : TypeId} {v : Value} {W W' : World} {row : Option Nat} (h : Boxed W g t v) (hg : W.grownBy W' row) (hr : ∀ r, row = some r → B ≤ r ∧ ∃ o : Obj, W.heap[r]? = some o ∧ o.isCells = false) : Boxed W' g t v :=
  h.kept hg (fun e => by obtain ⟨_, o, ho, hc⟩ := hr g e.symm; rw [show W.heap[g]? = _ from h] at ho; cases ho; cases hc)
theorem keepsFrom_below {B n : Nat} {W W' : World} (h : Below n W W') (hn : W.heap.size ≤ n) : KeepsFrom B W W' :=
  ⟨h.size, fun k o _ ho _ => (h.block k (Nat.lt_of_lt_of_le (Array.getElem?_eq_some_iff.1 ho).1 hn)).trans ho⟩
theorem leave55 {w W : World} {b : Bool} {tmps : Array Value} {D n : Nat} (kr : Boxed W (w.heap.size + 2) 4 (.bool b)) (hB : Below w.heap.size w W) (hD : w.heap.size + 3 ≤ D) (hK : W.heap[D]? = some (.deferred (some [])))
    (ht : tmps.getD 4 undef = .pointer (some ⟨w.heap.size + 2, 0, none⟩)) :
    bodyPostM Fence.wide n Try.prog Try.f55 (fun e w' => e = .returned (.bool b) ∧ Below w.heap.size w w') .ret { tmps := tmps, defers := [{ target := .collected D, args := #[] }] } W := by
  refine ⟨by simp, .inl ⟨_, _, rfl, run_takeDeferred hK, ?_⟩⟩
  have k2 : KeepsBut (fun q => q = D) W (W.putObj D (.deferred none)) := KeepsBut.putObj _ _ rfl
  have hb4 : Boxed (W.putObj D (.deferred none)) (w.heap.size + 2) 4 (.bool b) := (k2.block _ kr.lt (by omega)).trans kr
  refine ⟨_, results_cell1 rfl _ _ ⟨w.heap.size + 2, 0, none⟩ _ ht (load4 _ _ _ hb4.cell), rfl, ?_⟩
  exact hB.trans (k2.below hB.size (fun q hq g => by omega))

theorem wk_of {k : Nat} {kn : Int} (h : k ≤ 16384) (hk : kn = ((k + 1 : Nat) : Int)) : wrap64 ((k : Int) + 1) = kn := by subst hk; unfold wrap64; omega
theorem bad_of {k : Nat} {kn : Int} (h : (16384 : Int) < kn) (hk : kn = ((k + 1 : Nat) : Int)) : 16384 < k + 1 := by omega
theorem good_of {k : Nat} {kn : Int} (h : kn ≤ (16384 : Int)) (hk : kn = ((k + 1 : Nat) : Int)) : k + 1 ≤ 16384 := by omega
theorem snoc_bad {α : Type} {pre : List α} {x : α} {kn : Int} (h : (16384 : Int) < kn) (hk : kn = ((pre.length + 1 : Nat) : Int)) : 16384 < (pre ++ [x]).length := by rw [List.length_append]; exact bad_of h hk
theorem snoc_good {α : Type} {pre : List α} {x : α} {kn : Int} (h : kn ≤ (16384 : Int)) (hk : kn = ((pre.length + 1 : Nat) : Int)) : (pre ++ [x]).length ≤ 16384 := by rw [List.length_append]; exact good_of h hk
set_option maxRecDepth 100000 in
set_option maxHeartbeats 8000000 in
theorem right_calls (p : Int) (A : Option Addr) (c : Nat) (l : List S57) (funcs : Int) (w : World) (hC : Kd.C k57 w A l.length l) (hL : l.length ≤ 1000000) (hL2 : ∀ y ∈ l, y.f0.length ≤ 1000000) (hL3 : ∀ y ∈ l, ∀ x ∈ y.f0, x.f5.length ≤ 1000000) (hL4 : (opsOf l).length ≤ 1000000) :
    Calls Try.prog 55 #[.agg #[.int .i64 p, .slice A l.length c], .int .i64 funcs] w fun e w' => e = .returned (.bool (rightB p l funcs)) ∧ Below w.heap.size w w' := by
  cases hno : (wthB l.length 1 4096 && wthB p 0 8 && !(l.any fun y => !rightTermB y.f1 l.length)) with
  | false =>
    have : rightB p l funcs = false := by unfold rightB; rw [hno]; rfl
    rw [this]
    exact right_leaf p A c l funcs w hC hL hno
  | true =>
    have hval : rightB p l funcs = (decide ((opsOf l).length ≤ 16384) && (opsOf l).all fun x => rightOpB x funcs) := by unfold rightB; rw [hno]; rfl
    generalize rightB p l funcs = rv at hval
    simp only [Bool.and_eq_true, Bool.not_eq_true'] at hno
    obtain ⟨⟨h1, h2⟩, h3⟩ := hno
    rw [← callsIn_wide (n := 5)]
    have hro : (Fence.wide).round = none := rfl
    have hu52 := Try.underlying52
    have hC' := Aside0.mk hC
    have hL2' := Aside0.mk hL2
    have hL3' := Aside0.mk hL3
    have hval' := Aside0.mk hval
    clear hC hL2 hL3 hval
    obtain ⟨w3, hw3⟩ : ∃ w3, ((w.alloc (.cells #[.int .i64 p, .slice A l.length c] 52)).alloc (.cells #[.int .i64 funcs] 3)).alloc (.cells #[.bool false] 4) = w3 := ⟨_, rfl⟩
    have hB3 : Below w.heap.size w w3 := by rw [← hw3]; exact below_alloc (below_alloc (below_alloc (Below.refl _ _) _) _) _
    have hs3 : w3.heap.size = w.heap.size + 3 := by rw [← hw3]; simp
    have k0 : w3.cell? ⟨w.heap.size, 0, none⟩ = some (.int .i64 p) := by rw [← hw3]; simp [go_sem]
    have k1 : w3.cell? ⟨w.heap.size, 1, none⟩ = some (.slice A l.length c) := by rw [← hw3]; simp [go_sem]
    have kf : Boxed w3 (w.heap.size + 1) 3 (.int .i64 funcs) := by
      have := Boxed.new (w.alloc (.cells #[.int .i64 p, .slice A l.length c] 52)) 3 (.int .i64 funcs)
      rw [World.size_alloc] at this
      rw [← hw3]; exact this.alloc _
    have kr : Boxed w3 (w.heap.size + 2) 4 (.bool false) := by
      have := Boxed.new ((w.alloc (.cells #[.int .i64 p, .slice A l.length c] 52)).alloc (.cells #[.int .i64 funcs] 3)) 4 (.bool false)
      rw [World.size_alloc, World.size_alloc] at this
      rw [← hw3]; exact this
    have kf' := Aside0.mk kf
    have kr' := Aside0.mk kr
    have hB3' := Aside0.mk hB3
    clear kr kf hB3
    refine callsIn_of_wp_marks Try.func55 rfl trivial ?_ hro
    simp only [Try.ntmps55, List.size_toArray, List.length_cons, List.length_nil, Nat.reduceAdd, Nat.reduceSub, Array.replicate_succ, Array.replicate_zero, List.push_toArray, List.append_toArray, List.nil_append, List.cons_append]
    gi_wp2_with ((try refine ⟨trivial, ?_⟩); first
      | (gi_at_call 54; refine (callsIn_wide.2 (code_within.calls _ _ _ _ _ (within_eq _ _ _))).mono ?_; rintro e w' ⟨rfl, ⟨nd, rfl⟩⟩)
      | (gi_at_call 76; refine (callsIn_wide.2 (any76_calls A c l w.heap.size A l.length c _ (by simpa [go_sem] using k1) (Kd.C_below hC'.out (by repeat (first | exact hB3'.out | apply pw_below_drewN))) hL)).mono ?_; rintro e w5 ⟨rfl, hB5⟩; have hW5 := Aside0.mk (below_step (w := w3) (by repeat (first | exact Below.refl _ _ | apply pw_below_drewN)) hB5); have k05 := (hW5.out.cell (World.block_lt_of_cell? _ _ k0)).trans k0; have k15 := (hW5.out.cell (World.block_lt_of_cell? _ _ k1)).trans k1; have k06 := (World.cell?_alloc_lt w5 (.cells #[.int .i64 0] 3) _ (World.block_lt_of_cell? _ _ k05)).trans k05; have k16 := (World.cell?_alloc_lt w5 (.cells #[.int .i64 0] 3) _ (World.block_lt_of_cell? _ _ k15)).trans k15; clear hB5)
      | (gi_at_call 56; refine (callsIn_wide.2 (ops56_calls _ _ _)).mono ?_; rintro e w6 ⟨rfl, rfl⟩))
    obtain ⟨w7, hw7⟩ : ∃ w7, (w5.alloc (.cells #[.int .i64 0] 3)).alloc (.cells #[.int .i64 p, .slice A l.length c] 52) = w7 := ⟨_, rfl⟩
    have hs5 : w3.heap.size ≤ w5.heap.size := hW5.out.size
    have hs7 : w7.heap.size = w5.heap.size + 2 := by rw [← hw7]; simp
    have hB7 : Below w3.heap.size w3 w7 := by rw [← hw7]; exact below_alloc (below_alloc hW5.out _) _
    have hB70 : Aside0 (Below w.heap.size w w7) := ⟨below_step hB3'.out hB7⟩
    have kf7 : Boxed w7 (w.heap.size + 1) 3 (.int .i64 funcs) := boxed_below kf'.out hB7 (by omega)
    have kr7 : Boxed w7 (w.heap.size + 2) 4 (.bool false) := boxed_below kr'.out hB7 (by omega)
    have kn7 : Boxed w7 w5.heap.size 3 (.int .i64 ((0 : Nat) : Int)) := by rw [← hw7]; exact (Boxed.new w5 3 (.int .i64 0)).alloc _
    have kc7 : w7.cell? ⟨w5.heap.size + 1, 1, none⟩ = some (.slice A l.length c) := by rw [← hw7]; simp [go_sem]
    rw [hw7]
    clear hw7 k0 k1 k05 k15 k06 k16 h3
    have hS := ops80_stops Fence.wide 4 trivial rfl (by omega) w w7 (w5.heap.size + 1) A c l hC'.out hB70.out kc7 hL hL2'.out
    have hS' := Aside0.mk hS
    have hRI : RI (wB := w) (l := l) w funcs w5.heap.size [] w7 := ⟨hB70.out, kf7, kr7, kn7, fun _ h => by simp at h, by simp⟩
    clear hS kc7 kf7 kr7 kn7
    have hbnd : Aside0 (w.heap.size + 3 ≤ w5.heap.size ∧ w5.heap.size < w7.heap.size) := ⟨by omega, by omega⟩
    clear hs5 hs7 hB7 hs3
    refine wpIn_rangeFunc_ops (wB := w) (l := l) (t := 6) hro (by omega) (gf := 80) (lb := #[.pointer (some ⟨w5.heap.size + 1, 0, none⟩)]) rfl trivial (enters_of Try.func80 (by kernel_rfl) rfl) hS'.out (by have := hB70.out.size; omega) (Below.refl _ _)
      (fun pre W => RI (wB := w) (l := l) w funcs w5.heap.size pre W ∧ w7.heap.size ≤ W.heap.size) (fun c pre W => c = .ret ∧ RX (wB := w) (l := l) w funcs pre W) ?hI ?hIx ?hIs ⟨hRI, Nat.le_refl _⟩ ?assign ?body ?done ?stop
    case hI =>
      rintro pre W W' row ⟨h, hz⟩ hg hr
      have h1 := hbnd.out
      exact ⟨⟨below_abides (B := w7.heap.size) (by omega) h.below hg hr, boxed_abides h.bf hg hr, boxed_abides h.br hg hr, boxed_abides h.bn hg hr, h.all, h.len⟩, Nat.le_trans hz hg.size⟩
    case hIx =>
      rintro c0 pre W W' row ⟨e, h⟩ hg hr
      have h1 := hbnd.out
      exact ⟨e, below_abides (B := w7.heap.size) (by omega) h.below hg hr, boxed_abides h.br hg hr, h.bad⟩
    case hIs =>
      intro pre W h
      exact h.2
    case assign =>
      intro lp x W K hK
      simp only [List.setIfInBounds_toArray, List.set_cons_zero, List.set_cons_succ, OpV.agg, OpV.obj] at hK ⊢
      gi_wp2
      exact hK
    case body =>
      rintro lp b pre x W hb hbox ⟨hI, hz⟩ hN
      have hb1 := hbnd.out
      have hcn := hI.bn.cell
      have hfn := hI.bn.frozen
      obtain ⟨kn, hkn⟩ : ∃ kn : Int, kn = ((pre.length + 1 : Nat) : Int) := ⟨_, rfl⟩
      have wk : wrap64 ((pre.length : Int) + 1) = kn := wk_of hI.len hkn
      obtain ⟨W1, hW1⟩ : ∃ W1, W.setCell ⟨w5.heap.size, 0, none⟩ (.int .i64 kn) = W1 := ⟨_, rfl⟩
      have kW : KeepsBut (fun q => q = w5.heap.size) W W1 := by rw [← hW1]; exact KeepsBut.setCell W _ _ rfl
      have hB1 : Below w.heap.size w W1 := hI.below.trans (kW.below hI.below.size (fun q hq e => by omega))
      have hbn1 : Boxed W1 w5.heap.size 3 (.int .i64 kn) := by rw [← hW1]; exact hI.bn.set _
      have hbf1 : Boxed W1 (w.heap.size + 1) 3 (.int .i64 funcs) := (kW.block _ hI.bf.lt (by omega)).trans hI.bf
      have hbr1 : Boxed W1 (w.heap.size + 2) 4 (.bool false) := (kW.block _ hI.br.lt (by omega)).trans hI.br
      have hbox1 : OpBox W1 b x.1 := (kW.block _ hbox.lt (by omega)).trans hbox
      have hz1 : w7.heap.size ≤ W1.heap.size := Nat.le_trans hz kW.size
      have hk1 : Aside0 (KeepsFrom w7.heap.size W W1) := ⟨by rw [← hW1]; exact (KeepsOthers.setCell W _ _).from _⟩
      have hcn1 := hbn1.cell
      have hfr1 := hbr1.frozen
      have hcr1 := hbr1.cell
      have hcf1 := hbf1.cell
      have hN' := Aside0.mk hN
      have hI' := Aside0.mk hI
      have hB1' := Aside0.mk hB1
      have hbf1' := Aside0.mk hbf1
      have hbr1' := Aside0.mk hbr1
      have hbn1' := Aside0.mk hbn1
      have hbox1' := Aside0.mk hbox1
      have hz1' := Aside0.mk (show w7.heap.size ≤ W1.heap.size from hz1)
      have hkw' := Aside0.mk kW
      clear hN hI hB1 hbf1 hbr1 hbn1 hbox1 hz1 kW hbox hz
      simp only [List.setIfInBounds_toArray, List.set_cons_zero, List.set_cons_succ]
      by_cases c16 : (16384 : Int) < kn
      · have c16b : decide ((16384 : Int) < kn) = true := decide_eq_true c16
        obtain ⟨W2, hW2⟩ : ∃ W2, W1.setCell ⟨w.heap.size + 2, 0, none⟩ (.bool false) = W2 := ⟨_, rfl⟩
        have hfin : Aside0 (KeepsFrom w7.heap.size W W2 ∧ RX (wB := w) (l := l) w funcs (pre ++ [x]) W2) := by
          refine ⟨⟨hk1.out.trans (by rw [← hW2]; exact (KeepsOthers.setCell W1 _ _).from _), ?_⟩⟩
          have k2 : KeepsBut (fun q => q = w.heap.size + 2) W1 W2 := by rw [← hW2]; exact KeepsBut.setCell _ _ _ rfl
          refine ⟨hB1'.out.trans (k2.below hB1'.out.size (fun q hq e => by omega)), by rw [← hW2]; exact hbr1'.out.set _, .inl (snoc_bad c16 hkn)⟩
        clear hkn c16
        gi_wp2_with (refine ⟨trivial, ?_⟩)
        exact ⟨hfin.out.1, rfl, hfin.out.2⟩
      · have c16b : decide ((16384 : Int) < kn) = false := decide_eq_false c16
        have h79 := (rightop_calls x.1.x x.1.A x.1.c funcs W1 (Kd.C_below x.2.1 hB1'.out) x.2.2.1 (by obtain ⟨y, hy1, hy2⟩ := x.2.2.2; exact hL3'.out y hy1 _ hy2))
        have hkn' := Aside0.mk hkn
        have c16' := Aside0.mk (Int.not_lt.1 c16)
        obtain ⟨b0, b1, b2, b3, b4, b5⟩ := hbox1'.out.cells
        clear hkn c16
        cases hr : rightOpB x.1.x funcs with
        | true =>
          rw [hr] at h79
          gi_wp2_with ((try refine ⟨trivial, ?_⟩); gi_at_call 79; refine (CallsIn.inRound lp (callsIn_wide.2 h79)).mono ?_; rintro e w9 ⟨rfl, hB9⟩; have hB9' := Aside0.mk hB9; clear hB9)
          have h3 := hB9'.out
          have h4 := hbn1'.out.lt
          have h5 := hz1'.out
          refine ⟨hk1.out.trans (keepsFrom_below h3 (Nat.le_refl _)), (hkw'.out.below hI'.out.below.size (fun q hq e => by omega)).trans (h3.mono hB1'.out.size), ⟨hB1'.out.trans (h3.mono hB1'.out.size), boxed_below hbf1'.out h3 hbf1'.out.lt, boxed_below hbr1'.out h3 hbr1'.out.lt, ?_, ?_, snoc_good c16'.out hkn'.out⟩, Nat.le_trans h5 h3.size⟩
          · have := boxed_below hbn1'.out h3 h4
            rw [hkn'.out] at this
            rw [List.length_append]
            exact this
          · intro o ho
            rcases List.mem_append.1 ho with ho | ho
            · exact hI'.out.all o ho
            · rw [List.mem_singleton.1 ho]; exact hr
        | false =>
          rw [hr] at h79
          gi_wp2_with ((try refine ⟨trivial, ?_⟩); gi_at_call 79; refine (CallsIn.inRound lp (callsIn_wide.2 h79)).mono ?_; rintro e w9 ⟨rfl, hB9⟩; have hB9' := Aside0.mk hB9; clear hB9; have hbr9 := boxed_below hbr1'.out hB9'.out hbr1'.out.lt; have hcr9 := hbr9.cell; have hfr9 := hbr9.frozen; have hbr9' := Aside0.mk hbr9; clear hbr9)
          have h3 := hB9'.out
          have k2 : KeepsBut (fun q => q = w.heap.size + 2) w9 (w9.setCell ⟨w.heap.size + 2, 0, none⟩ (.bool false)) := KeepsBut.setCell _ _ _ rfl
          have hB9w := hB1'.out.trans (h3.mono hB1'.out.size)
          refine ⟨(hk1.out.trans (keepsFrom_below h3 (Nat.le_refl _))).trans ((KeepsOthers.setCell w9 _ _).from _), rfl, hB9w.trans (k2.below hB9w.size (fun q hq e => by omega)), hbr9'.out.set _, .inr ⟨x, by simp, hr⟩⟩
    case done =>
      rintro D xs W hD hS ⟨hI, hz⟩ hK
      have hb1 := hbnd.out
      have hv : rv = true := by
        rw [hval'.out, ← hS, List.all_map, List.length_map]
        rw [decide_eq_true hI.len, Bool.true_and, List.all_eq_true]
        intro o ho
        exact hI.all o ho
      have hcr := hI.br.cell
      have hfr := hI.br.frozen
      have hI' := Aside0.mk hI
      have hK' := Aside0.mk hK
      clear hI hS hK hval'
      subst hv
      gi_wp2
      have k2 : KeepsBut (fun q => q = w.heap.size + 2) W (W.setCell ⟨w.heap.size + 2, 0, none⟩ (.bool true)) := KeepsBut.setCell _ _ _ rfl
      exact leave55 (hI'.out.br.set _) (hI'.out.below.trans (k2.below hI'.out.below.size (fun q hq e => by omega))) (by omega) ((k2.block _ (Array.getElem?_eq_some_iff.1 hK'.out).1 (by omega)).trans hK'.out) rfl
    case stop =>
      rintro D c0 pre W hD ⟨r, hS⟩ ⟨rfl, hX⟩ hK
      have hb1 := hbnd.out
      have hv : rv = false := by
        rw [hval'.out, hS]
        rcases hX.bad with h | ⟨o, ho, h⟩
        · rw [decide_eq_false (by rw [List.length_append, List.length_map]; exact fun g => absurd (Nat.lt_of_lt_of_le h (Nat.le_trans (Nat.le_add_right _ _) g)) (Nat.lt_irrefl _))]; rfl
        · rw [Bool.and_eq_false_iff]
          right
          rw [List.all_eq_false]
          exact ⟨o.1.x, List.mem_append_left _ (List.mem_map.2 ⟨o, ho, rfl⟩), by rw [h]; simp⟩
      have hX' := Aside0.mk hX
      have hK' := Aside0.mk hK
      clear hX hS hK hval'
      subst hv
      gi_wp2
      exact leave55 hX'.out.br hX'.out.below (by omega) hK'.out rfl
end Go.Proofs.Yteeapfmgdlcgfaa.A


namespace Go.Proofs.Yteeapfmgdlcgfaa.A
open Go.RowKit Go.Proofs.YteeapfmgdlcgfaaW.PrintWords Go.Proofs.YteeapfmgdlcgfaaW.PrintLast
set_option linter.unusedVariables false
set_option linter.unusedSimpArgs false
attribute [local go_sem] Oper.semAt_some

/-- a mark of a range over a function -/
def mkD (D : Nat) : Deferred := { target := .collected D, args := #[] }
/-- marks that lie there, the newest first -/
structure Marks (b : Nat) (Ds : List Nat) (W : World) : Prop where
  ord : Ds.Pairwise (fun x y => y < x)
  at_ : ∀ D ∈ Ds, b ≤ D ∧ W.heap[D]? = some (.deferred (some []))
theorem Marks.lt {b : Nat} {Ds : List Nat} {W : World} (h : Marks b Ds W) : ∀ D ∈ Ds, D < W.heap.size := fun D hD => (Array.getElem?_eq_some_iff.1 (h.at_ D hD).2).1
theorem Marks.keep {b : Nat} {Ds : List Nat} {W W1 : World} (h : Marks b Ds W) {X : Nat → Prop} (hk : KeepsBut X W W1) (hX : ∀ D ∈ Ds, ¬ X D) : Marks b Ds W1 :=
  ⟨h.ord, fun D hD => ⟨(h.at_ D hD).1, (hk.block D (h.lt D hD) (hX D hD)).trans (h.at_ D hD).2⟩⟩
theorem Marks.below {b n : Nat} {Ds : List Nat} {W W1 : World} (h : Marks b Ds W) (hk : Below n W W1) (hn : W.heap.size ≤ n) : Marks b Ds W1 :=
  ⟨h.ord, fun D hD => ⟨(h.at_ D hD).1, (hk.block D (Nat.lt_of_lt_of_le (h.lt D hD) hn)).trans (h.at_ D hD).2⟩⟩
theorem Marks.cons {b : Nat} {Ds : List Nat} {W : World} (h : Marks b Ds W) {D : Nat} (hb : b ≤ D) (hD : ∀ x ∈ Ds, x < D) (hW : W.heap[D]? = some (.deferred (some []))) : Marks b (D :: Ds) W :=
  ⟨List.pairwise_cons.2 ⟨fun x hx => hD x hx, h.ord⟩, fun x hx => by
    rcases List.mem_cons.1 hx with rfl | hx
    · exact ⟨hb, hW⟩
    · exact h.at_ x hx⟩
theorem leaves_all {F : Fence} {n b : Nat} {P : Program} {fn : Func} {tmps : Array Value} {R : Ending → World → Prop} : ∀ (Ds : List Nat) (W : World), Marks b Ds W →
    (∀ W', KeepsBut (fun k => k ∈ Ds) W W' → ∃ v, (results fn tmps).run P W' = .ok v W' ∧ R (.returned v) W') → LeavesInM F n P fn tmps R (Ds.map mkD) .returning W
  | [], W, _, h => h W (KeepsBut.refl _ _)
  | D :: Ds, W, hm, h => by
    have hD := hm.at_ D (by simp)
    have ho := List.pairwise_cons.1 hm.ord
    refine ⟨by simp, .inl ⟨D, W.putObj D (.deferred none), rfl, run_takeDeferred hD.2, leaves_all (b := b) Ds _ ?_ fun W' hk => h W' ?_⟩⟩
    · exact Marks.keep ⟨ho.2, fun x hx => hm.at_ x (by simp [hx])⟩ (KeepsBut.putObj (X := fun k => k = D) W _ rfl) (fun x hx e => by have := ho.1 x hx; omega)
    · exact (KeepsBut.putObj (X := fun k => k ∈ D :: Ds) W _ (by simp)).trans (hk.mono fun k hk => by simp [hk])

def callOk (l : List S52) (x : S60) : Bool := if x.f0 = 7 then decide ((x.f5.length : Int) = (rd_T52 l x.f4).f0) else true
def fnB (l : List S52) (f : S52) : Bool := rightB f.f0 f.f1 l.length && (opsOf f.f1).all (callOk l)
/-- functions are a program -/
def progB (l : List S52) : Bool := wthB l.length 1 256 && decide ((rd_T52 l 0).f0 = 0) && l.all (fnB l)
/-- how large what comes in may be -/
structure Sz (l : List S52) : Prop where
  len : l.length ≤ 1000000
  bl : ∀ f ∈ l, f.f1.length ≤ 1000000
  op : ∀ f ∈ l, ∀ y ∈ f.f1, y.f0.length ≤ 1000000
  ar : ∀ f ∈ l, ∀ y ∈ f.f1, ∀ x ∈ y.f0, x.f5.length ≤ 1000000
  all : ∀ f ∈ l, (opsOf f.f1).length ≤ 1000000
theorem leave27 {w W : World} {b : Bool} {tmps : Array Value} {Ds : List Nat} {n : Nat} (kr : Boxed W (w.heap.size + 1) 4 (.bool b)) (hB : Below w.heap.size w W) (hM : Marks (w.heap.size + 2) Ds W)
    (ht : tmps.getD 2 undef = .pointer (some ⟨w.heap.size + 1, 0, none⟩)) :
    bodyPostM Fence.wide n Try.prog Try.f27 (fun e w' => e = .returned (.bool b) ∧ Below w.heap.size w w') .ret { tmps := tmps, defers := Ds.map mkD } W := by
  refine leaves_all Ds W hM fun W' hk => ?_
  have hb4 : Boxed W' (w.heap.size + 1) 4 (.bool b) := (hk.block _ kr.lt (fun hd => by have := (hM.at_ _ hd).1; omega)).trans kr
  refine ⟨_, results_cell1 rfl _ _ ⟨w.heap.size + 1, 0, none⟩ _ ht (load4 _ _ _ hb4.cell), rfl, ?_⟩
  exact hB.trans (hk.below hB.size (fun q hq g => by have := (hM.at_ _ g).1; omega))
/-- what the loop over the functions keeps -/
structure LI (w : World) (A : Option Addr) (c n : Nat) (Ds : List Nat) (W : World) : Prop where
  below : Below w.heap.size w W
  bl : Boxed W w.heap.size 46 (.slice A n c)
  br : Boxed W (w.heap.size + 1) 4 (.bool false)
  marks : Marks (w.heap.size + 2) Ds W
theorem LI.step {w : World} {A : Option Addr} {c n : Nat} {Ds : List Nat} {W W' : World} (h : LI w A c n Ds W) (hb : Below W.heap.size W W') : LI w A c n Ds W' :=
  ⟨h.below.trans (hb.mono h.below.size), boxed_below h.bl hb h.bl.lt, boxed_below h.br hb h.br.lt, h.marks.below hb (Nat.le_refl _)⟩
theorem LI.stop {w : World} {A : Option Addr} {c n : Nat} {Ds : List Nat} {W : World} (h : LI w A c n Ds W) : LI w A c n Ds W ∧ Below w.heap.size w (W.setCell ⟨w.heap.size + 1, 0, none⟩ (.bool false)) := by
  refine ⟨h, h.below.trans ?_⟩
  exact (KeepsBut.setCell (X := fun q => q = w.heap.size + 1) W _ _ rfl).below h.below.size (fun q hq e => by omega)
def RB27 (A : Option Addr) (c n O : Nat) (R : Nat → List Nat → World → Prop) (a : Act) (W : World) : Prop := ∃ (m : Nat) (Ds : List Nat), R m Ds W ∧ ∃ s3 s4 s5 s6 s7 s8 s9 s10 s11 s12 s13 s14 s15 s16 s20 s21 s22 s23 s24 s25 s26 s27 s28 s29 s30 s31 s32 s33 s34 s35 s36 s37 s38 s39 s40 s41 s42 s43 s44 s45 s46 : Value, a = { tmps := #[.slice A n c, .pointer (some ⟨O, 0, none⟩), .pointer (some ⟨O + 1, 0, none⟩), s3, s4, s5, s6, s7, s8, s9, s10, s11, s12, s13, s14, s15, s16, .slice A n c, .int .i64 (n : Int), .int .i64 (m : Int), s20, s21, s22, s23, s24, s25, s26, s27, s28, s29, s30, s31, s32, s33, s34, s35, s36, s37, s38, s39, s40, s41, s42, s43, s44, s45, s46], defers := Ds.map mkD }

/-- what the rounds over the operations keep -/
structure PI {wB : World} {lb : List S57} (w : World) (l : List S52) (A : Option Addr) (c : Nat) (Ds : List Nat) (B : Nat) (pre : List (OpIn wB lb)) (W : World) : Prop where
  li : LI w A c l.length Ds W
  sz : B ≤ W.heap.size
  all : ∀ o ∈ pre, callOk l o.1.x = true
structure PX {wB : World} {lb : List S57} (w : World) (l : List S52) (A : Option Addr) (c : Nat) (Ds : List Nat) (pre : List (OpIn wB lb)) (W : World) : Prop where
  li : LI w A c l.length Ds W
  bad : ∃ o ∈ pre, callOk l o.1.x = false
theorem LI.abides {w : World} {A : Option Addr} {c n B : Nat} {Ds : List Nat} {W W' : World} {row : Option Nat} (h : LI w A c n Ds W) (hB : w.heap.size ≤ B) (hM : ∀ D ∈ Ds, D < B) (hg : W.grownBy W' row) (hr : ∀ r, row = some r → B ≤ r ∧ ∃ o : Obj, W.heap[r]? = some o ∧ o.isCells = false) : LI w A c n Ds W' :=
  ⟨below_abides hB h.below hg hr, boxed_abides h.bl hg hr, boxed_abides h.br hg hr, h.marks.ord, fun D hD => ⟨(h.marks.at_ D hD).1, (hg.block D (h.marks.lt D hD) (fun e => by have := (hr D e.symm).1; have := hM D hD; omega)).trans (h.marks.at_ D hD).2⟩⟩

theorem right_imm {l : List S52} {f : S52} (h : rightB f.f0 f.f1 l.length = true) {x : S60} (hx : x ∈ opsOf f.f1) (h7 : x.f0 = 7) (hl : l.length ≤ 1000000) : 0 ≤ x.f4 ∧ x.f4 < (l.length : Int) := by
  unfold rightB at h
  simp only [Bool.and_eq_true] at h
  have h2 := List.all_eq_true.1 h.2.2 x hx
  unfold rightOpB immB at h2
  rw [h7] at h2
  simp only [Bool.and_eq_true] at h2
  have h3 := h2.1.2
  simp [wthB] at h3
  have : wrap64 ((l.length : Int) - 1) = (l.length : Int) - 1 := by unfold wrap64; omega
  rw [this] at h3
  omega
set_option maxRecDepth 100000 in
set_option maxHeartbeats 8000000 in
theorem prog_calls (A : Option Addr) (c : Nat) (l : List S52) (w : World) (hC : Kd.C k52 w A l.length l) (hz : Sz l) :
    Calls Try.prog 27 #[.slice A l.length c] w fun e w' => e = .returned (.bool (progB l)) ∧ Below w.heap.size w w' := by
  have hval : progB l = (wthB l.length 1 256 && decide ((rd_T52 l 0).f0 = 0) && l.all (fnB l)) := rfl
  generalize progB l = rv at hval
  rw [← callsIn_wide (n := 5)]
  have hro : (Fence.wide).round = none := rfl
  have hmix : Try.prog.follows .mixedOrders = true := by kernel_rfl
  have hu52 := Try.underlying52
  have hu60 := Try.underlying60
  have hC' := Aside0.mk hC
  have hz' := Aside0.mk hz
  have hL := hz.len
  clear hC hz
  obtain ⟨w2, hw2⟩ : ∃ w2, (w.alloc (.cells #[.slice A l.length c] 46)).alloc (.cells #[.bool false] 4) = w2 := ⟨_, rfl⟩
  have hli : LI w A c l.length [] w2 := by
    refine ⟨by rw [← hw2]; exact below_alloc (below_alloc (Below.refl _ _) _) _, by rw [← hw2]; exact (Boxed.new w 46 (.slice A l.length c)).alloc _, ?_, ⟨List.Pairwise.nil, fun _ h => by cases h⟩⟩
    have := Boxed.new (w.alloc (.cells #[.slice A l.length c] 46)) 4 (.bool false)
    rw [World.size_alloc] at this
    rw [← hw2]; exact this
  have hs2 : w2.heap.size = w.heap.size + 2 := by rw [← hw2]; simp
  have hcl := hli.bl.cell
  have hcr := hli.br.cell
  have hfr := hli.br.frozen
  have hli' := Aside0.mk hli
  clear hli
  cases h1 : wthB l.length 1 256 with
  | false =>
    have hv : rv = false := by rw [hval, h1]; rfl
    clear hval
    subst hv
    refine callsIn_of_wp_marks Try.func27 rfl trivial ?_ hro
    simp only [Try.ntmps27, List.size_toArray, List.length_cons, List.length_nil, Nat.reduceAdd, Nat.reduceSub, Array.replicate_succ, Array.replicate_zero, List.push_toArray, List.append_toArray, List.nil_append, List.cons_append]
    gi_wp2_with ((try refine ⟨trivial, ?_⟩); gi_at_call 54; refine (callsIn_wide.2 (code_within.calls _ _ _ _ _ (within_eq _ _ _))).mono ?_; rintro e w' ⟨rfl, ⟨nd, rfl⟩⟩)
    have hli2 : LI w A c l.length [] (w2.drewN nd) := hli'.out.step (by repeat (first | exact Below.refl _ _ | apply pw_below_drewN))
    exact leave27 (Ds := []) (hli2.br.set _) hli2.stop.2 ⟨List.Pairwise.nil, fun _ h => by cases h⟩ rfl
  | true =>
    have hl1 : 1 ≤ l.length := by
      have := h1
      simp [wthB] at this
      omega
    obtain ⟨ad, A1, c1, rfl, g0, g1, _, _⟩ := at_T52 (Kd.C_below hC'.out hli'.out.below) (0 : Int) (by omega) (by omega)
    have hp0 : (0 : Int) ≤ 0 := by omega
    have hq0 : (0 : Int) < (l.length : Int) := by omega
    rw [show (0 : Int).toNat = 0 from rfl, show ad.add (0 * 2) = ad by cases ad; rfl] at g0
    clear g1
    cases h2 : decide ((rd_T52 l 0).f0 = 0) with
    | false =>
      have hv : rv = false := by rw [hval, h2]; simp
      have hne : ((rd_T52 l 0).f0 == 0) = false := by simpa using h2
      clear hval
      subst hv
      refine callsIn_of_wp_marks Try.func27 rfl trivial ?_ hro
      simp only [Try.ntmps27, List.size_toArray, List.length_cons, List.length_nil, Nat.reduceAdd, Nat.reduceSub, Array.replicate_succ, Array.replicate_zero, List.push_toArray, List.append_toArray, List.nil_append, List.cons_append]
      gi_wp2_with ((try refine ⟨trivial, ?_⟩); gi_at_call 54; refine (callsIn_wide.2 (code_within.calls _ _ _ _ _ (within_eq _ _ _))).mono ?_; rintro e w' ⟨rfl, ⟨nd, rfl⟩⟩)
      have hli2 : LI w (some ad) c l.length [] (w2.drewN nd) := hli'.out.step (by repeat (first | exact Below.refl _ _ | apply pw_below_drewN))
      exact leave27 (Ds := []) (hli2.br.set _) hli2.stop.2 ⟨List.Pairwise.nil, fun _ h => by cases h⟩ rfl
    | true =>
      have hv : rv = l.all (fnB l) := by rw [hval, h1, h2]; rfl
      have hne : ((rd_T52 l 0).f0 == 0) = true := by simpa using h2
      clear hval
      have hv' := Aside0.mk hv
      clear hv
      refine callsIn_of_wp_marks Try.func27 rfl trivial ?_ hro
      simp only [Try.ntmps27, List.size_toArray, List.length_cons, List.length_nil, Nat.reduceAdd, Nat.reduceSub, Array.replicate_succ, Array.replicate_zero, List.push_toArray, List.append_toArray, List.nil_append, List.cons_append]
      gi_wp2_with ((try refine ⟨trivial, ?_⟩); gi_at_call 54; refine (callsIn_wide.2 (code_within.calls _ _ _ _ _ (within_eq _ _ _))).mono ?_; rintro e w' ⟨rfl, ⟨nd, rfl⟩⟩)
      have hli1 : Aside0 (LI w (some ad) c l.length [] (w2.drewN nd)) := ⟨hli'.out.step (by repeat (first | exact Below.refl _ _ | apply pw_below_drewN))⟩
      clear hcl hcr hfr g0 hli' hw2
      obtain ⟨Rel, hRel⟩ : ∃ R : Nat → List Nat → World → Prop, R = fun m Ds W => m ≤ l.length ∧ Aside0 ((l.take m).all (fnB l) = true ∧ LI w (some ad) c l.length Ds W) := ⟨_, rfl⟩
      refine wpIn_loop (RB27 (some ad) c l.length w.heap.size Rel) (fun a _ => l.length - (RowKit.intOf (a.tmps.getD 19 (.bool false))).toNat) ?_ ?_
      · refine ⟨0, [], ?_, ?_⟩
        · rw [hRel]
          exact ⟨Nat.zero_le _, ⟨rfl, hli1.out⟩⟩
        · repeat apply Exists.intro
          rfl
      clear hli1
      rintro a W ⟨m, Ds, hR, s3, s4, s5, s6, s7, s8, s9, s10, s11, s12, s13, s14, s15, s16, s20, s21, s22, s23, s24, s25, s26, s27, s28, s29, s30, s31, s32, s33, s34, s35, s36, s37, s38, s39, s40, s41, s42, s43, s44, s45, s46, rfl⟩
      rw [hRel] at hR
      obtain ⟨hm, hR⟩ := hR
      by_cases hlt : m < l.length
      · have hltb : decide ((m : Int) < (l.length : Int)) = true := decide_eq_true (by omega)
        have hli := hR.out.2
        have hpm : (0 : Int) ≤ (m : Int) := by omega
        have hqm : (m : Int) < (l.length : Int) := by omega
        obtain ⟨ad0, A2, c2, e0, g0, g1, hc2, _⟩ := at_T52 (Kd.C_below hC'.out hli.below) (m : Int) hpm hqm
        obtain ⟨ad1, A3, c3, e1, g2, g3, _, hCb⟩ := at_T52 hC'.out (m : Int) hpm hqm
        obtain rfl := Option.some.inj e0
        obtain rfl := Option.some.inj e1
        obtain ⟨rfl, rfl⟩ : A3 = A2 ∧ c3 = c2 := by
          have := (hli.below.cell (World.block_lt_of_cell? _ _ g3)).trans g3
          rw [g1] at this
          injection this with this
          injection this with e1 _ e2
          exact ⟨e1.symm, e2.symm⟩
        rw [Int.toNat_natCast] at g0 g1
        have hy : Aside0 (l[m]? = some (rd_T52 l (m : Int))) := ⟨by unfold rd_T52; rw [List.getElem?_eq_getElem hlt]; simp [List.getD_eq_getElem?_getD, hlt]⟩
        have hCb' := Aside0.mk hCb
        clear hCb e0 e1 g2 g3
        generalize rd_T52 l (m : Int) = y at g0 g1 hy hCb' hc2
        have hym : y ∈ l := List.mem_of_getElem? hy.out
        have hLi1 := hli.step (below_alloc (Below.refl W.heap.size W) (.cells #[.int .i64 y.f0, .slice A3 y.f1.length c3] 52))
        have hcl1 := hLi1.bl.cell
        have hk0 : (W.alloc (.cells #[.int .i64 y.f0, .slice A3 y.f1.length c3] 52)).cell? ⟨W.heap.size, 0, none⟩ = some (.int .i64 y.f0) := by simp [go_sem]
        have hk1 : (W.alloc (.cells #[.int .i64 y.f0, .slice A3 y.f1.length c3] 52)).cell? ⟨W.heap.size, 1, none⟩ = some (.slice A3 y.f1.length c3) := by simp [go_sem]
        have hk0' := Aside0.mk hk0
        have hk1' := Aside0.mk hk1
        clear hk0 hk1
        have h55 := right_calls y.f0 A3 c3 y.f1 l.length (W.alloc (.cells #[.int .i64 y.f0, .slice A3 y.f1.length c3] 52)) (Kd.C_below hCb'.out hLi1.below) (hz'.out.bl y hym) (hz'.out.op y hym) (hz'.out.ar y hym) (hz'.out.all y hym)
        have hLi1' := Aside0.mk hLi1
        have hym' := Aside0.mk hym
        have hc2' := Aside0.mk hc2
        clear hLi1 hym hli hc2
        cases hr : rightB y.f0 y.f1 l.length with
        | false =>
          rw [hr] at h55
          have hv : rv = false := by
            rw [hv'.out, List.all_eq_false]
            exact ⟨y, hym'.out, by unfold fnB; rw [hr]; simp⟩
          clear hv'
          subst hv
          gi_wp2_with ((try refine ⟨trivial, ?_⟩); gi_at_call 55; refine (callsIn_wide.2 h55).mono ?_; rintro e w5 ⟨rfl, hB5⟩; have hLi5 := hLi1'.out.step hB5; have hcr5 := hLi5.br.cell; have hfr5 := hLi5.br.frozen; have hLi5' := Aside0.mk hLi5; clear hLi5 hB5)
          have hLi5 := hLi5'.out
          refine leave27 (hLi5.br.set _) hLi5.stop.2 (hLi5.marks.keep (KeepsBut.setCell (X := fun q => q = w.heap.size + 1) w5 _ _ rfl) (fun D hD e => by have := (hLi5.marks.at_ D hD).1; omega)) rfl
        | true =>
          rw [hr] at h55
          have hr' := Aside0.mk hr
          clear hr
          gi_wp2_with ((try refine ⟨trivial, ?_⟩); first
            | (gi_at_call 55; refine (callsIn_wide.2 h55).mono ?_; rintro e w5 ⟨rfl, hB5⟩; have hLi5 := hLi1'.out.step hB5; have hk05 := (hB5.cell (World.block_lt_of_cell? _ _ hk0'.out)).trans hk0'.out; have hk15 := (hB5.cell (World.block_lt_of_cell? _ _ hk1'.out)).trans hk1'.out; have hcl5 := hLi5.bl.cell; have hLi5' := Aside0.mk hLi5; clear hLi5 hB5)
            | (gi_at_call 56; refine (callsIn_wide.2 (ops56_calls _ _ _)).mono ?_; rintro e w6 ⟨rfl, rfl⟩))
          obtain ⟨w6, hw6⟩ : ∃ w6, w5.alloc (.cells #[.int .i64 y.f0, .slice A3 y.f1.length c3] 52) = w6 := ⟨_, rfl⟩
          have hLi6 : LI w (some ad) c l.length Ds w6 := by rw [← hw6]; exact hLi5'.out.step (below_alloc (Below.refl _ _) _)
          have hs6 : w6.heap.size = w5.heap.size + 1 := by rw [← hw6]; simp
          have kc6 : w6.cell? ⟨w5.heap.size, 1, none⟩ = some (.slice A3 y.f1.length c3) := by rw [← hw6]; simp [go_sem]
          have hbnd : Aside0 (w.heap.size + 2 ≤ w6.heap.size ∧ ∀ D ∈ Ds, D < w6.heap.size) := by
            refine ⟨?_, fun D hD => hLi6.marks.lt D hD⟩
            have h1 := hLi5'.out.br.lt
            omega
          rw [hw6]
          clear hw6 hk05 hk15 hcl5 hcl1 g0 g1 h55 hs6
          have hS := ops80_stops Fence.wide 4 trivial rfl (by omega) w w6 w5.heap.size A3 c3 y.f1 hCb'.out hLi6.below kc6 (hz'.out.bl y hym'.out) (hz'.out.op y hym'.out)
          have hS' := Aside0.mk hS
          have hLi6' := Aside0.mk hLi6
          clear hS kc6 hLi6
          refine wpIn_rangeFunc_ops (wB := w) (l := y.f1) (t := 5) hro (by omega) (gf := 80) (lb := #[.pointer (some ⟨w5.heap.size, 0, none⟩)]) rfl trivial (enters_of Try.func80 (by kernel_rfl) rfl) hS'.out (by have := hbnd.out.1; omega) (Below.refl _ _)
            (fun pre W => PI (wB := w) (lb := y.f1) w l (some ad) c Ds w6.heap.size pre W) (fun c0 pre W => c0 = .ret ∧ PX (wB := w) (lb := y.f1) w l (some ad) c Ds pre W) ?hI ?hIx ?hIs ⟨hLi6'.out, Nat.le_refl _, fun _ h => by cases h⟩ ?assign ?body ?done ?stop
          case hI =>
            rintro pre W W' row ⟨h, hz, ha⟩ hg hr
            have h1 := hbnd.out
            exact ⟨h.abides (B := w6.heap.size) (by omega) h1.2 hg hr, Nat.le_trans hz hg.size, ha⟩
          case hIx =>
            rintro c0 pre W W' row ⟨e, h, hb⟩ hg hr
            have h1 := hbnd.out
            exact ⟨e, h.abides (B := w6.heap.size) (by omega) h1.2 hg hr, hb⟩
          case hIs =>
            intro pre W h
            exact h.sz
          case assign =>
            intro lp x W K hK
            simp only [List.setIfInBounds_toArray, List.set_cons_zero, List.set_cons_succ, OpV.agg, OpV.obj] at hK ⊢
            gi_wp2
            exact hK
          case body =>
            rintro lp b pre x W hb hbox hI hN
            obtain ⟨b0, b1, b2, b3, b4, b5⟩ := hbox.cells
            have hclW := hI.li.bl.cell
            have hcrW := hI.li.br.cell
            have hfrW := hI.li.br.frozen
            have hI' := Aside0.mk hI
            clear hI hN hbox b1 b2 b3
            simp only [List.setIfInBounds_toArray, List.set_cons_zero, List.set_cons_succ]
            by_cases h7 : x.1.x.f0 = 7
            · have h7b : (x.1.x.f0 == 7) = true := by rw [h7]; rfl
              obtain ⟨hi0, hi1⟩ := right_imm hr'.out (show x.1.x ∈ opsOf y.f1 by obtain ⟨z, hz1, hz2⟩ := x.2.2.2; exact List.mem_flatMap.2 ⟨z, hz1, hz2⟩) h7 hL
              obtain ⟨ad0, A7, c7, e0, k0, _, _, _⟩ := at_T52 (Kd.C_below hC'.out hI'.out.li.below) x.1.x.f4 hi0 hi1
              obtain rfl := Option.some.inj e0
              obtain ⟨nb, hnb⟩ : ∃ nb : Bool, ((x.1.x.f5.length : Int) != (rd_T52 l x.1.x.f4).f0) = nb := ⟨_, rfl⟩
              have hcall : Aside0 (callOk l x.1.x = !nb) := ⟨by unfold callOk; rw [if_pos h7, ← hnb]; simp [bne, Bool.beq_eq_decide_eq]⟩
              clear h7 e0
              gi_wp2
              refine startR_ (m := 15) #[false, false, false, false, false, false, false, false, false, false, false, false, false, false, false] (S := fun w' => w'.cell? ⟨b, 0, none⟩ = some (.int .i64 x.1.x.f0) ∧ w'.cell? ⟨b, 4, none⟩ = some (.int .i64 x.1.x.f4) ∧ w'.cell? ⟨b, 5, none⟩ = some (.slice x.1.A x.1.x.f5.length x.1.c) ∧ w'.cell? ⟨w.heap.size, 0, none⟩ = some (.slice (some ad) l.length c) ∧ w'.cell? (ad.add (x.1.x.f4.toNat * 2)) = some (.int .i64 (rd_T52 l x.1.x.f4).f0)) (ds := []) hmix (by kernel_rfl) ?hno rfl rfl ⟨b0, b4, b5, hclW, k0⟩ (fun hHeld => ?_)
              case hno => rintro ⟨a, w', hh⟩; exact hh
              refine pure_ (i := 0) (N := some 31) (v := ?_) (a' := ?_) #[true, false, false, false, false, false, false, false, false, false, false, false, false, false, false] rfl rfl (by kernel_rfl) (fun _ _ _ h => h) (Or.inl ⟨by rfl, ?_⟩) ?_ ?_
              rotate_left
              · intro w'
                go_simp
                try with_reducible rfl
              rotate_left
              · simp only [Act.put, List.setIfInBounds_toArray, List.set_cons_zero, List.set_cons_succ, i64_w, i32_w]
                rfl
              refine take_ (i := 1) (N := some 32) (v := ?_) (a' := ?_) #[true, true, false, false, false, false, false, false, false, false, false, false, false, false, false] rfl rfl (by kernel_rfl) (fun _ _ _ h => h) (Or.inl ⟨by rfl, ?_⟩) hHeld ?_ ?_
              rotate_left
              · rintro w' ⟨s0, s1, s2, s3, s4⟩
                go_simp
                try with_reducible rfl
              rotate_left
              · simp only [Act.put, List.setIfInBounds_toArray, List.set_cons_zero, List.set_cons_succ, i64_w, i32_w]
                rfl
              refine pure_ (i := 2) (N := some 33) (v := .bool true) (a' := ?_) #[true, true, true, false, false, false, false, false, false, false, false, false, false, false, false] rfl rfl (by kernel_rfl) (fun _ _ _ h => h) (Or.inl ⟨by rfl, ?_⟩) ?_ ?_
              · intro w'
                go_simp
                first | done | (with_reducible rfl) | (simp only [*, decide_true, decide_false, if_true, if_false]; done) | (simp [*]; done) | omega | (unfold wrap64; omega)
              rotate_left
              · simp only [Act.put, List.setIfInBounds_toArray, List.set_cons_zero, List.set_cons_succ, i64_w, i32_w]
                rfl
              refine pure_ (i := 3) (N := some 34) (v := .bool true) (a' := ?_) #[true, true, true, true, false, false, false, false, false, false, false, false, false, false, false] rfl rfl (by kernel_rfl) (fun _ _ _ h => h) (Or.inl ⟨by rfl, ?_⟩) ?_ ?_
              · intro w'
                go_simp
                first | done | (with_reducible rfl) | (simp only [*, decide_true, decide_false, if_true, if_false]; done) | (simp [*]; done) | omega | (unfold wrap64; omega)
              rotate_left
              · simp only [Act.put, List.setIfInBounds_toArray, List.set_cons_zero, List.set_cons_succ, i64_w, i32_w]
                rfl
              refine pure_ (i := 4) (N := some 35) (v := ?_) (a' := ?_) #[true, true, true, true, true, false, false, false, false, false, false, false, false, false, false] rfl rfl (by kernel_rfl) (fun _ _ _ h => h) (Or.inl ⟨by rfl, ?_⟩) ?_ ?_
              rotate_left
              · intro w'
                go_simp
                try with_reducible rfl
              rotate_left
              · simp only [Act.put, List.setIfInBounds_toArray, List.set_cons_zero, List.set_cons_succ, i64_w, i32_w]
                rfl
              refine take_ (i := 5) (N := some 36) (v := ?_) (a' := ?_) #[true, true, true, true, true, true, false, false, false, false, false, false, false, false, false] rfl rfl (by kernel_rfl) (fun _ _ _ h => h) (Or.inl ⟨by rfl, ?_⟩) hHeld ?_ ?_
              rotate_left
              · rintro w' ⟨s0, s1, s2, s3, s4⟩
                go_simp
                try with_reducible rfl
              rotate_left
              · simp only [Act.put, List.setIfInBounds_toArray, List.set_cons_zero, List.set_cons_succ, i64_w, i32_w]
                rfl
              refine pure_ (i := 6) (N := some 37) (v := ?_) (a' := ?_) #[true, true, true, true, true, true, true, false, false, false, false, false, false, false, false] rfl rfl (by kernel_rfl) (fun _ _ _ h => h) (Or.inl ⟨by rfl, ?_⟩) ?_ ?_
              rotate_left
              · intro w'
                go_simp
                try with_reducible rfl
              rotate_left
              · simp only [Act.put, List.setIfInBounds_toArray, List.set_cons_zero, List.set_cons_succ, i64_w, i32_w]
                rfl
              refine take_ (i := 7) (N := some 38) (v := ?_) (a' := ?_) #[true, true, true, true, true, true, true, true, false, false, false, false, false, false, false] rfl rfl (by kernel_rfl) (fun _ _ _ h => h) (Or.inl ⟨by rfl, ?_⟩) hHeld ?_ ?_
              rotate_left
              · rintro w' ⟨s0, s1, s2, s3, s4⟩
                go_simp
                try with_reducible rfl
              rotate_left
              · simp only [Act.put, List.setIfInBounds_toArray, List.set_cons_zero, List.set_cons_succ, i64_w, i32_w]
                rfl
              refine pure_ (i := 8) (N := some 39) (v := ?_) (a' := ?_) #[true, true, true, true, true, true, true, true, true, false, false, false, false, false, false] rfl rfl (by kernel_rfl) (fun _ _ _ h => h) (Or.inl ⟨by rfl, ?_⟩) ?_ ?_
              rotate_left
              · intro w'
                go_simp
                try with_reducible rfl
              rotate_left
              · simp only [Act.put, List.setIfInBounds_toArray, List.set_cons_zero, List.set_cons_succ, i64_w, i32_w]
                rfl
              refine take_ (i := 9) (N := some 40) (v := ?_) (a' := ?_) #[true, true, true, true, true, true, true, true, true, true, false, false, false, false, false] rfl rfl (by kernel_rfl) (fun _ _ _ h => h) (Or.inl ⟨by rfl, ?_⟩) hHeld ?_ ?_
              rotate_left
              · rintro w' ⟨s0, s1, s2, s3, s4⟩
                go_simp
                try with_reducible rfl
              rotate_left
              · simp only [Act.put, List.setIfInBounds_toArray, List.set_cons_zero, List.set_cons_succ, i64_w, i32_w]
                rfl
              refine pure_ (i := 10) (N := some 41) (v := ?_) (a' := ?_) #[true, true, true, true, true, true, true, true, true, true, true, false, false, false, false] rfl rfl (by kernel_rfl) (fun _ _ _ h => h) (Or.inl ⟨by rfl, ?_⟩) ?_ ?_
              rotate_left
              · intro w'
                go_simp
                try with_reducible rfl
              rotate_left
              · simp only [Act.put, List.setIfInBounds_toArray, List.set_cons_zero, List.set_cons_succ, i64_w, i32_w]
                rfl
              refine pure_ (i := 11) (N := some 42) (v := ?_) (a' := ?_) #[true, true, true, true, true, true, true, true, true, true, true, true, false, false, false] rfl rfl (by kernel_rfl) (fun _ _ _ h => h) (Or.inl ⟨by rfl, ?_⟩) ?_ ?_
              rotate_left
              · intro w'
                go_simp
                try with_reducible rfl
              rotate_left
              · simp only [Act.put, List.setIfInBounds_toArray, List.set_cons_zero, List.set_cons_succ, i64_w, i32_w]
                rfl
              refine take_ (i := 12) (N := some 43) (v := ?_) (a' := ?_) #[true, true, true, true, true, true, true, true, true, true, true, true, true, false, false] rfl rfl (by kernel_rfl) (fun _ _ _ h => h) (Or.inl ⟨by rfl, ?_⟩) hHeld ?_ ?_
              rotate_left
              · rintro w' ⟨s0, s1, s2, s3, s4⟩
                go_simp
                try with_reducible rfl
              rotate_left
              · simp only [Act.put, List.setIfInBounds_toArray, List.set_cons_zero, List.set_cons_succ, i64_w, i32_w]
                rfl
              refine pure_ (i := 13) (N := some 44) (v := .bool nb) (a' := ?_) #[true, true, true, true, true, true, true, true, true, true, true, true, true, true, false] rfl rfl (by kernel_rfl) (fun _ _ _ h => h) (Or.inl ⟨by rfl, ?_⟩) ?_ ?_
              · intro w'
                go_simp
                first | done | (with_reducible rfl) | (simp only [*, decide_true, decide_false, if_true, if_false]; done) | (simp [*]; done) | omega | (unfold wrap64; omega)
              rotate_left
              · simp only [Act.put, List.setIfInBounds_toArray, List.set_cons_zero, List.set_cons_succ, i64_w, i32_w]
                rfl
              refine pure_ (i := 14) (N := some 45) (v := .bool nb) (a' := ?_) #[true, true, true, true, true, true, true, true, true, true, true, true, true, true, true] rfl rfl (by kernel_rfl) (fun _ _ _ h => h) (Or.inl ⟨by rfl, ?_⟩) ?_ ?_
              · intro w'
                go_simp
                first | done | (with_reducible rfl) | (simp only [*, decide_true, decide_false, if_true, if_false]; done) | (simp [*]; done) | omega | (unfold wrap64; omega)
              rotate_left
              · simp only [Act.put, List.setIfInBounds_toArray, List.set_cons_zero, List.set_cons_succ, i64_w, i32_w]
                rfl
              refine done_ (by kernel_rfl) ?_
              have hbd : Below W.heap.size W W.drew := ⟨rfl, rfl, rfl, Nat.le_refl _, fun _ _ => rfl⟩
              have hcrW' : W.drew.cell? ⟨w.heap.size + 1, 0, none⟩ = some (.bool false) := hcrW
              have hfrW' : W.drew.frozen? ⟨w.heap.size + 1, 0, none⟩ = false := hfrW
              have hkf : Aside0 (KeepsFrom w6.heap.size W W.drew) := ⟨(KeepsOthers.drew W).from _⟩
              have hLd : LI w (some ad) c l.length Ds W.drew := hI'.out.li.step hbd
              have hLd' := Aside0.mk hLd
              have hbd' := Aside0.mk hbd
              have hall' := Aside0.mk hI'.out.all
              have hsz' := Aside0.mk hI'.out.sz
              clear hLd hbd hcrW hfrW hHeld hI'
              cases nb with
              | true =>
                clear hnb
                gi_wp2
                refine ⟨hkf.out.trans ((KeepsOthers.setCell W.drew _ _).from _), rfl, ?_, x, by simp, by rw [hcall.out]; rfl⟩
                have h0 := hLd'.out
                have k2 : KeepsBut (fun q => q = w.heap.size + 1) W.drew (W.drew.setCell ⟨w.heap.size + 1, 0, none⟩ (.bool false)) := KeepsBut.setCell _ _ _ rfl
                exact ⟨h0.below.trans (k2.below h0.below.size (fun q hq e => by omega)), (k2.block _ h0.bl.lt (by omega)).trans h0.bl, h0.br.set _, h0.marks.keep k2 (fun D hD e => by have := (h0.marks.at_ D hD).1; omega)⟩
              | false =>
                clear hnb
                gi_wp2
                refine ⟨hkf.out, hbd'.out.mono hLd'.out.below.size, hLd'.out, hsz'.out, ?_⟩
                intro o ho
                rcases List.mem_append.1 ho with ho | ho
                · exact hall'.out o ho
                · rw [List.mem_singleton.1 ho, hcall.out]; rfl
            · have h7b : (x.1.x.f0 == 7) = false := beq_false_of_ne h7
              have hcall : Aside0 (callOk l x.1.x = true) := ⟨by unfold callOk; rw [if_neg h7]⟩
              clear h7
              gi_wp2
              refine startR_ (m := 15) #[false, false, false, false, false, false, false, false, false, false, false, false, false, false, false] (S := fun w' => w'.cell? ⟨b, 0, none⟩ = some (.int .i64 x.1.x.f0)) (ds := []) hmix (by kernel_rfl) ?hno rfl rfl b0 (fun hHeld => ?_)
              case hno => rintro ⟨a, w', hh⟩; exact hh
              refine pure_ (i := 0) (N := some 31) (v := ?_) (a' := ?_) #[true, false, false, false, false, false, false, false, false, false, false, false, false, false, false] rfl rfl (by kernel_rfl) (fun _ _ _ h => h) (Or.inl ⟨by rfl, ?_⟩) ?_ ?_
              rotate_left
              · intro w'
                go_simp
                try with_reducible rfl
              rotate_left
              · simp only [Act.put, List.setIfInBounds_toArray, List.set_cons_zero, List.set_cons_succ, i64_w, i32_w]
                rfl
              refine take_ (i := 1) (N := some 32) (v := ?_) (a' := ?_) #[true, true, false, false, false, false, false, false, false, false, false, false, false, false, false] rfl rfl (by kernel_rfl) (fun _ _ _ h => h) (Or.inl ⟨by rfl, ?_⟩) hHeld ?_ ?_
              rotate_left
              · rintro w' s0
                go_simp
                try with_reducible rfl
              rotate_left
              · simp only [Act.put, List.setIfInBounds_toArray, List.set_cons_zero, List.set_cons_succ, i64_w, i32_w]
                rfl
              refine pure_ (i := 2) (N := some 33) (v := .bool false) (a' := ?_) #[true, true, true, false, false, false, false, false, false, false, false, false, false, false, false] rfl rfl (by kernel_rfl) (fun _ _ _ h => h) (Or.inl ⟨by rfl, ?_⟩) ?_ ?_
              · intro w'
                go_simp
                first | done | (with_reducible rfl) | (simp only [*, decide_true, decide_false, if_true, if_false]; done) | (simp [*]; done) | omega | (unfold wrap64; omega)
              rotate_left
              · simp only [Act.put, List.setIfInBounds_toArray, List.set_cons_zero, List.set_cons_succ, i64_w, i32_w]
                rfl
              refine pure_ (i := 3) (N := some 34) (v := .bool false) (a' := ?_) #[true, true, true, true, false, false, false, false, false, false, false, false, false, false, false] rfl rfl (by kernel_rfl) (fun _ _ _ h => h) (Or.inl ⟨by rfl, ?_⟩) ?_ ?_
              · intro w'
                go_simp
                first | done | (with_reducible rfl) | (simp only [*, decide_true, decide_false, if_true, if_false]; done) | (simp [*]; done) | omega | (unfold wrap64; omega)
              rotate_left
              · simp only [Act.put, List.setIfInBounds_toArray, List.set_cons_zero, List.set_cons_succ, i64_w, i32_w]
                rfl
              refine pure_ (i := 4) (N := some 35) (v := undef) (a' := ?_) #[true, true, true, true, true, false, false, false, false, false, false, false, false, false, false] rfl rfl (by kernel_rfl) (fun _ _ _ h => h) (Or.inr ⟨by rfl, rfl⟩) ?_ ?_
              rotate_left
              · simp only [Act.put, List.setIfInBounds_toArray, List.set_cons_zero, List.set_cons_succ, i64_w, i32_w]
                rfl
              refine pure_ (i := 5) (N := some 36) (v := undef) (a' := ?_) #[true, true, true, true, true, true, false, false, false, false, false, false, false, false, false] rfl rfl (by kernel_rfl) (fun _ _ _ h => h) (Or.inr ⟨by rfl, rfl⟩) ?_ ?_
              rotate_left
              · simp only [Act.put, List.setIfInBounds_toArray, List.set_cons_zero, List.set_cons_succ, i64_w, i32_w]
                rfl
              refine pure_ (i := 6) (N := some 37) (v := undef) (a' := ?_) #[true, true, true, true, true, true, true, false, false, false, false, false, false, false, false] rfl rfl (by kernel_rfl) (fun _ _ _ h => h) (Or.inr ⟨by rfl, rfl⟩) ?_ ?_
              rotate_left
              · simp only [Act.put, List.setIfInBounds_toArray, List.set_cons_zero, List.set_cons_succ, i64_w, i32_w]
                rfl
              refine pure_ (i := 7) (N := some 38) (v := undef) (a' := ?_) #[true, true, true, true, true, true, true, true, false, false, false, false, false, false, false] rfl rfl (by kernel_rfl) (fun _ _ _ h => h) (Or.inr ⟨by rfl, rfl⟩) ?_ ?_
              rotate_left
              · simp only [Act.put, List.setIfInBounds_toArray, List.set_cons_zero, List.set_cons_succ, i64_w, i32_w]
                rfl
              refine pure_ (i := 8) (N := some 39) (v := undef) (a' := ?_) #[true, true, true, true, true, true, true, true, true, false, false, false, false, false, false] rfl rfl (by kernel_rfl) (fun _ _ _ h => h) (Or.inr ⟨by rfl, rfl⟩) ?_ ?_
              rotate_left
              · simp only [Act.put, List.setIfInBounds_toArray, List.set_cons_zero, List.set_cons_succ, i64_w, i32_w]
                rfl
              refine pure_ (i := 9) (N := some 40) (v := undef) (a' := ?_) #[true, true, true, true, true, true, true, true, true, true, false, false, false, false, false] rfl rfl (by kernel_rfl) (fun _ _ _ h => h) (Or.inr ⟨by rfl, rfl⟩) ?_ ?_
              rotate_left
              · simp only [Act.put, List.setIfInBounds_toArray, List.set_cons_zero, List.set_cons_succ, i64_w, i32_w]
                rfl
              refine pure_ (i := 10) (N := some 41) (v := undef) (a' := ?_) #[true, true, true, true, true, true, true, true, true, true, true, false, false, false, false] rfl rfl (by kernel_rfl) (fun _ _ _ h => h) (Or.inr ⟨by rfl, rfl⟩) ?_ ?_
              rotate_left
              · simp only [Act.put, List.setIfInBounds_toArray, List.set_cons_zero, List.set_cons_succ, i64_w, i32_w]
                rfl
              refine pure_ (i := 11) (N := some 42) (v := undef) (a' := ?_) #[true, true, true, true, true, true, true, true, true, true, true, true, false, false, false] rfl rfl (by kernel_rfl) (fun _ _ _ h => h) (Or.inr ⟨by rfl, rfl⟩) ?_ ?_
              rotate_left
              · simp only [Act.put, List.setIfInBounds_toArray, List.set_cons_zero, List.set_cons_succ, i64_w, i32_w]
                rfl
              refine pure_ (i := 12) (N := some 43) (v := undef) (a' := ?_) #[true, true, true, true, true, true, true, true, true, true, true, true, true, false, false] rfl rfl (by kernel_rfl) (fun _ _ _ h => h) (Or.inr ⟨by rfl, rfl⟩) ?_ ?_
              rotate_left
              · simp only [Act.put, List.setIfInBounds_toArray, List.set_cons_zero, List.set_cons_succ, i64_w, i32_w]
                rfl
              refine pure_ (i := 13) (N := some 44) (v := undef) (a' := ?_) #[true, true, true, true, true, true, true, true, true, true, true, true, true, true, false] rfl rfl (by kernel_rfl) (fun _ _ _ h => h) (Or.inr ⟨by rfl, rfl⟩) ?_ ?_
              rotate_left
              · simp only [Act.put, List.setIfInBounds_toArray, List.set_cons_zero, List.set_cons_succ, i64_w, i32_w]
                rfl
              refine pure_ (i := 14) (N := some 45) (v := .bool false) (a' := ?_) #[true, true, true, true, true, true, true, true, true, true, true, true, true, true, true] rfl rfl (by kernel_rfl) (fun _ _ _ h => h) (Or.inl ⟨by rfl, ?_⟩) ?_ ?_
              · intro w'
                go_simp
                first | done | (with_reducible rfl) | (simp only [*, decide_true, decide_false, if_true, if_false]; done) | (simp [*]; done) | omega | (unfold wrap64; omega)
              rotate_left
              · simp only [Act.put, List.setIfInBounds_toArray, List.set_cons_zero, List.set_cons_succ, i64_w, i32_w]
                rfl
              refine done_ (by kernel_rfl) ?_
              have hbd : Below W.heap.size W W.drew := ⟨rfl, rfl, rfl, Nat.le_refl _, fun _ _ => rfl⟩
              have hkf : Aside0 (KeepsFrom w6.heap.size W W.drew) := ⟨(KeepsOthers.drew W).from _⟩
              have hLd' := Aside0.mk (hI'.out.li.step hbd)
              have hbd' := Aside0.mk hbd
              have hall' := Aside0.mk hI'.out.all
              have hsz' := Aside0.mk hI'.out.sz
              clear hbd hcrW hfrW hHeld hI'
              gi_wp2
              refine ⟨hkf.out, hbd'.out.mono hLd'.out.below.size, hLd'.out, hsz'.out, ?_⟩
              intro o ho
              rcases List.mem_append.1 ho with ho | ho
              · exact hall'.out o ho
              · rw [List.mem_singleton.1 ho, hcall.out]
          case done =>
            rintro D xs W hD hS hI hK
            have hst : Rel (m + 1) (D :: Ds) W := by
              rw [hRel]
              refine ⟨by omega, ⟨?_, hI.li.below, hI.li.bl, hI.li.br, hI.li.marks.cons (by have := hbnd.out.1; omega) (fun q hq => by have := hbnd.out.2 q hq; omega) hK⟩⟩
              rw [List.take_add_one, hy.out, List.all_append, hR.out.1]
              simp only [Option.toList_some, List.all_cons, List.all_nil, Bool.and_true, Bool.true_and]
              unfold fnB
              rw [hr'.out, ← hS, Bool.true_and, List.all_map, List.all_eq_true]
              intro o ho
              exact hI.all o ho
            have hst' := Aside0.mk hst
            clear hst hI hS hK hRel
            gi_wp2
            refine ⟨⟨m + 1, D :: Ds, hst'.out, ?_⟩, by simp [RowKit.intOf]; omega⟩
            rw [show ((m : Int) + 1) = ((m + 1 : Nat) : Int) by omega]
            repeat apply Exists.intro
            rfl
          case stop =>
            rintro D c0 pre W hD ⟨r, hS⟩ ⟨rfl, hX⟩ hK
            have hv : rv = false := by
              rw [hv'.out, List.all_eq_false]
              obtain ⟨o, ho, h⟩ := hX.bad
              refine ⟨y, hym'.out, ?_⟩
              unfold fnB
              rw [hS]
              rw [Bool.not_eq_true, Bool.and_eq_false_iff]
              right
              rw [List.all_eq_false]
              exact ⟨o.1.x, List.mem_append_left _ (List.mem_map.2 ⟨o, ho, rfl⟩), by rw [h]; simp⟩
            have hX' := Aside0.mk hX
            have hK' := Aside0.mk hK
            clear hX hS hK hv'
            subst hv
            gi_wp2
            have h0 := hX'.out.li
            exact leave27 (Ds := D :: Ds) h0.br h0.below (h0.marks.cons (by have := hbnd.out.1; omega) (fun q hq => by have := hbnd.out.2 q hq; omega) hK'.out) rfl
      · have hltb : decide ((m : Int) < (l.length : Int)) = false := decide_eq_false (by omega)
        have hv : rv = true := by
          have := hR.out.1
          rw [List.take_of_length_le (by omega)] at this
          rw [hv'.out, this]
        have hli := hR.out.2
        have hcr := hli.br.cell
        have hfr := hli.br.frozen
        have hli' := Aside0.mk hli
        clear hli hv'
        subst hv
        gi_wp2
        have hli := hli'.out
        exact leave27 (hli.br.set _) (hli.below.trans ((KeepsBut.setCell (X := fun q => q = w.heap.size + 1) W _ _ rfl).below hli.below.size (fun q hq e => by omega))) (hli.marks.keep (KeepsBut.setCell (X := fun q => q = w.heap.size + 1) W _ _ rfl) (fun D hD e => by have := (hli.marks.at_ D hD).1; omega)) rfl
end Go.Proofs.Yteeapfmgdlcgfaa.A


namespace Go.Proofs.Yteeapfmgdlcgfaa.A
open Go.RowKit Go.Proofs.YteeapfmgdlcgfaaW.PrintWords Go.Proofs.YteeapfmgdlcgfaaW.PrintLast Go.Proofs.YteeapfmgdlcgfaaW.PrintMore
attribute [local go_sem] max2_int min2_int max_two min_two max_three min_three max_four min_four   -- for this text's walks alone
set_option linter.unusedVariables false
set_option linter.unusedSimpArgs false

def code_Sets.f (k : Nat) (a0_0 : Int) (a0_1 : Int) (a0_2 : Int) (a0_3 : Int) (a0_4 : Int) (l0_5 : List Int) : Option (Int) := (code_shapeOf.f k a0_0).bind fun bt367 => (if bt367.1 = true then (some a0_1) else (some 0))
set_option maxHeartbeats 8000000 in
set_option maxRecDepth 100000 in
theorem code_Sets.calls (k : Nat) (a0_0 : Int) (a0_1 : Int) (a0_2 : Int) (a0_3 : Int) (a0_4 : Int) (A0_5 : Option Addr) (c0_5 : Nat) (l0_5 : List Int) (r : Int) (w : World) (hr0_5 : Kd.C (Kd.int .i64) w A0_5 l0_5.length l0_5) (hc0_5 : l0_5.length ≤ c0_5) (h : code_Sets.f k a0_0 a0_1 a0_2 a0_3 a0_4 l0_5 = some r) :
    Calls Try.prog 61 #[.agg #[.int .i64 a0_0, .int .i64 a0_1, .int .i64 a0_2, .int .i64 a0_3, .int .i64 a0_4, .slice A0_5 l0_5.length c0_5]] w fun e w' => e = .returned (.int .i64 r) ∧ Below w.heap.size w w' := by
  have hu60 := Try.underlying60
  have hu125 := Try.underlying125
  have HR0_5 := Aside0.mk hr0_5
  have HC0_5 := Aside0.mk hc0_5
  clear hr0_5 hc0_5
  have HB := Aside0.mk (Below.refl w.heap.size w)
  have H : ((code_shapeOf.f k a0_0).bind fun bt367 => (if bt367.1 = true then (some a0_1) else (some 0))) = some r := h
  clear h
  replace H := Option.bind_eq_some_iff.mp H
  obtain ⟨⟨t367, t368, t369, t370, t371⟩, A20, H⟩ := H
  replace H : (if t367 = true then (some a0_1) else (some 0)) = some r := H
  have A2 := Aside0.mk A20
  clear A20
  by_cases c3 : t367 = true
  · subst c3
    have H1 : (some a0_1) = some r := by rw [if_pos rfl] at H; exact H
    clear H
    have H := H1
    clear H1
    obtain rfl := Option.some.inj H
    go_enter Try.func61, Try.ntmps61
    go_wp2_with (first | ((with_reducible refine gate_dst (N := 1) rfl ?_); refine box_event ?hg (N := 1) ?hd (cs := #[.int .i64 a0_0, .int .i64 a0_1, .int .i64 a0_2, .int .i64 a0_3, .int .i64 a0_4, .slice A0_5 l0_5.length c0_5]) (t := 60) ?hr ?_; (case hd => rfl); (case hg => rfl); (case hr => first | (go_simp; done) | (go_simp; rfl)); intro gb366 hg w4 hbox hb; have n0_ := Aside0.mk (below_step (by repeat (first | (with_reducible first | exact HB.out | apply below_alloc | apply pw_below_drewN | apply below_drew1) | exact HB.out)) hb); have n1_ := Aside0.mk (hbox); have n2_ := Aside0.mk ((by rw [hg]; exact (below_size (by repeat (first | (with_reducible first | exact HB.out | apply below_alloc | apply pw_below_drewN | apply below_drew1) | exact HB.out))) : w.heap.size ≤ gb366)); have n3_ := Aside0.mk ((by rw [hg]; exact (below_size (by repeat (first | (with_reducible first | exact HB.out | apply below_alloc | apply pw_below_drewN | apply below_drew1) | exact HB.out))) : w.heap.size ≤ gb366)); clear HB; have HB := n0_; have BK366 := n1_; have GW366 := n2_; have GE366 := n3_; clear n0_ n1_ n2_ n3_; clear hb hbox hg; have hcz5_0 : w4.cell? ⟨gb366, 0, none⟩ = some (.int .i64 a0_0) := (blk_cell BK366.out 0).trans rfl; have hcz5_1 : w4.cell? ⟨gb366, 1, none⟩ = some (.int .i64 a0_1) := (blk_cell BK366.out 1).trans rfl; have hcz5_2 : w4.cell? ⟨gb366, 2, none⟩ = some (.int .i64 a0_2) := (blk_cell BK366.out 2).trans rfl; have hcz5_3 : w4.cell? ⟨gb366, 3, none⟩ = some (.int .i64 a0_3) := (blk_cell BK366.out 3).trans rfl; have hcz5_4 : w4.cell? ⟨gb366, 4, none⟩ = some (.int .i64 a0_4) := (blk_cell BK366.out 4).trans rfl; have hcz5_5 : w4.cell? ⟨gb366, 5, none⟩ = some (.slice A0_5 l0_5.length c0_5) := (blk_cell BK366.out 5).trans rfl; have hfz5_0 := blk_frozen BK366.out 0; have hfz5_1 := blk_frozen BK366.out 1; have hfz5_2 := blk_frozen BK366.out 2; have hfz5_3 := blk_frozen BK366.out 3; have hfz5_4 := blk_frozen BK366.out 4; have hfz5_5 := blk_frozen BK366.out 5) | ((with_reducible refine gate_callee (f := 81) rfl ?_); refine goesL_ (some 8) rfl rfl Try.func81 (by kernel_rfl) rfl #[.int .i64 a0_0] rfl (by (try simp only [List.map_toArray, List.map_cons, List.map_nil]); first | done | rfl | (simp only [List.length_drop, List.length_take]; rfl)) ?_; (with_reducible refine (code_shapeOf.calls k a0_0 true t368 t369 t370 t371 _ A2.out).mono ?_); rintro e w6 ⟨rfl, hb⟩; refine ⟨_, rfl, ?_⟩; have n0_ := Aside0.mk (blk_below (g := gb366) (o := .cells #[.int .i64 a0_0, .int .i64 a0_1, .int .i64 a0_2, .int .i64 a0_3, .int .i64 a0_4, .slice A0_5 l0_5.length c0_5] 60 (0, 0)) (by (with_reducible repeat (first | refine blk_drewN ?_ _ | refine blk_drew ?_ | refine blk_alloc ?_ _)); exact BK366.out) hb); have n1_ := Aside0.mk (below_step (by repeat (first | (with_reducible first | exact HB.out | apply below_alloc | apply pw_below_drewN | apply below_drew1 | refine below_set ?_ GE366.out) | exact HB.out)) hb); clear BK366; clear HB; have BK366 := n0_; have HB := n1_; clear n0_ n1_; (try clear hb); (try clear hb2); (try clear hk); (try clear hi)) | ((with_reducible refine gate_dst (N := 3) rfl ?_); refine box_event ?hg (N := 3) ?hd (cs := #[.bool false, .bool false, .bool false, .bool false]) (t := 125) ?hr ?_; (case hd => rfl); (case hg => rfl); (case hr => first | (go_simp; done) | (go_simp; rfl)); intro gb372 hg w7 hbox hb; have n0_ := Aside0.mk (blk_below (g := gb366) (o := .cells #[.int .i64 a0_0, .int .i64 a0_1, .int .i64 a0_2, .int .i64 a0_3, .int .i64 a0_4, .slice A0_5 l0_5.length c0_5] 60 (0, 0)) (by (with_reducible repeat (first | refine blk_drewN ?_ _ | refine blk_drew ?_ | refine blk_alloc ?_ _)); exact BK366.out) hb); have n1_ := Aside0.mk (below_step (by repeat (first | (with_reducible first | exact HB.out | apply below_alloc | apply pw_below_drewN | apply below_drew1 | refine below_set ?_ GE366.out) | exact HB.out)) hb); have n2_ := Aside0.mk (hbox); have n3_ := Aside0.mk ((by rw [hg]; exact (below_size (by repeat (first | (with_reducible first | exact HB.out | apply below_alloc | apply pw_below_drewN | apply below_drew1 | refine below_set ?_ GE366.out) | exact HB.out))) : w.heap.size ≤ gb372)); have n4_ := Aside0.mk ((by rw [hg]; exact (below_size (by repeat (first | (with_reducible first | exact HB.out | apply below_alloc | apply pw_below_drewN | apply below_drew1 | refine below_set ?_ GE366.out) | exact HB.out))) : w.heap.size ≤ gb372)); have n5_ := Aside0.mk ((by rw [hg]; exact Nat.ne_of_lt (blk_lt (g := gb366) (o := .cells #[.int .i64 a0_0, .int .i64 a0_1, .int .i64 a0_2, .int .i64 a0_3, .int .i64 a0_4, .slice A0_5 l0_5.length c0_5] 60 (0, 0)) (by (with_reducible repeat (first | refine blk_drewN ?_ _ | refine blk_drew ?_ | refine blk_alloc ?_ _)); exact BK366.out)) : gb366 ≠ gb372)); have n6_ := Aside0.mk ((by rw [hg]; exact Nat.ne_of_gt (blk_lt (g := gb366) (o := .cells #[.int .i64 a0_0, .int .i64 a0_1, .int .i64 a0_2, .int .i64 a0_3, .int .i64 a0_4, .slice A0_5 l0_5.length c0_5] 60 (0, 0)) (by (with_reducible repeat (first | refine blk_drewN ?_ _ | refine blk_drew ?_ | refine blk_alloc ?_ _)); exact BK366.out)) : gb372 ≠ gb366)); clear BK366; clear HB; have BK366 := n0_; have HB := n1_; have BK372 := n2_; have GW372 := n3_; have GE372 := n4_; have NB366_372 := n5_; have NB372_366 := n6_; clear n0_ n1_ n2_ n3_ n4_ n5_ n6_; clear hb hbox hg; have hnb8 := NB372_366.out; have hnc8 := NB366_372.out; have hcz9_0 : w7.cell? ⟨gb372, 0, none⟩ = some (.bool false) := (blk_cell BK372.out 0).trans rfl; have hcz9_1 : w7.cell? ⟨gb372, 1, none⟩ = some (.bool false) := (blk_cell BK372.out 1).trans rfl; have hcz9_2 : w7.cell? ⟨gb372, 2, none⟩ = some (.bool false) := (blk_cell BK372.out 2).trans rfl; have hcz9_3 : w7.cell? ⟨gb372, 3, none⟩ = some (.bool false) := (blk_cell BK372.out 3).trans rfl; have hfz9_0 := blk_frozen BK372.out 0; have hfz9_1 := blk_frozen BK372.out 1; have hfz9_2 := blk_frozen BK372.out 2; have hfz9_3 := blk_frozen BK372.out 3; have hcz10_0 : w7.cell? ⟨gb366, 0, none⟩ = some (.int .i64 a0_0) := (blk_cell BK366.out 0).trans rfl; have hcz10_1 : w7.cell? ⟨gb366, 1, none⟩ = some (.int .i64 a0_1) := (blk_cell BK366.out 1).trans rfl; have hcz10_2 : w7.cell? ⟨gb366, 2, none⟩ = some (.int .i64 a0_2) := (blk_cell BK366.out 2).trans rfl; have hcz10_3 : w7.cell? ⟨gb366, 3, none⟩ = some (.int .i64 a0_3) := (blk_cell BK366.out 3).trans rfl; have hcz10_4 : w7.cell? ⟨gb366, 4, none⟩ = some (.int .i64 a0_4) := (blk_cell BK366.out 4).trans rfl; have hcz10_5 : w7.cell? ⟨gb366, 5, none⟩ = some (.slice A0_5 l0_5.length c0_5) := (blk_cell BK366.out 5).trans rfl; have hfz10_0 := blk_frozen BK366.out 0; have hfz10_1 := blk_frozen BK366.out 1; have hfz10_2 := blk_frozen BK366.out 2; have hfz10_3 := blk_frozen BK366.out 3; have hfz10_4 := blk_frozen BK366.out 4; have hfz10_5 := blk_frozen BK366.out 5))
    go_ret
    exact ⟨by first | rfl | (simp [errW_none, errW_some] <;> rfl) | (simp [*, errW_none, errW_some] <;> rfl), by repeat (first | (with_reducible first | exact HB.out | apply below_alloc | apply pw_below_drewN | apply below_drew1 | refine below_set ?_ GE366.out | refine below_set ?_ GE372.out) | exact HB.out)⟩
  · replace c3 := Bool.eq_false_iff.mpr c3
    subst c3
    have H1 : (some 0) = some r := by rw [if_neg (show ¬ (false = true) by decide)] at H; exact H
    clear H
    have H := H1
    clear H1
    obtain rfl := Option.some.inj H
    go_enter Try.func61, Try.ntmps61
    go_wp2_with (first | ((with_reducible refine gate_dst (N := 1) rfl ?_); refine box_event ?hg (N := 1) ?hd (cs := #[.int .i64 a0_0, .int .i64 a0_1, .int .i64 a0_2, .int .i64 a0_3, .int .i64 a0_4, .slice A0_5 l0_5.length c0_5]) (t := 60) ?hr ?_; (case hd => rfl); (case hg => rfl); (case hr => first | (go_simp; done) | (go_simp; rfl)); intro gb366 hg w11 hbox hb; have n0_ := Aside0.mk (below_step (by repeat (first | (with_reducible first | exact HB.out | apply below_alloc | apply pw_below_drewN | apply below_drew1) | exact HB.out)) hb); have n1_ := Aside0.mk (hbox); have n2_ := Aside0.mk ((by rw [hg]; exact (below_size (by repeat (first | (with_reducible first | exact HB.out | apply below_alloc | apply pw_below_drewN | apply below_drew1) | exact HB.out))) : w.heap.size ≤ gb366)); have n3_ := Aside0.mk ((by rw [hg]; exact (below_size (by repeat (first | (with_reducible first | exact HB.out | apply below_alloc | apply pw_below_drewN | apply below_drew1) | exact HB.out))) : w.heap.size ≤ gb366)); clear HB; have HB := n0_; have BK366 := n1_; have GW366 := n2_; have GE366 := n3_; clear n0_ n1_ n2_ n3_; clear hb hbox hg; have hcz12_0 : w11.cell? ⟨gb366, 0, none⟩ = some (.int .i64 a0_0) := (blk_cell BK366.out 0).trans rfl; have hcz12_1 : w11.cell? ⟨gb366, 1, none⟩ = some (.int .i64 a0_1) := (blk_cell BK366.out 1).trans rfl; have hcz12_2 : w11.cell? ⟨gb366, 2, none⟩ = some (.int .i64 a0_2) := (blk_cell BK366.out 2).trans rfl; have hcz12_3 : w11.cell? ⟨gb366, 3, none⟩ = some (.int .i64 a0_3) := (blk_cell BK366.out 3).trans rfl; have hcz12_4 : w11.cell? ⟨gb366, 4, none⟩ = some (.int .i64 a0_4) := (blk_cell BK366.out 4).trans rfl; have hcz12_5 : w11.cell? ⟨gb366, 5, none⟩ = some (.slice A0_5 l0_5.length c0_5) := (blk_cell BK366.out 5).trans rfl; have hfz12_0 := blk_frozen BK366.out 0; have hfz12_1 := blk_frozen BK366.out 1; have hfz12_2 := blk_frozen BK366.out 2; have hfz12_3 := blk_frozen BK366.out 3; have hfz12_4 := blk_frozen BK366.out 4; have hfz12_5 := blk_frozen BK366.out 5) | ((with_reducible refine gate_callee (f := 81) rfl ?_); refine goesL_ (some 8) rfl rfl Try.func81 (by kernel_rfl) rfl #[.int .i64 a0_0] rfl (by (try simp only [List.map_toArray, List.map_cons, List.map_nil]); first | done | rfl | (simp only [List.length_drop, List.length_take]; rfl)) ?_; (with_reducible refine (code_shapeOf.calls k a0_0 false t368 t369 t370 t371 _ A2.out).mono ?_); rintro e w13 ⟨rfl, hb⟩; refine ⟨_, rfl, ?_⟩; have n0_ := Aside0.mk (blk_below (g := gb366) (o := .cells #[.int .i64 a0_0, .int .i64 a0_1, .int .i64 a0_2, .int .i64 a0_3, .int .i64 a0_4, .slice A0_5 l0_5.length c0_5] 60 (0, 0)) (by (with_reducible repeat (first | refine blk_drewN ?_ _ | refine blk_drew ?_ | refine blk_alloc ?_ _)); exact BK366.out) hb); have n1_ := Aside0.mk (below_step (by repeat (first | (with_reducible first | exact HB.out | apply below_alloc | apply pw_below_drewN | apply below_drew1 | refine below_set ?_ GE366.out) | exact HB.out)) hb); clear BK366; clear HB; have BK366 := n0_; have HB := n1_; clear n0_ n1_; (try clear hb); (try clear hb2); (try clear hk); (try clear hi)) | ((with_reducible refine gate_dst (N := 3) rfl ?_); refine box_event ?hg (N := 3) ?hd (cs := #[.bool false, .bool false, .bool false, .bool false]) (t := 125) ?hr ?_; (case hd => rfl); (case hg => rfl); (case hr => first | (go_simp; done) | (go_simp; rfl)); intro gb372 hg w14 hbox hb; have n0_ := Aside0.mk (blk_below (g := gb366) (o := .cells #[.int .i64 a0_0, .int .i64 a0_1, .int .i64 a0_2, .int .i64 a0_3, .int .i64 a0_4, .slice A0_5 l0_5.length c0_5] 60 (0, 0)) (by (with_reducible repeat (first | refine blk_drewN ?_ _ | refine blk_drew ?_ | refine blk_alloc ?_ _)); exact BK366.out) hb); have n1_ := Aside0.mk (below_step (by repeat (first | (with_reducible first | exact HB.out | apply below_alloc | apply pw_below_drewN | apply below_drew1 | refine below_set ?_ GE366.out) | exact HB.out)) hb); have n2_ := Aside0.mk (hbox); have n3_ := Aside0.mk ((by rw [hg]; exact (below_size (by repeat (first | (with_reducible first | exact HB.out | apply below_alloc | apply pw_below_drewN | apply below_drew1 | refine below_set ?_ GE366.out) | exact HB.out))) : w.heap.size ≤ gb372)); have n4_ := Aside0.mk ((by rw [hg]; exact (below_size (by repeat (first | (with_reducible first | exact HB.out | apply below_alloc | apply pw_below_drewN | apply below_drew1 | refine below_set ?_ GE366.out) | exact HB.out))) : w.heap.size ≤ gb372)); have n5_ := Aside0.mk ((by rw [hg]; exact Nat.ne_of_lt (blk_lt (g := gb366) (o := .cells #[.int .i64 a0_0, .int .i64 a0_1, .int .i64 a0_2, .int .i64 a0_3, .int .i64 a0_4, .slice A0_5 l0_5.length c0_5] 60 (0, 0)) (by (with_reducible repeat (first | refine blk_drewN ?_ _ | refine blk_drew ?_ | refine blk_alloc ?_ _)); exact BK366.out)) : gb366 ≠ gb372)); have n6_ := Aside0.mk ((by rw [hg]; exact Nat.ne_of_gt (blk_lt (g := gb366) (o := .cells #[.int .i64 a0_0, .int .i64 a0_1, .int .i64 a0_2, .int .i64 a0_3, .int .i64 a0_4, .slice A0_5 l0_5.length c0_5] 60 (0, 0)) (by (with_reducible repeat (first | refine blk_drewN ?_ _ | refine blk_drew ?_ | refine blk_alloc ?_ _)); exact BK366.out)) : gb372 ≠ gb366)); clear BK366; clear HB; have BK366 := n0_; have HB := n1_; have BK372 := n2_; have GW372 := n3_; have GE372 := n4_; have NB366_372 := n5_; have NB372_366 := n6_; clear n0_ n1_ n2_ n3_ n4_ n5_ n6_; clear hb hbox hg; have hnb15 := NB372_366.out; have hnc15 := NB366_372.out; have hcz16_0 : w14.cell? ⟨gb372, 0, none⟩ = some (.bool false) := (blk_cell BK372.out 0).trans rfl; have hcz16_1 : w14.cell? ⟨gb372, 1, none⟩ = some (.bool false) := (blk_cell BK372.out 1).trans rfl; have hcz16_2 : w14.cell? ⟨gb372, 2, none⟩ = some (.bool false) := (blk_cell BK372.out 2).trans rfl; have hcz16_3 : w14.cell? ⟨gb372, 3, none⟩ = some (.bool false) := (blk_cell BK372.out 3).trans rfl; have hfz16_0 := blk_frozen BK372.out 0; have hfz16_1 := blk_frozen BK372.out 1; have hfz16_2 := blk_frozen BK372.out 2; have hfz16_3 := blk_frozen BK372.out 3))
    go_ret
    exact ⟨by first | rfl | (simp [errW_none, errW_some] <;> rfl) | (simp [*, errW_none, errW_some] <;> rfl), by repeat (first | (with_reducible first | exact HB.out | apply below_alloc | apply pw_below_drewN | apply below_drew1 | refine below_set ?_ GE366.out | refine below_set ?_ GE372.out) | exact HB.out)⟩

end Go.Proofs.Yteeapfmgdlcgfaa.A


namespace Go.Proofs.Yteeapfmgdlcgfaa.A
open Go.RowKit Go.Proofs.YteeapfmgdlcgfaaW.PrintWords Go.Proofs.YteeapfmgdlcgfaaW.PrintLast Go.Proofs.YteeapfmgdlcgfaaW.PrintMore
attribute [local go_sem] max2_int min2_int max_two min_two max_three min_three max_four min_four   -- for this text's walks alone
set_option linter.unusedVariables false
set_option linter.unusedSimpArgs false

mutual
def code_Uses.j0 : Nat → Bool → List Int → Bool → Int → Int → Int → Int → Int → List Int → Bool → Bool → Bool → Bool → Option (List Int)
  | 0, _, _, _, _, _, _, _, _, _, _, _, _, _ => none
  | k + 1, x4, x5, x16, x374000, x374001, x374002, x374003, x374004, x374005, x380000, x380001, x380002, x380003 => if x16 = true then (if x5.length < 17592186044416 then (code_Uses.j1 k x4 (x5 ++ [x374002]) x374000 x374001 x374002 x374003 x374004 x374005 x380000 x380001 x380002 x380003) else (none)) else (code_Uses.j1 k x4 x5 x374000 x374001 x374002 x374003 x374004 x374005 x380000 x380001 x380002 x380003)
def code_Uses.j1 : Nat → Bool → List Int → Int → Int → Int → Int → Int → List Int → Bool → Bool → Bool → Bool → Option (List Int)
  | 0, _, _, _, _, _, _, _, _, _, _, _, _ => none
  | k + 1, x4, x5, x374000, x374001, x374002, x374003, x374004, x374005, x380000, x380001, x380002, x380003 => if x4 = true then (code_Uses.j2 k x5 x380002 x374000 x374001 x374002 x374003 x374004 x374005) else (code_Uses.j2 k x5 false x374000 x374001 x374002 x374003 x374004 x374005)
def code_Uses.j2 : Nat → List Int → Bool → Int → Int → Int → Int → Int → List Int → Option (List Int)
  | 0, _, _, _, _, _, _, _, _ => none
  | k + 1, x5, x26, x374000, x374001, x374002, x374003, x374004, x374005 => if x26 = true then (if x5.length < 17592186044416 then ((some (x5 ++ [x374003] : List Int)).bind fun y383 => (if x374000 = 7 then (if y383.length + x374005.length < 17592186044416 then (some (y383 ++ x374005)) else (none)) else (some y383))) else (none)) else (if x374000 = 7 then (if x5.length + x374005.length < 17592186044416 then (some (x5 ++ x374005)) else (none)) else (some x5))
end
def code_Uses.f (k : Nat) (a0_0 : Int) (a0_1 : Int) (a0_2 : Int) (a0_3 : Int) (a0_4 : Int) (l0_5 : List Int) : Option (List Int) := (code_shapeOf.f k a0_0).bind fun bt374 => (if bt374.2.2.2.2 = true then (code_Uses.j0 k bt374.2.2.2.2 ([] : List Int) bt374.2.1 a0_0 a0_1 a0_2 a0_3 a0_4 l0_5 bt374.1 bt374.2.1 bt374.2.2.1 bt374.2.2.2.1) else (code_Uses.j0 k bt374.2.2.2.2 ([] : List Int) false a0_0 a0_1 a0_2 a0_3 a0_4 l0_5 bt374.1 bt374.2.1 bt374.2.2.1 bt374.2.2.2.1))
set_option maxHeartbeats 8000000 in
set_option maxRecDepth 100000 in
theorem code_Uses.calls (k : Nat) (a0_0 : Int) (a0_1 : Int) (a0_2 : Int) (a0_3 : Int) (a0_4 : Int) (A0_5 : Option Addr) (c0_5 : Nat) (l0_5 : List Int) (r : List Int) (w : World) (hr0_5 : Kd.C (Kd.int .i64) w A0_5 l0_5.length l0_5) (hc0_5 : l0_5.length ≤ c0_5) (h : code_Uses.f k a0_0 a0_1 a0_2 a0_3 a0_4 l0_5 = some r) :
    Calls Try.prog 62 #[.agg #[.int .i64 a0_0, .int .i64 a0_1, .int .i64 a0_2, .int .i64 a0_3, .int .i64 a0_4, .slice A0_5 l0_5.length c0_5]] w fun e w' => ∃ v0_ : Value, e = .returned (v0_) ∧ Kd.R (Kd.int .i64) 3 w' w.heap.size (fun _ => True) v0_ r ∧ Below w.heap.size w w' := by
  have hu60 := Try.underlying60
  have hu125 := Try.underlying125
  have HR0_5 := Aside0.mk hr0_5
  have HC0_5 := Aside0.mk hc0_5
  clear hr0_5 hc0_5
  have HB := Aside0.mk (Below.refl w.heap.size w)
  have H : ((code_shapeOf.f k a0_0).bind fun bt374 => (if bt374.2.2.2.2 = true then (code_Uses.j0 k bt374.2.2.2.2 ([] : List Int) bt374.2.1 a0_0 a0_1 a0_2 a0_3 a0_4 l0_5 bt374.1 bt374.2.1 bt374.2.2.1 bt374.2.2.2.1) else (code_Uses.j0 k bt374.2.2.2.2 ([] : List Int) false a0_0 a0_1 a0_2 a0_3 a0_4 l0_5 bt374.1 bt374.2.1 bt374.2.2.1 bt374.2.2.2.1))) = some r := h
  clear h
  replace H := Option.bind_eq_some_iff.mp H
  obtain ⟨⟨t374, t375, t376, t377, t378⟩, A20, H⟩ := H
  replace H : (if t378 = true then (code_Uses.j0 k t378 ([] : List Int) t375 a0_0 a0_1 a0_2 a0_3 a0_4 l0_5 t374 t375 t376 t377) else (code_Uses.j0 k t378 ([] : List Int) false a0_0 a0_1 a0_2 a0_3 a0_4 l0_5 t374 t375 t376 t377)) = some r := H
  have A2 := Aside0.mk A20
  clear A20
  have HC3 := Aside0.mk H
  clear H
  go_enter Try.func62, Try.ntmps62
  go_upto_region 3 with (first | ((with_reducible refine gate_dst (N := 1) rfl ?_); refine box_event ?hg (N := 1) ?hd (cs := #[.int .i64 a0_0, .int .i64 a0_1, .int .i64 a0_2, .int .i64 a0_3, .int .i64 a0_4, .slice A0_5 l0_5.length c0_5]) (t := 60) ?hr ?_; (case hd => rfl); (case hg => rfl); (case hr => first | (go_simp; done) | (go_simp; rfl)); intro gb373 hg w4 hbox hb; have n0_ := Aside0.mk (below_step (by repeat (first | (with_reducible first | exact HB.out | apply below_alloc | apply pw_below_drewN | apply below_drew1) | exact HB.out)) hb); have n1_ := Aside0.mk (hbox); have n2_ := Aside0.mk ((by rw [hg]; exact (below_size (by repeat (first | (with_reducible first | exact HB.out | apply below_alloc | apply pw_below_drewN | apply below_drew1) | exact HB.out))) : w.heap.size ≤ gb373)); have n3_ := Aside0.mk ((by rw [hg]; exact (below_size (by repeat (first | (with_reducible first | exact HB.out | apply below_alloc | apply pw_below_drewN | apply below_drew1) | exact HB.out))) : w.heap.size ≤ gb373)); clear HB; have HB := n0_; have BK373 := n1_; have GW373 := n2_; have GE373 := n3_; clear n0_ n1_ n2_ n3_; clear hb hbox hg; have hcz5_0 : w4.cell? ⟨gb373, 0, none⟩ = some (.int .i64 a0_0) := (blk_cell BK373.out 0).trans rfl; have hcz5_1 : w4.cell? ⟨gb373, 1, none⟩ = some (.int .i64 a0_1) := (blk_cell BK373.out 1).trans rfl; have hcz5_2 : w4.cell? ⟨gb373, 2, none⟩ = some (.int .i64 a0_2) := (blk_cell BK373.out 2).trans rfl; have hcz5_3 : w4.cell? ⟨gb373, 3, none⟩ = some (.int .i64 a0_3) := (blk_cell BK373.out 3).trans rfl; have hcz5_4 : w4.cell? ⟨gb373, 4, none⟩ = some (.int .i64 a0_4) := (blk_cell BK373.out 4).trans rfl; have hcz5_5 : w4.cell? ⟨gb373, 5, none⟩ = some (.slice A0_5 l0_5.length c0_5) := (blk_cell BK373.out 5).trans rfl; have hfz5_0 := blk_frozen BK373.out 0; have hfz5_1 := blk_frozen BK373.out 1; have hfz5_2 := blk_frozen BK373.out 2; have hfz5_3 := blk_frozen BK373.out 3; have hfz5_4 := blk_frozen BK373.out 4; have hfz5_5 := blk_frozen BK373.out 5) | ((with_reducible refine gate_callee (f := 81) rfl ?_); refine goesL_ (some 9) rfl rfl Try.func81 (by kernel_rfl) rfl #[.int .i64 a0_0] rfl (by (try simp only [List.map_toArray, List.map_cons, List.map_nil]); first | done | rfl | (simp only [List.length_drop, List.length_take]; rfl)) ?_; (with_reducible refine (code_shapeOf.calls k a0_0 t374 t375 t376 t377 t378 _ A2.out).mono ?_); rintro e w6 ⟨rfl, hb⟩; refine ⟨_, rfl, ?_⟩; have n0_ := Aside0.mk (blk_below (g := gb373) (o := .cells #[.int .i64 a0_0, .int .i64 a0_1, .int .i64 a0_2, .int .i64 a0_3, .int .i64 a0_4, .slice A0_5 l0_5.length c0_5] 60 (0, 0)) (by (with_reducible repeat (first | refine blk_drewN ?_ _ | refine blk_drew ?_ | refine blk_alloc ?_ _)); exact BK373.out) hb); have n1_ := Aside0.mk (below_step (by repeat (first | (with_reducible first | exact HB.out | apply below_alloc | apply pw_below_drewN | apply below_drew1 | refine below_set ?_ GE373.out) | exact HB.out)) hb); clear BK373; clear HB; have BK373 := n0_; have HB := n1_; clear n0_ n1_; (try clear hb); (try clear hb2); (try clear hk); (try clear hi)) | ((with_reducible refine gate_dst (N := 3) rfl ?_); refine box_event ?hg (N := 3) ?hd (cs := #[.bool false, .bool false, .bool false, .bool false]) (t := 125) ?hr ?_; (case hd => rfl); (case hg => rfl); (case hr => first | (go_simp; done) | (go_simp; rfl)); intro gb379 hg w7 hbox hb; have n0_ := Aside0.mk (blk_below (g := gb373) (o := .cells #[.int .i64 a0_0, .int .i64 a0_1, .int .i64 a0_2, .int .i64 a0_3, .int .i64 a0_4, .slice A0_5 l0_5.length c0_5] 60 (0, 0)) (by (with_reducible repeat (first | refine blk_drewN ?_ _ | refine blk_drew ?_ | refine blk_alloc ?_ _)); exact BK373.out) hb); have n1_ := Aside0.mk (below_step (by repeat (first | (with_reducible first | exact HB.out | apply below_alloc | apply pw_below_drewN | apply below_drew1 | refine below_set ?_ GE373.out) | exact HB.out)) hb); have n2_ := Aside0.mk (hbox); have n3_ := Aside0.mk ((by rw [hg]; exact (below_size (by repeat (first | (with_reducible first | exact HB.out | apply below_alloc | apply pw_below_drewN | apply below_drew1 | refine below_set ?_ GE373.out) | exact HB.out))) : w.heap.size ≤ gb379)); have n4_ := Aside0.mk ((by rw [hg]; exact (below_size (by repeat (first | (with_reducible first | exact HB.out | apply below_alloc | apply pw_below_drewN | apply below_drew1 | refine below_set ?_ GE373.out) | exact HB.out))) : w.heap.size ≤ gb379)); have n5_ := Aside0.mk ((by rw [hg]; exact Nat.ne_of_lt (blk_lt (g := gb373) (o := .cells #[.int .i64 a0_0, .int .i64 a0_1, .int .i64 a0_2, .int .i64 a0_3, .int .i64 a0_4, .slice A0_5 l0_5.length c0_5] 60 (0, 0)) (by (with_reducible repeat (first | refine blk_drewN ?_ _ | refine blk_drew ?_ | refine blk_alloc ?_ _)); exact BK373.out)) : gb373 ≠ gb379)); have n6_ := Aside0.mk ((by rw [hg]; exact Nat.ne_of_gt (blk_lt (g := gb373) (o := .cells #[.int .i64 a0_0, .int .i64 a0_1, .int .i64 a0_2, .int .i64 a0_3, .int .i64 a0_4, .slice A0_5 l0_5.length c0_5] 60 (0, 0)) (by (with_reducible repeat (first | refine blk_drewN ?_ _ | refine blk_drew ?_ | refine blk_alloc ?_ _)); exact BK373.out)) : gb379 ≠ gb373)); clear BK373; clear HB; have BK373 := n0_; have HB := n1_; have BK379 := n2_; have GW379 := n3_; have GE379 := n4_; have NB373_379 := n5_; have NB379_373 := n6_; clear n0_ n1_ n2_ n3_ n4_ n5_ n6_; clear hb hbox hg; have hnb8 := NB379_373.out; have hnc8 := NB373_379.out; have hcz9_0 : w7.cell? ⟨gb379, 0, none⟩ = some (.bool false) := (blk_cell BK379.out 0).trans rfl; have hcz9_1 : w7.cell? ⟨gb379, 1, none⟩ = some (.bool false) := (blk_cell BK379.out 1).trans rfl; have hcz9_2 : w7.cell? ⟨gb379, 2, none⟩ = some (.bool false) := (blk_cell BK379.out 2).trans rfl; have hcz9_3 : w7.cell? ⟨gb379, 3, none⟩ = some (.bool false) := (blk_cell BK379.out 3).trans rfl; have hfz9_0 := blk_frozen BK379.out 0; have hfz9_1 := blk_frozen BK379.out 1; have hfz9_2 := blk_frozen BK379.out 2; have hfz9_3 := blk_frozen BK379.out 3))
  (try simp only [Act.put, List.setIfInBounds_toArray, List.set_cons_zero, List.set_cons_succ])
  go_cut [16] (fun v16 wc => ∃ (kq : Nat) (x16_2 : Bool), v16 = .bool x16_2 ∧ Aside0 (code_Uses.j0 kq t378 ([] : List Int) x16_2 a0_0 a0_1 a0_2 a0_3 a0_4 l0_5 t374 t375 t376 t377 = some r) ∧ Aside0 (kq ≤ k) ∧ Aside0 (Kd.R (Kd.int .i64) 3 wc w.heap.size (fun _ => True) (.slice none 0 0) ([] : List Int)) ∧ Aside0 (wc.heap[gb373]? = some (.cells #[.int .i64 a0_0, .int .i64 a0_1, .int .i64 a0_2, .int .i64 a0_3, .int .i64 a0_4, (.slice A0_5 l0_5.length c0_5)] 60 (0, 0))) ∧ Aside0 (wc.heap[gb379]? = some (.cells #[.bool t374, .bool t375, .bool t376, .bool t377] 125 (0, 0))) ∧ Aside0 (Below w.heap.size w wc))
  case first =>
    have H := HC3.out
    clear HC3
    by_cases c10 : t378 = true
    · subst c10
      have H1 : (code_Uses.j0 k true ([] : List Int) t375 a0_0 a0_1 a0_2 a0_3 a0_4 l0_5 t374 t375 t376 t377) = some r := by rw [if_pos rfl] at H; exact H
      clear H
      have H := H1
      clear H1
      have H' := Aside0.mk H
      clear H
      have hnb11 := NB379_373.out
      have hnc11 := NB373_379.out
      have hcz12_0 : w7.cell? ⟨gb379, 0, none⟩ = some (.bool false) := (blk_cell BK379.out 0).trans rfl
      have hcz12_1 : w7.cell? ⟨gb379, 1, none⟩ = some (.bool false) := (blk_cell BK379.out 1).trans rfl
      have hcz12_2 : w7.cell? ⟨gb379, 2, none⟩ = some (.bool false) := (blk_cell BK379.out 2).trans rfl
      have hcz12_3 : w7.cell? ⟨gb379, 3, none⟩ = some (.bool false) := (blk_cell BK379.out 3).trans rfl
      have hfz12_0 := blk_frozen BK379.out 0
      have hfz12_1 := blk_frozen BK379.out 1
      have hfz12_2 := blk_frozen BK379.out 2
      have hfz12_3 := blk_frozen BK379.out 3
      go_wp2
      go_meet
      case rel => exact ⟨_, (t375), (by first | rfl | (simp; done) | (simp [*]; done)), H', ⟨by first | omega | exact Nat.le_refl _⟩, ⟨by first | exact Kd.R_nil _ _ _ _ _ | exact Kd.N_nil _ _ _ _ _ | exact Kd.V_nil _ _ _ _ _ | exact Kd.Q_nil _ _ _ _ _ | exact Kd.S_nil _ _ _ _ _⟩, ⟨by (with_reducible repeat (first | refine blk_drewN ?_ _ | refine blk_drew ?_ | refine blk_alloc ?_ _)); refine blk_far ?_ NB373_379.out _; (with_reducible repeat (first | refine blk_drewN ?_ _ | refine blk_drew ?_ | refine blk_alloc ?_ _)); refine blk_far ?_ NB373_379.out _; (with_reducible repeat (first | refine blk_drewN ?_ _ | refine blk_drew ?_ | refine blk_alloc ?_ _)); refine blk_far ?_ NB373_379.out _; (with_reducible repeat (first | refine blk_drewN ?_ _ | refine blk_drew ?_ | refine blk_alloc ?_ _)); refine blk_far ?_ NB373_379.out _; (with_reducible repeat (first | refine blk_drewN ?_ _ | refine blk_drew ?_ | refine blk_alloc ?_ _)); exact BK373.out⟩, ⟨by (with_reducible repeat (first | refine blk_drewN ?_ _ | refine blk_drew ?_ | refine blk_alloc ?_ _)); refine blk_put (cs := #[.bool t374, .bool t375, .bool t376, .bool false]) ?_ 3 _ rfl; (with_reducible repeat (first | refine blk_drewN ?_ _ | refine blk_drew ?_ | refine blk_alloc ?_ _)); refine blk_put (cs := #[.bool t374, .bool t375, .bool false, .bool false]) ?_ 2 _ rfl; (with_reducible repeat (first | refine blk_drewN ?_ _ | refine blk_drew ?_ | refine blk_alloc ?_ _)); refine blk_put (cs := #[.bool t374, .bool false, .bool false, .bool false]) ?_ 1 _ rfl; (with_reducible repeat (first | refine blk_drewN ?_ _ | refine blk_drew ?_ | refine blk_alloc ?_ _)); refine blk_put (cs := #[.bool false, .bool false, .bool false, .bool false]) ?_ 0 _ rfl; (with_reducible repeat (first | refine blk_drewN ?_ _ | refine blk_drew ?_ | refine blk_alloc ?_ _)); exact BK379.out⟩, ⟨by repeat (first | (with_reducible first | exact HB.out | apply below_alloc | apply pw_below_drewN | apply below_drew1 | refine below_set ?_ GE373.out | refine below_set ?_ GE379.out) | exact HB.out)⟩⟩
    · replace c10 := Bool.eq_false_iff.mpr c10
      subst c10
      have H1 : (code_Uses.j0 k false ([] : List Int) false a0_0 a0_1 a0_2 a0_3 a0_4 l0_5 t374 t375 t376 t377) = some r := by rw [if_neg (show ¬ (false = true) by decide)] at H; exact H
      clear H
      have H := H1
      clear H1
      have H' := Aside0.mk H
      clear H
      go_wp2
      go_meet
      case rel => exact ⟨_, (false), (by first | rfl | (simp; done) | (simp [*]; done)), H', ⟨by first | omega | exact Nat.le_refl _⟩, ⟨by first | exact Kd.R_nil _ _ _ _ _ | exact Kd.N_nil _ _ _ _ _ | exact Kd.V_nil _ _ _ _ _ | exact Kd.Q_nil _ _ _ _ _ | exact Kd.S_nil _ _ _ _ _⟩, ⟨by (with_reducible repeat (first | refine blk_drewN ?_ _ | refine blk_drew ?_ | refine blk_alloc ?_ _)); refine blk_far ?_ NB373_379.out _; (with_reducible repeat (first | refine blk_drewN ?_ _ | refine blk_drew ?_ | refine blk_alloc ?_ _)); refine blk_far ?_ NB373_379.out _; (with_reducible repeat (first | refine blk_drewN ?_ _ | refine blk_drew ?_ | refine blk_alloc ?_ _)); refine blk_far ?_ NB373_379.out _; (with_reducible repeat (first | refine blk_drewN ?_ _ | refine blk_drew ?_ | refine blk_alloc ?_ _)); refine blk_far ?_ NB373_379.out _; (with_reducible repeat (first | refine blk_drewN ?_ _ | refine blk_drew ?_ | refine blk_alloc ?_ _)); exact BK373.out⟩, ⟨by (with_reducible repeat (first | refine blk_drewN ?_ _ | refine blk_drew ?_ | refine blk_alloc ?_ _)); refine blk_put (cs := #[.bool t374, .bool t375, .bool t376, .bool false]) ?_ 3 _ rfl; (with_reducible repeat (first | refine blk_drewN ?_ _ | refine blk_drew ?_ | refine blk_alloc ?_ _)); refine blk_put (cs := #[.bool t374, .bool t375, .bool false, .bool false]) ?_ 2 _ rfl; (with_reducible repeat (first | refine blk_drewN ?_ _ | refine blk_drew ?_ | refine blk_alloc ?_ _)); refine blk_put (cs := #[.bool t374, .bool false, .bool false, .bool false]) ?_ 1 _ rfl; (with_reducible repeat (first | refine blk_drewN ?_ _ | refine blk_drew ?_ | refine blk_alloc ?_ _)); refine blk_put (cs := #[.bool false, .bool false, .bool false, .bool false]) ?_ 0 _ rfl; (with_reducible repeat (first | refine blk_drewN ?_ _ | refine blk_drew ?_ | refine blk_alloc ?_ _)); exact BK379.out⟩, ⟨by repeat (first | (with_reducible first | exact HB.out | apply below_alloc | apply pw_below_drewN | apply below_drew1 | refine below_set ?_ GE373.out | refine below_set ?_ GE379.out) | exact HB.out)⟩⟩
  case rest =>
    clear HC3
    try clear c1
    try clear p2
    try clear c6
    try clear c8
    try clear c10
    try clear c11
    try clear hcz12_0
    try clear hcz12_1
    try clear hcz12_2
    try clear hcz12_3
    try clear hcz5_0
    try clear hcz5_1
    try clear hcz5_2
    try clear hcz5_3
    try clear hcz5_4
    try clear hcz5_5
    try clear hcz9_0
    try clear hcz9_1
    try clear hcz9_2
    try clear hcz9_3
    try clear hfz12_0
    try clear hfz12_1
    try clear hfz12_2
    try clear hfz12_3
    try clear hfz5_0
    try clear hfz5_1
    try clear hfz5_2
    try clear hfz5_3
    try clear hfz5_4
    try clear hfz5_5
    try clear hfz9_0
    try clear hfz9_1
    try clear hfz9_2
    try clear hfz9_3
    obtain ⟨kq, x16_2, rfl, HA, HJ2, HO_5, BK373, BK379, HB⟩ := hcut
    cases kq with
    | zero => exact absurd HA.out (by simp [code_Uses.j0])
    | succ kj2 =>
      have H := HA.out
      clear HA
      simp only [code_Uses.j0] at H
      have HC13 := Aside0.mk H
      clear H
      go_upto_if 16 with (fail)
      go_cut [5] (fun v5 wc => ∃ (kq : Nat) (x5_12 : List Int), Aside0 (code_Uses.j1 kq t378 x5_12 a0_0 a0_1 a0_2 a0_3 a0_4 l0_5 t374 t375 t376 t377 = some r) ∧ Aside0 (kq ≤ kj2) ∧ Aside0 (Kd.R (Kd.int .i64) 3 wc w.heap.size (fun _ => True) v5 x5_12) ∧ Aside0 (wc.heap[gb373]? = some (.cells #[.int .i64 a0_0, .int .i64 a0_1, .int .i64 a0_2, .int .i64 a0_3, .int .i64 a0_4, (.slice A0_5 l0_5.length c0_5)] 60 (0, 0))) ∧ Aside0 (wc.heap[gb379]? = some (.cells #[.bool t374, .bool t375, .bool t376, .bool t377] 125 (0, 0))) ∧ Aside0 (Below w.heap.size w wc))
      case first =>
        have H := HC13.out
        clear HC13
        by_cases c14 : x16_2 = true
        · subst c14
          have H1 : (if ([] : List Int).length < 17592186044416 then (code_Uses.j1 kj2 t378 (([] : List Int) ++ [a0_2]) a0_0 a0_1 a0_2 a0_3 a0_4 l0_5 t374 t375 t376 t377) else (none)) = some r := by rw [if_pos rfl] at H; exact H
          clear H
          have H := H1
          clear H1
          by_cases c15 : ([] : List Int).length < 17592186044416
          · rw [if_pos c15] at H
            have LMc15 := Aside0.mk c15
            clear c15
            obtain ⟨y380, hy380⟩ : ∃ y_ : List Int, y_ = (([] : List Int) ++ [a0_2]) := ⟨_, rfl⟩
            replace H : (code_Uses.j1 kj2 t378 y380 a0_0 a0_1 a0_2 a0_3 a0_4 l0_5 t374 t375 t376 t377) = some r := by first | (rw [hy380]; with_reducible exact H) | (have H2_ := (Option.bind_some _ _).symm.trans H; rw [hy380]; with_reducible exact H2_) | (have H2_ := (Option.bind_some _ _).symm.trans H; with_reducible exact H2_) | with_reducible exact H | (rw [hy380]; exact H) | exact H
            have Ny380 := Aside0.mk hy380
            clear hy380
            have H' := Aside0.mk H
            clear H
            have hnb16 := NB373_379.out
            have hnc16 := NB379_373.out
            have hcz17_0 : wc.cell? ⟨gb373, 0, none⟩ = some (.int .i64 a0_0) := (blk_cell BK373.out 0).trans rfl
            have hcz17_1 : wc.cell? ⟨gb373, 1, none⟩ = some (.int .i64 a0_1) := (blk_cell BK373.out 1).trans rfl
            have hcz17_2 : wc.cell? ⟨gb373, 2, none⟩ = some (.int .i64 a0_2) := (blk_cell BK373.out 2).trans rfl
            have hcz17_3 : wc.cell? ⟨gb373, 3, none⟩ = some (.int .i64 a0_3) := (blk_cell BK373.out 3).trans rfl
            have hcz17_4 : wc.cell? ⟨gb373, 4, none⟩ = some (.int .i64 a0_4) := (blk_cell BK373.out 4).trans rfl
            have hcz17_5 : wc.cell? ⟨gb373, 5, none⟩ = some (.slice A0_5 l0_5.length c0_5) := (blk_cell BK373.out 5).trans rfl
            have hfz17_0 := blk_frozen BK373.out 0
            have hfz17_1 := blk_frozen BK373.out 1
            have hfz17_2 := blk_frozen BK373.out 2
            have hfz17_3 := blk_frozen BK373.out 3
            have hfz17_4 := blk_frozen BK373.out 4
            have hfz17_5 := blk_frozen BK373.out 5
            go_wp2_with (first | ((with_reducible refine gate_builtin (b := .append) (xs := #[.tmp 17, .tmp 20]) rfl ?_); at_builtin; refine Kd.R_append (Kd.int .i64) (w0 := w) w.heap.size rfl (.tmp 17) (.tmp 20) 36 3 (.int .i64 0) 8 rfl Try.underlying36 info3 rfl (by decide) (by omega) (.slice none 0 0) ([] : List Int) a0_2 [.int .i64 a0_2] (fun _ => True) (fun _ => False) rfl rfl ?aP (fun _ hk => hk.elim) ?aF ?aO ?aB ?aS ?aL ?_; (case aP => exact rfl); (case aB => exact (by repeat (first | (with_reducible first | exact HB.out | apply below_alloc | apply pw_below_drewN | apply below_drew1 | refine below_set ?_ GE373.out | refine below_set ?_ GE379.out) | exact HB.out))); (case aF => exact (fun _ _ => trivial)); (case aO => exact (by (with_reducible repeat (first | apply Kd.R_alloc | apply Kd.R_drewN | apply Kd.R_drew)); exact HO_5.out)); (case aS => exact (below_size (by repeat (first | (with_reducible first | exact HB.out | apply below_alloc | apply pw_below_drewN | apply below_drew1 | refine below_set ?_ GE373.out | refine below_set ?_ GE379.out) | exact HB.out)))); (case aL => have := LMc15.out; omega); intro v381 w18 ho hb hg hat; rw [← Ny380.out] at ho; have n0_ := Aside0.mk (blk_grown (g := gb373) (o := .cells #[.int .i64 a0_0, .int .i64 a0_1, .int .i64 a0_2, .int .i64 a0_3, .int .i64 a0_4, .slice A0_5 l0_5.length c0_5] 60 (0, 0)) (by (with_reducible repeat (first | refine blk_drewN ?_ _ | refine blk_drew ?_ | refine blk_alloc ?_ _)); exact BK373.out) hg (Kd.R_ne HO_5.out BK373.out (by decide))); have n1_ := Aside0.mk (blk_grown (g := gb379) (o := .cells #[.bool t374, .bool t375, .bool t376, .bool t377] 125 (0, 0)) (by (with_reducible repeat (first | refine blk_drewN ?_ _ | refine blk_drew ?_ | refine blk_alloc ?_ _)); exact BK379.out) hg (Kd.R_ne HO_5.out BK379.out (by decide))); have n2_ := Aside0.mk (hb); have n3_ := Aside0.mk (ho); clear BK373; clear BK379; clear HB; clear HO_5; have BK373 := n0_; have BK379 := n1_; have HB := n2_; have HO382 := n3_; clear n0_ n1_ n2_ n3_; clear ho hb hg hat))
            go_meet
            case rel => exact ⟨_, (y380), H', ⟨by have := HJ2.out; first | omega | exact Nat.le_refl _⟩, ⟨by (with_reducible repeat (first | apply Kd.R_alloc | apply Kd.R_drewN | apply Kd.R_drew)); exact HO382.out⟩, ⟨by (with_reducible repeat (first | refine blk_drewN ?_ _ | refine blk_drew ?_ | refine blk_alloc ?_ _)); exact BK373.out⟩, ⟨by (with_reducible repeat (first | refine blk_drewN ?_ _ | refine blk_drew ?_ | refine blk_alloc ?_ _)); exact BK379.out⟩, ⟨by repeat (first | (with_reducible first | exact HB.out | apply below_alloc | apply pw_below_drewN | apply below_drew1 | refine below_set ?_ GE373.out | refine below_set ?_ GE379.out) | exact HB.out)⟩⟩
          · rw [if_neg c15] at H
            exact absurd H (by simp)
        · replace c14 := Bool.eq_false_iff.mpr c14
          subst c14
          have H1 : (code_Uses.j1 kj2 t378 ([] : List Int) a0_0 a0_1 a0_2 a0_3 a0_4 l0_5 t374 t375 t376 t377) = some r := by rw [if_neg (show ¬ (false = true) by decide)] at H; exact H
          clear H
          have H := H1
          clear H1
          have H' := Aside0.mk H
          clear H
          go_wp2
          go_meet
          case rel => exact ⟨_, (([] : List Int)), H', ⟨by have := HJ2.out; first | omega | exact Nat.le_refl _⟩, ⟨by (with_reducible repeat (first | apply Kd.R_alloc | apply Kd.R_drewN | apply Kd.R_drew)); exact HO_5.out⟩, ⟨by (with_reducible repeat (first | refine blk_drewN ?_ _ | refine blk_drew ?_ | refine blk_alloc ?_ _)); exact BK373.out⟩, ⟨by (with_reducible repeat (first | refine blk_drewN ?_ _ | refine blk_drew ?_ | refine blk_alloc ?_ _)); exact BK379.out⟩, ⟨by repeat (first | (with_reducible first | exact HB.out | apply below_alloc | apply pw_below_drewN | apply below_drew1 | refine below_set ?_ GE373.out | refine below_set ?_ GE379.out) | exact HB.out)⟩⟩
      case rest =>
        clear HC13
        try clear c1
        try clear p2
        try clear c6
        try clear c8
        try clear c10
        try clear c11
        try clear c14
        try clear c15
        try clear c16
        try clear hcz12_0
        try clear hcz12_1
        try clear hcz12_2
        try clear hcz12_3
        try clear hcz17_0
        try clear hcz17_1
        try clear hcz17_2
        try clear hcz17_3
        try clear hcz17_4
        try clear hcz17_5
        try clear hcz5_0
        try clear hcz5_1
        try clear hcz5_2
        try clear hcz5_3
        try clear hcz5_4
        try clear hcz5_5
        try clear hcz9_0
        try clear hcz9_1
        try clear hcz9_2
        try clear hcz9_3
        try clear hfz12_0
        try clear hfz12_1
        try clear hfz12_2
        try clear hfz12_3
        try clear hfz17_0
        try clear hfz17_1
        try clear hfz17_2
        try clear hfz17_3
        try clear hfz17_4
        try clear hfz17_5
        try clear hfz5_0
        try clear hfz5_1
        try clear hfz5_2
        try clear hfz5_3
        try clear hfz5_4
        try clear hfz5_5
        try clear hfz9_0
        try clear hfz9_1
        try clear hfz9_2
        try clear hfz9_3
        try clear p2
        obtain ⟨kq, x5_12, HA, HJ12, HO_5, BK373, BK379, HB⟩ := hcut
        cases kq with
        | zero => exact absurd HA.out (by simp [code_Uses.j1])
        | succ kj12 =>
          have H := HA.out
          clear HA
          simp only [code_Uses.j1] at H
          have HC19 := Aside0.mk H
          clear H
          go_upto_region 5 with (fail)
          go_cut [26] (fun v26 wc => ∃ (kq : Nat) (x26_18 : Bool), v26 = .bool x26_18 ∧ Aside0 (code_Uses.j2 kq x5_12 x26_18 a0_0 a0_1 a0_2 a0_3 a0_4 l0_5 = some r) ∧ Aside0 (kq ≤ kj12) ∧ Aside0 (Kd.R (Kd.int .i64) 3 wc w.heap.size (fun _ => True) u5 x5_12) ∧ Aside0 (wc.heap[gb373]? = some (.cells #[.int .i64 a0_0, .int .i64 a0_1, .int .i64 a0_2, .int .i64 a0_3, .int .i64 a0_4, (.slice A0_5 l0_5.length c0_5)] 60 (0, 0))) ∧ Aside0 (wc.heap[gb379]? = some (.cells #[.bool t374, .bool t375, .bool t376, .bool t377] 125 (0, 0))) ∧ Aside0 (Below w.heap.size w wc))
          case first =>
            have H := HC19.out
            clear HC19
            by_cases c20 : t378 = true
            · subst c20
              have H1 : (code_Uses.j2 kj12 x5_12 t376 a0_0 a0_1 a0_2 a0_3 a0_4 l0_5) = some r := by rw [if_pos rfl] at H; exact H
              clear H
              have H := H1
              clear H1
              have H' := Aside0.mk H
              clear H
              have hnb21 := NB379_373.out
              have hnc21 := NB373_379.out
              have hcz22_0 : wc.cell? ⟨gb379, 0, none⟩ = some (.bool t374) := (blk_cell BK379.out 0).trans rfl
              have hcz22_1 : wc.cell? ⟨gb379, 1, none⟩ = some (.bool t375) := (blk_cell BK379.out 1).trans rfl
              have hcz22_2 : wc.cell? ⟨gb379, 2, none⟩ = some (.bool t376) := (blk_cell BK379.out 2).trans rfl
              have hcz22_3 : wc.cell? ⟨gb379, 3, none⟩ = some (.bool t377) := (blk_cell BK379.out 3).trans rfl
              have hfz22_0 := blk_frozen BK379.out 0
              have hfz22_1 := blk_frozen BK379.out 1
              have hfz22_2 := blk_frozen BK379.out 2
              have hfz22_3 := blk_frozen BK379.out 3
              go_wp2
              go_meet
              case rel => exact ⟨_, (t376), (by first | rfl | (simp; done) | (simp [*]; done)), H', ⟨by have := HJ2.out; have := HJ12.out; first | omega | exact Nat.le_refl _⟩, ⟨by (with_reducible repeat (first | apply Kd.R_alloc | apply Kd.R_drewN | apply Kd.R_drew)); exact HO_5.out⟩, ⟨by (with_reducible repeat (first | refine blk_drewN ?_ _ | refine blk_drew ?_ | refine blk_alloc ?_ _)); exact BK373.out⟩, ⟨by (with_reducible repeat (first | refine blk_drewN ?_ _ | refine blk_drew ?_ | refine blk_alloc ?_ _)); exact BK379.out⟩, ⟨by repeat (first | (with_reducible first | exact HB.out | apply below_alloc | apply pw_below_drewN | apply below_drew1 | refine below_set ?_ GE373.out | refine below_set ?_ GE379.out) | exact HB.out)⟩⟩
            · replace c20 := Bool.eq_false_iff.mpr c20
              subst c20
              have H1 : (code_Uses.j2 kj12 x5_12 false a0_0 a0_1 a0_2 a0_3 a0_4 l0_5) = some r := by rw [if_neg (show ¬ (false = true) by decide)] at H; exact H
              clear H
              have H := H1
              clear H1
              have H' := Aside0.mk H
              clear H
              go_wp2
              go_meet
              case rel => exact ⟨_, (false), (by first | rfl | (simp; done) | (simp [*]; done)), H', ⟨by have := HJ2.out; have := HJ12.out; first | omega | exact Nat.le_refl _⟩, ⟨by (with_reducible repeat (first | apply Kd.R_alloc | apply Kd.R_drewN | apply Kd.R_drew)); exact HO_5.out⟩, ⟨by (with_reducible repeat (first | refine blk_drewN ?_ _ | refine blk_drew ?_ | refine blk_alloc ?_ _)); exact BK373.out⟩, ⟨by (with_reducible repeat (first | refine blk_drewN ?_ _ | refine blk_drew ?_ | refine blk_alloc ?_ _)); exact BK379.out⟩, ⟨by repeat (first | (with_reducible first | exact HB.out | apply below_alloc | apply pw_below_drewN | apply below_drew1 | refine below_set ?_ GE373.out | refine below_set ?_ GE379.out) | exact HB.out)⟩⟩
          case rest =>
            clear HC19
            try clear c1
            try clear c2
            try clear p2
            try clear c6
            try clear c8
            try clear c10
            try clear c11
            try clear c14
            try clear c15
            try clear c16
            try clear c20
            try clear c21
            try clear hcz12_0
            try clear hcz12_1
            try clear hcz12_2
            try clear hcz12_3
            try clear hcz17_0
            try clear hcz17_1
            try clear hcz17_2
            try clear hcz17_3
            try clear hcz17_4
            try clear hcz17_5
            try clear hcz22_0
            try clear hcz22_1
            try clear hcz22_2
            try clear hcz22_3
            try clear hcz5_0
            try clear hcz5_1
            try clear hcz5_2
            try clear hcz5_3
            try clear hcz5_4
            try clear hcz5_5
            try clear hcz9_0
            try clear hcz9_1
            try clear hcz9_2
            try clear hcz9_3
            try clear hfz12_0
            try clear hfz12_1
            try clear hfz12_2
            try clear hfz12_3
            try clear hfz17_0
            try clear hfz17_1
            try clear hfz17_2
            try clear hfz17_3
            try clear hfz17_4
            try clear hfz17_5
            try clear hfz22_0
            try clear hfz22_1
            try clear hfz22_2
            try clear hfz22_3
            try clear hfz5_0
            try clear hfz5_1
            try clear hfz5_2
            try clear hfz5_3
            try clear hfz5_4
            try clear hfz5_5
            try clear hfz9_0
            try clear hfz9_1
            try clear hfz9_2
            try clear hfz9_3
            try clear p2
            obtain ⟨kq, x26_18, rfl, HA, HJ18, HO_5, BK373, BK379, HB⟩ := hcut
            cases kq with
            | zero => exact absurd HA.out (by simp [code_Uses.j2])
            | succ kj18 =>
              have H := HA.out
              clear HA
              simp only [code_Uses.j2] at H
              by_cases c23 : x26_18 = true
              · subst c23
                have H1 : (if x5_12.length < 17592186044416 then ((some (x5_12 ++ [a0_3] : List Int)).bind fun y383 => (if a0_0 = 7 then (if y383.length + l0_5.length < 17592186044416 then (some (y383 ++ l0_5)) else (none)) else (some y383))) else (none)) = some r := by rw [if_pos rfl] at H; exact H
                clear H
                have H := H1
                clear H1
                by_cases c24 : x5_12.length < 17592186044416
                · rw [if_pos c24] at H
                  have LMc24 := Aside0.mk c24
                  clear c24
                  obtain ⟨y383, hy383⟩ : ∃ y_ : List Int, y_ = (x5_12 ++ [a0_3]) := ⟨_, rfl⟩
                  replace H : (if a0_0 = 7 then (if y383.length + l0_5.length < 17592186044416 then (some (y383 ++ l0_5)) else (none)) else (some y383)) = some r := by first | (rw [hy383]; with_reducible exact H) | (have H2_ := (Option.bind_some _ _).symm.trans H; rw [hy383]; with_reducible exact H2_) | (have H2_ := (Option.bind_some _ _).symm.trans H; with_reducible exact H2_) | with_reducible exact H | (rw [hy383]; exact H) | exact H
                  have Ny383 := Aside0.mk hy383
                  clear hy383
                  by_cases c25 : a0_0 = 7
                  · rw [if_pos c25] at H
                    have c25b0 : (a0_0 == 7) = true := beq_iff_eq.mpr c25
                    have c25b1 : (a0_0 != 7) = false := bne_eq_false_iff_eq.mpr c25
                    clear c25
                    by_cases c26 : y383.length + l0_5.length < 17592186044416
                    · rw [if_pos c26] at H
                      have LMc26 := Aside0.mk c26
                      clear c26
                      obtain ⟨y386, hy386⟩ : ∃ y_ : List Int, y_ = (y383 ++ l0_5) := ⟨_, rfl⟩
                      replace H : (some y386) = some r := by first | (rw [hy386]; with_reducible exact H) | (have H2_ := (Option.bind_some _ _).symm.trans H; rw [hy386]; with_reducible exact H2_) | (have H2_ := (Option.bind_some _ _).symm.trans H; with_reducible exact H2_) | with_reducible exact H | (rw [hy386]; exact H) | exact H
                      have Ny386 := Aside0.mk hy386
                      clear hy386
                      obtain rfl := Option.some.inj H
                      have hnb27 := NB373_379.out
                      have hnc27 := NB379_373.out
                      have hcz28_0 : wc.cell? ⟨gb373, 0, none⟩ = some (.int .i64 a0_0) := (blk_cell BK373.out 0).trans rfl
                      have hcz28_1 : wc.cell? ⟨gb373, 1, none⟩ = some (.int .i64 a0_1) := (blk_cell BK373.out 1).trans rfl
                      have hcz28_2 : wc.cell? ⟨gb373, 2, none⟩ = some (.int .i64 a0_2) := (blk_cell BK373.out 2).trans rfl
                      have hcz28_3 : wc.cell? ⟨gb373, 3, none⟩ = some (.int .i64 a0_3) := (blk_cell BK373.out 3).trans rfl
                      have hcz28_4 : wc.cell? ⟨gb373, 4, none⟩ = some (.int .i64 a0_4) := (blk_cell BK373.out 4).trans rfl
                      have hcz28_5 : wc.cell? ⟨gb373, 5, none⟩ = some (.slice A0_5 l0_5.length c0_5) := (blk_cell BK373.out 5).trans rfl
                      have hfz28_0 := blk_frozen BK373.out 0
                      have hfz28_1 := blk_frozen BK373.out 1
                      have hfz28_2 := blk_frozen BK373.out 2
                      have hfz28_3 := blk_frozen BK373.out 3
                      have hfz28_4 := blk_frozen BK373.out 4
                      have hfz28_5 := blk_frozen BK373.out 5
                      go_wp2_with (first | ((with_reducible refine gate_builtin (b := .append) (xs := #[.tmp 27, .tmp 30]) rfl ?_); at_builtin; refine Kd.R_append (Kd.int .i64) (w0 := w) w.heap.size rfl (.tmp 27) (.tmp 30) 36 3 (.int .i64 0) 8 rfl Try.underlying36 info3 rfl (by decide) (by omega) u5 x5_12 a0_3 [.int .i64 a0_3] (fun _ => True) (fun _ => False) rfl rfl ?aP (fun _ hk => hk.elim) ?aF ?aO ?aB ?aS ?aL ?_; (case aP => exact rfl); (case aB => exact (by repeat (first | (with_reducible first | exact HB.out | apply below_alloc | apply pw_below_drewN | apply below_drew1 | refine below_set ?_ GE373.out | refine below_set ?_ GE379.out) | exact HB.out))); (case aF => exact (fun _ _ => trivial)); (case aO => exact (by (with_reducible repeat (first | apply Kd.R_alloc | apply Kd.R_drewN | apply Kd.R_drew)); exact HO_5.out)); (case aS => exact (below_size (by repeat (first | (with_reducible first | exact HB.out | apply below_alloc | apply pw_below_drewN | apply below_drew1 | refine below_set ?_ GE373.out | refine below_set ?_ GE379.out) | exact HB.out)))); (case aL => have := LMc24.out; omega); intro v384 w29 ho hb hg hat; rw [← Ny383.out] at ho; have n0_ := Aside0.mk (blk_grown (g := gb373) (o := .cells #[.int .i64 a0_0, .int .i64 a0_1, .int .i64 a0_2, .int .i64 a0_3, .int .i64 a0_4, .slice A0_5 l0_5.length c0_5] 60 (0, 0)) (by (with_reducible repeat (first | refine blk_drewN ?_ _ | refine blk_drew ?_ | refine blk_alloc ?_ _)); exact BK373.out) hg (Kd.R_ne HO_5.out BK373.out (by decide))); have n1_ := Aside0.mk (blk_grown (g := gb379) (o := .cells #[.bool t374, .bool t375, .bool t376, .bool t377] 125 (0, 0)) (by (with_reducible repeat (first | refine blk_drewN ?_ _ | refine blk_drew ?_ | refine blk_alloc ?_ _)); exact BK379.out) hg (Kd.R_ne HO_5.out BK379.out (by decide))); have n2_ := Aside0.mk (hb); have n3_ := Aside0.mk (ho); clear BK373; clear BK379; clear HB; clear HO_5; have BK373 := n0_; have BK379 := n1_; have HB := n2_; have HO385 := n3_; clear n0_ n1_ n2_ n3_; clear ho hb hg hat; have hcz30_0 : w29.cell? ⟨gb373, 0, none⟩ = some (.int .i64 a0_0) := (blk_cell BK373.out 0).trans rfl; have hcz30_1 : w29.cell? ⟨gb373, 1, none⟩ = some (.int .i64 a0_1) := (blk_cell BK373.out 1).trans rfl; have hcz30_2 : w29.cell? ⟨gb373, 2, none⟩ = some (.int .i64 a0_2) := (blk_cell BK373.out 2).trans rfl; have hcz30_3 : w29.cell? ⟨gb373, 3, none⟩ = some (.int .i64 a0_3) := (blk_cell BK373.out 3).trans rfl; have hcz30_4 : w29.cell? ⟨gb373, 4, none⟩ = some (.int .i64 a0_4) := (blk_cell BK373.out 4).trans rfl; have hcz30_5 : w29.cell? ⟨gb373, 5, none⟩ = some (.slice A0_5 l0_5.length c0_5) := (blk_cell BK373.out 5).trans rfl; have hfz30_0 := blk_frozen BK373.out 0; have hfz30_1 := blk_frozen BK373.out 1; have hfz30_2 := blk_frozen BK373.out 2; have hfz30_3 := blk_frozen BK373.out 3; have hfz30_4 := blk_frozen BK373.out 4; have hfz30_5 := blk_frozen BK373.out 5) | ((with_reducible refine gate_builtin (b := .append) (xs := #[.tmp 35, .tmp 37]) rfl ?_); at_builtin; refine Kd.R_append_rows (Kd.int .i64) (w0 := w) w.heap.size rfl (.tmp 35) (.tmp 37) 36 3 (.int .i64 0) 8 rfl Try.underlying36 info3 rfl (by decide) (by omega) v384 y383 l0_5 _ _ _ (fun _ => True) (fun _ => False) rfl rfl ?aO ?aR (fun _ _ h => h) (fun _ h => h.elim) ?aF ?aB ?aS ?aL ?_; (case aR => repeat (first | exact (Kd.C_below HR0_5.out HB.out) | (with_reducible refine Kd.C_alloc ?_ _) | (with_reducible refine Kd.C_drewN ?_ _) | (with_reducible refine Kd.C_drew ?_))); (case aB => exact (by repeat (first | (with_reducible first | exact HB.out | apply below_alloc | apply pw_below_drewN | apply below_drew1 | refine below_set ?_ GE373.out | refine below_set ?_ GE379.out) | exact HB.out))); (case aF => exact (fun _ _ => trivial)); (case aO => exact (by (with_reducible repeat (first | apply Kd.R_alloc | apply Kd.R_drewN | apply Kd.R_drew)); exact HO385.out)); (case aS => exact (below_size (by repeat (first | (with_reducible first | exact HB.out | apply below_alloc | apply pw_below_drewN | apply below_drew1 | refine below_set ?_ GE373.out | refine below_set ?_ GE379.out) | exact HB.out)))); (case aL => have := LMc26.out; omega); intro v387 w31 ho hb hg hat; rw [← Ny386.out] at ho; have n0_ := Aside0.mk (blk_grown (g := gb373) (o := .cells #[.int .i64 a0_0, .int .i64 a0_1, .int .i64 a0_2, .int .i64 a0_3, .int .i64 a0_4, .slice A0_5 l0_5.length c0_5] 60 (0, 0)) (by (with_reducible repeat (first | refine blk_drewN ?_ _ | refine blk_drew ?_ | refine blk_alloc ?_ _)); exact BK373.out) hg (Kd.R_ne HO385.out BK373.out (by decide))); have n1_ := Aside0.mk (blk_grown (g := gb379) (o := .cells #[.bool t374, .bool t375, .bool t376, .bool t377] 125 (0, 0)) (by (with_reducible repeat (first | refine blk_drewN ?_ _ | refine blk_drew ?_ | refine blk_alloc ?_ _)); exact BK379.out) hg (Kd.R_ne HO385.out BK379.out (by decide))); have n2_ := Aside0.mk (hb); have n3_ := Aside0.mk (ho); clear BK373; clear BK379; clear HB; clear HO385; have BK373 := n0_; have BK379 := n1_; have HB := n2_; have HO388 := n3_; clear n0_ n1_ n2_ n3_; clear ho hb hg hat))
                      go_ret
                      exact ⟨_, by first | rfl | (simp [errW_none, errW_some] <;> rfl) | (simp [*, errW_none, errW_some] <;> rfl), by (with_reducible repeat (first | apply Kd.R_alloc | apply Kd.R_drewN | apply Kd.R_drew)); exact HO388.out, by repeat (first | (with_reducible first | exact HB.out | apply below_alloc | apply pw_below_drewN | apply below_drew1 | refine below_set ?_ GE373.out | refine below_set ?_ GE379.out) | exact HB.out)⟩
                    · rw [if_neg c26] at H
                      exact absurd H (by simp)
                  · rw [if_neg c25] at H
                    have c25b0 : (a0_0 == 7) = false := beq_eq_false_iff_ne.mpr c25
                    have c25b1 : (a0_0 != 7) = true := bne_iff_ne.mpr c25
                    obtain rfl := Option.some.inj H
                    have hnb32 := NB373_379.out
                    have hnc32 := NB379_373.out
                    have hcz33_0 : wc.cell? ⟨gb373, 0, none⟩ = some (.int .i64 a0_0) := (blk_cell BK373.out 0).trans rfl
                    have hcz33_1 : wc.cell? ⟨gb373, 1, none⟩ = some (.int .i64 a0_1) := (blk_cell BK373.out 1).trans rfl
                    have hcz33_2 : wc.cell? ⟨gb373, 2, none⟩ = some (.int .i64 a0_2) := (blk_cell BK373.out 2).trans rfl
                    have hcz33_3 : wc.cell? ⟨gb373, 3, none⟩ = some (.int .i64 a0_3) := (blk_cell BK373.out 3).trans rfl
                    have hcz33_4 : wc.cell? ⟨gb373, 4, none⟩ = some (.int .i64 a0_4) := (blk_cell BK373.out 4).trans rfl
                    have hcz33_5 : wc.cell? ⟨gb373, 5, none⟩ = some (.slice A0_5 l0_5.length c0_5) := (blk_cell BK373.out 5).trans rfl
                    have hfz33_0 := blk_frozen BK373.out 0
                    have hfz33_1 := blk_frozen BK373.out 1
                    have hfz33_2 := blk_frozen BK373.out 2
                    have hfz33_3 := blk_frozen BK373.out 3
                    have hfz33_4 := blk_frozen BK373.out 4
                    have hfz33_5 := blk_frozen BK373.out 5
                    go_wp2_with (first | ((with_reducible refine gate_builtin (b := .append) (xs := #[.tmp 27, .tmp 30]) rfl ?_); at_builtin; refine Kd.R_append (Kd.int .i64) (w0 := w) w.heap.size rfl (.tmp 27) (.tmp 30) 36 3 (.int .i64 0) 8 rfl Try.underlying36 info3 rfl (by decide) (by omega) u5 x5_12 a0_3 [.int .i64 a0_3] (fun _ => True) (fun _ => False) rfl rfl ?aP (fun _ hk => hk.elim) ?aF ?aO ?aB ?aS ?aL ?_; (case aP => exact rfl); (case aB => exact (by repeat (first | (with_reducible first | exact HB.out | apply below_alloc | apply pw_below_drewN | apply below_drew1 | refine below_set ?_ GE373.out | refine below_set ?_ GE379.out) | exact HB.out))); (case aF => exact (fun _ _ => trivial)); (case aO => exact (by (with_reducible repeat (first | apply Kd.R_alloc | apply Kd.R_drewN | apply Kd.R_drew)); exact HO_5.out)); (case aS => exact (below_size (by repeat (first | (with_reducible first | exact HB.out | apply below_alloc | apply pw_below_drewN | apply below_drew1 | refine below_set ?_ GE373.out | refine below_set ?_ GE379.out) | exact HB.out)))); (case aL => have := LMc24.out; omega); intro v384 w34 ho hb hg hat; rw [← Ny383.out] at ho; have n0_ := Aside0.mk (blk_grown (g := gb373) (o := .cells #[.int .i64 a0_0, .int .i64 a0_1, .int .i64 a0_2, .int .i64 a0_3, .int .i64 a0_4, .slice A0_5 l0_5.length c0_5] 60 (0, 0)) (by (with_reducible repeat (first | refine blk_drewN ?_ _ | refine blk_drew ?_ | refine blk_alloc ?_ _)); exact BK373.out) hg (Kd.R_ne HO_5.out BK373.out (by decide))); have n1_ := Aside0.mk (blk_grown (g := gb379) (o := .cells #[.bool t374, .bool t375, .bool t376, .bool t377] 125 (0, 0)) (by (with_reducible repeat (first | refine blk_drewN ?_ _ | refine blk_drew ?_ | refine blk_alloc ?_ _)); exact BK379.out) hg (Kd.R_ne HO_5.out BK379.out (by decide))); have n2_ := Aside0.mk (hb); have n3_ := Aside0.mk (ho); clear BK373; clear BK379; clear HB; clear HO_5; have BK373 := n0_; have BK379 := n1_; have HB := n2_; have HO385 := n3_; clear n0_ n1_ n2_ n3_; clear ho hb hg hat; have hcz35_0 : w34.cell? ⟨gb373, 0, none⟩ = some (.int .i64 a0_0) := (blk_cell BK373.out 0).trans rfl; have hcz35_1 : w34.cell? ⟨gb373, 1, none⟩ = some (.int .i64 a0_1) := (blk_cell BK373.out 1).trans rfl; have hcz35_2 : w34.cell? ⟨gb373, 2, none⟩ = some (.int .i64 a0_2) := (blk_cell BK373.out 2).trans rfl; have hcz35_3 : w34.cell? ⟨gb373, 3, none⟩ = some (.int .i64 a0_3) := (blk_cell BK373.out 3).trans rfl; have hcz35_4 : w34.cell? ⟨gb373, 4, none⟩ = some (.int .i64 a0_4) := (blk_cell BK373.out 4).trans rfl; have hcz35_5 : w34.cell? ⟨gb373, 5, none⟩ = some (.slice A0_5 l0_5.length c0_5) := (blk_cell BK373.out 5).trans rfl; have hfz35_0 := blk_frozen BK373.out 0; have hfz35_1 := blk_frozen BK373.out 1; have hfz35_2 := blk_frozen BK373.out 2; have hfz35_3 := blk_frozen BK373.out 3; have hfz35_4 := blk_frozen BK373.out 4; have hfz35_5 := blk_frozen BK373.out 5))
                    go_ret
                    exact ⟨_, by first | rfl | (simp [errW_none, errW_some] <;> rfl) | (simp [*, errW_none, errW_some] <;> rfl), by (with_reducible repeat (first | apply Kd.R_alloc | apply Kd.R_drewN | apply Kd.R_drew)); exact HO385.out, by repeat (first | (with_reducible first | exact HB.out | apply below_alloc | apply pw_below_drewN | apply below_drew1 | refine below_set ?_ GE373.out | refine below_set ?_ GE379.out) | exact HB.out)⟩
                · rw [if_neg c24] at H
                  exact absurd H (by simp)
              · replace c23 := Bool.eq_false_iff.mpr c23
                subst c23
                have H1 : (if a0_0 = 7 then (if x5_12.length + l0_5.length < 17592186044416 then (some (x5_12 ++ l0_5)) else (none)) else (some x5_12)) = some r := by rw [if_neg (show ¬ (false = true) by decide)] at H; exact H
                clear H
                have H := H1
                clear H1
                by_cases c36 : a0_0 = 7
                · rw [if_pos c36] at H
                  have c36b0 : (a0_0 == 7) = true := beq_iff_eq.mpr c36
                  have c36b1 : (a0_0 != 7) = false := bne_eq_false_iff_eq.mpr c36
                  clear c36
                  by_cases c37 : x5_12.length + l0_5.length < 17592186044416
                  · rw [if_pos c37] at H
                    have LMc37 := Aside0.mk c37
                    clear c37
                    obtain ⟨y389, hy389⟩ : ∃ y_ : List Int, y_ = (x5_12 ++ l0_5) := ⟨_, rfl⟩
                    replace H : (some y389) = some r := by first | (rw [hy389]; with_reducible exact H) | (have H2_ := (Option.bind_some _ _).symm.trans H; rw [hy389]; with_reducible exact H2_) | (have H2_ := (Option.bind_some _ _).symm.trans H; with_reducible exact H2_) | with_reducible exact H | (rw [hy389]; exact H) | exact H
                    have Ny389 := Aside0.mk hy389
                    clear hy389
                    obtain rfl := Option.some.inj H
                    have hnb38 := NB373_379.out
                    have hnc38 := NB379_373.out
                    have hcz39_0 : wc.cell? ⟨gb373, 0, none⟩ = some (.int .i64 a0_0) := (blk_cell BK373.out 0).trans rfl
                    have hcz39_1 : wc.cell? ⟨gb373, 1, none⟩ = some (.int .i64 a0_1) := (blk_cell BK373.out 1).trans rfl
                    have hcz39_2 : wc.cell? ⟨gb373, 2, none⟩ = some (.int .i64 a0_2) := (blk_cell BK373.out 2).trans rfl
                    have hcz39_3 : wc.cell? ⟨gb373, 3, none⟩ = some (.int .i64 a0_3) := (blk_cell BK373.out 3).trans rfl
                    have hcz39_4 : wc.cell? ⟨gb373, 4, none⟩ = some (.int .i64 a0_4) := (blk_cell BK373.out 4).trans rfl
                    have hcz39_5 : wc.cell? ⟨gb373, 5, none⟩ = some (.slice A0_5 l0_5.length c0_5) := (blk_cell BK373.out 5).trans rfl
                    have hfz39_0 := blk_frozen BK373.out 0
                    have hfz39_1 := blk_frozen BK373.out 1
                    have hfz39_2 := blk_frozen BK373.out 2
                    have hfz39_3 := blk_frozen BK373.out 3
                    have hfz39_4 := blk_frozen BK373.out 4
                    have hfz39_5 := blk_frozen BK373.out 5
                    go_wp2_with (first | ((with_reducible refine gate_builtin (b := .append) (xs := #[.tmp 35, .tmp 37]) rfl ?_); at_builtin; refine Kd.R_append_rows (Kd.int .i64) (w0 := w) w.heap.size rfl (.tmp 35) (.tmp 37) 36 3 (.int .i64 0) 8 rfl Try.underlying36 info3 rfl (by decide) (by omega) u5 x5_12 l0_5 _ _ _ (fun _ => True) (fun _ => False) rfl rfl ?aO ?aR (fun _ _ h => h) (fun _ h => h.elim) ?aF ?aB ?aS ?aL ?_; (case aR => repeat (first | exact (Kd.C_below HR0_5.out HB.out) | (with_reducible refine Kd.C_alloc ?_ _) | (with_reducible refine Kd.C_drewN ?_ _) | (with_reducible refine Kd.C_drew ?_))); (case aB => exact (by repeat (first | (with_reducible first | exact HB.out | apply below_alloc | apply pw_below_drewN | apply below_drew1 | refine below_set ?_ GE373.out | refine below_set ?_ GE379.out) | exact HB.out))); (case aF => exact (fun _ _ => trivial)); (case aO => exact (by (with_reducible repeat (first | apply Kd.R_alloc | apply Kd.R_drewN | apply Kd.R_drew)); exact HO_5.out)); (case aS => exact (below_size (by repeat (first | (with_reducible first | exact HB.out | apply below_alloc | apply pw_below_drewN | apply below_drew1 | refine below_set ?_ GE373.out | refine below_set ?_ GE379.out) | exact HB.out)))); (case aL => have := LMc37.out; omega); intro v390 w40 ho hb hg hat; rw [← Ny389.out] at ho; have n0_ := Aside0.mk (blk_grown (g := gb373) (o := .cells #[.int .i64 a0_0, .int .i64 a0_1, .int .i64 a0_2, .int .i64 a0_3, .int .i64 a0_4, .slice A0_5 l0_5.length c0_5] 60 (0, 0)) (by (with_reducible repeat (first | refine blk_drewN ?_ _ | refine blk_drew ?_ | refine blk_alloc ?_ _)); exact BK373.out) hg (Kd.R_ne HO_5.out BK373.out (by decide))); have n1_ := Aside0.mk (blk_grown (g := gb379) (o := .cells #[.bool t374, .bool t375, .bool t376, .bool t377] 125 (0, 0)) (by (with_reducible repeat (first | refine blk_drewN ?_ _ | refine blk_drew ?_ | refine blk_alloc ?_ _)); exact BK379.out) hg (Kd.R_ne HO_5.out BK379.out (by decide))); have n2_ := Aside0.mk (hb); have n3_ := Aside0.mk (ho); clear BK373; clear BK379; clear HB; clear HO_5; have BK373 := n0_; have BK379 := n1_; have HB := n2_; have HO391 := n3_; clear n0_ n1_ n2_ n3_; clear ho hb hg hat))
                    go_ret
                    exact ⟨_, by first | rfl | (simp [errW_none, errW_some] <;> rfl) | (simp [*, errW_none, errW_some] <;> rfl), by (with_reducible repeat (first | apply Kd.R_alloc | apply Kd.R_drewN | apply Kd.R_drew)); exact HO391.out, by repeat (first | (with_reducible first | exact HB.out | apply below_alloc | apply pw_below_drewN | apply below_drew1 | refine below_set ?_ GE373.out | refine below_set ?_ GE379.out) | exact HB.out)⟩
                  · rw [if_neg c37] at H
                    exact absurd H (by simp)
                · rw [if_neg c36] at H
                  have c36b0 : (a0_0 == 7) = false := beq_eq_false_iff_ne.mpr c36
                  have c36b1 : (a0_0 != 7) = true := bne_iff_ne.mpr c36
                  obtain rfl := Option.some.inj H
                  have hnb41 := NB373_379.out
                  have hnc41 := NB379_373.out
                  have hcz42_0 : wc.cell? ⟨gb373, 0, none⟩ = some (.int .i64 a0_0) := (blk_cell BK373.out 0).trans rfl
                  have hcz42_1 : wc.cell? ⟨gb373, 1, none⟩ = some (.int .i64 a0_1) := (blk_cell BK373.out 1).trans rfl
                  have hcz42_2 : wc.cell? ⟨gb373, 2, none⟩ = some (.int .i64 a0_2) := (blk_cell BK373.out 2).trans rfl
                  have hcz42_3 : wc.cell? ⟨gb373, 3, none⟩ = some (.int .i64 a0_3) := (blk_cell BK373.out 3).trans rfl
                  have hcz42_4 : wc.cell? ⟨gb373, 4, none⟩ = some (.int .i64 a0_4) := (blk_cell BK373.out 4).trans rfl
                  have hcz42_5 : wc.cell? ⟨gb373, 5, none⟩ = some (.slice A0_5 l0_5.length c0_5) := (blk_cell BK373.out 5).trans rfl
                  have hfz42_0 := blk_frozen BK373.out 0
                  have hfz42_1 := blk_frozen BK373.out 1
                  have hfz42_2 := blk_frozen BK373.out 2
                  have hfz42_3 := blk_frozen BK373.out 3
                  have hfz42_4 := blk_frozen BK373.out 4
                  have hfz42_5 := blk_frozen BK373.out 5
                  go_wp2
                  go_ret
                  exact ⟨_, by first | rfl | (simp [errW_none, errW_some] <;> rfl) | (simp [*, errW_none, errW_some] <;> rfl), by (with_reducible repeat (first | apply Kd.R_alloc | apply Kd.R_drewN | apply Kd.R_drew)); exact HO_5.out, by repeat (first | (with_reducible first | exact HB.out | apply below_alloc | apply pw_below_drewN | apply below_drew1 | refine below_set ?_ GE373.out | refine below_set ?_ GE379.out) | exact HB.out)⟩

end Go.Proofs.Yteeapfmgdlcgfaa.A


namespace Go.Proofs.Yteeapfmgdlcgfaa.A
open Go.RowKit Go.Proofs.YteeapfmgdlcgfaaW.PrintWords Go.Proofs.YteeapfmgdlcgfaaW.PrintLast Go.Proofs.YteeapfmgdlcgfaaW.PrintMore
attribute [local go_sem] max2_int min2_int max_two min_two max_three min_three max_four min_four   -- for this text's walks alone
set_option linter.unusedVariables false
set_option linter.unusedSimpArgs false

def code_TermUses.f (a0_0 : Int) (a0_1 : Int) (a0_2 : Int) (a0_3 : Int) : Option (List Int) := if a0_0 = 2 then (some (([a0_1] : List Int))) else (if a0_0 = 3 then (some (([a0_1] : List Int))) else (some ([] : List Int)))
set_option maxHeartbeats 8000000 in
set_option maxRecDepth 100000 in
theorem code_TermUses.calls (a0_0 : Int) (a0_1 : Int) (a0_2 : Int) (a0_3 : Int) (r : List Int) (w : World) (h : code_TermUses.f a0_0 a0_1 a0_2 a0_3 = some r) :
    Calls Try.prog 63 #[.agg #[.int .i64 a0_0, .int .i64 a0_1, .int .i64 a0_2, .int .i64 a0_3]] w fun e w' => ∃ v0_ : Value, e = .returned (v0_) ∧ Kd.R (Kd.int .i64) 3 w' w.heap.size (fun _ => True) v0_ r ∧ Below w.heap.size w w' := by
  have hu55 := Try.underlying55
  have HB := Aside0.mk (Below.refl w.heap.size w)
  have H : (if a0_0 = 2 then (some (([a0_1] : List Int))) else (if a0_0 = 3 then (some (([a0_1] : List Int))) else (some ([] : List Int)))) = some r := h
  clear h
  by_cases c2 : a0_0 = 2
  · rw [if_pos c2] at H
    have c2b0 : (a0_0 == 2) = true := beq_iff_eq.mpr c2
    have c2b1 : (a0_0 != 2) = false := bne_eq_false_iff_eq.mpr c2
    clear c2
    obtain ⟨y393, hy393⟩ : ∃ y_ : List Int, y_ = (([a0_1] : List Int)) := ⟨_, rfl⟩
    replace H : (some y393) = some r := by first | (rw [hy393]; with_reducible exact H) | (have H2_ := (Option.bind_some _ _).symm.trans H; rw [hy393]; with_reducible exact H2_) | (have H2_ := (Option.bind_some _ _).symm.trans H; with_reducible exact H2_) | with_reducible exact H | (rw [hy393]; exact H) | exact H
    have Ny393 := Aside0.mk hy393
    clear hy393
    obtain rfl := Option.some.inj H
    go_enter Try.func63, Try.ntmps63
    go_wp2_with (first | ((with_reducible refine gate_dst (N := 1) rfl ?_); refine box_event ?hg (N := 1) ?hd (cs := #[.int .i64 a0_0, .int .i64 a0_1, .int .i64 a0_2, .int .i64 a0_3]) (t := 55) ?hr ?_; (case hd => rfl); (case hg => rfl); (case hr => first | (go_simp; done) | (go_simp; rfl)); intro gb392 hg w3 hbox hb; have n0_ := Aside0.mk (below_step (by repeat (first | (with_reducible first | exact HB.out | apply below_alloc | apply pw_below_drewN | apply below_drew1) | exact HB.out)) hb); have n1_ := Aside0.mk (hbox); have n2_ := Aside0.mk ((by rw [hg]; exact (below_size (by repeat (first | (with_reducible first | exact HB.out | apply below_alloc | apply pw_below_drewN | apply below_drew1) | exact HB.out))) : w.heap.size ≤ gb392)); have n3_ := Aside0.mk ((by rw [hg]; exact (below_size (by repeat (first | (with_reducible first | exact HB.out | apply below_alloc | apply pw_below_drewN | apply below_drew1) | exact HB.out))) : w.heap.size ≤ gb392)); clear HB; have HB := n0_; have BK392 := n1_; have GW392 := n2_; have GE392 := n3_; clear n0_ n1_ n2_ n3_; clear hb hbox hg; have hcz4_0 : w3.cell? ⟨gb392, 0, none⟩ = some (.int .i64 a0_0) := (blk_cell BK392.out 0).trans rfl; have hcz4_1 : w3.cell? ⟨gb392, 1, none⟩ = some (.int .i64 a0_1) := (blk_cell BK392.out 1).trans rfl; have hcz4_2 : w3.cell? ⟨gb392, 2, none⟩ = some (.int .i64 a0_2) := (blk_cell BK392.out 2).trans rfl; have hcz4_3 : w3.cell? ⟨gb392, 3, none⟩ = some (.int .i64 a0_3) := (blk_cell BK392.out 3).trans rfl; have hfz4_0 := blk_frozen BK392.out 0; have hfz4_1 := blk_frozen BK392.out 1; have hfz4_2 := blk_frozen BK392.out 2; have hfz4_3 := blk_frozen BK392.out 3) | ((with_reducible refine gate_dst (N := 13) rfl ?_); refine Kd.R_lit (Kd.int .i64) _ 3 ?hg (N := 13) ?hd (xs := ([a0_1] : List Int)) (inner := [.int .i64 a0_1]) (ok := fun _ => True) (okp := fun _ => True) ?hr ?hp (fun _ hk => hk) trivial (Below.refl _ _) (Nat.le_refl _) (by simp) ?_; (case hd => rfl); (case hg => rfl); (case hr => first | (go_simp; done) | (go_simp; rfl)); (case hp => exact (Reps.one (show Kd.M (Kd.int .i64) _ _ _ a0_1 [.int .i64 a0_1] from rfl) (Reps.none _ _))); intro v394 w5 ho6 hb hg_ hnew_; clear hg_ hnew_; (first | rw [← Ny393.out] at ho6 | (simp only [Int.reduceToNat] at ho6; rw [← Ny393.out] at ho6)); have n0_ := Aside0.mk (Kd.R_lower ho6 (below_size (by repeat (first | (with_reducible first | exact HB.out | apply below_alloc | apply pw_below_drewN | apply below_drew1 | refine below_set ?_ GE392.out) | exact HB.out)))); have n1_ := Aside0.mk (blk_below (g := gb392) (o := .cells #[.int .i64 a0_0, .int .i64 a0_1, .int .i64 a0_2, .int .i64 a0_3] 55 (0, 0)) (by (with_reducible repeat (first | refine blk_drewN ?_ _ | refine blk_drew ?_ | refine blk_alloc ?_ _)); exact BK392.out) hb); have n2_ := Aside0.mk (below_step (by repeat (first | (with_reducible first | exact HB.out | apply below_alloc | apply pw_below_drewN | apply below_drew1 | refine below_set ?_ GE392.out) | exact HB.out)) hb); clear BK392; clear HB; have HO395 := n0_; have BK392 := n1_; have HB := n2_; clear n0_ n1_ n2_; clear hb ho6))
    go_ret
    exact ⟨_, by first | rfl | (simp [errW_none, errW_some] <;> rfl) | (simp [*, errW_none, errW_some] <;> rfl), by (with_reducible repeat (first | apply Kd.R_alloc | apply Kd.R_drewN | apply Kd.R_drew)); exact HO395.out, by repeat (first | (with_reducible first | exact HB.out | apply below_alloc | apply pw_below_drewN | apply below_drew1 | refine below_set ?_ GE392.out) | exact HB.out)⟩
  · rw [if_neg c2] at H
    have c2b0 : (a0_0 == 2) = false := beq_eq_false_iff_ne.mpr c2
    have c2b1 : (a0_0 != 2) = true := bne_iff_ne.mpr c2
    by_cases c7 : a0_0 = 3
    · rw [if_pos c7] at H
      have c7b0 : (a0_0 == 3) = true := beq_iff_eq.mpr c7
      have c7b1 : (a0_0 != 3) = false := bne_eq_false_iff_eq.mpr c7
      clear c7
      obtain ⟨y396, hy396⟩ : ∃ y_ : List Int, y_ = (([a0_1] : List Int)) := ⟨_, rfl⟩
      replace H : (some y396) = some r := by first | (rw [hy396]; with_reducible exact H) | (have H2_ := (Option.bind_some _ _).symm.trans H; rw [hy396]; with_reducible exact H2_) | (have H2_ := (Option.bind_some _ _).symm.trans H; with_reducible exact H2_) | with_reducible exact H | (rw [hy396]; exact H) | exact H
      have Ny396 := Aside0.mk hy396
      clear hy396
      obtain rfl := Option.some.inj H
      go_enter Try.func63, Try.ntmps63
      go_wp2_with (first | ((with_reducible refine gate_dst (N := 1) rfl ?_); refine box_event ?hg (N := 1) ?hd (cs := #[.int .i64 a0_0, .int .i64 a0_1, .int .i64 a0_2, .int .i64 a0_3]) (t := 55) ?hr ?_; (case hd => rfl); (case hg => rfl); (case hr => first | (go_simp; done) | (go_simp; rfl)); intro gb392 hg w8 hbox hb; have n0_ := Aside0.mk (below_step (by repeat (first | (with_reducible first | exact HB.out | apply below_alloc | apply pw_below_drewN | apply below_drew1) | exact HB.out)) hb); have n1_ := Aside0.mk (hbox); have n2_ := Aside0.mk ((by rw [hg]; exact (below_size (by repeat (first | (with_reducible first | exact HB.out | apply below_alloc | apply pw_below_drewN | apply below_drew1) | exact HB.out))) : w.heap.size ≤ gb392)); have n3_ := Aside0.mk ((by rw [hg]; exact (below_size (by repeat (first | (with_reducible first | exact HB.out | apply below_alloc | apply pw_below_drewN | apply below_drew1) | exact HB.out))) : w.heap.size ≤ gb392)); clear HB; have HB := n0_; have BK392 := n1_; have GW392 := n2_; have GE392 := n3_; clear n0_ n1_ n2_ n3_; clear hb hbox hg; have hcz9_0 : w8.cell? ⟨gb392, 0, none⟩ = some (.int .i64 a0_0) := (blk_cell BK392.out 0).trans rfl; have hcz9_1 : w8.cell? ⟨gb392, 1, none⟩ = some (.int .i64 a0_1) := (blk_cell BK392.out 1).trans rfl; have hcz9_2 : w8.cell? ⟨gb392, 2, none⟩ = some (.int .i64 a0_2) := (blk_cell BK392.out 2).trans rfl; have hcz9_3 : w8.cell? ⟨gb392, 3, none⟩ = some (.int .i64 a0_3) := (blk_cell BK392.out 3).trans rfl; have hfz9_0 := blk_frozen BK392.out 0; have hfz9_1 := blk_frozen BK392.out 1; have hfz9_2 := blk_frozen BK392.out 2; have hfz9_3 := blk_frozen BK392.out 3) | ((with_reducible refine gate_dst (N := 13) rfl ?_); refine Kd.R_lit (Kd.int .i64) _ 3 ?hg (N := 13) ?hd (xs := ([a0_1] : List Int)) (inner := [.int .i64 a0_1]) (ok := fun _ => True) (okp := fun _ => True) ?hr ?hp (fun _ hk => hk) trivial (Below.refl _ _) (Nat.le_refl _) (by simp) ?_; (case hd => rfl); (case hg => rfl); (case hr => first | (go_simp; done) | (go_simp; rfl)); (case hp => exact (Reps.one (show Kd.M (Kd.int .i64) _ _ _ a0_1 [.int .i64 a0_1] from rfl) (Reps.none _ _))); intro v397 w10 ho11 hb hg_ hnew_; clear hg_ hnew_; (first | rw [← Ny396.out] at ho11 | (simp only [Int.reduceToNat] at ho11; rw [← Ny396.out] at ho11)); have n0_ := Aside0.mk (Kd.R_lower ho11 (below_size (by repeat (first | (with_reducible first | exact HB.out | apply below_alloc | apply pw_below_drewN | apply below_drew1 | refine below_set ?_ GE392.out) | exact HB.out)))); have n1_ := Aside0.mk (blk_below (g := gb392) (o := .cells #[.int .i64 a0_0, .int .i64 a0_1, .int .i64 a0_2, .int .i64 a0_3] 55 (0, 0)) (by (with_reducible repeat (first | refine blk_drewN ?_ _ | refine blk_drew ?_ | refine blk_alloc ?_ _)); exact BK392.out) hb); have n2_ := Aside0.mk (below_step (by repeat (first | (with_reducible first | exact HB.out | apply below_alloc | apply pw_below_drewN | apply below_drew1 | refine below_set ?_ GE392.out) | exact HB.out)) hb); clear BK392; clear HB; have HO398 := n0_; have BK392 := n1_; have HB := n2_; clear n0_ n1_ n2_; clear hb ho11))
      go_ret
      exact ⟨_, by first | rfl | (simp [errW_none, errW_some] <;> rfl) | (simp [*, errW_none, errW_some] <;> rfl), by (with_reducible repeat (first | apply Kd.R_alloc | apply Kd.R_drewN | apply Kd.R_drew)); exact HO398.out, by repeat (first | (with_reducible first | exact HB.out | apply below_alloc | apply pw_below_drewN | apply below_drew1 | refine below_set ?_ GE392.out) | exact HB.out)⟩
    · rw [if_neg c7] at H
      have c7b0 : (a0_0 == 3) = false := beq_eq_false_iff_ne.mpr c7
      have c7b1 : (a0_0 != 3) = true := bne_iff_ne.mpr c7
      obtain rfl := Option.some.inj H
      go_enter Try.func63, Try.ntmps63
      go_wp2_with (first | ((with_reducible refine gate_dst (N := 1) rfl ?_); refine box_event ?hg (N := 1) ?hd (cs := #[.int .i64 a0_0, .int .i64 a0_1, .int .i64 a0_2, .int .i64 a0_3]) (t := 55) ?hr ?_; (case hd => rfl); (case hg => rfl); (case hr => first | (go_simp; done) | (go_simp; rfl)); intro gb392 hg w12 hbox hb; have n0_ := Aside0.mk (below_step (by repeat (first | (with_reducible first | exact HB.out | apply below_alloc | apply pw_below_drewN | apply below_drew1) | exact HB.out)) hb); have n1_ := Aside0.mk (hbox); have n2_ := Aside0.mk ((by rw [hg]; exact (below_size (by repeat (first | (with_reducible first | exact HB.out | apply below_alloc | apply pw_below_drewN | apply below_drew1) | exact HB.out))) : w.heap.size ≤ gb392)); have n3_ := Aside0.mk ((by rw [hg]; exact (below_size (by repeat (first | (with_reducible first | exact HB.out | apply below_alloc | apply pw_below_drewN | apply below_drew1) | exact HB.out))) : w.heap.size ≤ gb392)); clear HB; have HB := n0_; have BK392 := n1_; have GW392 := n2_; have GE392 := n3_; clear n0_ n1_ n2_ n3_; clear hb hbox hg; have hcz13_0 : w12.cell? ⟨gb392, 0, none⟩ = some (.int .i64 a0_0) := (blk_cell BK392.out 0).trans rfl; have hcz13_1 : w12.cell? ⟨gb392, 1, none⟩ = some (.int .i64 a0_1) := (blk_cell BK392.out 1).trans rfl; have hcz13_2 : w12.cell? ⟨gb392, 2, none⟩ = some (.int .i64 a0_2) := (blk_cell BK392.out 2).trans rfl; have hcz13_3 : w12.cell? ⟨gb392, 3, none⟩ = some (.int .i64 a0_3) := (blk_cell BK392.out 3).trans rfl; have hfz13_0 := blk_frozen BK392.out 0; have hfz13_1 := blk_frozen BK392.out 1; have hfz13_2 := blk_frozen BK392.out 2; have hfz13_3 := blk_frozen BK392.out 3))
      go_ret
      exact ⟨_, by first | rfl | (simp [errW_none, errW_some] <;> rfl) | (simp [*, errW_none, errW_some] <;> rfl), by first | exact Kd.R_nil _ _ _ _ _ | exact Kd.N_nil _ _ _ _ _ | exact Kd.V_nil _ _ _ _ _ | exact Kd.Q_nil _ _ _ _ _ | exact Kd.S_nil _ _ _ _ _, by repeat (first | (with_reducible first | exact HB.out | apply below_alloc | apply pw_below_drewN | apply below_drew1 | refine below_set ?_ GE392.out) | exact HB.out)⟩

end Go.Proofs.Yteeapfmgdlcgfaa.A


namespace Go.Proofs.Yteeapfmgdlcgfaa.A
open Go.RowKit Go.Proofs.YteeapfmgdlcgfaaW.PrintWords Go.Proofs.YteeapfmgdlcgfaaW.PrintLast
set_option linter.unusedVariables false
set_option linter.unusedSimpArgs false
attribute [local go_sem] Oper.semAt_some Go.Proofs.YteeapfmgdlcgfaaW.PrintMore.max2_int Go.Proofs.YteeapfmgdlcgfaaW.PrintMore.max_two

def setsI (x : S60) : Int := if (shp x.f0).1 = true then x.f1 else 0
def usesI (x : S60) : List Int := (if (shp x.f0).2.1 = true then [x.f2] else []) ++ (if (shp x.f0).2.2.1 = true then [x.f3] else []) ++ (if x.f0 = 7 then x.f5 else [])
def tusesI (t : S55) : List Int := if t.f0 = 2 ∨ t.f0 = 3 then [t.f1] else []
theorem shape_eqk (k : Nat) (a : Int) : code_shapeOf.f (k + 1) a = some (shp a) := by
  have h := shape_eq a
  have hm : ∀ k, code_shapeOf.f (k + 1) a = some (shp a) := by
    intro k
    induction k with
    | zero => exact h
    | succ k ih => exact code_shapeOf.mono a (k + 1) _ ih
  exact hm k
theorem sets_eq (x : S60) : code_Sets.f 1 x.f0 x.f1 x.f2 x.f3 x.f4 x.f5 = some (setsI x) := by
  unfold code_Sets.f setsI
  rw [shape_eq, Option.bind_some]
  split <;> rfl
theorem uses_eq (x : S60) (h : x.f5.length ≤ 1000000) : code_Uses.f 4 x.f0 x.f1 x.f2 x.f3 x.f4 x.f5 = some (usesI x) := by
  unfold code_Uses.f usesI
  rw [shape_eqk 3, Option.bind_some]
  obtain ⟨s1, s2, s3, s4, s5, hs⟩ : ∃ s1 s2 s3 s4 s5, shp x.f0 = (s1, s2, s3, s4, s5) := ⟨_, _, _, _, _, rfl⟩
  have h5 : s5 = false → s2 = false ∧ s3 = false := by
    intro e
    subst e
    unfold shp at hs
    repeat' split at hs
    all_goals simp_all
  rw [hs]
  cases s5 <;> cases s2 <;> cases s3 <;> simp_all [code_Uses.j0, code_Uses.j1, code_Uses.j2] <;> (split <;> simp_all <;> omega)
theorem tuses_eq (t : S55) : code_TermUses.f t.f0 t.f1 t.f2 t.f3 = some (tusesI t) := by
  unfold code_TermUses.f tusesI
  by_cases h2 : t.f0 = 2
  · simp [h2]
  · by_cases h3 : t.f0 = 3 <;> simp [h2, h3]
theorem sets_calls (x : S60) (A : Option Addr) (c : Nat) (w : World) (hC : Kd.C (Kd.int .i64) w A x.f5.length x.f5) (hc : x.f5.length ≤ c) :
    Calls Try.prog 61 #[.agg #[.int .i64 x.f0, .int .i64 x.f1, .int .i64 x.f2, .int .i64 x.f3, .int .i64 x.f4, .slice A x.f5.length c]] w fun e w' => e = .returned (.int .i64 (setsI x)) ∧ Below w.heap.size w w' :=
  code_Sets.calls 1 _ _ _ _ _ A c _ _ w hC hc (sets_eq x)
theorem uses_calls (x : S60) (A : Option Addr) (c : Nat) (w : World) (hC : Kd.C (Kd.int .i64) w A x.f5.length x.f5) (hc : x.f5.length ≤ c) (hl : x.f5.length ≤ 1000000) :
    Calls Try.prog 62 #[.agg #[.int .i64 x.f0, .int .i64 x.f1, .int .i64 x.f2, .int .i64 x.f3, .int .i64 x.f4, .slice A x.f5.length c]] w fun e w' => ∃ v0_ : Value, e = .returned (v0_) ∧ Kd.R (Kd.int .i64) 3 w' w.heap.size (fun _ => True) v0_ (usesI x) ∧ Below w.heap.size w w' :=
  code_Uses.calls 4 _ _ _ _ _ A c _ _ w hC hc (uses_eq x hl)
/-- the greatest of what operations name -/
def regsO (n : Int) (l : List S60) : Int := l.foldl (fun n x => (usesI x).foldl mx (mx n (setsI x))) n
def regsT (n : Int) (l : List S57) : Int := l.foldl (fun n y => (tusesI y.f1).foldl mx n) n
/-- the greatest register -/
def regsI (p : Int) (l : List S57) : Int := regsT (regsO (mx 0 p) (opsOf l)) l
theorem uses_len (x : S60) (h : x.f5.length ≤ 1000000) : (usesI x).length ≤ 1000002 := by
  unfold usesI
  split <;> split <;> split <;> simp <;> omega
theorem tuses_len (t : S55) : (tusesI t).length ≤ 1 := by
  unfold tusesI
  split <;> simp

def PBox (W : World) (b : Nat) (p : Int) (A : Option Addr) (n c : Nat) : Prop := W.heap[b]? = some (.cells #[.int .i64 p, .slice A n c] 52)
theorem PBox.lt {W : World} {b : Nat} {p : Int} {A : Option Addr} {n c : Nat} (h : PBox W b p A n c) : b < W.heap.size := (Array.getElem?_eq_some_iff.1 h).1
theorem PBox.cells {W : World} {b : Nat} {p : Int} {A : Option Addr} {n c : Nat} (h : PBox W b p A n c) : W.cell? ⟨b, 0, none⟩ = some (.int .i64 p) ∧ W.cell? ⟨b, 1, none⟩ = some (.slice A n c) := by
  simp [World.cell?, show W.heap[b]? = some _ from h]
/-- what Regs keeps -/
structure RG (w : World) (p : Int) (A : Option Addr) (n c : Nat) (m : Int) (W : World) : Prop where
  below : Below w.heap.size w W
  bp : PBox W w.heap.size p A n c
  bn : Boxed W (w.heap.size + 1) 3 (.int .i64 m)
theorem RG.step {w : World} {p : Int} {A : Option Addr} {n c : Nat} {m : Int} {W W' : World} (h : RG w p A n c m W) (hb : Below W.heap.size W W') : RG w p A n c m W' :=
  ⟨h.below.trans (hb.mono h.below.size), (hb.block _ h.bp.lt).trans h.bp, boxed_below h.bn hb h.bn.lt⟩
theorem RG.set {w : World} {p : Int} {A : Option Addr} {n c : Nat} {m : Int} {W : World} (h : RG w p A n c m W) (m' : Int) : RG w p A n c m' (W.setCell ⟨w.heap.size + 1, 0, none⟩ (.int .i64 m')) := by
  have k : KeepsBut (fun q => q = w.heap.size + 1) W (W.setCell ⟨w.heap.size + 1, 0, none⟩ (.int .i64 m')) := KeepsBut.setCell _ _ _ rfl
  exact ⟨h.below.trans (k.below h.below.size (fun q hq e => by omega)), (k.block _ h.bp.lt (by omega)).trans h.bp, h.bn.set _⟩
theorem RG.abides {w : World} {p : Int} {A : Option Addr} {n c B : Nat} {m : Int} {W W' : World} {row : Option Nat} (h : RG w p A n c m W) (hB : w.heap.size ≤ B) (hg : W.grownBy W' row) (hr : ∀ r, row = some r → B ≤ r ∧ ∃ o : Obj, W.heap[r]? = some o ∧ o.isCells = false) : RG w p A n c m W' :=
  ⟨below_abides hB h.below hg hr, (hg.block _ h.bp.lt (fun e => by obtain ⟨_, o, ho, hc⟩ := hr _ e.symm; rw [show W.heap[w.heap.size]? = _ from h.bp] at ho; cases ho; cases hc)).trans h.bp, boxed_abides h.bn hg hr⟩

theorem below_two {n : Nat} {w W W' : World} (h : Below n w W) (h' : Below n w W') (hs : W.heap.size ≤ W'.heap.size) : Below n W W' :=
  ⟨h'.os.trans h.os.symm, h'.tape.trans h.tape.symm, h'.output.trans h.output.symm, hs, fun q hq => (h'.block q hq).trans (h.block q hq).symm⟩
theorem regsO_snoc (n : Int) (l : List S60) (x : S60) : regsO n (l ++ [x]) = (usesI x).foldl mx (mx (regsO n l) (setsI x)) := by
  unfold regsO; rw [List.foldl_append]; rfl
set_option maxRecDepth 100000 in
set_option maxHeartbeats 8000000 in
theorem regs_calls (p : Int) (A : Option Addr) (c : Nat) (l : List S57) (w : World) (hC : Kd.C k57 w A l.length l) (hL : l.length ≤ 1000000) (hL2 : ∀ y ∈ l, y.f0.length ≤ 1000000) (hL3 : ∀ y ∈ l, ∀ x ∈ y.f0, x.f5.length ≤ 1000000) :
    Calls Try.prog 31 #[.agg #[.int .i64 p, .slice A l.length c]] w fun e w' => e = .returned (.int .i64 (regsI p l)) ∧ Below w.heap.size w w' := by
  have hval : regsI p l = regsT (regsO (mx 0 p) (opsOf l)) l := rfl
  generalize regsI p l = rv at hval
  rw [← callsIn_wide (n := 5)]
  have hro : (Fence.wide).round = none := rfl
  have hmix : Try.prog.follows .mixedOrders = true := by kernel_rfl
  have hu52 := Try.underlying52
  have hu60 := Try.underlying60
  have hu57 := Try.underlying57
  have hu55 := Try.underlying55
  have hC' := Aside0.mk hC
  have hL2' := Aside0.mk hL2
  have hL3' := Aside0.mk hL3
  have hval' := Aside0.mk hval
  clear hC hL2 hL3 hval
  obtain ⟨n0, hn0⟩ : ∃ n0, (if (0 : Int) < p then p else 0) = n0 := ⟨_, rfl⟩
  have hn0' : Aside0 (mx 0 p = n0) := ⟨hn0⟩
  obtain ⟨w2, hw2⟩ : ∃ w2, (w.alloc (.cells #[.int .i64 p, .slice A l.length c] 52)).alloc (.cells #[.int .i64 n0] 3) = w2 := ⟨_, rfl⟩
  have hs2 : w2.heap.size = w.heap.size + 2 := by rw [← hw2]; simp
  have hG : RG w p A l.length c n0 w2 := by
    refine ⟨by rw [← hw2]; exact below_alloc (below_alloc (Below.refl _ _) _) _, ?_, ?_⟩
    · rw [← hw2]
      exact (Below.heap_alloc _ _ _ (by simp)).trans (World.alloc_heap_new w _)
    · have := Boxed.new (w.alloc (.cells #[.int .i64 p, .slice A l.length c] 52)) 3 (.int .i64 n0)
      rw [World.size_alloc] at this
      rw [← hw2]; exact this
  obtain ⟨hc0, hc1⟩ := hG.bp.cells
  have hG' := Aside0.mk hG
  clear hG
  refine callsIn_of_wp_marks Try.func31 rfl trivial ?_ hro
  simp only [Try.ntmps31, List.size_toArray, List.length_cons, List.length_nil, Nat.reduceAdd, Nat.reduceSub, Array.replicate_succ, Array.replicate_zero, List.push_toArray, List.append_toArray, List.nil_append, List.cons_append]
  gi_wp2_with ((try refine ⟨trivial, ?_⟩); (gi_at_call 56; refine (callsIn_wide.2 (ops56_calls _ _ _)).mono ?_; rintro e w6 ⟨rfl, rfl⟩))
  obtain ⟨w6, hw6⟩ : ∃ w6, w2.alloc (.cells #[.int .i64 p, .slice A l.length c] 52) = w6 := ⟨_, rfl⟩
  have hG6 : RG w p A l.length c n0 w6 := by rw [← hw6]; exact hG'.out.step (below_alloc (Below.refl _ _) _)
  have hs6 : w6.heap.size = w2.heap.size + 1 := by rw [← hw6]; simp
  have kc6 : w6.cell? ⟨w.heap.size + 2, 1, none⟩ = some (.slice A l.length c) := by rw [← hw6, ← hs2]; simp [go_sem]
  have hbnd : Aside0 (w.heap.size + 3 ≤ w6.heap.size) := ⟨by omega⟩
  rw [hw6]
  clear hw6 hc0 hc1 hw2 hs6 hn0
  have hS := ops80_stops Fence.wide 4 trivial rfl (by omega) w w6 (w.heap.size + 2) A c l hC'.out hG6.below kc6 hL hL2'.out
  have hS' := Aside0.mk hS
  have hG6' := Aside0.mk hG6
  clear hS kc6 hG6
  refine wpIn_rangeFunc_ops (wB := w) (l := l) (t := 4) hro (by omega) (gf := 80) (lb := #[.pointer (some ⟨w.heap.size + 2, 0, none⟩)]) rfl trivial (enters_of Try.func80 (by kernel_rfl) rfl) hS'.out (by have := hbnd.out; omega) (Below.refl _ _)
    (fun pre W => RG w p A l.length c (regsO n0 (pre.map (·.1.x))) W ∧ w6.heap.size ≤ W.heap.size) (fun _ _ _ => False) ?hI ?hIx ?hIs ⟨hG6'.out, Nat.le_refl _⟩ ?assign ?body ?done ?stop
  case hI =>
    rintro pre W W' row ⟨h, hz⟩ hg hr
    have h1 := hbnd.out
    exact ⟨h.abides (B := w6.heap.size) (by omega) hg hr, Nat.le_trans hz hg.size⟩
  case hIx => rintro c0 pre W W' row h; exact h.elim
  case hIs =>
    intro pre W h
    exact h.2
  case assign =>
    intro lp x W K hK
    simp only [List.setIfInBounds_toArray, List.set_cons_zero, List.set_cons_succ, OpV.agg, OpV.obj] at hK ⊢
    gi_wp2
    exact hK
  case stop =>
    rintro D c0 pre W hD hS hX hK
    exact hX.elim
  case body =>
    rintro lp b pre x W hb hbox ⟨hG, hz⟩ hN
    have hb1 := hbnd.out
    have hbd : Below W.heap.size W W.drew := ⟨rfl, rfl, rfl, Nat.le_refl _, fun _ _ => rfl⟩
    have hRd := Aside0.mk (hG.step hbd)
    have hBd := Aside0.mk (hG.step hbd).below
    have hboxd := Aside0.mk (show OpBox W.drew b x.1 from hbox)
    have hkfd : Aside0 (KeepsFrom w6.heap.size W W.drew) := ⟨(KeepsOthers.drew W).from _⟩
    have hbW := Aside0.mk (show w6.heap.size ≤ b from hb)
    obtain ⟨b0, b1, b2, b3, b4, b5⟩ := hboxd.out.cells
    have bn := hRd.out.bn.cell
    have hz' := Aside0.mk hz
    clear hG hz hbox hN hbd hb hb1
    obtain ⟨nn, hnn⟩ : ∃ nn, Aside0 (regsO n0 (pre.map (·.1.x)) = nn) := ⟨_, ⟨rfl⟩⟩
    rw [hnn.out] at bn hRd
    obtain ⟨n1, hn1⟩ : ∃ n1, (if nn < setsI x.1.x then setsI x.1.x else nn) = n1 := ⟨_, rfl⟩
    have hn1' : Aside0 (mx nn (setsI x.1.x) = n1) := ⟨hn1⟩
    simp only [List.setIfInBounds_toArray, List.set_cons_zero, List.set_cons_succ]
    gi_wp2
    refine startR_ (m := 5) #[false, false, false, false, false] (S := fun w' => w'.cell? ⟨b, 0, none⟩ = some (.int .i64 x.1.x.f0) ∧ w'.cell? ⟨b, 1, none⟩ = some (.int .i64 x.1.x.f1) ∧ w'.cell? ⟨b, 2, none⟩ = some (.int .i64 x.1.x.f2) ∧ w'.cell? ⟨b, 3, none⟩ = some (.int .i64 x.1.x.f3) ∧ w'.cell? ⟨b, 4, none⟩ = some (.int .i64 x.1.x.f4) ∧ w'.cell? ⟨b, 5, none⟩ = some (.slice x.1.A x.1.x.f5.length x.1.c) ∧ w'.cell? ⟨w.heap.size + 1, 0, none⟩ = some (.int .i64 nn)) (ds := [4]) hmix (by kernel_rfl) ?hno rfl rfl ⟨b0, b1, b2, b3, b4, b5, bn⟩ (fun hHeld => ?_)
    case hno => rintro ⟨a, w', hh⟩; exact hh
    refine take_ (i := 0) (N := some 17) (v := ?_) (a' := ?_) #[true, false, false, false, false] rfl rfl (by kernel_rfl) (fun _ _ _ h => h) (Or.inl ⟨by rfl, ?_⟩) hHeld ?_ ?_
    rotate_left
    · rintro w' ⟨s0, s1, s2, s3, s4, s5, s6⟩
      go_simp
      try with_reducible rfl
    rotate_left
    · simp only [Act.put, List.setIfInBounds_toArray, List.set_cons_zero, List.set_cons_succ, i64_w, i32_w]
      rfl
    refine take_ (i := 1) (N := some 18) (v := ?_) (a' := ?_) #[true, true, false, false, false] rfl rfl (by kernel_rfl) (fun _ _ _ h => h) (Or.inl ⟨by rfl, ?_⟩) hHeld ?_ ?_
    rotate_left
    · rintro w' ⟨s0, s1, s2, s3, s4, s5, s6⟩
      go_simp
      try with_reducible rfl
    rotate_left
    · simp only [Act.put, List.setIfInBounds_toArray, List.set_cons_zero, List.set_cons_succ, i64_w, i32_w]
      rfl
    refine one_ (i := 2) (N := some 19) #[true, true, true, false, false] rfl rfl (by kernel_rfl) (by decide) (fun K hK => ?_)
    refine call_ 61 _ (by rfl) rfl (by go_simp; rfl) ?_
    refine (sets_calls x.1.x x.1.A x.1.c W.drew (Kd.C_below x.2.1 hBd.out) x.2.2.1).mono ?_
    rintro e w4 ⟨rfl, hb4⟩
    refine ⟨_, rfl, ?_⟩
    have hR4 := Aside0.mk (hRd.out.step hb4)
    have hbox4 := hboxd.out.below hb4 hboxd.out.lt
    have hkf4 := Aside0.mk (hkfd.out.trans (keepsFrom_below hb4 (Nat.le_refl _)))
    have hbox4' := Aside0.mk hbox4
    obtain ⟨q0, q1, q2, q3, q4, q5⟩ := hbox4.cells
    refine hK.out _ _ ⟨q0, q1, q2, q3, q4, q5, hR4.out.bn.cell⟩ (fun hHeld => ?_)
    clear hK K
    refine norm_ (a' := ?_) ?_ ?_
    rotate_left
    · show Act.put _ (some 19) _ = _
      simp only [Act.put, List.setIfInBounds_toArray, List.set_cons_zero, List.set_cons_succ, i64_w, i32_w]
      rfl
    refine pure_ (i := 3) (N := some 20) (v := .int .i64 n1) (a' := ?_) #[true, true, true, true, false] rfl rfl (by kernel_rfl) (fun _ _ _ h => h) (Or.inl ⟨by rfl, ?_⟩) ?_ ?_
    · intro w'
      go_simp
      first | done | (with_reducible rfl) | (simp only [*, decide_true, decide_false, if_true, if_false]; done) | (simp [*]; done) | omega | (unfold wrap64; omega)
    rotate_left
    · simp only [Act.put, List.setIfInBounds_toArray, List.set_cons_zero, List.set_cons_succ, i64_w, i32_w]
      rfl
    refine last_ (i := 4) (N := none) #[true, true, true, true, true] rfl rfl (by kernel_rfl) (by decide) (fun K hK => ?_)
    have z0 := hR4.out.bn.cell
    have z1 := hR4.out.bn.frozen
    refine skip_ (w1 := ?_) (by rfl) rfl ?_ ?_
    rotate_left
    · go_simp
      rfl
    refine hK.out _ _ ?_
    clear hK K
    refine done_ (by kernel_rfl) ?_
    obtain ⟨w5, hw5⟩ : ∃ w5, w4.setCell ⟨w.heap.size + 1, 0, none⟩ (.int .i64 n1) = w5 := ⟨_, rfl⟩
    have k5 : KeepsBut (fun q => q = w.heap.size + 1) w4 w5 := by rw [← hw5]; exact KeepsBut.setCell _ _ _ rfl
    have hR5 := Aside0.mk (show RG w p A l.length c n1 w5 by rw [← hw5]; exact hR4.out.set n1)
    have hkf5 := Aside0.mk (show KeepsFrom w6.heap.size W w5 by rw [← hw5]; exact hkf4.out.trans ((KeepsOthers.setCell w4 _ _).from _))
    have hbox5 : OpBox w5 b x.1 := (k5.block _ hbox4'.out.lt (by have := hbW.out; have := hbnd.out; omega)).trans hbox4'.out
    have hsz5 := Aside0.mk (show W.heap.size ≤ w5.heap.size from Nat.le_trans hb4.size k5.size)
    obtain ⟨q0, q1, q2, q3, q4, q5⟩ := hbox5.cells
    have hlu : (usesI x.1.x).length ≤ 1000002 := uses_len _ (by obtain ⟨y, hy1, hy2⟩ := x.2.2.2; exact hL3'.out y hy1 _ hy2)
    have h62 := uses_calls x.1.x x.1.A x.1.c w5 (Kd.C_below x.2.1 hR5.out.below) x.2.2.1 (by obtain ⟨y, hy1, hy2⟩ := x.2.2.2; exact hL3'.out y hy1 _ hy2)
    rw [hw5]
    clear hw5 k5 hHeld hbox5 hbox4' hR4 hkf4 hb4 hn1
    obtain ⟨us, hus⟩ : ∃ us, Aside0 (usesI x.1.x = us) := ⟨_, ⟨rfl⟩⟩
    rw [hus.out] at h62 hlu
    gi_wp2_with ((try refine ⟨trivial, ?_⟩); gi_at_call 62; refine (CallsIn.inRound lp (callsIn_wide.2 h62)).mono ?_; rintro e w8 ⟨v8, rfl, hv8, hb8⟩; obtain ⟨A8, c8, rfl, hc8, hC8⟩ := Kd.R_reads hv8; have hR8 := Aside0.mk (hR5.out.step hb8); have hkf8 := Aside0.mk (hkf5.out.trans (keepsFrom_below hb8 (Nat.le_refl _))); have hv8' := Aside0.mk hv8; have hw85 := Aside0.mk (hb8.size); clear hv8 hC8 hb8)
    gi_loopw [24] (fun v24 wr => ∃ (i : Nat), v24 = .int .i64 i ∧ i ≤ us.length ∧ Aside0 (RG w p A l.length c ((us.take i).foldl mx n1) wr) ∧ Aside0 (KeepsFrom w6.heap.size W wr ∧ W.heap.size ≤ wr.heap.size ∧ Kd.R (Kd.int .i64) 3 wr w5.heap.size (fun k => k ≠ w.heap.size + 1) (.slice A8 us.length c8) us)) (fun v24 _ => us.length - (RowKit.intOf v24).toNat)
    case atStart =>
      refine ⟨0, rfl, by omega, hR8, ⟨hkf8.out, by have := hsz5.out; have := hw85.out; omega, Kd.R_mono (Kd.R_bound hv8'.out) (fun k hk e => by have := hk.2.1; have := hR5.out.bn.lt; omega)⟩⟩
    case round =>
      obtain ⟨i, rfl, hi, hRr, hSr⟩ := hrel
      by_cases hlt : i < us.length
      · have hltb : decide ((i : Int) < (us.length : Int)) = true := decide_eq_true (by omega)
        have hp0 : (0 : Int) ≤ (i : Int) := by omega
        have hq0 : (i : Int) < (us.length : Int) := by omega
        obtain ⟨ad, rfl, hc⟩ := Kd.at_int (Kd.R_reads' hSr.out.2.2).2.2 (i : Int) hp0 hq0
        rw [Int.toNat_natCast] at hc
        have hx : Aside0 (us[i] = rd us (i : Int)) := ⟨by unfold rd; simp [List.getD_eq_getElem?_getD, hlt]⟩
        generalize rd us (i : Int) = u at hc hx
        obtain ⟨mm, hmm⟩ : ∃ mm, Aside0 ((us.take i).foldl mx n1 = mm) := ⟨_, ⟨rfl⟩⟩
        rw [hmm.out] at hRr
        obtain ⟨m1, hm1⟩ : ∃ m1, (if mm < u then u else mm) = m1 := ⟨_, rfl⟩
        have hm1' : Aside0 (mx mm u = m1) := ⟨hm1⟩
        have z0 := hRr.out.bn.cell
        have z1 := hRr.out.bn.frozen
        obtain ⟨w9, hw9⟩ : ∃ w9, wr.setCell ⟨w.heap.size + 1, 0, none⟩ (.int .i64 m1) = w9 := ⟨_, rfl⟩
        have hR9 := Aside0.mk (show RG w p A l.length c m1 w9 by rw [← hw9]; exact hRr.out.set m1)
        have hS9 : Aside0 (KeepsFrom w6.heap.size W w9 ∧ W.heap.size ≤ w9.heap.size ∧ Kd.R (Kd.int .i64) 3 w9 w5.heap.size (fun k => k ≠ w.heap.size + 1) (.slice (some ad) us.length c8) us) := by
          rw [← hw9]
          refine ⟨hSr.out.1.trans ((KeepsOthers.setCell wr _ _).from _), by simpa using hSr.out.2.1, Kd.R_step hSr.out.2.2 (fun k hk hk2 => ?_)⟩
          exact (KeepsBut.setCell (X := fun q => q = w.heap.size + 1) wr _ _ rfl).block k hk2 hk
        clear hSr hRr
        gi_wp2
        go_roundw
        case rel => exact ⟨i + 1, by go_num, by omega, ⟨by rw [List.take_add_one, List.getElem?_eq_getElem hlt, hx.out, List.foldl_append, hmm.out]; show RG w p A l.length c (mx mm u) w9; rw [hm1'.out]; exact hR9.out⟩, hS9⟩
        case measure => simp [RowKit.intOf]; omega
      · have hltb : decide ((i : Int) < (us.length : Int)) = false := decide_eq_false (by omega)
        gi_wp2
        have h1 := hSr.out
        have h2 := hRr.out
        rw [List.take_of_length_le (by omega)] at h2
        refine ⟨h1.1, below_two (W := W) (by have := hBd.out; exact ⟨this.os, this.tape, this.output, this.size, this.block⟩) h2.below h1.2.1, ?_, Nat.le_trans hz'.out h1.2.1⟩
        rw [List.map_append, List.map_singleton, regsO_snoc, hnn.out, hn1'.out, hus.out]
        exact h2
  case done =>
    rintro D xs W hD hS ⟨hG, hz⟩ hK
    rw [hS] at hG
    obtain ⟨hc0, hc1⟩ := hG.bp.cells
    have hst := Aside0.mk (show RG w p A l.length c (regsO n0 (opsOf l)) W ∧ W.heap[D]? = some (.deferred (some [])) from ⟨hG, hK⟩)
    clear hG hS hK hz
    gi_wp2
    gi_loopw [35] (fun v35 wr => ∃ (i : Nat), v35 = .int .i64 i ∧ i ≤ l.length ∧ Aside0 (RG w p A l.length c (regsT (regsO n0 (opsOf l)) (l.take i)) wr ∧ wr.heap[D]? = some (.deferred (some [])))) (fun v35 _ => l.length - (RowKit.intOf v35).toNat)
    case atStart => exact ⟨0, rfl, by omega, hst⟩
    case round =>
      obtain ⟨i, rfl, hi, hr⟩ := hrel
      clear hst hc0 hc1
      by_cases hl : i < l.length
      · have hltb : decide ((i : Int) < (l.length : Int)) = true := decide_eq_true (by omega)
        have hp0 : (0 : Int) ≤ (i : Int) := by omega
        have hq0 : (i : Int) < (l.length : Int) := by omega
        obtain ⟨ad, A0, c0, rfl, g0, g1, g2, g3, g4, hc0, hCo⟩ := at_T57 (Kd.C_below hC'.out hr.out.1.below) (i : Int) hp0 hq0
        rw [Int.toNat_natCast] at g0 g1 g2 g3 g4
        have hx : Aside0 (l[i]? = some (rd_T57 l (i : Int))) := ⟨by unfold rd_T57; rw [List.getElem?_eq_getElem hl]; simp [List.getD_eq_getElem?_getD, hl]⟩
        clear hCo hc0
        generalize rd_T57 l (i : Int) = y at g0 g1 g2 g3 g4 hx
        obtain ⟨nn, hnn⟩ : ∃ nn, Aside0 (regsT (regsO n0 (opsOf l)) (l.take i) = nn) := ⟨_, ⟨rfl⟩⟩
        rw [hnn.out] at hr
        obtain ⟨wa, hwa⟩ : ∃ wa, wr.alloc (.cells #[.slice A0 y.f0.length c0, .int .i64 y.f1.f0, .int .i64 y.f1.f1, .int .i64 y.f1.f2, .int .i64 y.f1.f3] 57) = wa := ⟨_, rfl⟩
        have hra := Aside0.mk (show RG w p (some ad) l.length c nn wa ∧ wa.heap[D]? = some (.deferred (some [])) ∧ D < wa.heap.size from by
          rw [← hwa]
          have hDl := (Array.getElem?_eq_some_iff.1 hr.out.2).1
          exact ⟨hr.out.1.step (below_alloc (Below.refl _ _) _), (Below.heap_alloc _ _ _ hDl).trans hr.out.2, by simp; omega⟩)
        obtain ⟨us, hus⟩ : ∃ us, Aside0 (tusesI y.f1 = us) := ⟨_, ⟨rfl⟩⟩
        have hlu : us.length ≤ 1 := by rw [← hus.out]; exact tuses_len _
        have h63 := code_TermUses.calls y.f1.f0 y.f1.f1 y.f1.f2 y.f1.f3 us wa (by rw [← hus.out]; exact tuses_eq y.f1)
        have z1 : wa.cell? ⟨wr.heap.size, 1, none⟩ = some (.int .i64 y.f1.f0) := by rw [← hwa]; simp [go_sem]
        have z2 : wa.cell? ⟨wr.heap.size, 2, none⟩ = some (.int .i64 y.f1.f1) := by rw [← hwa]; simp [go_sem]
        have z3 : wa.cell? ⟨wr.heap.size, 3, none⟩ = some (.int .i64 y.f1.f2) := by rw [← hwa]; simp [go_sem]
        have z4 : wa.cell? ⟨wr.heap.size, 4, none⟩ = some (.int .i64 y.f1.f3) := by rw [← hwa]; simp [go_sem]
        clear hr
        gi_wp2_with ((try refine ⟨trivial, ?_⟩); gi_at_call 63; refine (callsIn_wide.2 h63).mono ?_; rintro e w8 ⟨v8, rfl, hv8, hb8⟩; obtain ⟨A8, c8, rfl, hc8, hC8⟩ := Kd.R_reads hv8; have hR8 := Aside0.mk (show RG w p (some ad) l.length c nn w8 ∧ w8.heap[D]? = some (.deferred (some [])) from ⟨hra.out.1.step hb8, (hb8.block D hra.out.2.2).trans hra.out.2.1⟩); have hv8' := Aside0.mk hv8; clear hv8 hC8 hb8)
        gi_loopw [43] (fun v43 wr => ∃ (j : Nat), v43 = .int .i64 j ∧ j ≤ us.length ∧ Aside0 (RG w p (some ad) l.length c ((us.take j).foldl mx nn) wr ∧ wr.heap[D]? = some (.deferred (some []))) ∧ Aside0 (Kd.R (Kd.int .i64) 3 wr wa.heap.size (fun k => k ≠ w.heap.size + 1) (.slice A8 us.length c8) us)) (fun v43 _ => us.length - (RowKit.intOf v43).toNat)
        case atStart =>
          refine ⟨0, rfl, by omega, hR8, ⟨Kd.R_mono (Kd.R_bound hv8'.out) (fun k hk e => by have := hk.2.1; have := hra.out.1.bn.lt; omega)⟩⟩
        case round =>
          obtain ⟨j, rfl, hj, hRr, hSr⟩ := hrel
          by_cases hlt : j < us.length
          · have hltb : decide ((j : Int) < (us.length : Int)) = true := decide_eq_true (by omega)
            have hp0 : (0 : Int) ≤ (j : Int) := by omega
            have hq0 : (j : Int) < (us.length : Int) := by omega
            obtain ⟨ad8, rfl, hc⟩ := Kd.at_int (Kd.R_reads' hSr.out).2.2 (j : Int) hp0 hq0
            rw [Int.toNat_natCast] at hc
            have hx2 : Aside0 (us[j] = rd us (j : Int)) := ⟨by unfold rd; simp [List.getD_eq_getElem?_getD, hlt]⟩
            generalize rd us (j : Int) = u at hc hx2
            obtain ⟨mm, hmm⟩ : ∃ mm, Aside0 ((us.take j).foldl mx nn = mm) := ⟨_, ⟨rfl⟩⟩
            rw [hmm.out] at hRr
            obtain ⟨m1, hm1⟩ : ∃ m1, (if mm < u then u else mm) = m1 := ⟨_, rfl⟩
            have hm1' : Aside0 (mx mm u = m1) := ⟨hm1⟩
            have y0 := hRr.out.1.bn.cell
            have y1 := hRr.out.1.bn.frozen
            obtain ⟨w9, hw9⟩ : ∃ w9, wr.setCell ⟨w.heap.size + 1, 0, none⟩ (.int .i64 m1) = w9 := ⟨_, rfl⟩
            have k9 : KeepsBut (fun q => q = w.heap.size + 1) wr w9 := by rw [← hw9]; exact KeepsBut.setCell _ _ _ rfl
            have hR9 := Aside0.mk (show RG w p (some ad) l.length c m1 w9 ∧ w9.heap[D]? = some (.deferred (some [])) from ⟨by rw [← hw9]; exact hRr.out.1.set m1, (k9.block D (Array.getElem?_eq_some_iff.1 hRr.out.2).1 (by have := hbnd.out; omega)).trans hRr.out.2⟩)
            have hS9 : Aside0 (Kd.R (Kd.int .i64) 3 w9 wa.heap.size (fun k => k ≠ w.heap.size + 1) (.slice (some ad8) us.length c8) us) := ⟨Kd.R_step hSr.out (fun k hk hk2 => k9.block k hk2 hk)⟩
            clear hSr hRr k9
            gi_wp2
            go_roundw
            case rel => exact ⟨j + 1, by go_num, by omega, ⟨by rw [List.take_add_one, List.getElem?_eq_getElem hlt, hx2.out, List.foldl_append, hmm.out]; show RG w p (some ad) l.length c (mx mm u) w9 ∧ _; rw [hm1'.out]; exact hR9.out⟩, hS9⟩
            case measure => simp [RowKit.intOf]; omega
          · have hltb : decide ((j : Int) < (us.length : Int)) = false := decide_eq_false (by omega)
            gi_wp2
            go_roundw
            case rel =>
              refine ⟨i + 1, by go_num, by omega, ⟨?_, hRr.out.2⟩⟩
              have h2 := hRr.out.1
              rw [List.take_of_length_le (by omega)] at h2
              rw [List.take_add_one, hx.out]
              unfold regsT at hnn ⊢
              rw [List.foldl_append, hnn.out]
              show RG w p _ l.length c ((tusesI y.f1).foldl mx nn) _
              rw [hus.out]
              exact h2
            case measure => simp [RowKit.intOf]; omega
      · have hltb : decide ((i : Int) < (l.length : Int)) = false := decide_eq_false (by omega)
        have h0 := hr.out.1
        rw [List.take_of_length_le (by omega)] at h0
        have hv : regsT (regsO n0 (opsOf l)) l = rv := by rw [hval'.out, hn0'.out]
        rw [hv] at h0
        have z0 := h0.bn.cell
        have h0' := Aside0.mk h0
        clear h0 hv
        gi_wp2
        refine ⟨by simp, .inl ⟨_, _, rfl, run_takeDeferred hr.out.2, ?_⟩⟩
        refine ⟨.int .i64 rv, by simp [results, Try.f31, go_sem], rfl, ?_⟩
        exact h0'.out.below.trans ((KeepsBut.putObj (X := fun q => q = D) wr (.deferred none) rfl).below h0'.out.below.size (fun q hq e => by have := hbnd.out; have := hD; omega))
end Go.Proofs.Yteeapfmgdlcgfaa.A


namespace Go.Proofs.Yteeapfmgdlcgfaa.A
open Go.RowKit Go.Proofs.YteeapfmgdlcgfaaW.PrintWords Go.Proofs.YteeapfmgdlcgfaaW.PrintLast Go.Proofs.YteeapfmgdlcgfaaW.PrintMore
attribute [local go_sem] max2_int min2_int max_two min_two max_three min_three max_four min_four   -- for this text's walks alone
set_option linter.unusedVariables false
set_option linter.unusedSimpArgs false

def points_variable.f (a0 : Int) (a1 : Int) : Option (Int) := some (wrap64 ((wrap64 (a0 * 4097)) + a1))
set_option maxHeartbeats 8000000 in
set_option maxRecDepth 100000 in
theorem points_variable.calls (a0 : Int) (a1 : Int) (r : Int) (w : World) (h : points_variable.f a0 a1 = some r) :
    Calls Try.prog 50 #[.int .i64 a0, .int .i64 a1] w fun e w' => e = .returned (.int .i64 r) ∧ Drawn0 w w' := by
  have H : (some (wrap64 ((wrap64 (a0 * 4097)) + a1))) = some r := h
  clear h
  obtain rfl := Option.some.inj H
  go_enter Try.func50, Try.ntmps50
  go_wp2
  go_ret
  exact ⟨by first | rfl | (simp; done) | (simp [*]; done), by repeat (first | exact Drawn0.refl _ | apply Drawn0.step)⟩

end Go.Proofs.Yteeapfmgdlcgfaa.A


namespace Go.Proofs.Yteeapfmgdlcgfaa.A
open Go.RowKit Go.Maps Go.Sort Go.Shelf Go.Proofs.YteeapfmgdlcgfaaW.PrintWords Go.Proofs.YteeapfmgdlcgfaaW.PrintLast
set_option linter.unusedVariables false
set_option linter.unusedSimpArgs false

theorem Uni.pos {w : World} {p bu bs nu N : Nat} {U Z : Int → Option Int} (h : Uni κI w p bu bs nu N U Z) {a : Int} (ha : Eq2 U a a) : 1 ≤ N := by
  obtain ⟨D, hown, hR, hsz, _⟩ := h.ms
  obtain ⟨n2, m2, l2⟩ := intKeys_of (s := fun k => (Z k).isSome) hR.has hown
  obtain ⟨r, d, e, h1, h2⟩ := ha
  have := List.Nodup.length_le_of_subset (l₁ := [r]) (l₂ := intKeys D) (List.pairwise_singleton _ _) (fun y hy => by
    rw [List.mem_singleton.1 hy]
    exact (m2 r).2 ((h.F.z r).2 h1.root))
  simp at this
  omega
theorem UN.pos {w : World} {p bu bs nu N : Nat} {E : Int → Int → Prop} (h : UN κI w p bu bs nu N E) {a : Int} (ha : E a a) : 1 ≤ N := by
  obtain ⟨U, Z, h1, h2⟩ := h
  exact h1.pos ((h2 a a).2 ha)
/-- all classes, each once -/
structure AllL (E : Int → Int → Prop) (N nu : Nat) (rows : List (List Int)) : Prop where
  len : rows.length = N
  row : ∀ row ∈ rows, ∃ m tl, row = m :: tl ∧ Rising row ∧ ∀ y, y ∈ row ↔ E y m
  sum : (rows.map List.length).sum = nu
theorem AllE.all {w : World} {p bu bs nu N : Nat} {U Z : Int → Option Int} (h : Uni κI w p bu bs nu N U Z) {xs : List Ent} (hx : AllE (Eq2 U) N xs) : AllL (Eq2 U) N nu (xs.map (·.row)) := by
  refine ⟨by rw [List.length_map]; exact hx.len, fun row hr => ?_, ?_⟩
  · obtain ⟨x, hm, rfl⟩ := List.mem_map.1 hr
    obtain ⟨tl, ht⟩ := (hx.row x hm).head
    exact ⟨x.m, tl, ht, (hx.row x hm).rising, (hx.row x hm).mem⟩
  · rw [← List.length_flatten]
    obtain ⟨D, hown, hR, hsz, _⟩ := h.mu
    obtain ⟨n2, m2, l2⟩ := intKeys_of (s := fun k => (U k).isSome) hR.has hown
    have hnd : (xs.map (·.row)).flatten.Nodup := by
      show List.Pairwise _ _
      rw [List.pairwise_flatten]
      refine ⟨fun l hl => ?_, ?_⟩
      · obtain ⟨x, hm, rfl⟩ := List.mem_map.1 hl
        exact (hx.row x hm).rising.imp (fun h e => by omega)
      · refine List.pairwise_map.2 ((List.pairwise_map.1 hx.rising).imp_of_mem fun {x y} hxm hym hlt z hz z' hz' e => ?_)
        subst e
        have ex := hx.row x hxm
        have ey := hx.row y hym
        obtain ⟨tl, ht⟩ := ey.head
        have h1 : Eq2 U x.m y.m := ((ex.mem z).1 hz).symm.trans ((ey.mem z).1 hz')
        have h2 : x.m ∈ y.row := (ey.mem x.m).2 h1
        have hr := ey.rising
        rw [ht] at hr h2
        rcases List.mem_cons.1 h2 with e | e
        · omega
        · have := (List.pairwise_cons.1 hr).1 _ e
          omega
    have hmem : ∀ y, y ∈ (xs.map (·.row)).flatten ↔ (U y).isSome = true := fun y => by
      rw [List.mem_flatten]
      constructor
      · rintro ⟨l, hl, hy⟩
        obtain ⟨x, hm, rfl⟩ := List.mem_map.1 hl
        have e := ((hx.row x hm).mem y).1 hy
        exact (Eq2.self_iff h.F).1 (e.trans e.symm)
      · intro hy
        obtain ⟨x, hm, e⟩ := hx.cover y ((Eq2.self_iff h.F).2 hy)
        exact ⟨x.row, List.mem_map.2 ⟨x, hm, rfl⟩, ((hx.row x hm).mem y).2 e⟩
    have h1 := List.Nodup.length_le_of_subset hnd (l₂ := intKeys D) (fun y hy => (m2 y).2 ((hmem y).1 hy))
    have h2 := List.Nodup.length_le_of_subset n2 (l₂ := (xs.map (·.row)).flatten) (fun y hy => (hmem y).2 ((m2 y).1 hy))
    omega
theorem AllL.congr {E E' : Int → Int → Prop} {N nu : Nat} {rows : List (List Int)} (h : AllL E N nu rows) (he : ∀ x y, E x y ↔ E' x y) : AllL E' N nu rows :=
  ⟨h.len, fun row hr => by obtain ⟨m, tl, h1, h2, h3⟩ := h.row row hr; exact ⟨m, tl, h1, h2, fun y => (h3 y).trans (he y m)⟩, h.sum⟩
theorem RowsV.keep {W W' : World} {base : Nat} {v : Value} {rows : List (List Int)} (h : RowsV W base v rows) {X : Nat → Prop} (hk : KeepsBut X W W') (hx : ∀ r, base ≤ r → ¬ X r) : RowsV W' base v rows := by
  obtain ⟨hds, e1, e2, e3⟩ := h
  exact ⟨hds, e1, own_keep e2 hk hx, fun i h row g1 g2 => ⟨(e3 i h row g1 g2).1, own_keep (e3 i h row g1 g2).2 hk hx⟩⟩
theorem RowsV.at_ {W : World} {base : Nat} {A : Option Addr} {n c : Nat} {rows : List (List Int)} (h : RowsV W base (.slice A n c) rows) (hn : n = rows.length) {i : Nat} {row : List Int} (hi : rows[i]? = some row) (hne : row ≠ []) :
    ∃ (ad ar : Addr) (cr : Nat), A = some ad ∧ W.cell? (ad.add i) = some (.slice (some ar) row.length cr) ∧ ∀ (j : Nat) (x : Int), row[j]? = some x → W.cell? (ar.add j) = some (.int .i64 x) := by
  subst hn
  obtain ⟨hds, e1, e2, e3⟩ := h
  have hil : i < rows.length := (List.getElem?_eq_some_iff.1 hi).1
  obtain ⟨k, hk⟩ : ∃ k, hds[i]? = some k := ⟨_, List.getElem?_eq_getElem (by omega)⟩
  obtain ⟨ad, rfl, hc⟩ := own_at e2 (j := i) (x := k.val) (by rw [List.getElem?_map, hk]; rfl) hil
  obtain ⟨f1, f2⟩ := e3 i k row hk hi
  refine ⟨ad, ⟨k.g, 0, none⟩, k.c, rfl, by rw [hc]; unfold Hd.val; rw [f1], fun j x hj => ?_⟩
  unfold Hd.val at f2
  rw [f1] at f2
  obtain ⟨ar, g1, g2⟩ := own_at f2 (j := j) (x := .int .i64 x) (by rw [List.getElem?_map, hj]; rfl) (List.getElem?_eq_some_iff.1 hj).1
  obtain rfl := Option.some.inj g1
  exact g2
end Go.Proofs.Yteeapfmgdlcgfaa.A


namespace Go.Proofs.Yteeapfmgdlcgfaa.A
open Go.RowKit Go.Maps Go.Proofs.YteeapfmgdlcgfaaW.PrintWords Go.Proofs.YteeapfmgdlcgfaaW.PrintLast
set_option linter.unusedVariables false
set_option linter.unusedSimpArgs false

/-- what the finder leaves alone: all but its own blocks -/
structure KF (q bu bs base : Nat) (W W' : World) : Prop where
  os : W'.os = W.os
  tape : W'.tape = W.tape
  output : W'.output = W.output
  size : W.heap.size ≤ W'.heap.size
  block : ∀ k, k < W.heap.size → k ≠ q → k ≠ bu → k ≠ bs → (k < base ∨ ∀ cells, W.heap[k]? ≠ some (.cells cells 28 (0, 0))) → W'.heap[k]? = W.heap[k]?
theorem KF.refl (q bu bs base : Nat) (W : World) : KF q bu bs base W W := ⟨rfl, rfl, rfl, Nat.le_refl _, fun _ _ _ _ _ _ => rfl⟩
theorem KF.trans {q bu bs base : Nat} {A B C : World} (h : KF q bu bs base A B) (k : KF q bu bs base B C) : KF q bu bs base A C :=
  ⟨k.os.trans h.os, k.tape.trans h.tape, k.output.trans h.output, Nat.le_trans h.size k.size, fun i hi h1 h2 h3 h4 => by
    have e := h.block i hi h1 h2 h3 h4
    refine (k.block i (Nat.lt_of_lt_of_le hi h.size) h1 h2 h3 ?_).trans e
    rcases h4 with h4 | h4
    · exact .inl h4
    · exact .inr fun cells hc => h4 cells (e.symm.trans hc)⟩
theorem KF.of_below {q bu bs base : Nat} {W W' : World} (h : Below W.heap.size W W') : KF q bu bs base W W' := ⟨h.os, h.tape, h.output, h.size, fun k hk _ _ _ _ => h.block k hk⟩
theorem KF.of_keeps {q bu bs base : Nat} {W W' : World} (h : KeepsBut (UX bu bs) W W') : KF q bu bs base W W' := ⟨h.os, h.tape, h.output, h.size, fun k hk h1 h2 h3 _ => h.block k hk (by rintro (e | e); exact h2 e; exact h3 e)⟩
theorem KF.below {q bu bs base n : Nat} {w W W' : World} (h : Below n w W) (k : KF q bu bs base W W') (hn : n ≤ W.heap.size) (h1 : n ≤ q) (h2 : n ≤ bu) (h3 : n ≤ bs) (h4 : n ≤ base) : Below n w W' :=
  h.trans ⟨k.os, k.tape, k.output, k.size, fun i hi => k.block i (by omega) (by omega) (by omega) (by omega) (.inl (by omega))⟩
theorem KF.boxed {q bu bs base g : Nat} {t : TypeId} {v : Value} {W W' : World} (k : KF q bu bs base W W') (h : Boxed W g t v) (ht : t ≠ 28) (h1 : g ≠ q) (h2 : g ≠ bu) (h3 : g ≠ bs) : Boxed W' g t v :=
  (k.block g h.lt h1 h2 h3 (.inr fun cells hc => by rw [show W.heap[g]? = _ from h] at hc; cases hc; exact ht rfl)).trans h
theorem KF.opbox {q bu bs base b : Nat} {o : OpV} {W W' : World} (k : KF q bu bs base W W') (h : OpBox W b o) (h1 : b ≠ q) (h2 : b ≠ bu) (h3 : b ≠ bs) : OpBox W' b o :=
  (k.block b h.lt h1 h2 h3 (.inr fun cells hc => by rw [show W.heap[b]? = _ from h] at hc; cases hc)).trans h

/-- the finder: its classes and its cells -/
structure FS (W : World) (q p bu bs base nu N : Nat) (E : Int → Int → Prop) (cs : List S28) : Prop where
  un : UN κI W p bu bs nu N E
  ex : ∃ v, W.heap[q]? = some (.cells #[.pointer (some ⟨p, 0, none⟩), v] 96 (0, 0)) ∧ Kd.R k28 28 W base (fun _ => True) v cs
  qp : q ≠ p
  qu : q ≠ bu
  qs : q ≠ bs
  ql : q < base
  pl : p < base
  ul : bu < base
  sl : bs < base
  sz : base ≤ W.heap.size
section
variable {W W' : World} {q p bu bs base nu N : Nat} {E : Int → Int → Prop} {cs : List S28}
theorem FS.step (h : FS W q p bu bs base nu N E cs) (hb : Below W.heap.size W W') : FS W' q p bu bs base nu N E cs := by
  obtain ⟨v, h1, h2⟩ := h.ex
  refine ⟨h.un.keep (keeps_below hb (fun _ => False)) id id id, ⟨v, (hb.block q (Array.getElem?_eq_some_iff.1 h1).1).trans h1, Kd.R_below h2 hb⟩, h.qp, h.qu, h.qs, h.ql, h.pl, h.ul, h.sl, Nat.le_trans h.sz hb.size⟩
theorem FS.turn (h : FS W q p bu bs base nu N E cs) {N' : Nat} {E' : Int → Int → Prop} (hu : UN κI W' p bu bs nu N' E') (hk : KeepsBut (UX bu bs) W W') : FS W' q p bu bs base nu N' E' cs := by
  obtain ⟨v, h1, h2⟩ := h.ex
  have hX : ∀ k, k = q ∨ base ≤ k → ¬ UX bu bs k := by
    have := h.qu; have := h.qs; have := h.ul; have := h.sl
    rintro k hk (e | e) <;> omega
  refine ⟨hu, ⟨v, (hk.block q (Array.getElem?_eq_some_iff.1 h1).1 (hX q (.inl rfl))).trans h1, Kd.R_mono (Kd.R_step (Kd.R_bound h2) (fun k hk1 hk2 => hk.block k hk2 (hX k (.inr hk1.2.1)))) (fun _ _ => trivial)⟩, h.qp, h.qu, h.qs, h.ql, h.pl, h.ul, h.sl, Nat.le_trans h.sz hk.size⟩
theorem FS.cellp (h : FS W q p bu bs base nu N E cs) : W.cell? ⟨q, 0, none⟩ = some (.pointer (some ⟨p, 0, none⟩)) := by
  obtain ⟨v, h1, _⟩ := h.ex
  simp [World.cell?, h1]
theorem FS.cells (h : FS W q p bu bs base nu N E cs) : ∃ A c, W.cell? ⟨q, 1, none⟩ = some (.slice A cs.length c) ∧ W.frozen? ⟨q, 1, none⟩ = false ∧ cs.length ≤ c ∧ Kd.C k28 W A cs.length cs := by
  obtain ⟨v, h1, h2⟩ := h.ex
  obtain ⟨A, c, rfl, hc, hC⟩ := Kd.R_reads h2
  exact ⟨A, c, by simp [World.cell?, h1], by simp [World.frozen?, h1], hc, hC⟩
end
theorem addE_self {E : Int → Int → Prop} {a : Int} (h : E a a) (x y : Int) : addE E a x y ↔ E x y := by
  unfold addE
  constructor
  · rintro (g | ⟨rfl, rfl⟩)
    · exact g
    · exact h
  · exact .inl
theorem join_fs {q p bu bs base nu N : Nat} {E : Int → Int → Prop} {cs : List S28} (W : World) (h : FS W q p bu bs base nu N E cs) {a b : Int} (ha : κI.wf a) (hb : κI.wf b) (hEa : E a a) (hEb : E b b) (hn : nu ≤ 100000) (hN : N ≤ 100000) :
    Calls Try.prog 12 #[.pointer (some ⟨p, 0, none⟩), .int .i64 a, .int .i64 b] W fun e w' => ∃ (r : Bool) (N' : Nat), e = .returned (.bool r) ∧ (r = true ↔ ¬ E a b) ∧ N' ≤ N ∧ (r = true → N' < N) ∧ FS w' q p bu bs base nu N' (joinE E a b) cs ∧ KeepsBut (UX bu bs) W w' := by
  refine (join_un W h.un ha hb hn hN).mono ?_
  rintro e w' ⟨ra, rb, r, rfl, h1, h2, h3, h4, h5⟩
  have hra : ra = false := by
    cases ra with
    | false => rfl
    | true => exact absurd hEa (h1.1 rfl)
  have hrb : rb = false := by
    cases rb with
    | false => rfl
    | true => exact absurd ((addE_self hEa _ _).2 hEb) (h2.1 rfl)
  have hE : ∀ x y, addE (addE E a) b x y ↔ E x y := fun x y => (addE_self (E := addE E a) ((addE_self hEa _ _).2 hEb) x y).trans (addE_self hEa x y)
  subst hra hrb
  have hp := h.un.pos hEa
  refine ⟨r, N - r.toNat, rfl, h3.trans (not_congr (hE a b)), by omega, fun hr => by subst hr; simp; omega, ?_, h5⟩
  refine h.turn (UN.congr (by simpa using h4) fun x y => ?_) h5
  unfold joinE
  rw [hE, hE, hE, hE, hE]

def varI (f r : Int) : Int := wrap64 (wrap64 (f * 4097) + r)
theorem varI_wf (f r : Int) : κI.wf (varI f r) := wrap64_wf _
theorem var_calls (f r : Int) (w : World) : Calls Try.prog 50 #[.int .i64 f, .int .i64 r] w fun e w' => e = .returned (.int .i64 (varI f r)) ∧ Below w.heap.size w w' := by
  refine (points_variable.calls f r _ w rfl).mono ?_
  rintro e w' ⟨rfl, hd⟩
  exact ⟨rfl, drawn0_below hd _⟩
theorem var75_calls (f r : Int) (g : Nat) (w : World) (hg : w.cell? ⟨g, 0, none⟩ = some (.int .i64 f)) : Calls Try.prog 75 #[.int .i64 r, .pointer (some ⟨g, 0, none⟩)] w fun e w' => e = .returned (.int .i64 (varI f r)) ∧ Below w.heap.size w w' := by
  go_enter Try.func75, Try.ntmps75
  go_wp2_with (go_at_call 50; refine (points_variable.calls f r _ _ rfl).mono ?_; rintro e w' ⟨rfl, ⟨nd, rfl⟩⟩)
  go_ret
  exact ⟨rfl, by repeat (first | exact Below.refl _ _ | apply pw_below_drewN)⟩
/-- what an operation joins -/
def pairsOf (f : Int) (x : S60) : List (Int × Int) :=
  if x.f0 = 3 then [(varI f x.f1, varI f x.f2)]
  else if x.f0 = 2 then (if x.f4 = 1 ∨ x.f4 = 2 then [(varI f x.f1, varI f x.f2), (varI f x.f1, varI f x.f3)] else [])
  else if x.f0 = 7 then (varI f x.f1, varI x.f4 0) :: x.f5.zipIdx.map fun rk => (varI f rk.1, varI x.f4 (rk.2 + 1))
  else []
/-- the cells that an operation names -/
def cellsOf (f : Int) (x : S60) : List S28 :=
  if x.f0 = 4 then [⟨varI f x.f2, varI f x.f1⟩] else if x.f0 = 5 then [⟨varI f x.f2, varI f x.f3⟩] else []
def joinsE (E : Int → Int → Prop) (ps : List (Int × Int)) : Int → Int → Prop := ps.foldl (fun E ab => joinE E ab.1 ab.2) E
theorem joinsE_sub {E : Int → Int → Prop} (ps : List (Int × Int)) {x y : Int} (h : E x y) : joinsE E ps x y := by
  induction ps generalizing E with
  | nil => exact h
  | cons a tl ih => exact ih (.inl h)
theorem joinsE_append (E : Int → Int → Prop) (ps qs : List (Int × Int)) : joinsE E (ps ++ qs) = joinsE (joinsE E ps) qs := List.foldl_append ..
end Go.Proofs.Yteeapfmgdlcgfaa.A

