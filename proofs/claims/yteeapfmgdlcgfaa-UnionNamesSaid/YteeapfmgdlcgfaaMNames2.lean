/- Parts of the proof, in the order in which they rest on one another. -/
import Derived.Test.YteeapfmgdlcgfaaMNames1
import Derived.Below
import Derived.Deep.Draws
import Derived.Deep.AppendLies
import Derived.Maps.AppendAt
import Derived.OwnWalk
import Derived.Laws.BytesArg
import Derived.Laws.MakeOwn
import Derived.Laws.OwnMore
import Derived.Deep.OwnRows
import Derived.Tactics
import Derived.Lib.ConvBytes
import Derived.Laws.Slices
import Derived.WalkKit
import Derived.KernelRfl
import Derived.RowKit3
import Derived.Deep.LoopGhost
import Derived.Deep.QuietTactic
import Derived.BigQuiet
import Derived.WideLaws
import Derived.Deep.DeepCutAuto
import Derived.Deep.CutBlock
import Derived.Deep.RegionHeld3
import Derived.Laws.Rows
import Derived.Lib.AppendStr
import Derived.ArgAppend
import Derived.Laws.IdiomCopy
import Derived.RowKit
import Derived.OrdersHeld
import Derived.Laws.BitsLemmas
import Derived.Laws.StructEq
import Derived.Test.YteeapfmgdlcgfaaProg
import Derived.OpenShut
import Derived.Deep.Slices
import Derived.ChangeArms
import Derived.Maps.Own
import Derived.Maps.OwnOps
import Derived.Maps.OwnSet
import Derived.Maps.Views
import Derived.WideKeyEntry
import Derived.RangeFuncWrites
import Derived.Lib.SlKeysI
import Derived.Maps.StringElems
import Derived.Sort.MapsRangeIn
import Derived.StringKeys
import Derived.Shelf.SlIter.Stops
import Derived.Shelf.SlIterI.Stops
import Derived.Shelf.SlIterI.Nil
import Derived.Shelf.SortM.Plain
import Derived.Shelf.SortM.SortNone
import Derived.Shelf.SlMaps.Clone
import Derived.Ground.GgzProg
import Derived.Ground.SlgmProg
import Derived.Ground.SlmcProg
import Derived.Shelf.SlGeneric
import Derived.RangeFuncLeaves
import Derived.RangeFuncCalls
import Derived.RangeFuncBox
import Derived.OwnWalkIn
import Derived.TacticsInMore
import Derived.LoopNIn
import Derived.LoopIn
import Derived.Maps.OwnIn
import Derived.Shelf.RegionOpen
namespace Go.Proofs.Yteeapfmgdlcgfaa.A
open Go.RowKit Go.Proofs.YteeapfmgdlcgfaaW.PrintWords Go.Proofs.YteeapfmgdlcgfaaW.PrintLast Go.Proofs.YteeapfmgdlcgfaaW.PrintMore
attribute [local go_sem] max2_int min2_int max_two min_two max_three min_three max_four min_four   -- for this text's walks alone
set_option linter.unusedVariables false
set_option linter.unusedSimpArgs false



def errW : Option Int → Value
  | none => .nilIface
  | some c => .iface 0 (.int .i64 c)
theorem errW_none : errW none = .nilIface := rfl
theorem errW_some (c : Int) : errW (some c) = .iface 0 (.int .i64 c) := rfl

theorem info3 : (Try.prog.info? 3).map (fun i => (i.zero, i.size, i.bytes)) = some (some (.int .i64 0), 1, 8) := by kernel_rfl
structure S60 where
  f0 : Int
  f1 : Int
  f2 : Int
  f3 : Int
  f4 : Int
  f5 : (List Int)
structure S55 where
  f0 : Int
  f1 : Int
  f2 : Int
  f3 : Int
def z55 : S55 := ⟨(0 : Int), (0 : Int), (0 : Int), (0 : Int)⟩
structure S57 where
  f0 : (List S60)
  f1 : S55
def z57 : S57 := ⟨([] : List S60), z55⟩
end Go.Proofs.Yteeapfmgdlcgfaa.A


namespace Go.Proofs.Yteeapfmgdlcgfaa.A
open Go.Deep Go.RowKit Go.Proofs.YteeapfmgdlcgfaaW.PrintWords Go.Proofs.YteeapfmgdlcgfaaW.PrintLast
set_option linter.unusedVariables false
set_option linter.unusedSimpArgs false

section
variable {H : Type} {enc : TypeId × Value → H} {P : Program} {w : World} {base : Nat} {α : Type} [Inhabited α]

def Opens (enc : TypeId × Value → H) (P : Program) (w : World) (base : Nat) (t : TypeId) (d : Kd α) (p : α → Prop) : Prop :=
  ∀ fuel cs x, DataW.trod enc P w base (fun _ => true) true fuel t cs = some x → ∃ y, d.K w y cs ∧ p y

theorem opens_slice {t e : TypeId} {d : Kd α} {p : α → Prop} (ht : P.underlying t = some (.slice e)) (hc : P.cellsOf e = d.sz) (ho : Opens enc P w base e d p) : Opens enc P w base t (Kd.slice e d) (fun xs => ∀ x ∈ xs, p x) := by
  intro fuel cs x h
  rcases open_slice ht h with ⟨rfl, _⟩ | ⟨a, len, cap, m, n, D, Pl, rfl, hb, hl, hm, hmm, _, hx⟩
  · exact ⟨[], ⟨none, 0, rfl, Nat.le_refl _, rfl, by simp, fun h => by simp at h⟩, fun x hx => by simp at hx⟩
  · simp only [if_true] at hmm
    obtain ⟨Y, hY⟩ := choose_lt (α := α) (n := len) (p := fun i y => p y ∧ ∃ c, d.K w y c ∧ ∀ j u, c[j]? = some u → w.cell? (a.add (i * d.sz + j)) = some u) (fun i hi => by
      obtain ⟨cs', h1, h2⟩ := hx i (by omega)
      obtain ⟨y, hy, hp⟩ := ho _ _ _ h2
      obtain ⟨_, hlen, hcell⟩ := World.cells?_some h1
      refine ⟨y, hp, cs', hy, fun j u hj => ?_⟩
      have hj' : j < cs'.length := (List.getElem?_eq_some_iff.1 hj).1
      have := hcell j (by omega)
      rw [hj, hc] at this
      rwa [Addr.add_add] at this)
    have hlen : ((List.range len).map Y).length = len := by simp
    refine ⟨(List.range len).map Y, ⟨some a, cap, by rw [hlen], by rw [hlen]; exact hl, hlen.trans hlen.symm, by rw [hlen]; unfold maxLen at hm; omega, fun _ => ⟨a, rfl, fun j y hj => ?_⟩⟩, fun y hy => ?_⟩
    · have hjl : j < len := by have := (List.getElem?_eq_some_iff.1 hj).1; omega
      rw [List.getElem?_map, List.getElem?_range hjl] at hj
      obtain rfl := Option.some.inj hj
      obtain ⟨_, c, hk, hcell⟩ := hY j hjl
      exact ⟨c, d.K_len hk, hk, hcell⟩
    · obtain ⟨i, hi, rfl⟩ := List.mem_map.1 hy
      exact (hY i (List.mem_range.1 hi)).1
omit [Inhabited α] in
/-- of a parameter: a slice -/
theorem opens_param {t e : TypeId} {d : Kd α} {p : List α → Prop} (ho : Opens enc P w base t (Kd.slice e d) p) {A : Option Addr} {len cap : Nat} {x : DataW H} {ps : List MemPlace} (h : DataW.Trod enc P w base (fun _ => true) true t (.slice A len cap) x ps) :
    ∃ xs : List α, len = xs.length ∧ xs.length ≤ cap ∧ d.C w A xs.length xs ∧ p xs := by
  obtain ⟨fuel, hf⟩ := h
  obtain ⟨xs, ⟨A', c', he, hl, hC⟩, hp⟩ := ho _ _ _ hf
  simp [Value.cells] at he
  obtain ⟨rfl, rfl, rfl⟩ := he
  exact ⟨xs, rfl, hl, hC, hp⟩
end

end Go.Proofs.Yteeapfmgdlcgfaa.A


namespace Go.Proofs.Yteeapfmgdlcgfaa.A
set_option linter.unusedVariables false
set_option linter.unusedSimpArgs false

def updK {K V : Type} [DecidableEq K] (f : K → Option V) (k : K) (v : V) : K → Option V := fun j => if j = k then some v else f j
def remK {K V : Type} [DecidableEq K] (f : K → Option V) (k : K) : K → Option V := fun j => if j = k then none else f j
theorem updK_same {K V : Type} [DecidableEq K] (f : K → Option V) (k : K) (v : V) : updK f k v k = some v := by unfold updK; rw [if_pos rfl]
theorem updK_other {K V : Type} [DecidableEq K] {f : K → Option V} {k j : K} {v : V} (h : j ≠ k) : updK f k v j = f j := by unfold updK; rw [if_neg h]
/-- by d steps to the root r -/
inductive To {K : Type} (U : K → Option K) : Nat → K → K → Prop
  | zero {r : K} : U r = some r → To U 0 r r
  | step {d : Nat} {k j r : K} : U k = some j → j ≠ k → To U d j r → To U (d + 1) k r
theorem To.root {K : Type} {U : K → Option K} {d : Nat} {k r : K} (h : To U d k r) : U r = some r := by
  induction h with
  | zero h => exact h
  | step _ _ _ ih => exact ih
theorem To.det {K : Type} {U : K → Option K} {d : Nat} {k r : K} (h : To U d k r) : ∀ {e : Nat} {s : K}, To U e k s → d = e ∧ r = s := by
  induction h with
  | @zero r h =>
    intro e s h2
    cases h2 with
    | zero _ => exact ⟨rfl, rfl⟩
    | step h3 h4 _ =>
      rw [h] at h3
      exact absurd (Option.some.inj h3).symm h4
  | step h1 h2 _ ih =>
    intro e s h3
    cases h3 with
    | zero h4 =>
      rw [h1] at h4
      exact absurd (Option.some.inj h4) h2
    | step h4 _ h5 =>
      rw [h1] at h4
      obtain rfl := Option.some.inj h4
      obtain ⟨h6, h7⟩ := ih h5
      exact ⟨by rw [h6], h7⟩
theorem To.has {K : Type} {U : K → Option K} {d : Nat} {k r : K} (h : To U d k r) : ∃ j, U k = Option.some j := by
  cases h with
  | zero h => exact ⟨_, h⟩
  | step h _ _ => exact ⟨_, h⟩
theorem To.halve {K : Type} [DecidableEq K] {U : K → Option K} {k j m : K} (hk : U k = some j) (hj : j ≠ k) (hm : U j = some m) : ∀ (n d : Nat) (x r : K), d ≤ n → To U d x r → ∃ e, e ≤ d ∧ To (updK U k m) e x r := by
  intro n
  induction n with
  | zero =>
    intro d x r hd h
    obtain rfl : d = 0 := by omega
    cases h with
    | zero h =>
      have hx : x ≠ k := fun e => by subst e; rw [hk] at h; exact hj (Option.some.inj h)
      exact ⟨0, Nat.le_refl _, .zero (by rw [updK_other hx]; exact h)⟩
  | succ n ih =>
    intro d x r hd h
    cases h with
    | zero h =>
      have hx : x ≠ k := fun e => by subst e; rw [hk] at h; exact hj (Option.some.inj h)
      exact ⟨0, Nat.le_refl _, .zero (by rw [updK_other hx]; exact h)⟩
    | @step d _ j' _ h1 h2 h3 =>
      by_cases hx : x = k
      · subst hx
        rw [hk] at h1
        obtain rfl := Option.some.inj h1
        have hall := To.step hk hj h3
        cases h3 with
        | zero h4 =>
          rw [hm] at h4
          obtain rfl := Option.some.inj h4
          exact ⟨1, by omega, .step (updK_same _ _ _) hj (.zero (by rw [updK_other hj]; exact hm))⟩
        | @step d2 _ m' _ h4 h5 h6 =>
          rw [hm] at h4
          obtain rfl := Option.some.inj h4
          have hmx : m ≠ x := fun e => by
            subst e
            have := (hall.det h6).1
            omega
          obtain ⟨e, he, h7⟩ := ih d2 m r (by omega) h6
          exact ⟨e + 1, by omega, .step (updK_same _ _ _) hmx h7⟩
      · obtain ⟨e, he, h7⟩ := ih d j' r (by omega) h3
        exact ⟨e + 1, by omega, .step (by rw [updK_other hx]; exact h1) h2 h7⟩
/-- in one class -/
def Eq2 {K : Type} (U : K → Option K) (x y : K) : Prop := ∃ r d e, To U d x r ∧ To U e y r
structure Forest {K : Type} (U : K → Option K) (Z : K → Option Int) : Prop where
  up : ∀ k j, U k = some j → ∃ d r, To U d k r
  z : ∀ k, (Z k).isSome = true ↔ U k = some k
theorem Eq2.symm {K : Type} {U : K → Option K} {x y : K} (h : Eq2 U x y) : Eq2 U y x := by
  obtain ⟨r, d, e, h1, h2⟩ := h
  exact ⟨r, e, d, h2, h1⟩
theorem Eq2.trans {K : Type} {U : K → Option K} {x y z : K} (h : Eq2 U x y) (h' : Eq2 U y z) : Eq2 U x z := by
  obtain ⟨r, d, e, h1, h2⟩ := h
  obtain ⟨s, d', e', h3, h4⟩ := h'
  obtain ⟨_, rfl⟩ := h2.det h3
  exact ⟨r, d, e', h1, h4⟩
theorem Eq2.root_iff {K : Type} {U : K → Option K} {x y r s : K} {d e : Nat} (h1 : To U d x r) (h2 : To U e y s) : Eq2 U x y ↔ r = s := by
  constructor
  · rintro ⟨t, d', e', h3, h4⟩
    rw [(h1.det h3).2, (h2.det h4).2]
  · rintro rfl
    exact ⟨r, d, e, h1, h2⟩
theorem Eq2.self_iff {K : Type} {U : K → Option K} {Z : K → Option Int} (h : Forest U Z) {x : K} : Eq2 U x x ↔ (U x).isSome = true := by
  constructor
  · rintro ⟨r, d, e, h1, _⟩
    obtain ⟨j, hj⟩ := h1.has
    rw [hj]; rfl
  · intro hx
    obtain ⟨j, hj⟩ := Option.isSome_iff_exists.1 hx
    obtain ⟨d, r, h1⟩ := h.up x j hj
    exact ⟨r, d, d, h1, h1⟩
theorem Eq2.of_same {K : Type} {U V : K → Option K} (h : ∀ d x r, To U d x r → ∃ e, To V e x r) (h' : ∀ x, (V x).isSome = true → (U x).isSome = true) {Z : K → Option Int} (hF : Forest U Z) (x y : K) : Eq2 V x y ↔ Eq2 U x y := by
  constructor
  · rintro ⟨r, d, e, h1, h2⟩
    have H : ∀ x d, To V d x r → ∃ c, To U c x r := fun x d hx => by
      obtain ⟨j, hj⟩ := hx.has
      obtain ⟨j', hj'⟩ := Option.isSome_iff_exists.1 (h' x (by rw [hj]; rfl))
      obtain ⟨c, s, hc⟩ := hF.up x j' hj'
      obtain ⟨c', hc'⟩ := h _ _ _ hc
      rw [(hx.det hc').2]
      exact ⟨c, hc⟩
    obtain ⟨c1, hc1⟩ := H _ _ h1
    obtain ⟨c2, hc2⟩ := H _ _ h2
    exact ⟨r, c1, c2, hc1, hc2⟩
  · rintro ⟨r, d, e, h1, h2⟩
    obtain ⟨c1, hc1⟩ := h _ _ _ h1
    obtain ⟨c2, hc2⟩ := h _ _ _ h2
    exact ⟨r, c1, c2, hc1, hc2⟩
theorem Forest.halve {K : Type} [DecidableEq K] {U : K → Option K} {Z : K → Option Int} (h : Forest U Z) {k j m : K} (hk : U k = some j) (hj : j ≠ k) (hm : U j = some m) :
    Forest (updK U k m) Z ∧ (∀ x y, Eq2 (updK U k m) x y ↔ Eq2 U x y) ∧ (∀ x, (updK U k m x).isSome = (U x).isSome) := by
  have hh := To.halve hk hj hm
  have hs : ∀ x, (updK U k m x).isSome = (U x).isSome := fun x => by
    by_cases e : x = k
    · subst e; rw [updK_same, hk]; rfl
    · rw [updK_other e]
  have hup : ∀ d x r, To U d x r → ∃ e, To (updK U k m) e x r := fun d x r hx => by
    obtain ⟨e, _, h2⟩ := hh d d x r (Nat.le_refl _) hx
    exact ⟨e, h2⟩
  have hmk : m ≠ k := fun e => by
    subst e
    obtain ⟨d, r, h1⟩ := h.up m j hk
    have h2 := h1
    cases h2 with
    | zero h3 => rw [hk] at h3; exact hj (Option.some.inj h3)
    | step h3 h4 h5 =>
      rw [hk] at h3
      obtain rfl := Option.some.inj h3
      cases h5 with
      | zero h6 => rw [hm] at h6; exact hj (Option.some.inj h6).symm
      | step h6 h7 h8 =>
        rw [hm] at h6
        obtain rfl := Option.some.inj h6
        have := (h1.det h8).1
        omega
  refine ⟨⟨fun x y hx => ?_, fun x => ?_⟩, Eq2.of_same hup (fun x hx => by rwa [hs] at hx) h, hs⟩
  · have h1 : (U x).isSome = true := by rw [← hs, hx]; rfl
    obtain ⟨j', hj'⟩ := Option.isSome_iff_exists.1 h1
    obtain ⟨d, r, h2⟩ := h.up x j' hj'
    obtain ⟨e, h3⟩ := hup _ _ _ h2
    exact ⟨e, r, h3⟩
  · rw [h.z x]
    by_cases e : x = k
    · subst e
      rw [updK_same, hk]
      constructor
      · intro h1; exact absurd (Option.some.inj h1) hj
      · intro h1; exact absurd (Option.some.inj h1) hmk
    · rw [updK_other e]
theorem Forest.add {K : Type} [DecidableEq K] {U : K → Option K} {Z : K → Option Int} (h : Forest U Z) {k : K} (hk : U k = none) (v : Int) :
    Forest (updK U k k) (updK Z k v) ∧ ∀ x y, Eq2 (updK U k k) x y ↔ (Eq2 U x y ∨ (x = k ∧ y = k)) := by
  have h1 : ∀ d x r, To U d x r → To (updK U k k) d x r := fun d x r hx => by
    induction hx with
    | @zero r hr =>
      refine .zero ?_
      rw [updK_other (fun e => by subst e; rw [hk] at hr; cases hr)]; exact hr
    | @step d x j r h1 h2 _ ih =>
      refine .step ?_ h2 ih
      rw [updK_other (fun e => by subst e; rw [hk] at h1; cases h1)]; exact h1
  have h2 : ∀ d x r, To (updK U k k) d x r → (x = k ∧ r = k) ∨ To U d x r := fun d x r hx => by
    induction hx with
    | @zero r hr =>
      by_cases e : r = k
      · exact .inl ⟨e, e⟩
      · rw [updK_other e] at hr; exact .inr (.zero hr)
    | @step d x j r g1 g2 _ ih =>
      have hx : x ≠ k := fun e => by
        subst e
        rw [updK_same] at g1
        exact g2 (Option.some.inj g1).symm
      rw [updK_other hx] at g1
      obtain ⟨c, s, hc⟩ := h.up x j g1
      cases hc with
      | zero g3 => rw [g1] at g3; exact absurd (Option.some.inj g3) g2
      | step g3 _ g4 =>
        rw [g1] at g3
        obtain rfl := Option.some.inj g3
        rcases ih with ⟨e1, _⟩ | ih
        · subst e1
          obtain ⟨y, hy⟩ := g4.has
          rw [hk] at hy; cases hy
        · exact .inr (.step g1 g2 ih)
  have hkk : To (updK U k k) 0 k k := .zero (updK_same _ _ _)
  refine ⟨⟨fun x j hx => ?_, fun x => ?_⟩, fun x y => ?_⟩
  · by_cases e : x = k
    · subst e; exact ⟨0, x, hkk⟩
    · rw [updK_other e] at hx
      obtain ⟨d, r, h3⟩ := h.up x j hx
      exact ⟨d, r, h1 _ _ _ h3⟩
  · by_cases e : x = k
    · subst e; rw [updK_same, updK_same]; simp
    · rw [updK_other e, updK_other e]; exact h.z x
  · constructor
    · rintro ⟨r, d, e, g1, g2⟩
      rcases h2 _ _ _ g1 with ⟨a1, a2⟩ | g1'
      · rcases h2 _ _ _ g2 with ⟨b1, b2⟩ | g2'
        · exact .inr ⟨a1, b1⟩
        · subst a2
          have := g2'.root
          rw [hk] at this; cases this
      · rcases h2 _ _ _ g2 with ⟨b1, b2⟩ | g2'
        · subst b2
          have := g1'.root
          rw [hk] at this; cases this
        · exact .inl ⟨r, d, e, g1', g2'⟩
    · rintro (⟨r, d, e, g1, g2⟩ | ⟨rfl, rfl⟩)
      · exact ⟨r, d, e, h1 _ _ _ g1, h1 _ _ _ g2⟩
      · exact ⟨_, 0, 0, hkk, hkk⟩
theorem Forest.link {K : Type} [DecidableEq K] {U : K → Option K} {Z : K → Option Int} (h : Forest U Z) {a b : K} (ha : U a = some a) (hb : U b = some b) (hab : a ≠ b) (v : Int) :
    Forest (updK U b a) (remK (updK Z a v) b) ∧ ∀ x y, Eq2 (updK U b a) x y ↔ (Eq2 U x y ∨ (Eq2 U x a ∧ Eq2 U y b) ∨ (Eq2 U x b ∧ Eq2 U y a)) := by
  have ha' : To (updK U b a) 0 a a := .zero (by rw [updK_other hab]; exact ha)
  have h1 : ∀ d x r, To U d x r → (r ≠ b ∧ To (updK U b a) d x r) ∨ (r = b ∧ To (updK U b a) (d + 1) x a) := fun d x r hx => by
    induction hx with
    | @zero r hr =>
      by_cases e : r = b
      · subst e; exact .inr ⟨rfl, .step (updK_same _ _ _) hab ha'⟩
      · exact .inl ⟨e, .zero (by rw [updK_other e]; exact hr)⟩
    | @step d x j r g1 g2 _ ih =>
      have hx : x ≠ b := fun e => by
        subst e
        rw [hb] at g1; exact g2 (Option.some.inj g1).symm
      rcases ih with ⟨e, ih⟩ | ⟨e, ih⟩
      · exact .inl ⟨e, .step (by rw [updK_other hx]; exact g1) g2 ih⟩
      · exact .inr ⟨e, .step (by rw [updK_other hx]; exact g1) g2 ih⟩
  have hra : ∀ x, Eq2 U x a ↔ ∃ d, To U d x a := fun x => by
    constructor
    · rintro ⟨r, d, e, g1, g2⟩
      rw [((To.zero ha).det g2).2]; exact ⟨d, g1⟩
    · rintro ⟨d, g⟩; exact ⟨a, d, 0, g, .zero ha⟩
  have hrb : ∀ x, Eq2 U x b ↔ ∃ d, To U d x b := fun x => by
    constructor
    · rintro ⟨r, d, e, g1, g2⟩
      rw [((To.zero hb).det g2).2]; exact ⟨d, g1⟩
    · rintro ⟨d, g⟩; exact ⟨b, d, 0, g, .zero hb⟩
  have hs : ∀ x, (updK U b a x).isSome = (U x).isSome := fun x => by
    by_cases e : x = b
    · subst e; rw [updK_same, hb]; rfl
    · rw [updK_other e]
  have h2 : ∀ d x r, To (updK U b a) d x r → ∃ c s, To U c x s ∧ ((s ≠ b ∧ r = s) ∨ (s = b ∧ r = a)) := fun d x r hx => by
    obtain ⟨j, hj⟩ := hx.has
    obtain ⟨j', hj'⟩ := Option.isSome_iff_exists.1 (show (U x).isSome = true by rw [← hs, hj]; rfl)
    obtain ⟨c, s, hc⟩ := h.up x j' hj'
    rcases h1 _ _ _ hc with ⟨e, g⟩ | ⟨e, g⟩
    · exact ⟨c, s, hc, .inl ⟨e, (hx.det g).2⟩⟩
    · exact ⟨c, s, hc, .inr ⟨e, (hx.det g).2⟩⟩
  refine ⟨⟨fun x j hx => ?_, fun x => ?_⟩, fun x y => ?_⟩
  · obtain ⟨j', hj'⟩ := Option.isSome_iff_exists.1 (show (U x).isSome = true by rw [← hs, hx]; rfl)
    obtain ⟨c, s, hc⟩ := h.up x j' hj'
    rcases h1 _ _ _ hc with ⟨_, g⟩ | ⟨_, g⟩
    · exact ⟨_, _, g⟩
    · exact ⟨_, _, g⟩
  · by_cases e : x = b
    · subst e
      unfold remK
      rw [if_pos rfl, updK_same]
      constructor
      · intro h; cases h
      · intro h; exact absurd (Option.some.inj h) hab
    · unfold remK
      rw [if_neg e, updK_other e]
      by_cases e2 : x = a
      · subst e2; rw [updK_same]; exact ⟨fun _ => ha, fun _ => rfl⟩
      · rw [updK_other e2]; exact h.z x
  · constructor
    · rintro ⟨r, d, e, g1, g2⟩
      obtain ⟨c1, s1, k1, l1⟩ := h2 _ _ _ g1
      obtain ⟨c2, s2, k2, l2⟩ := h2 _ _ _ g2
      rcases l1 with ⟨l1, m1⟩ | ⟨l1, m1⟩ <;> rcases l2 with ⟨l2, m2⟩ | ⟨l2, m2⟩
      · refine .inl ⟨r, c1, c2, ?_, ?_⟩
        · rw [m1]; exact k1
        · rw [m2]; exact k2
      · refine .inr (.inl ⟨(hra x).2 ⟨c1, ?_⟩, (hrb y).2 ⟨c2, ?_⟩⟩)
        · rw [← m2, m1]; exact k1
        · rw [← l2]; exact k2
      · refine .inr (.inr ⟨(hrb x).2 ⟨c1, ?_⟩, (hra y).2 ⟨c2, ?_⟩⟩)
        · rw [← l1]; exact k1
        · rw [← m1, m2]; exact k2
      · refine .inl ⟨b, c1, c2, ?_, ?_⟩
        · rw [← l1]; exact k1
        · rw [← l2]; exact k2
    · have hto : ∀ x d, To U d x a → ∃ c, To (updK U b a) c x a := fun x d g => by
        rcases h1 _ _ _ g with ⟨_, g⟩ | ⟨e, g⟩
        · exact ⟨_, g⟩
        · exact absurd e hab
      have htb : ∀ x d, To U d x b → ∃ c, To (updK U b a) c x a := fun x d g => by
        rcases h1 _ _ _ g with ⟨e, g⟩ | ⟨e, g⟩
        · exact absurd rfl e
        · exact ⟨_, g⟩
      rintro (⟨r, d, e, g1, g2⟩ | ⟨g1, g2⟩ | ⟨g1, g2⟩)
      · rcases h1 _ _ _ g1 with ⟨a1, a2⟩ | ⟨a1, a2⟩ <;> rcases h1 _ _ _ g2 with ⟨b1, b2⟩ | ⟨b1, b2⟩
        · exact ⟨r, _, _, a2, b2⟩
        · exact absurd b1 a1
        · exact absurd a1 b1
        · exact ⟨a, _, _, a2, b2⟩
      · obtain ⟨d, g1⟩ := (hra x).1 g1
        obtain ⟨e, g2⟩ := (hrb y).1 g2
        obtain ⟨c1, k1⟩ := hto _ _ g1
        obtain ⟨c2, k2⟩ := htb _ _ g2
        exact ⟨a, c1, c2, k1, k2⟩
      · obtain ⟨d, g1⟩ := (hrb x).1 g1
        obtain ⟨e, g2⟩ := (hra y).1 g2
        obtain ⟨c1, k1⟩ := htb _ _ g1
        obtain ⟨c2, k2⟩ := hto _ _ g2
        exact ⟨a, c1, c2, k1, k2⟩
end Go.Proofs.Yteeapfmgdlcgfaa.A


namespace Go.Proofs.Yteeapfmgdlcgfaa.A
open Go.RowKit Go.Maps Go.Proofs.YteeapfmgdlcgfaaW.PrintWords Go.Proofs.YteeapfmgdlcgfaaW.PrintLast
set_option linter.unusedVariables false
set_option linter.unusedSimpArgs false

abbrev DU := DataW Unit
structure Kind (K : Type) where
  t : TypeId
  val : K → Value
  lit : K → Lit
  wf : K → Prop
  z : K
structure KindOk {K : Type} (κ : Kind K) : Prop where
  plain : ∀ {k : K}, κ.wf k → plainElem (H := Unit) Try.prog κ.t (κ.val k) = some (.lit (κ.lit k), [])
  inv : ∀ {v : Value} {y : DU × List MemPlace}, plainElem Try.prog κ.t v = some y → ∃ k, κ.wf k ∧ v = κ.val k ∧ y = (.lit (κ.lit k), [])
  zero : ∀ w, (zeroValue κ.t).run Try.prog w = .ok (κ.val κ.z) w
  wfz : κ.wf κ.z
  inj : ∀ {a b : K}, κ.lit a = κ.lit b → a = b
  keyed : Keyed Try.prog κ.t
  key : ∀ {k : K}, κ.wf k → keyOf Try.prog κ.t (κ.val k) = some (κ.lit k)
  keyinv : ∀ {v : Value} {l : Lit}, keyOf Try.prog κ.t v = some l → ∃ k, κ.wf k ∧ v = κ.val k ∧ l = κ.lit k
  isKey : ∀ k : K, WideAt.IsKeyLit (κ.lit k)
/-- the datum reads as the function -/
structure Reads {K V : Type} (κ : Kind K) (ν : Kind V) (D : DU) (f : K → Option V) : Prop where
  tidy : Tidy D
  has : ∀ k, Maps.has D (κ.lit k) = (f k).isSome
  at_ : ∀ k, D.atKey (κ.lit k) (.lit (ν.lit ν.z)) = .lit (ν.lit ((f k).getD ν.z))
section
variable {K V : Type} [DecidableEq K] {κ : Kind K} {ν : Kind V}
theorem Reads.empty {K V : Type} {κ : Kind K} {ν : Kind V} : Reads κ ν (.map []) (fun _ => none) := ⟨tidy_empty, fun k => rfl, fun k => rfl⟩
theorem Reads.put {K V : Type} [DecidableEq K] {κ : Kind K} {ν : Kind V} (O : KindOk κ) {D : DU} {f : K → Option V} (h : Reads κ ν D f) (k : K) (v : V) : Reads κ ν (D.put (κ.lit k) (.lit (ν.lit v))) (updK f k v) := by
  refine ⟨h.tidy.put (O.isKey k) _, fun j => ?_, fun j => ?_⟩
  · by_cases hj : j = k
    · subst hj
      rw [has_put_same h.tidy.isMap (O.isKey j), updK_same]; rfl
    · rw [has_put_other (fun e => hj (O.inj e)), h.has j, updK_other hj]
  · by_cases hj : j = k
    · subst hj
      rw [atKey_put_same h.tidy.isMap (O.isKey j), updK_same]; rfl
    · rw [atKey_put_other (fun e => hj (O.inj e)), h.at_ j, updK_other hj]
theorem Reads.del {K V : Type} [DecidableEq K] {κ : Kind K} {ν : Kind V} (O : KindOk κ) {D : DU} {f : K → Option V} (h : Reads κ ν D f) (k : K) : Reads κ ν (D.del (κ.lit k)) (remK f k) := by
  refine ⟨h.tidy.del _, fun j => ?_, fun j => ?_⟩
  · by_cases hj : j = k
    · subst hj
      rw [has_del_same]; unfold remK; rw [if_pos rfl]; rfl
    · rw [has_del_other (fun e => hj (O.inj e)), h.has j]; unfold remK; rw [if_neg hj]
  · by_cases hj : j = k
    · subst hj
      rw [atKey_del_same]; unfold remK; rw [if_pos rfl]; rfl
    · rw [atKey_del_other (fun e => hj (O.inj e)), h.at_ j]; unfold remK; rw [if_neg hj]
end
theorem owns_tight {R : Value → Option (DU × List MemPlace)} {w : World} {k : TypeId} {b n : Nat} {D : DU} (h : w.ownsMap Try.prog k R b n D) : w.ownsMap Try.prog k R b (Maps.size D) D := by
  obtain ⟨es, clock, hb, F, hs, rfl⟩ := h
  refine ⟨es, clock, hb, F, ?_, rfl⟩
  simp [Maps.size, length_sorted]

/-- block b is a map of N entries that reads as f -/
def MapAt {K V : Type} (κ : Kind K) (ν : Kind V) (w : World) (b : Nat) (f : K → Option V) (N : Nat) : Prop :=
  ∃ D : DU, w.ownsMap Try.prog κ.t (plainElem Try.prog ν.t) b N D ∧ Reads κ ν D f ∧ Maps.size D = N ∧ ∀ k v, f k = some v → κ.wf k ∧ ν.wf v
section
variable {K V : Type} {κ : Kind K} {ν : Kind V} {w w' : World} {b N : Nat} {f : K → Option V}
theorem MapAt.lt {K V : Type} {κ : Kind K} {ν : Kind V} {w : World} {b N : Nat} {f : K → Option V} (h : MapAt κ ν w b f N) : b < w.heap.size := by
  obtain ⟨D, h1, _⟩ := h; exact h1.lt
theorem MapAt.same {K V : Type} {κ : Kind K} {ν : Kind V} {w w' : World} {b N : Nat} {f : K → Option V} (h : MapAt κ ν w b f N) (hb : w'.heap[b]? = w.heap[b]?) : MapAt κ ν w' b f N := by
  obtain ⟨D, ⟨es, clock, h1, h2⟩, h3⟩ := h
  exact ⟨D, ⟨es, clock, hb.trans h1, h2⟩, h3⟩
theorem MapAt.made {K V : Type} {κ : Kind K} {ν : Kind V} (w : World) : MapAt κ ν (w.alloc (.map #[] 0)) w.heap.size (fun _ => none) 0 := ⟨.map [], World.ownsMap_made _ _ _ _, Reads.empty, rfl, fun _ _ h => by cases h⟩
theorem MapAt.noCell {K V : Type} {κ : Kind K} {ν : Kind V} {w : World} {b N : Nat} {f : K → Option V} (h : MapAt κ ν w b f N) {a : Addr} {v : Value} (hc : w.cell? a = some v) : a.block ≠ b := by
  intro e
  obtain ⟨D, ⟨es, clock, h1, _⟩, _⟩ := h
  unfold World.cell? at hc
  rw [e, h1] at hc
  cases hc
theorem MapAt.wfs {K V : Type} {κ : Kind K} {ν : Kind V} {w : World} {b N : Nat} {f : K → Option V} (h : MapAt κ ν w b f N) {k : K} {v : V} (hk : f k = some v) : κ.wf k ∧ ν.wf v := by
  obtain ⟨D, _, _, _, h4⟩ := h; exact h4 k v hk
theorem MapAt.look {K V : Type} {κ : Kind K} {ν : Kind V} {w : World} {b N : Nat} {f : K → Option V} (O : KindOk κ) (O' : KindOk ν) (h : MapAt κ ν w b f N) {tm : TypeId} (ht : Try.prog.underlying tm = some (.map κ.t ν.t)) {k : K} (hk : κ.wf k) :
    (Instr.lookup tm (.map (some b)) (κ.val k) false).run Try.prog w = .ok (ν.val ((f k).getD ν.z)) w := by
  obtain ⟨D, h1, h2, h3, h4⟩ := h
  obtain ⟨v, ps, hrun, hv⟩ := h1.lookup O.keyed ht (O'.zero w) (O'.plain O'.wfz) (O.key hk)
  obtain ⟨c, _, rfl, hz⟩ := O'.inv hv
  have hx : D.atKey (κ.lit k) (.lit (ν.lit ν.z)) = .lit (ν.lit c) := congrArg Prod.fst hz
  rw [h2.at_ k] at hx
  have := O'.inj (DataW.lit.inj hx)
  rw [hrun, this]
theorem MapAt.look_ok {K V : Type} {κ : Kind K} {ν : Kind V} {w : World} {b N : Nat} {f : K → Option V} (O : KindOk κ) (O' : KindOk ν) (h : MapAt κ ν w b f N) {tm : TypeId} (ht : Try.prog.underlying tm = some (.map κ.t ν.t)) {k : K} (hk : κ.wf k) :
    (Instr.lookup tm (.map (some b)) (κ.val k) true).run Try.prog w = .ok (.tuple #[ν.val ((f k).getD ν.z), .bool (f k).isSome]) w := by
  obtain ⟨D, h1, h2, h3, h4⟩ := h
  obtain ⟨v, ps, hrun, hv⟩ := h1.look_ok O.keyed ht (O'.zero w) (O'.plain O'.wfz) (O.key hk)
  obtain ⟨c, _, rfl, hz⟩ := O'.inv hv
  have hx : D.atKey (κ.lit k) (.lit (ν.lit ν.z)) = .lit (ν.lit c) := congrArg Prod.fst hz
  rw [h2.at_ k] at hx
  have := O'.inj (DataW.lit.inj hx)
  rw [hrun, this, h2.has k]
theorem wf_upd {K V : Type} [DecidableEq K] {κ : Kind K} {ν : Kind V} {f : K → Option V} (h4 : ∀ k v, f k = some v → κ.wf k ∧ ν.wf v) {k : K} {v : V} (hk : κ.wf k) (hv : ν.wf v) : ∀ j u, updK f k v j = some u → κ.wf j ∧ ν.wf u := fun j u hj => by
  by_cases e : j = k
  · subst e; rw [updK_same] at hj; rw [← Option.some.inj hj]; exact ⟨hk, hv⟩
  · rw [updK_other e] at hj; exact h4 j u hj
theorem MapAt.store {K V : Type} [DecidableEq K] {κ : Kind K} {ν : Kind V} {w : World} {b N : Nat} {f : K → Option V} (O : KindOk κ) (O' : KindOk ν) (h : MapAt κ ν w b f N) {tm : TypeId} (ht : Try.prog.underlying tm = some (.map κ.t ν.t)) {k : K} (hk : κ.wf k) {v : V} (hv : ν.wf v) (hN : N < maxLen) :
    ∃ w1, (Instr.mapUpdate tm (.map (some b)) (κ.val k) (ν.val v)).run Try.prog w = .ok () w1 ∧ MapAt κ ν w1 b (updK f k v) (if (f k).isSome = true then N else N + 1) ∧ w.mapTurned w1 b := by
  obtain ⟨D, h1, h2, h3, h4⟩ := h
  obtain ⟨w1, r1, r2, r3⟩ := h1.store O.keyed ht hN (O.key hk) (O'.plain hv)
  have e : Maps.size (D.put (κ.lit k) (.lit (ν.lit v))) = if (f k).isSome = true then N else N + 1 := by rw [size_put h2.tidy, h2.has k, h3]
  refine ⟨w1, r1, ⟨_, ?_, h2.put O k v, e, wf_upd h4 hk hv⟩, r3⟩
  rw [← e]; exact owns_tight r2
theorem MapAt.drop {K V : Type} [DecidableEq K] {κ : Kind K} {ν : Kind V} {w : World} {b N : Nat} {f : K → Option V} (O : KindOk κ) (h : MapAt κ ν w b f N) {tm : TypeId} (ht : Try.prog.underlying tm = some (.map κ.t ν.t)) {k : K} (hk : κ.wf k) (ty : TypeId) :
    ∃ w1, (Builtin.delete_ #[tm, κ.t] ty #[.map (some b), κ.val k]).run Try.prog w = .ok (.tuple #[]) w1 ∧ MapAt κ ν w1 b (remK f k) (if (f k).isSome = true then N - 1 else N) ∧ w.mapTurned w1 b := by
  obtain ⟨D, h1, h2, h3, h4⟩ := h
  obtain ⟨w1, r1, r2, r3⟩ := h1.drop O.keyed ht (O.key hk) ty
  have e : Maps.size (D.del (κ.lit k)) = if (f k).isSome = true then N - 1 else N := by
    have := size_del (k := κ.lit k) h2.tidy
    rw [h2.has k, h3] at this
    split at this <;> split <;> simp_all <;> omega
  refine ⟨w1, r1, ⟨_, ?_, h2.del O k, e, fun j u hj => ?_⟩, r3⟩
  · rw [← e]; exact owns_tight r2
  · unfold remK at hj
    by_cases e : j = k
    · rw [if_pos e] at hj; cases hj
    · rw [if_neg e] at hj; exact h4 j u hj
theorem MapAt.len {K V : Type} {κ : Kind K} {ν : Kind V} {w : World} {b N : Nat} {f : K → Option V} (h : MapAt κ ν w b f N) {tm : TypeId} (ht : Try.prog.underlying tm = some (.map κ.t ν.t)) (ty : TypeId) :
    (Builtin.len_ #[tm] ty #[.map (some b)]).run Try.prog w = .ok (.int .i64 N) w := by
  obtain ⟨D, h1, h2, h3, h4⟩ := h
  rw [h1.len ht ty, h3]
open Go.WideElems Go.ChangeShapes Go.WideShapes Go.MapKept Go.ChangeMaps in
/-- an entry is made, then stored into: as one store does -/
theorem entry_store {P : Program} {w : World} {t k e : TypeId} {R : Value → Option (DU × List MemPlace)} {b : Nat} {es : Array MapEntry} {clock : Nat} (K : Keyed P k) (ht : P.underlying t = some (.map k e)) {z : Value} (hz : ∀ u : World, (zeroValue e).run P u = .ok z u) (hb : w.heap[b]? = some (.map es clock)) (F : Fit P k R es clock)
    {key : Value} {kl : Lit} (hkey : keyOf P k key = some kl) :
    ∃ (v0 : Value) (st : Nat) (es1 : Array MapEntry) (clock1 : Nat), (Instr.mapEntry t (.map (some b)) key).run P w = .ok (.tuple #[v0, goInt st]) (setBlock w b (.map es1 clock1)) ∧
      ∀ (w2 : World) (val : Value), w2.heap[b]? = some (.map es1 clock1) → ∃ es' clock', (Instr.entryStore t (.map (some b)) (goInt st) val).run P w2 = .ok () (setBlock w2 b (.map es' clock')) ∧
        (Instr.mapUpdate t (.map (some b)) key val).run P w = .ok () (setBlock w b (.map es' clock')) := by
  obtain ⟨s1, s2, _⟩ := F.stamped
  rcases K.find w hkey es.toList F.keys with ⟨h1, h2⟩ | ⟨j, e0, h1, h2, h3⟩
  · refine ⟨z, clock, es.push ⟨key, z, clock⟩, clock + 1, ?_, fun w2 val hw2 => ⟨es.push ⟨key, val, clock⟩, clock + 1, ?_, ?_⟩⟩
    · simp [Instr.mapEntry, run_underlying ht, MapKept.run_getObj_map hb, K.check w false hkey, h1, hz, MapKept.run_setObj_map _ hb, Result.andThen, setBlock]
    · have hidx : (es.push ⟨key, z, clock⟩).findIdx? (fun e => ((e.born : Nat) : Int) == ((clock : Nat) : Int)) = some es.size := by
        rw [findIdx_arr]
        have := findIdx_born (l := (es.push ⟨key, z, clock⟩).toList) (j := es.size) (e0 := ⟨key, z, clock⟩) (by
          simp only [Array.toList_push, List.map_append, List.map_cons, List.map_nil]
          refine List.nodup_append.2 ⟨s2, by simp, fun a ha c hc e1 => ?_⟩
          simp only [List.mem_singleton] at hc
          obtain ⟨x, hx, rfl⟩ := List.mem_map.1 ha
          have := s1 x hx
          omega) (by simp)
        exact this
      have hmod : (es.push ⟨key, z, clock⟩).modify es.size (fun e => { e with val := val }) = es.push ⟨key, val, clock⟩ := by
        apply Array.ext'
        rw [Array.toList_modify, Array.toList_push, Array.toList_push, ← Array.length_toList, modify_last]
      simp [Instr.entryStore, MapKept.run_getObj_map hw2, asInt, asIntOf, goInt, hidx, hmod, MapKept.run_setObj_map _ hw2, Result.andThen, setBlock]
    · simp [Instr.mapUpdate, run_underlying ht, MapKept.run_getObj_map hb, K.check w false hkey, h1, MapKept.run_setObj_map _ hb, Result.andThen, setBlock]
  · have hj : es[j]? = some e0 := by simpa using h2
    have hsame : es.modify j (fun e => { e with key := key }) = es := by
      apply Array.ext'
      rw [Array.toList_modify, modify_eq_set _ _ _ _ h2]
      have : ({ e0 with key := key } : MapEntry) = e0 := by rw [← h3]
      rw [this]
      exact set_self _ _ _ h2
    refine ⟨e0.val, e0.born, es, clock, ?_, fun w2 val hw2 => ⟨es.modify j (fun e' => { e' with key := key, val := val }), clock, ?_, ?_⟩⟩
    · simp [Instr.mapEntry, run_underlying ht, MapKept.run_getObj_map hb, K.check w false hkey, h1, hj, h3, K.stays w hkey, hsame, MapKept.run_setObj_map _ hb, Result.andThen, setBlock]
    · have hidx : es.findIdx? (fun e => ((e.born : Nat) : Int) == ((e0.born : Nat) : Int)) = some j := by
        rw [findIdx_arr]
        exact findIdx_born s2 h2
      have hmod : es.modify j (fun e => { e with val := val }) = es.modify j (fun e' => { e' with key := key, val := val }) := by
        apply Array.ext'
        rw [Array.toList_modify, Array.toList_modify, modify_eq_set _ _ _ _ h2, modify_eq_set _ _ _ _ h2, ← h3]
      simp [Instr.entryStore, MapKept.run_getObj_map hw2, asInt, asIntOf, goInt, hidx, hmod, MapKept.run_setObj_map _ hw2, Result.andThen, setBlock]
    · simp [Instr.mapUpdate, run_underlying ht, MapKept.run_getObj_map hb, K.check w false hkey, h1, hj, h3, K.stays w hkey, MapKept.run_setObj_map _ hb, Result.andThen, setBlock]
open Go.WideElems Go.ChangeShapes Go.WideShapes Go.MapKept Go.ChangeMaps in
/-- .. at such a map -/
theorem MapAt.entry {K V : Type} [DecidableEq K] {κ : Kind K} {ν : Kind V} {w : World} {b N : Nat} {f : K → Option V} (O : KindOk κ) (O' : KindOk ν) (h : MapAt κ ν w b f N) {tm : TypeId} (ht : Try.prog.underlying tm = some (.map κ.t ν.t)) {k : K} (hk : κ.wf k) {v : V} (hv : ν.wf v) (hN : N < maxLen) :
    ∃ (v0 : Value) (st : Nat) (w1 w2 : World), (Instr.mapEntry tm (.map (some b)) (κ.val k)).run Try.prog w = .ok (.tuple #[v0, goInt st]) w1 ∧ w.grownBy w1 (some b) ∧ (Instr.entryStore tm (.map (some b)) (goInt st) (ν.val v)).run Try.prog w1 = .ok () w2 ∧
      w1.grownBy w2 (some b) ∧ MapAt κ ν w2 b (updK f k v) (if (f k).isSome = true then N else N + 1) := by
  have h0 := h
  obtain ⟨D, ⟨es, clock, hb, F, hs, hD⟩, h2, h3, h4⟩ := h
  obtain ⟨v0, st, es1, clock1, r1, r2⟩ := entry_store (w := w) O.keyed ht O'.zero hb F (O.key hk)
  have hlt : b < w.heap.size := (Array.getElem?_eq_some_iff.1 hb).1
  have hb1 : (setBlock w b (.map es1 clock1)).heap[b]? = some (.map es1 clock1) := heap_setBlock_same hb _
  obtain ⟨es', clock', r3, r4⟩ := r2 (setBlock w b (.map es1 clock1)) (ν.val v) hb1
  obtain ⟨w3, q1, q2, q3⟩ := h0.store O O' ht hk hv hN
  rw [r4] at q1
  have e3 : setBlock w b (.map es' clock') = w3 := by injection q1
  have e4 : setBlock (setBlock w b (.map es1 clock1)) b (.map es' clock') = setBlock w b (.map es' clock') := by
    simp [setBlock]
  refine ⟨v0, st, _, _, r1, World.mapTurned.grown (w := w) ⟨es, clock, es1, clock1, hb, rfl⟩, r3, World.mapTurned.grown (w := setBlock w b (.map es1 clock1)) ⟨es1, clock1, es', clock', hb1, rfl⟩, ?_⟩
  rw [e4, e3]; exact q2
end
end Go.Proofs.Yteeapfmgdlcgfaa.A


namespace Go.Proofs.Yteeapfmgdlcgfaa.A
open Go.RowKit

/-- whatever lay, but for the blocks of X, lies as it lay -/
structure KeepsBut (X : Nat → Prop) (W W' : World) : Prop where
  os : W'.os = W.os
  tape : W'.tape = W.tape
  output : W'.output = W.output
  size : W.heap.size ≤ W'.heap.size
  block : ∀ k, k < W.heap.size → ¬ X k → W'.heap[k]? = W.heap[k]?
theorem KeepsBut.refl (X : Nat → Prop) (W : World) : KeepsBut X W W := ⟨rfl, rfl, rfl, Nat.le_refl _, fun _ _ _ => rfl⟩
theorem KeepsBut.trans {X : Nat → Prop} {A B C : World} (h : KeepsBut X A B) (k : KeepsBut X B C) : KeepsBut X A C :=
  ⟨k.os.trans h.os, k.tape.trans h.tape, k.output.trans h.output, Nat.le_trans h.size k.size, fun i hi hx => (k.block i (Nat.lt_of_lt_of_le hi h.size) hx).trans (h.block i hi hx)⟩
theorem KeepsBut.mono {X Y : Nat → Prop} {A B : World} (h : KeepsBut X A B) (hxy : ∀ k, X k → Y k) : KeepsBut Y A B := ⟨h.os, h.tape, h.output, h.size, fun k hk hn => h.block k hk (fun hx => hn (hxy k hx))⟩
theorem KeepsBut.alloc (X : Nat → Prop) (W : World) (o : Obj) : KeepsBut X W (W.alloc o) := ⟨rfl, rfl, rfl, by simp, fun k hk _ => Below.heap_alloc W o k hk⟩
theorem KeepsBut.putObj {X : Nat → Prop} (W : World) {l : Nat} (o : Obj) (hx : X l) : KeepsBut X W (W.putObj l o) := ⟨rfl, rfl, rfl, by simp, fun k hk hn => World.putObj_heap_other (fun e => hn (e ▸ hx))⟩
theorem KeepsBut.below {X : Nat → Prop} {W W' : World} {n : Nat} (h : KeepsBut X W W') (hn : n ≤ W.heap.size) (hx : ∀ k, k < n → ¬ X k) : Below n W W' := ⟨h.os, h.tape, h.output, h.size, fun k hk => h.block k (by omega) (hx k hk)⟩
theorem KeepsBut.cell {X : Nat → Prop} {W W' : World} (h : KeepsBut X W W') {p : Addr} {v : Value} (hc : W.cell? p = some v) (hx : ¬ X p.block) : W'.cell? p = some v := by
  have hb := h.block p.block (World.block_lt_of_cell? _ _ hc) hx
  unfold World.cell? at hc ⊢
  rw [hb]; exact hc
theorem KeepsBut.setCell {X : Nat → Prop} (W : World) (a : Addr) (v : Value) (hx : X a.block) : KeepsBut X W (W.setCell a v) :=
  ⟨rfl, rfl, rfl, by show W.heap.size ≤ (W.heap.modify _ _).size; rw [Array.size_modify]; exact Nat.le_refl _, fun k _ hn => Below.heap_setCell W a v k (fun e => hn (e ▸ hx))⟩

/-- J does not mind what happens in X, nor what is new -/
def AbX {β : Type} (X : Nat → Prop) (J : β → World → Prop) : Prop := ∀ s W W', J s W → KeepsBut X W W' → J s W'
/-- X, and the loop's own two blocks -/
def XX (X : Nat → Nat → Prop) (B : Nat) (k : Nat) : Prop := X (B + 2) k ∨ (B ≤ k ∧ k ≤ B + 1)
theorem AbX.alloc {β : Type} {X : Nat → Prop} {I : β → World → Prop} (h : AbX X I) {s : β} {W : World} (o : Obj) (hs : I s W) : I s (W.alloc o) := h s W _ hs (KeepsBut.alloc X W o)
theorem AbX.putObj {β : Type} {X : Nat → Nat → Prop} {B : Nat} {I : β → World → Prop} (h : AbX (XX X B) I) {s : β} {W : World} {l : Nat} (o : Obj) (hs : I s W) (hl : B ≤ l ∧ l ≤ B + 1) : I s (W.putObj l o) := h s W _ hs (KeepsBut.putObj W o (.inr hl))

variable {F : Fence} {n : Nat} {P : Program}

end Go.Proofs.Yteeapfmgdlcgfaa.A


namespace Go.Proofs.Yteeapfmgdlcgfaa.A
open Go.RowKit Go.Maps Go.Proofs.YteeapfmgdlcgfaaW.PrintWords Go.Proofs.YteeapfmgdlcgfaaW.PrintLast
set_option linter.unusedVariables false
set_option linter.unusedSimpArgs false

def κI : Kind Int := { t := 3, val := .int .i64, lit := .int .i64, wf := fun k => (Lit.int .i64 k).wf = true, z := 0 }
theorem κI_ok : KindOk κI where
  plain := fun h => plainElem_int Try.underlying3 h
  inv := fun h => by obtain ⟨a, h1, h2, h3⟩ := plainElem_int_inv Try.underlying3 h; exact ⟨a, h3, h1, h2⟩
  zero := fun w => by kernel_rfl
  wfz := by show (Lit.int .i64 0).wf = true; decide
  inj := fun h => by injection h
  keyed := int_keyed Try.underlying3
  key := fun h => keyOf_int_mk Try.underlying3 h
  keyinv := fun h => by obtain ⟨a, h1, h2, h3⟩ := Maps.keyOf_i64 Try.underlying3 h; exact ⟨a, h3, h1, h2⟩
  isKey := fun k => by simp [κI, WideAt.IsKeyLit]
/-- block p is such a set of classes -/
structure Uni {K : Type} (κ : Kind K) (w : World) (p bu bs nu N : Nat) (U : K → Option K) (Z : K → Option Int) : Prop where
  cu : w.cell? ⟨p, 0, none⟩ = some (.map (some bu))
  cs : w.cell? ⟨p, 1, none⟩ = some (.map (some bs))
  mu : MapAt κ κ w bu U nu
  ms : MapAt κ κI w bs Z N
  ne : bu ≠ bs
  F : Forest U Z
def UX (bu bs : Nat) (k : Nat) : Prop := k = bu ∨ k = bs
theorem Uni.pne {K : Type} {κ : Kind K} {w : World} {p bu bs nu N : Nat} {U : K → Option K} {Z : K → Option Int} (h : Uni κ w p bu bs nu N U Z) : p ≠ bu ∧ p ≠ bs := ⟨h.mu.noCell h.cu, h.ms.noCell h.cu⟩
theorem Uni.keep {K : Type} {κ : Kind K} {w w' : World} {p bu bs nu N : Nat} {U : K → Option K} {Z : K → Option Int} (h : Uni κ w p bu bs nu N U Z) {X : Nat → Prop} (hk : KeepsBut X w w') (hp : ¬ X p) (hu : ¬ X bu) (hs : ¬ X bs) : Uni κ w' p bu bs nu N U Z :=
  ⟨hk.cell h.cu hp, hk.cell h.cs hp, h.mu.same (hk.block _ h.mu.lt hu), h.ms.same (hk.block _ h.ms.lt hs), h.ne, h.F⟩
theorem keeps_grown {w w' : World} {b : Nat} (h : w.grownBy w' (some b)) {X : Nat → Prop} (hx : X b) : KeepsBut X w w' :=
  ⟨h.os, h.tape, h.output, h.size, fun k hk hn => h.block k hk (fun e => by injection e with e; exact hn (e ▸ hx))⟩
theorem keeps_below {w w' : World} (h : Below w.heap.size w w') (X : Nat → Prop) : KeepsBut X w w' :=
  ⟨h.os, h.tape, h.output, h.size, fun k hk _ => h.block k hk⟩

set_option maxRecDepth 100000 in
set_option maxHeartbeats 1000000 in
theorem new_calls (w : World) : Calls Try.prog 10 #[] w fun e w' => ∃ p bu bs, e = .returned (.pointer (some ⟨p, 0, none⟩)) ∧ w.heap.size ≤ p ∧ w.heap.size ≤ bu ∧ w.heap.size ≤ bs ∧ Uni κI w' p bu bs 0 0 (fun _ => none) (fun _ => none) ∧ Below w.heap.size w w' := by
  have hmm := @run_makeMap Try.prog
  go_enter Try.func10, Try.ntmps10
  go_wp2
  go_ret
  obtain ⟨w1, h1⟩ : ∃ w1, (w.alloc (Obj.map #[] 0)) = w1 := ⟨_, rfl⟩
  have hs1 : w1.heap.size = w.heap.size + 1 := by rw [← h1]; simp
  have m1 : MapAt κI κI w1 w.heap.size (fun _ => none) 0 := by rw [← h1]; exact MapAt.made w
  have m2 : MapAt κI κI (w1.alloc (Obj.map #[] 0)) w1.heap.size (fun _ => none) 0 := MapAt.made w1
  have hs2 : (w1.alloc (Obj.map #[] 0)).heap.size = w.heap.size + 2 := by simp [hs1]
  have hB : Below w.heap.size w w1 := by rw [← h1]; exact below_alloc (Below.refl _ _) _
  refine ⟨w.heap.size + 1 + 1, w.heap.size, w.heap.size + 1, rfl, by omega, by omega, by omega, ?_, ?_⟩
  · rw [h1]
    refine ⟨by simp [go_sem, hs1], by simp [go_sem, hs1], ?_, ?_, by omega, ⟨fun k j h => (nomatch h), fun k => ⟨fun h => (nomatch h), fun h => (nomatch h)⟩⟩⟩
    · refine m1.same ?_
      rw [Below.heap_alloc _ _ _ (by rw [hs2]; omega), Below.heap_alloc _ _ _ (by rw [hs1]; omega)]
    · rw [← hs1]
      exact m2.same (Below.heap_alloc _ _ _ (by rw [hs2]; omega))
  · rw [h1]
    exact below_alloc (below_alloc hB _) _
set_option maxRecDepth 100000 in
set_option maxHeartbeats 1000000 in
theorem has_calls {p bu bs nu N : Nat} {U Z : Int → Option Int} (w : World) (h : Uni κI w p bu bs nu N U Z) {k : Int} (hk : κI.wf k) :
    Calls Try.prog 37 #[.pointer (some ⟨p, 0, none⟩), .int .i64 k] w fun e w' => e = .returned (.bool (U k).isSome) ∧ w' = w := by
  have hc := h.cu
  have hl := h.mu.look_ok κI_ok κI_ok Try.underlying66 hk
  simp only [κI] at hl
  go_enter Try.func37, Try.ntmps37
  go_wp2
  go_ret
  exact ⟨rfl, rfl⟩
set_option maxRecDepth 100000 in
set_option maxHeartbeats 1000000 in
theorem len_calls {p bu bs nu N : Nat} {U Z : Int → Option Int} (w : World) (h : Uni κI w p bu bs nu N U Z) :
    Calls Try.prog 19 #[.pointer (some ⟨p, 0, none⟩)] w fun e w' => e = .returned (.int .i64 N) ∧ w' = w := by
  have hc := h.cs
  have hl := h.ms.len Try.underlying66 3
  go_enter Try.func19, Try.ntmps19
  go_wp2
  go_ret
  exact ⟨rfl, rfl⟩
/-- the same classes, paths made shorter -/
structure Halved {K : Type} (U V : K → Option K) : Prop where
  tos : ∀ d x r, To U d x r → ∃ e, To V e x r
  dom : ∀ x, (V x).isSome = (U x).isSome
theorem Halved.refl {K : Type} (U : K → Option K) : Halved U U := ⟨fun d x r h => ⟨d, h⟩, fun _ => rfl⟩
theorem Halved.trans {K : Type} {U V W : K → Option K} (h : Halved U V) (h' : Halved V W) : Halved U W :=
  ⟨fun d x r hx => by obtain ⟨e, he⟩ := h.tos d x r hx; exact h'.tos e x r he, fun x => (h'.dom x).trans (h.dom x)⟩
theorem Halved.eq2 {K : Type} {U V : K → Option K} (h : Halved U V) {Z : K → Option Int} (hF : Forest U Z) (x y : K) : Eq2 V x y ↔ Eq2 U x y := Eq2.of_same h.tos (fun x hx => by rwa [h.dom] at hx) hF x y

set_option maxRecDepth 100000 in
set_option maxHeartbeats 2000000 in
theorem root_calls {p bu bs nu N : Nat} {U Z : Int → Option Int} (w : World) (h : Uni κI w p bu bs nu N U Z) (hn : nu < maxLen) {k : Int} (hk : (U k).isSome = true) :
    Calls Try.prog 34 #[.pointer (some ⟨p, 0, none⟩), .int .i64 k] w fun e w' => ∃ (r : Int) (U' : Int → Option Int), e = .returned (.int .i64 r) ∧ (∃ d, To U d k r) ∧ Uni κI w' p bu bs nu N U' Z ∧ Halved U U' ∧ KeepsBut (UX bu bs) w w' := by
  obtain ⟨j0, hj0⟩ := Option.isSome_iff_exists.1 hk
  obtain ⟨d0, r, hr⟩ := h.F.up k j0 hj0
  have hmix : Try.prog.follows .mixedOrders = true := by kernel_rfl
  go_enter Try.func34, Try.ntmps34
  go_wp2
  go_loopg [1] d0 (fun kq v1 wr => ∃ (k' : Int) (U' : Int → Option Int) (d : Nat), v1 = .int .i64 k' ∧ d ≤ kq ∧ To U' d k' r ∧ Uni κI wr p bu bs nu N U' Z ∧ Halved U U' ∧ KeepsBut (UX bu bs) w wr)
  case atStart => exact ⟨k, U, d0, rfl, Nat.le_refl _, hr, h, Halved.refl _, KeepsBut.refl _ _⟩
  case round =>
    obtain ⟨k', U', d, rfl, hd, hto, hu, hh, hkp⟩ := hrel
    have hc := hu.cu
    obtain ⟨j, hj⟩ := hto.has
    have hwk := hu.mu.wfs hj
    have hl := hu.mu.look κI_ok κI_ok Try.underlying66 hwk.1
    rw [hj] at hl
    simp only [κI, Option.getD_some] at hl
    by_cases e : j = k'
    · subst e
      have ht : (j != j) = false := by simp
      have hr' : r = j := ((To.zero hj).det hto).2.symm
      subst hr'
      go_wp2
      go_ret
      exact ⟨r, U', rfl, ⟨d0, hr⟩, hu, hh, hkp⟩
    · have ht : (j != k') = true := by simpa using e
      have hto' := hto
      cases hto with
      | zero h1 => rw [hj] at h1; exact absurd (Option.some.inj h1) e
      | @step d1 _ j1 _ h1 h2 h3 =>
        rw [hj] at h1
        obtain rfl := Option.some.inj h1
        obtain ⟨m, hm⟩ := h3.has
        have hwm := hu.mu.wfs hm
        obtain ⟨hF', heq, hdom⟩ := hu.F.halve hj e hm
        have hstep : ∃ d2, d2 + 1 ≤ d1 + 1 ∧ To (updK U' k' m) d2 m r := by
          cases h3 with
          | zero h4 =>
            rw [hm] at h4
            obtain rfl := Option.some.inj h4
            exact ⟨0, by omega, .zero (by rw [updK_other e]; exact hm)⟩
          | @step d3 _ m1 _ h4 h5 h6 =>
            rw [hm] at h4
            obtain rfl := Option.some.inj h4
            obtain ⟨e2, he2, h7⟩ := To.halve hj e hm d3 d3 m r (Nat.le_refl _) h6
            exact ⟨e2, by omega, h7⟩
        obtain ⟨d2, hd2, hto2⟩ := hstep
        have hhv : Halved U' (updK U' k' m) := ⟨fun d x r hx => by obtain ⟨e2, _, h7⟩ := To.halve hj e hm d d x r (Nat.le_refl _) hx; exact ⟨e2, h7⟩, hdom⟩
        have hl2 := hu.mu.look κI_ok κI_ok Try.underlying66 hwk.2
        rw [hm] at hl2
        simp only [κI, Option.getD_some] at hl2
        have hmd : MapAt κI κI wr.drew bu U' nu := hu.mu.same rfl
        have hld := hmd.look κI_ok κI_ok Try.underlying66 hwk.1
        rw [hj] at hld
        simp only [κI, Option.getD_some] at hld
        have hl2d := hmd.look κI_ok κI_ok Try.underlying66 hwk.2
        rw [hm] at hl2d
        simp only [κI, Option.getD_some] at hl2d
        have hcd : wr.drew.cell? ⟨p, 0, none⟩ = some (.map (some bu)) := hc
        obtain ⟨w1, hs1, hs2, hs3⟩ := hmd.store κI_ok κI_ok Try.underlying66 hwk.1 hwm.2 hn
        rw [hj] at hs2
        simp only [Option.isSome_some, if_true] at hs2
        simp only [κI] at hs1
        have hk1 : KeepsBut (UX bu bs) wr w1 := (show KeepsBut (UX bu bs) wr wr.drew from ⟨rfl, rfl, rfl, Nat.le_refl _, fun _ _ _ => rfl⟩).trans (keeps_grown hs3.grown (.inl rfl))
        have hne := hu.pne
        have hc1 : w1.cell? ⟨p, 0, none⟩ = some (.map (some bu)) := hk1.cell hu.cu (fun h => h.elim hne.1 hne.2)
        have hu1 : Uni κI w1 p bu bs nu N (updK U' k' m) Z := ⟨hc1, hk1.cell hu.cs (fun h => h.elim hne.1 hne.2), hs2, hu.ms.same ((hs3.grown.block bs (show bs < wr.drew.heap.size from hu.ms.lt) (fun e => by injection e with e; exact hu.ne e.symm)).trans rfl), hu.ne, hF'⟩
        have hl3 := hs2.look κI_ok κI_ok Try.underlying66 hwk.1
        rw [updK_same] at hl3
        simp only [κI, Option.getD_some] at hl3
        have hfin : Aside0 (∃ (k'' : Int) (U'' : Int → Option Int) (d : Nat), Value.int .i64 m = .int .i64 k'' ∧ d ≤ d1 ∧ To U'' d k'' r ∧ Uni κI w1 p bu bs nu N U'' Z ∧ Halved U U'' ∧ KeepsBut (UX bu bs) w w1) :=
          ⟨⟨m, _, d2, rfl, by omega, hto2, hu1, hh.trans hhv, hkp.trans hk1⟩⟩
        clear hs2 hs3 hk1 hu1 hu hmd hF' heq hdom
        obtain ⟨gk', rfl⟩ : ∃ q, gk = q + 1 := ⟨gk - 1, by omega⟩
        go_wp2
        go_region_with (fail)
        all_goals
          go_wp2
          go_roundg gk'
          case measure => omega
          case rel =>
            obtain ⟨k'', U'', d, a1, a2, a3⟩ := hfin.out
            exact ⟨k'', U'', d, a1, by omega, a3⟩
end Go.Proofs.Yteeapfmgdlcgfaa.A


namespace Go.Proofs.Yteeapfmgdlcgfaa.A
open Go.RowKit Go.Maps Go.Sort Go.Shelf Go.Proofs.YteeapfmgdlcgfaaW.PrintWords Go.Proofs.YteeapfmgdlcgfaaW.PrintLast
set_option linter.unusedVariables false
set_option linter.unusedSimpArgs false

/-- strings -/
abbrev Str := ByteArray
def κS : Kind Str := { t := 9, val := .string, lit := fun s => .string s.data.toList, wf := fun s => s.size ≤ maxLen, z := ⟨#[]⟩ }
theorem str_ext {a b : Str} (h : a.data.toList = b.data.toList) : a = b := by
  cases a; cases b
  congr 1
  exact Array.ext' h
theorem str_yes {a b : Str} (h : a = b) : a.toList = b.toList := by rw [h]
theorem str_no {a b : Str} (h : a ≠ b) : ¬ a.toList = b.toList := fun g => h (str_ext (by rw [← ByteArray.toList_eq, ← ByteArray.toList_eq]; exact g))
theorem κS_ok : KindOk κS where
  plain := fun {k} h => plainElem_string Try.underlying9 h
  inv := fun h => by
    obtain ⟨s, h1, h2, h3⟩ := plainElem_string_inv Try.underlying9 h
    exact ⟨s, h3, h1, h2⟩
  zero := fun w => by kernel_rfl
  wfz := by show (0 : Nat) ≤ maxLen; omega
  inj := fun h => by
    injection h with h
    exact str_ext h
  keyed := string_keyed Try.underlying9
  key := fun {k} h => Go.WideMaps.keyOf_string_mk Try.underlying9 h
  keyinv := fun {v l} h => by
    obtain ⟨s, h1, h2, h3⟩ := Go.WideMaps.string_of_keyOf Try.underlying9 h
    exact ⟨s, h3, h1, h2⟩
  isKey := fun k => by simp [κS, WideAt.IsKeyLit]
set_option maxRecDepth 100000 in
set_option maxHeartbeats 1000000 in
theorem new_callsS (w : World) : Calls Try.prog 11 #[] w fun e w' => ∃ p bu bs, e = .returned (.pointer (some ⟨p, 0, none⟩)) ∧ w.heap.size ≤ p ∧ w.heap.size ≤ bu ∧ w.heap.size ≤ bs ∧ Uni κS w' p bu bs 0 0 (fun _ => none) (fun _ => none) ∧ Below w.heap.size w w' := by
  have hmm := @run_makeMap Try.prog
  go_enter Try.func11, Try.ntmps11
  go_wp2
  go_ret
  obtain ⟨w1, h1⟩ : ∃ w1, (w.alloc (Obj.map #[] 0)) = w1 := ⟨_, rfl⟩
  have hs1 : w1.heap.size = w.heap.size + 1 := by rw [← h1]; simp
  have m1 : MapAt κS κS w1 w.heap.size (fun _ => none) 0 := by rw [← h1]; exact MapAt.made w
  have m2 : MapAt κS κI (w1.alloc (Obj.map #[] 0)) w1.heap.size (fun _ => none) 0 := MapAt.made w1
  have hs2 : (w1.alloc (Obj.map #[] 0)).heap.size = w.heap.size + 2 := by simp [hs1]
  have hB : Below w.heap.size w w1 := by rw [← h1]; exact below_alloc (Below.refl _ _) _
  refine ⟨w.heap.size + 1 + 1, w.heap.size, w.heap.size + 1, rfl, by omega, by omega, by omega, ?_, ?_⟩
  · rw [h1]
    refine ⟨by simp [go_sem, hs1], by simp [go_sem, hs1], ?_, ?_, by omega, ⟨fun k j h => (nomatch h), fun k => ⟨fun h => (nomatch h), fun h => (nomatch h)⟩⟩⟩
    · refine m1.same ?_
      rw [Below.heap_alloc _ _ _ (by rw [hs2]; omega), Below.heap_alloc _ _ _ (by rw [hs1]; omega)]
    · rw [← hs1]
      exact m2.same (Below.heap_alloc _ _ _ (by rw [hs2]; omega))
  · rw [h1]
    exact below_alloc (below_alloc hB _) _
set_option maxRecDepth 100000 in
set_option maxHeartbeats 1000000 in
theorem has_callsS {p bu bs nu N : Nat} {U : Str → Option Str} {Z : Str → Option Int} (w : World) (h : Uni κS w p bu bs nu N U Z) {k : Str} (hk : κS.wf k) :
    Calls Try.prog 41 #[.pointer (some ⟨p, 0, none⟩), .string k] w fun e w' => e = .returned (.bool (U k).isSome) ∧ w' = w := by
  have hc := h.cu
  have hl := h.mu.look_ok κS_ok κS_ok Try.underlying69 hk
  simp only [κS] at hl
  go_enter Try.func41, Try.ntmps41
  go_wp2
  go_ret
  exact ⟨rfl, rfl⟩
set_option maxRecDepth 100000 in
set_option maxHeartbeats 1000000 in
theorem len_callsS {p bu bs nu N : Nat} {U : Str → Option Str} {Z : Str → Option Int} (w : World) (h : Uni κS w p bu bs nu N U Z) :
    Calls Try.prog 20 #[.pointer (some ⟨p, 0, none⟩)] w fun e w' => e = .returned (.int .i64 N) ∧ w' = w := by
  have hc := h.cs
  have hl := h.ms.len Try.underlying70 3
  go_enter Try.func20, Try.ntmps20
  go_wp2
  go_ret
  exact ⟨rfl, rfl⟩
set_option maxRecDepth 100000 in
set_option maxHeartbeats 2000000 in
theorem root_callsS {p bu bs nu N : Nat} {U : Str → Option Str} {Z : Str → Option Int} (w : World) (h : Uni κS w p bu bs nu N U Z) (hn : nu < maxLen) {k : Str} (hk : (U k).isSome = true) :
    Calls Try.prog 36 #[.pointer (some ⟨p, 0, none⟩), .string k] w fun e w' => ∃ (r : Str) (U' : Str → Option Str), e = .returned (.string r) ∧ (∃ d, To U d k r) ∧ Uni κS w' p bu bs nu N U' Z ∧ Halved U U' ∧ KeepsBut (UX bu bs) w w' := by
  obtain ⟨j0, hj0⟩ := Option.isSome_iff_exists.1 hk
  obtain ⟨d0, r, hr⟩ := h.F.up k j0 hj0
  have hmix : Try.prog.follows .mixedOrders = true := by kernel_rfl
  go_enter Try.func36, Try.ntmps36
  go_wp2
  go_loopg [1] d0 (fun kq v1 wr => ∃ (k' : Str) (U' : Str → Option Str) (d : Nat), v1 = .string k' ∧ d ≤ kq ∧ To U' d k' r ∧ Uni κS wr p bu bs nu N U' Z ∧ Halved U U' ∧ KeepsBut (UX bu bs) w wr)
  case atStart => exact ⟨k, U, d0, rfl, Nat.le_refl _, hr, h, Halved.refl _, KeepsBut.refl _ _⟩
  case round =>
    obtain ⟨k', U', d, rfl, hd, hto, hu, hh, hkp⟩ := hrel
    have hc := hu.cu
    obtain ⟨j, hj⟩ := hto.has
    have hwk := hu.mu.wfs hj
    have hl := hu.mu.look κS_ok κS_ok Try.underlying69 hwk.1
    rw [hj] at hl
    simp only [κS, Option.getD_some] at hl
    by_cases e : j = k'
    · subst e
      have hr' : r = j := ((To.zero hj).det hto).2.symm
      subst hr'
      go_wp2
      go_ret
      exact ⟨r, U', rfl, ⟨d0, hr⟩, hu, hh, hkp⟩
    · have ht := str_no e
      have ht2 : (j.toList == k'.toList) = false := beq_false_of_ne ht
      have hto' := hto
      cases hto with
      | zero h1 => rw [hj] at h1; exact absurd (Option.some.inj h1) e
      | @step d1 _ j1 _ h1 h2 h3 =>
        rw [hj] at h1
        obtain rfl := Option.some.inj h1
        obtain ⟨m, hm⟩ := h3.has
        have hwm := hu.mu.wfs hm
        obtain ⟨hF', heq, hdom⟩ := hu.F.halve hj e hm
        have hstep : ∃ d2, d2 + 1 ≤ d1 + 1 ∧ To (updK U' k' m) d2 m r := by
          cases h3 with
          | zero h4 =>
            rw [hm] at h4
            obtain rfl := Option.some.inj h4
            exact ⟨0, by omega, .zero (by rw [updK_other e]; exact hm)⟩
          | @step d3 _ m1 _ h4 h5 h6 =>
            rw [hm] at h4
            obtain rfl := Option.some.inj h4
            obtain ⟨e2, he2, h7⟩ := To.halve hj e hm d3 d3 m r (Nat.le_refl _) h6
            exact ⟨e2, by omega, h7⟩
        obtain ⟨d2, hd2, hto2⟩ := hstep
        have hhv : Halved U' (updK U' k' m) := ⟨fun d x r hx => by obtain ⟨e2, _, h7⟩ := To.halve hj e hm d d x r (Nat.le_refl _) hx; exact ⟨e2, h7⟩, hdom⟩
        have hl2 := hu.mu.look κS_ok κS_ok Try.underlying69 hwk.2
        rw [hm] at hl2
        simp only [κS, Option.getD_some] at hl2
        have hmd : MapAt κS κS wr.drew bu U' nu := hu.mu.same rfl
        have hld := hmd.look κS_ok κS_ok Try.underlying69 hwk.1
        rw [hj] at hld
        simp only [κS, Option.getD_some] at hld
        have hl2d := hmd.look κS_ok κS_ok Try.underlying69 hwk.2
        rw [hm] at hl2d
        simp only [κS, Option.getD_some] at hl2d
        have hcd : wr.drew.cell? ⟨p, 0, none⟩ = some (.map (some bu)) := hc
        obtain ⟨w1, hs1, hs2, hs3⟩ := hmd.store κS_ok κS_ok Try.underlying69 hwk.1 hwm.2 hn
        rw [hj] at hs2
        simp only [Option.isSome_some, if_true] at hs2
        simp only [κS] at hs1
        have hk1 : KeepsBut (UX bu bs) wr w1 := (show KeepsBut (UX bu bs) wr wr.drew from ⟨rfl, rfl, rfl, Nat.le_refl _, fun _ _ _ => rfl⟩).trans (keeps_grown hs3.grown (.inl rfl))
        have hne := hu.pne
        have hc1 : w1.cell? ⟨p, 0, none⟩ = some (.map (some bu)) := hk1.cell hu.cu (fun h => h.elim hne.1 hne.2)
        have hu1 : Uni κS w1 p bu bs nu N (updK U' k' m) Z := ⟨hc1, hk1.cell hu.cs (fun h => h.elim hne.1 hne.2), hs2, hu.ms.same ((hs3.grown.block bs (show bs < wr.drew.heap.size from hu.ms.lt) (fun e => by injection e with e; exact hu.ne e.symm)).trans rfl), hu.ne, hF'⟩
        have hl3 := hs2.look κS_ok κS_ok Try.underlying69 hwk.1
        rw [updK_same] at hl3
        simp only [κS, Option.getD_some] at hl3
        have hfin : Aside0 (∃ (k'' : Str) (U'' : Str → Option Str) (d : Nat), Value.string m = .string k'' ∧ d ≤ d1 ∧ To U'' d k'' r ∧ Uni κS w1 p bu bs nu N U'' Z ∧ Halved U U'' ∧ KeepsBut (UX bu bs) w w1) :=
          ⟨⟨m, _, d2, rfl, by omega, hto2, hu1, hh.trans hhv, hkp.trans hk1⟩⟩
        clear hs2 hs3 hk1 hu1 hu hmd hF' heq hdom
        obtain ⟨gk', rfl⟩ : ∃ q, gk = q + 1 := ⟨gk - 1, by omega⟩
        go_wp2
        go_region_with (fail)
        all_goals
          go_wp2
          go_roundg gk'
          case measure => omega
          case rel =>
            obtain ⟨k'', U'', d, a1, a2, a3⟩ := hfin.out
            exact ⟨k'', U'', d, a1, by omega, a3⟩
end Go.Proofs.Yteeapfmgdlcgfaa.A


namespace Go.Proofs.Yteeapfmgdlcgfaa.A
open Go.RowKit Go.Maps Go.Proofs.YteeapfmgdlcgfaaW.PrintWords Go.Proofs.YteeapfmgdlcgfaaW.PrintLast
set_option linter.unusedVariables false
set_option linter.unusedSimpArgs false

set_option maxRecDepth 100000 in
set_option maxHeartbeats 2000000 in
theorem add_had {p bu bs nu N : Nat} {U Z : Int → Option Int} (w : World) (h : Uni κI w p bu bs nu N U Z) {k : Int} (hk : κI.wf k) (hu : (U k).isSome = true) :
    Calls Try.prog 22 #[.pointer (some ⟨p, 0, none⟩), .int .i64 k] w fun e w' => e = .returned (.bool false) ∧ w' = w := by
  have hc := h.cu
  have hl := h.mu.look_ok κI_ok κI_ok Try.underlying66 hk
  rw [hu] at hl
  simp only [κI] at hl
  go_enter Try.func22, Try.ntmps22
  go_wp2
  go_ret
  exact ⟨rfl, rfl⟩
set_option maxRecDepth 100000 in
set_option maxHeartbeats 2000000 in
theorem add_new {p bu bs nu N : Nat} {U Z : Int → Option Int} (w : World) (h : Uni κI w p bu bs nu N U Z) {k : Int} (hk : κI.wf k) (hu : U k = none) (hn : nu < maxLen) (hN : N < maxLen) :
    Calls Try.prog 22 #[.pointer (some ⟨p, 0, none⟩), .int .i64 k] w fun e w' => e = .returned (.bool true) ∧ Uni κI w' p bu bs (nu + 1) (N + 1) (updK U k k) (updK Z k 1) ∧ KeepsBut (UX bu bs) w w' := by
  have hmix : Try.prog.follows .mixedOrders = true := by kernel_rfl
  have hZ : Z k = none := by
    have := h.F.z k
    rw [hu] at this
    cases hz : Z k with
    | none => rfl
    | some v => rw [hz] at this; exact absurd (this.1 rfl) (by simp)
  have hc := h.cu
  have hcs := h.cs
  have hne := h.pne
  have hl := h.mu.look_ok κI_ok κI_ok Try.underlying66 hk
  rw [hu] at hl
  simp only [κI, Option.isSome_none] at hl
  have hmd : MapAt κI κI w.drew bu U nu := h.mu.same rfl
  obtain ⟨v0, st, w1, w2, r1, g1, r2, g2, hm2⟩ := hmd.entry κI_ok κI_ok Try.underlying66 hk hk hn
  rw [hu] at hm2
  have k0 : KeepsBut (UX bu bs) w w.drew := ⟨rfl, rfl, rfl, Nat.le_refl _, fun _ _ _ => rfl⟩
  have k1 := k0.trans (keeps_grown g1 (X := UX bu bs) (.inl rfl))
  have k2 := k1.trans (keeps_grown g2 (X := UX bu bs) (.inl rfl))
  have hsd : bs < w.drew.heap.size := h.ms.lt
  have hms2 : MapAt κI κI w2 bs Z N := h.ms.same ((g2.block bs (Nat.lt_of_lt_of_le hsd g1.size) (fun e => by injection e with e; exact h.ne e.symm)).trans (g1.block bs hsd (fun e => by injection e with e; exact h.ne e.symm)))
  obtain ⟨v0', st', w3, w4, r3, g3, r4, g4, hm4⟩ := hms2.entry κI_ok κI_ok Try.underlying66 hk (v := 1) (by show (Lit.int .i64 1).wf = true; decide) hN
  rw [hZ] at hm4
  have k3 := k2.trans (keeps_grown g3 (X := UX bu bs) (.inr rfl))
  have k4 := k3.trans (keeps_grown g4 (X := UX bu bs) (.inr rfl))
  have hnx : ¬ UX bu bs p := fun h => h.elim hne.1 hne.2
  have c0 := k0.cell hc hnx
  have c1 := k1.cell hc hnx
  have c2 := k2.cell hc hnx
  have c3 := k3.cell hc hnx
  have d0 := k0.cell hcs hnx
  have d1 := k1.cell hcs hnx
  have d2 := k2.cell hcs hnx
  have d3 := k3.cell hcs hnx
  have hu2 : bu < w2.heap.size := hm2.lt
  have hfin : Aside0 (Uni κI w4 p bu bs (nu + 1) (N + 1) (updK U k k) (updK Z k 1) ∧ KeepsBut (UX bu bs) w w4) := by
    refine ⟨⟨k4.cell hc hnx, k4.cell hcs hnx, ?_, hm4, h.ne, (h.F.add hu 1).1⟩, k4⟩
    exact hm2.same ((g4.block bu (Nat.lt_of_lt_of_le hu2 g3.size) (fun e => by injection e with e; exact h.ne e)).trans (g3.block bu hu2 (fun e => by injection e with e; exact h.ne e)))
  simp only [κI, goInt] at r1 r2 r3 r4
  clear hm2 hm4 hms2 k0 k1 k2 k3 k4 g1 g2 g3 g4 hmd hsd hu2
  go_enter Try.func22, Try.ntmps22
  go_wp2
  go_region_with (fail)
  all_goals
    go_wp2
    go_ret
    exact ⟨rfl, hfin.out⟩
end Go.Proofs.Yteeapfmgdlcgfaa.A


namespace Go.Proofs.Yteeapfmgdlcgfaa.A
open Go.RowKit Go.Maps Go.Sort Go.Shelf Go.Proofs.YteeapfmgdlcgfaaW.PrintWords Go.Proofs.YteeapfmgdlcgfaaW.PrintLast
set_option linter.unusedVariables false
set_option linter.unusedSimpArgs false

set_option maxRecDepth 100000 in
set_option maxHeartbeats 2000000 in
theorem add_hadS {p bu bs nu N : Nat} {U : Str → Option Str} {Z : Str → Option Int} (w : World) (h : Uni κS w p bu bs nu N U Z) {k : Str} (hk : κS.wf k) (hu : (U k).isSome = true) :
    Calls Try.prog 35 #[.pointer (some ⟨p, 0, none⟩), .string k] w fun e w' => e = .returned (.bool false) ∧ w' = w := by
  have hc := h.cu
  have hl := h.mu.look_ok κS_ok κS_ok Try.underlying69 hk
  rw [hu] at hl
  simp only [κS, κI] at hl
  go_enter Try.func35, Try.ntmps35
  go_wp2
  go_ret
  exact ⟨rfl, rfl⟩
set_option maxRecDepth 100000 in
set_option maxHeartbeats 2000000 in
theorem add_newS {p bu bs nu N : Nat} {U : Str → Option Str} {Z : Str → Option Int} (w : World) (h : Uni κS w p bu bs nu N U Z) {k : Str} (hk : κS.wf k) (hu : U k = none) (hn : nu < maxLen) (hN : N < maxLen) :
    Calls Try.prog 35 #[.pointer (some ⟨p, 0, none⟩), .string k] w fun e w' => e = .returned (.bool true) ∧ Uni κS w' p bu bs (nu + 1) (N + 1) (updK U k k) (updK Z k 1) ∧ KeepsBut (UX bu bs) w w' := by
  have hmix : Try.prog.follows .mixedOrders = true := by kernel_rfl
  have hZ : Z k = none := by
    have := h.F.z k
    rw [hu] at this
    cases hz : Z k with
    | none => rfl
    | some v => rw [hz] at this; exact absurd (this.1 rfl) (by simp)
  have hc := h.cu
  have hcs := h.cs
  have hne := h.pne
  have hl := h.mu.look_ok κS_ok κS_ok Try.underlying69 hk
  rw [hu] at hl
  simp only [κS, κI, Option.isSome_none] at hl
  have hmd : MapAt κS κS w.drew bu U nu := h.mu.same rfl
  obtain ⟨v0, st, w1, w2, r1, g1, r2, g2, hm2⟩ := hmd.entry κS_ok κS_ok Try.underlying69 hk hk hn
  rw [hu] at hm2
  have k0 : KeepsBut (UX bu bs) w w.drew := ⟨rfl, rfl, rfl, Nat.le_refl _, fun _ _ _ => rfl⟩
  have k1 := k0.trans (keeps_grown g1 (X := UX bu bs) (.inl rfl))
  have k2 := k1.trans (keeps_grown g2 (X := UX bu bs) (.inl rfl))
  have hsd : bs < w.drew.heap.size := h.ms.lt
  have hms2 : MapAt κS κI w2 bs Z N := h.ms.same ((g2.block bs (Nat.lt_of_lt_of_le hsd g1.size) (fun e => by injection e with e; exact h.ne e.symm)).trans (g1.block bs hsd (fun e => by injection e with e; exact h.ne e.symm)))
  obtain ⟨v0', st', w3, w4, r3, g3, r4, g4, hm4⟩ := hms2.entry κS_ok κI_ok Try.underlying70 hk (v := 1) (by show (Lit.int .i64 1).wf = true; decide) hN
  rw [hZ] at hm4
  have k3 := k2.trans (keeps_grown g3 (X := UX bu bs) (.inr rfl))
  have k4 := k3.trans (keeps_grown g4 (X := UX bu bs) (.inr rfl))
  have hnx : ¬ UX bu bs p := fun h => h.elim hne.1 hne.2
  have c0 := k0.cell hc hnx
  have c1 := k1.cell hc hnx
  have c2 := k2.cell hc hnx
  have c3 := k3.cell hc hnx
  have d0 := k0.cell hcs hnx
  have d1 := k1.cell hcs hnx
  have d2 := k2.cell hcs hnx
  have d3 := k3.cell hcs hnx
  have hu2 : bu < w2.heap.size := hm2.lt
  have hfin : Aside0 (Uni κS w4 p bu bs (nu + 1) (N + 1) (updK U k k) (updK Z k 1) ∧ KeepsBut (UX bu bs) w w4) := by
    refine ⟨⟨k4.cell hc hnx, k4.cell hcs hnx, ?_, hm4, h.ne, (h.F.add hu 1).1⟩, k4⟩
    exact hm2.same ((g4.block bu (Nat.lt_of_lt_of_le hu2 g3.size) (fun e => by injection e with e; exact h.ne e)).trans (g3.block bu hu2 (fun e => by injection e with e; exact h.ne e)))
  simp only [κS, κI, goInt] at r1 r2 r3 r4
  clear hm2 hm4 hms2 k0 k1 k2 k3 k4 g1 g2 g3 g4 hmd hsd hu2
  go_enter Try.func35, Try.ntmps35
  go_wp2
  go_region_with (fail)
  all_goals
    go_wp2
    go_ret
    exact ⟨rfl, hfin.out⟩
end Go.Proofs.Yteeapfmgdlcgfaa.A


namespace Go.Proofs.Yteeapfmgdlcgfaa.A
open Go.RowKit Go.Maps Go.Proofs.YteeapfmgdlcgfaaW.PrintWords Go.Proofs.YteeapfmgdlcgfaaW.PrintLast
set_option linter.unusedVariables false
set_option linter.unusedSimpArgs false

def addE {K : Type} (E : K → K → Prop) (k : K) (x y : K) : Prop := E x y ∨ (x = k ∧ y = k)
def joinE {K : Type} (E : K → K → Prop) (a b x y : K) : Prop := E x y ∨ (E x a ∧ E y b) ∨ (E x b ∧ E y a)
/-- such a set of classes, by what is in one class -/
def UN {K : Type} (κ : Kind K) (w : World) (p bu bs nu N : Nat) (E : K → K → Prop) : Prop := ∃ U Z, Uni κ w p bu bs nu N U Z ∧ ∀ x y, Eq2 U x y ↔ E x y
theorem UN.keep {K : Type} {κ : Kind K} {w w' : World} {p bu bs nu N : Nat} {E : K → K → Prop} (h : UN κ w p bu bs nu N E) {X : Nat → Prop} (hk : KeepsBut X w w') (hp : ¬ X p) (hu : ¬ X bu) (hs : ¬ X bs) : UN κ w' p bu bs nu N E := by
  obtain ⟨U, Z, h1, h2⟩ := h
  exact ⟨U, Z, h1.keep hk hp hu hs, h2⟩
theorem UN.congr {K : Type} {κ : Kind K} {w : World} {p bu bs nu N : Nat} {E E' : K → K → Prop} (h : UN κ w p bu bs nu N E) (he : ∀ x y, E x y ↔ E' x y) : UN κ w p bu bs nu N E' := by
  obtain ⟨U, Z, h1, h2⟩ := h
  exact ⟨U, Z, h1, fun x y => (h2 x y).trans (he x y)⟩
theorem addE_had {K : Type} {U : K → Option K} {Z : K → Option Int} (hF : Forest U Z) {k : K} (hk : (U k).isSome = true) (x y : K) : Eq2 U x y ↔ addE (Eq2 U) k x y := by
  constructor
  · exact .inl
  · rintro (h | ⟨rfl, rfl⟩)
    · exact h
    · exact (Eq2.self_iff hF).2 hk

theorem add_calls {p bu bs nu N : Nat} {U Z : Int → Option Int} (w : World) (h : Uni κI w p bu bs nu N U Z) {k : Int} (hk : κI.wf k) (hn : nu < maxLen) (hN : N < maxLen) :
    Calls Try.prog 22 #[.pointer (some ⟨p, 0, none⟩), .int .i64 k] w fun e w' => ∃ (r : Bool) (U' Z' : Int → Option Int), e = .returned (.bool r) ∧ (r = true ↔ ¬ Eq2 U k k) ∧ Uni κI w' p bu bs (nu + r.toNat) (N + r.toNat) U' Z' ∧ (∀ x y, Eq2 U' x y ↔ addE (Eq2 U) k x y) ∧ KeepsBut (UX bu bs) w w' := by
  cases hu : U k with
  | none =>
    refine (add_new w h hk hu hn hN).mono ?_
    rintro e w' ⟨rfl, h1, h2⟩
    refine ⟨true, _, _, rfl, ?_, h1, (h.F.add hu 1).2, h2⟩
    rw [Eq2.self_iff h.F, hu]; simp
  | some j =>
    have hs : (U k).isSome = true := by rw [hu]; rfl
    refine (add_had w h hk hs).mono ?_
    rintro e w' ⟨rfl, rfl⟩
    refine ⟨false, U, Z, rfl, ?_, h, addE_had h.F hs, KeepsBut.refl _ _⟩
    rw [Eq2.self_iff h.F, hs]; simp

theorem link_world {p bu bs nu N : Nat} {U Z : Int → Option Int} (W : World) (h : Uni κI W p bu bs nu N U Z) (hn : nu < maxLen) (hN : N < maxLen) {a b : Int} (ha : U a = some a) (hb : U b = some b) (hab : a ≠ b) {va vb : Int} (hva : (Z a).getD 0 = va) (hvb : (Z b).getD 0 = vb) :
    ∃ (W1 W2 W3 : World), (Instr.lookup 66 (.map (some bs)) (.int .i64 a) false).run Try.prog W = .ok (.int .i64 va) W ∧ (Instr.lookup 66 (.map (some bs)) (.int .i64 b) false).run Try.prog W = .ok (.int .i64 vb) W ∧
      (Instr.mapUpdate 66 (.map (some bu)) (.int .i64 b) (.int .i64 a)).run Try.prog W = .ok () W1 ∧
      (Instr.lookup 66 (.map (some bs)) (.int .i64 a) false).run Try.prog W1.drew = .ok (.int .i64 va) W1.drew ∧ (Instr.lookup 66 (.map (some bs)) (.int .i64 b) false).run Try.prog W1.drew = .ok (.int .i64 vb) W1.drew ∧
      (Instr.mapUpdate 66 (.map (some bs)) (.int .i64 a) (.int .i64 (IntKind.i64.wrap (va + vb)))).run Try.prog W1.drew = .ok () W2 ∧
      (Builtin.delete_ #[66, 3] 0 #[.map (some bs), .int .i64 b]).run Try.prog W2 = .ok (.tuple #[]) W3 ∧
      W1.cell? ⟨p, 1, none⟩ = some (.map (some bs)) ∧ W1.drew.cell? ⟨p, 1, none⟩ = some (.map (some bs)) ∧ W2.cell? ⟨p, 1, none⟩ = some (.map (some bs)) ∧
      Uni κI W3 p bu bs nu (N - 1) (updK U b a) (remK (updK Z a (IntKind.i64.wrap (va + vb))) b) ∧ KeepsBut (UX bu bs) W W3 := by
  have hwa := (h.mu.wfs ha).1
  have hwb := (h.mu.wfs hb).1
  have hne := h.pne
  have hnx : ¬ UX bu bs p := fun h => h.elim hne.1 hne.2
  obtain ⟨W1, r1, m1, t1⟩ := h.mu.store κI_ok κI_ok Try.underlying66 hwb hwa hn
  rw [hb] at m1
  simp only [Option.isSome_some, if_true] at m1
  have k1 : KeepsBut (UX bu bs) W W1 := keeps_grown t1.grown (.inl rfl)
  have ms1 : MapAt κI κI W1 bs Z N := h.ms.same (t1.grown.block bs h.ms.lt (fun e => by injection e with e; exact h.ne e.symm))
  have ms1d : MapAt κI κI W1.drew bs Z N := ms1.same rfl
  have hZa : (Z a).isSome = true := (h.F.z a).2 ha
  have hZb : (Z b).isSome = true := (h.F.z b).2 hb
  have la := h.ms.look κI_ok κI_ok Try.underlying66 hwa
  have lb := h.ms.look κI_ok κI_ok Try.underlying66 hwb
  have la1 := ms1d.look κI_ok κI_ok Try.underlying66 hwa
  have lb1 := ms1d.look κI_ok κI_ok Try.underlying66 hwb
  obtain ⟨W2, r2, m2, t2⟩ := ms1d.store κI_ok κI_ok Try.underlying66 hwa (v := IntKind.i64.wrap ((Z a).getD κI.z + (Z b).getD κI.z)) (by show (Lit.int .i64 _).wf = true; rw [i64_w]; exact wrap64_wf _) hN
  rw [hZa] at m2
  simp only [if_true] at m2
  obtain ⟨W3, r3, m3, t3⟩ := m2.drop κI_ok Try.underlying66 hwb 0
  rw [show (updK Z a (IntKind.i64.wrap ((Z a).getD κI.z + (Z b).getD κI.z)) b).isSome = true by rw [updK_other (fun e => hab e.symm)]; exact hZb] at m3
  simp only [if_true] at m3
  have kd : KeepsBut (UX bu bs) W1 W1.drew := ⟨rfl, rfl, rfl, Nat.le_refl _, fun _ _ _ => rfl⟩
  have k2 := (k1.trans kd).trans (keeps_grown t2.grown (X := UX bu bs) (.inr rfl))
  have k3 := k2.trans (keeps_grown t3.grown (X := UX bu bs) (.inr rfl))
  have hb1 : bu < W1.drew.heap.size := m1.lt
  subst hva hvb
  refine ⟨W1, W2, W3, la, lb, r1, la1, lb1, r2, r3, k1.cell h.cs hnx, (k1.trans kd).cell h.cs hnx, k2.cell h.cs hnx, ⟨k3.cell h.cu hnx, k3.cell h.cs hnx, ?_, m3, h.ne, (h.F.link ha hb hab _).1⟩, k3⟩
  exact m1.same ((t3.grown.block bu (Nat.lt_of_lt_of_le hb1 t2.grown.size) (fun e => by injection e with e; exact h.ne e)).trans (t2.grown.block bu hb1 (fun e => by injection e with e; exact h.ne e)))
theorem Halved.root {K : Type} {U V : K → Option K} (h : Halved U V) {r : K} (hr : U r = some r) : V r = some r := by
  obtain ⟨e, he⟩ := h.tos 0 r r (.zero hr)
  exact he.root
set_option maxRecDepth 100000 in
set_option maxHeartbeats 4000000 in
theorem join_calls {p bu bs nu N : Nat} {U Z : Int → Option Int} (w : World) (h : Uni κI w p bu bs nu N U Z) {a b : Int} (ha : κI.wf a) (hb : κI.wf b) (hn : nu + 2 < maxLen) (hN : N + 2 < maxLen) :
    Calls Try.prog 12 #[.pointer (some ⟨p, 0, none⟩), .int .i64 a, .int .i64 b] w fun e w' => ∃ (ra rb r : Bool) (U' Z' : Int → Option Int), e = .returned (.bool r) ∧ (ra = true ↔ ¬ Eq2 U a a) ∧ (rb = true ↔ ¬ addE (Eq2 U) a b b) ∧ (r = true ↔ ¬ addE (addE (Eq2 U) a) b a b) ∧
      Uni κI w' p bu bs (nu + ra.toNat + rb.toNat) (N + ra.toNat + rb.toNat - r.toNat) U' Z' ∧ (∀ x y, Eq2 U' x y ↔ joinE (addE (addE (Eq2 U) a) b) a b x y) ∧ KeepsBut (UX bu bs) w w' := by
  have hmix : Try.prog.follows .mixedOrders = true := by kernel_rfl
  go_enter Try.func12, Try.ntmps12
  go_wp2_with fail
  refine (add_calls w h ha (by omega) (by omega)).mono ?_
  rintro e w1 ⟨ra, U1, Z1, rfl, hra, h1, he1, k1⟩
  have hra1 : ra.toNat ≤ 1 := by cases ra <;> simp
  go_wp2_with fail
  refine (add_calls w1 h1 hb (by omega) (by omega)).mono ?_
  rintro e w2 ⟨rb, U2, Z2, rfl, hrb, h2, he2, k2⟩
  have hrb1 : rb.toNat ≤ 1 := by cases rb <;> simp
  have hE : ∀ x y, Eq2 U2 x y ↔ addE (addE (Eq2 U) a) b x y := fun x y => by
    rw [he2]; unfold addE; rw [he1]; rfl
  have haa : (U2 a).isSome = true := (Eq2.self_iff h2.F).1 ((hE a a).2 (.inl (.inr ⟨rfl, rfl⟩)))
  have hbb : (U2 b).isSome = true := (Eq2.self_iff h2.F).1 ((hE b b).2 (.inr ⟨rfl, rfl⟩))
  go_wp2_with fail
  refine (root_calls w2 h2 (by omega) haa).mono ?_
  rintro e w3 ⟨r1, U3, rfl, ⟨d1, hto1⟩, h3, hv3, k3⟩
  go_wp2_with fail
  refine (root_calls w3 h3 (by omega) (by rw [hv3.dom]; exact hbb)).mono ?_
  rintro e w4 ⟨r2, U4, rfl, ⟨d2, hto2⟩, h4, hv4, k4⟩
  have hroot1 : U4 r1 = some r1 := hv4.root (hv3.root hto1.root)
  have hroot2 : U4 r2 = some r2 := hv4.root hto2.root
  have hv : Halved U2 U4 := hv3.trans hv4
  obtain ⟨e1, hto1'⟩ := hv.tos _ _ _ hto1
  obtain ⟨e2, hto2'⟩ := hv4.tos _ _ _ hto2
  have hE4 : ∀ x y, Eq2 U4 x y ↔ addE (addE (Eq2 U) a) b x y := fun x y => (hv.eq2 h2.F x y).trans (hE x y)
  have hab : addE (addE (Eq2 U) a) b a b ↔ r1 = r2 := (hE4 a b).symm.trans (Eq2.root_iff hto1' hto2')
  have kk : KeepsBut (UX bu bs) w w4 := ((k1.trans k2).trans k3).trans k4
  have hrb' : rb = true ↔ ¬ addE (Eq2 U) a b b := hrb.trans (not_congr (he1 b b))
  clear hto1 hto2 hE hrb k1 k2 k3 k4 h1 h2 h3 he1 he2 haa hbb hv3 hv4 hv
  by_cases e : r1 = r2
  · have hc : (r1 == r2) = true := beq_iff_eq.2 e
    have hx : addE (addE (Eq2 U) a) b a b := hab.2 e
    have hsym : ∀ x y, addE (addE (Eq2 U) a) b x y → addE (addE (Eq2 U) a) b y x := fun x y hxy => (hE4 _ _).1 ((hE4 _ _).2 hxy).symm
    have htr : ∀ x y z, addE (addE (Eq2 U) a) b x y → addE (addE (Eq2 U) a) b y z → addE (addE (Eq2 U) a) b x z := fun x y z h1 h2 => (hE4 _ _).1 (((hE4 _ _).2 h1).trans ((hE4 _ _).2 h2))
    go_wp2
    go_ret
    refine ⟨ra, rb, false, U4, Z2, rfl, hra, hrb', by simp [hx], h4, fun x y => ?_, kk⟩
    rw [hE4]
    constructor
    · exact .inl
    · rintro (g | ⟨g1, g2⟩ | ⟨g1, g2⟩)
      · exact g
      · exact htr _ _ _ (htr _ _ _ g1 hx) (hsym _ _ g2)
      · exact htr _ _ _ (htr _ _ _ g1 (hsym _ _ hx)) (hsym _ _ g2)
  · have hc : (r1 == r2) = false := beq_false_of_ne e
    have hx : ¬ addE (addE (Eq2 U) a) b a b := fun g => e (hab.1 g)
    have hxa : ∀ x, Eq2 U4 x r1 ↔ addE (addE (Eq2 U) a) b x a := fun x => by
      rw [← hE4]
      exact ⟨fun g => g.trans ⟨r1, 0, e1, .zero hroot1, hto1'⟩, fun g => g.trans ⟨r1, e1, 0, hto1', .zero hroot1⟩⟩
    have hxb : ∀ x, Eq2 U4 x r2 ↔ addE (addE (Eq2 U) a) b x b := fun x => by
      rw [← hE4]
      exact ⟨fun g => g.trans ⟨r2, 0, e2, .zero hroot2, hto2'⟩, fun g => g.trans ⟨r2, e2, 0, hto2', .zero hroot2⟩⟩
    have h4d : Uni κI w4.drew p bu bs (nu + ra.toNat + rb.toNat) (N + ra.toNat + rb.toNat) U4 Z2 := ⟨h4.cu, h4.cs, h4.mu.same rfl, h4.ms.same rfl, h4.ne, h4.F⟩
    have kd : KeepsBut (UX bu bs) w4 w4.drew := ⟨rfl, rfl, rfl, Nat.le_refl _, fun _ _ _ => rfl⟩
    obtain ⟨v1, hv1⟩ : ∃ v, (Z2 r1).getD 0 = v := ⟨_, rfl⟩
    obtain ⟨v2, hv2⟩ : ∃ v, (Z2 r2).getD 0 = v := ⟨_, rfl⟩
    have hcd : w4.drew.cell? ⟨p, 0, none⟩ = some (.map (some bu)) := h4d.cu
    have hcs : w4.drew.cell? ⟨p, 1, none⟩ = some (.map (some bs)) := h4d.cs
    by_cases hlt : v1 < v2
    · have hltb : decide (v1 < v2) = true := decide_eq_true hlt
      obtain ⟨W1, W2, W3, l2, l1, q1, l3, l4, q2, q3, c1, c2, c3, h5, k5⟩ := link_world w4.drew h4d (by omega) (by omega) hroot2 hroot1 (fun g => e g.symm) hv2 hv1
      have hfin : Aside0 (∃ (ra rb r : Bool) (U' Z' : Int → Option Int), Value.bool true = .bool r ∧ (ra = true ↔ ¬ Eq2 U a a) ∧ (rb = true ↔ ¬ addE (Eq2 U) a b b) ∧ (r = true ↔ ¬ addE (addE (Eq2 U) a) b a b) ∧
          Uni κI W3 p bu bs (nu + ra.toNat + rb.toNat) (N + ra.toNat + rb.toNat - r.toNat) U' Z' ∧ (∀ x y, Eq2 U' x y ↔ joinE (addE (addE (Eq2 U) a) b) a b x y) ∧ KeepsBut (UX bu bs) w W3) := by
        refine ⟨⟨ra, rb, true, _, _, rfl, hra, hrb', by simp [hx], h5, fun x y => ?_, (kk.trans kd).trans k5⟩⟩
        rw [(h4.F.link hroot2 hroot1 (fun g => e g.symm) 0).2, hE4, hxa, hxb, hxa, hxb]
        exact or_congr_right or_comm
      clear h5 k5 hra hrb' hxa hxb hE4 hab kk kd h4d hv1 hv2 hx hroot1 hroot2 hto1' hto2' h4 h
      go_wp2
      go_region_with (fail)
      all_goals
        go_wp2
        go_region_with (fail)
        all_goals
          go_wp2
          go_ret
          obtain ⟨ra, rb, r, U', Z', a1, a2⟩ := hfin.out
          exact ⟨ra, rb, r, U', Z', by rw [← a1]; rfl, a2⟩
    · have hltb : decide (v1 < v2) = false := decide_eq_false hlt
      obtain ⟨W1, W2, W3, l2, l1, q1, l3, l4, q2, q3, c1, c2, c3, h5, k5⟩ := link_world w4.drew h4d (by omega) (by omega) hroot1 hroot2 e hv1 hv2
      have hfin : Aside0 (∃ (ra rb r : Bool) (U' Z' : Int → Option Int), Value.bool true = .bool r ∧ (ra = true ↔ ¬ Eq2 U a a) ∧ (rb = true ↔ ¬ addE (Eq2 U) a b b) ∧ (r = true ↔ ¬ addE (addE (Eq2 U) a) b a b) ∧
          Uni κI W3 p bu bs (nu + ra.toNat + rb.toNat) (N + ra.toNat + rb.toNat - r.toNat) U' Z' ∧ (∀ x y, Eq2 U' x y ↔ joinE (addE (addE (Eq2 U) a) b) a b x y) ∧ KeepsBut (UX bu bs) w W3) := by
        refine ⟨⟨ra, rb, true, _, _, rfl, hra, hrb', by simp [hx], h5, fun x y => ?_, (kk.trans kd).trans k5⟩⟩
        rw [(h4.F.link hroot1 hroot2 e 0).2, hE4, hxa, hxb, hxa, hxb]
        exact Iff.rfl
      clear h5 k5 hra hrb' hxa hxb hE4 hab kk kd h4d hv1 hv2 hx hroot1 hroot2 hto1' hto2' h4 h
      go_wp2
      go_region_with (fail)
      all_goals
        go_wp2
        go_region_with (fail)
        all_goals
          go_wp2
          go_ret
          obtain ⟨ra, rb, r, U', Z', a1, a2⟩ := hfin.out
          exact ⟨ra, rb, r, U', Z', by rw [← a1]; rfl, a2⟩
end Go.Proofs.Yteeapfmgdlcgfaa.A


namespace Go.Proofs.Yteeapfmgdlcgfaa.A
open Go.RowKit Go.Maps Go.Sort Go.Shelf Go.Proofs.YteeapfmgdlcgfaaW.PrintWords Go.Proofs.YteeapfmgdlcgfaaW.PrintLast
set_option linter.unusedVariables false
set_option linter.unusedSimpArgs false

theorem add_callsS {p bu bs nu N : Nat} {U : Str → Option Str} {Z : Str → Option Int} (w : World) (h : Uni κS w p bu bs nu N U Z) {k : Str} (hk : κS.wf k) (hn : nu < maxLen) (hN : N < maxLen) :
    Calls Try.prog 35 #[.pointer (some ⟨p, 0, none⟩), .string k] w fun e w' => ∃ (r : Bool) (U' : Str → Option Str) (Z' : Str → Option Int), e = .returned (.bool r) ∧ (r = true ↔ ¬ Eq2 U k k) ∧ Uni κS w' p bu bs (nu + r.toNat) (N + r.toNat) U' Z' ∧ (∀ x y, Eq2 U' x y ↔ addE (Eq2 U) k x y) ∧ KeepsBut (UX bu bs) w w' := by
  cases hu : U k with
  | none =>
    refine (add_newS w h hk hu hn hN).mono ?_
    rintro e w' ⟨rfl, h1, h2⟩
    refine ⟨true, _, _, rfl, ?_, h1, (h.F.add hu 1).2, h2⟩
    rw [Eq2.self_iff h.F, hu]; simp
  | some j =>
    have hs : (U k).isSome = true := by rw [hu]; rfl
    refine (add_hadS w h hk hs).mono ?_
    rintro e w' ⟨rfl, rfl⟩
    refine ⟨false, U, Z, rfl, ?_, h, addE_had h.F hs, KeepsBut.refl _ _⟩
    rw [Eq2.self_iff h.F, hs]; simp

theorem link_worldS {p bu bs nu N : Nat} {U : Str → Option Str} {Z : Str → Option Int} (W : World) (h : Uni κS W p bu bs nu N U Z) (hn : nu < maxLen) (hN : N < maxLen) {a b : Str} (ha : U a = some a) (hb : U b = some b) (hab : a ≠ b) {va vb : Int} (hva : (Z a).getD 0 = va) (hvb : (Z b).getD 0 = vb) :
    ∃ (W1 W2 W3 : World), (Instr.lookup 70 (.map (some bs)) (.string a) false).run Try.prog W = .ok (.int .i64 va) W ∧ (Instr.lookup 70 (.map (some bs)) (.string b) false).run Try.prog W = .ok (.int .i64 vb) W ∧
      (Instr.mapUpdate 69 (.map (some bu)) (.string b) (.string a)).run Try.prog W = .ok () W1 ∧
      (Instr.lookup 70 (.map (some bs)) (.string a) false).run Try.prog W1.drew = .ok (.int .i64 va) W1.drew ∧ (Instr.lookup 70 (.map (some bs)) (.string b) false).run Try.prog W1.drew = .ok (.int .i64 vb) W1.drew ∧
      (Instr.mapUpdate 70 (.map (some bs)) (.string a) (.int .i64 (IntKind.i64.wrap (va + vb)))).run Try.prog W1.drew = .ok () W2 ∧
      (Builtin.delete_ #[70, 9] 0 #[.map (some bs), .string b]).run Try.prog W2 = .ok (.tuple #[]) W3 ∧
      W1.cell? ⟨p, 1, none⟩ = some (.map (some bs)) ∧ W1.drew.cell? ⟨p, 1, none⟩ = some (.map (some bs)) ∧ W2.cell? ⟨p, 1, none⟩ = some (.map (some bs)) ∧
      Uni κS W3 p bu bs nu (N - 1) (updK U b a) (remK (updK Z a (IntKind.i64.wrap (va + vb))) b) ∧ KeepsBut (UX bu bs) W W3 := by
  have hwa := (h.mu.wfs ha).1
  have hwb := (h.mu.wfs hb).1
  have hne := h.pne
  have hnx : ¬ UX bu bs p := fun h => h.elim hne.1 hne.2
  obtain ⟨W1, r1, m1, t1⟩ := h.mu.store κS_ok κS_ok Try.underlying69 hwb hwa hn
  rw [hb] at m1
  simp only [Option.isSome_some, if_true] at m1
  have k1 : KeepsBut (UX bu bs) W W1 := keeps_grown t1.grown (.inl rfl)
  have ms1 : MapAt κS κI W1 bs Z N := h.ms.same (t1.grown.block bs h.ms.lt (fun e => by injection e with e; exact h.ne e.symm))
  have ms1d : MapAt κS κI W1.drew bs Z N := ms1.same rfl
  have hZa : (Z a).isSome = true := (h.F.z a).2 ha
  have hZb : (Z b).isSome = true := (h.F.z b).2 hb
  have la := h.ms.look κS_ok κI_ok Try.underlying70 hwa
  have lb := h.ms.look κS_ok κI_ok Try.underlying70 hwb
  have la1 := ms1d.look κS_ok κI_ok Try.underlying70 hwa
  have lb1 := ms1d.look κS_ok κI_ok Try.underlying70 hwb
  obtain ⟨W2, r2, m2, t2⟩ := ms1d.store κS_ok κI_ok Try.underlying70 hwa (v := IntKind.i64.wrap ((Z a).getD κI.z + (Z b).getD κI.z)) (by show (Lit.int .i64 _).wf = true; rw [i64_w]; exact wrap64_wf _) hN
  rw [hZa] at m2
  simp only [if_true] at m2
  obtain ⟨W3, r3, m3, t3⟩ := m2.drop κS_ok Try.underlying70 hwb 0
  rw [show (updK Z a (IntKind.i64.wrap ((Z a).getD κI.z + (Z b).getD κI.z)) b).isSome = true by rw [updK_other (fun e => hab e.symm)]; exact hZb] at m3
  simp only [if_true] at m3
  have kd : KeepsBut (UX bu bs) W1 W1.drew := ⟨rfl, rfl, rfl, Nat.le_refl _, fun _ _ _ => rfl⟩
  have k2 := (k1.trans kd).trans (keeps_grown t2.grown (X := UX bu bs) (.inr rfl))
  have k3 := k2.trans (keeps_grown t3.grown (X := UX bu bs) (.inr rfl))
  have hb1 : bu < W1.drew.heap.size := m1.lt
  subst hva hvb
  refine ⟨W1, W2, W3, la, lb, r1, la1, lb1, r2, r3, k1.cell h.cs hnx, (k1.trans kd).cell h.cs hnx, k2.cell h.cs hnx, ⟨k3.cell h.cu hnx, k3.cell h.cs hnx, ?_, m3, h.ne, (h.F.link ha hb hab _).1⟩, k3⟩
  exact m1.same ((t3.grown.block bu (Nat.lt_of_lt_of_le hb1 t2.grown.size) (fun e => by injection e with e; exact h.ne e)).trans (t2.grown.block bu hb1 (fun e => by injection e with e; exact h.ne e)))
set_option maxRecDepth 100000 in
set_option maxHeartbeats 4000000 in
theorem join_callsS {p bu bs nu N : Nat} {U : Str → Option Str} {Z : Str → Option Int} (w : World) (h : Uni κS w p bu bs nu N U Z) {a b : Str} (ha : κS.wf a) (hb : κS.wf b) (hn : nu + 2 < maxLen) (hN : N + 2 < maxLen) :
    Calls Try.prog 13 #[.pointer (some ⟨p, 0, none⟩), .string a, .string b] w fun e w' => ∃ (ra rb r : Bool) (U' : Str → Option Str) (Z' : Str → Option Int), e = .returned (.bool r) ∧ (ra = true ↔ ¬ Eq2 U a a) ∧ (rb = true ↔ ¬ addE (Eq2 U) a b b) ∧ (r = true ↔ ¬ addE (addE (Eq2 U) a) b a b) ∧
      Uni κS w' p bu bs (nu + ra.toNat + rb.toNat) (N + ra.toNat + rb.toNat - r.toNat) U' Z' ∧ (∀ x y, Eq2 U' x y ↔ joinE (addE (addE (Eq2 U) a) b) a b x y) ∧ KeepsBut (UX bu bs) w w' := by
  have hmix : Try.prog.follows .mixedOrders = true := by kernel_rfl
  go_enter Try.func13, Try.ntmps13
  go_wp2_with fail
  refine (add_callsS w h ha (by omega) (by omega)).mono ?_
  rintro e w1 ⟨ra, U1, Z1, rfl, hra, h1, he1, k1⟩
  have hra1 : ra.toNat ≤ 1 := by cases ra <;> simp
  go_wp2_with fail
  refine (add_callsS w1 h1 hb (by omega) (by omega)).mono ?_
  rintro e w2 ⟨rb, U2, Z2, rfl, hrb, h2, he2, k2⟩
  have hrb1 : rb.toNat ≤ 1 := by cases rb <;> simp
  have hE : ∀ x y, Eq2 U2 x y ↔ addE (addE (Eq2 U) a) b x y := fun x y => by
    rw [he2]; unfold addE; rw [he1]; rfl
  have haa : (U2 a).isSome = true := (Eq2.self_iff h2.F).1 ((hE a a).2 (.inl (.inr ⟨rfl, rfl⟩)))
  have hbb : (U2 b).isSome = true := (Eq2.self_iff h2.F).1 ((hE b b).2 (.inr ⟨rfl, rfl⟩))
  go_wp2_with fail
  refine (root_callsS w2 h2 (by omega) haa).mono ?_
  rintro e w3 ⟨r1, U3, rfl, ⟨d1, hto1⟩, h3, hv3, k3⟩
  go_wp2_with fail
  refine (root_callsS w3 h3 (by omega) (by rw [hv3.dom]; exact hbb)).mono ?_
  rintro e w4 ⟨r2, U4, rfl, ⟨d2, hto2⟩, h4, hv4, k4⟩
  have hroot1 : U4 r1 = some r1 := hv4.root (hv3.root hto1.root)
  have hroot2 : U4 r2 = some r2 := hv4.root hto2.root
  have hv : Halved U2 U4 := hv3.trans hv4
  obtain ⟨e1, hto1'⟩ := hv.tos _ _ _ hto1
  obtain ⟨e2, hto2'⟩ := hv4.tos _ _ _ hto2
  have hE4 : ∀ x y, Eq2 U4 x y ↔ addE (addE (Eq2 U) a) b x y := fun x y => (hv.eq2 h2.F x y).trans (hE x y)
  have hab : addE (addE (Eq2 U) a) b a b ↔ r1 = r2 := (hE4 a b).symm.trans (Eq2.root_iff hto1' hto2')
  have kk : KeepsBut (UX bu bs) w w4 := ((k1.trans k2).trans k3).trans k4
  have hrb' : rb = true ↔ ¬ addE (Eq2 U) a b b := hrb.trans (not_congr (he1 b b))
  clear hto1 hto2 hE hrb k1 k2 k3 k4 h1 h2 h3 he1 he2 haa hbb hv3 hv4 hv
  by_cases e : r1 = r2
  · have hc : (r1.toList == r2.toList) = true := beq_iff_eq.2 (str_yes e)
    have hx : addE (addE (Eq2 U) a) b a b := hab.2 e
    have hsym : ∀ x y, addE (addE (Eq2 U) a) b x y → addE (addE (Eq2 U) a) b y x := fun x y hxy => (hE4 _ _).1 ((hE4 _ _).2 hxy).symm
    have htr : ∀ x y z, addE (addE (Eq2 U) a) b x y → addE (addE (Eq2 U) a) b y z → addE (addE (Eq2 U) a) b x z := fun x y z h1 h2 => (hE4 _ _).1 (((hE4 _ _).2 h1).trans ((hE4 _ _).2 h2))
    go_wp2
    go_ret
    refine ⟨ra, rb, false, U4, Z2, rfl, hra, hrb', by simp [hx], h4, fun x y => ?_, kk⟩
    rw [hE4]
    constructor
    · exact .inl
    · rintro (g | ⟨g1, g2⟩ | ⟨g1, g2⟩)
      · exact g
      · exact htr _ _ _ (htr _ _ _ g1 hx) (hsym _ _ g2)
      · exact htr _ _ _ (htr _ _ _ g1 (hsym _ _ hx)) (hsym _ _ g2)
  · have hc2 := str_no e
    have hc : (r1.toList == r2.toList) = false := beq_false_of_ne hc2
    have hx : ¬ addE (addE (Eq2 U) a) b a b := fun g => e (hab.1 g)
    have hxa : ∀ x, Eq2 U4 x r1 ↔ addE (addE (Eq2 U) a) b x a := fun x => by
      rw [← hE4]
      exact ⟨fun g => g.trans ⟨r1, 0, e1, .zero hroot1, hto1'⟩, fun g => g.trans ⟨r1, e1, 0, hto1', .zero hroot1⟩⟩
    have hxb : ∀ x, Eq2 U4 x r2 ↔ addE (addE (Eq2 U) a) b x b := fun x => by
      rw [← hE4]
      exact ⟨fun g => g.trans ⟨r2, 0, e2, .zero hroot2, hto2'⟩, fun g => g.trans ⟨r2, e2, 0, hto2', .zero hroot2⟩⟩
    have h4d : Uni κS w4.drew p bu bs (nu + ra.toNat + rb.toNat) (N + ra.toNat + rb.toNat) U4 Z2 := ⟨h4.cu, h4.cs, h4.mu.same rfl, h4.ms.same rfl, h4.ne, h4.F⟩
    have kd : KeepsBut (UX bu bs) w4 w4.drew := ⟨rfl, rfl, rfl, Nat.le_refl _, fun _ _ _ => rfl⟩
    obtain ⟨v1, hv1⟩ : ∃ v, (Z2 r1).getD 0 = v := ⟨_, rfl⟩
    obtain ⟨v2, hv2⟩ : ∃ v, (Z2 r2).getD 0 = v := ⟨_, rfl⟩
    have hcd : w4.drew.cell? ⟨p, 0, none⟩ = some (.map (some bu)) := h4d.cu
    have hcs : w4.drew.cell? ⟨p, 1, none⟩ = some (.map (some bs)) := h4d.cs
    by_cases hlt : v1 < v2
    · have hltb : decide (v1 < v2) = true := decide_eq_true hlt
      obtain ⟨W1, W2, W3, l2, l1, q1, l3, l4, q2, q3, c1, c2, c3, h5, k5⟩ := link_worldS w4.drew h4d (by omega) (by omega) hroot2 hroot1 (fun g => e g.symm) hv2 hv1
      have hfin : Aside0 (∃ (ra rb r : Bool) (U' : Str → Option Str) (Z' : Str → Option Int), Value.bool true = .bool r ∧ (ra = true ↔ ¬ Eq2 U a a) ∧ (rb = true ↔ ¬ addE (Eq2 U) a b b) ∧ (r = true ↔ ¬ addE (addE (Eq2 U) a) b a b) ∧
          Uni κS W3 p bu bs (nu + ra.toNat + rb.toNat) (N + ra.toNat + rb.toNat - r.toNat) U' Z' ∧ (∀ x y, Eq2 U' x y ↔ joinE (addE (addE (Eq2 U) a) b) a b x y) ∧ KeepsBut (UX bu bs) w W3) := by
        refine ⟨⟨ra, rb, true, _, _, rfl, hra, hrb', by simp [hx], h5, fun x y => ?_, (kk.trans kd).trans k5⟩⟩
        rw [(h4.F.link hroot2 hroot1 (fun g => e g.symm) 0).2, hE4, hxa, hxb, hxa, hxb]
        exact or_congr_right or_comm
      clear h5 k5 hra hrb' hxa hxb hE4 hab kk kd h4d hv1 hv2 hx hroot1 hroot2 hto1' hto2' h4 h
      go_wp2
      go_region_with (fail)
      all_goals
        go_wp2
        go_region_with (fail)
        all_goals
          go_wp2
          go_ret
          obtain ⟨ra, rb, r, U', Z', a1, a2⟩ := hfin.out
          exact ⟨ra, rb, r, U', Z', by rw [← a1]; rfl, a2⟩
    · have hltb : decide (v1 < v2) = false := decide_eq_false hlt
      obtain ⟨W1, W2, W3, l2, l1, q1, l3, l4, q2, q3, c1, c2, c3, h5, k5⟩ := link_worldS w4.drew h4d (by omega) (by omega) hroot1 hroot2 e hv1 hv2
      have hfin : Aside0 (∃ (ra rb r : Bool) (U' : Str → Option Str) (Z' : Str → Option Int), Value.bool true = .bool r ∧ (ra = true ↔ ¬ Eq2 U a a) ∧ (rb = true ↔ ¬ addE (Eq2 U) a b b) ∧ (r = true ↔ ¬ addE (addE (Eq2 U) a) b a b) ∧
          Uni κS W3 p bu bs (nu + ra.toNat + rb.toNat) (N + ra.toNat + rb.toNat - r.toNat) U' Z' ∧ (∀ x y, Eq2 U' x y ↔ joinE (addE (addE (Eq2 U) a) b) a b x y) ∧ KeepsBut (UX bu bs) w W3) := by
        refine ⟨⟨ra, rb, true, _, _, rfl, hra, hrb', by simp [hx], h5, fun x y => ?_, (kk.trans kd).trans k5⟩⟩
        rw [(h4.F.link hroot1 hroot2 e 0).2, hE4, hxa, hxb, hxa, hxb]
        exact Iff.rfl
      clear h5 k5 hra hrb' hxa hxb hE4 hab kk kd h4d hv1 hv2 hx hroot1 hroot2 hto1' hto2' h4 h
      go_wp2
      go_region_with (fail)
      all_goals
        go_wp2
        go_region_with (fail)
        all_goals
          go_wp2
          go_ret
          obtain ⟨ra, rb, r, U', Z', a1, a2⟩ := hfin.out
          exact ⟨ra, rb, r, U', Z', by rw [← a1]; rfl, a2⟩
end Go.Proofs.Yteeapfmgdlcgfaa.A


namespace Go.Proofs
open Go.Shelf
def Try.keys38_ren : Go.Shelf.Ren := ⟨fun | 7 => 38 | 10 => 64 | n => n, fun | 23 => 66 | 26 => 3 | 3 => 3 | 28 => 78 | 0 => 0 | 27 => 77 | 33 => 43 | 4 => 4 | n => n, fun | n => n⟩
theorem Try.keys38 : Go.Proofs.SlLaysZI.n7 Try.prog Try.keys38_ren := {
  mixed := by kernel_rfl
  f7 := ⟨Try.f38.name, by decide, Try.func38.trans (congrArg some (by kernel_rfl))⟩
  f10 := ⟨Try.f64.name, by decide, Try.func64.trans (congrArg some (by kernel_rfl))⟩
  t0 := Try.underlying0
  a0 := Try.isAgg0
  z0 := Try.sizeOf0
  v0 := Try.zeroValue0
  t4 := Try.underlying4
  a4 := Try.isAgg4
  z4 := Try.sizeOf4
  v4 := Try.zeroValue4
  t23 := Try.underlying66
  a23 := Try.isAgg66
  z23 := Try.sizeOf66
  v23 := Try.zeroValue66
  t26 := Try.underlying3
  a26 := Try.isAgg3
  z26 := Try.sizeOf3
  v26 := Try.zeroValue3
  t27 := Try.underlying77
  a27 := Try.isAgg77
  z27 := Try.sizeOf77
  v27 := Try.zeroValue77
  t28 := Try.underlying78
  a28 := Try.isAgg78
  z28 := Try.sizeOf78
  v28 := Try.zeroValue78
  t33 := Try.underlying43
  a33 := Try.isAgg43
  z33 := Try.sizeOf43
  v33 := Try.zeroValue43 }
def Try.sort40_ren : Go.Shelf.Ren := ⟨fun | 5 => 40 | 8 => 67 | 7 => 66 | 19 => 91 | 20 => 92 | 10 => 82 | 11 => 83 | 12 => 84 | 13 => 85 | 14 => 86 | 15 => 87 | 16 => 88 | 17 => 89 | 18 => 90 | 30 => 111 | 31 => 112 | 32 => 113 | 33 => 114 | 34 => 115 | 35 => 116 | 40 => 124 | n => n, fun | 23 => 36 | 25 => 3 | 3 => 3 | 32 => 111 | 22 => 36 | 0 => 0 | 44 => 136 | 46 => 138 | 4 => 4 | 36 => 130 | 35 => 129 | 41 => 32 | 5 => 5 | 9 => 9 | 53 => 148 | 57 => 152 | 63 => 158 | 64 => 159 | n => n, fun | n => n⟩
theorem Try.sort40 : Go.Proofs.SlLaysM.n5 Try.prog Try.sort40_ren := {
  mixed := by kernel_rfl
  f5 := ⟨Try.f40.name, by decide, Try.func40.trans (congrArg some (by kernel_rfl))⟩
  f7 := ⟨Try.f66.name, by decide, Try.func66.trans (congrArg some (by kernel_rfl))⟩
  f8 := Try.func67.trans (congrArg some (by kernel_rfl))
  f10 := ⟨Try.f82.name, by decide, Try.func82.trans (congrArg some (by kernel_rfl))⟩
  f11 := ⟨Try.f83.name, by decide, Try.func83.trans (congrArg some (by kernel_rfl))⟩
  f12 := ⟨Try.f84.name, by decide, Try.func84.trans (congrArg some (by kernel_rfl))⟩
  f13 := ⟨Try.f85.name, by decide, Try.func85.trans (congrArg some (by kernel_rfl))⟩
  f14 := ⟨Try.f86.name, by decide, Try.func86.trans (congrArg some (by kernel_rfl))⟩
  f15 := ⟨Try.f87.name, by decide, Try.func87.trans (congrArg some (by kernel_rfl))⟩
  f16 := ⟨Try.f88.name, by decide, Try.func88.trans (congrArg some (by kernel_rfl))⟩
  f17 := ⟨Try.f89.name, by decide, Try.func89.trans (congrArg some (by kernel_rfl))⟩
  f18 := ⟨Try.f90.name, by decide, Try.func90.trans (congrArg some (by kernel_rfl))⟩
  f19 := Try.func91.trans (congrArg some (by kernel_rfl))
  f20 := Try.func92.trans (congrArg some (by kernel_rfl))
  f30 := ⟨Try.f111.name, by decide, Try.func111.trans (congrArg some (by kernel_rfl))⟩
  f31 := Try.func112.trans (congrArg some (by kernel_rfl))
  f32 := Try.func113.trans (congrArg some (by kernel_rfl))
  f33 := ⟨Try.f114.name, by decide, Try.func114.trans (congrArg some (by kernel_rfl))⟩
  f34 := ⟨Try.f115.name, by decide, Try.func115.trans (congrArg some (by kernel_rfl))⟩
  f35 := ⟨Try.f116.name, by decide, Try.func116.trans (congrArg some (by kernel_rfl))⟩
  f40 := ⟨Try.f124.name, by decide, Try.func124.trans (congrArg some (by kernel_rfl))⟩
  t0 := Try.underlying0
  a0 := Try.isAgg0
  z0 := Try.sizeOf0
  v0 := Try.zeroValue0
  t3 := Try.underlying3
  a3 := Try.isAgg3
  z3 := Try.sizeOf3
  v3 := Try.zeroValue3
  t4 := Try.underlying4
  a4 := Try.isAgg4
  z4 := Try.sizeOf4
  v4 := Try.zeroValue4
  t5 := Try.underlying5
  a5 := Try.isAgg5
  z5 := Try.sizeOf5
  v5 := Try.zeroValue5
  t9 := Try.underlying9
  a9 := Try.isAgg9
  z9 := Try.sizeOf9
  v9 := Try.zeroValue9
  t22 := Try.underlying36
  a22 := Try.isAgg36
  z22 := Try.sizeOf36
  v22 := Try.zeroValue36
  t23 := Try.underlying36
  a23 := Try.isAgg36
  z23 := Try.sizeOf36
  v23 := Try.zeroValue36
  t25 := Try.underlying3
  a25 := Try.isAgg3
  z25 := Try.sizeOf3
  v25 := Try.zeroValue3
  t32 := Try.underlying111
  a32 := Try.isAgg111
  z32 := Try.sizeOf111
  v32 := Try.zeroValue111
  t35 := Try.underlying129
  a35 := Try.isAgg129
  z35 := Try.sizeOf129
  v35 := Try.zeroValue129
  t36 := Try.underlying130
  a36 := Try.isAgg130
  z36 := Try.sizeOf130
  v36 := Try.zeroValue130
  t41 := Try.underlying32
  a41 := Try.isAgg32
  z41 := Try.sizeOf32
  v41 := Try.zeroValue32
  t44 := Try.underlying136
  a44 := Try.isAgg136
  z44 := Try.sizeOf136
  v44 := Try.zeroValue136
  t46 := Try.underlying138
  a46 := Try.isAgg138
  z46 := Try.sizeOf138
  v46 := Try.zeroValue138
  t53 := Try.underlying148
  a53 := Try.isAgg148
  z53 := Try.sizeOf148
  v53 := Try.zeroValue148
  t57 := Try.underlying152
  a57 := Try.isAgg152
  z57 := Try.sizeOf152
  v57 := Try.zeroValue152
  t63 := Try.underlying158
  a63 := Try.isAgg158
  z63 := Try.sizeOf158
  v63 := Try.zeroValue158
  t64 := Try.underlying159
  a64 := Try.isAgg159
  z64 := Try.sizeOf159
  v64 := Try.zeroValue159 }
def Try.clone39_ren : Go.Shelf.Ren := ⟨fun | 5 => 39 | 7 => 65 | n => n, fun | 23 => 66 | 25 => 3 | 3 => 3 | 4 => 4 | 20 => 20 | n => n, fun | n => n⟩
theorem Try.clone39 : Go.Proofs.SlLaysW.n5 Try.prog Try.clone39_ren := {
  mixed := by kernel_rfl
  f5 := ⟨Try.f39.name, by decide, Try.func39.trans (congrArg some (by kernel_rfl))⟩
  f7 := Try.func65.trans (congrArg some (by kernel_rfl))
  t4 := Try.underlying4
  a4 := Try.isAgg4
  z4 := Try.sizeOf4
  v4 := Try.zeroValue4
  t20 := Try.underlying20
  a20 := Try.isAgg20
  z20 := Try.sizeOf20
  v20 := Try.zeroValue20
  t23 := Try.underlying66
  a23 := Try.isAgg66
  z23 := Try.sizeOf66
  v23 := Try.zeroValue66 }
end Go.Proofs


namespace Go.Proofs.Yteeapfmgdlcgfaa.A
open Go.RowKit Go.Maps Go.Sort Go.Shelf Go.Proofs.YteeapfmgdlcgfaaW.PrintWords Go.Proofs.YteeapfmgdlcgfaaW.PrintLast
set_option linter.unusedVariables false
set_option linter.unusedSimpArgs false

/-- the map b, and what was laid from B0 on, goes on as it was ranged over -/
def KpB (b B0 : Nat) (W W' : World) : Prop := W.heap.size ≤ W'.heap.size ∧ ∀ (k : Nat) (o : Obj), (k = b ∨ B0 ≤ k) → W.heap[k]? = some o → o.isWalk = true → W'.heap[k]? = some o
theorem KpB.trans {b B0 : Nat} {A B C : World} (h : KpB b B0 A B) (k : KpB b B0 B C) : KpB b B0 A C := ⟨Nat.le_trans h.1 k.1, fun i o hi ho hw => k.2 i o hi (h.2 i o hi ho hw) hw⟩
theorem KpB.putObj {b B0 : Nat} (W : World) (l : Nat) (o o' : Obj) (h : W.heap[l]? = some o) (hw : o.isWalk = false) : KpB b B0 W (W.putObj l o') :=
  ⟨by simp, fun k ob _ hk hob => by
    by_cases e : k = l
    · subst e; rw [h] at hk; have := Option.some.inj hk; subst this; rw [hw] at hob; cases hob
    · rw [World.putObj_heap_other e]; exact hk⟩
theorem KpB.of_keeps {b B0 : Nat} {X : Nat → Prop} {W W' : World} (h : KeepsBut X W W') (hb : ¬ X b) (hB : ∀ k, B0 ≤ k → ¬ X k) : KpB b B0 W W' :=
  ⟨h.size, fun k o hk ho _ => by
    rw [h.block k (Array.getElem?_eq_some_iff.1 ho).1 (by rcases hk with rfl | hk; exact hb; exact hB k hk)]; exact ho⟩
theorem ranges_kpB {P : Program} {k : TypeId} {R : Value → Option (DU × List MemPlace)} {w w' : World} {b r n B0 : Nat} {D : DU} {left : Lit → Bool} {cnt : Nat} (h : w.ranges P k R b r n D left cnt) (hr : B0 ≤ r) (hk : KpB b B0 w w') : w'.ranges P k R b r n D left cnt := by
  obtain ⟨es, clock, since, seen, c0, hb, F, hs, hD, hr', rest⟩ := h
  exact ⟨es, clock, since, seen, c0, hk.2 b _ (.inl rfl) hb rfl, F, hs, hD, hk.2 r _ (.inr hr) hr' rfl, rest⟩

variable {P : Program} {ρ : Ren}
set_option maxRecDepth 100000 in
set_option maxHeartbeats 1000000 in
theorem keys1B_in {P : Program} {ρ : Ren} (L : SlLaysZI.n10 P ρ) (F : Fence) (n : Nat) (h10 : F.fn (ρ.f 10)) (hro : F.round = none) (hn : 1 ≤ n) (l Bm b nn B0 : Nat) (D0 : DU) {R : Value → Option (DU × List MemPlace)} (J Jx : List Int → World → Prop)
    (hY : ∀ pre x W, J pre W → pre.length < Maps.size D0 → has D0 (.int .i64 x) = true → YieldAt F (n - 1) P l #[encZ x] W fun e W' =>
      (e = .returned (.bool true) ∧ J (pre ++ [x]) W' ∧ KpB b B0 W W') ∨ (e = .returned (.bool false) ∧ Jx (pre ++ [x]) W'))
    (W : World) (hB0 : B0 ≤ W.heap.size) (hJ : AbidesFrom W.heap.size J) (hm : W.cell? ⟨Bm, 0, none⟩ = some (.map (some b))) (hown : W.ownsMap P (ρ.t 26) R b nn D0) (h0 : J [] W) :
    CallsIn F n P (ρ.f 10) #[.func (.yield l) #[] #[], .pointer (some ⟨Bm, 0, none⟩)] W fun e W' => (∃ v, e = .returned v) ∧
      ((∃ ss : List Int, (ss.Perm (intKeys D0) ∧ ∀ x, x ∈ ss ↔ has D0 (.int .i64 x) = true) ∧ J ss W') ∨ (∃ pre : List Int, (pre.Nodup ∧ ∀ x ∈ pre, has D0 (.int .i64 x) = true) ∧ Jx pre W')) := by
  have mixed := L.mixed; have t0 := L.t0; have a0 := L.a0; have z0 := L.z0; have v0 := L.v0; have t4 := L.t4; have a4 := L.a4; have z4 := L.z4; have v4 := L.v4; have t23 := L.t23; have a23 := L.a23; have z23 := L.z23; have v23 := L.v23; have t26 := L.t26; have a26 := L.a26; have z26 := L.z26; have v26 := L.v26; have t33 := L.t33; have a33 := L.a33; have z33 := L.z33; have v33 := L.v33
  have u0 := run_underlying L.t0; have u4 := run_underlying L.t4; have u23 := run_underlying L.t23; have u26 := run_underlying L.t26; have u33 := run_underlying L.t33
  obtain ⟨_, _, FG⟩ := L.f10
  refine callsIn_of_wp FG rfl h10 ?_ hro
  simp only [SlBodyZ.n10_ntmps ρ, List.size_toArray, List.length_cons, List.length_nil, Nat.reduceAdd, Nat.reduceSub, Array.replicate_succ, Array.replicate_zero, List.push_toArray, List.append_toArray, List.nil_append, List.cons_append]
  gi_wp2_with (first
    | (gi_at_range; refine wpListIn_range_own _ rfl _ (ρ.t 23) rfl (ρ.t 26) (ρ.t 3) (int_keyed L.t26) L.t23 _ b nn _ rfl hown ?_; intro w0 hrg0 hg0 hs0)
    | gi_in)
  go_frame
  gi_loopw [3] (fun _ wr => ∃ (left : Lit → Bool) (cnt : Nat) (ss : List Int), wr.ranges P (ρ.t 26) R b W.heap.size nn D0 left cnt ∧ ss.length + cnt ≤ Maps.size D0 ∧ CollectedI D0 left ss ∧ J ss wr)
    (fun _ wr => wr.rangeLeft b W.heap.size)
  case atStart =>
    exact ⟨_, _, [], hrg0, by simp, CollectedI.start D0, hJ [] W w0 none h0 hg0 (fun r e => by cases e)⟩
  case round =>
    obtain ⟨left, cnt, ss, hrg, hcs, hC, hJs⟩ := hrel
    gi_wp2_with (first
      | (gi_at_next; refine wpListIn_next_ranges _ rfl _ rfl (ρ.t 26) (int_keyed L.t26) R encZ id (fun key kl hk => by obtain ⟨x, hx, _⟩ := Maps.keyOf_i64 L.t26 hk; exact ⟨x, hx⟩) (fun v _ _ => ⟨v, rfl⟩) b W.heap.size nn _ _ _ rfl hrg ?_ ?_)
      | gi_in)
    · intro hc0 hl0
      gi_wp2
      go_end0
      exact ⟨⟨_, rfl⟩, .inl ⟨ss, ⟨hC.perm hown (int_keyed L.t26) L.t26 hl0, fun x => by rw [hC.2 x, hl0]; simp⟩, hJs⟩⟩
    · intro x c kl yd yp w2 cnt2 hkey hlk hv hat hrg2 hlt hg2 hs2 hen
      obtain ⟨x', ex, rfl, _⟩ := Maps.keyOf_i64 L.t26 hkey
      obtain rfl : x = x' := encZ_inj ex
      have hJ2 : J ss w2 := hJ ss wr w2 (some W.heap.size) hJs hg2 (fun r e => by cases e; exact ⟨Nat.le_refl _, hrg.iter_walk⟩)
      have hC2 := hC.step hlk hat
      have hhas : has D0 (.int .i64 x) = true := ((hC2.2 x).1 (by simp)).1
      obtain ⟨fn, tmps, assign, body, hy, hR⟩ := hY ss x w2 hJ2 (by omega) hhas
      clear hs2
      gi_wp2
      refine hR.mono ?_
      rintro e W3 (⟨rfl, hJ3, hk3⟩ | ⟨rfl, hJx3⟩)
      · gi_wp2
        have hrg3 := ranges_kpB hrg2 hB0 hk3
        go_roundw
        case rel => exact ⟨_, cnt2, ss ++ [x], hrg3, by simp; omega, hC2, hJ3⟩
        case measure => rw [hrg3.left_eq, hrg.left_eq]; exact hlt
      · gi_wp2
        refine bodyPost_ret (results_none rfl _ _ _) rfl ?_
        exact ⟨⟨_, rfl⟩, .inr ⟨ss ++ [x], ⟨hC2.1, fun y hy => ((hC2.2 y).1 hy).1⟩, hJx3⟩⟩

/-- the keys of a datum -/
abbrev KeyI (D0 : DU) := { x : Int // has D0 (.int .i64 x) = true }
theorem keys38_calls (mb : Option Nat) (W : World) : Calls Try.prog 38 #[.map mb] W fun e w' => e = .returned (.func (.func 64) #[] #[.pointer (some ⟨W.heap.size, 0, none⟩)]) ∧ w' = W.alloc (.cells #[.map mb] 66) :=
  (callsIn_wide (n := 5)).1 (AnyZI.keys_in Try.keys38 Fence.wide 5 trivial rfl mb W)
theorem keys64_stops (F : Fence) (n : Nat) (h10 : F.fn 64) (hro : F.round = none) (hn : 1 ≤ n) (Bm b nn B0 : Nat) (D0 : DU) {R : Value → Option (DU × List MemPlace)} (w : World) (hB0 : B0 ≤ w.heap.size) (hBm : Bm < w.heap.size)
    (hm : w.cell? ⟨Bm, 0, none⟩ = some (.map (some b))) (hown : w.ownsMap Try.prog 3 R b nn D0) :
    SeqStopsK F n Try.prog 64 #[.pointer (some ⟨Bm, 0, none⟩)] (fun x : KeyI D0 => #[Value.int .i64 x.1]) (KpB b B0) (fun ss => (ss.map (·.1)).Nodup ∧ ∀ x, has D0 (.int .i64 x) = true → x ∈ ss.map (·.1)) (fun _ => True) (Maps.size D0) w := by
  intro l J Jx W hW hJ hJx hY h0
  have hown' : W.ownsMap Try.prog 3 R b nn D0 := by
    have hbl := hown.lt
    obtain ⟨es, clock, hb, Ft, hs, hD⟩ := hown
    exact ⟨es, clock, (hW.block b hbl).trans hb, Ft, hs, hD⟩
  have H := keys1B_in (ρ := Try.keys38_ren) { Try.keys38 with } F n h10 hro hn l Bm b nn B0 D0 (fun ss W => ∃ pre : List (KeyI D0), pre.map (·.1) = ss ∧ J pre W) (fun ss W => ∃ pre : List (KeyI D0), pre.map (·.1) = ss ∧ Jx pre W)
    (fun ss x W1 hs hl hx => by
      obtain ⟨pre, rfl, hs⟩ := hs
      obtain ⟨fn, tmps, assign, body, hy, hR⟩ := hY pre ⟨x, hx⟩ W1 hs (by simpa using hl)
      refine ⟨fn, tmps, assign, body, hy, hR.mono ?_⟩
      rintro e W' (⟨rfl, h1, h2⟩ | ⟨rfl, h1⟩)
      · exact .inl ⟨rfl, ⟨_, by simp, h1⟩, h2⟩
      · exact .inr ⟨rfl, _, by simp, h1⟩)
    W (Nat.le_trans hB0 hW.size) (fun s A B row hs hg hr => by obtain ⟨pre, e, hs⟩ := hs; exact ⟨pre, e, hJ pre A B row hs hg hr⟩) ((hW.cell (p := ⟨Bm, 0, none⟩) hBm).trans hm) hown' ⟨[], rfl, h0⟩
  refine H.mono ?_
  rintro e W' ⟨hv, (⟨ss, ⟨hp, hmem⟩, pre, rfl, hJ'⟩ | ⟨ss, hp, pre, rfl, hJ'⟩)⟩
  · refine ⟨hv, .inl ⟨pre, ⟨?_, fun x hx => (hmem x).2 hx⟩, hJ'⟩⟩
    refine hp.nodup_iff.2 ?_
    obtain ⟨es, hD, hpw, _⟩ := hown.entries (int_keyed Try.underlying3)
    obtain ⟨es', hD', hko⟩ := hown.keysOf
    obtain rfl : es = es' := by rw [hD] at hD'; simpa using hD'
    subst hD
    have hk : ∀ p ∈ es, ∃ x, p.1 = Lit.int .i64 x := fun p hp => by
      obtain ⟨v, hv⟩ := hko p hp
      obtain ⟨x, _, hx, _⟩ := Maps.keyOf_i64 Try.underlying3 hv
      exact ⟨x, hx⟩
    show (es.map fun p => Go.intOf p.1).Nodup
    refine List.pairwise_map.2 (hpw.imp_of_mem fun {p q} hp' hq' hne e => hne ?_)
    obtain ⟨a, ha⟩ := hk p hp'
    obtain ⟨b, hb⟩ := hk q hq'
    rw [ha, hb] at e ⊢
    exact congrArg _ e
  · exact ⟨hv, .inr ⟨pre, trivial, hJ'⟩⟩

/-- slices.Sort of a row that a call owns -/
theorem sort_own (base : Nat) (v : Value) (ss : List Int) (w : World) (hrow : w.ownsRow base 3 1 v ss.length (ss.map encZ)) (hl : ss.length ≤ 1000000) :
    Calls Try.prog 40 #[v] w fun e w' => e = .returned (.tuple #[]) ∧ w'.ownsRow base 3 1 v ss.length ((ss.mergeSort fun x y => decide (x ≤ y)).map encZ) ∧ w.grownBy w' v.ownBlock := by
  rcases hrow.2 with ⟨rfl, hz⟩ | ⟨gb, cap, cur, rfl, hbase, hgb, r1, r2, r3, r4⟩
  · have hss : ss = [] := List.eq_nil_of_length_eq_zero hz
    subst hss
    refine (AnyM.slices_Sort_int_none Try.sort40 none 0 w).mono ?_
    rintro e w' ⟨rfl, rfl⟩
    exact ⟨rfl, by simpa using hrow, ⟨rfl, rfl, rfl, Nat.le_refl _, fun _ _ _ => rfl⟩⟩
  · have hH : Holds encZ w gb 0 ss.toArray := holds_of_block_i hgb (by simpa using r4)
    have hgl : gb < w.heap.size := (Array.getElem?_eq_some_iff.1 hgb).1
    refine (AnyM.slices_Sort_int Try.sort40 gb 0 cap ss w hH hgl (by omega)).mono ?_
    rintro e w' ⟨rfl, nn, os, rfl⟩
    exact ⟨rfl, ownsRow_sorted_i (by simp) hbase hgb r1 r2 r3, grownBy_sorted_i _⟩
end Go.Proofs.Yteeapfmgdlcgfaa.A


namespace Go.Proofs
open Go.Shelf
def Try.keys42_ren : Go.Shelf.Ren := ⟨fun | 7 => 42 | 10 => 68 | n => n, fun | 23 => 69 | 26 => 9 | 3 => 9 | 28 => 83 | 0 => 0 | 27 => 82 | 33 => 74 | 4 => 4 | n => n, fun | n => n⟩
theorem Try.keys42 : Go.Proofs.SlLaysZ.n7 Try.prog Try.keys42_ren := {
  mixed := by kernel_rfl
  f7 := ⟨Try.f42.name, by decide, Try.func42.trans (congrArg some (by kernel_rfl))⟩
  f10 := ⟨Try.f68.name, by decide, Try.func68.trans (congrArg some (by kernel_rfl))⟩
  t0 := Try.underlying0
  a0 := Try.isAgg0
  z0 := Try.sizeOf0
  v0 := Try.zeroValue0
  t4 := Try.underlying4
  a4 := Try.isAgg4
  z4 := Try.sizeOf4
  v4 := Try.zeroValue4
  t23 := Try.underlying69
  a23 := Try.isAgg69
  z23 := Try.sizeOf69
  v23 := Try.zeroValue69
  t26 := Try.underlying9
  a26 := Try.isAgg9
  z26 := Try.sizeOf9
  v26 := Try.zeroValue9
  t27 := Try.underlying82
  a27 := Try.isAgg82
  z27 := Try.sizeOf82
  v27 := Try.zeroValue82
  t28 := Try.underlying83
  a28 := Try.isAgg83
  z28 := Try.sizeOf83
  v28 := Try.zeroValue83
  t33 := Try.underlying74
  a33 := Try.isAgg74
  z33 := Try.sizeOf74
  v33 := Try.zeroValue74 }
def Try.sort44_ren : Go.Shelf.Ren := ⟨fun | 6 => 44 | 8 => 67 | 9 => 69 | 19 => 91 | 20 => 92 | 21 => 93 | 22 => 94 | 23 => 95 | 24 => 96 | 25 => 97 | 26 => 98 | 27 => 99 | 28 => 100 | 29 => 101 | 36 => 117 | 31 => 112 | 32 => 113 | 37 => 118 | 38 => 119 | 39 => 120 | 41 => 125 | n => n, fun | 27 => 38 | 29 => 9 | 3 => 3 | 32 => 111 | 26 => 38 | 0 => 0 | 44 => 136 | 46 => 138 | 4 => 4 | 36 => 130 | 35 => 129 | 41 => 32 | 5 => 5 | 9 => 9 | 53 => 148 | 57 => 152 | 63 => 158 | 64 => 159 | n => n, fun | n => n⟩
theorem Try.sort44 : Go.Proofs.SlLaysM.n6 Try.prog Try.sort44_ren := {
  mixed := by kernel_rfl
  f6 := ⟨Try.f44.name, by decide, Try.func44.trans (congrArg some (by kernel_rfl))⟩
  f8 := Try.func67.trans (congrArg some (by kernel_rfl))
  f9 := ⟨Try.f69.name, by decide, Try.func69.trans (congrArg some (by kernel_rfl))⟩
  f19 := Try.func91.trans (congrArg some (by kernel_rfl))
  f20 := Try.func92.trans (congrArg some (by kernel_rfl))
  f21 := ⟨Try.f93.name, by decide, Try.func93.trans (congrArg some (by kernel_rfl))⟩
  f22 := ⟨Try.f94.name, by decide, Try.func94.trans (congrArg some (by kernel_rfl))⟩
  f23 := ⟨Try.f95.name, by decide, Try.func95.trans (congrArg some (by kernel_rfl))⟩
  f24 := ⟨Try.f96.name, by decide, Try.func96.trans (congrArg some (by kernel_rfl))⟩
  f25 := ⟨Try.f97.name, by decide, Try.func97.trans (congrArg some (by kernel_rfl))⟩
  f26 := ⟨Try.f98.name, by decide, Try.func98.trans (congrArg some (by kernel_rfl))⟩
  f27 := ⟨Try.f99.name, by decide, Try.func99.trans (congrArg some (by kernel_rfl))⟩
  f28 := ⟨Try.f100.name, by decide, Try.func100.trans (congrArg some (by kernel_rfl))⟩
  f29 := ⟨Try.f101.name, by decide, Try.func101.trans (congrArg some (by kernel_rfl))⟩
  f31 := Try.func112.trans (congrArg some (by kernel_rfl))
  f32 := Try.func113.trans (congrArg some (by kernel_rfl))
  f36 := ⟨Try.f117.name, by decide, Try.func117.trans (congrArg some (by kernel_rfl))⟩
  f37 := ⟨Try.f118.name, by decide, Try.func118.trans (congrArg some (by kernel_rfl))⟩
  f38 := ⟨Try.f119.name, by decide, Try.func119.trans (congrArg some (by kernel_rfl))⟩
  f39 := ⟨Try.f120.name, by decide, Try.func120.trans (congrArg some (by kernel_rfl))⟩
  f41 := ⟨Try.f125.name, by decide, Try.func125.trans (congrArg some (by kernel_rfl))⟩
  t0 := Try.underlying0
  a0 := Try.isAgg0
  z0 := Try.sizeOf0
  v0 := Try.zeroValue0
  t3 := Try.underlying3
  a3 := Try.isAgg3
  z3 := Try.sizeOf3
  v3 := Try.zeroValue3
  t4 := Try.underlying4
  a4 := Try.isAgg4
  z4 := Try.sizeOf4
  v4 := Try.zeroValue4
  t5 := Try.underlying5
  a5 := Try.isAgg5
  z5 := Try.sizeOf5
  v5 := Try.zeroValue5
  t9 := Try.underlying9
  a9 := Try.isAgg9
  z9 := Try.sizeOf9
  v9 := Try.zeroValue9
  t26 := Try.underlying38
  a26 := Try.isAgg38
  z26 := Try.sizeOf38
  v26 := Try.zeroValue38
  t27 := Try.underlying38
  a27 := Try.isAgg38
  z27 := Try.sizeOf38
  v27 := Try.zeroValue38
  t29 := Try.underlying9
  a29 := Try.isAgg9
  z29 := Try.sizeOf9
  v29 := Try.zeroValue9
  t32 := Try.underlying111
  a32 := Try.isAgg111
  z32 := Try.sizeOf111
  v32 := Try.zeroValue111
  t35 := Try.underlying129
  a35 := Try.isAgg129
  z35 := Try.sizeOf129
  v35 := Try.zeroValue129
  t36 := Try.underlying130
  a36 := Try.isAgg130
  z36 := Try.sizeOf130
  v36 := Try.zeroValue130
  t41 := Try.underlying32
  a41 := Try.isAgg32
  z41 := Try.sizeOf32
  v41 := Try.zeroValue32
  t44 := Try.underlying136
  a44 := Try.isAgg136
  z44 := Try.sizeOf136
  v44 := Try.zeroValue136
  t46 := Try.underlying138
  a46 := Try.isAgg138
  z46 := Try.sizeOf138
  v46 := Try.zeroValue138
  t53 := Try.underlying148
  a53 := Try.isAgg148
  z53 := Try.sizeOf148
  v53 := Try.zeroValue148
  t57 := Try.underlying152
  a57 := Try.isAgg152
  z57 := Try.sizeOf152
  v57 := Try.zeroValue152
  t63 := Try.underlying158
  a63 := Try.isAgg158
  z63 := Try.sizeOf158
  v63 := Try.zeroValue158
  t64 := Try.underlying159
  a64 := Try.isAgg159
  z64 := Try.sizeOf159
  v64 := Try.zeroValue159 }
def Try.clone43_ren : Go.Shelf.Ren := ⟨fun | 5 => 43 | 7 => 65 | n => n, fun | 23 => 69 | 25 => 9 | 3 => 9 | 4 => 4 | 20 => 20 | n => n, fun | n => n⟩
theorem Try.clone43 : Go.Proofs.SlLaysW.n5 Try.prog Try.clone43_ren := {
  mixed := by kernel_rfl
  f5 := ⟨Try.f43.name, by decide, Try.func43.trans (congrArg some (by kernel_rfl))⟩
  f7 := Try.func65.trans (congrArg some (by kernel_rfl))
  t4 := Try.underlying4
  a4 := Try.isAgg4
  z4 := Try.sizeOf4
  v4 := Try.zeroValue4
  t20 := Try.underlying20
  a20 := Try.isAgg20
  z20 := Try.sizeOf20
  v20 := Try.zeroValue20
  t23 := Try.underlying69
  a23 := Try.isAgg69
  z23 := Try.sizeOf69
  v23 := Try.zeroValue69 }
end Go.Proofs


namespace Go.Proofs.Yteeapfmgdlcgfaa.A
open Go.RowKit Go.Maps Go.Sort Go.Shelf Go.Proofs.YteeapfmgdlcgfaaW.PrintWords Go.Proofs.YteeapfmgdlcgfaaW.PrintLast
set_option linter.unusedVariables false
set_option linter.unusedSimpArgs false

variable {P : Program} {ρ : Ren}
set_option maxRecDepth 100000 in
set_option maxHeartbeats 1000000 in
theorem keys1B_inS {P : Program} {ρ : Ren} (L : SlLaysZ.n10 P ρ) (F : Fence) (n : Nat) (h10 : F.fn (ρ.f 10)) (hro : F.round = none) (hn : 1 ≤ n) (l Bm b nn B0 : Nat) (D0 : DU) {R : Value → Option (DU × List MemPlace)} (J Jx : List (List UInt8) → World → Prop)
    (hY : ∀ pre x W, J pre W → pre.length < Maps.size D0 → has D0 (.string x) = true → YieldAt F (n - 1) P l #[encStr x] W fun e W' =>
      (e = .returned (.bool true) ∧ J (pre ++ [x]) W' ∧ KpB b B0 W W') ∨ (e = .returned (.bool false) ∧ Jx (pre ++ [x]) W'))
    (W : World) (hB0 : B0 ≤ W.heap.size) (hJ : AbidesFrom W.heap.size J) (hm : W.cell? ⟨Bm, 0, none⟩ = some (.map (some b))) (hown : W.ownsMap P (ρ.t 26) R b nn D0) (h0 : J [] W) :
    CallsIn F n P (ρ.f 10) #[.func (.yield l) #[] #[], .pointer (some ⟨Bm, 0, none⟩)] W fun e W' => (∃ v, e = .returned v) ∧
      ((∃ ss : List (List UInt8), (ss.Nodup ∧ ∀ x, x ∈ ss ↔ has D0 (.string x) = true) ∧ J ss W') ∨ (∃ pre : List (List UInt8), (pre.Nodup ∧ ∀ x ∈ pre, has D0 (.string x) = true) ∧ Jx pre W')) := by
  have mixed := L.mixed; have t0 := L.t0; have a0 := L.a0; have z0 := L.z0; have v0 := L.v0; have t4 := L.t4; have a4 := L.a4; have z4 := L.z4; have v4 := L.v4; have t23 := L.t23; have a23 := L.a23; have z23 := L.z23; have v23 := L.v23; have t26 := L.t26; have a26 := L.a26; have z26 := L.z26; have v26 := L.v26; have t33 := L.t33; have a33 := L.a33; have z33 := L.z33; have v33 := L.v33
  have u0 := run_underlying L.t0; have u4 := run_underlying L.t4; have u23 := run_underlying L.t23; have u26 := run_underlying L.t26; have u33 := run_underlying L.t33
  obtain ⟨_, _, FG⟩ := L.f10
  refine callsIn_of_wp FG rfl h10 ?_ hro
  simp only [SlBodyZ.n10_ntmps ρ, List.size_toArray, List.length_cons, List.length_nil, Nat.reduceAdd, Nat.reduceSub, Array.replicate_succ, Array.replicate_zero, List.push_toArray, List.append_toArray, List.nil_append, List.cons_append]
  gi_wp2_with (first
    | (gi_at_range; refine wpListIn_range_own _ rfl _ (ρ.t 23) rfl (ρ.t 26) (ρ.t 3) (string_keyed L.t26) L.t23 _ b nn _ rfl hown ?_; intro w0 hrg0 hg0 hs0)
    | gi_in)
  go_frame
  gi_loopw [3] (fun _ wr => ∃ (left : Lit → Bool) (cnt : Nat) (ss : List (List UInt8)), wr.ranges P (ρ.t 26) R b W.heap.size nn D0 left cnt ∧ ss.length + cnt ≤ Maps.size D0 ∧ Collected D0 left ss ∧ J ss wr)
    (fun _ wr => wr.rangeLeft b W.heap.size)
  case atStart =>
    exact ⟨_, _, [], hrg0, by simp, Collected.start D0, hJ [] W w0 none h0 hg0 (fun r e => by cases e)⟩
  case round =>
    obtain ⟨left, cnt, ss, hrg, hcs, hC, hJs⟩ := hrel
    gi_wp2_with (first
      | (gi_at_next; refine wpListIn_next_ranges _ rfl _ rfl (ρ.t 26) (string_keyed L.t26) R encStr id (fun key kl hk => by obtain ⟨x, hx, _⟩ := Maps.keyOf_str L.t26 hk; exact ⟨x, hx⟩) (fun v _ _ => ⟨v, rfl⟩) b W.heap.size nn _ _ _ rfl hrg ?_ ?_)
      | gi_in)
    · intro hc0 hl0
      gi_wp2
      go_end0
      exact ⟨⟨_, rfl⟩, .inl ⟨ss, ⟨hC.1, fun x => by rw [hC.2 x, hl0]; simp⟩, hJs⟩⟩
    · intro x c kl yd yp w2 cnt2 hkey hlk hv hat hrg2 hlt hg2 hs2 hen
      obtain ⟨x', ex, rfl, _⟩ := Maps.keyOf_str L.t26 hkey
      obtain rfl : x = x' := encStr_inj ex
      have hJ2 : J ss w2 := hJ ss wr w2 (some W.heap.size) hJs hg2 (fun r e => by cases e; exact ⟨Nat.le_refl _, hrg.iter_walk⟩)
      have hC2 := hC.step hlk hat
      have hhas : has D0 (.string x) = true := ((hC2.2 x).1 (by simp)).1
      obtain ⟨fn, tmps, assign, body, hy, hR⟩ := hY ss x w2 hJ2 (by omega) hhas
      clear hs2
      gi_wp2
      refine hR.mono ?_
      rintro e W3 (⟨rfl, hJ3, hk3⟩ | ⟨rfl, hJx3⟩)
      · gi_wp2
        have hrg3 := ranges_kpB hrg2 hB0 hk3
        go_roundw
        case rel => exact ⟨_, cnt2, ss ++ [x], hrg3, by simp; omega, hC2, hJ3⟩
        case measure => rw [hrg3.left_eq, hrg.left_eq]; exact hlt
      · gi_wp2
        refine bodyPost_ret (results_none rfl _ _ _) rfl ?_
        exact ⟨⟨_, rfl⟩, .inr ⟨ss ++ [x], ⟨hC2.1, fun y hy => ((hC2.2 y).1 hy).1⟩, hJx3⟩⟩

/-- the keys of a datum -/
abbrev KeyS (D0 : DU) := { x : Str // has D0 (.string x.data.toList) = true }
theorem keys42_calls (mb : Option Nat) (W : World) : Calls Try.prog 42 #[.map mb] W fun e w' => e = .returned (.func (.func 68) #[] #[.pointer (some ⟨W.heap.size, 0, none⟩)]) ∧ w' = W.alloc (.cells #[.map mb] 69) :=
  (callsIn_wide (n := 5)).1 (AnyZ.keys_in Try.keys42 Fence.wide 5 trivial rfl mb W)
theorem keys68_stops (F : Fence) (n : Nat) (h10 : F.fn 68) (hro : F.round = none) (hn : 1 ≤ n) (Bm b nn B0 : Nat) (D0 : DU) {R : Value → Option (DU × List MemPlace)} (w : World) (hB0 : B0 ≤ w.heap.size) (hBm : Bm < w.heap.size)
    (hm : w.cell? ⟨Bm, 0, none⟩ = some (.map (some b))) (hown : w.ownsMap Try.prog 9 R b nn D0) :
    SeqStopsK F n Try.prog 68 #[.pointer (some ⟨Bm, 0, none⟩)] (fun x : KeyS D0 => #[Value.string x.1]) (KpB b B0) (fun ss => (ss.map (·.1.data.toList)).Nodup ∧ ∀ x : List UInt8, has D0 (.string x) = true → x ∈ ss.map (·.1.data.toList)) (fun _ => True) (Maps.size D0) w := by
  intro l J Jx W hW hJ hJx hY h0
  have hown' : W.ownsMap Try.prog 9 R b nn D0 := by
    have hbl := hown.lt
    obtain ⟨es, clock, hb, Ft, hs, hD⟩ := hown
    exact ⟨es, clock, (hW.block b hbl).trans hb, Ft, hs, hD⟩
  have H := keys1B_inS (ρ := Try.keys42_ren) { Try.keys42 with } F n h10 hro hn l Bm b nn B0 D0 (fun ss W => ∃ pre : List (KeyS D0), pre.map (·.1.data.toList) = ss ∧ J pre W) (fun ss W => ∃ pre : List (KeyS D0), pre.map (·.1.data.toList) = ss ∧ Jx pre W)
    (fun ss x W1 hs hl hx => by
      obtain ⟨pre, rfl, hs⟩ := hs
      obtain ⟨fn, tmps, assign, body, hy, hR⟩ := hY pre ⟨⟨x.toArray⟩, hx⟩ W1 hs (by simpa using hl)
      refine ⟨fn, tmps, assign, body, hy, hR.mono ?_⟩
      rintro e W' (⟨rfl, h1, h2⟩ | ⟨rfl, h1⟩)
      · exact .inl ⟨rfl, ⟨_, by simp, h1⟩, h2⟩
      · exact .inr ⟨rfl, _, by simp, h1⟩)
    W (Nat.le_trans hB0 hW.size) (fun s A B row hs hg hr => by obtain ⟨pre, e, hs⟩ := hs; exact ⟨pre, e, hJ pre A B row hs hg hr⟩) ((hW.cell (p := ⟨Bm, 0, none⟩) hBm).trans hm) hown' ⟨[], rfl, h0⟩
  refine H.mono ?_
  rintro e W' ⟨hv, (⟨ss, ⟨hp, hmem⟩, pre, rfl, hJ'⟩ | ⟨ss, hp, pre, rfl, hJ'⟩)⟩
  · exact ⟨hv, .inl ⟨pre, ⟨hp, fun x hx => (hmem x).2 hx⟩, hJ'⟩⟩
  · exact ⟨hv, .inr ⟨pre, trivial, hJ'⟩⟩

/-- slices.Sort of a row of strings that a call owns -/
theorem sort_ownS (base : Nat) (v : Value) (ss : List (List UInt8)) (w : World) (hrow : w.ownsRow base 9 1 v ss.length (ss.map encStr)) (hl : ss.length ≤ 1000000) :
    Calls Try.prog 44 #[v] w fun e w' => e = .returned (.tuple #[]) ∧ w'.ownsRow base 9 1 v ss.length ((ss.mergeSort fun x y => decide (x ≤ y)).map encStr) ∧ w.grownBy w' v.ownBlock := by
  rcases hrow.2 with ⟨rfl, hz⟩ | ⟨gb, cap, cur, rfl, hbase, hgb, r1, r2, r3, r4⟩
  · have hss : ss = [] := List.eq_nil_of_length_eq_zero hz
    subst hss
    refine (AnyM.slices_Sort_string_none Try.sort44 none 0 w).mono ?_
    rintro e w' ⟨rfl, rfl⟩
    exact ⟨rfl, by simpa using hrow, ⟨rfl, rfl, rfl, Nat.le_refl _, fun _ _ _ => rfl⟩⟩
  · have hH : Holds encStr w gb 0 ss.toArray := holds_of_block hgb (by simpa using r4)
    have hgl : gb < w.heap.size := (Array.getElem?_eq_some_iff.1 hgb).1
    refine (AnyM.slices_Sort_string Try.sort44 gb 0 cap ss w hH hgl (by omega)).mono ?_
    rintro e w' ⟨rfl, nn, os, rfl⟩
    exact ⟨rfl, ownsRow_sorted (by simp) hbase hgb r1 r2 r3, grownBy_sorted _⟩
end Go.Proofs.Yteeapfmgdlcgfaa.A


namespace Go.Proofs.Yteeapfmgdlcgfaa.A
open Go.RowKit Go.Maps Go.Sort Go.Shelf Go.Proofs.YteeapfmgdlcgfaaW.PrintWords Go.Proofs.YteeapfmgdlcgfaaW.PrintLast
attribute [local go_sem] Oper.semAt_some
set_option linter.unusedVariables false
set_option linter.unusedSimpArgs false

def Rising (ks : List Int) : Prop := ks.Pairwise (· < ·)
theorem merge_rising {ss : List Int} (h : ss.Nodup) : Rising (ss.mergeSort fun x y => decide (x ≤ y)) := by
  have h1 : (ss.mergeSort fun x y => decide (x ≤ y)).Pairwise (fun x y => decide (x ≤ y) = true) := List.pairwise_mergeSort (by intro a b c; simp; omega) (by intro a b; simp; omega) ss
  have h2 : (ss.mergeSort fun x y => decide (x ≤ y)).Nodup := (List.mergeSort_perm ss _).nodup_iff.2 h
  exact (h1.and h2).imp (fun {a b} ⟨h3, h4⟩ => by have := of_decide_eq_true h3; omega)
theorem Uni.alloc {K : Type} {κ : Kind K} {w : World} {p bu bs nu N : Nat} {U : K → Option K} {Z : K → Option Int} (h : Uni κ w p bu bs nu N U Z) (o : Obj) : Uni κ (w.alloc o) p bu bs nu N U Z :=
  h.keep (KeepsBut.alloc (fun _ => False) w o) id id id

set_option maxRecDepth 100000 in
set_option maxHeartbeats 4000000 in
theorem class_none {p bu bs nu N : Nat} {U Z : Int → Option Int} (w : World) (h : Uni κI w p bu bs nu N U Z) {k : Int} (hk : κI.wf k) (hu : U k = none) :
    Calls Try.prog 17 #[.pointer (some ⟨p, 0, none⟩), .int .i64 k] w fun e w' => e = .returned (.slice none 0 0) ∧ Uni κI w' p bu bs nu N U Z ∧ Below w.heap.size w w' := by
  rw [← callsIn_wide (n := 5)]
  have hro : (Fence.wide).round = none := rfl
  have hUa := h.alloc (.cells #[.pointer (some ⟨p, 0, none⟩)] 24)
  have hc1 := has_calls _ hUa hk
  rw [hu] at hc1
  have hB : Below w.heap.size w (w.alloc (.cells #[.pointer (some ⟨p, 0, none⟩)] 24)) := below_alloc (Below.refl _ _) _
  refine callsIn_of_wp_marks Try.func17 rfl trivial ?_ hro
  simp only [Try.ntmps17, List.size_toArray, List.length_cons, List.length_nil, Nat.reduceAdd, Nat.reduceSub, Array.replicate_succ, Array.replicate_zero, List.push_toArray, List.append_toArray, List.nil_append, List.cons_append]
  gi_wp2_with ((try refine ⟨trivial, ?_⟩); gi_at_call 37; refine (callsIn_wide.2 hc1).mono ?_; rintro e w' ⟨rfl, rfl⟩)
  refine ⟨.slice none 0 0, ?_, rfl, hUa, hB⟩
  simp [results, Try.f17, go_sem]

theorem own_lower {W : World} {base base' : Nat} {e : TypeId} {size : Nat} {v : Value} {k : Nat} {xs : List Value} (h : W.ownsRow base e size v k xs) (hb : base' ≤ base) : W.ownsRow base' e size v k xs := by
  refine ⟨h.1, ?_⟩
  rcases h.2 with h0 | ⟨g, cap, cur, hv, hb', hgb, hr⟩
  · exact .inl h0
  · exact .inr ⟨g, cap, cur, hv, Nat.le_trans hb hb', hgb, hr⟩
theorem own_base {W : World} {base : Nat} {e : TypeId} {size : Nat} {v : Value} {k : Nat} {xs : List Value} (h : W.ownsRow base e size v k xs) : ∀ r, v.ownBlock = some r → base ≤ r ∧ r < W.heap.size := by
  intro r hr
  rcases h.2 with ⟨rfl, _⟩ | ⟨g, cap, cur, rfl, hb, hgb, _⟩
  · simp [Value.ownBlock] at hr
  · obtain rfl : g = r := by simpa [Value.ownBlock] using hr
    exact ⟨hb, (Array.getElem?_eq_some_iff.1 hgb).1⟩
theorem own_keep {X : Nat → Prop} {W W' : World} {base : Nat} {e : TypeId} {size : Nat} {v : Value} {k : Nat} {xs : List Value} (h : W.ownsRow base e size v k xs) (hk : KeepsBut X W W') (hx : ∀ r, base ≤ r → ¬ X r) : W'.ownsRow base e size v k xs := by
  refine ⟨h.1, ?_⟩
  rcases h.2 with h0 | ⟨g, cap, cur, hv, hb, hgb, hr⟩
  · exact .inl h0
  · exact .inr ⟨g, cap, cur, hv, hb, (hk.block g (Array.getElem?_eq_some_iff.1 hgb).1 (hx g hb)).trans hgb, hr⟩
theorem own_turn {W W' : World} {row : Option Nat} {base : Nat} {e : TypeId} {size : Nat} {v : Value} {k : Nat} {xs : List Value} (h : W.ownsRow base e size v k xs) (hg : W.grownBy W' row) (hr : ∀ r, row = some r → ∃ o : Obj, W.heap[r]? = some o ∧ o.isCells = false) : W'.ownsRow base e size v k xs := by
  refine ⟨h.1, ?_⟩
  rcases h.2 with h0 | ⟨g, cap, cur, hv, hb, hgb, hq⟩
  · exact .inl h0
  · refine .inr ⟨g, cap, cur, hv, hb, (hg.block g (Array.getElem?_eq_some_iff.1 hgb).1 (fun e => ?_)).trans hgb, hq⟩
    obtain ⟨o, ho, hc⟩ := hr g e.symm
    rw [hgb] at ho
    have := Option.some.inj ho
    subst this
    cases hc
theorem KeepsBut.of_grownBy {X : Nat → Prop} {W W' : World} {row : Option Nat} (hg : W.grownBy W' row) (hrow : ∀ r, row = some r → X r) : KeepsBut X W W' :=
  ⟨hg.os, hg.tape, hg.output, hg.size, fun k hk hn => hg.block k hk (fun e => hn (hrow k e.symm))⟩
/-- those of a row that are in one class with k -/
noncomputable def pick (U : Int → Option Int) (k : Int) (l : List Int) : List Int := l.filter (fun x => @decide (Eq2 U x k) (Classical.propDecidable _))
theorem pick_len (U : Int → Option Int) (k : Int) (l : List Int) : (pick U k l).length ≤ l.length := List.length_filter_le _ _
theorem pick_mem {U : Int → Option Int} {k : Int} {l : List Int} {x : Int} : x ∈ pick U k l ↔ x ∈ l ∧ Eq2 U x k := by unfold pick; rw [List.mem_filter]; simp
theorem pick_yes {U : Int → Option Int} {k x : Int} {l : List Int} (h : Eq2 U x k) : pick U k (l ++ [x]) = pick U k l ++ [x] := by unfold pick; rw [List.filter_append, List.filter_cons]; simp [h]
theorem pick_no {U : Int → Option Int} {k x : Int} {l : List Int} (h : ¬ Eq2 U x k) : pick U k (l ++ [x]) = pick U k l := by unfold pick; rw [List.filter_append, List.filter_cons]; simp [h]

theorem KpB.of_others {b B0 : Nat} {W W' : World} (h : KeepsOthers W W') : KpB b B0 W W' :=
  ⟨h.size, fun k o _ ho hw => h.same k o ho (by cases o <;> simp_all [Obj.isWalk, Obj.isCells])⟩
theorem KeepsBut.low {X Y : Nat → Prop} {A B C : World} (h : KeepsBut X A B) (k : KeepsBut Y B C) (hy : ∀ q, q < A.heap.size → ¬ Y q) : KeepsBut X A C :=
  ⟨k.os.trans h.os, k.tape.trans h.tape, k.output.trans h.output, Nat.le_trans h.size k.size, fun q hq hx => (k.block q (Nat.lt_of_lt_of_le hq h.size) (hy q hq)).trans (h.block q hq hx)⟩
theorem keeps_drew (X : Nat → Prop) (W : World) : KeepsBut X W W.drew := ⟨rfl, rfl, rfl, Nat.le_refl _, fun _ _ _ => rfl⟩
theorem Uni.drew {K : Type} {κ : Kind K} {w : World} {p bu bs nu N : Nat} {U : K → Option K} {Z : K → Option Int} (h : Uni κ w p bu bs nu N U Z) : Uni κ w.drew p bu bs nu N U Z := ⟨h.cu, h.cs, h.mu.same rfl, h.ms.same rfl, h.ne, h.F⟩
theorem keepsFrom_but {X : Nat → Prop} {B : Nat} {W W' : World} (h : KeepsBut X W W') (hx : ∀ q, B ≤ q → ¬ X q) : KeepsFrom B W W' :=
  ⟨h.size, fun q o hq ho _ => (h.block q (Array.getElem?_eq_some_iff.1 ho).1 (hx q hq)).trans ho⟩
/-- what a class's loop holds between its rounds -/
structure CI (p bu bs nu N : Nat) (U Z : Int → Option Int) (k r : Int) (w : World) (n1 nc : Nat) (l : List Int) (W : World) : Prop where
  ex : ∃ (U' : Int → Option Int) (v : Value), Uni κI W p bu bs nu N U' Z ∧ Halved U U' ∧ Boxed W (n1 + 1) 36 v ∧ W.ownsRow (n1 + 2) 3 1 v (pick U k l).length ((pick U k l).map encZ)
  keep : KeepsBut (UX bu bs) w W
  c2 : W.cell? ⟨w.heap.size, 0, none⟩ = some (.pointer (some ⟨p, 0, none⟩))
  c5 : W.cell? ⟨n1, 0, none⟩ = some (.int .i64 r)
  big : n1 + 3 ≤ W.heap.size
  len : l.length ≤ nc

set_option maxRecDepth 100000 in
set_option maxHeartbeats 4000000 in
theorem class_some {p bu bs nu N : Nat} {U Z : Int → Option Int} (w : World) (h : Uni κI w p bu bs nu N U Z) {k : Int} (hk : κI.wf k) (hu : (U k).isSome = true) (hn : nu ≤ 100000) :
    Calls Try.prog 17 #[.pointer (some ⟨p, 0, none⟩), .int .i64 k] w fun e w' => ∃ (v : Value) (ks : List Int) (U' : Int → Option Int), e = .returned v ∧ Rising ks ∧ (∀ x, x ∈ ks ↔ Eq2 U x k) ∧ w'.ownsRow w.heap.size 3 1 v ks.length (ks.map (Value.int .i64)) ∧ Uni κI w' p bu bs nu N U' Z ∧ Halved U U' ∧ KeepsBut (UX bu bs) w w' := by
  rw [← callsIn_wide (n := 5)]
  have hro : (Fence.wide).round = none := rfl
  have hmix : Try.prog.follows .mixedOrders = true := by kernel_rfl
  have hmx : nu < maxLen := by unfold maxLen; omega
  have hplt : p < w.heap.size := World.block_lt_of_cell? _ _ h.cu
  have hbult := h.mu.lt
  have hbslt := h.ms.lt
  have hUa := h.alloc (.cells #[.pointer (some ⟨p, 0, none⟩)] 24)
  have hc1 := has_calls _ hUa hk
  rw [hu] at hc1
  have hc2 := root_calls _ hUa hmx hu
  have hX0 : ∀ q, w.heap.size ≤ q → ¬ UX bu bs q := fun q hq hx => by rcases hx with rfl | rfl <;> omega
  refine callsIn_of_wp_marks Try.func17 rfl trivial ?_ hro
  simp only [Try.ntmps17, List.size_toArray, List.length_cons, List.length_nil, Nat.reduceAdd, Nat.reduceSub, Array.replicate_succ, Array.replicate_zero, List.push_toArray, List.append_toArray, List.nil_append, List.cons_append]
  gi_wp2_with (first
    | ((try refine ⟨trivial, ?_⟩); gi_at_call 37; refine (callsIn_wide.2 hc1).mono ?_; clear hc1; rintro e w' ⟨rfl, rfl⟩)
    | ((try refine ⟨trivial, ?_⟩); gi_at_call 34; refine (callsIn_wide.2 hc2).mono ?_; clear hc2; rintro e w1 ⟨r, U1, rfl, ⟨d1, hto⟩, h1, hh1, k1⟩; have hn1 : w.heap.size + 1 ≤ w1.heap.size := (by have := k1.size; simpa using this); have g2 : w1.cell? ⟨w.heap.size, 0, none⟩ = some (.pointer (some ⟨p, 0, none⟩)) := k1.cell (by simp [go_sem]) (hX0 _ (Nat.le_refl _)); have g2v : ((w1.alloc (.cells #[.int .i64 r] 3)).alloc (.cells #[.slice none 0 0] 36)).cell? ⟨w.heap.size, 0, none⟩ = some (.pointer (some ⟨p, 0, none⟩)) := (by rw [World.cell?_alloc_lt _ _ _ (by show w.heap.size < _; simp; omega), World.cell?_alloc_lt _ _ _ (by show w.heap.size < _; omega)]; exact g2); have hUv := (h1.alloc (.cells #[.int .i64 r] 3)).alloc (.cells #[.slice none 0 0] 36); have gpv := hUv.cu; have hmuv := hUv.mu; obtain ⟨D, hown, hR, hsz, hwf⟩ := hmuv)
    | ((try refine ⟨trivial, ?_⟩); gi_at_call 39; refine (callsIn_wide.2 (AnyW.maps_Clone_owns Try.clone39 3 (plainElem (H := Unit) Try.prog 3) bu nu D _ hown)).mono ?_; rintro e w2 ⟨rfl, hcl, hbu2, hB2⟩)
    | ((try refine ⟨trivial, ?_⟩); gi_at_call 38; refine (callsIn_wide.2 (keys38_calls _ _)).mono ?_; rintro e w' ⟨rfl, rfl⟩))
  have hs2 : w1.heap.size + 2 ≤ w2.heap.size := by have := hB2.size; simpa using this
  simp only [World.size_alloc] at hB2 hcl
  obtain ⟨WL, hWL⟩ : ∃ WL, w2.alloc (.cells #[.map (some (w1.heap.size + 1 + 1))] 66) = WL := ⟨_, rfl⟩
  have hBL : Below (w1.heap.size + 1 + 1) ((w1.alloc (.cells #[.int .i64 r] 3)).alloc (.cells #[.slice none 0 0] 36)) WL := by rw [← hWL]; exact hB2.alloc (by omega) _
  have hsL : WL.heap.size = w2.heap.size + 1 := by rw [← hWL]; simp
  have hUL : Uni κI WL p bu bs nu N U1 Z := by
    refine hUv.keep (X := fun q => w1.heap.size + 1 + 1 ≤ q) ⟨hBL.os, hBL.tape, hBL.output, hBL.size, fun q hq hx => hBL.block q (by omega)⟩ ?_ ?_ ?_ <;> omega
  have kL : KeepsBut (UX bu bs) w WL := by
    refine ⟨hBL.os.trans k1.os, hBL.tape.trans k1.tape, hBL.output.trans k1.output, by omega, fun q hq hx => ?_⟩
    rw [hBL.block q (by omega), Below.heap_alloc _ _ _ (by simp; omega), Below.heap_alloc _ _ _ (by omega), k1.block q (by simp; omega) hx, Below.heap_alloc _ _ _ hq]
  have c2L : WL.cell? ⟨w.heap.size, 0, none⟩ = some (.pointer (some ⟨p, 0, none⟩)) := (hBL.cell (p := ⟨w.heap.size, 0, none⟩) (by show w.heap.size < _; omega)).trans g2v
  have c5L : WL.cell? ⟨w1.heap.size, 0, none⟩ = some (.int .i64 r) := (hBL.cell (p := ⟨w1.heap.size, 0, none⟩) (by show w1.heap.size < _; omega)).trans (by
    rw [World.cell?_alloc_lt _ _ _ (by show w1.heap.size < _; simp)]; simp [go_sem])
  have b6L : Boxed WL (w1.heap.size + 1) 36 (.slice none 0 0) := (hBL.block _ (by omega)).trans (by
    have := World.alloc_heap_new (w1.alloc (.cells #[.int .i64 r] 3)) (.cells #[.slice none 0 0] 36); rwa [World.size_alloc] at this)
  have hclL : WL.ownsMap Try.prog 3 (plainElem (H := Unit) Try.prog 3) (w1.heap.size + 1 + 1) nu D := by rw [← hWL]; exact hcl.alloc _
  have hmL : WL.cell? ⟨w2.heap.size, 0, none⟩ = some (.map (some (w1.heap.size + 1 + 1))) := by rw [← hWL]; simp [go_sem]
  have hstop := keys64_stops Fence.wide 4 trivial hro (by omega) w2.heap.size (w1.heap.size + 1 + 1) nu WL.heap.size D WL (Nat.le_refl _) (by omega) hmL hclL
  have hrk : ∀ U' : Int → Option Int, Halved U U' → ∃ d, To U' d k r := fun U' hh => hh.tos _ _ _ hto
  rw [hWL]
  clear hB2 hcl hbu2 hWL hBL hown hmL hclL g2 g2v gpv k1 h1
  refine wpIn_rangeFunc_ownG hro (by omega) (gf := 64) (lb := #[.pointer (some ⟨w2.heap.size, 0, none⟩)]) rfl trivial (enters_of Try.func64 (by kernel_rfl) rfl) hstop
    KpB.trans (fun W l o o' _ h _ hw => KpB.putObj W l o o' h hw) (Below.refl _ _) (fun _ => rfl)
    (fun pre W => Aside0 (CI p bu bs nu N U Z k r w w1.heap.size (Maps.size D) (pre.map (·.1)) W)) (fun _ _ _ => False) ?hI (fun _ _ _ _ _ hs _ _ => hs) ⟨⟨⟨U1, _, hUL, hh1, b6L, World.ownsRow_nil _ _ _ _⟩, kL, c2L, c5L, by omega, by simp⟩⟩ ?a1 ?assign ?body ?done ?stop
  case hI =>
    rintro pre W W' row ⟨⟨⟨U', v, hU, hh, hbx, hrow⟩, hkp, g2, g5, hbg, hln⟩⟩ hg hr
    have hlow : ∀ q, q < WL.heap.size → row ≠ some q := fun q hq e => by have := (hr q e).1; omega
    refine ⟨⟨⟨U', v, hU.keep (X := fun q => row = some q) (KeepsBut.of_grownBy hg fun r e => e) (hlow p (by omega)) (hlow bu (by omega)) (hlow bs (by omega)), hh, hbx.kept hg (fun e => hlow _ (by omega) e.symm), own_turn hrow hg fun r e => (hr r e).2⟩, ?_, cell_kept g2 hg (fun r e => (hr r e).2), cell_kept g5 hg (fun r e => (hr r e).2), Nat.le_trans hbg hg.size, hln⟩⟩
    exact ⟨hg.os.trans hkp.os, hg.tape.trans hkp.tape, hg.output.trans hkp.output, Nat.le_trans hkp.size hg.size, fun q hq hx => (hg.block q (Nat.lt_of_lt_of_le hq hkp.size) (fun e => hlow q (by omega) e.symm)).trans (hkp.block q hq hx)⟩
  case assign =>
    intro l x W K hK
    gi_wp2
    exact hK
  case body =>
    rintro l pre ⟨x, hx⟩ W ⟨⟨⟨U', v, hU, hh, hbx, hrow⟩, hkp, g2, g5, hbg, hln⟩⟩ hlt
    dsimp only
    have hxs : (U' x).isSome = true := by
      have := hR.has x
      rw [show κI.lit x = Lit.int .i64 x from rfl, hx] at this
      rw [hh.dom, ← hh1.dom]; exact this.symm
    obtain ⟨d0, hk0⟩ := hrk U' hh
    have hroot := root_calls W.drew hU.drew hmx hxs
    have g2d : W.drew.cell? ⟨w.heap.size, 0, none⟩ = some (.pointer (some ⟨p, 0, none⟩)) := g2
    have g5d : W.drew.cell? ⟨w1.heap.size, 0, none⟩ = some (.int .i64 r) := g5
    obtain ⟨i0, hi, hz0, hz1, hz2⟩ := info_parts info3
    have hlen1 : (pick U k (pre.map (·.1))).length ≤ 100000 := by
      have := pick_len U k (pre.map (·.1))
      have : pre.length ≤ Maps.size D := by omega
      rw [List.length_map] at *
      omega
    have hpre : ((pre ++ [(⟨x, hx⟩ : KeyI D)]).map (·.1)) = pre.map (·.1) ++ [x] := by rw [List.map_append]; rfl
    gi_wp2
    gi_region_with_o ((try refine ⟨trivial, ?_⟩); gi_at_call 34; refine (CallsIn.inRound l (callsIn_wide.2 hroot)).mono ?_; clear hroot; rintro e w5 ⟨r2, U2, rfl, ⟨d2, hto2⟩, h5, hh5, k5⟩; have g5w := k5.cell g5d (hX0 _ (by show w.heap.size ≤ w1.heap.size; omega)))
    all_goals
      have hEq : Eq2 U x k ↔ r2 = r := (hh.eq2 h.F x k).symm.trans (Eq2.root_iff hto2 hk0)
      have k5' : KeepsBut (UX bu bs) W w5 := (keeps_drew _ W).trans k5
      have hbx5 : Boxed w5 (w1.heap.size + 1) 36 v := (k5'.block _ hbx.lt (hX0 _ (by omega))).trans hbx
      have hrow5 := own_keep hrow k5' (fun q hq => hX0 q (by omega))
      have g2w := k5'.cell g2 (hX0 _ (Nat.le_refl _))
      have hsz5 : W.heap.size ≤ w5.heap.size := k5'.size
      by_cases e : r2 = r
      · have hb : (r2 == r) = true := beq_iff_eq.2 e
        have hc1 := hbx5.cell
        have hf1 := hbx5.frozen
        gi_wp2_with (gi_at_builtin; refine wpListIn_append_own _ rfl _ _ 36 rfl (w1.heap.size + 2) 3 i0 _ 1 8 Try.underlying36 hi hz0 hz1 hz2 rfl (by decide) _ _ _ rfl (hrow5.alloc _) ⟨w5.heap.size, 0, none⟩ 1 1 [.int .i64 x] rfl rfl (cell_one_new _ _ _) (by simp [Value.oneCell']) (by unfold maxLen; omega) (by omega) (by simp; omega) ?_; intro v' w6 hown' hgrow _; replace hgrow : (w5.alloc (.cells #[.int .i64 x] 3)).grownBy w6 v.ownBlock := hgrow; obtain ⟨g', cap', rfl⟩ := ownsRow_succ hown'; have hv1 := (hbx5.alloc (.cells #[.int .i64 x] 3)).kept hgrow (hbx5.not_row (by decide) hrow5); have hc2 := hv1.cell; have hf2 := hv1.frozen)
        have hkb : KeepsBut (fun q => q = w1.heap.size + 1 ∨ w1.heap.size + 2 ≤ q) w5 (w6.setCell ⟨w1.heap.size + 1, 0, none⟩ (.slice (some ⟨g', 0, none⟩) ((pick U k (pre.map (·.1))).length + 1) cap')) :=
          ((KeepsBut.alloc _ w5 _).trans (KeepsBut.of_grownBy hgrow fun r hr => .inr (own_base hrow5 r hr).1)).trans (KeepsBut.setCell _ _ _ (.inl rfl))
        have hko : KeepsOthers w5 (w6.setCell ⟨w1.heap.size + 1, 0, none⟩ (.slice (some ⟨g', 0, none⟩) ((pick U k (pre.map (·.1))).length + 1) cap')) := by
          refine ((KeepsOthers.alloc w5 _).trans (KeepsOthers.of_grownBy hgrow fun j o ej hj => ?_)).trans (KeepsOthers.setCell _ _ _)
          rcases (hrow5.alloc (.cells #[.int .i64 x] 3)).2 with ⟨rfl, _⟩ | ⟨g, cap, cur, rfl, _, hgb, _⟩
          · simp [Value.ownBlock] at ej
          · obtain rfl : g = j := by simpa [Value.ownBlock] using ej
            rw [hgb] at hj; cases hj; rfl
        refine ⟨(keepsFrom_but k5' (fun q hq => hX0 q (by omega))).trans (hko.from _), (KpB.of_keeps k5' (hX0 _ (by omega)) (fun q hq => hX0 q (by omega))).trans (KpB.of_others hko), ⟨⟨⟨U2, _, h5.keep hkb (by omega) (by omega) (by omega), hh.trans hh5, hv1.set _, ?_⟩, (hkp.trans k5').low hkb (by omega), hkb.cell g2w (by show ¬ (w.heap.size = _ ∨ _ ≤ w.heap.size); omega), hkb.cell g5w (by show ¬ (w1.heap.size = _ ∨ _ ≤ w1.heap.size); omega), Nat.le_trans (Nat.le_trans hbg hsz5) hkb.size, by rw [hpre, List.length_append, List.length_map]; exact hlt⟩⟩⟩
        have := hown'.kept (grownBy_setCell' w6 (w1.heap.size + 1) (.slice (some ⟨g', 0, none⟩) ((pick U k (pre.map (·.1))).length + 1) cap')) (.inr (hv1.not_row (by decide) hown').symm)
        rw [hpre, pick_yes (hEq.2 e), List.length_append, List.map_append]
        exact this
      · have hb : (r2 == r) = false := beq_false_of_ne e
        gi_wp2
        refine ⟨keepsFrom_but k5' (fun q hq => hX0 q (by omega)), KpB.of_keeps k5' (hX0 _ (by omega)) (fun q hq => hX0 q (by omega)), ⟨⟨⟨U2, v, h5, hh.trans hh5, hbx5, ?_⟩, hkp.trans k5', g2w, g5w, by omega, by rw [hpre, List.length_append, List.length_map]; exact hlt⟩⟩⟩
        rw [hpre, pick_no (fun g => e (hEq.1 g))]
        exact hrow5
  case done =>
    rintro Dd ys W hDd ⟨hnd, hall⟩ ⟨⟨⟨U', v, hU, hh, hbx, hrow⟩, hkp, g2, g5, hbg, hln⟩⟩ hK
    have hc1 := hbx.cell
    have hlen1 : (pick U k (ys.map (·.1))).length ≤ 100000 := by
      have := pick_len U k (ys.map (·.1))
      omega
    have hsort := sort_own (w1.heap.size + 2) v _ W hrow (by omega)
    gi_wp2_with ((try refine ⟨trivial, ?_⟩); gi_at_call 40; refine (callsIn_wide.2 hsort).mono ?_; clear hsort; rintro e w5 ⟨rfl, hrow5, hg5⟩; have hbx5 := hbx.kept hg5 (hbx.not_row (by decide) hrow); have hc5 := hbx5.cell)
    have hK' : w5.heap[Dd]? = some (.deferred (some [])) := by
      refine (hg5.block Dd (Array.getElem?_eq_some_iff.1 hK).1 (fun e => ?_)).trans hK
      rcases hrow.2 with ⟨rfl, _⟩ | ⟨g, cap, cur, rfl, _, hgb, _⟩
      · simp [Value.ownBlock] at e
      · obtain rfl : Dd = g := by simpa [Value.ownBlock] using e
        rw [hgb] at hK; cases hK
    refine ⟨by simp, .inl ⟨_, _, rfl, run_takeDeferred hK', ?_⟩⟩
    have hX2 : KeepsBut (fun q => w.heap.size ≤ q) W (w5.putObj Dd (.deferred none)) := (KeepsBut.of_grownBy hg5 fun r hr => by have := (own_base hrow r hr).1; show w.heap.size ≤ r; omega).trans (KeepsBut.putObj w5 _ (by show w.heap.size ≤ Dd; omega))
    refine ⟨_, results_tmp rfl _ _ _, _, _, U', rfl, merge_rising (ss := pick U k (ys.map (·.1))) ?_, fun x => ?_, ?_, hU.keep hX2 (by omega) (by omega) (by omega), hh, hkp.low hX2 (by omega)⟩
    · exact hnd.filter _
    · rw [List.mem_mergeSort, pick_mem]
      refine ⟨fun g => g.2, fun g => ⟨hall x ?_, g⟩⟩
      have := hR.has x
      rw [show κI.lit x = Lit.int .i64 x from rfl] at this
      rw [this, hh1.dom]
      exact (Eq2.self_iff h.F).1 (g.trans g.symm)
    · refine own_lower ?_ (show w.heap.size ≤ w1.heap.size + 2 by omega)
      have := ownsRow_putObj hrow5 (.deferred none) hK' rfl
      rw [show (pick U k (ys.map (·.1))).length = ((pick U k (ys.map (·.1))).mergeSort fun x y => decide (x ≤ y)).length by simp] at this
      exact this
  case stop =>
    rintro D c pre W _ _ h _
    exact h.elim
end Go.Proofs.Yteeapfmgdlcgfaa.A


namespace Go.Proofs.Yteeapfmgdlcgfaa.A
open Go.RowKit Go.Maps Go.Sort Go.Shelf Go.Proofs.YteeapfmgdlcgfaaW.PrintWords Go.Proofs.YteeapfmgdlcgfaaW.PrintLast
attribute [local go_sem] Oper.semAt_some
set_option linter.unusedVariables false
set_option linter.unusedSimpArgs false

def RisingS (ks : List (List UInt8)) : Prop := ks.Pairwise fun x y => x < y
theorem merge_risingS {ss : List (List UInt8)} (h : ss.Nodup) : RisingS (ss.mergeSort fun x y => decide (x ≤ y)) := by
  have h1 : (ss.mergeSort fun x y => decide (x ≤ y)).Pairwise (fun x y => decide (x ≤ y) = true) := List.pairwise_mergeSort (le := fun x y : List UInt8 => decide (x ≤ y)) (fun a b c h1 h2 => decide_eq_true (List.le_trans (of_decide_eq_true h1) (of_decide_eq_true h2))) (fun a b => by
    rcases List.le_total a b with h | h
    · simp [h]
    · simp [h]) ss
  have h2 : (ss.mergeSort fun x y => decide (x ≤ y)).Nodup := (List.mergeSort_perm ss _).nodup_iff.2 h
  refine (h1.and h2).imp (fun {a b} ⟨h3, h4⟩ => ?_)
  exact Classical.byContradiction fun hn => h4 (List.le_antisymm (of_decide_eq_true h3) hn)
theorem info9 : (Try.prog.info? 9).map (fun i => (i.zero, i.size, i.bytes)) = some (some (.string ⟨#[]⟩), 1, 16) := by kernel_rfl
set_option maxRecDepth 100000 in
set_option maxHeartbeats 4000000 in
theorem class_noneS {p bu bs nu N : Nat} {U : Str → Option Str} {Z : Str → Option Int} (w : World) (h : Uni κS w p bu bs nu N U Z) {k : Str} (hk : κS.wf k) (hu : U k = none) :
    Calls Try.prog 18 #[.pointer (some ⟨p, 0, none⟩), .string k] w fun e w' => e = .returned (.slice none 0 0) ∧ Uni κS w' p bu bs nu N U Z ∧ Below w.heap.size w w' := by
  rw [← callsIn_wide (n := 5)]
  have hro : (Fence.wide).round = none := rfl
  have hUa := h.alloc (.cells #[.pointer (some ⟨p, 0, none⟩)] 26)
  have hc1 := has_callsS _ hUa hk
  rw [hu] at hc1
  have hB : Below w.heap.size w (w.alloc (.cells #[.pointer (some ⟨p, 0, none⟩)] 26)) := below_alloc (Below.refl _ _) _
  refine callsIn_of_wp_marks Try.func18 rfl trivial ?_ hro
  simp only [Try.ntmps18, List.size_toArray, List.length_cons, List.length_nil, Nat.reduceAdd, Nat.reduceSub, Array.replicate_succ, Array.replicate_zero, List.push_toArray, List.append_toArray, List.nil_append, List.cons_append]
  gi_wp2_with ((try refine ⟨trivial, ?_⟩); gi_at_call 41; refine (callsIn_wide.2 hc1).mono ?_; rintro e w' ⟨rfl, rfl⟩)
  refine ⟨.slice none 0 0, ?_, rfl, hUa, hB⟩
  simp [results, Try.f17, go_sem]

/-- those of a row that are in one class with k -/
noncomputable def pickS (U : Str → Option Str) (k : Str) (l : List Str) : List Str := l.filter (fun x => @decide (Eq2 U x k) (Classical.propDecidable _))
theorem pickS_len (U : Str → Option Str) (k : Str) (l : List Str) : (pickS U k l).length ≤ l.length := List.length_filter_le _ _
theorem pickS_mem {U : Str → Option Str} {k : Str} {l : List Str} {x : Str} : x ∈ pickS U k l ↔ x ∈ l ∧ Eq2 U x k := by unfold pickS; rw [List.mem_filter]; simp
theorem pickS_yes {U : Str → Option Str} {k x : Str} {l : List Str} (h : Eq2 U x k) : pickS U k (l ++ [x]) = pickS U k l ++ [x] := by unfold pickS; rw [List.filter_append, List.filter_cons]; simp [h]
theorem pickS_no {U : Str → Option Str} {k x : Str} {l : List Str} (h : ¬ Eq2 U x k) : pickS U k (l ++ [x]) = pickS U k l := by unfold pickS; rw [List.filter_append, List.filter_cons]; simp [h]

/-- what a class's loop holds between its rounds -/
structure CIS (p bu bs nu N : Nat) (U : Str → Option Str) (Z : Str → Option Int) (k r : Str) (w : World) (n1 nc : Nat) (l : List Str) (W : World) : Prop where
  ex : ∃ (U' : Str → Option Str) (v : Value), Uni κS W p bu bs nu N U' Z ∧ Halved U U' ∧ Boxed W (n1 + 1) 38 v ∧ W.ownsRow (n1 + 2) 9 1 v (pickS U k l).length ((pickS U k l).map Value.string)
  keep : KeepsBut (UX bu bs) w W
  c2 : W.cell? ⟨w.heap.size, 0, none⟩ = some (.pointer (some ⟨p, 0, none⟩))
  c5 : W.cell? ⟨n1, 0, none⟩ = some (.string r)
  big : n1 + 3 ≤ W.heap.size
  len : l.length ≤ nc

set_option maxRecDepth 100000 in
set_option maxHeartbeats 4000000 in
theorem class_someS {p bu bs nu N : Nat} {U : Str → Option Str} {Z : Str → Option Int} (w : World) (h : Uni κS w p bu bs nu N U Z) {k : Str} (hk : κS.wf k) (hu : (U k).isSome = true) (hn : nu ≤ 100000) :
    Calls Try.prog 18 #[.pointer (some ⟨p, 0, none⟩), .string k] w fun e w' => ∃ (v : Value) (ss : List (List UInt8)) (U' : Str → Option Str), e = .returned v ∧ RisingS ss ∧ (∀ x : List UInt8, x ∈ ss ↔ Eq2 U ⟨x.toArray⟩ k) ∧ w'.ownsRow w.heap.size 9 1 v ss.length (ss.map encStr) ∧ Uni κS w' p bu bs nu N U' Z ∧ Halved U U' ∧ KeepsBut (UX bu bs) w w' := by
  rw [← callsIn_wide (n := 5)]
  have hro : (Fence.wide).round = none := rfl
  have hmix : Try.prog.follows .mixedOrders = true := by kernel_rfl
  have hmx : nu < maxLen := by unfold maxLen; omega
  have hplt : p < w.heap.size := World.block_lt_of_cell? _ _ h.cu
  have hbult := h.mu.lt
  have hbslt := h.ms.lt
  have hUa := h.alloc (.cells #[.pointer (some ⟨p, 0, none⟩)] 26)
  have hc1 := has_callsS _ hUa hk
  rw [hu] at hc1
  have hc2 := root_callsS _ hUa hmx hu
  have hX0 : ∀ q, w.heap.size ≤ q → ¬ UX bu bs q := fun q hq hx => by rcases hx with rfl | rfl <;> omega
  refine callsIn_of_wp_marks Try.func18 rfl trivial ?_ hro
  simp only [Try.ntmps18, List.size_toArray, List.length_cons, List.length_nil, Nat.reduceAdd, Nat.reduceSub, Array.replicate_succ, Array.replicate_zero, List.push_toArray, List.append_toArray, List.nil_append, List.cons_append]
  gi_wp2_with (first
    | ((try refine ⟨trivial, ?_⟩); gi_at_call 41; refine (callsIn_wide.2 hc1).mono ?_; clear hc1; rintro e w' ⟨rfl, rfl⟩)
    | ((try refine ⟨trivial, ?_⟩); gi_at_call 36; refine (callsIn_wide.2 hc2).mono ?_; clear hc2; rintro e w1 ⟨r, U1, rfl, ⟨d1, hto⟩, h1, hh1, k1⟩; have hn1 : w.heap.size + 1 ≤ w1.heap.size := (by have := k1.size; simpa using this); have g2 : w1.cell? ⟨w.heap.size, 0, none⟩ = some (.pointer (some ⟨p, 0, none⟩)) := k1.cell (by simp [go_sem]) (hX0 _ (Nat.le_refl _)); have g2v : ((w1.alloc (.cells #[.string r] 9)).alloc (.cells #[.slice none 0 0] 38)).cell? ⟨w.heap.size, 0, none⟩ = some (.pointer (some ⟨p, 0, none⟩)) := (by rw [World.cell?_alloc_lt _ _ _ (by show w.heap.size < _; simp; omega), World.cell?_alloc_lt _ _ _ (by show w.heap.size < _; omega)]; exact g2); have hUv := (h1.alloc (.cells #[.string r] 9)).alloc (.cells #[.slice none 0 0] 38); have gpv := hUv.cu; have hmuv := hUv.mu; obtain ⟨D, hown, hR, hsz, hwf⟩ := hmuv)
    | ((try refine ⟨trivial, ?_⟩); gi_at_call 43; refine (callsIn_wide.2 (AnyW.maps_Clone_owns Try.clone43 9 (plainElem (H := Unit) Try.prog 9) bu nu D _ hown)).mono ?_; rintro e w2 ⟨rfl, hcl, hbu2, hB2⟩)
    | ((try refine ⟨trivial, ?_⟩); gi_at_call 42; refine (callsIn_wide.2 (keys42_calls _ _)).mono ?_; rintro e w' ⟨rfl, rfl⟩))
  have hs2 : w1.heap.size + 2 ≤ w2.heap.size := by have := hB2.size; simpa using this
  simp only [World.size_alloc] at hB2 hcl
  obtain ⟨WL, hWL⟩ : ∃ WL, w2.alloc (.cells #[.map (some (w1.heap.size + 1 + 1))] 69) = WL := ⟨_, rfl⟩
  have hBL : Below (w1.heap.size + 1 + 1) ((w1.alloc (.cells #[.string r] 9)).alloc (.cells #[.slice none 0 0] 38)) WL := by rw [← hWL]; exact hB2.alloc (by omega) _
  have hsL : WL.heap.size = w2.heap.size + 1 := by rw [← hWL]; simp
  have hUL : Uni κS WL p bu bs nu N U1 Z := by
    refine hUv.keep (X := fun q => w1.heap.size + 1 + 1 ≤ q) ⟨hBL.os, hBL.tape, hBL.output, hBL.size, fun q hq hx => hBL.block q (by omega)⟩ ?_ ?_ ?_ <;> omega
  have kL : KeepsBut (UX bu bs) w WL := by
    refine ⟨hBL.os.trans k1.os, hBL.tape.trans k1.tape, hBL.output.trans k1.output, by omega, fun q hq hx => ?_⟩
    rw [hBL.block q (by omega), Below.heap_alloc _ _ _ (by simp; omega), Below.heap_alloc _ _ _ (by omega), k1.block q (by simp; omega) hx, Below.heap_alloc _ _ _ hq]
  have c2L : WL.cell? ⟨w.heap.size, 0, none⟩ = some (.pointer (some ⟨p, 0, none⟩)) := (hBL.cell (p := ⟨w.heap.size, 0, none⟩) (by show w.heap.size < _; omega)).trans g2v
  have c5L : WL.cell? ⟨w1.heap.size, 0, none⟩ = some (.string r) := (hBL.cell (p := ⟨w1.heap.size, 0, none⟩) (by show w1.heap.size < _; omega)).trans (by
    rw [World.cell?_alloc_lt _ _ _ (by show w1.heap.size < _; simp)]; simp [go_sem])
  have b6L : Boxed WL (w1.heap.size + 1) 38 (.slice none 0 0) := (hBL.block _ (by omega)).trans (by
    have := World.alloc_heap_new (w1.alloc (.cells #[.string r] 9)) (.cells #[.slice none 0 0] 38); rwa [World.size_alloc] at this)
  have hclL : WL.ownsMap Try.prog 9 (plainElem (H := Unit) Try.prog 9) (w1.heap.size + 1 + 1) nu D := by rw [← hWL]; exact hcl.alloc _
  have hmL : WL.cell? ⟨w2.heap.size, 0, none⟩ = some (.map (some (w1.heap.size + 1 + 1))) := by rw [← hWL]; simp [go_sem]
  have hstop := keys68_stops Fence.wide 4 trivial hro (by omega) w2.heap.size (w1.heap.size + 1 + 1) nu WL.heap.size D WL (Nat.le_refl _) (by omega) hmL hclL
  have hrk : ∀ U' : Str → Option Str, Halved U U' → ∃ d, To U' d k r := fun U' hh => hh.tos _ _ _ hto
  rw [hWL]
  clear hB2 hcl hbu2 hWL hBL hown hmL hclL g2 g2v gpv k1 h1
  refine wpIn_rangeFunc_ownG hro (by omega) (gf := 68) (lb := #[.pointer (some ⟨w2.heap.size, 0, none⟩)]) rfl trivial (enters_of Try.func68 (by kernel_rfl) rfl) hstop
    KpB.trans (fun W l o o' _ h _ hw => KpB.putObj W l o o' h hw) (Below.refl _ _) (fun _ => rfl)
    (fun pre W => Aside0 (CIS p bu bs nu N U Z k r w w1.heap.size (Maps.size D) (pre.map (·.1)) W)) (fun _ _ _ => False) ?hI (fun _ _ _ _ _ hs _ _ => hs) ⟨⟨⟨U1, _, hUL, hh1, b6L, World.ownsRow_nil _ _ _ _⟩, kL, c2L, c5L, by omega, by simp⟩⟩ ?a1 ?assign ?body ?done ?stop
  case hI =>
    rintro pre W W' row ⟨⟨⟨U', v, hU, hh, hbx, hrow⟩, hkp, g2, g5, hbg, hln⟩⟩ hg hr
    have hlow : ∀ q, q < WL.heap.size → row ≠ some q := fun q hq e => by have := (hr q e).1; omega
    refine ⟨⟨⟨U', v, hU.keep (X := fun q => row = some q) (KeepsBut.of_grownBy hg fun r e => e) (hlow p (by omega)) (hlow bu (by omega)) (hlow bs (by omega)), hh, hbx.kept hg (fun e => hlow _ (by omega) e.symm), own_turn hrow hg fun r e => (hr r e).2⟩, ?_, cell_kept g2 hg (fun r e => (hr r e).2), cell_kept g5 hg (fun r e => (hr r e).2), Nat.le_trans hbg hg.size, hln⟩⟩
    exact ⟨hg.os.trans hkp.os, hg.tape.trans hkp.tape, hg.output.trans hkp.output, Nat.le_trans hkp.size hg.size, fun q hq hx => (hg.block q (Nat.lt_of_lt_of_le hq hkp.size) (fun e => hlow q (by omega) e.symm)).trans (hkp.block q hq hx)⟩
  case assign =>
    intro l x W K hK
    gi_wp2
    exact hK
  case body =>
    rintro l pre ⟨x, hx⟩ W ⟨⟨⟨U', v, hU, hh, hbx, hrow⟩, hkp, g2, g5, hbg, hln⟩⟩ hlt
    dsimp only
    have hxs : (U' x).isSome = true := by
      have := hR.has x
      rw [show κS.lit x = Lit.string x.data.toList from rfl, hx] at this
      rw [hh.dom, ← hh1.dom]; exact this.symm
    obtain ⟨d0, hk0⟩ := hrk U' hh
    have hroot := root_callsS W.drew hU.drew hmx hxs
    have g2d : W.drew.cell? ⟨w.heap.size, 0, none⟩ = some (.pointer (some ⟨p, 0, none⟩)) := g2
    have g5d : W.drew.cell? ⟨w1.heap.size, 0, none⟩ = some (.string r) := g5
    obtain ⟨i0, hi, hz0, hz1, hz2⟩ := info_parts info9
    have hlen1 : (pickS U k (pre.map (·.1))).length ≤ 100000 := by
      have := pickS_len U k (pre.map (·.1))
      have : pre.length ≤ Maps.size D := by omega
      rw [List.length_map] at *
      omega
    have hpre : ((pre ++ [(⟨x, hx⟩ : KeyS D)]).map (·.1)) = pre.map (·.1) ++ [x] := by rw [List.map_append]; rfl
    gi_wp2
    gi_region_with_o ((try refine ⟨trivial, ?_⟩); gi_at_call 36; refine (CallsIn.inRound l (callsIn_wide.2 hroot)).mono ?_; clear hroot; rintro e w5 ⟨r2, U2, rfl, ⟨d2, hto2⟩, h5, hh5, k5⟩; have g5w := k5.cell g5d (hX0 _ (by show w.heap.size ≤ w1.heap.size; omega)))
    all_goals
      have hEq : Eq2 U x k ↔ r2 = r := (hh.eq2 h.F x k).symm.trans (Eq2.root_iff hto2 hk0)
      have k5' : KeepsBut (UX bu bs) W w5 := (keeps_drew _ W).trans k5
      have hbx5 : Boxed w5 (w1.heap.size + 1) 38 v := (k5'.block _ hbx.lt (hX0 _ (by omega))).trans hbx
      have hrow5 := own_keep hrow k5' (fun q hq => hX0 q (by omega))
      have g2w := k5'.cell g2 (hX0 _ (Nat.le_refl _))
      have hsz5 : W.heap.size ≤ w5.heap.size := k5'.size
      generalize hcb : (ByteArray.toList r2 == ByteArray.toList r) = cb
      cases cb
      rotate_left
      · have e : r2 = r := str_ext (by rw [← ByteArray.toList_eq, ← ByteArray.toList_eq]; exact eq_of_beq hcb)
        have hc1 := hbx5.cell
        have hf1 := hbx5.frozen
        gi_wp2_with (gi_at_builtin; refine wpListIn_append_own _ rfl _ _ 38 rfl (w1.heap.size + 2) 9 i0 _ 1 16 Try.underlying38 hi hz0 hz1 hz2 rfl (by decide) _ _ _ rfl (hrow5.alloc _) ⟨w5.heap.size, 0, none⟩ 1 1 [.string x] rfl rfl (cell_one_new _ _ _) (by simp [Value.oneCell']) (by unfold maxLen; omega) (by omega) (by simp; omega) ?_; intro v' w6 hown' hgrow _; replace hgrow : (w5.alloc (.cells #[.string x] 9)).grownBy w6 v.ownBlock := hgrow; obtain ⟨g', cap', rfl⟩ := ownsRow_succ hown'; have hv1 := (hbx5.alloc (.cells #[.string x] 9)).kept hgrow (hbx5.not_row (by decide) hrow5); have hc2 := hv1.cell; have hf2 := hv1.frozen)
        have hkb : KeepsBut (fun q => q = w1.heap.size + 1 ∨ w1.heap.size + 2 ≤ q) w5 (w6.setCell ⟨w1.heap.size + 1, 0, none⟩ (.slice (some ⟨g', 0, none⟩) ((pickS U k (pre.map (·.1))).length + 1) cap')) :=
          ((KeepsBut.alloc _ w5 _).trans (KeepsBut.of_grownBy hgrow fun r hr => .inr (own_base hrow5 r hr).1)).trans (KeepsBut.setCell _ _ _ (.inl rfl))
        have hko : KeepsOthers w5 (w6.setCell ⟨w1.heap.size + 1, 0, none⟩ (.slice (some ⟨g', 0, none⟩) ((pickS U k (pre.map (·.1))).length + 1) cap')) := by
          refine ((KeepsOthers.alloc w5 _).trans (KeepsOthers.of_grownBy hgrow fun j o ej hj => ?_)).trans (KeepsOthers.setCell _ _ _)
          rcases (hrow5.alloc (.cells #[.string x] 9)).2 with ⟨rfl, _⟩ | ⟨g, cap, cur, rfl, _, hgb, _⟩
          · simp [Value.ownBlock] at ej
          · obtain rfl : g = j := by simpa [Value.ownBlock] using ej
            rw [hgb] at hj; cases hj; rfl
        refine ⟨(keepsFrom_but k5' (fun q hq => hX0 q (by omega))).trans (hko.from _), (KpB.of_keeps k5' (hX0 _ (by omega)) (fun q hq => hX0 q (by omega))).trans (KpB.of_others hko), ⟨⟨⟨U2, _, h5.keep hkb (by omega) (by omega) (by omega), hh.trans hh5, hv1.set _, ?_⟩, (hkp.trans k5').low hkb (by omega), hkb.cell g2w (by show ¬ (w.heap.size = _ ∨ _ ≤ w.heap.size); omega), hkb.cell g5w (by show ¬ (w1.heap.size = _ ∨ _ ≤ w1.heap.size); omega), Nat.le_trans (Nat.le_trans hbg hsz5) hkb.size, by rw [hpre, List.length_append, List.length_map]; exact hlt⟩⟩⟩
        have := hown'.kept (grownBy_setCell' w6 (w1.heap.size + 1) (.slice (some ⟨g', 0, none⟩) ((pickS U k (pre.map (·.1))).length + 1) cap')) (.inr (hv1.not_row (by decide) hown').symm)
        rw [hpre, pickS_yes (hEq.2 e), List.length_append, List.map_append]
        exact this
      · have e : ¬ r2 = r := fun g => by rw [g] at hcb; simp at hcb
        gi_wp2
        refine ⟨keepsFrom_but k5' (fun q hq => hX0 q (by omega)), KpB.of_keeps k5' (hX0 _ (by omega)) (fun q hq => hX0 q (by omega)), ⟨⟨⟨U2, v, h5, hh.trans hh5, hbx5, ?_⟩, hkp.trans k5', g2w, g5w, by omega, by rw [hpre, List.length_append, List.length_map]; exact hlt⟩⟩⟩
        rw [hpre, pickS_no (fun g => e (hEq.1 g))]
        exact hrow5
  case done =>
    rintro Dd ys W hDd ⟨hnd, hall⟩ ⟨⟨⟨U', v, hU, hh, hbx, hrow⟩, hkp, g2, g5, hbg, hln⟩⟩ hK
    have hc1 := hbx.cell
    have hlen1 : (pickS U k (ys.map (·.1))).length ≤ 100000 := by
      have := pickS_len U k (ys.map (·.1))
      omega
    obtain ⟨ss, hss⟩ : ∃ ss : List (List UInt8), ss = (pickS U k (ys.map (·.1))).map (fun y : Str => y.data.toList) := ⟨_, rfl⟩
    have hsl : ss.length = (pickS U k (ys.map (·.1))).length := by rw [hss, List.length_map]
    have hrow' : W.ownsRow (w1.heap.size + 2) 9 1 v ss.length (ss.map encStr) := by
      rw [hsl, hss, List.map_map]; exact hrow
    have hsort := sort_ownS (w1.heap.size + 2) v ss W hrow' (by omega)
    gi_wp2_with ((try refine ⟨trivial, ?_⟩); gi_at_call 44; refine (callsIn_wide.2 hsort).mono ?_; clear hsort; rintro e w5 ⟨rfl, hrow5, hg5⟩; have hbx5 := hbx.kept hg5 (hbx.not_row (by decide) hrow); have hc5 := hbx5.cell)
    have hK' : w5.heap[Dd]? = some (.deferred (some [])) := by
      refine (hg5.block Dd (Array.getElem?_eq_some_iff.1 hK).1 (fun e => ?_)).trans hK
      rcases hrow.2 with ⟨rfl, _⟩ | ⟨g, cap, cur, rfl, _, hgb, _⟩
      · simp [Value.ownBlock] at e
      · obtain rfl : Dd = g := by simpa [Value.ownBlock] using e
        rw [hgb] at hK; cases hK
    refine ⟨by simp, .inl ⟨_, _, rfl, run_takeDeferred hK', ?_⟩⟩
    have hX2 : KeepsBut (fun q => w.heap.size ≤ q) W (w5.putObj Dd (.deferred none)) := (KeepsBut.of_grownBy hg5 fun r hr => by have := (own_base hrow r hr).1; show w.heap.size ≤ r; omega).trans (KeepsBut.putObj w5 _ (by show w.heap.size ≤ Dd; omega))
    refine ⟨_, results_tmp rfl _ _ _, _, _, U', rfl, merge_risingS (ss := ss) ?_, fun x => ?_, ?_, hU.keep hX2 (by omega) (by omega) (by omega), hh, hkp.low hX2 (by omega)⟩
    · rw [hss]
      refine List.Nodup.sublist ?_ hnd
      rw [show ys.map (fun y => y.1.data.toList) = (ys.map (·.1)).map (fun y : Str => y.data.toList) by rw [List.map_map]; rfl]
      exact (List.filter_sublist).map _
    · rw [List.mem_mergeSort, hss, List.mem_map]
      constructor
      · rintro ⟨y, hy, rfl⟩
        exact (pickS_mem.1 hy).2
      · intro g
        have hx : has D (.string x) = true := by
          have := hR.has ⟨x.toArray⟩
          rw [show κS.lit ⟨x.toArray⟩ = Lit.string x from rfl] at this
          rw [this, hh1.dom]
          exact (Eq2.self_iff h.F).1 (g.trans g.symm)
        obtain ⟨y, hy, e⟩ := List.mem_map.1 (hall x hx)
        refine ⟨y.1, pickS_mem.2 ⟨List.mem_map.2 ⟨y, hy, rfl⟩, ?_⟩, e⟩
        rw [show y.1 = ⟨x.toArray⟩ from str_ext e]
        exact g
    · refine own_lower ?_ (show w.heap.size ≤ w1.heap.size + 2 by omega)
      have := ownsRow_putObj hrow5 (.deferred none) hK' rfl
      rw [show ss.length = (ss.mergeSort fun x y => decide (x ≤ y)).length by simp] at this
      exact this
  case stop =>
    rintro D c pre W _ _ h _
    exact h.elim
end Go.Proofs.Yteeapfmgdlcgfaa.A


namespace Go.Proofs.Yteeapfmgdlcgfaa.A
open Go.RowKit Go.Maps Go.Proofs.YteeapfmgdlcgfaaW.PrintWords Go.Proofs.YteeapfmgdlcgfaaW.PrintLast
set_option linter.unusedVariables false
set_option linter.unusedSimpArgs false

theorem class_un {p bu bs nu N : Nat} {E : Int → Int → Prop} (w : World) (h : UN κI w p bu bs nu N E) {k : Int} (hk : κI.wf k) (hn : nu ≤ 100000) :
    Calls Try.prog 17 #[.pointer (some ⟨p, 0, none⟩), .int .i64 k] w fun e w' => ∃ (v : Value) (ks : List Int), e = .returned v ∧ Rising ks ∧ (∀ x, x ∈ ks ↔ E x k) ∧ w'.ownsRow w.heap.size 3 1 v ks.length (ks.map (Value.int .i64)) ∧ UN κI w' p bu bs nu N E ∧ KeepsBut (UX bu bs) w w' := by
  obtain ⟨U, Z, h1, h2⟩ := h
  cases hu : U k with
  | none =>
    refine (class_none w h1 hk hu).mono ?_
    rintro e w' ⟨rfl, h3, hB⟩
    refine ⟨_, [], rfl, List.Pairwise.nil, fun x => ?_, World.ownsRow_nil _ _ _ _, ⟨U, Z, h3, h2⟩, keeps_below hB _⟩
    rw [← h2]
    constructor
    · intro g; cases g
    · intro g
      have := (Eq2.self_iff h1.F).1 (g.symm.trans g)
      rw [hu] at this; cases this
  | some j =>
    refine (class_some w h1 hk (by rw [hu]; rfl) hn).mono ?_
    rintro e w' ⟨v, ks, U', rfl, h3, h4, h5, h6, h7, h8⟩
    exact ⟨v, ks, rfl, h3, fun x => (h4 x).trans (h2 x k), h5, ⟨U', Z, h6, fun x y => (h7.eq2 h1.F x y).trans (h2 x y)⟩, h8⟩
theorem add_un {p bu bs nu N : Nat} {E : Int → Int → Prop} (w : World) (h : UN κI w p bu bs nu N E) {k : Int} (hk : κI.wf k) (hn : nu ≤ 100000) (hN : N ≤ 100000) :
    Calls Try.prog 22 #[.pointer (some ⟨p, 0, none⟩), .int .i64 k] w fun e w' => ∃ r : Bool, e = .returned (.bool r) ∧ (r = true ↔ ¬ E k k) ∧ UN κI w' p bu bs (nu + r.toNat) (N + r.toNat) (addE E k) ∧ KeepsBut (UX bu bs) w w' := by
  obtain ⟨U, Z, h1, h2⟩ := h
  refine (add_calls w h1 hk (by unfold maxLen; omega) (by unfold maxLen; omega)).mono ?_
  rintro e w' ⟨r, U', Z', rfl, h3, h4, h5, h6⟩
  exact ⟨r, rfl, h3.trans (not_congr (h2 k k)), ⟨U', Z', h4, fun x y => by rw [h5]; unfold addE; rw [h2]⟩, h6⟩
theorem join_un {p bu bs nu N : Nat} {E : Int → Int → Prop} (w : World) (h : UN κI w p bu bs nu N E) {a b : Int} (ha : κI.wf a) (hb : κI.wf b) (hn : nu ≤ 100000) (hN : N ≤ 100000) :
    Calls Try.prog 12 #[.pointer (some ⟨p, 0, none⟩), .int .i64 a, .int .i64 b] w fun e w' => ∃ (ra rb r : Bool), e = .returned (.bool r) ∧ (ra = true ↔ ¬ E a a) ∧ (rb = true ↔ ¬ addE E a b b) ∧ (r = true ↔ ¬ addE (addE E a) b a b) ∧
      UN κI w' p bu bs (nu + ra.toNat + rb.toNat) (N + ra.toNat + rb.toNat - r.toNat) (joinE (addE (addE E a) b) a b) ∧ KeepsBut (UX bu bs) w w' := by
  obtain ⟨U, Z, h1, h2⟩ := h
  have hE : ∀ x y, addE (addE (Eq2 U) a) b x y ↔ addE (addE E a) b x y := fun x y => by unfold addE; rw [h2]
  refine (join_calls w h1 ha hb (by unfold maxLen; omega) (by unfold maxLen; omega)).mono ?_
  rintro e w' ⟨ra, rb, r, U', Z', rfl, h3, h4, h5, h6, h7, h8⟩
  refine ⟨ra, rb, r, rfl, h3.trans (not_congr (h2 a a)), h4.trans (not_congr ?_), h5.trans (not_congr (hE a b)), ⟨U', Z', h6, fun x y => ?_⟩, h8⟩
  · unfold addE; rw [h2]
  · rw [h7]; unfold joinE; rw [hE, hE, hE, hE, hE]
theorem len_un {p bu bs nu N : Nat} {E : Int → Int → Prop} (w : World) (h : UN κI w p bu bs nu N E) :
    Calls Try.prog 19 #[.pointer (some ⟨p, 0, none⟩)] w fun e w' => e = .returned (.int .i64 N) ∧ w' = w := by
  obtain ⟨U, Z, h1, h2⟩ := h
  exact len_calls w h1
theorem new_un (w : World) : Calls Try.prog 10 #[] w fun e w' => ∃ p bu bs, e = .returned (.pointer (some ⟨p, 0, none⟩)) ∧ w.heap.size ≤ p ∧ w.heap.size ≤ bu ∧ w.heap.size ≤ bs ∧ UN κI w' p bu bs 0 0 (fun _ _ => False) ∧ Below w.heap.size w w' := by
  refine (new_calls w).mono ?_
  rintro e w' ⟨p, bu, bs, rfl, h1, h2, h3, h4, h5⟩
  refine ⟨p, bu, bs, rfl, h1, h2, h3, ⟨_, _, h4, fun x y => ⟨?_, False.elim⟩⟩, h5⟩
  rintro ⟨r, d, e, g, _⟩
  obtain ⟨j, hj⟩ := g.has
  cases hj
theorem UN.lt {p bu bs nu N : Nat} {E : Int → Int → Prop} {w : World} (h : UN κI w p bu bs nu N E) : p < w.heap.size ∧ bu < w.heap.size ∧ bs < w.heap.size := by
  obtain ⟨U, Z, h1, h2⟩ := h
  exact ⟨World.block_lt_of_cell? _ _ h1.cu, h1.mu.lt, h1.ms.lt⟩
theorem UN.ne {p bu bs nu N : Nat} {E : Int → Int → Prop} {w : World} (h : UN κI w p bu bs nu N E) : p ≠ bu ∧ p ≠ bs := by
  obtain ⟨U, Z, h1, h2⟩ := h
  exact h1.pne

set_option maxRecDepth 100000 in
set_option maxHeartbeats 4000000 in
theorem find_un {p bu bs nu N : Nat} {E : Int → Int → Prop} (w : World) (h : UN κI w p bu bs nu N E) {k : Int} (hk : κI.wf k) (hn : nu ≤ 100000) :
    Calls Try.prog 15 #[.pointer (some ⟨p, 0, none⟩), .int .i64 k] w fun e w' => ∃ (m : Int) (r : Bool), e = .returned (.tuple #[.int .i64 m, .bool r]) ∧ (r = true → E m k ∧ ∀ x, E x k → m ≤ x) ∧ (r = false → m = 0 ∧ ∀ x, ¬ E x k) ∧ UN κI w' p bu bs nu N E ∧ KeepsBut (UX bu bs) w w' := by
  have hc := class_un w h hk hn
  go_enter Try.func15, Try.ntmps15
  go_wp2_with fail
  refine hc.mono ?_
  clear hc
  rintro e w1 ⟨v, ks, rfl, h1, h2, h30, h4, h5⟩
  have h3 : Kd.R (Kd.int .i64) 3 w1 w.heap.size (fun _ => True) v ks := Kd.R_of_own h30 (fun _ _ => trivial)
  clear h30
  obtain ⟨A, c, rfl⟩ := Kd.R_slice h3
  cases ks with
  | nil =>
    have hz : ((([] : List Int).length : Nat) : Int) = 0 := rfl
    have hz2 : (((([] : List Int).length : Nat) : Int) == 0) = true := rfl
    go_wp2
    (try simp only [Exit.inBlock, Exit.then])
    refine bodyPost_ret (results_tmp2 rfl _ _ _) rfl ?_
    exact ⟨0, false, rfl, fun g => by simp at g, fun _ => ⟨rfl, fun x g => by have := (h2 x).2 g; cases this⟩, h4, h5⟩
  | cons m l =>
    have hz2 : ((((m :: l).length : Nat) : Int) == 0) = false := by simp; omega
    have hp : (0 : Int) ≤ 0 := by omega
    have hq : (0 : Int) < (((m :: l).length : Nat) : Int) := by simp
    obtain ⟨ad, e1, hx⟩ := Kd.at_int (Kd.R_reads' h3).2.2 0 hp hq
    cases e1
    have hm : rd (m :: l) 0 = m := rfl
    rw [hm] at hx
    have hx0 : w1.cell? ad = some (.int .i64 m) := by have := hx; simpa [Addr.add] using this
    have hz3 : ((l.length : Int) + 1 == 0) = false := by simpa using hz2
    have hfin : Aside0 (E m k ∧ ∀ x, E x k → m ≤ x) := ⟨⟨(h2 m).1 (by simp), fun x g => by
      rcases List.mem_cons.1 ((h2 x).2 g) with rfl | g
      · exact Int.le_refl _
      · have := (List.pairwise_cons.1 h1).1 x g; omega⟩⟩
    clear h1 h2
    go_wp2
    (try simp only [Exit.inBlock, Exit.then])
    refine bodyPost_ret (results_tmp2 rfl _ _ _) rfl ?_
    exact ⟨m, true, rfl, fun _ => hfin.out, fun g => by simp at g, h4, h5⟩
set_option maxRecDepth 100000 in
set_option maxHeartbeats 4000000 in
theorem same_calls {p bu bs nu N : Nat} {U Z : Int → Option Int} (w : World) (h : Uni κI w p bu bs nu N U Z) {a b : Int} (ha : κI.wf a) (hb : κI.wf b) (hn : nu < maxLen) :
    Calls Try.prog 33 #[.pointer (some ⟨p, 0, none⟩), .int .i64 a, .int .i64 b] w fun e w' => ∃ (r : Bool) (U' : Int → Option Int), e = .returned (.bool r) ∧ (r = true ↔ Eq2 U a b) ∧ Uni κI w' p bu bs nu N U' Z ∧ Halved U U' ∧ KeepsBut (UX bu bs) w w' := by
  have hc1 := has_calls w h ha
  have hc2 := has_calls w h hb
  go_enter Try.func33, Try.ntmps33
  go_wp2_with fail
  refine hc1.mono ?_
  clear hc1
  rintro e w' ⟨rfl, rfl⟩
  cases ha2 : (U a).isSome with
  | false =>
    have hno : ¬ Eq2 U a b := fun g => by
      have := (Eq2.self_iff h.F).1 (g.trans g.symm)
      rw [ha2] at this; cases this
    go_wp2
    go_ret
    exact ⟨false, U, rfl, by simp [hno], h, Halved.refl _, KeepsBut.refl _ _⟩
  | true =>
    go_wp2_with fail
    refine hc2.mono ?_
    clear hc2
    rintro e w' ⟨rfl, rfl⟩
    cases hb2 : (U b).isSome with
    | false =>
      have hno : ¬ Eq2 U a b := fun g => by
        have := (Eq2.self_iff h.F).1 (g.symm.trans g)
        rw [hb2] at this; cases this
      go_wp2
      go_ret
      exact ⟨false, U, rfl, by simp [hno], h, Halved.refl _, KeepsBut.refl _ _⟩
    | true =>
      have hr1 := root_calls w' h hn ha2
      go_wp2_with fail
      refine hr1.mono ?_
      clear hr1
      rintro e w3 ⟨r1, U3, rfl, ⟨d1, hto1⟩, h3, hv3, k3⟩
      have hr2 := root_calls w3 h3 hn (by rw [hv3.dom]; exact hb2)
      go_wp2_with fail
      refine hr2.mono ?_
      clear hr2
      rintro e w4 ⟨r2, U4, rfl, ⟨d2, hto2⟩, h4, hv4, k4⟩
      obtain ⟨e1, hto1'⟩ := hv3.tos _ _ _ hto1
      have hEq : (r1 == r2) = true ↔ Eq2 U a b := by
        rw [beq_iff_eq, ← hv3.eq2 h.F a b]
        exact (Eq2.root_iff hto1' hto2).symm
      go_wp2
      go_ret
      exact ⟨_, U4, rfl, hEq, h4, hv3.trans hv4, k3.trans k4⟩
theorem same_un {p bu bs nu N : Nat} {E : Int → Int → Prop} (w : World) (h : UN κI w p bu bs nu N E) {a b : Int} (ha : κI.wf a) (hb : κI.wf b) (hn : nu ≤ 100000) :
    Calls Try.prog 33 #[.pointer (some ⟨p, 0, none⟩), .int .i64 a, .int .i64 b] w fun e w' => ∃ r : Bool, e = .returned (.bool r) ∧ (r = true ↔ E a b) ∧ UN κI w' p bu bs nu N E ∧ KeepsBut (UX bu bs) w w' := by
  obtain ⟨U, Z, h1, h2⟩ := h
  refine (same_calls w h1 ha hb (by unfold maxLen; omega)).mono ?_
  rintro e w' ⟨r, U', rfl, h3, h4, h5, h6⟩
  exact ⟨r, rfl, h3.trans (h2 a b), ⟨U', Z, h4, fun x y => (h5.eq2 h1.F x y).trans (h2 x y)⟩, h6⟩
end Go.Proofs.Yteeapfmgdlcgfaa.A


namespace Go.Proofs.Yteeapfmgdlcgfaa.A
open Go.RowKit Go.Maps Go.Sort Go.Shelf Go.Proofs.YteeapfmgdlcgfaaW.PrintWords Go.Proofs.YteeapfmgdlcgfaaW.PrintLast
set_option linter.unusedVariables false
set_option linter.unusedSimpArgs false

theorem class_unS {p bu bs nu N : Nat} {E : Str → Str → Prop} (w : World) (h : UN κS w p bu bs nu N E) {k : Str} (hk : κS.wf k) (hn : nu ≤ 100000) :
    Calls Try.prog 18 #[.pointer (some ⟨p, 0, none⟩), .string k] w fun e w' => ∃ (v : Value) (ks : List (List UInt8)), e = .returned v ∧ RisingS ks ∧ (∀ x : List UInt8, x ∈ ks ↔ E ⟨x.toArray⟩ k) ∧ w'.ownsRow w.heap.size 9 1 v ks.length (ks.map encStr) ∧ UN κS w' p bu bs nu N E ∧ KeepsBut (UX bu bs) w w' := by
  obtain ⟨U, Z, h1, h2⟩ := h
  cases hu : U k with
  | none =>
    refine (class_noneS w h1 hk hu).mono ?_
    rintro e w' ⟨rfl, h3, hB⟩
    refine ⟨_, [], rfl, List.Pairwise.nil, fun x => ?_, World.ownsRow_nil _ _ _ _, ⟨U, Z, h3, h2⟩, keeps_below hB _⟩
    rw [← h2]
    constructor
    · intro g; cases g
    · intro g
      have := (Eq2.self_iff h1.F).1 (g.symm.trans g)
      rw [hu] at this; cases this
  | some j =>
    refine (class_someS w h1 hk (by rw [hu]; rfl) hn).mono ?_
    rintro e w' ⟨v, ks, U', rfl, h3, h4, h5, h6, h7, h8⟩
    exact ⟨v, ks, rfl, h3, fun x => (h4 x).trans (h2 _ k), h5, ⟨U', Z, h6, fun x y => (h7.eq2 h1.F x y).trans (h2 x y)⟩, h8⟩
theorem join_unS {p bu bs nu N : Nat} {E : Str → Str → Prop} (w : World) (h : UN κS w p bu bs nu N E) {a b : Str} (ha : κS.wf a) (hb : κS.wf b) (hn : nu ≤ 100000) (hN : N ≤ 100000) :
    Calls Try.prog 13 #[.pointer (some ⟨p, 0, none⟩), .string a, .string b] w fun e w' => ∃ (ra rb r : Bool), e = .returned (.bool r) ∧ (ra = true ↔ ¬ E a a) ∧ (rb = true ↔ ¬ addE E a b b) ∧ (r = true ↔ ¬ addE (addE E a) b a b) ∧
      UN κS w' p bu bs (nu + ra.toNat + rb.toNat) (N + ra.toNat + rb.toNat - r.toNat) (joinE (addE (addE E a) b) a b) ∧ KeepsBut (UX bu bs) w w' := by
  obtain ⟨U, Z, h1, h2⟩ := h
  have hE : ∀ x y, addE (addE (Eq2 U) a) b x y ↔ addE (addE E a) b x y := fun x y => by unfold addE; rw [h2]
  refine (join_callsS w h1 ha hb (by unfold maxLen; omega) (by unfold maxLen; omega)).mono ?_
  rintro e w' ⟨ra, rb, r, U', Z', rfl, h3, h4, h5, h6, h7, h8⟩
  refine ⟨ra, rb, r, rfl, h3.trans (not_congr (h2 a a)), h4.trans (not_congr ?_), h5.trans (not_congr (hE a b)), ⟨U', Z', h6, fun x y => ?_⟩, h8⟩
  · unfold addE; rw [h2]
  · rw [h7]; unfold joinE; rw [hE, hE, hE, hE, hE]
theorem len_unS {p bu bs nu N : Nat} {E : Str → Str → Prop} (w : World) (h : UN κS w p bu bs nu N E) :
    Calls Try.prog 20 #[.pointer (some ⟨p, 0, none⟩)] w fun e w' => e = .returned (.int .i64 N) ∧ w' = w := by
  obtain ⟨U, Z, h1, h2⟩ := h
  exact len_callsS w h1
theorem new_unS (w : World) : Calls Try.prog 11 #[] w fun e w' => ∃ p bu bs, e = .returned (.pointer (some ⟨p, 0, none⟩)) ∧ w.heap.size ≤ p ∧ w.heap.size ≤ bu ∧ w.heap.size ≤ bs ∧ UN κS w' p bu bs 0 0 (fun _ _ => False) ∧ Below w.heap.size w w' := by
  refine (new_callsS w).mono ?_
  rintro e w' ⟨p, bu, bs, rfl, h1, h2, h3, h4, h5⟩
  refine ⟨p, bu, bs, rfl, h1, h2, h3, ⟨_, _, h4, fun x y => ⟨?_, False.elim⟩⟩, h5⟩
  rintro ⟨r, d, e, g, _⟩
  obtain ⟨j, hj⟩ := g.has
  cases hj
theorem UN.ltS {p bu bs nu N : Nat} {E : Str → Str → Prop} {w : World} (h : UN κS w p bu bs nu N E) : p < w.heap.size ∧ bu < w.heap.size ∧ bs < w.heap.size := by
  obtain ⟨U, Z, h1, h2⟩ := h
  exact ⟨World.block_lt_of_cell? _ _ h1.cu, h1.mu.lt, h1.ms.lt⟩
theorem own_cell {W : World} {base : Nat} {e : TypeId} {v : Value} {k : Nat} {xs : List Value} (h : W.ownsRow base e 1 v k xs) {j : Nat} {x : Value} (hj : xs[j]? = some x) (hjk : j < k) : ∃ g cap, v = .slice (some ⟨g, 0, none⟩) k cap ∧ W.cell? ⟨g, j, none⟩ = some x := by
  rcases h.2 with ⟨rfl, hz⟩ | ⟨g, cap, cur, rfl, hb, hgb, h1, h2, h3, h4⟩
  · omega
  · refine ⟨g, cap, rfl, ?_⟩
    have hx : cur.toList[j]? = some x := by
      rw [← hj, ← h4, List.getElem?_take_of_lt (by omega)]
    have hc : cur[j]? = some x := by rw [← Array.getElem?_toList]; exact hx
    unfold World.cell?
    rw [hgb]
    simpa using hc
set_option maxRecDepth 100000 in
set_option maxHeartbeats 4000000 in
theorem find_unS {p bu bs nu N : Nat} {E : Str → Str → Prop} (w : World) (h : UN κS w p bu bs nu N E) {k : Str} (hk : κS.wf k) (hn : nu ≤ 100000) :
    Calls Try.prog 16 #[.pointer (some ⟨p, 0, none⟩), .string k] w fun e w' => ∃ (m : Str) (r : Bool), e = .returned (.tuple #[.string m, .bool r]) ∧ (r = true → E m k ∧ ∀ x : Str, E x k → m = x ∨ m.data.toList < x.data.toList) ∧ (r = false → ∀ x : Str, ¬ E x k) ∧ UN κS w' p bu bs nu N E ∧ KeepsBut (UX bu bs) w w' := by
  have hc := class_unS w h hk hn
  go_enter Try.func16, Try.ntmps16
  go_wp2_with fail
  refine hc.mono ?_
  clear hc
  rintro e w1 ⟨v, ks, rfl, h1, h2, h3, h4, h5⟩
  have h2' : ∀ x : Str, x.data.toList ∈ ks ↔ E x k := fun x => h2 x.data.toList
  cases ks with
  | nil =>
    obtain ⟨A, c, rfl⟩ : ∃ A c, v = .slice A 0 c := by
      rcases h3.2 with ⟨rfl, _⟩ | ⟨g, cap, cur, rfl, _⟩
      · exact ⟨_, _, rfl⟩
      · exact ⟨_, _, rfl⟩
    go_wp2
    (try simp only [Exit.inBlock, Exit.then])
    refine bodyPost_ret (results_tmp2 rfl _ _ _) rfl ?_
    exact ⟨_, false, rfl, fun g => by simp at g, (fun _ x g => by have := (h2' x).2 g; cases this), h4, h5⟩
  | cons m l =>
    obtain ⟨g, cap, rfl, hcell⟩ := own_cell h3 (j := 0) (x := encStr m) rfl (by simp)
    have hz3 : ((l.length : Int) + 1 == 0) = false := by simp; omega
    have hfin : Aside0 (E ⟨m.toArray⟩ k ∧ ∀ x : Str, E x k → (⟨m.toArray⟩ : Str) = x ∨ m < x.data.toList) := ⟨⟨(h2 m).1 (by simp), fun x g => by
      rcases List.mem_cons.1 ((h2' x).2 g) with e | g
      · exact .inl (str_ext e.symm)
      · exact .inr ((List.pairwise_cons.1 h1).1 _ g)⟩⟩
    clear h1 h2 h2'
    go_wp2
    (try simp only [Exit.inBlock, Exit.then])
    refine bodyPost_ret (results_tmp2 rfl _ _ _) rfl ?_
    exact ⟨⟨m.toArray⟩, true, rfl, fun _ => hfin.out, fun g => by simp at g, h4, h5⟩
end Go.Proofs.Yteeapfmgdlcgfaa.A


namespace Go.Proofs.Yteeapfmgdlcgfaa.A
open Go.RowKit Go.Proofs.YteeapfmgdlcgfaaW.PrintWords Go.Proofs.YteeapfmgdlcgfaaW.PrintLast Go.Proofs.YteeapfmgdlcgfaaW.PrintMore
attribute [local go_sem] max2_int min2_int max_two min_two max_three min_three max_four min_four   -- for this text's walks alone
set_option linter.unusedVariables false
set_option linter.unusedSimpArgs false

def swageref02_Ints.l0 : Nat → List Int → List Int → Int → Option (Bool)
  | 0, _, _, _ => none
  | k + 1, x0, x1, x5 => if x5 < (x0.length : Int) then (if 0 ≤ x5 then (if x5 < (x1.length : Int) then (if (rd x0 x5) = (rd x1 x5) then (swageref02_Ints.l0 k x0 x1 (wrap64 (x5 + 1))) else (some false)) else (none)) else (none)) else (some true)
def swageref02_Ints.f (k : Nat) (l0 : List Int) (l1 : List Int) : Option (Bool) := if (l0.length : Int) = (l1.length : Int) then (swageref02_Ints.l0 k l0 l1 0) else (some false)
set_option maxHeartbeats 8000000 in
set_option maxRecDepth 100000 in
theorem swageref02_Ints.calls (k : Nat) (A0 : Option Addr) (c0 : Nat) (l0 : List Int) (A1 : Option Addr) (c1 : Nat) (l1 : List Int) (r : Bool) (w : World) (hr0 : Kd.C (Kd.int .i64) w A0 l0.length l0) (hc0 : l0.length ≤ c0) (hr1 : Kd.C (Kd.int .i64) w A1 l1.length l1) (hc1 : l1.length ≤ c1) (h : swageref02_Ints.f k l0 l1 = some r) :
    Calls Try.prog 21 #[.slice A0 l0.length c0, .slice A1 l1.length c1] w fun e w' => e = .returned (.bool r) ∧ Drawn0 w w' := by
  have HR0 := Aside0.mk hr0
  have HC0 := Aside0.mk hc0
  clear hr0 hc0
  have HR1 := Aside0.mk hr1
  have HC1 := Aside0.mk hc1
  clear hr1 hc1
  have H : (if (l0.length : Int) = (l1.length : Int) then (swageref02_Ints.l0 k l0 l1 0) else (some false)) = some r := h
  clear h
  by_cases c3 : (l0.length : Int) = (l1.length : Int)
  · rw [if_pos c3] at H
    have c3b0 : ((l0.length : Int) == (l1.length : Int)) = true := beq_iff_eq.mpr c3
    have c3b1 : ((l0.length : Int) != (l1.length : Int)) = false := bne_eq_false_iff_eq.mpr c3
    have c3b2 : (l0.length == l1.length) = true := by first | simpa using c3 | (simp at c3 ⊢; omega)
    clear c3
    have H' := Aside0.mk H
    clear H
    go_enter Try.func21, Try.ntmps21
    go_wp2
    repeat (go_quiet (fail); try go_wp2)
    go_loopg [5] k (fun kq v5 w' => ∃ (x5_1 : Int), v5 = .int .i64 x5_1 ∧ Aside0 (swageref02_Ints.l0 kq l0 l1 x5_1 = some r) ∧ Aside0 (kq ≤ k) ∧ Drawn0 w w')
    case atStart => exact ⟨(0), (by first | rfl | (simp; done) | (simp [*]; done)), H', ⟨Nat.le_refl _⟩, by repeat (first | exact Drawn0.refl _ | apply Drawn0.step)⟩
    case round =>
      clear H'
      try clear c1
      try clear c2
      try clear p2
      try clear c3
      try clear c3b0
      try clear c3b1
      try clear c3b2
      obtain ⟨x5_1, rfl, HA, HK1, ⟨m1, rfl⟩⟩ := hrel
      cases gk with
      | zero => exact absurd HA.out (by simp [swageref02_Ints.l0])
      | succ k1 =>
        have H := HA.out
        clear HA
        simp only [swageref02_Ints.l0] at H
        by_cases c4 : x5_1 < (l0.length : Int)
        · rw [if_pos c4] at H
          have c4b0 : decide (x5_1 < (l0.length : Int)) = true := decide_eq_true c4
          clear c4
          by_cases c5 : 0 ≤ x5_1
          · rw [if_pos c5] at H
            have c5b0 : decide (0 ≤ x5_1) = true := decide_eq_true c5
            clear c5
            by_cases c6 : x5_1 < (l1.length : Int)
            · rw [if_pos c6] at H
              have c6b0 : decide (x5_1 < (l1.length : Int)) = true := decide_eq_true c6
              clear c6
              by_cases c7 : (rd l0 x5_1) = (rd l1 x5_1)
              · rw [if_pos c7] at H
                have c7b0 : ((rd l0 x5_1) == (rd l1 x5_1)) = true := beq_iff_eq.mpr c7
                have c7b1 : ((rd l0 x5_1) != (rd l1 x5_1)) = false := bne_eq_false_iff_eq.mpr c7
                clear c7
                have H' := Aside0.mk H
                clear H
                have p221 : 0 ≤ (x5_1 : Int) := of_decide_eq_true (by first | (with_reducible assumption) | assumption)
                have q221 : x5_1 < (l0.length : Int) := of_decide_eq_true (by first | (with_reducible assumption) | assumption)
                obtain ⟨ad221, e221, hx221_0⟩ := Kd.at_int HR0.out x5_1 p221 q221
                cases e221
                replace p221 := eq_true p221
                replace q221 := eq_true q221
                have p222 : 0 ≤ (x5_1 : Int) := of_decide_eq_true (by first | (with_reducible assumption) | assumption)
                have q222 : x5_1 < (l1.length : Int) := of_decide_eq_true (by first | (with_reducible assumption) | assumption)
                obtain ⟨ad222, e222, hx222_0⟩ := Kd.at_int HR1.out x5_1 p222 q222
                cases e222
                replace p222 := eq_true p222
                replace q222 := eq_true q222
                go_wp2
                repeat (go_quiet (fail); try go_wp2)
                go_roundg k1
                case measure => have := HK1.out; omega
                case rel => exact ⟨(wrap64 (x5_1 + 1)), (by first | rfl | (simp; done) | (simp [*]; done)), H', ⟨by have := HK1.out; omega⟩, by repeat (first | exact Drawn0.refl _ | apply Drawn0.step)⟩
              · rw [if_neg c7] at H
                have c7b0 : ((rd l0 x5_1) == (rd l1 x5_1)) = false := beq_eq_false_iff_ne.mpr c7
                have c7b1 : ((rd l0 x5_1) != (rd l1 x5_1)) = true := bne_iff_ne.mpr c7
                obtain rfl := Option.some.inj H
                have p221 : 0 ≤ (x5_1 : Int) := of_decide_eq_true (by first | (with_reducible assumption) | assumption)
                have q221 : x5_1 < (l0.length : Int) := of_decide_eq_true (by first | (with_reducible assumption) | assumption)
                obtain ⟨ad221, e221, hx221_0⟩ := Kd.at_int HR0.out x5_1 p221 q221
                cases e221
                replace p221 := eq_true p221
                replace q221 := eq_true q221
                have p222 : 0 ≤ (x5_1 : Int) := of_decide_eq_true (by first | (with_reducible assumption) | assumption)
                have q222 : x5_1 < (l1.length : Int) := of_decide_eq_true (by first | (with_reducible assumption) | assumption)
                obtain ⟨ad222, e222, hx222_0⟩ := Kd.at_int HR1.out x5_1 p222 q222
                cases e222
                replace p222 := eq_true p222
                replace q222 := eq_true q222
                go_wp2
                repeat (go_quiet (fail); try go_wp2)
                go_ret
                exact ⟨by first | rfl | (simp; done) | (simp [*]; done), by repeat (first | exact Drawn0.refl _ | apply Drawn0.step)⟩
            · rw [if_neg c6] at H
              exact absurd H (by simp)
          · rw [if_neg c5] at H
            exact absurd H (by simp)
        · rw [if_neg c4] at H
          have c4b0 : decide (x5_1 < (l0.length : Int)) = false := decide_eq_false c4
          clear c4
          obtain rfl := Option.some.inj H
          go_wp2
          repeat (go_quiet (fail); try go_wp2)
          go_ret
          exact ⟨by first | rfl | (simp; done) | (simp [*]; done), by repeat (first | exact Drawn0.refl _ | apply Drawn0.step)⟩
  · rw [if_neg c3] at H
    have c3b0 : ((l0.length : Int) == (l1.length : Int)) = false := beq_eq_false_iff_ne.mpr c3
    have c3b1 : ((l0.length : Int) != (l1.length : Int)) = true := bne_iff_ne.mpr c3
    have c3b2 : (l0.length == l1.length) = false := by first | simpa using c3 | (simp at c3 ⊢; omega)
    obtain rfl := Option.some.inj H
    go_enter Try.func21, Try.ntmps21
    go_wp2
    repeat (go_quiet (fail); try go_wp2)
    go_ret
    exact ⟨by first | rfl | (simp; done) | (simp [*]; done), by repeat (first | exact Drawn0.refl _ | apply Drawn0.step)⟩

end Go.Proofs.Yteeapfmgdlcgfaa.A


namespace Go.Proofs.Yteeapfmgdlcgfaa.A
open Go.RowKit Go.Maps Go.Proofs.YteeapfmgdlcgfaaW.PrintWords Go.Proofs.YteeapfmgdlcgfaaW.PrintLast
set_option linter.unusedVariables false
set_option linter.unusedSimpArgs false

def Evt {α : Type} (g : Nat → Option α) (r : α) : Prop := ∃ K, ∀ k, K ≤ k → g k = some r
theorem Evt.const {α : Type} {x : Option α} {r : α} (h : x = some r) : Evt (fun _ => x) r := ⟨0, fun _ _ => h⟩
theorem Evt.step {α : Type} {f g : Nat → Option α} {r : α} (h : Evt g r) (e : ∀ k, f (k + 1) = g k) : Evt f r := by
  obtain ⟨K, h⟩ := h
  refine ⟨K + 1, fun k hk => ?_⟩
  obtain ⟨j, rfl⟩ : ∃ j, k = j + 1 := ⟨k - 1, by omega⟩
  rw [e]; exact h j (by omega)
theorem Evt.congr {α : Type} {f g : Nat → Option α} {r : α} (h : Evt g r) (e : ∀ k, f k = g k) : Evt f r := by
  obtain ⟨K, h⟩ := h
  exact ⟨K, fun k hk => (e k).trans (h k hk)⟩
theorem Evt.get {α : Type} {g : Nat → Option α} {r : α} (h : Evt g r) : ∃ k, g k = some r := by
  obtain ⟨K, h⟩ := h
  exact ⟨K, h K (Nat.le_refl _)⟩
theorem w64 {n : Int} (h1 : -1000000000000 ≤ n) (h2 : n ≤ 1000000000000) : wrap64 n = n := by unfold wrap64; omega
theorem wsucc {i : Nat} (h : i ≤ 1000000000) : wrap64 ((i : Int) + 1) = ((i + 1 : Nat) : Int) := by rw [w64 (by omega) (by omega)]; rfl
theorem ints_l0 (l : List Int) (hl : l.length ≤ 1000000) : ∀ (d i : Nat), i + d = l.length → Evt (fun k => swageref02_Ints.l0 k l l i) true
  | 0, i, hi => Evt.step (Evt.const rfl) fun k => by rw [swageref02_Ints.l0, if_neg (by omega)]
  | d + 1, i, hi => Evt.step (ints_l0 l hl d (i + 1) (by omega)) fun k => by
    rw [swageref02_Ints.l0, if_pos (by omega), if_pos (by omega), if_pos (by omega), if_pos rfl, wsucc (by omega)]
theorem ints_ev (l : List Int) (hl : l.length ≤ 1000000) : Evt (fun k => swageref02_Ints.f k l l) true := by
  unfold swageref02_Ints.f
  exact Evt.congr (ints_l0 l hl l.length 0 (by omega)) fun k => by rw [if_pos rfl]; rfl
/-- rows alike are found alike -/
theorem ints_same {w : World} {A A' : Option Addr} {c c' : Nat} (l : List Int) (hl : l.length ≤ 1000000) (h : Kd.C (Kd.int .i64) w A l.length l) (hc : l.length ≤ c) (h' : Kd.C (Kd.int .i64) w A' l.length l) (hc' : l.length ≤ c') :
    Calls Try.prog 21 #[.slice A l.length c, .slice A' l.length c'] w fun e w' => e = .returned (.bool true) ∧ Drawn0 w w' := by
  obtain ⟨k, hk⟩ := (ints_ev l hl).get
  exact swageref02_Ints.calls k A c l A' c' l true w h hc h' hc' hk

abbrev cellsI (l : List Int) : Obj := .cells (l.map (Value.int .i64)).toArray 3
theorem R_new_lit {α : Type} (d : Kd α) (W : World) (base e : Nat) {xs : List α} {inner : List Value} {ok okp : Nat → Prop}
    (hrep : Reps (d.M W base okp) d.sz xs inner) (hok : ∀ k, okp k → ok k) (hfresh : ok W.heap.size) (hbase : base ≤ W.heap.size) (hm : xs.length ≤ 9223372036854775807) :
    d.R e (W.alloc (.cells inner.toArray e)) base ok (.slice (some ⟨W.heap.size, 0, none⟩) xs.length xs.length) xs := by
  refine ⟨fun k hk => ?_, inner, ?_, ?_⟩
  · have : W.heap.size = k := by simpa [Value.ownBlock] using hk
    subst this
    exact hfresh
  · have h2 := World.ownsRow_lit (base := base) (e := e) (size := d.sz) W inner.toArray xs.length hbase (by simpa [maxLen] using hm) (by simpa using hrep.1)
    simpa using h2
  · refine hrep.imp_ (fun p c hp => d.M_mono (fun k hk => ⟨hok k hk.1, fun he => ?_⟩) (Kd.M_below (d.M_bound hp) (below_alloc (Below.refl _ _) _)))
    have : W.heap.size = k := by simpa [Value.ownBlock] using he.symm
    have := hk.2.2.1
    omega
theorem reps_ints {W : World} {base : Nat} {ok : Nat → Prop} (l : List Int) : Reps ((Kd.int .i64).M W base ok) (Kd.int .i64).sz l (l.map (Value.int .i64)) := by
  refine ⟨by rw [List.length_map]; show _ = l.length * 1; omega, fun j p hj => ?_⟩
  obtain ⟨h, rfl⟩ := List.getElem?_eq_some_iff.1 hj
  show ((l.map (Value.int .i64)).drop (j * 1)).take 1 = [Value.int .i64 l[j]]
  rw [Nat.mul_one, List.take_one, List.head?_drop, List.getElem?_map, hj]
  rfl
theorem lit_row (W : World) (l : List Int) (hl : l.length ≤ 1000) : Kd.R (Kd.int .i64) 3 (W.alloc (cellsI l)) W.heap.size (fun _ => True) (.slice (some ⟨W.heap.size, 0, none⟩) l.length l.length) l :=
  R_new_lit (Kd.int .i64) W W.heap.size 3 (ok := fun _ => True) (okp := fun _ => True) (reps_ints l) (fun _ h => h) trivial (Nat.le_refl _) (by omega)

theorem perm_of_sub {α : Type} [DecidableEq α] : ∀ {l m : List α}, l.Nodup → l ⊆ m → m.length ≤ l.length → m.Perm l
  | [], m, _, _, h => by
    have : m = [] := List.eq_nil_of_length_eq_zero (by simpa using h)
    subst this; exact List.Perm.refl _
  | a :: l, m, hn, hs, h => by
    have ha : a ∈ m := hs (by simp)
    have hn' := List.nodup_cons.1 hn
    have h1 := List.perm_cons_erase ha
    have h2 : l ⊆ m.erase a := fun x hx => by
      have hxa : x ≠ a := fun e => hn'.1 (e ▸ hx)
      rw [List.mem_erase_of_ne hxa]; exact hs (by simp [hx])
    have h3 : (m.erase a).length ≤ l.length := by rw [List.length_erase_of_mem ha]; simp at h; omega
    exact h1.trans ((perm_of_sub hn'.2 h2 h3).cons a)
theorem rising_eq {a b : List Int} (ha : Rising a) (hb : Rising b) (h : ∀ k, k ∈ a ↔ k ∈ b) : a = b := by
  have hna : a.Nodup := ha.imp (fun h e => by omega)
  have hnb : b.Nodup := hb.imp (fun h e => by omega)
  have hp : a.Perm b := by
    refine perm_of_sub hnb (fun x hx => (h x).2 hx) ?_ |>.trans (List.Perm.refl _)
    exact List.Nodup.length_le_of_subset hna (fun x hx => (h x).1 hx)
  exact List.Perm.eq_of_pairwise (le := (· < ·)) (fun x y _ _ h1 h2 => by omega) ha hb hp
theorem wfI {n : Int} (h0 : -1000000000000 ≤ n) (h1 : n ≤ 1000000000000) : κI.wf n := by
  show (Lit.int .i64 n).wf = true
  simp [Lit.wf, IntKind.min, IntKind.max, IntKind.signed, IntKind.bits]; omega
end Go.Proofs.Yteeapfmgdlcgfaa.A


namespace Go.Proofs.Yteeapfmgdlcgfaa.A
open Go.RowKit Go.Maps Go.Proofs.YteeapfmgdlcgfaaW.PrintWords Go.Proofs.YteeapfmgdlcgfaaW.PrintLast
set_option linter.unusedVariables false
set_option linter.unusedSimpArgs false

theorem un_step {n bu bs : Nat} {w W W' : World} (h : Below n w W) (k : KeepsBut (UX bu bs) W W') (hn : n ≤ w.heap.size) (h1 : n ≤ bu) (h2 : n ≤ bs) : Below n w W' :=
  h.trans (k.below (Nat.le_trans hn h.size) (fun q hq hx => by rcases hx with rfl | rfl <;> omega))
theorem UN.alloc {p bu bs nu N : Nat} {E : Int → Int → Prop} {w : World} (h : UN κI w p bu bs nu N E) (o : Obj) : UN κI (w.alloc o) p bu bs nu N E := h.keep (KeepsBut.alloc (fun _ => False) w o) id id id
def T1 (x y : Int) : Prop := x = 3 ∧ y = 3
def T2 (x y : Int) : Prop := (x = 3 ∧ y = 3) ∨ ((x = 5 ∨ x = 2) ∧ (y = 5 ∨ y = 2))
def T3 (x y : Int) : Prop := (x = 3 ∧ y = 3) ∨ ((x = 5 ∨ x = 2 ∨ x = 9) ∧ (y = 5 ∨ y = 2 ∨ y = 9))
theorem t1 (x y : Int) : addE (fun _ _ => False) 3 x y ↔ T1 x y := by unfold addE T1; simp
theorem t2 (x y : Int) : joinE (addE (addE T1 5) 2) 5 2 x y ↔ T2 x y := by simp only [joinE, addE, T1, T2]; grind
theorem t3 (x y : Int) : joinE (addE (addE T2 2) 9) 2 9 x y ↔ T3 x y := by simp only [joinE, addE, T2, T3]; grind
theorem t4 (x y : Int) : joinE (addE (addE T3 9) 5) 9 5 x y ↔ T3 x y := by simp only [joinE, addE, T3]; grind

set_option maxRecDepth 100000 in
set_option maxHeartbeats 4000000 in
theorem small_calls (w : World) : Calls Try.prog 9 #[] w fun e w' => e = .returned (.bool true) ∧ Below w.heap.size w w' := by
  go_enter Try.func9, Try.ntmps9
  go_wp2_with fail
  refine (new_un w).mono ?_
  rintro e w0 ⟨p, bu, bs, rfl, hp, hbu, hbs, h0, hB0⟩
  have hadd := add_un w0 h0 (k := 3) (wfI (by omega) (by omega)) (by omega) (by omega)
  go_wp2_with fail
  refine hadd.mono ?_
  clear hadd
  rintro e w1 ⟨r, rfl, hr, h1, k1⟩
  obtain rfl : r = true := hr.2 id
  have h1 := h1.congr t1
  have hB1 := un_step hB0 k1 (Nat.le_refl _) hbu hbs
  clear h0 hB0 k1 hr
  have hj := join_un w1 h1 (a := 5) (b := 2) (wfI (by omega) (by omega)) (wfI (by omega) (by omega)) (by decide) (by decide)
  go_wp2_with fail
  refine hj.mono ?_
  clear hj
  rintro e w2 ⟨ra, rb, r, rfl, hra, hrb, hr, h2, k2⟩
  obtain rfl : ra = true := hra.2 (by simp [T1])
  obtain rfl : rb = true := hrb.2 (by simp [addE, T1])
  obtain rfl : r = true := hr.2 (by simp [addE, T1])
  have h2 := h2.congr t2
  have hB2 := un_step hB1 k2 (Nat.le_refl _) hbu hbs
  clear h1 hB1 k2 hr hra hrb
  have hj := join_un w2 h2 (a := 2) (b := 9) (wfI (by omega) (by omega)) (wfI (by omega) (by omega)) (by decide) (by decide)
  go_wp2_with fail
  refine hj.mono ?_
  clear hj
  rintro e w3 ⟨ra, rb, r, rfl, hra, hrb, hr, h3, k3⟩
  obtain rfl : ra = false := by cases ra; rfl; exact absurd (by simp [T2]) (hra.1 rfl)
  obtain rfl : rb = true := hrb.2 (by simp [addE, T2])
  obtain rfl : r = true := hr.2 (by simp [addE, T2])
  have h3 := h3.congr t3
  have hB3 := un_step hB2 k3 (Nat.le_refl _) hbu hbs
  clear h2 hB2 k3 hr hra hrb
  have hj := join_un w3 h3 (a := 9) (b := 5) (wfI (by omega) (by omega)) (wfI (by omega) (by omega)) (by decide) (by decide)
  go_wp2_with fail
  refine hj.mono ?_
  clear hj
  rintro e w4 ⟨ra, rb, r, rfl, hra, hrb, hr, h4, k4⟩
  obtain rfl : ra = false := by cases ra; rfl; exact absurd (by simp [T3]) (hra.1 rfl)
  obtain rfl : rb = false := by cases rb; rfl; exact absurd (by simp [addE, T3]) (hrb.1 rfl)
  obtain rfl : r = false := by cases r; rfl; exact absurd (by simp [addE, T3]) (hr.1 rfl)
  have h4 := h4.congr t4
  have hB4 := un_step hB3 k4 (Nat.le_refl _) hbu hbs
  simp only [Bool.toNat_true, Bool.toNat_false, Nat.zero_add, Nat.add_zero, Nat.reduceAdd, Nat.reduceSub] at h4
  clear h3 hB3 k4 hr hra hrb
  have hf := find_un w4 h4 (k := 9) (wfI (by omega) (by omega)) (by decide)
  go_wp2_with fail
  refine hf.mono ?_
  clear hf
  rintro e w5 ⟨m, r, rfl, hr1, hr2, h5, k5⟩
  obtain rfl : r = true := by
    cases r with
    | true => rfl
    | false => exact absurd (by simp [T3]) ((hr2 rfl).2 9)
  obtain rfl : m = 2 := by
    have g1 := (hr1 rfl).1
    have g2 := (hr1 rfl).2 2 (by simp [T3])
    simp only [T3] at g1
    omega
  have hB5 := un_step hB4 k5 (Nat.le_refl _) hbu hbs
  clear h4 hB4 k5 hr1 hr2
  have hc := class_un w5 h5 (k := 5) (wfI (by omega) (by omega)) (by decide)
  go_wp2_with fail
  refine hc.mono ?_
  clear hc
  rintro e w6 ⟨v, ks, rfl, hk1, hk2, hk30, h6, k6⟩
  have hk3 : Kd.R (Kd.int .i64) 3 w6 w5.heap.size (fun _ => True) v ks := Kd.R_of_own hk30 (fun _ _ => trivial)
  clear hk30
  obtain rfl : ks = [2, 5, 9] := rising_eq hk1 (by unfold Rising; decide) (fun x => by rw [hk2]; simp only [T3, List.mem_cons, List.not_mem_nil]; grind)
  have hB6 := un_step hB5 k6 (Nat.le_refl _) hbu hbs
  obtain ⟨A, c, rfl⟩ := Kd.R_slice hk3
  have hcA := (Kd.R_reads' hk3).2.1
  have hCA := Kd.C_alloc (Kd.R_reads' hk3).2.2 (cellsI [2, 5, 9])
  have hq : Calls Try.prog 21 #[.slice A 3 c, .slice (some ⟨w6.heap.size, 0, none⟩) 3 3] (w6.alloc (.cells #[.int .i64 2, .int .i64 5, .int .i64 9] 3)) fun e w' => e = .returned (.bool true) ∧ Drawn0 (w6.alloc (.cells #[.int .i64 2, .int .i64 5, .int .i64 9] 3)) w' :=
    ints_same [2, 5, 9] (by decide) hCA hcA (Kd.R_reads' (lit_row w6 [2, 5, 9] (by decide))).2.2 (by decide)
  have h6' := h6.alloc (cellsI [2, 5, 9])
  have hB6' := below_alloc hB6 (cellsI [2, 5, 9])
  clear h5 hB5 k6 hk1 hk2 hk3 hcA hCA h6 hB6
  go_wp2_with fail
  refine hq.mono ?_
  clear hq
  rintro e w7 ⟨rfl, ⟨q, rfl⟩⟩
  have h7 : UN κI ((w6.alloc (.cells #[.int .i64 2, .int .i64 5, .int .i64 9] 3)).drewN q) p bu bs 4 2 T3 := h6'.keep (X := fun _ => False) ⟨rfl, rfl, rfl, Nat.le_refl _, fun _ _ _ => rfl⟩ id id id
  have hB7 : Below w.heap.size w ((w6.alloc (.cells #[.int .i64 2, .int .i64 5, .int .i64 9] 3)).drewN q) := hB6'.trans (pw_below_drewN (Below.refl _ _) q)
  generalize (w6.alloc (.cells #[.int .i64 2, .int .i64 5, .int .i64 9] 3)).drewN q = W7 at h7 hB7 ⊢
  clear h6' hB6'
  have hl := len_un W7 h7
  go_wp2_with fail
  refine hl.mono ?_
  clear hl
  rintro e w' ⟨rfl, rfl⟩
  have hs := same_un w' h7 (a := 2) (b := 9) (wfI (by omega) (by omega)) (wfI (by omega) (by omega)) (by decide)
  go_wp2_with fail
  refine hs.mono ?_
  clear hs
  rintro e w8 ⟨r, rfl, hr, h8, k8⟩
  obtain rfl : r = true := hr.2 (by simp [T3])
  have hB8 := un_step hB7 k8 (Nat.le_refl _) hbu hbs
  clear h7 hB7 k8 hr
  have hs := same_un w8 h8 (a := 3) (b := 2) (wfI (by omega) (by omega)) (wfI (by omega) (by omega)) (by decide)
  go_wp2_with fail
  refine hs.mono ?_
  clear hs
  rintro e w9 ⟨r, rfl, hr, h9, k9⟩
  obtain rfl : r = false := by cases r; rfl; exact absurd (hr.1 rfl) (by simp [T3])
  have hB9 := un_step hB8 k9 (Nat.le_refl _) hbu hbs
  clear h8 hB8 k9 hr
  have hs := same_un w9 h9 (a := 7) (b := 7) (wfI (by omega) (by omega)) (wfI (by omega) (by omega)) (by decide)
  go_wp2_with fail
  refine hs.mono ?_
  clear hs
  rintro e w10 ⟨r, rfl, hr, h10, k10⟩
  obtain rfl : r = false := by cases r; rfl; exact absurd (hr.1 rfl) (by simp [T3])
  have hB10 := un_step hB9 k10 (Nat.le_refl _) hbu hbs
  clear h9 hB9 k10 hr
  go_wp2
  go_ret
  exact ⟨rfl, hB10⟩
end Go.Proofs.Yteeapfmgdlcgfaa.A


namespace Go.Proofs.Yteeapfmgdlcgfaa.A
open Go.RowKit Go.Proofs.YteeapfmgdlcgfaaW.PrintWords Go.Proofs.YteeapfmgdlcgfaaW.PrintLast Go.Proofs.YteeapfmgdlcgfaaW.PrintMore
attribute [local go_sem] max2_int min2_int max_two min_two max_three min_three max_four min_four   -- for this text's walks alone
set_option linter.unusedVariables false
set_option linter.unusedSimpArgs false

def swagelaw08_key.f (a0 : Int) : Option (ByteArray) := some (strOfNums (([(wrap64 (97 + (Int.tmod (wrap64 (Int.tdiv a0 26)) 26))) % 256, (wrap64 (97 + (Int.tmod a0 26))) % 256] : List Int)))
set_option maxHeartbeats 8000000 in
set_option maxRecDepth 100000 in
theorem swagelaw08_key.calls (a0 : Int) (r : ByteArray) (w : World) (h : swagelaw08_key.f a0 = some r) :
    Calls Try.prog 14 #[.int .i64 a0] w fun e w' => e = .returned (.string r) ∧ Below w.heap.size w w' := by
  have HB := Aside0.mk (Below.refl w.heap.size w)
  have H : (some (strOfNums (([(wrap64 (97 + (Int.tmod (wrap64 (Int.tdiv a0 26)) 26))) % 256, (wrap64 (97 + (Int.tmod a0 26))) % 256] : List Int)))) = some r := h
  clear h
  obtain ⟨y223, hy223⟩ : ∃ y_ : List Int, y_ = (([(wrap64 (97 + (Int.tmod (wrap64 (Int.tdiv a0 26)) 26))) % 256, (wrap64 (97 + (Int.tmod a0 26))) % 256] : List Int)) := ⟨_, rfl⟩
  replace H : (some (strOfNums y223)) = some r := by first | (rw [hy223]; with_reducible exact H) | (have H2_ := (Option.bind_some _ _).symm.trans H; rw [hy223]; with_reducible exact H2_) | (have H2_ := (Option.bind_some _ _).symm.trans H; with_reducible exact H2_) | with_reducible exact H | (rw [hy223]; exact H) | exact H
  have Ny223 := Aside0.mk hy223
  clear hy223
  obtain rfl := Option.some.inj H
  go_enter Try.func14, Try.ntmps14
  go_wp2_with (first | ((with_reducible refine gate_dst (N := 12) rfl ?_); refine Kd.R_lit (Kd.int .u8) _ 5 ?hg (N := 12) ?hd (xs := ([(wrap64 (97 + (Int.tmod (wrap64 (Int.tdiv a0 26)) 26))) % 256, (wrap64 (97 + (Int.tmod a0 26))) % 256] : List Int)) (inner := [.int .u8 ((wrap64 (97 + (Int.tmod (wrap64 (Int.tdiv a0 26)) 26))) % 256), .int .u8 ((wrap64 (97 + (Int.tmod a0 26))) % 256)]) (ok := fun _ => True) (okp := fun _ => True) ?hr ?hp (fun _ hk => hk) trivial (Below.refl _ _) (Nat.le_refl _) (by simp) ?_; (case hd => rfl); (case hg => rfl); (case hr => first | (go_simp; done) | (go_simp; rfl)); (case hp => exact (Reps.one (show Kd.M (Kd.int .u8) _ _ _ ((wrap64 (97 + (Int.tmod (wrap64 (Int.tdiv a0 26)) 26))) % 256) [.int .u8 ((wrap64 (97 + (Int.tmod (wrap64 (Int.tdiv a0 26)) 26))) % 256)] from rfl) (Reps.one (show Kd.M (Kd.int .u8) _ _ _ ((wrap64 (97 + (Int.tmod a0 26))) % 256) [.int .u8 ((wrap64 (97 + (Int.tmod a0 26))) % 256)] from rfl) (Reps.none _ _)))); intro v224 w2 ho3 hb hg_ hnew_; clear hg_ hnew_; (first | rw [← Ny223.out] at ho3 | (simp only [Int.reduceToNat] at ho3; rw [← Ny223.out] at ho3)); have n0_ := Aside0.mk (Kd.R_lower ho3 (below_size (by repeat (first | (with_reducible first | exact HB.out | apply below_alloc | apply pw_below_drewN | apply below_drew1) | exact HB.out)))); have n1_ := Aside0.mk (below_step (by repeat (first | (with_reducible first | exact HB.out | apply below_alloc | apply pw_below_drewN | apply below_drew1) | exact HB.out)) hb); clear HB; have HO225 := n0_; have HB := n1_; clear n0_ n1_; clear hb ho3; have hcv4 := own_string (P := Try.prog) Try.underlying76 Try.underlying5 Try.underlying9 (Kd.own_of_R HO225.out)))
  go_ret
  exact ⟨by first | rfl | (simp [errW_none, errW_some] <;> rfl) | (simp [*, errW_none, errW_some] <;> rfl), by repeat (first | (with_reducible first | exact HB.out | apply below_alloc | apply pw_below_drewN | apply below_drew1) | exact HB.out)⟩

end Go.Proofs.Yteeapfmgdlcgfaa.A


namespace Go.Proofs.Yteeapfmgdlcgfaa.A
open Go.Deep Go.RowKit Go.Maps Go.Sort Go.Shelf Go.Proofs.YteeapfmgdlcgfaaW.PrintWords Go.Proofs.YteeapfmgdlcgfaaW.PrintLast
set_option linter.unusedVariables false
set_option linter.unusedSimpArgs false

structure S28 where
  f0 : Int
  f1 : Int
def z28 : S28 := ⟨(0 : Int), (0 : Int)⟩
def k28 : Kd S28 := Kd.iso (Kd.pair (Kd.int .i64) (Kd.int .i64)) (fun x : S28 => (x.f0, x.f1))
theorem k28_open {w : World} {x : S28} {cs : List Value} (h : k28.K w x cs) : cs = [.int .i64 x.f0, .int .i64 x.f1] := by
  obtain ⟨_, _, rfl, rfl, rfl⟩ := h
  exact rfl
theorem k28_mk (w : World) (x : S28) : k28.K w x [.int .i64 x.f0, .int .i64 x.f1] := ⟨[.int .i64 x.f0], [.int .i64 x.f1], rfl, rfl, rfl⟩
def rd_T28 (xs : List S28) (i : Int) : S28 := xs.getD i.toNat z28
theorem at_T28 {w : World} {A : Option Addr} {n : Nat} {xs : List S28} (h : Kd.C k28 w A n xs) (i : Int) (h0 : 0 ≤ i) (h1 : i < n) : ∃ ad , A = some ad ∧ w.cell? (ad.add (i.toNat * 2)) = some (.int .i64 (rd_T28 xs i).f0) ∧ w.cell? ⟨(ad.add (i.toNat * 2)).block, (ad.add (i.toNat * 2)).off + 1, none⟩ = some (.int .i64 (rd_T28 xs i).f1) := by
  obtain ⟨ad, c, e, _, hK, hc0⟩ := Kd.C_get h z28 i h0 h1
  have hc : ∀ j u, c[j]? = some u → w.cell? (ad.add (i.toNat * 2 + j)) = some u := hc0
  obtain rfl := k28_open hK
  exact ⟨ad, e, hc 0 _ rfl, by rw [← add_field _ _ 1 (by omega)]; exact hc 1 _ rfl⟩
instance : Inhabited S28 := ⟨z28⟩
set_option maxRecDepth 100000 in
theorem opens_pair {H : Type} {enc : TypeId × Value → H} {w : World} {base : Nat} : Opens enc Try.prog w base 28 k28 (fun x => κI.wf x.f0 ∧ κI.wf x.f1) := by
  intro fuel cs x h
  obtain ⟨xs, n, _, _, hl, hlen, hf⟩ := DataW.trod_array Try.underlying28 h
  have hl' : cs.length = 2 := hl.trans (by kernel_rfl)
  match cs, hl' with
  | [c0, c1], _ =>
    have h0 := hf 0 (by omega)
    have h1 := hf 1 (by omega)
    rw [show Try.prog.cellsOf 3 = 1 by kernel_rfl] at h0 h1
    rw [List.getElem?_eq_getElem (by omega)] at h0 h1
    obtain ⟨m0, e0, _, w0⟩ := DataW.trod_int Try.underlying3 h0
    obtain ⟨m1, e1, _, w1⟩ := DataW.trod_int Try.underlying3 h1
    have e0' : c0 = .int .i64 m0 := by simpa using e0
    have e1' : c1 = .int .i64 m1 := by simpa using e1
    subst e0' e1'
    exact ⟨⟨m0, m1⟩, k28_mk w ⟨m0, m1⟩, w0, w1⟩
theorem opens_pairs {H : Type} {enc : TypeId × Value → H} {w : World} {base : Nat} : Opens enc Try.prog w base 22 (Kd.slice 28 k28) (fun xs => ∀ x ∈ xs, κI.wf x.f0 ∧ κI.wf x.f1) := opens_slice Try.underlying22 (by kernel_rfl) opens_pair

def nm (n : Int) : Str := strOfNums (([(wrap64 (97 + (Int.tmod (wrap64 (Int.tdiv n 26)) 26))) % 256, (wrap64 (97 + (Int.tmod n 26))) % 256] : List Int))
theorem key_calls (n : Int) (w : World) : Calls Try.prog 14 #[.int .i64 n] w fun e w' => e = .returned (.string (nm n)) ∧ Below w.heap.size w w' := swagelaw08_key.calls n (nm n) w rfl
theorem nm_next : ((List.range 255).all fun i => decide ((nm (i : Int)).data.toList < (nm ((i + 1 : Nat) : Int)).data.toList)) = true := by kernel_rfl
theorem nm_size : ((List.range 256).all fun i => decide ((nm (i : Int)).size ≤ 2)) = true := by kernel_rfl
theorem nm_lt : ∀ (d a : Nat), a + d + 1 ≤ 255 → (nm (a : Int)).data.toList < (nm ((a + d + 1 : Nat) : Int)).data.toList
  | 0, a, h => by
    have := List.all_eq_true.1 nm_next a (List.mem_range.2 (by omega))
    exact of_decide_eq_true this
  | d + 1, a, h => by
    have h1 := nm_lt d a (by omega)
    have h2 := List.all_eq_true.1 nm_next (a + d + 1) (List.mem_range.2 (by omega))
    exact List.lt_trans h1 (of_decide_eq_true h2)
def In8 (n : Int) : Prop := 0 ≤ n ∧ n ≤ 255
theorem nm_lt_of {a b : Int} (ha : In8 a) (hb : In8 b) (h : a < b) : (nm a).data.toList < (nm b).data.toList := by
  obtain ⟨x, rfl⟩ := Int.eq_ofNat_of_zero_le ha.1
  obtain ⟨y, rfl⟩ := Int.eq_ofNat_of_zero_le hb.1
  obtain ⟨d, rfl⟩ : ∃ d, y = x + d + 1 := ⟨y - x - 1, by omega⟩
  have := hb.2
  exact nm_lt d x (by omega)
theorem nm_inj {a b : Int} (ha : In8 a) (hb : In8 b) (h : nm a = nm b) : a = b := by
  rcases Int.lt_trichotomy a b with h1 | h1 | h1
  · have := nm_lt_of ha hb h1; rw [h] at this; exact absurd this (List.lt_irrefl _)
  · exact h1
  · have := nm_lt_of hb ha h1; rw [h] at this; exact absurd this (List.lt_irrefl _)
theorem nm_wf {a : Int} (ha : In8 a) : κS.wf (nm a) := by
  obtain ⟨x, rfl⟩ := Int.eq_ofNat_of_zero_le ha.1
  have := ha.2
  have := of_decide_eq_true (List.all_eq_true.1 nm_size x (List.mem_range.2 (by omega)))
  show (nm x).size ≤ maxLen
  unfold maxLen; omega
theorem and8 (x : Int) : In8 (bits .and .i64 x 255) := by
  have h : bits .and .i64 x 255 = IntKind.i64.wrap (((BitVec.ofInt 64 x) &&& (BitVec.ofInt 64 255)).toNat : Int) := rfl
  have h2 : ((BitVec.ofInt 64 x) &&& (BitVec.ofInt 64 255)).toNat ≤ 255 := by
    rw [BitVec.toNat_and]
    exact Nat.le_trans Nat.and_le_right (by decide)
  rw [h, i64_w, w64 (by omega) (by omega)]
  exact ⟨by omega, by omega⟩
/-- a relation of numbers, of their names -/
def Img (E : Int → Int → Prop) (s t : Str) : Prop := ∃ a b, s = nm a ∧ t = nm b ∧ E a b
def Low (E : Int → Int → Prop) : Prop := ∀ a b, E a b → In8 a ∧ In8 b
theorem img_iff {E : Int → Int → Prop} (h : Low E) {a b : Int} (ha : In8 a) (hb : In8 b) : Img E (nm a) (nm b) ↔ E a b := by
  constructor
  · rintro ⟨x, y, h1, h2, h3⟩
    obtain ⟨hx, hy⟩ := h x y h3
    rw [nm_inj ha hx h1, nm_inj hb hy h2]; exact h3
  · intro h3; exact ⟨a, b, rfl, rfl, h3⟩
theorem low_add {E : Int → Int → Prop} (h : Low E) {k : Int} (hk : In8 k) : Low (addE E k) := by
  rintro a b (h1 | ⟨rfl, rfl⟩)
  · exact h a b h1
  · exact ⟨hk, hk⟩
theorem low_join {E : Int → Int → Prop} (h : Low E) {k l : Int} : Low (joinE E k l) := by
  rintro a b (h1 | ⟨h1, h2⟩ | ⟨h1, h2⟩)
  · exact h a b h1
  · exact ⟨(h _ _ h1).1, (h _ _ h2).1⟩
  · exact ⟨(h _ _ h1).1, (h _ _ h2).1⟩
theorem img_add {E : Int → Int → Prop} {k : Int} (s t : Str) : addE (Img E) (nm k) s t ↔ Img (addE E k) s t := by
  constructor
  · rintro (⟨a, b, h1, h2, h3⟩ | ⟨h1, h2⟩)
    · exact ⟨a, b, h1, h2, .inl h3⟩
    · exact ⟨k, k, h1, h2, .inr ⟨rfl, rfl⟩⟩
  · rintro ⟨a, b, h1, h2, (h3 | ⟨rfl, rfl⟩)⟩
    · exact .inl ⟨a, b, h1, h2, h3⟩
    · exact .inr ⟨h1, h2⟩
theorem img_join {E : Int → Int → Prop} (hL : Low E) {k l : Int} (hk : In8 k) (hl : In8 l) (s t : Str) : joinE (Img E) (nm k) (nm l) s t ↔ Img (joinE E k l) s t := by
  have H : ∀ {s : Str} {k : Int}, In8 k → Img E s (nm k) → ∃ a, s = nm a ∧ E a k := by
    rintro s k hk ⟨a, b, h1, h2, h3⟩
    rw [nm_inj hk (hL _ _ h3).2 h2]; exact ⟨a, h1, h3⟩
  constructor
  · rintro (⟨a, b, h1, h2, h3⟩ | ⟨h1, h2⟩ | ⟨h1, h2⟩)
    · exact ⟨a, b, h1, h2, .inl h3⟩
    · obtain ⟨a, e1, g1⟩ := H hk h1
      obtain ⟨b, e2, g2⟩ := H hl h2
      exact ⟨a, b, e1, e2, .inr (.inl ⟨g1, g2⟩)⟩
    · obtain ⟨a, e1, g1⟩ := H hl h1
      obtain ⟨b, e2, g2⟩ := H hk h2
      exact ⟨a, b, e1, e2, .inr (.inr ⟨g1, g2⟩)⟩
  · rintro ⟨a, b, h1, h2, (h3 | ⟨g1, g2⟩ | ⟨g1, g2⟩)⟩
    · exact .inl ⟨a, b, h1, h2, h3⟩
    · exact .inr (.inl ⟨⟨a, k, h1, rfl, g1⟩, ⟨b, l, h2, rfl, g2⟩⟩)
    · exact .inr (.inr ⟨⟨a, l, h1, rfl, g1⟩, ⟨b, k, h2, rfl, g2⟩⟩)
theorem risingS_eq {a b : List (List UInt8)} (ha : RisingS a) (hb : RisingS b) (h : ∀ k, k ∈ a ↔ k ∈ b) : a = b := by
  have hna : a.Nodup := ha.imp (fun h e => by subst e; exact absurd h (List.lt_irrefl _))
  have hnb : b.Nodup := hb.imp (fun h e => by subst e; exact absurd h (List.lt_irrefl _))
  have hp : a.Perm b := by
    refine perm_of_sub hnb (fun x hx => (h x).2 hx) ?_ |>.trans (List.Perm.refl _)
    exact List.Nodup.length_le_of_subset hna (fun x hx => (h x).1 hx)
  exact List.Perm.eq_of_pairwise (le := fun x y : List UInt8 => x < y) (fun x y _ _ h1 h2 => absurd (List.lt_trans h1 h2) (List.lt_irrefl _)) ha hb hp
/-- the names of a rising row, rising -/
theorem names_row {E : Int → Int → Prop} (hL : Low E) {b : Int} (hb : In8 b) {l : List Int} {m : List (List UInt8)} (h1 : Rising l) (h2 : ∀ x, x ∈ l ↔ E x b) (h3 : RisingS m) (h4 : ∀ x : List UInt8, x ∈ m ↔ Img E ⟨x.toArray⟩ (nm b)) : m = l.map fun a => (nm a).data.toList := by
  have hl8 : ∀ x ∈ l, In8 x := fun x hx => (hL _ _ ((h2 x).1 hx)).1
  refine risingS_eq h3 ?_ fun x => ?_
  · unfold RisingS
    rw [List.pairwise_map]
    exact h1.imp_of_mem fun {a b} ha hb h => nm_lt_of (hl8 a ha) (hl8 b hb) h
  · rw [h4, List.mem_map]
    constructor
    · rintro ⟨a, b', e1, e2, g⟩
      rw [← nm_inj hb (hL _ _ g).2 e2] at g
      exact ⟨a, (h2 a).2 g, by rw [← e1]⟩
    · rintro ⟨a, ha, e⟩
      refine ⟨a, b, ?_, rfl, (h2 a).1 ha⟩
      rw [← e]
theorem names_least {E : Int → Int → Prop} (hL : Low E) {a f : Int} {g : Str} (ha : In8 a) (h1 : E f a) (h2 : ∀ x, E x a → f ≤ x) (h3 : Img E g (nm a)) (h4 : ∀ x : Str, Img E x (nm a) → g = x ∨ g.data.toList < x.data.toList) : g = nm f := by
  obtain ⟨x, y, e1, e2, h5⟩ := h3
  rw [← nm_inj ha (hL _ _ h5).2 e2] at h5
  rcases h4 (nm f) ⟨f, a, rfl, rfl, h1⟩ with h | h
  · exact h
  · rw [e1] at h
    have hx := (hL _ _ h5).1
    have hf := (hL _ _ h1).1
    have hle := h2 x h5
    rcases Int.lt_or_eq_of_le hle with hlt | heq
    · exact absurd (List.lt_trans h (nm_lt_of hf hx hlt)) (List.lt_irrefl _)
    · rw [heq] at h; exact absurd h (List.lt_irrefl _)
end Go.Proofs.Yteeapfmgdlcgfaa.A


namespace Go.Proofs.Yteeapfmgdlcgfaa.A
open Go.Deep Go.RowKit Go.Maps Go.Sort Go.Shelf Go.Proofs.YteeapfmgdlcgfaaW.PrintWords Go.Proofs.YteeapfmgdlcgfaaW.PrintLast
set_option linter.unusedVariables false
set_option linter.unusedSimpArgs false

theorem UN.keepB {K : Type} {κ : Kind K} {w w' : World} {p bu bs nu N : Nat} {E : K → K → Prop} (h : UN κ w p bu bs nu N E) (hb : Below w.heap.size w w') : UN κ w' p bu bs nu N E := h.keep (keeps_below hb (fun _ => False)) id id id
theorem own_shape {W : World} {base : Nat} {e : TypeId} {v : Value} {k : Nat} {xs : List Value} (h : W.ownsRow base e 1 v k xs) : ∃ A c, v = .slice A k c := by
  rcases h.2 with ⟨rfl, hz⟩ | ⟨g, cap, cur, rfl, _⟩
  · exact ⟨none, 0, by rw [hz]⟩
  · exact ⟨_, _, rfl⟩
theorem own_at {W : World} {base : Nat} {e : TypeId} {A : Option Addr} {c k : Nat} {xs : List Value} (h : W.ownsRow base e 1 (.slice A k c) k xs) {j : Nat} {x : Value} (hj : xs[j]? = some x) (hjk : j < k) : ∃ ad, A = some ad ∧ W.cell? (ad.add j) = some x := by
  obtain ⟨g, cap, e1, hc⟩ := own_cell h hj hjk
  injection e1 with e1 _ e2
  refine ⟨_, e1, ?_⟩
  have : (⟨g, 0, none⟩ : Addr).add j = ⟨g, j, none⟩ := by
    by_cases h0 : j = 0
    · subst h0; rfl
    · simp [Addr.add, h0]
  rw [this]; exact hc
theorem own_below {W W' : World} {base : Nat} {e : TypeId} {v : Value} {k : Nat} {xs : List Value} (h : W.ownsRow base e 1 v k xs) (hb : Below W.heap.size W W') : W'.ownsRow base e 1 v k xs := own_keep h (keeps_below hb (fun _ => False)) (fun _ _ => id)
theorem rising_len {l : List Int} (h : Rising l) (h8 : ∀ x ∈ l, In8 x) : l.length ≤ 256 := by
  have hn : l.Nodup := h.imp (fun h e => by omega)
  have := List.Nodup.length_le_of_subset hn (l₂ := (List.range 256).map fun j : Nat => (j : Int)) (fun x hx => by
    have := h8 x hx
    exact List.mem_map.2 ⟨x.toNat, List.mem_range.2 (by have := this.2; omega), by have := this.1; omega⟩)
  simpa using this
/-- what the inner loop keeps -/
structure NJ (w : World) (px bux bsx py buy bsy : Nat) (nu N : Nat) (E : Int → Int → Prop) (l : List Int) (vl vm : Value) (bl bm : Nat) (W : World) : Prop where
  x : UN κI W px bux bsx nu N E
  y : UN κS W py buy bsy nu N (Img E)
  below : Below w.heap.size w W
  rl : W.ownsRow bl 3 1 vl l.length (l.map (Value.int .i64))
  rm : W.ownsRow bm 9 1 vm l.length (l.map fun a => Value.string (nm a))
theorem NJ.step {w W W' : World} {px bux bsx py buy bsy nu N : Nat} {E : Int → Int → Prop} {l : List Int} {vl vm : Value} {bl bm : Nat} (h : NJ w px bux bsx py buy bsy nu N E l vl vm bl bm W) (hb : Below W.heap.size W W') : NJ w px bux bsx py buy bsy nu N E l vl vm bl bm W' :=
  ⟨h.x.keepB hb, h.y.keepB hb, below_step h.below hb, own_below h.rl hb, own_below h.rm hb⟩
structure NI (w : World) (px bux bsx py buy bsy : Nat) (i : Nat) (W : World) : Prop where
  ex : ∃ (E : Int → Int → Prop) (nu N : Nat), Low E ∧ nu ≤ 2 * i ∧ N ≤ nu ∧ UN κI W px bux bsx nu N E ∧ UN κS W py buy bsy nu N (Img E)
  below : Below w.heap.size w W

set_option maxRecDepth 100000 in
set_option maxHeartbeats 8000000 in
theorem law_unames (A : Option Addr) (c : Nat) (g : List S28) (w : World) (hC : Kd.C k28 w A g.length g) (hc : g.length ≤ c) (hp : ∀ x ∈ g, κI.wf x.f0 ∧ κI.wf x.f1) :
    Calls Try.prog 3 #[.slice A g.length c] w fun e w' => e = .returned (.bool true) ∧ Below w.heap.size w w' := by
  have hC' := Aside0.mk hC
  have hc' := Aside0.mk hc
  clear hC hc
  have hsm := small_calls w
  go_enter Try.func3, Try.ntmps3
  go_wp2_with fail
  refine hsm.mono ?_
  clear hsm
  rintro e w0 ⟨rfl, hB0⟩
  have hx := new_un w0
  go_wp2_with fail
  refine hx.mono ?_
  clear hx
  rintro e w1 ⟨px, bux, bsx, rfl, hpx, hbux, hbsx, hX1, hB1⟩
  have hy := new_unS w1
  go_wp2_with fail
  refine hy.mono ?_
  clear hy
  rintro e w2 ⟨py, buy, bsy, rfl, hpy, hbuy, hbsy, hY2, hB2⟩
  have hX2 : UN κI w2 px bux bsx 0 0 (fun _ _ => False) := hX1.keep (keeps_below hB2 (fun _ => False)) id id id
  have hltx := hX1.lt
  have hsz0 := hB0.size
  have hsz1 := hB1.size
  have hB : Below w.heap.size w w2 := below_step (below_step hB0 hB1) hB2
  clear hX1 hB0 hB1 hB2
  by_cases c1 : 100 < (g.length : Int)
  · have c1b : decide (100 < (g.length : Int)) = true := decide_eq_true c1
    go_wp2
    go_ret
    exact ⟨rfl, hB⟩
  have c1b : decide (100 < (g.length : Int)) = false := decide_eq_false c1
  have hI0 : Aside0 (NI w px bux bsx py buy bsy 0 w2) := ⟨⟨⟨_, 0, 0, (fun a b h => h.elim), by omega, by omega, hX2, hY2.congr fun s t => ⟨False.elim, fun ⟨a, b, _, _, h⟩ => h⟩⟩, hB⟩⟩
  have hneX : ∀ q, q < w1.heap.size → ¬ UX buy bsy q := fun q hq hx => by rcases hx with rfl | rfl <;> omega
  have hneY : ∀ q, w1.heap.size ≤ q → ¬ UX bux bsx q := fun q hq hx => by rcases hx with rfl | rfl <;> omega
  have hg100 : g.length ≤ 100 := by omega
  clear hX2 hY2 hB c1
  go_wp2
  go_loopw [6] (fun v6 wr => ∃ (i : Nat), v6 = .int .i64 i ∧ i ≤ g.length ∧ Aside0 (NI w px bux bsx py buy bsy i wr)) (fun v6 _ => g.length - (RowKit.intOf v6).toNat)
  case atStart => exact ⟨0, rfl, by omega, hI0⟩
  case round =>
    obtain ⟨i, rfl, hi, hI⟩ := hrel
    clear hI0
    by_cases hlt : i < g.length
    · have hltb : decide ((i : Int) < (g.length : Int)) = true := decide_eq_true (by omega)
      have hCr := Kd.C_below hC'.out hI.out.below
      obtain ⟨ad, rfl, hf0, hf1⟩ := at_T28 hCr (i : Int) (by omega) (by omega)
      have hp0 : (0 : Int) ≤ (i : Int) := by omega
      have hq0 : (i : Int) < (g.length : Int) := by omega
      clear hCr
      generalize rd_T28 g (i : Int) = pr at hf0 hf1
      rw [Int.toNat_natCast] at hf0 hf1
      go_wp2_with fail
      have ha := and8 pr.f0
      have hb := and8 pr.f1
      generalize bits BinOp.and IntKind.i64 pr.f0 255 = a at ha ⊢
      generalize bits BinOp.and IntKind.i64 pr.f1 255 = b at hb ⊢
      obtain ⟨⟨E, nu, N, hL, hnu, hN, hX, hY⟩, hB⟩ := hI.out
      clear hI hf0 hf1
      have hwa : κI.wf a := wfI (by have := ha.1; omega) (by have := ha.2; omega)
      have hwb : κI.wf b := wfI (by have := hb.1; omega) (by have := hb.2; omega)
      refine (join_un wr hX hwa hwb (by omega) (by omega)).mono ?_
      rintro e wa ⟨ra, rb, r, rfl, hra, hrb, hr, hXa, ka⟩
      have hYa : UN κS wa py buy bsy nu N (Img E) := hY.keep ka (hneY _ (by omega)) (hneY _ (by omega)) (hneY _ (by omega))
      have hBa : Below w.heap.size w wa := un_step hB ka (Nat.le_refl _) (by omega) (by omega)
      clear hX hY hB ka
      go_wp2_with fail
      refine (key_calls a wa).mono ?_
      rintro e wb ⟨rfl, hb1⟩
      go_wp2_with fail
      refine (key_calls b wb).mono ?_
      rintro e wc ⟨rfl, hb2⟩
      have hXc := (hXa.keepB hb1).keepB hb2
      have hYc := (hYa.keepB hb1).keepB hb2
      have hBc := below_step (below_step hBa hb1) hb2
      clear hXa hYa hBa hb1 hb2
      go_wp2_with fail
      refine (join_unS wc hYc (nm_wf ha) (nm_wf hb) (by omega) (by omega)).mono ?_
      rintro e wd ⟨ra', rb', r', rfl, hra', hrb', hr', hYd, kd⟩
      have e1 : addE (Img E) (nm a) = Img (addE E a) := by funext s t; exact propext (img_add s t)
      have e2 : addE (Img (addE E a)) (nm b) = Img (addE (addE E a) b) := by funext s t; exact propext (img_add s t)
      have hL1 := low_add hL ha
      have hL2 := low_add hL1 hb
      rw [e1] at hrb' hr' hYd
      rw [e2] at hr' hYd
      rw [img_iff hL ha ha, ← hra] at hra'
      rw [img_iff hL1 hb hb, ← hrb] at hrb'
      rw [img_iff hL2 ha hb, ← hr] at hr'
      obtain rfl : ra' = ra := Bool.eq_iff_iff.2 hra'
      obtain rfl : rb' = rb := Bool.eq_iff_iff.2 hrb'
      obtain rfl : r' = r := Bool.eq_iff_iff.2 hr'
      have hXd : UN κI wd px bux bsx _ _ _ := hXc.keep kd (hneX _ (by omega)) (hneX _ (by omega)) (hneX _ (by omega))
      have hYd := hYd.congr (fun s t => img_join hL2 ha hb s t)
      have hBd : Below w.heap.size w wd := un_step hBc kd (Nat.le_refl _) (by omega) (by omega)
      have hL3 := low_join hL2 (k := a) (l := b)
      have haa : joinE (addE (addE E a) b) a b a a := .inl (.inl (.inr ⟨rfl, rfl⟩))
      have hnu1 : nu + ra'.toNat + rb'.toNat ≤ 2 * (i + 1) := by cases ra' <;> cases rb' <;> simp <;> omega
      have hN1 : N + ra'.toNat + rb'.toNat - r'.toNat ≤ nu + ra'.toNat + rb'.toNat := by omega
      have hrr : (r' != r') = false := by simp
      generalize nu + ra'.toNat + rb'.toNat = nu1 at hXd hYd hnu1 hN1
      generalize N + ra'.toNat + rb'.toNat - r'.toNat = N1 at hXd hYd hN1
      generalize joinE (addE (addE E a) b) a b = E1 at hXd hYd hL3 haa
      clear hra hrb hr hra' hrb' hr' e1 e2 hXc hYc hBc kd hL hL1 hL2 hnu hN
      go_wp2_with fail
      refine (find_un wd hXd hwa (by omega)).mono ?_
      rintro e we ⟨f, rf, rfl, hf1, hf2, hXe, ke⟩
      obtain rfl : rf = true := by
        cases rf with
        | true => rfl
        | false => exact absurd haa ((hf2 rfl).2 a)
      have hYe : UN κS we py buy bsy nu1 N1 _ := hYd.keep ke (hneY _ (by omega)) (hneY _ (by omega)) (hneY _ (by omega))
      have hBe : Below w.heap.size w we := un_step hBd ke (Nat.le_refl _) (by omega) (by omega)
      have hff := Aside0.mk (hf1 rfl)
      clear hXd hYd hBd ke hf2 hf1
      go_wp2_with fail
      refine (key_calls a we).mono ?_
      rintro e wf_ ⟨rfl, hb1⟩
      have hXf := hXe.keepB hb1
      have hYf := hYe.keepB hb1
      have hBf := below_step hBe hb1
      clear hXe hYe hBe hb1
      go_wp2_with fail
      refine (find_unS wf_ hYf (nm_wf ha) (by omega)).mono ?_
      rintro e wg ⟨g', rg, rfl, hg1, hg2, hYg, kg⟩
      obtain rfl : rg = true := by
        cases rg with
        | true => rfl
        | false => exact absurd ((img_iff hL3 ha ha).2 haa) (hg2 rfl (nm a))
      obtain rfl : g' = nm f := names_least hL3 ha hff.out.1 hff.out.2 (hg1 rfl).1 (hg1 rfl).2
      have hXg : UN κI wg px bux bsx nu1 N1 _ := hXf.keep kg (hneX _ (by omega)) (hneX _ (by omega)) (hneX _ (by omega))
      have hBg : Below w.heap.size w wg := un_step hBf kg (Nat.le_refl _) (by omega) (by omega)
      clear hXf hYf hBf kg hg1 hg2 hff haa
      go_wp2_with fail
      refine (class_un wg hXg hwb (by omega)).mono ?_
      rintro e wh ⟨vl, l, rfl, hl1, hl2, hl3, hXh, kh⟩
      have hYh : UN κS wh py buy bsy nu1 N1 _ := hYg.keep kh (hneY _ (by omega)) (hneY _ (by omega)) (hneY _ (by omega))
      have hBh : Below w.heap.size w wh := un_step hBg kh (Nat.le_refl _) (by omega) (by omega)
      have hygl := hYg.ltS
      clear hXg hYg hBg kh
      go_wp2_with fail
      refine (key_calls b wh).mono ?_
      rintro e wi ⟨rfl, hb1⟩
      have hXi := hXh.keepB hb1
      have hYi := hYh.keepB hb1
      have hBi := below_step hBh hb1
      have hl3i := own_below hl3 hb1
      clear hXh hYh hBh hl3 hb1
      go_wp2_with fail
      refine (class_unS wi hYi (nm_wf hb) (by omega)).mono ?_
      rintro e wj ⟨vm, m, rfl, hm1, hm2, hm3, hYj, kj⟩
      have hml := names_row hL3 hb hl1 hl2 hm1 hm2
      have hl256 := rising_len hl1 (fun x hx => (hL3 _ _ ((hl2 x).1 hx)).1)
      have hXj : UN κI wj px bux bsx nu1 N1 _ := hXi.keep kj (hneX _ (by omega)) (hneX _ (by omega)) (hneX _ (by omega))
      have hBj : Below w.heap.size w wj := un_step hBi kj (Nat.le_refl _) (by omega) (by omega)
      have hl3j := own_keep hl3i kj (fun q hq hx => by rcases hx with rfl | rfl <;> omega)
      have hm3' : wj.ownsRow wi.heap.size 9 1 vm l.length (l.map fun a => Value.string (nm a)) := by
        rw [hml, List.length_map, List.map_map] at hm3; exact hm3
      obtain ⟨Al, cl, rfl⟩ := own_shape hl3j
      obtain ⟨Am, cm, rfl⟩ := own_shape hm3'
      have hJ : Aside0 (NJ w px bux bsx py buy bsy nu1 N1 E1 l (.slice Al l.length cl) (.slice Am l.length cm) wg.heap.size wi.heap.size wj) := ⟨⟨hXj, hYj, hBj, hl3j, hm3'⟩⟩
      have hnum : Aside0 (nu1 ≤ 2 * (i + 1) ∧ N1 ≤ nu1) := ⟨hnu1, hN1⟩
      have hL3' := Aside0.mk hL3
      clear hml hXj hYj hBj hl3j hm3 hm3' hm1 hm2 hl1 hl2 hXi hYi hBi hl3i kj hnu1 hN1 hL3 hygl
      have hmix : Try.prog.follows .mixedOrders = true := by kernel_rfl
      go_wp2_with fail
      refine (key_calls f wj).mono ?_
      rintro e wk ⟨rfl, hb1⟩
      have hJk := Aside0.mk (hJ.out.step hb1)
      clear hJ hb1
      have hlx := len_un wk hJk.out.x
      have hly := len_unS wk hJk.out.y
      go_wp2_with fail
      refine hlx.mono ?_
      clear hlx
      rintro e w' ⟨rfl, rfl⟩
      go_wp2_with fail
      refine hly.mono ?_
      clear hly
      rintro e w' ⟨rfl, rfl⟩
      go_wp2
      go_loopw [15] (fun v15 wq => ∃ (j : Nat), v15 = .int .i64 j ∧ j ≤ l.length ∧ Aside0 (NJ w px bux bsx py buy bsy nu1 N1 E1 l (.slice Al l.length cl) (.slice Am l.length cm) wg.heap.size wi.heap.size wq)) (fun v15 _ => l.length - (RowKit.intOf v15).toNat)
      case atStart => exact ⟨0, rfl, by omega, hJk⟩
      case round =>
        obtain ⟨j, rfl, hj, hJ⟩ := hrel
        clear hJk
        by_cases hjl : j < l.length
        · have hjb : decide ((j : Int) < (l.length : Int)) = true := decide_eq_true (by omega)
          have hpj : (0 : Int) ≤ (j : Int) := by omega
          have hqj : (j : Int) < (l.length : Int) := by omega
          obtain ⟨x, hx⟩ : ∃ x, l[j] = x := ⟨_, rfl⟩
          obtain ⟨al, rfl, hcl⟩ := own_at hJ.out.rl (j := j) (x := .int .i64 x) (by rw [List.getElem?_map, List.getElem?_eq_getElem hjl, hx]; rfl) hjl
          obtain ⟨am, rfl, hcm⟩ := own_at hJ.out.rm (j := j) (x := .string (nm x)) (by rw [List.getElem?_map, List.getElem?_eq_getElem hjl, hx]; rfl) hjl
          have hcld : wr.drew.cell? (al.add j) = some (.int .i64 x) := hcl
          have hcmd : wr.drew.cell? (am.add j) = some (.string (nm x)) := hcm
          clear hx
          go_wp2
          go_region_with (go_at_call 14; refine (key_calls x _).mono ?_; rintro e w5 ⟨rfl, hb1⟩; have hcm5 := (hb1.cell (World.block_lt_of_cell? _ _ hcmd)).trans hcmd; have hJ5 := Aside0.mk (NJ.step (W := wr.drew) ⟨hJ.out.x.keep (keeps_drew (fun _ => False) _) id id id, hJ.out.y.keep (keeps_drew (fun _ => False) _) id id id, hJ.out.below.trans ⟨rfl, rfl, rfl, Nat.le_refl _, fun _ _ => rfl⟩, hJ.out.rl, hJ.out.rm⟩ hb1))
          all_goals
            go_wp2
            go_roundw
            case rel => exact ⟨j + 1, by go_num, by omega, hJ5⟩
            case measure => simp [RowKit.intOf]; omega
        · have hjb : decide ((j : Int) < (l.length : Int)) = false := decide_eq_false (by omega)
          have hI' : Aside0 (NI w px bux bsx py buy bsy (i + 1) wr) := ⟨⟨E1, nu1, N1, hL3'.out, hnum.out.1, hnum.out.2, hJ.out.x, hJ.out.y⟩, hJ.out.below⟩
          clear hJ
          go_wp2
          go_roundw
          case rel => exact ⟨i + 1, by go_num, by omega, hI'⟩
          case measure => simp [RowKit.intOf]; omega
    · have hltb : decide ((i : Int) < (g.length : Int)) = false := decide_eq_false (by omega)
      have hBr := hI.out.below
      go_wp2
      go_ret
      exact ⟨rfl, hBr⟩
end Go.Proofs.Yteeapfmgdlcgfaa.A

