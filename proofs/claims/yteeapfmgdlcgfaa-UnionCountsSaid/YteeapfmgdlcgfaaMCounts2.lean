/- Parts of the proof, in the order in which they rest on one another. -/
import Derived.Test.YteeapfmgdlcgfaaMCounts1
import Derived.Below
import Derived.Deep.Draws
import Derived.Deep.AppendLies
import Derived.Maps.AppendAt
import Derived.OwnWalk
import Derived.Laws.BytesArg
import Derived.Laws.MakeOwn
import Derived.Laws.OwnMore
import Derived.Deep.OwnRows
import Derived.Tactics
import Derived.Lib.ConvBytes
import Derived.Laws.Slices
import Derived.WalkKit
import Derived.KernelRfl
import Derived.RowKit3
import Derived.Deep.LoopGhost
import Derived.Deep.QuietTactic
import Derived.BigQuiet
import Derived.WideLaws
import Derived.Deep.DeepCutAuto
import Derived.Deep.CutBlock
import Derived.Deep.RegionHeld3
import Derived.Laws.Rows
import Derived.Lib.AppendStr
import Derived.ArgAppend
import Derived.Laws.IdiomCopy
import Derived.RowKit
import Derived.OrdersHeld
import Derived.Laws.BitsLemmas
import Derived.Laws.StructEq
import Derived.Test.YteeapfmgdlcgfaaProg
import Derived.Maps.Own
import Derived.Maps.OwnOps
import Derived.Maps.OwnSet
import Derived.Maps.Views
import Derived.WideKeyEntry
import Derived.RangeFuncWrites
import Derived.Lib.SlKeysI
import Derived.Shelf.SlIterI.Stops
import Derived.Shelf.SlIterI.Nil
import Derived.Shelf.SortM.Plain
import Derived.Shelf.SortM.SortNone
import Derived.Shelf.SlMaps.Clone
import Derived.Ground.GgzProg
import Derived.Ground.SlgmProg
import Derived.Ground.SlmcProg
import Derived.Shelf.SlGeneric
import Derived.RangeFuncLeaves
import Derived.RangeFuncCalls
import Derived.RangeFuncBox
import Derived.OwnWalkIn
import Derived.TacticsInMore
import Derived.LoopNIn
import Derived.LoopIn
import Derived.Maps.OwnIn
import Derived.Shelf.RegionOpen
import Derived.RangeFuncRecord
import Derived.OpenShut
import Derived.Deep.Slices
import Derived.ChangeArms
import Derived.Maps.StringElems
import Derived.Sort.MapsRangeIn
import Derived.StringKeys
import Derived.Shelf.SlIter.Stops
import Derived.Maps.RangeWalk
import Derived.OrdersIn
import Derived.TacticsIn
namespace Go.Proofs.Yteeapfmgdlcgfaa.A
open Go.RowKit Go.Proofs.YteeapfmgdlcgfaaW.PrintWords Go.Proofs.YteeapfmgdlcgfaaW.PrintLast Go.Proofs.YteeapfmgdlcgfaaW.PrintMore
attribute [local go_sem] max2_int min2_int max_two min_two max_three min_three max_four min_four   -- for this text's walks alone
set_option linter.unusedVariables false
set_option linter.unusedSimpArgs false



theorem info3 : (Try.prog.info? 3).map (fun i => (i.zero, i.size, i.bytes)) = some (some (.int .i64 0), 1, 8) := by kernel_rfl
structure S60 where
  f0 : Int
  f1 : Int
  f2 : Int
  f3 : Int
  f4 : Int
  f5 : (List Int)
structure S55 where
  f0 : Int
  f1 : Int
  f2 : Int
  f3 : Int
def z55 : S55 := ⟨(0 : Int), (0 : Int), (0 : Int), (0 : Int)⟩
structure S57 where
  f0 : (List S60)
  f1 : S55
def z57 : S57 := ⟨([] : List S60), z55⟩
end Go.Proofs.Yteeapfmgdlcgfaa.A


namespace Go.Proofs.Yteeapfmgdlcgfaa.A
set_option linter.unusedVariables false
set_option linter.unusedSimpArgs false

def updK {K V : Type} [DecidableEq K] (f : K → Option V) (k : K) (v : V) : K → Option V := fun j => if j = k then some v else f j
def remK {K V : Type} [DecidableEq K] (f : K → Option V) (k : K) : K → Option V := fun j => if j = k then none else f j
theorem updK_same {K V : Type} [DecidableEq K] (f : K → Option V) (k : K) (v : V) : updK f k v k = some v := by unfold updK; rw [if_pos rfl]
theorem updK_other {K V : Type} [DecidableEq K] {f : K → Option V} {k j : K} {v : V} (h : j ≠ k) : updK f k v j = f j := by unfold updK; rw [if_neg h]
/-- by d steps to the root r -/
inductive To {K : Type} (U : K → Option K) : Nat → K → K → Prop
  | zero {r : K} : U r = some r → To U 0 r r
  | step {d : Nat} {k j r : K} : U k = some j → j ≠ k → To U d j r → To U (d + 1) k r
theorem To.root {K : Type} {U : K → Option K} {d : Nat} {k r : K} (h : To U d k r) : U r = some r := by
  induction h with
  | zero h => exact h
  | step _ _ _ ih => exact ih
theorem To.det {K : Type} {U : K → Option K} {d : Nat} {k r : K} (h : To U d k r) : ∀ {e : Nat} {s : K}, To U e k s → d = e ∧ r = s := by
  induction h with
  | @zero r h =>
    intro e s h2
    cases h2 with
    | zero _ => exact ⟨rfl, rfl⟩
    | step h3 h4 _ =>
      rw [h] at h3
      exact absurd (Option.some.inj h3).symm h4
  | step h1 h2 _ ih =>
    intro e s h3
    cases h3 with
    | zero h4 =>
      rw [h1] at h4
      exact absurd (Option.some.inj h4) h2
    | step h4 _ h5 =>
      rw [h1] at h4
      obtain rfl := Option.some.inj h4
      obtain ⟨h6, h7⟩ := ih h5
      exact ⟨by rw [h6], h7⟩
theorem To.has {K : Type} {U : K → Option K} {d : Nat} {k r : K} (h : To U d k r) : ∃ j, U k = Option.some j := by
  cases h with
  | zero h => exact ⟨_, h⟩
  | step h _ _ => exact ⟨_, h⟩
theorem To.halve {K : Type} [DecidableEq K] {U : K → Option K} {k j m : K} (hk : U k = some j) (hj : j ≠ k) (hm : U j = some m) : ∀ (n d : Nat) (x r : K), d ≤ n → To U d x r → ∃ e, e ≤ d ∧ To (updK U k m) e x r := by
  intro n
  induction n with
  | zero =>
    intro d x r hd h
    obtain rfl : d = 0 := by omega
    cases h with
    | zero h =>
      have hx : x ≠ k := fun e => by subst e; rw [hk] at h; exact hj (Option.some.inj h)
      exact ⟨0, Nat.le_refl _, .zero (by rw [updK_other hx]; exact h)⟩
  | succ n ih =>
    intro d x r hd h
    cases h with
    | zero h =>
      have hx : x ≠ k := fun e => by subst e; rw [hk] at h; exact hj (Option.some.inj h)
      exact ⟨0, Nat.le_refl _, .zero (by rw [updK_other hx]; exact h)⟩
    | @step d _ j' _ h1 h2 h3 =>
      by_cases hx : x = k
      · subst hx
        rw [hk] at h1
        obtain rfl := Option.some.inj h1
        have hall := To.step hk hj h3
        cases h3 with
        | zero h4 =>
          rw [hm] at h4
          obtain rfl := Option.some.inj h4
          exact ⟨1, by omega, .step (updK_same _ _ _) hj (.zero (by rw [updK_other hj]; exact hm))⟩
        | @step d2 _ m' _ h4 h5 h6 =>
          rw [hm] at h4
          obtain rfl := Option.some.inj h4
          have hmx : m ≠ x := fun e => by
            subst e
            have := (hall.det h6).1
            omega
          obtain ⟨e, he, h7⟩ := ih d2 m r (by omega) h6
          exact ⟨e + 1, by omega, .step (updK_same _ _ _) hmx h7⟩
      · obtain ⟨e, he, h7⟩ := ih d j' r (by omega) h3
        exact ⟨e + 1, by omega, .step (by rw [updK_other hx]; exact h1) h2 h7⟩
/-- in one class -/
def Eq2 {K : Type} (U : K → Option K) (x y : K) : Prop := ∃ r d e, To U d x r ∧ To U e y r
structure Forest {K : Type} (U : K → Option K) (Z : K → Option Int) : Prop where
  up : ∀ k j, U k = some j → ∃ d r, To U d k r
  z : ∀ k, (Z k).isSome = true ↔ U k = some k
theorem Eq2.symm {K : Type} {U : K → Option K} {x y : K} (h : Eq2 U x y) : Eq2 U y x := by
  obtain ⟨r, d, e, h1, h2⟩ := h
  exact ⟨r, e, d, h2, h1⟩
theorem Eq2.trans {K : Type} {U : K → Option K} {x y z : K} (h : Eq2 U x y) (h' : Eq2 U y z) : Eq2 U x z := by
  obtain ⟨r, d, e, h1, h2⟩ := h
  obtain ⟨s, d', e', h3, h4⟩ := h'
  obtain ⟨_, rfl⟩ := h2.det h3
  exact ⟨r, d, e', h1, h4⟩
theorem Eq2.root_iff {K : Type} {U : K → Option K} {x y r s : K} {d e : Nat} (h1 : To U d x r) (h2 : To U e y s) : Eq2 U x y ↔ r = s := by
  constructor
  · rintro ⟨t, d', e', h3, h4⟩
    rw [(h1.det h3).2, (h2.det h4).2]
  · rintro rfl
    exact ⟨r, d, e, h1, h2⟩
theorem Eq2.self_iff {K : Type} {U : K → Option K} {Z : K → Option Int} (h : Forest U Z) {x : K} : Eq2 U x x ↔ (U x).isSome = true := by
  constructor
  · rintro ⟨r, d, e, h1, _⟩
    obtain ⟨j, hj⟩ := h1.has
    rw [hj]; rfl
  · intro hx
    obtain ⟨j, hj⟩ := Option.isSome_iff_exists.1 hx
    obtain ⟨d, r, h1⟩ := h.up x j hj
    exact ⟨r, d, d, h1, h1⟩
theorem Eq2.of_same {K : Type} {U V : K → Option K} (h : ∀ d x r, To U d x r → ∃ e, To V e x r) (h' : ∀ x, (V x).isSome = true → (U x).isSome = true) {Z : K → Option Int} (hF : Forest U Z) (x y : K) : Eq2 V x y ↔ Eq2 U x y := by
  constructor
  · rintro ⟨r, d, e, h1, h2⟩
    have H : ∀ x d, To V d x r → ∃ c, To U c x r := fun x d hx => by
      obtain ⟨j, hj⟩ := hx.has
      obtain ⟨j', hj'⟩ := Option.isSome_iff_exists.1 (h' x (by rw [hj]; rfl))
      obtain ⟨c, s, hc⟩ := hF.up x j' hj'
      obtain ⟨c', hc'⟩ := h _ _ _ hc
      rw [(hx.det hc').2]
      exact ⟨c, hc⟩
    obtain ⟨c1, hc1⟩ := H _ _ h1
    obtain ⟨c2, hc2⟩ := H _ _ h2
    exact ⟨r, c1, c2, hc1, hc2⟩
  · rintro ⟨r, d, e, h1, h2⟩
    obtain ⟨c1, hc1⟩ := h _ _ _ h1
    obtain ⟨c2, hc2⟩ := h _ _ _ h2
    exact ⟨r, c1, c2, hc1, hc2⟩
theorem Forest.halve {K : Type} [DecidableEq K] {U : K → Option K} {Z : K → Option Int} (h : Forest U Z) {k j m : K} (hk : U k = some j) (hj : j ≠ k) (hm : U j = some m) :
    Forest (updK U k m) Z ∧ (∀ x y, Eq2 (updK U k m) x y ↔ Eq2 U x y) ∧ (∀ x, (updK U k m x).isSome = (U x).isSome) := by
  have hh := To.halve hk hj hm
  have hs : ∀ x, (updK U k m x).isSome = (U x).isSome := fun x => by
    by_cases e : x = k
    · subst e; rw [updK_same, hk]; rfl
    · rw [updK_other e]
  have hup : ∀ d x r, To U d x r → ∃ e, To (updK U k m) e x r := fun d x r hx => by
    obtain ⟨e, _, h2⟩ := hh d d x r (Nat.le_refl _) hx
    exact ⟨e, h2⟩
  have hmk : m ≠ k := fun e => by
    subst e
    obtain ⟨d, r, h1⟩ := h.up m j hk
    have h2 := h1
    cases h2 with
    | zero h3 => rw [hk] at h3; exact hj (Option.some.inj h3)
    | step h3 h4 h5 =>
      rw [hk] at h3
      obtain rfl := Option.some.inj h3
      cases h5 with
      | zero h6 => rw [hm] at h6; exact hj (Option.some.inj h6).symm
      | step h6 h7 h8 =>
        rw [hm] at h6
        obtain rfl := Option.some.inj h6
        have := (h1.det h8).1
        omega
  refine ⟨⟨fun x y hx => ?_, fun x => ?_⟩, Eq2.of_same hup (fun x hx => by rwa [hs] at hx) h, hs⟩
  · have h1 : (U x).isSome = true := by rw [← hs, hx]; rfl
    obtain ⟨j', hj'⟩ := Option.isSome_iff_exists.1 h1
    obtain ⟨d, r, h2⟩ := h.up x j' hj'
    obtain ⟨e, h3⟩ := hup _ _ _ h2
    exact ⟨e, r, h3⟩
  · rw [h.z x]
    by_cases e : x = k
    · subst e
      rw [updK_same, hk]
      constructor
      · intro h1; exact absurd (Option.some.inj h1) hj
      · intro h1; exact absurd (Option.some.inj h1) hmk
    · rw [updK_other e]
theorem Forest.add {K : Type} [DecidableEq K] {U : K → Option K} {Z : K → Option Int} (h : Forest U Z) {k : K} (hk : U k = none) (v : Int) :
    Forest (updK U k k) (updK Z k v) ∧ ∀ x y, Eq2 (updK U k k) x y ↔ (Eq2 U x y ∨ (x = k ∧ y = k)) := by
  have h1 : ∀ d x r, To U d x r → To (updK U k k) d x r := fun d x r hx => by
    induction hx with
    | @zero r hr =>
      refine .zero ?_
      rw [updK_other (fun e => by subst e; rw [hk] at hr; cases hr)]; exact hr
    | @step d x j r h1 h2 _ ih =>
      refine .step ?_ h2 ih
      rw [updK_other (fun e => by subst e; rw [hk] at h1; cases h1)]; exact h1
  have h2 : ∀ d x r, To (updK U k k) d x r → (x = k ∧ r = k) ∨ To U d x r := fun d x r hx => by
    induction hx with
    | @zero r hr =>
      by_cases e : r = k
      · exact .inl ⟨e, e⟩
      · rw [updK_other e] at hr; exact .inr (.zero hr)
    | @step d x j r g1 g2 _ ih =>
      have hx : x ≠ k := fun e => by
        subst e
        rw [updK_same] at g1
        exact g2 (Option.some.inj g1).symm
      rw [updK_other hx] at g1
      obtain ⟨c, s, hc⟩ := h.up x j g1
      cases hc with
      | zero g3 => rw [g1] at g3; exact absurd (Option.some.inj g3) g2
      | step g3 _ g4 =>
        rw [g1] at g3
        obtain rfl := Option.some.inj g3
        rcases ih with ⟨e1, _⟩ | ih
        · subst e1
          obtain ⟨y, hy⟩ := g4.has
          rw [hk] at hy; cases hy
        · exact .inr (.step g1 g2 ih)
  have hkk : To (updK U k k) 0 k k := .zero (updK_same _ _ _)
  refine ⟨⟨fun x j hx => ?_, fun x => ?_⟩, fun x y => ?_⟩
  · by_cases e : x = k
    · subst e; exact ⟨0, x, hkk⟩
    · rw [updK_other e] at hx
      obtain ⟨d, r, h3⟩ := h.up x j hx
      exact ⟨d, r, h1 _ _ _ h3⟩
  · by_cases e : x = k
    · subst e; rw [updK_same, updK_same]; simp
    · rw [updK_other e, updK_other e]; exact h.z x
  · constructor
    · rintro ⟨r, d, e, g1, g2⟩
      rcases h2 _ _ _ g1 with ⟨a1, a2⟩ | g1'
      · rcases h2 _ _ _ g2 with ⟨b1, b2⟩ | g2'
        · exact .inr ⟨a1, b1⟩
        · subst a2
          have := g2'.root
          rw [hk] at this; cases this
      · rcases h2 _ _ _ g2 with ⟨b1, b2⟩ | g2'
        · subst b2
          have := g1'.root
          rw [hk] at this; cases this
        · exact .inl ⟨r, d, e, g1', g2'⟩
    · rintro (⟨r, d, e, g1, g2⟩ | ⟨rfl, rfl⟩)
      · exact ⟨r, d, e, h1 _ _ _ g1, h1 _ _ _ g2⟩
      · exact ⟨_, 0, 0, hkk, hkk⟩
theorem Forest.link {K : Type} [DecidableEq K] {U : K → Option K} {Z : K → Option Int} (h : Forest U Z) {a b : K} (ha : U a = some a) (hb : U b = some b) (hab : a ≠ b) (v : Int) :
    Forest (updK U b a) (remK (updK Z a v) b) ∧ ∀ x y, Eq2 (updK U b a) x y ↔ (Eq2 U x y ∨ (Eq2 U x a ∧ Eq2 U y b) ∨ (Eq2 U x b ∧ Eq2 U y a)) := by
  have ha' : To (updK U b a) 0 a a := .zero (by rw [updK_other hab]; exact ha)
  have h1 : ∀ d x r, To U d x r → (r ≠ b ∧ To (updK U b a) d x r) ∨ (r = b ∧ To (updK U b a) (d + 1) x a) := fun d x r hx => by
    induction hx with
    | @zero r hr =>
      by_cases e : r = b
      · subst e; exact .inr ⟨rfl, .step (updK_same _ _ _) hab ha'⟩
      · exact .inl ⟨e, .zero (by rw [updK_other e]; exact hr)⟩
    | @step d x j r g1 g2 _ ih =>
      have hx : x ≠ b := fun e => by
        subst e
        rw [hb] at g1; exact g2 (Option.some.inj g1).symm
      rcases ih with ⟨e, ih⟩ | ⟨e, ih⟩
      · exact .inl ⟨e, .step (by rw [updK_other hx]; exact g1) g2 ih⟩
      · exact .inr ⟨e, .step (by rw [updK_other hx]; exact g1) g2 ih⟩
  have hra : ∀ x, Eq2 U x a ↔ ∃ d, To U d x a := fun x => by
    constructor
    · rintro ⟨r, d, e, g1, g2⟩
      rw [((To.zero ha).det g2).2]; exact ⟨d, g1⟩
    · rintro ⟨d, g⟩; exact ⟨a, d, 0, g, .zero ha⟩
  have hrb : ∀ x, Eq2 U x b ↔ ∃ d, To U d x b := fun x => by
    constructor
    · rintro ⟨r, d, e, g1, g2⟩
      rw [((To.zero hb).det g2).2]; exact ⟨d, g1⟩
    · rintro ⟨d, g⟩; exact ⟨b, d, 0, g, .zero hb⟩
  have hs : ∀ x, (updK U b a x).isSome = (U x).isSome := fun x => by
    by_cases e : x = b
    · subst e; rw [updK_same, hb]; rfl
    · rw [updK_other e]
  have h2 : ∀ d x r, To (updK U b a) d x r → ∃ c s, To U c x s ∧ ((s ≠ b ∧ r = s) ∨ (s = b ∧ r = a)) := fun d x r hx => by
    obtain ⟨j, hj⟩ := hx.has
    obtain ⟨j', hj'⟩ := Option.isSome_iff_exists.1 (show (U x).isSome = true by rw [← hs, hj]; rfl)
    obtain ⟨c, s, hc⟩ := h.up x j' hj'
    rcases h1 _ _ _ hc with ⟨e, g⟩ | ⟨e, g⟩
    · exact ⟨c, s, hc, .inl ⟨e, (hx.det g).2⟩⟩
    · exact ⟨c, s, hc, .inr ⟨e, (hx.det g).2⟩⟩
  refine ⟨⟨fun x j hx => ?_, fun x => ?_⟩, fun x y => ?_⟩
  · obtain ⟨j', hj'⟩ := Option.isSome_iff_exists.1 (show (U x).isSome = true by rw [← hs, hx]; rfl)
    obtain ⟨c, s, hc⟩ := h.up x j' hj'
    rcases h1 _ _ _ hc with ⟨_, g⟩ | ⟨_, g⟩
    · exact ⟨_, _, g⟩
    · exact ⟨_, _, g⟩
  · by_cases e : x = b
    · subst e
      unfold remK
      rw [if_pos rfl, updK_same]
      constructor
      · intro h; cases h
      · intro h; exact absurd (Option.some.inj h) hab
    · unfold remK
      rw [if_neg e, updK_other e]
      by_cases e2 : x = a
      · subst e2; rw [updK_same]; exact ⟨fun _ => ha, fun _ => rfl⟩
      · rw [updK_other e2]; exact h.z x
  · constructor
    · rintro ⟨r, d, e, g1, g2⟩
      obtain ⟨c1, s1, k1, l1⟩ := h2 _ _ _ g1
      obtain ⟨c2, s2, k2, l2⟩ := h2 _ _ _ g2
      rcases l1 with ⟨l1, m1⟩ | ⟨l1, m1⟩ <;> rcases l2 with ⟨l2, m2⟩ | ⟨l2, m2⟩
      · refine .inl ⟨r, c1, c2, ?_, ?_⟩
        · rw [m1]; exact k1
        · rw [m2]; exact k2
      · refine .inr (.inl ⟨(hra x).2 ⟨c1, ?_⟩, (hrb y).2 ⟨c2, ?_⟩⟩)
        · rw [← m2, m1]; exact k1
        · rw [← l2]; exact k2
      · refine .inr (.inr ⟨(hrb x).2 ⟨c1, ?_⟩, (hra y).2 ⟨c2, ?_⟩⟩)
        · rw [← l1]; exact k1
        · rw [← m1, m2]; exact k2
      · refine .inl ⟨b, c1, c2, ?_, ?_⟩
        · rw [← l1]; exact k1
        · rw [← l2]; exact k2
    · have hto : ∀ x d, To U d x a → ∃ c, To (updK U b a) c x a := fun x d g => by
        rcases h1 _ _ _ g with ⟨_, g⟩ | ⟨e, g⟩
        · exact ⟨_, g⟩
        · exact absurd e hab
      have htb : ∀ x d, To U d x b → ∃ c, To (updK U b a) c x a := fun x d g => by
        rcases h1 _ _ _ g with ⟨e, g⟩ | ⟨e, g⟩
        · exact absurd rfl e
        · exact ⟨_, g⟩
      rintro (⟨r, d, e, g1, g2⟩ | ⟨g1, g2⟩ | ⟨g1, g2⟩)
      · rcases h1 _ _ _ g1 with ⟨a1, a2⟩ | ⟨a1, a2⟩ <;> rcases h1 _ _ _ g2 with ⟨b1, b2⟩ | ⟨b1, b2⟩
        · exact ⟨r, _, _, a2, b2⟩
        · exact absurd b1 a1
        · exact absurd a1 b1
        · exact ⟨a, _, _, a2, b2⟩
      · obtain ⟨d, g1⟩ := (hra x).1 g1
        obtain ⟨e, g2⟩ := (hrb y).1 g2
        obtain ⟨c1, k1⟩ := hto _ _ g1
        obtain ⟨c2, k2⟩ := htb _ _ g2
        exact ⟨a, c1, c2, k1, k2⟩
      · obtain ⟨d, g1⟩ := (hrb x).1 g1
        obtain ⟨e, g2⟩ := (hra y).1 g2
        obtain ⟨c1, k1⟩ := htb _ _ g1
        obtain ⟨c2, k2⟩ := hto _ _ g2
        exact ⟨a, c1, c2, k1, k2⟩
end Go.Proofs.Yteeapfmgdlcgfaa.A


namespace Go.Proofs.Yteeapfmgdlcgfaa.A
open Go.RowKit Go.Maps Go.Proofs.YteeapfmgdlcgfaaW.PrintWords Go.Proofs.YteeapfmgdlcgfaaW.PrintLast
set_option linter.unusedVariables false
set_option linter.unusedSimpArgs false

abbrev DU := DataW Unit
structure Kind (K : Type) where
  t : TypeId
  val : K → Value
  lit : K → Lit
  wf : K → Prop
  z : K
structure KindOk {K : Type} (κ : Kind K) : Prop where
  plain : ∀ {k : K}, κ.wf k → plainElem (H := Unit) Try.prog κ.t (κ.val k) = some (.lit (κ.lit k), [])
  inv : ∀ {v : Value} {y : DU × List MemPlace}, plainElem Try.prog κ.t v = some y → ∃ k, κ.wf k ∧ v = κ.val k ∧ y = (.lit (κ.lit k), [])
  zero : ∀ w, (zeroValue κ.t).run Try.prog w = .ok (κ.val κ.z) w
  wfz : κ.wf κ.z
  inj : ∀ {a b : K}, κ.lit a = κ.lit b → a = b
  keyed : Keyed Try.prog κ.t
  key : ∀ {k : K}, κ.wf k → keyOf Try.prog κ.t (κ.val k) = some (κ.lit k)
  keyinv : ∀ {v : Value} {l : Lit}, keyOf Try.prog κ.t v = some l → ∃ k, κ.wf k ∧ v = κ.val k ∧ l = κ.lit k
  isKey : ∀ k : K, WideAt.IsKeyLit (κ.lit k)
/-- the datum reads as the function -/
structure Reads {K V : Type} (κ : Kind K) (ν : Kind V) (D : DU) (f : K → Option V) : Prop where
  tidy : Tidy D
  has : ∀ k, Maps.has D (κ.lit k) = (f k).isSome
  at_ : ∀ k, D.atKey (κ.lit k) (.lit (ν.lit ν.z)) = .lit (ν.lit ((f k).getD ν.z))
section
variable {K V : Type} [DecidableEq K] {κ : Kind K} {ν : Kind V}
theorem Reads.empty {K V : Type} {κ : Kind K} {ν : Kind V} : Reads κ ν (.map []) (fun _ => none) := ⟨tidy_empty, fun k => rfl, fun k => rfl⟩
theorem Reads.put {K V : Type} [DecidableEq K] {κ : Kind K} {ν : Kind V} (O : KindOk κ) {D : DU} {f : K → Option V} (h : Reads κ ν D f) (k : K) (v : V) : Reads κ ν (D.put (κ.lit k) (.lit (ν.lit v))) (updK f k v) := by
  refine ⟨h.tidy.put (O.isKey k) _, fun j => ?_, fun j => ?_⟩
  · by_cases hj : j = k
    · subst hj
      rw [has_put_same h.tidy.isMap (O.isKey j), updK_same]; rfl
    · rw [has_put_other (fun e => hj (O.inj e)), h.has j, updK_other hj]
  · by_cases hj : j = k
    · subst hj
      rw [atKey_put_same h.tidy.isMap (O.isKey j), updK_same]; rfl
    · rw [atKey_put_other (fun e => hj (O.inj e)), h.at_ j, updK_other hj]
theorem Reads.del {K V : Type} [DecidableEq K] {κ : Kind K} {ν : Kind V} (O : KindOk κ) {D : DU} {f : K → Option V} (h : Reads κ ν D f) (k : K) : Reads κ ν (D.del (κ.lit k)) (remK f k) := by
  refine ⟨h.tidy.del _, fun j => ?_, fun j => ?_⟩
  · by_cases hj : j = k
    · subst hj
      rw [has_del_same]; unfold remK; rw [if_pos rfl]; rfl
    · rw [has_del_other (fun e => hj (O.inj e)), h.has j]; unfold remK; rw [if_neg hj]
  · by_cases hj : j = k
    · subst hj
      rw [atKey_del_same]; unfold remK; rw [if_pos rfl]; rfl
    · rw [atKey_del_other (fun e => hj (O.inj e)), h.at_ j]; unfold remK; rw [if_neg hj]
end
theorem owns_tight {R : Value → Option (DU × List MemPlace)} {w : World} {k : TypeId} {b n : Nat} {D : DU} (h : w.ownsMap Try.prog k R b n D) : w.ownsMap Try.prog k R b (Maps.size D) D := by
  obtain ⟨es, clock, hb, F, hs, rfl⟩ := h
  refine ⟨es, clock, hb, F, ?_, rfl⟩
  simp [Maps.size, length_sorted]

/-- block b is a map of N entries that reads as f -/
def MapAt {K V : Type} (κ : Kind K) (ν : Kind V) (w : World) (b : Nat) (f : K → Option V) (N : Nat) : Prop :=
  ∃ D : DU, w.ownsMap Try.prog κ.t (plainElem Try.prog ν.t) b N D ∧ Reads κ ν D f ∧ Maps.size D = N ∧ ∀ k v, f k = some v → κ.wf k ∧ ν.wf v
section
variable {K V : Type} {κ : Kind K} {ν : Kind V} {w w' : World} {b N : Nat} {f : K → Option V}
theorem MapAt.lt {K V : Type} {κ : Kind K} {ν : Kind V} {w : World} {b N : Nat} {f : K → Option V} (h : MapAt κ ν w b f N) : b < w.heap.size := by
  obtain ⟨D, h1, _⟩ := h; exact h1.lt
theorem MapAt.same {K V : Type} {κ : Kind K} {ν : Kind V} {w w' : World} {b N : Nat} {f : K → Option V} (h : MapAt κ ν w b f N) (hb : w'.heap[b]? = w.heap[b]?) : MapAt κ ν w' b f N := by
  obtain ⟨D, ⟨es, clock, h1, h2⟩, h3⟩ := h
  exact ⟨D, ⟨es, clock, hb.trans h1, h2⟩, h3⟩
theorem MapAt.made {K V : Type} {κ : Kind K} {ν : Kind V} (w : World) : MapAt κ ν (w.alloc (.map #[] 0)) w.heap.size (fun _ => none) 0 := ⟨.map [], World.ownsMap_made _ _ _ _, Reads.empty, rfl, fun _ _ h => by cases h⟩
theorem MapAt.noCell {K V : Type} {κ : Kind K} {ν : Kind V} {w : World} {b N : Nat} {f : K → Option V} (h : MapAt κ ν w b f N) {a : Addr} {v : Value} (hc : w.cell? a = some v) : a.block ≠ b := by
  intro e
  obtain ⟨D, ⟨es, clock, h1, _⟩, _⟩ := h
  unfold World.cell? at hc
  rw [e, h1] at hc
  cases hc
theorem MapAt.wfs {K V : Type} {κ : Kind K} {ν : Kind V} {w : World} {b N : Nat} {f : K → Option V} (h : MapAt κ ν w b f N) {k : K} {v : V} (hk : f k = some v) : κ.wf k ∧ ν.wf v := by
  obtain ⟨D, _, _, _, h4⟩ := h; exact h4 k v hk
theorem MapAt.look {K V : Type} {κ : Kind K} {ν : Kind V} {w : World} {b N : Nat} {f : K → Option V} (O : KindOk κ) (O' : KindOk ν) (h : MapAt κ ν w b f N) {tm : TypeId} (ht : Try.prog.underlying tm = some (.map κ.t ν.t)) {k : K} (hk : κ.wf k) :
    (Instr.lookup tm (.map (some b)) (κ.val k) false).run Try.prog w = .ok (ν.val ((f k).getD ν.z)) w := by
  obtain ⟨D, h1, h2, h3, h4⟩ := h
  obtain ⟨v, ps, hrun, hv⟩ := h1.lookup O.keyed ht (O'.zero w) (O'.plain O'.wfz) (O.key hk)
  obtain ⟨c, _, rfl, hz⟩ := O'.inv hv
  have hx : D.atKey (κ.lit k) (.lit (ν.lit ν.z)) = .lit (ν.lit c) := congrArg Prod.fst hz
  rw [h2.at_ k] at hx
  have := O'.inj (DataW.lit.inj hx)
  rw [hrun, this]
theorem MapAt.look_ok {K V : Type} {κ : Kind K} {ν : Kind V} {w : World} {b N : Nat} {f : K → Option V} (O : KindOk κ) (O' : KindOk ν) (h : MapAt κ ν w b f N) {tm : TypeId} (ht : Try.prog.underlying tm = some (.map κ.t ν.t)) {k : K} (hk : κ.wf k) :
    (Instr.lookup tm (.map (some b)) (κ.val k) true).run Try.prog w = .ok (.tuple #[ν.val ((f k).getD ν.z), .bool (f k).isSome]) w := by
  obtain ⟨D, h1, h2, h3, h4⟩ := h
  obtain ⟨v, ps, hrun, hv⟩ := h1.look_ok O.keyed ht (O'.zero w) (O'.plain O'.wfz) (O.key hk)
  obtain ⟨c, _, rfl, hz⟩ := O'.inv hv
  have hx : D.atKey (κ.lit k) (.lit (ν.lit ν.z)) = .lit (ν.lit c) := congrArg Prod.fst hz
  rw [h2.at_ k] at hx
  have := O'.inj (DataW.lit.inj hx)
  rw [hrun, this, h2.has k]
theorem wf_upd {K V : Type} [DecidableEq K] {κ : Kind K} {ν : Kind V} {f : K → Option V} (h4 : ∀ k v, f k = some v → κ.wf k ∧ ν.wf v) {k : K} {v : V} (hk : κ.wf k) (hv : ν.wf v) : ∀ j u, updK f k v j = some u → κ.wf j ∧ ν.wf u := fun j u hj => by
  by_cases e : j = k
  · subst e; rw [updK_same] at hj; rw [← Option.some.inj hj]; exact ⟨hk, hv⟩
  · rw [updK_other e] at hj; exact h4 j u hj
theorem MapAt.store {K V : Type} [DecidableEq K] {κ : Kind K} {ν : Kind V} {w : World} {b N : Nat} {f : K → Option V} (O : KindOk κ) (O' : KindOk ν) (h : MapAt κ ν w b f N) {tm : TypeId} (ht : Try.prog.underlying tm = some (.map κ.t ν.t)) {k : K} (hk : κ.wf k) {v : V} (hv : ν.wf v) (hN : N < maxLen) :
    ∃ w1, (Instr.mapUpdate tm (.map (some b)) (κ.val k) (ν.val v)).run Try.prog w = .ok () w1 ∧ MapAt κ ν w1 b (updK f k v) (if (f k).isSome = true then N else N + 1) ∧ w.mapTurned w1 b := by
  obtain ⟨D, h1, h2, h3, h4⟩ := h
  obtain ⟨w1, r1, r2, r3⟩ := h1.store O.keyed ht hN (O.key hk) (O'.plain hv)
  have e : Maps.size (D.put (κ.lit k) (.lit (ν.lit v))) = if (f k).isSome = true then N else N + 1 := by rw [size_put h2.tidy, h2.has k, h3]
  refine ⟨w1, r1, ⟨_, ?_, h2.put O k v, e, wf_upd h4 hk hv⟩, r3⟩
  rw [← e]; exact owns_tight r2
theorem MapAt.drop {K V : Type} [DecidableEq K] {κ : Kind K} {ν : Kind V} {w : World} {b N : Nat} {f : K → Option V} (O : KindOk κ) (h : MapAt κ ν w b f N) {tm : TypeId} (ht : Try.prog.underlying tm = some (.map κ.t ν.t)) {k : K} (hk : κ.wf k) (ty : TypeId) :
    ∃ w1, (Builtin.delete_ #[tm, κ.t] ty #[.map (some b), κ.val k]).run Try.prog w = .ok (.tuple #[]) w1 ∧ MapAt κ ν w1 b (remK f k) (if (f k).isSome = true then N - 1 else N) ∧ w.mapTurned w1 b := by
  obtain ⟨D, h1, h2, h3, h4⟩ := h
  obtain ⟨w1, r1, r2, r3⟩ := h1.drop O.keyed ht (O.key hk) ty
  have e : Maps.size (D.del (κ.lit k)) = if (f k).isSome = true then N - 1 else N := by
    have := size_del (k := κ.lit k) h2.tidy
    rw [h2.has k, h3] at this
    split at this <;> split <;> simp_all <;> omega
  refine ⟨w1, r1, ⟨_, ?_, h2.del O k, e, fun j u hj => ?_⟩, r3⟩
  · rw [← e]; exact owns_tight r2
  · unfold remK at hj
    by_cases e : j = k
    · rw [if_pos e] at hj; cases hj
    · rw [if_neg e] at hj; exact h4 j u hj
theorem MapAt.len {K V : Type} {κ : Kind K} {ν : Kind V} {w : World} {b N : Nat} {f : K → Option V} (h : MapAt κ ν w b f N) {tm : TypeId} (ht : Try.prog.underlying tm = some (.map κ.t ν.t)) (ty : TypeId) :
    (Builtin.len_ #[tm] ty #[.map (some b)]).run Try.prog w = .ok (.int .i64 N) w := by
  obtain ⟨D, h1, h2, h3, h4⟩ := h
  rw [h1.len ht ty, h3]
open Go.WideElems Go.ChangeShapes Go.WideShapes Go.MapKept Go.ChangeMaps in
/-- an entry is made, then stored into: as one store does -/
theorem entry_store {P : Program} {w : World} {t k e : TypeId} {R : Value → Option (DU × List MemPlace)} {b : Nat} {es : Array MapEntry} {clock : Nat} (K : Keyed P k) (ht : P.underlying t = some (.map k e)) {z : Value} (hz : ∀ u : World, (zeroValue e).run P u = .ok z u) (hb : w.heap[b]? = some (.map es clock)) (F : Fit P k R es clock)
    {key : Value} {kl : Lit} (hkey : keyOf P k key = some kl) :
    ∃ (v0 : Value) (st : Nat) (es1 : Array MapEntry) (clock1 : Nat), (Instr.mapEntry t (.map (some b)) key).run P w = .ok (.tuple #[v0, goInt st]) (setBlock w b (.map es1 clock1)) ∧
      ∀ (w2 : World) (val : Value), w2.heap[b]? = some (.map es1 clock1) → ∃ es' clock', (Instr.entryStore t (.map (some b)) (goInt st) val).run P w2 = .ok () (setBlock w2 b (.map es' clock')) ∧
        (Instr.mapUpdate t (.map (some b)) key val).run P w = .ok () (setBlock w b (.map es' clock')) := by
  obtain ⟨s1, s2, _⟩ := F.stamped
  rcases K.find w hkey es.toList F.keys with ⟨h1, h2⟩ | ⟨j, e0, h1, h2, h3⟩
  · refine ⟨z, clock, es.push ⟨key, z, clock⟩, clock + 1, ?_, fun w2 val hw2 => ⟨es.push ⟨key, val, clock⟩, clock + 1, ?_, ?_⟩⟩
    · simp [Instr.mapEntry, run_underlying ht, MapKept.run_getObj_map hb, K.check w false hkey, h1, hz, MapKept.run_setObj_map _ hb, Result.andThen, setBlock]
    · have hidx : (es.push ⟨key, z, clock⟩).findIdx? (fun e => ((e.born : Nat) : Int) == ((clock : Nat) : Int)) = some es.size := by
        rw [findIdx_arr]
        have := findIdx_born (l := (es.push ⟨key, z, clock⟩).toList) (j := es.size) (e0 := ⟨key, z, clock⟩) (by
          simp only [Array.toList_push, List.map_append, List.map_cons, List.map_nil]
          refine List.nodup_append.2 ⟨s2, by simp, fun a ha c hc e1 => ?_⟩
          simp only [List.mem_singleton] at hc
          obtain ⟨x, hx, rfl⟩ := List.mem_map.1 ha
          have := s1 x hx
          omega) (by simp)
        exact this
      have hmod : (es.push ⟨key, z, clock⟩).modify es.size (fun e => { e with val := val }) = es.push ⟨key, val, clock⟩ := by
        apply Array.ext'
        rw [Array.toList_modify, Array.toList_push, Array.toList_push, ← Array.length_toList, modify_last]
      simp [Instr.entryStore, MapKept.run_getObj_map hw2, asInt, asIntOf, goInt, hidx, hmod, MapKept.run_setObj_map _ hw2, Result.andThen, setBlock]
    · simp [Instr.mapUpdate, run_underlying ht, MapKept.run_getObj_map hb, K.check w false hkey, h1, MapKept.run_setObj_map _ hb, Result.andThen, setBlock]
  · have hj : es[j]? = some e0 := by simpa using h2
    have hsame : es.modify j (fun e => { e with key := key }) = es := by
      apply Array.ext'
      rw [Array.toList_modify, modify_eq_set _ _ _ _ h2]
      have : ({ e0 with key := key } : MapEntry) = e0 := by rw [← h3]
      rw [this]
      exact set_self _ _ _ h2
    refine ⟨e0.val, e0.born, es, clock, ?_, fun w2 val hw2 => ⟨es.modify j (fun e' => { e' with key := key, val := val }), clock, ?_, ?_⟩⟩
    · simp [Instr.mapEntry, run_underlying ht, MapKept.run_getObj_map hb, K.check w false hkey, h1, hj, h3, K.stays w hkey, hsame, MapKept.run_setObj_map _ hb, Result.andThen, setBlock]
    · have hidx : es.findIdx? (fun e => ((e.born : Nat) : Int) == ((e0.born : Nat) : Int)) = some j := by
        rw [findIdx_arr]
        exact findIdx_born s2 h2
      have hmod : es.modify j (fun e => { e with val := val }) = es.modify j (fun e' => { e' with key := key, val := val }) := by
        apply Array.ext'
        rw [Array.toList_modify, Array.toList_modify, modify_eq_set _ _ _ _ h2, modify_eq_set _ _ _ _ h2, ← h3]
      simp [Instr.entryStore, MapKept.run_getObj_map hw2, asInt, asIntOf, goInt, hidx, hmod, MapKept.run_setObj_map _ hw2, Result.andThen, setBlock]
    · simp [Instr.mapUpdate, run_underlying ht, MapKept.run_getObj_map hb, K.check w false hkey, h1, hj, h3, K.stays w hkey, MapKept.run_setObj_map _ hb, Result.andThen, setBlock]
open Go.WideElems Go.ChangeShapes Go.WideShapes Go.MapKept Go.ChangeMaps in
/-- .. at such a map -/
theorem MapAt.entry {K V : Type} [DecidableEq K] {κ : Kind K} {ν : Kind V} {w : World} {b N : Nat} {f : K → Option V} (O : KindOk κ) (O' : KindOk ν) (h : MapAt κ ν w b f N) {tm : TypeId} (ht : Try.prog.underlying tm = some (.map κ.t ν.t)) {k : K} (hk : κ.wf k) {v : V} (hv : ν.wf v) (hN : N < maxLen) :
    ∃ (v0 : Value) (st : Nat) (w1 w2 : World), (Instr.mapEntry tm (.map (some b)) (κ.val k)).run Try.prog w = .ok (.tuple #[v0, goInt st]) w1 ∧ w.grownBy w1 (some b) ∧ (Instr.entryStore tm (.map (some b)) (goInt st) (ν.val v)).run Try.prog w1 = .ok () w2 ∧
      w1.grownBy w2 (some b) ∧ MapAt κ ν w2 b (updK f k v) (if (f k).isSome = true then N else N + 1) := by
  have h0 := h
  obtain ⟨D, ⟨es, clock, hb, F, hs, hD⟩, h2, h3, h4⟩ := h
  obtain ⟨v0, st, es1, clock1, r1, r2⟩ := entry_store (w := w) O.keyed ht O'.zero hb F (O.key hk)
  have hlt : b < w.heap.size := (Array.getElem?_eq_some_iff.1 hb).1
  have hb1 : (setBlock w b (.map es1 clock1)).heap[b]? = some (.map es1 clock1) := heap_setBlock_same hb _
  obtain ⟨es', clock', r3, r4⟩ := r2 (setBlock w b (.map es1 clock1)) (ν.val v) hb1
  obtain ⟨w3, q1, q2, q3⟩ := h0.store O O' ht hk hv hN
  rw [r4] at q1
  have e3 : setBlock w b (.map es' clock') = w3 := by injection q1
  have e4 : setBlock (setBlock w b (.map es1 clock1)) b (.map es' clock') = setBlock w b (.map es' clock') := by
    simp [setBlock]
  refine ⟨v0, st, _, _, r1, World.mapTurned.grown (w := w) ⟨es, clock, es1, clock1, hb, rfl⟩, r3, World.mapTurned.grown (w := setBlock w b (.map es1 clock1)) ⟨es1, clock1, es', clock', hb1, rfl⟩, ?_⟩
  rw [e4, e3]; exact q2
end
end Go.Proofs.Yteeapfmgdlcgfaa.A


namespace Go.Proofs.Yteeapfmgdlcgfaa.A
open Go.RowKit

/-- whatever lay, but for the blocks of X, lies as it lay -/
structure KeepsBut (X : Nat → Prop) (W W' : World) : Prop where
  os : W'.os = W.os
  tape : W'.tape = W.tape
  output : W'.output = W.output
  size : W.heap.size ≤ W'.heap.size
  block : ∀ k, k < W.heap.size → ¬ X k → W'.heap[k]? = W.heap[k]?
theorem KeepsBut.refl (X : Nat → Prop) (W : World) : KeepsBut X W W := ⟨rfl, rfl, rfl, Nat.le_refl _, fun _ _ _ => rfl⟩
theorem KeepsBut.trans {X : Nat → Prop} {A B C : World} (h : KeepsBut X A B) (k : KeepsBut X B C) : KeepsBut X A C :=
  ⟨k.os.trans h.os, k.tape.trans h.tape, k.output.trans h.output, Nat.le_trans h.size k.size, fun i hi hx => (k.block i (Nat.lt_of_lt_of_le hi h.size) hx).trans (h.block i hi hx)⟩
theorem KeepsBut.mono {X Y : Nat → Prop} {A B : World} (h : KeepsBut X A B) (hxy : ∀ k, X k → Y k) : KeepsBut Y A B := ⟨h.os, h.tape, h.output, h.size, fun k hk hn => h.block k hk (fun hx => hn (hxy k hx))⟩
theorem KeepsBut.alloc (X : Nat → Prop) (W : World) (o : Obj) : KeepsBut X W (W.alloc o) := ⟨rfl, rfl, rfl, by simp, fun k hk _ => Below.heap_alloc W o k hk⟩
theorem KeepsBut.putObj {X : Nat → Prop} (W : World) {l : Nat} (o : Obj) (hx : X l) : KeepsBut X W (W.putObj l o) := ⟨rfl, rfl, rfl, by simp, fun k hk hn => World.putObj_heap_other (fun e => hn (e ▸ hx))⟩
theorem KeepsBut.below {X : Nat → Prop} {W W' : World} {n : Nat} (h : KeepsBut X W W') (hn : n ≤ W.heap.size) (hx : ∀ k, k < n → ¬ X k) : Below n W W' := ⟨h.os, h.tape, h.output, h.size, fun k hk => h.block k (by omega) (hx k hk)⟩
theorem KeepsBut.cell {X : Nat → Prop} {W W' : World} (h : KeepsBut X W W') {p : Addr} {v : Value} (hc : W.cell? p = some v) (hx : ¬ X p.block) : W'.cell? p = some v := by
  have hb := h.block p.block (World.block_lt_of_cell? _ _ hc) hx
  unfold World.cell? at hc ⊢
  rw [hb]; exact hc
theorem KeepsBut.setCell {X : Nat → Prop} (W : World) (a : Addr) (v : Value) (hx : X a.block) : KeepsBut X W (W.setCell a v) :=
  ⟨rfl, rfl, rfl, by show W.heap.size ≤ (W.heap.modify _ _).size; rw [Array.size_modify]; exact Nat.le_refl _, fun k _ hn => Below.heap_setCell W a v k (fun e => hn (e ▸ hx))⟩

/-- J does not mind what happens in X, nor what is new -/
def AbX {β : Type} (X : Nat → Prop) (J : β → World → Prop) : Prop := ∀ s W W', J s W → KeepsBut X W W' → J s W'
/-- X, and the loop's own two blocks -/
def XX (X : Nat → Nat → Prop) (B : Nat) (k : Nat) : Prop := X (B + 2) k ∨ (B ≤ k ∧ k ≤ B + 1)
theorem AbX.alloc {β : Type} {X : Nat → Prop} {I : β → World → Prop} (h : AbX X I) {s : β} {W : World} (o : Obj) (hs : I s W) : I s (W.alloc o) := h s W _ hs (KeepsBut.alloc X W o)
theorem AbX.putObj {β : Type} {X : Nat → Nat → Prop} {B : Nat} {I : β → World → Prop} (h : AbX (XX X B) I) {s : β} {W : World} {l : Nat} (o : Obj) (hs : I s W) (hl : B ≤ l ∧ l ≤ B + 1) : I s (W.putObj l o) := h s W _ hs (KeepsBut.putObj W o (.inr hl))

variable {F : Fence} {n : Nat} {P : Program}

end Go.Proofs.Yteeapfmgdlcgfaa.A


namespace Go.Proofs.Yteeapfmgdlcgfaa.A
open Go.RowKit Go.Maps Go.Proofs.YteeapfmgdlcgfaaW.PrintWords Go.Proofs.YteeapfmgdlcgfaaW.PrintLast
set_option linter.unusedVariables false
set_option linter.unusedSimpArgs false

def κI : Kind Int := { t := 3, val := .int .i64, lit := .int .i64, wf := fun k => (Lit.int .i64 k).wf = true, z := 0 }
theorem κI_ok : KindOk κI where
  plain := fun h => plainElem_int Try.underlying3 h
  inv := fun h => by obtain ⟨a, h1, h2, h3⟩ := plainElem_int_inv Try.underlying3 h; exact ⟨a, h3, h1, h2⟩
  zero := fun w => by kernel_rfl
  wfz := by show (Lit.int .i64 0).wf = true; decide
  inj := fun h => by injection h
  keyed := int_keyed Try.underlying3
  key := fun h => keyOf_int_mk Try.underlying3 h
  keyinv := fun h => by obtain ⟨a, h1, h2, h3⟩ := Maps.keyOf_i64 Try.underlying3 h; exact ⟨a, h3, h1, h2⟩
  isKey := fun k => by simp [κI, WideAt.IsKeyLit]
/-- block p is such a set of classes -/
structure Uni {K : Type} (κ : Kind K) (w : World) (p bu bs nu N : Nat) (U : K → Option K) (Z : K → Option Int) : Prop where
  cu : w.cell? ⟨p, 0, none⟩ = some (.map (some bu))
  cs : w.cell? ⟨p, 1, none⟩ = some (.map (some bs))
  mu : MapAt κ κ w bu U nu
  ms : MapAt κ κI w bs Z N
  ne : bu ≠ bs
  F : Forest U Z
def UX (bu bs : Nat) (k : Nat) : Prop := k = bu ∨ k = bs
theorem Uni.pne {K : Type} {κ : Kind K} {w : World} {p bu bs nu N : Nat} {U : K → Option K} {Z : K → Option Int} (h : Uni κ w p bu bs nu N U Z) : p ≠ bu ∧ p ≠ bs := ⟨h.mu.noCell h.cu, h.ms.noCell h.cu⟩
theorem Uni.keep {K : Type} {κ : Kind K} {w w' : World} {p bu bs nu N : Nat} {U : K → Option K} {Z : K → Option Int} (h : Uni κ w p bu bs nu N U Z) {X : Nat → Prop} (hk : KeepsBut X w w') (hp : ¬ X p) (hu : ¬ X bu) (hs : ¬ X bs) : Uni κ w' p bu bs nu N U Z :=
  ⟨hk.cell h.cu hp, hk.cell h.cs hp, h.mu.same (hk.block _ h.mu.lt hu), h.ms.same (hk.block _ h.ms.lt hs), h.ne, h.F⟩
theorem keeps_grown {w w' : World} {b : Nat} (h : w.grownBy w' (some b)) {X : Nat → Prop} (hx : X b) : KeepsBut X w w' :=
  ⟨h.os, h.tape, h.output, h.size, fun k hk hn => h.block k hk (fun e => by injection e with e; exact hn (e ▸ hx))⟩
theorem keeps_grown0 {w w' : World} (h : w.grownBy w' none) (X : Nat → Prop) : KeepsBut X w w' :=
  ⟨h.os, h.tape, h.output, h.size, fun k hk hn => h.block k hk (fun e => by cases e)⟩
theorem keeps_below {w w' : World} (h : Below w.heap.size w w') (X : Nat → Prop) : KeepsBut X w w' :=
  ⟨h.os, h.tape, h.output, h.size, fun k hk _ => h.block k hk⟩

set_option maxRecDepth 100000 in
set_option maxHeartbeats 1000000 in
theorem new_calls (w : World) : Calls Try.prog 10 #[] w fun e w' => ∃ p bu bs, e = .returned (.pointer (some ⟨p, 0, none⟩)) ∧ w.heap.size ≤ p ∧ w.heap.size ≤ bu ∧ w.heap.size ≤ bs ∧ Uni κI w' p bu bs 0 0 (fun _ => none) (fun _ => none) ∧ Below w.heap.size w w' := by
  have hmm := @run_makeMap Try.prog
  go_enter Try.func10, Try.ntmps10
  go_wp2
  go_ret
  obtain ⟨w1, h1⟩ : ∃ w1, (w.alloc (Obj.map #[] 0)) = w1 := ⟨_, rfl⟩
  have hs1 : w1.heap.size = w.heap.size + 1 := by rw [← h1]; simp
  have m1 : MapAt κI κI w1 w.heap.size (fun _ => none) 0 := by rw [← h1]; exact MapAt.made w
  have m2 : MapAt κI κI (w1.alloc (Obj.map #[] 0)) w1.heap.size (fun _ => none) 0 := MapAt.made w1
  have hs2 : (w1.alloc (Obj.map #[] 0)).heap.size = w.heap.size + 2 := by simp [hs1]
  have hB : Below w.heap.size w w1 := by rw [← h1]; exact below_alloc (Below.refl _ _) _
  refine ⟨w.heap.size + 1 + 1, w.heap.size, w.heap.size + 1, rfl, by omega, by omega, by omega, ?_, ?_⟩
  · rw [h1]
    refine ⟨by simp [go_sem, hs1], by simp [go_sem, hs1], ?_, ?_, by omega, ⟨fun k j h => (nomatch h), fun k => ⟨fun h => (nomatch h), fun h => (nomatch h)⟩⟩⟩
    · refine m1.same ?_
      rw [Below.heap_alloc _ _ _ (by rw [hs2]; omega), Below.heap_alloc _ _ _ (by rw [hs1]; omega)]
    · rw [← hs1]
      exact m2.same (Below.heap_alloc _ _ _ (by rw [hs2]; omega))
  · rw [h1]
    exact below_alloc (below_alloc hB _) _
set_option maxRecDepth 100000 in
set_option maxHeartbeats 1000000 in
theorem has_calls {p bu bs nu N : Nat} {U Z : Int → Option Int} (w : World) (h : Uni κI w p bu bs nu N U Z) {k : Int} (hk : κI.wf k) :
    Calls Try.prog 37 #[.pointer (some ⟨p, 0, none⟩), .int .i64 k] w fun e w' => e = .returned (.bool (U k).isSome) ∧ w' = w := by
  have hc := h.cu
  have hl := h.mu.look_ok κI_ok κI_ok Try.underlying66 hk
  simp only [κI] at hl
  go_enter Try.func37, Try.ntmps37
  go_wp2
  go_ret
  exact ⟨rfl, rfl⟩
set_option maxRecDepth 100000 in
set_option maxHeartbeats 1000000 in
theorem len_calls {p bu bs nu N : Nat} {U Z : Int → Option Int} (w : World) (h : Uni κI w p bu bs nu N U Z) :
    Calls Try.prog 19 #[.pointer (some ⟨p, 0, none⟩)] w fun e w' => e = .returned (.int .i64 N) ∧ w' = w := by
  have hc := h.cs
  have hl := h.ms.len Try.underlying66 3
  go_enter Try.func19, Try.ntmps19
  go_wp2
  go_ret
  exact ⟨rfl, rfl⟩
/-- the same classes, paths made shorter -/
structure Halved {K : Type} (U V : K → Option K) : Prop where
  tos : ∀ d x r, To U d x r → ∃ e, To V e x r
  dom : ∀ x, (V x).isSome = (U x).isSome
theorem Halved.refl {K : Type} (U : K → Option K) : Halved U U := ⟨fun d x r h => ⟨d, h⟩, fun _ => rfl⟩
theorem Halved.trans {K : Type} {U V W : K → Option K} (h : Halved U V) (h' : Halved V W) : Halved U W :=
  ⟨fun d x r hx => by obtain ⟨e, he⟩ := h.tos d x r hx; exact h'.tos e x r he, fun x => (h'.dom x).trans (h.dom x)⟩
theorem Halved.eq2 {K : Type} {U V : K → Option K} (h : Halved U V) {Z : K → Option Int} (hF : Forest U Z) (x y : K) : Eq2 V x y ↔ Eq2 U x y := Eq2.of_same h.tos (fun x hx => by rwa [h.dom] at hx) hF x y

set_option maxRecDepth 100000 in
set_option maxHeartbeats 2000000 in
theorem root_calls {p bu bs nu N : Nat} {U Z : Int → Option Int} (w : World) (h : Uni κI w p bu bs nu N U Z) (hn : nu < maxLen) {k : Int} (hk : (U k).isSome = true) :
    Calls Try.prog 34 #[.pointer (some ⟨p, 0, none⟩), .int .i64 k] w fun e w' => ∃ (r : Int) (U' : Int → Option Int), e = .returned (.int .i64 r) ∧ (∃ d, To U d k r) ∧ Uni κI w' p bu bs nu N U' Z ∧ Halved U U' ∧ KeepsBut (UX bu bs) w w' := by
  obtain ⟨j0, hj0⟩ := Option.isSome_iff_exists.1 hk
  obtain ⟨d0, r, hr⟩ := h.F.up k j0 hj0
  have hmix : Try.prog.follows .mixedOrders = true := by kernel_rfl
  go_enter Try.func34, Try.ntmps34
  go_wp2
  go_loopg [1] d0 (fun kq v1 wr => ∃ (k' : Int) (U' : Int → Option Int) (d : Nat), v1 = .int .i64 k' ∧ d ≤ kq ∧ To U' d k' r ∧ Uni κI wr p bu bs nu N U' Z ∧ Halved U U' ∧ KeepsBut (UX bu bs) w wr)
  case atStart => exact ⟨k, U, d0, rfl, Nat.le_refl _, hr, h, Halved.refl _, KeepsBut.refl _ _⟩
  case round =>
    obtain ⟨k', U', d, rfl, hd, hto, hu, hh, hkp⟩ := hrel
    have hc := hu.cu
    obtain ⟨j, hj⟩ := hto.has
    have hwk := hu.mu.wfs hj
    have hl := hu.mu.look κI_ok κI_ok Try.underlying66 hwk.1
    rw [hj] at hl
    simp only [κI, Option.getD_some] at hl
    by_cases e : j = k'
    · subst e
      have ht : (j != j) = false := by simp
      have hr' : r = j := ((To.zero hj).det hto).2.symm
      subst hr'
      go_wp2
      go_ret
      exact ⟨r, U', rfl, ⟨d0, hr⟩, hu, hh, hkp⟩
    · have ht : (j != k') = true := by simpa using e
      have hto' := hto
      cases hto with
      | zero h1 => rw [hj] at h1; exact absurd (Option.some.inj h1) e
      | @step d1 _ j1 _ h1 h2 h3 =>
        rw [hj] at h1
        obtain rfl := Option.some.inj h1
        obtain ⟨m, hm⟩ := h3.has
        have hwm := hu.mu.wfs hm
        obtain ⟨hF', heq, hdom⟩ := hu.F.halve hj e hm
        have hstep : ∃ d2, d2 + 1 ≤ d1 + 1 ∧ To (updK U' k' m) d2 m r := by
          cases h3 with
          | zero h4 =>
            rw [hm] at h4
            obtain rfl := Option.some.inj h4
            exact ⟨0, by omega, .zero (by rw [updK_other e]; exact hm)⟩
          | @step d3 _ m1 _ h4 h5 h6 =>
            rw [hm] at h4
            obtain rfl := Option.some.inj h4
            obtain ⟨e2, he2, h7⟩ := To.halve hj e hm d3 d3 m r (Nat.le_refl _) h6
            exact ⟨e2, by omega, h7⟩
        obtain ⟨d2, hd2, hto2⟩ := hstep
        have hhv : Halved U' (updK U' k' m) := ⟨fun d x r hx => by obtain ⟨e2, _, h7⟩ := To.halve hj e hm d d x r (Nat.le_refl _) hx; exact ⟨e2, h7⟩, hdom⟩
        have hl2 := hu.mu.look κI_ok κI_ok Try.underlying66 hwk.2
        rw [hm] at hl2
        simp only [κI, Option.getD_some] at hl2
        have hmd : MapAt κI κI wr.drew bu U' nu := hu.mu.same rfl
        have hld := hmd.look κI_ok κI_ok Try.underlying66 hwk.1
        rw [hj] at hld
        simp only [κI, Option.getD_some] at hld
        have hl2d := hmd.look κI_ok κI_ok Try.underlying66 hwk.2
        rw [hm] at hl2d
        simp only [κI, Option.getD_some] at hl2d
        have hcd : wr.drew.cell? ⟨p, 0, none⟩ = some (.map (some bu)) := hc
        obtain ⟨w1, hs1, hs2, hs3⟩ := hmd.store κI_ok κI_ok Try.underlying66 hwk.1 hwm.2 hn
        rw [hj] at hs2
        simp only [Option.isSome_some, if_true] at hs2
        simp only [κI] at hs1
        have hk1 : KeepsBut (UX bu bs) wr w1 := (show KeepsBut (UX bu bs) wr wr.drew from ⟨rfl, rfl, rfl, Nat.le_refl _, fun _ _ _ => rfl⟩).trans (keeps_grown hs3.grown (.inl rfl))
        have hne := hu.pne
        have hc1 : w1.cell? ⟨p, 0, none⟩ = some (.map (some bu)) := hk1.cell hu.cu (fun h => h.elim hne.1 hne.2)
        have hu1 : Uni κI w1 p bu bs nu N (updK U' k' m) Z := ⟨hc1, hk1.cell hu.cs (fun h => h.elim hne.1 hne.2), hs2, hu.ms.same ((hs3.grown.block bs (show bs < wr.drew.heap.size from hu.ms.lt) (fun e => by injection e with e; exact hu.ne e.symm)).trans rfl), hu.ne, hF'⟩
        have hl3 := hs2.look κI_ok κI_ok Try.underlying66 hwk.1
        rw [updK_same] at hl3
        simp only [κI, Option.getD_some] at hl3
        have hfin : Aside0 (∃ (k'' : Int) (U'' : Int → Option Int) (d : Nat), Value.int .i64 m = .int .i64 k'' ∧ d ≤ d1 ∧ To U'' d k'' r ∧ Uni κI w1 p bu bs nu N U'' Z ∧ Halved U U'' ∧ KeepsBut (UX bu bs) w w1) :=
          ⟨⟨m, _, d2, rfl, by omega, hto2, hu1, hh.trans hhv, hkp.trans hk1⟩⟩
        clear hs2 hs3 hk1 hu1 hu hmd hF' heq hdom
        obtain ⟨gk', rfl⟩ : ∃ q, gk = q + 1 := ⟨gk - 1, by omega⟩
        go_wp2
        go_region_with (fail)
        all_goals
          go_wp2
          go_roundg gk'
          case measure => omega
          case rel =>
            obtain ⟨k'', U'', d, a1, a2, a3⟩ := hfin.out
            exact ⟨k'', U'', d, a1, by omega, a3⟩
end Go.Proofs.Yteeapfmgdlcgfaa.A


namespace Go.Proofs.Yteeapfmgdlcgfaa.A
open Go.RowKit Go.Maps Go.Proofs.YteeapfmgdlcgfaaW.PrintWords Go.Proofs.YteeapfmgdlcgfaaW.PrintLast
set_option linter.unusedVariables false
set_option linter.unusedSimpArgs false

set_option maxRecDepth 100000 in
set_option maxHeartbeats 2000000 in
theorem add_had {p bu bs nu N : Nat} {U Z : Int → Option Int} (w : World) (h : Uni κI w p bu bs nu N U Z) {k : Int} (hk : κI.wf k) (hu : (U k).isSome = true) :
    Calls Try.prog 22 #[.pointer (some ⟨p, 0, none⟩), .int .i64 k] w fun e w' => e = .returned (.bool false) ∧ w' = w := by
  have hc := h.cu
  have hl := h.mu.look_ok κI_ok κI_ok Try.underlying66 hk
  rw [hu] at hl
  simp only [κI] at hl
  go_enter Try.func22, Try.ntmps22
  go_wp2
  go_ret
  exact ⟨rfl, rfl⟩
set_option maxRecDepth 100000 in
set_option maxHeartbeats 2000000 in
theorem add_new {p bu bs nu N : Nat} {U Z : Int → Option Int} (w : World) (h : Uni κI w p bu bs nu N U Z) {k : Int} (hk : κI.wf k) (hu : U k = none) (hn : nu < maxLen) (hN : N < maxLen) :
    Calls Try.prog 22 #[.pointer (some ⟨p, 0, none⟩), .int .i64 k] w fun e w' => e = .returned (.bool true) ∧ Uni κI w' p bu bs (nu + 1) (N + 1) (updK U k k) (updK Z k 1) ∧ KeepsBut (UX bu bs) w w' := by
  have hmix : Try.prog.follows .mixedOrders = true := by kernel_rfl
  have hZ : Z k = none := by
    have := h.F.z k
    rw [hu] at this
    cases hz : Z k with
    | none => rfl
    | some v => rw [hz] at this; exact absurd (this.1 rfl) (by simp)
  have hc := h.cu
  have hcs := h.cs
  have hne := h.pne
  have hl := h.mu.look_ok κI_ok κI_ok Try.underlying66 hk
  rw [hu] at hl
  simp only [κI, Option.isSome_none] at hl
  have hmd : MapAt κI κI w.drew bu U nu := h.mu.same rfl
  obtain ⟨v0, st, w1, w2, r1, g1, r2, g2, hm2⟩ := hmd.entry κI_ok κI_ok Try.underlying66 hk hk hn
  rw [hu] at hm2
  have k0 : KeepsBut (UX bu bs) w w.drew := ⟨rfl, rfl, rfl, Nat.le_refl _, fun _ _ _ => rfl⟩
  have k1 := k0.trans (keeps_grown g1 (X := UX bu bs) (.inl rfl))
  have k2 := k1.trans (keeps_grown g2 (X := UX bu bs) (.inl rfl))
  have hsd : bs < w.drew.heap.size := h.ms.lt
  have hms2 : MapAt κI κI w2 bs Z N := h.ms.same ((g2.block bs (Nat.lt_of_lt_of_le hsd g1.size) (fun e => by injection e with e; exact h.ne e.symm)).trans (g1.block bs hsd (fun e => by injection e with e; exact h.ne e.symm)))
  obtain ⟨v0', st', w3, w4, r3, g3, r4, g4, hm4⟩ := hms2.entry κI_ok κI_ok Try.underlying66 hk (v := 1) (by show (Lit.int .i64 1).wf = true; decide) hN
  rw [hZ] at hm4
  have k3 := k2.trans (keeps_grown g3 (X := UX bu bs) (.inr rfl))
  have k4 := k3.trans (keeps_grown g4 (X := UX bu bs) (.inr rfl))
  have hnx : ¬ UX bu bs p := fun h => h.elim hne.1 hne.2
  have c0 := k0.cell hc hnx
  have c1 := k1.cell hc hnx
  have c2 := k2.cell hc hnx
  have c3 := k3.cell hc hnx
  have d0 := k0.cell hcs hnx
  have d1 := k1.cell hcs hnx
  have d2 := k2.cell hcs hnx
  have d3 := k3.cell hcs hnx
  have hu2 : bu < w2.heap.size := hm2.lt
  have hfin : Aside0 (Uni κI w4 p bu bs (nu + 1) (N + 1) (updK U k k) (updK Z k 1) ∧ KeepsBut (UX bu bs) w w4) := by
    refine ⟨⟨k4.cell hc hnx, k4.cell hcs hnx, ?_, hm4, h.ne, (h.F.add hu 1).1⟩, k4⟩
    exact hm2.same ((g4.block bu (Nat.lt_of_lt_of_le hu2 g3.size) (fun e => by injection e with e; exact h.ne e)).trans (g3.block bu hu2 (fun e => by injection e with e; exact h.ne e)))
  simp only [κI, goInt] at r1 r2 r3 r4
  clear hm2 hm4 hms2 k0 k1 k2 k3 k4 g1 g2 g3 g4 hmd hsd hu2
  go_enter Try.func22, Try.ntmps22
  go_wp2
  go_region_with (fail)
  all_goals
    go_wp2
    go_ret
    exact ⟨rfl, hfin.out⟩
end Go.Proofs.Yteeapfmgdlcgfaa.A


namespace Go.Proofs.Yteeapfmgdlcgfaa.A
open Go.RowKit Go.Maps Go.Proofs.YteeapfmgdlcgfaaW.PrintWords Go.Proofs.YteeapfmgdlcgfaaW.PrintLast
set_option linter.unusedVariables false
set_option linter.unusedSimpArgs false

def addE {K : Type} (E : K → K → Prop) (k : K) (x y : K) : Prop := E x y ∨ (x = k ∧ y = k)
def joinE {K : Type} (E : K → K → Prop) (a b x y : K) : Prop := E x y ∨ (E x a ∧ E y b) ∨ (E x b ∧ E y a)
/-- such a set of classes, by what is in one class -/
def UN {K : Type} (κ : Kind K) (w : World) (p bu bs nu N : Nat) (E : K → K → Prop) : Prop := ∃ U Z, Uni κ w p bu bs nu N U Z ∧ ∀ x y, Eq2 U x y ↔ E x y
theorem UN.keep {K : Type} {κ : Kind K} {w w' : World} {p bu bs nu N : Nat} {E : K → K → Prop} (h : UN κ w p bu bs nu N E) {X : Nat → Prop} (hk : KeepsBut X w w') (hp : ¬ X p) (hu : ¬ X bu) (hs : ¬ X bs) : UN κ w' p bu bs nu N E := by
  obtain ⟨U, Z, h1, h2⟩ := h
  exact ⟨U, Z, h1.keep hk hp hu hs, h2⟩
theorem UN.congr {K : Type} {κ : Kind K} {w : World} {p bu bs nu N : Nat} {E E' : K → K → Prop} (h : UN κ w p bu bs nu N E) (he : ∀ x y, E x y ↔ E' x y) : UN κ w p bu bs nu N E' := by
  obtain ⟨U, Z, h1, h2⟩ := h
  exact ⟨U, Z, h1, fun x y => (h2 x y).trans (he x y)⟩
theorem addE_had {K : Type} {U : K → Option K} {Z : K → Option Int} (hF : Forest U Z) {k : K} (hk : (U k).isSome = true) (x y : K) : Eq2 U x y ↔ addE (Eq2 U) k x y := by
  constructor
  · exact .inl
  · rintro (h | ⟨rfl, rfl⟩)
    · exact h
    · exact (Eq2.self_iff hF).2 hk

theorem add_calls {p bu bs nu N : Nat} {U Z : Int → Option Int} (w : World) (h : Uni κI w p bu bs nu N U Z) {k : Int} (hk : κI.wf k) (hn : nu < maxLen) (hN : N < maxLen) :
    Calls Try.prog 22 #[.pointer (some ⟨p, 0, none⟩), .int .i64 k] w fun e w' => ∃ (r : Bool) (U' Z' : Int → Option Int), e = .returned (.bool r) ∧ (r = true ↔ ¬ Eq2 U k k) ∧ Uni κI w' p bu bs (nu + r.toNat) (N + r.toNat) U' Z' ∧ (∀ x y, Eq2 U' x y ↔ addE (Eq2 U) k x y) ∧ KeepsBut (UX bu bs) w w' := by
  cases hu : U k with
  | none =>
    refine (add_new w h hk hu hn hN).mono ?_
    rintro e w' ⟨rfl, h1, h2⟩
    refine ⟨true, _, _, rfl, ?_, h1, (h.F.add hu 1).2, h2⟩
    rw [Eq2.self_iff h.F, hu]; simp
  | some j =>
    have hs : (U k).isSome = true := by rw [hu]; rfl
    refine (add_had w h hk hs).mono ?_
    rintro e w' ⟨rfl, rfl⟩
    refine ⟨false, U, Z, rfl, ?_, h, addE_had h.F hs, KeepsBut.refl _ _⟩
    rw [Eq2.self_iff h.F, hs]; simp

theorem link_world {p bu bs nu N : Nat} {U Z : Int → Option Int} (W : World) (h : Uni κI W p bu bs nu N U Z) (hn : nu < maxLen) (hN : N < maxLen) {a b : Int} (ha : U a = some a) (hb : U b = some b) (hab : a ≠ b) {va vb : Int} (hva : (Z a).getD 0 = va) (hvb : (Z b).getD 0 = vb) :
    ∃ (W1 W2 W3 : World), (Instr.lookup 66 (.map (some bs)) (.int .i64 a) false).run Try.prog W = .ok (.int .i64 va) W ∧ (Instr.lookup 66 (.map (some bs)) (.int .i64 b) false).run Try.prog W = .ok (.int .i64 vb) W ∧
      (Instr.mapUpdate 66 (.map (some bu)) (.int .i64 b) (.int .i64 a)).run Try.prog W = .ok () W1 ∧
      (Instr.lookup 66 (.map (some bs)) (.int .i64 a) false).run Try.prog W1.drew = .ok (.int .i64 va) W1.drew ∧ (Instr.lookup 66 (.map (some bs)) (.int .i64 b) false).run Try.prog W1.drew = .ok (.int .i64 vb) W1.drew ∧
      (Instr.mapUpdate 66 (.map (some bs)) (.int .i64 a) (.int .i64 (IntKind.i64.wrap (va + vb)))).run Try.prog W1.drew = .ok () W2 ∧
      (Builtin.delete_ #[66, 3] 0 #[.map (some bs), .int .i64 b]).run Try.prog W2 = .ok (.tuple #[]) W3 ∧
      W1.cell? ⟨p, 1, none⟩ = some (.map (some bs)) ∧ W1.drew.cell? ⟨p, 1, none⟩ = some (.map (some bs)) ∧ W2.cell? ⟨p, 1, none⟩ = some (.map (some bs)) ∧
      Uni κI W3 p bu bs nu (N - 1) (updK U b a) (remK (updK Z a (IntKind.i64.wrap (va + vb))) b) ∧ KeepsBut (UX bu bs) W W3 := by
  have hwa := (h.mu.wfs ha).1
  have hwb := (h.mu.wfs hb).1
  have hne := h.pne
  have hnx : ¬ UX bu bs p := fun h => h.elim hne.1 hne.2
  obtain ⟨W1, r1, m1, t1⟩ := h.mu.store κI_ok κI_ok Try.underlying66 hwb hwa hn
  rw [hb] at m1
  simp only [Option.isSome_some, if_true] at m1
  have k1 : KeepsBut (UX bu bs) W W1 := keeps_grown t1.grown (.inl rfl)
  have ms1 : MapAt κI κI W1 bs Z N := h.ms.same (t1.grown.block bs h.ms.lt (fun e => by injection e with e; exact h.ne e.symm))
  have ms1d : MapAt κI κI W1.drew bs Z N := ms1.same rfl
  have hZa : (Z a).isSome = true := (h.F.z a).2 ha
  have hZb : (Z b).isSome = true := (h.F.z b).2 hb
  have la := h.ms.look κI_ok κI_ok Try.underlying66 hwa
  have lb := h.ms.look κI_ok κI_ok Try.underlying66 hwb
  have la1 := ms1d.look κI_ok κI_ok Try.underlying66 hwa
  have lb1 := ms1d.look κI_ok κI_ok Try.underlying66 hwb
  obtain ⟨W2, r2, m2, t2⟩ := ms1d.store κI_ok κI_ok Try.underlying66 hwa (v := IntKind.i64.wrap ((Z a).getD κI.z + (Z b).getD κI.z)) (by show (Lit.int .i64 _).wf = true; rw [i64_w]; exact wrap64_wf _) hN
  rw [hZa] at m2
  simp only [if_true] at m2
  obtain ⟨W3, r3, m3, t3⟩ := m2.drop κI_ok Try.underlying66 hwb 0
  rw [show (updK Z a (IntKind.i64.wrap ((Z a).getD κI.z + (Z b).getD κI.z)) b).isSome = true by rw [updK_other (fun e => hab e.symm)]; exact hZb] at m3
  simp only [if_true] at m3
  have kd : KeepsBut (UX bu bs) W1 W1.drew := ⟨rfl, rfl, rfl, Nat.le_refl _, fun _ _ _ => rfl⟩
  have k2 := (k1.trans kd).trans (keeps_grown t2.grown (X := UX bu bs) (.inr rfl))
  have k3 := k2.trans (keeps_grown t3.grown (X := UX bu bs) (.inr rfl))
  have hb1 : bu < W1.drew.heap.size := m1.lt
  subst hva hvb
  refine ⟨W1, W2, W3, la, lb, r1, la1, lb1, r2, r3, k1.cell h.cs hnx, (k1.trans kd).cell h.cs hnx, k2.cell h.cs hnx, ⟨k3.cell h.cu hnx, k3.cell h.cs hnx, ?_, m3, h.ne, (h.F.link ha hb hab _).1⟩, k3⟩
  exact m1.same ((t3.grown.block bu (Nat.lt_of_lt_of_le hb1 t2.grown.size) (fun e => by injection e with e; exact h.ne e)).trans (t2.grown.block bu hb1 (fun e => by injection e with e; exact h.ne e)))
theorem Halved.root {K : Type} {U V : K → Option K} (h : Halved U V) {r : K} (hr : U r = some r) : V r = some r := by
  obtain ⟨e, he⟩ := h.tos 0 r r (.zero hr)
  exact he.root
set_option maxRecDepth 100000 in
set_option maxHeartbeats 4000000 in
theorem join_calls {p bu bs nu N : Nat} {U Z : Int → Option Int} (w : World) (h : Uni κI w p bu bs nu N U Z) {a b : Int} (ha : κI.wf a) (hb : κI.wf b) (hn : nu + 2 < maxLen) (hN : N + 2 < maxLen) :
    Calls Try.prog 12 #[.pointer (some ⟨p, 0, none⟩), .int .i64 a, .int .i64 b] w fun e w' => ∃ (ra rb r : Bool) (U' Z' : Int → Option Int), e = .returned (.bool r) ∧ (ra = true ↔ ¬ Eq2 U a a) ∧ (rb = true ↔ ¬ addE (Eq2 U) a b b) ∧ (r = true ↔ ¬ addE (addE (Eq2 U) a) b a b) ∧
      Uni κI w' p bu bs (nu + ra.toNat + rb.toNat) (N + ra.toNat + rb.toNat - r.toNat) U' Z' ∧ (∀ x y, Eq2 U' x y ↔ joinE (addE (addE (Eq2 U) a) b) a b x y) ∧ KeepsBut (UX bu bs) w w' := by
  have hmix : Try.prog.follows .mixedOrders = true := by kernel_rfl
  go_enter Try.func12, Try.ntmps12
  go_wp2_with fail
  refine (add_calls w h ha (by omega) (by omega)).mono ?_
  rintro e w1 ⟨ra, U1, Z1, rfl, hra, h1, he1, k1⟩
  have hra1 : ra.toNat ≤ 1 := by cases ra <;> simp
  go_wp2_with fail
  refine (add_calls w1 h1 hb (by omega) (by omega)).mono ?_
  rintro e w2 ⟨rb, U2, Z2, rfl, hrb, h2, he2, k2⟩
  have hrb1 : rb.toNat ≤ 1 := by cases rb <;> simp
  have hE : ∀ x y, Eq2 U2 x y ↔ addE (addE (Eq2 U) a) b x y := fun x y => by
    rw [he2]; unfold addE; rw [he1]; rfl
  have haa : (U2 a).isSome = true := (Eq2.self_iff h2.F).1 ((hE a a).2 (.inl (.inr ⟨rfl, rfl⟩)))
  have hbb : (U2 b).isSome = true := (Eq2.self_iff h2.F).1 ((hE b b).2 (.inr ⟨rfl, rfl⟩))
  go_wp2_with fail
  refine (root_calls w2 h2 (by omega) haa).mono ?_
  rintro e w3 ⟨r1, U3, rfl, ⟨d1, hto1⟩, h3, hv3, k3⟩
  go_wp2_with fail
  refine (root_calls w3 h3 (by omega) (by rw [hv3.dom]; exact hbb)).mono ?_
  rintro e w4 ⟨r2, U4, rfl, ⟨d2, hto2⟩, h4, hv4, k4⟩
  have hroot1 : U4 r1 = some r1 := hv4.root (hv3.root hto1.root)
  have hroot2 : U4 r2 = some r2 := hv4.root hto2.root
  have hv : Halved U2 U4 := hv3.trans hv4
  obtain ⟨e1, hto1'⟩ := hv.tos _ _ _ hto1
  obtain ⟨e2, hto2'⟩ := hv4.tos _ _ _ hto2
  have hE4 : ∀ x y, Eq2 U4 x y ↔ addE (addE (Eq2 U) a) b x y := fun x y => (hv.eq2 h2.F x y).trans (hE x y)
  have hab : addE (addE (Eq2 U) a) b a b ↔ r1 = r2 := (hE4 a b).symm.trans (Eq2.root_iff hto1' hto2')
  have kk : KeepsBut (UX bu bs) w w4 := ((k1.trans k2).trans k3).trans k4
  have hrb' : rb = true ↔ ¬ addE (Eq2 U) a b b := hrb.trans (not_congr (he1 b b))
  clear hto1 hto2 hE hrb k1 k2 k3 k4 h1 h2 h3 he1 he2 haa hbb hv3 hv4 hv
  by_cases e : r1 = r2
  · have hc : (r1 == r2) = true := beq_iff_eq.2 e
    have hx : addE (addE (Eq2 U) a) b a b := hab.2 e
    have hsym : ∀ x y, addE (addE (Eq2 U) a) b x y → addE (addE (Eq2 U) a) b y x := fun x y hxy => (hE4 _ _).1 ((hE4 _ _).2 hxy).symm
    have htr : ∀ x y z, addE (addE (Eq2 U) a) b x y → addE (addE (Eq2 U) a) b y z → addE (addE (Eq2 U) a) b x z := fun x y z h1 h2 => (hE4 _ _).1 (((hE4 _ _).2 h1).trans ((hE4 _ _).2 h2))
    go_wp2
    go_ret
    refine ⟨ra, rb, false, U4, Z2, rfl, hra, hrb', by simp [hx], h4, fun x y => ?_, kk⟩
    rw [hE4]
    constructor
    · exact .inl
    · rintro (g | ⟨g1, g2⟩ | ⟨g1, g2⟩)
      · exact g
      · exact htr _ _ _ (htr _ _ _ g1 hx) (hsym _ _ g2)
      · exact htr _ _ _ (htr _ _ _ g1 (hsym _ _ hx)) (hsym _ _ g2)
  · have hc : (r1 == r2) = false := beq_false_of_ne e
    have hx : ¬ addE (addE (Eq2 U) a) b a b := fun g => e (hab.1 g)
    have hxa : ∀ x, Eq2 U4 x r1 ↔ addE (addE (Eq2 U) a) b x a := fun x => by
      rw [← hE4]
      exact ⟨fun g => g.trans ⟨r1, 0, e1, .zero hroot1, hto1'⟩, fun g => g.trans ⟨r1, e1, 0, hto1', .zero hroot1⟩⟩
    have hxb : ∀ x, Eq2 U4 x r2 ↔ addE (addE (Eq2 U) a) b x b := fun x => by
      rw [← hE4]
      exact ⟨fun g => g.trans ⟨r2, 0, e2, .zero hroot2, hto2'⟩, fun g => g.trans ⟨r2, e2, 0, hto2', .zero hroot2⟩⟩
    have h4d : Uni κI w4.drew p bu bs (nu + ra.toNat + rb.toNat) (N + ra.toNat + rb.toNat) U4 Z2 := ⟨h4.cu, h4.cs, h4.mu.same rfl, h4.ms.same rfl, h4.ne, h4.F⟩
    have kd : KeepsBut (UX bu bs) w4 w4.drew := ⟨rfl, rfl, rfl, Nat.le_refl _, fun _ _ _ => rfl⟩
    obtain ⟨v1, hv1⟩ : ∃ v, (Z2 r1).getD 0 = v := ⟨_, rfl⟩
    obtain ⟨v2, hv2⟩ : ∃ v, (Z2 r2).getD 0 = v := ⟨_, rfl⟩
    have hcd : w4.drew.cell? ⟨p, 0, none⟩ = some (.map (some bu)) := h4d.cu
    have hcs : w4.drew.cell? ⟨p, 1, none⟩ = some (.map (some bs)) := h4d.cs
    by_cases hlt : v1 < v2
    · have hltb : decide (v1 < v2) = true := decide_eq_true hlt
      obtain ⟨W1, W2, W3, l2, l1, q1, l3, l4, q2, q3, c1, c2, c3, h5, k5⟩ := link_world w4.drew h4d (by omega) (by omega) hroot2 hroot1 (fun g => e g.symm) hv2 hv1
      have hfin : Aside0 (∃ (ra rb r : Bool) (U' Z' : Int → Option Int), Value.bool true = .bool r ∧ (ra = true ↔ ¬ Eq2 U a a) ∧ (rb = true ↔ ¬ addE (Eq2 U) a b b) ∧ (r = true ↔ ¬ addE (addE (Eq2 U) a) b a b) ∧
          Uni κI W3 p bu bs (nu + ra.toNat + rb.toNat) (N + ra.toNat + rb.toNat - r.toNat) U' Z' ∧ (∀ x y, Eq2 U' x y ↔ joinE (addE (addE (Eq2 U) a) b) a b x y) ∧ KeepsBut (UX bu bs) w W3) := by
        refine ⟨⟨ra, rb, true, _, _, rfl, hra, hrb', by simp [hx], h5, fun x y => ?_, (kk.trans kd).trans k5⟩⟩
        rw [(h4.F.link hroot2 hroot1 (fun g => e g.symm) 0).2, hE4, hxa, hxb, hxa, hxb]
        exact or_congr_right or_comm
      clear h5 k5 hra hrb' hxa hxb hE4 hab kk kd h4d hv1 hv2 hx hroot1 hroot2 hto1' hto2' h4 h
      go_wp2
      go_region_with (fail)
      all_goals
        go_wp2
        go_region_with (fail)
        all_goals
          go_wp2
          go_ret
          obtain ⟨ra, rb, r, U', Z', a1, a2⟩ := hfin.out
          exact ⟨ra, rb, r, U', Z', by rw [← a1]; rfl, a2⟩
    · have hltb : decide (v1 < v2) = false := decide_eq_false hlt
      obtain ⟨W1, W2, W3, l2, l1, q1, l3, l4, q2, q3, c1, c2, c3, h5, k5⟩ := link_world w4.drew h4d (by omega) (by omega) hroot1 hroot2 e hv1 hv2
      have hfin : Aside0 (∃ (ra rb r : Bool) (U' Z' : Int → Option Int), Value.bool true = .bool r ∧ (ra = true ↔ ¬ Eq2 U a a) ∧ (rb = true ↔ ¬ addE (Eq2 U) a b b) ∧ (r = true ↔ ¬ addE (addE (Eq2 U) a) b a b) ∧
          Uni κI W3 p bu bs (nu + ra.toNat + rb.toNat) (N + ra.toNat + rb.toNat - r.toNat) U' Z' ∧ (∀ x y, Eq2 U' x y ↔ joinE (addE (addE (Eq2 U) a) b) a b x y) ∧ KeepsBut (UX bu bs) w W3) := by
        refine ⟨⟨ra, rb, true, _, _, rfl, hra, hrb', by simp [hx], h5, fun x y => ?_, (kk.trans kd).trans k5⟩⟩
        rw [(h4.F.link hroot1 hroot2 e 0).2, hE4, hxa, hxb, hxa, hxb]
        exact Iff.rfl
      clear h5 k5 hra hrb' hxa hxb hE4 hab kk kd h4d hv1 hv2 hx hroot1 hroot2 hto1' hto2' h4 h
      go_wp2
      go_region_with (fail)
      all_goals
        go_wp2
        go_region_with (fail)
        all_goals
          go_wp2
          go_ret
          obtain ⟨ra, rb, r, U', Z', a1, a2⟩ := hfin.out
          exact ⟨ra, rb, r, U', Z', by rw [← a1]; rfl, a2⟩
end Go.Proofs.Yteeapfmgdlcgfaa.A


namespace Go.Proofs
open Go.Shelf
def Try.keys38_ren : Go.Shelf.Ren := ⟨fun | 7 => 38 | 10 => 64 | n => n, fun | 23 => 66 | 26 => 3 | 3 => 3 | 28 => 78 | 0 => 0 | 27 => 77 | 33 => 43 | 4 => 4 | n => n, fun | n => n⟩
theorem Try.keys38 : Go.Proofs.SlLaysZI.n7 Try.prog Try.keys38_ren := {
  mixed := by kernel_rfl
  f7 := ⟨Try.f38.name, by decide, Try.func38.trans (congrArg some (by kernel_rfl))⟩
  f10 := ⟨Try.f64.name, by decide, Try.func64.trans (congrArg some (by kernel_rfl))⟩
  t0 := Try.underlying0
  a0 := Try.isAgg0
  z0 := Try.sizeOf0
  v0 := Try.zeroValue0
  t4 := Try.underlying4
  a4 := Try.isAgg4
  z4 := Try.sizeOf4
  v4 := Try.zeroValue4
  t23 := Try.underlying66
  a23 := Try.isAgg66
  z23 := Try.sizeOf66
  v23 := Try.zeroValue66
  t26 := Try.underlying3
  a26 := Try.isAgg3
  z26 := Try.sizeOf3
  v26 := Try.zeroValue3
  t27 := Try.underlying77
  a27 := Try.isAgg77
  z27 := Try.sizeOf77
  v27 := Try.zeroValue77
  t28 := Try.underlying78
  a28 := Try.isAgg78
  z28 := Try.sizeOf78
  v28 := Try.zeroValue78
  t33 := Try.underlying43
  a33 := Try.isAgg43
  z33 := Try.sizeOf43
  v33 := Try.zeroValue43 }
def Try.sort40_ren : Go.Shelf.Ren := ⟨fun | 5 => 40 | 8 => 67 | 7 => 66 | 19 => 91 | 20 => 92 | 10 => 82 | 11 => 83 | 12 => 84 | 13 => 85 | 14 => 86 | 15 => 87 | 16 => 88 | 17 => 89 | 18 => 90 | 30 => 111 | 31 => 112 | 32 => 113 | 33 => 114 | 34 => 115 | 35 => 116 | 40 => 124 | n => n, fun | 23 => 36 | 25 => 3 | 3 => 3 | 32 => 111 | 22 => 36 | 0 => 0 | 44 => 136 | 46 => 138 | 4 => 4 | 36 => 130 | 35 => 129 | 41 => 32 | 5 => 5 | 9 => 9 | 53 => 148 | 57 => 152 | 63 => 158 | 64 => 159 | n => n, fun | n => n⟩
theorem Try.sort40 : Go.Proofs.SlLaysM.n5 Try.prog Try.sort40_ren := {
  mixed := by kernel_rfl
  f5 := ⟨Try.f40.name, by decide, Try.func40.trans (congrArg some (by kernel_rfl))⟩
  f7 := ⟨Try.f66.name, by decide, Try.func66.trans (congrArg some (by kernel_rfl))⟩
  f8 := Try.func67.trans (congrArg some (by kernel_rfl))
  f10 := ⟨Try.f82.name, by decide, Try.func82.trans (congrArg some (by kernel_rfl))⟩
  f11 := ⟨Try.f83.name, by decide, Try.func83.trans (congrArg some (by kernel_rfl))⟩
  f12 := ⟨Try.f84.name, by decide, Try.func84.trans (congrArg some (by kernel_rfl))⟩
  f13 := ⟨Try.f85.name, by decide, Try.func85.trans (congrArg some (by kernel_rfl))⟩
  f14 := ⟨Try.f86.name, by decide, Try.func86.trans (congrArg some (by kernel_rfl))⟩
  f15 := ⟨Try.f87.name, by decide, Try.func87.trans (congrArg some (by kernel_rfl))⟩
  f16 := ⟨Try.f88.name, by decide, Try.func88.trans (congrArg some (by kernel_rfl))⟩
  f17 := ⟨Try.f89.name, by decide, Try.func89.trans (congrArg some (by kernel_rfl))⟩
  f18 := ⟨Try.f90.name, by decide, Try.func90.trans (congrArg some (by kernel_rfl))⟩
  f19 := Try.func91.trans (congrArg some (by kernel_rfl))
  f20 := Try.func92.trans (congrArg some (by kernel_rfl))
  f30 := ⟨Try.f111.name, by decide, Try.func111.trans (congrArg some (by kernel_rfl))⟩
  f31 := Try.func112.trans (congrArg some (by kernel_rfl))
  f32 := Try.func113.trans (congrArg some (by kernel_rfl))
  f33 := ⟨Try.f114.name, by decide, Try.func114.trans (congrArg some (by kernel_rfl))⟩
  f34 := ⟨Try.f115.name, by decide, Try.func115.trans (congrArg some (by kernel_rfl))⟩
  f35 := ⟨Try.f116.name, by decide, Try.func116.trans (congrArg some (by kernel_rfl))⟩
  f40 := ⟨Try.f124.name, by decide, Try.func124.trans (congrArg some (by kernel_rfl))⟩
  t0 := Try.underlying0
  a0 := Try.isAgg0
  z0 := Try.sizeOf0
  v0 := Try.zeroValue0
  t3 := Try.underlying3
  a3 := Try.isAgg3
  z3 := Try.sizeOf3
  v3 := Try.zeroValue3
  t4 := Try.underlying4
  a4 := Try.isAgg4
  z4 := Try.sizeOf4
  v4 := Try.zeroValue4
  t5 := Try.underlying5
  a5 := Try.isAgg5
  z5 := Try.sizeOf5
  v5 := Try.zeroValue5
  t9 := Try.underlying9
  a9 := Try.isAgg9
  z9 := Try.sizeOf9
  v9 := Try.zeroValue9
  t22 := Try.underlying36
  a22 := Try.isAgg36
  z22 := Try.sizeOf36
  v22 := Try.zeroValue36
  t23 := Try.underlying36
  a23 := Try.isAgg36
  z23 := Try.sizeOf36
  v23 := Try.zeroValue36
  t25 := Try.underlying3
  a25 := Try.isAgg3
  z25 := Try.sizeOf3
  v25 := Try.zeroValue3
  t32 := Try.underlying111
  a32 := Try.isAgg111
  z32 := Try.sizeOf111
  v32 := Try.zeroValue111
  t35 := Try.underlying129
  a35 := Try.isAgg129
  z35 := Try.sizeOf129
  v35 := Try.zeroValue129
  t36 := Try.underlying130
  a36 := Try.isAgg130
  z36 := Try.sizeOf130
  v36 := Try.zeroValue130
  t41 := Try.underlying32
  a41 := Try.isAgg32
  z41 := Try.sizeOf32
  v41 := Try.zeroValue32
  t44 := Try.underlying136
  a44 := Try.isAgg136
  z44 := Try.sizeOf136
  v44 := Try.zeroValue136
  t46 := Try.underlying138
  a46 := Try.isAgg138
  z46 := Try.sizeOf138
  v46 := Try.zeroValue138
  t53 := Try.underlying148
  a53 := Try.isAgg148
  z53 := Try.sizeOf148
  v53 := Try.zeroValue148
  t57 := Try.underlying152
  a57 := Try.isAgg152
  z57 := Try.sizeOf152
  v57 := Try.zeroValue152
  t63 := Try.underlying158
  a63 := Try.isAgg158
  z63 := Try.sizeOf158
  v63 := Try.zeroValue158
  t64 := Try.underlying159
  a64 := Try.isAgg159
  z64 := Try.sizeOf159
  v64 := Try.zeroValue159 }
def Try.clone39_ren : Go.Shelf.Ren := ⟨fun | 5 => 39 | 7 => 65 | n => n, fun | 23 => 66 | 25 => 3 | 3 => 3 | 4 => 4 | 20 => 20 | n => n, fun | n => n⟩
theorem Try.clone39 : Go.Proofs.SlLaysW.n5 Try.prog Try.clone39_ren := {
  mixed := by kernel_rfl
  f5 := ⟨Try.f39.name, by decide, Try.func39.trans (congrArg some (by kernel_rfl))⟩
  f7 := Try.func65.trans (congrArg some (by kernel_rfl))
  t4 := Try.underlying4
  a4 := Try.isAgg4
  z4 := Try.sizeOf4
  v4 := Try.zeroValue4
  t20 := Try.underlying20
  a20 := Try.isAgg20
  z20 := Try.sizeOf20
  v20 := Try.zeroValue20
  t23 := Try.underlying66
  a23 := Try.isAgg66
  z23 := Try.sizeOf66
  v23 := Try.zeroValue66 }
end Go.Proofs


namespace Go.Proofs.Yteeapfmgdlcgfaa.A
open Go.RowKit Go.Maps Go.Sort Go.Shelf Go.Proofs.YteeapfmgdlcgfaaW.PrintWords Go.Proofs.YteeapfmgdlcgfaaW.PrintLast
set_option linter.unusedVariables false
set_option linter.unusedSimpArgs false

/-- the map b, and what was laid from B0 on, goes on as it was ranged over -/
def KpB (b B0 : Nat) (W W' : World) : Prop := W.heap.size ≤ W'.heap.size ∧ ∀ (k : Nat) (o : Obj), (k = b ∨ B0 ≤ k) → W.heap[k]? = some o → o.isWalk = true → W'.heap[k]? = some o
theorem KpB.trans {b B0 : Nat} {A B C : World} (h : KpB b B0 A B) (k : KpB b B0 B C) : KpB b B0 A C := ⟨Nat.le_trans h.1 k.1, fun i o hi ho hw => k.2 i o hi (h.2 i o hi ho hw) hw⟩
theorem KpB.putObj {b B0 : Nat} (W : World) (l : Nat) (o o' : Obj) (h : W.heap[l]? = some o) (hw : o.isWalk = false) : KpB b B0 W (W.putObj l o') :=
  ⟨by simp, fun k ob _ hk hob => by
    by_cases e : k = l
    · subst e; rw [h] at hk; have := Option.some.inj hk; subst this; rw [hw] at hob; cases hob
    · rw [World.putObj_heap_other e]; exact hk⟩
theorem KpB.of_keeps {b B0 : Nat} {X : Nat → Prop} {W W' : World} (h : KeepsBut X W W') (hb : ¬ X b) (hB : ∀ k, B0 ≤ k → ¬ X k) : KpB b B0 W W' :=
  ⟨h.size, fun k o hk ho _ => by
    rw [h.block k (Array.getElem?_eq_some_iff.1 ho).1 (by rcases hk with rfl | hk; exact hb; exact hB k hk)]; exact ho⟩
theorem ranges_kpB {P : Program} {k : TypeId} {R : Value → Option (DU × List MemPlace)} {w w' : World} {b r n B0 : Nat} {D : DU} {left : Lit → Bool} {cnt : Nat} (h : w.ranges P k R b r n D left cnt) (hr : B0 ≤ r) (hk : KpB b B0 w w') : w'.ranges P k R b r n D left cnt := by
  obtain ⟨es, clock, since, seen, c0, hb, F, hs, hD, hr', rest⟩ := h
  exact ⟨es, clock, since, seen, c0, hk.2 b _ (.inl rfl) hb rfl, F, hs, hD, hk.2 r _ (.inr hr) hr' rfl, rest⟩

variable {P : Program} {ρ : Ren}
set_option maxRecDepth 100000 in
set_option maxHeartbeats 1000000 in
theorem keys1B_in {P : Program} {ρ : Ren} (L : SlLaysZI.n10 P ρ) (F : Fence) (n : Nat) (h10 : F.fn (ρ.f 10)) (hro : F.round = none) (hn : 1 ≤ n) (l Bm b nn B0 : Nat) (D0 : DU) {R : Value → Option (DU × List MemPlace)} (J Jx : List Int → World → Prop)
    (hY : ∀ pre x W, J pre W → pre.length < Maps.size D0 → has D0 (.int .i64 x) = true → YieldAt F (n - 1) P l #[encZ x] W fun e W' =>
      (e = .returned (.bool true) ∧ J (pre ++ [x]) W' ∧ KpB b B0 W W') ∨ (e = .returned (.bool false) ∧ Jx (pre ++ [x]) W'))
    (W : World) (hB0 : B0 ≤ W.heap.size) (hJ : AbidesFrom W.heap.size J) (hm : W.cell? ⟨Bm, 0, none⟩ = some (.map (some b))) (hown : W.ownsMap P (ρ.t 26) R b nn D0) (h0 : J [] W) :
    CallsIn F n P (ρ.f 10) #[.func (.yield l) #[] #[], .pointer (some ⟨Bm, 0, none⟩)] W fun e W' => (∃ v, e = .returned v) ∧
      ((∃ ss : List Int, (ss.Perm (intKeys D0) ∧ ∀ x, x ∈ ss ↔ has D0 (.int .i64 x) = true) ∧ J ss W') ∨ (∃ pre : List Int, (pre.Nodup ∧ ∀ x ∈ pre, has D0 (.int .i64 x) = true) ∧ Jx pre W')) := by
  have mixed := L.mixed; have t0 := L.t0; have a0 := L.a0; have z0 := L.z0; have v0 := L.v0; have t4 := L.t4; have a4 := L.a4; have z4 := L.z4; have v4 := L.v4; have t23 := L.t23; have a23 := L.a23; have z23 := L.z23; have v23 := L.v23; have t26 := L.t26; have a26 := L.a26; have z26 := L.z26; have v26 := L.v26; have t33 := L.t33; have a33 := L.a33; have z33 := L.z33; have v33 := L.v33
  have u0 := run_underlying L.t0; have u4 := run_underlying L.t4; have u23 := run_underlying L.t23; have u26 := run_underlying L.t26; have u33 := run_underlying L.t33
  obtain ⟨_, _, FG⟩ := L.f10
  refine callsIn_of_wp FG rfl h10 ?_ hro
  simp only [SlBodyZ.n10_ntmps ρ, List.size_toArray, List.length_cons, List.length_nil, Nat.reduceAdd, Nat.reduceSub, Array.replicate_succ, Array.replicate_zero, List.push_toArray, List.append_toArray, List.nil_append, List.cons_append]
  gi_wp2_with (first
    | (gi_at_range; refine wpListIn_range_own _ rfl _ (ρ.t 23) rfl (ρ.t 26) (ρ.t 3) (int_keyed L.t26) L.t23 _ b nn _ rfl hown ?_; intro w0 hrg0 hg0 hs0)
    | gi_in)
  go_frame
  gi_loopw [3] (fun _ wr => ∃ (left : Lit → Bool) (cnt : Nat) (ss : List Int), wr.ranges P (ρ.t 26) R b W.heap.size nn D0 left cnt ∧ ss.length + cnt ≤ Maps.size D0 ∧ CollectedI D0 left ss ∧ J ss wr)
    (fun _ wr => wr.rangeLeft b W.heap.size)
  case atStart =>
    exact ⟨_, _, [], hrg0, by simp, CollectedI.start D0, hJ [] W w0 none h0 hg0 (fun r e => by cases e)⟩
  case round =>
    obtain ⟨left, cnt, ss, hrg, hcs, hC, hJs⟩ := hrel
    gi_wp2_with (first
      | (gi_at_next; refine wpListIn_next_ranges _ rfl _ rfl (ρ.t 26) (int_keyed L.t26) R encZ id (fun key kl hk => by obtain ⟨x, hx, _⟩ := Maps.keyOf_i64 L.t26 hk; exact ⟨x, hx⟩) (fun v _ _ => ⟨v, rfl⟩) b W.heap.size nn _ _ _ rfl hrg ?_ ?_)
      | gi_in)
    · intro hc0 hl0
      gi_wp2
      go_end0
      exact ⟨⟨_, rfl⟩, .inl ⟨ss, ⟨hC.perm hown (int_keyed L.t26) L.t26 hl0, fun x => by rw [hC.2 x, hl0]; simp⟩, hJs⟩⟩
    · intro x c kl yd yp w2 cnt2 hkey hlk hv hat hrg2 hlt hg2 hs2 hen
      obtain ⟨x', ex, rfl, _⟩ := Maps.keyOf_i64 L.t26 hkey
      obtain rfl : x = x' := encZ_inj ex
      have hJ2 : J ss w2 := hJ ss wr w2 (some W.heap.size) hJs hg2 (fun r e => by cases e; exact ⟨Nat.le_refl _, hrg.iter_walk⟩)
      have hC2 := hC.step hlk hat
      have hhas : has D0 (.int .i64 x) = true := ((hC2.2 x).1 (by simp)).1
      obtain ⟨fn, tmps, assign, body, hy, hR⟩ := hY ss x w2 hJ2 (by omega) hhas
      clear hs2
      gi_wp2
      refine hR.mono ?_
      rintro e W3 (⟨rfl, hJ3, hk3⟩ | ⟨rfl, hJx3⟩)
      · gi_wp2
        have hrg3 := ranges_kpB hrg2 hB0 hk3
        go_roundw
        case rel => exact ⟨_, cnt2, ss ++ [x], hrg3, by simp; omega, hC2, hJ3⟩
        case measure => rw [hrg3.left_eq, hrg.left_eq]; exact hlt
      · gi_wp2
        refine bodyPost_ret (results_none rfl _ _ _) rfl ?_
        exact ⟨⟨_, rfl⟩, .inr ⟨ss ++ [x], ⟨hC2.1, fun y hy => ((hC2.2 y).1 hy).1⟩, hJx3⟩⟩

/-- the keys of a datum -/
abbrev KeyI (D0 : DU) := { x : Int // has D0 (.int .i64 x) = true }
theorem keys38_calls (mb : Option Nat) (W : World) : Calls Try.prog 38 #[.map mb] W fun e w' => e = .returned (.func (.func 64) #[] #[.pointer (some ⟨W.heap.size, 0, none⟩)]) ∧ w' = W.alloc (.cells #[.map mb] 66) :=
  (callsIn_wide (n := 5)).1 (AnyZI.keys_in Try.keys38 Fence.wide 5 trivial rfl mb W)
theorem keys64_stops (F : Fence) (n : Nat) (h10 : F.fn 64) (hro : F.round = none) (hn : 1 ≤ n) (Bm b nn B0 : Nat) (D0 : DU) {R : Value → Option (DU × List MemPlace)} (w : World) (hB0 : B0 ≤ w.heap.size) (hBm : Bm < w.heap.size)
    (hm : w.cell? ⟨Bm, 0, none⟩ = some (.map (some b))) (hown : w.ownsMap Try.prog 3 R b nn D0) :
    SeqStopsK F n Try.prog 64 #[.pointer (some ⟨Bm, 0, none⟩)] (fun x : KeyI D0 => #[Value.int .i64 x.1]) (KpB b B0) (fun ss => (ss.map (·.1)).Nodup ∧ ∀ x, has D0 (.int .i64 x) = true → x ∈ ss.map (·.1)) (fun _ => True) (Maps.size D0) w := by
  intro l J Jx W hW hJ hJx hY h0
  have hown' : W.ownsMap Try.prog 3 R b nn D0 := by
    have hbl := hown.lt
    obtain ⟨es, clock, hb, Ft, hs, hD⟩ := hown
    exact ⟨es, clock, (hW.block b hbl).trans hb, Ft, hs, hD⟩
  have H := keys1B_in (ρ := Try.keys38_ren) { Try.keys38 with } F n h10 hro hn l Bm b nn B0 D0 (fun ss W => ∃ pre : List (KeyI D0), pre.map (·.1) = ss ∧ J pre W) (fun ss W => ∃ pre : List (KeyI D0), pre.map (·.1) = ss ∧ Jx pre W)
    (fun ss x W1 hs hl hx => by
      obtain ⟨pre, rfl, hs⟩ := hs
      obtain ⟨fn, tmps, assign, body, hy, hR⟩ := hY pre ⟨x, hx⟩ W1 hs (by simpa using hl)
      refine ⟨fn, tmps, assign, body, hy, hR.mono ?_⟩
      rintro e W' (⟨rfl, h1, h2⟩ | ⟨rfl, h1⟩)
      · exact .inl ⟨rfl, ⟨_, by simp, h1⟩, h2⟩
      · exact .inr ⟨rfl, _, by simp, h1⟩)
    W (Nat.le_trans hB0 hW.size) (fun s A B row hs hg hr => by obtain ⟨pre, e, hs⟩ := hs; exact ⟨pre, e, hJ pre A B row hs hg hr⟩) ((hW.cell (p := ⟨Bm, 0, none⟩) hBm).trans hm) hown' ⟨[], rfl, h0⟩
  refine H.mono ?_
  rintro e W' ⟨hv, (⟨ss, ⟨hp, hmem⟩, pre, rfl, hJ'⟩ | ⟨ss, hp, pre, rfl, hJ'⟩)⟩
  · refine ⟨hv, .inl ⟨pre, ⟨?_, fun x hx => (hmem x).2 hx⟩, hJ'⟩⟩
    refine hp.nodup_iff.2 ?_
    obtain ⟨es, hD, hpw, _⟩ := hown.entries (int_keyed Try.underlying3)
    obtain ⟨es', hD', hko⟩ := hown.keysOf
    obtain rfl : es = es' := by rw [hD] at hD'; simpa using hD'
    subst hD
    have hk : ∀ p ∈ es, ∃ x, p.1 = Lit.int .i64 x := fun p hp => by
      obtain ⟨v, hv⟩ := hko p hp
      obtain ⟨x, _, hx, _⟩ := Maps.keyOf_i64 Try.underlying3 hv
      exact ⟨x, hx⟩
    show (es.map fun p => Go.intOf p.1).Nodup
    refine List.pairwise_map.2 (hpw.imp_of_mem fun {p q} hp' hq' hne e => hne ?_)
    obtain ⟨a, ha⟩ := hk p hp'
    obtain ⟨b, hb⟩ := hk q hq'
    rw [ha, hb] at e ⊢
    exact congrArg _ e
  · exact ⟨hv, .inr ⟨pre, trivial, hJ'⟩⟩

/-- slices.Sort of a row that a call owns -/
theorem sort_own (base : Nat) (v : Value) (ss : List Int) (w : World) (hrow : w.ownsRow base 3 1 v ss.length (ss.map encZ)) (hl : ss.length ≤ 1000000) :
    Calls Try.prog 40 #[v] w fun e w' => e = .returned (.tuple #[]) ∧ w'.ownsRow base 3 1 v ss.length ((ss.mergeSort fun x y => decide (x ≤ y)).map encZ) ∧ w.grownBy w' v.ownBlock := by
  rcases hrow.2 with ⟨rfl, hz⟩ | ⟨gb, cap, cur, rfl, hbase, hgb, r1, r2, r3, r4⟩
  · have hss : ss = [] := List.eq_nil_of_length_eq_zero hz
    subst hss
    refine (AnyM.slices_Sort_int_none Try.sort40 none 0 w).mono ?_
    rintro e w' ⟨rfl, rfl⟩
    exact ⟨rfl, by simpa using hrow, ⟨rfl, rfl, rfl, Nat.le_refl _, fun _ _ _ => rfl⟩⟩
  · have hH : Holds encZ w gb 0 ss.toArray := holds_of_block_i hgb (by simpa using r4)
    have hgl : gb < w.heap.size := (Array.getElem?_eq_some_iff.1 hgb).1
    refine (AnyM.slices_Sort_int Try.sort40 gb 0 cap ss w hH hgl (by omega)).mono ?_
    rintro e w' ⟨rfl, nn, os, rfl⟩
    exact ⟨rfl, ownsRow_sorted_i (by simp) hbase hgb r1 r2 r3, grownBy_sorted_i _⟩
end Go.Proofs.Yteeapfmgdlcgfaa.A


namespace Go.Proofs.Yteeapfmgdlcgfaa.A
open Go.RowKit Go.Maps Go.Sort Go.Shelf Go.Proofs.YteeapfmgdlcgfaaW.PrintWords Go.Proofs.YteeapfmgdlcgfaaW.PrintLast
attribute [local go_sem] Oper.semAt_some
set_option linter.unusedVariables false
set_option linter.unusedSimpArgs false

def Rising (ks : List Int) : Prop := ks.Pairwise (· < ·)
theorem merge_rising {ss : List Int} (h : ss.Nodup) : Rising (ss.mergeSort fun x y => decide (x ≤ y)) := by
  have h1 : (ss.mergeSort fun x y => decide (x ≤ y)).Pairwise (fun x y => decide (x ≤ y) = true) := List.pairwise_mergeSort (by intro a b c; simp; omega) (by intro a b; simp; omega) ss
  have h2 : (ss.mergeSort fun x y => decide (x ≤ y)).Nodup := (List.mergeSort_perm ss _).nodup_iff.2 h
  exact (h1.and h2).imp (fun {a b} ⟨h3, h4⟩ => by have := of_decide_eq_true h3; omega)
theorem Uni.alloc {K : Type} {κ : Kind K} {w : World} {p bu bs nu N : Nat} {U : K → Option K} {Z : K → Option Int} (h : Uni κ w p bu bs nu N U Z) (o : Obj) : Uni κ (w.alloc o) p bu bs nu N U Z :=
  h.keep (KeepsBut.alloc (fun _ => False) w o) id id id

set_option maxRecDepth 100000 in
set_option maxHeartbeats 4000000 in
theorem class_none {p bu bs nu N : Nat} {U Z : Int → Option Int} (w : World) (h : Uni κI w p bu bs nu N U Z) {k : Int} (hk : κI.wf k) (hu : U k = none) :
    Calls Try.prog 17 #[.pointer (some ⟨p, 0, none⟩), .int .i64 k] w fun e w' => e = .returned (.slice none 0 0) ∧ Uni κI w' p bu bs nu N U Z ∧ Below w.heap.size w w' := by
  rw [← callsIn_wide (n := 5)]
  have hro : (Fence.wide).round = none := rfl
  have hUa := h.alloc (.cells #[.pointer (some ⟨p, 0, none⟩)] 24)
  have hc1 := has_calls _ hUa hk
  rw [hu] at hc1
  have hB : Below w.heap.size w (w.alloc (.cells #[.pointer (some ⟨p, 0, none⟩)] 24)) := below_alloc (Below.refl _ _) _
  refine callsIn_of_wp_marks Try.func17 rfl trivial ?_ hro
  simp only [Try.ntmps17, List.size_toArray, List.length_cons, List.length_nil, Nat.reduceAdd, Nat.reduceSub, Array.replicate_succ, Array.replicate_zero, List.push_toArray, List.append_toArray, List.nil_append, List.cons_append]
  gi_wp2_with ((try refine ⟨trivial, ?_⟩); gi_at_call 37; refine (callsIn_wide.2 hc1).mono ?_; rintro e w' ⟨rfl, rfl⟩)
  refine ⟨.slice none 0 0, ?_, rfl, hUa, hB⟩
  simp [results, Try.f17, go_sem]

theorem own_lower {W : World} {base base' : Nat} {e : TypeId} {size : Nat} {v : Value} {k : Nat} {xs : List Value} (h : W.ownsRow base e size v k xs) (hb : base' ≤ base) : W.ownsRow base' e size v k xs := by
  refine ⟨h.1, ?_⟩
  rcases h.2 with h0 | ⟨g, cap, cur, hv, hb', hgb, hr⟩
  · exact .inl h0
  · exact .inr ⟨g, cap, cur, hv, Nat.le_trans hb hb', hgb, hr⟩
theorem own_base {W : World} {base : Nat} {e : TypeId} {size : Nat} {v : Value} {k : Nat} {xs : List Value} (h : W.ownsRow base e size v k xs) : ∀ r, v.ownBlock = some r → base ≤ r ∧ r < W.heap.size := by
  intro r hr
  rcases h.2 with ⟨rfl, _⟩ | ⟨g, cap, cur, rfl, hb, hgb, _⟩
  · simp [Value.ownBlock] at hr
  · obtain rfl : g = r := by simpa [Value.ownBlock] using hr
    exact ⟨hb, (Array.getElem?_eq_some_iff.1 hgb).1⟩
theorem own_keep {X : Nat → Prop} {W W' : World} {base : Nat} {e : TypeId} {size : Nat} {v : Value} {k : Nat} {xs : List Value} (h : W.ownsRow base e size v k xs) (hk : KeepsBut X W W') (hx : ∀ r, base ≤ r → ¬ X r) : W'.ownsRow base e size v k xs := by
  refine ⟨h.1, ?_⟩
  rcases h.2 with h0 | ⟨g, cap, cur, hv, hb, hgb, hr⟩
  · exact .inl h0
  · exact .inr ⟨g, cap, cur, hv, hb, (hk.block g (Array.getElem?_eq_some_iff.1 hgb).1 (hx g hb)).trans hgb, hr⟩
theorem own_turn {W W' : World} {row : Option Nat} {base : Nat} {e : TypeId} {size : Nat} {v : Value} {k : Nat} {xs : List Value} (h : W.ownsRow base e size v k xs) (hg : W.grownBy W' row) (hr : ∀ r, row = some r → ∃ o : Obj, W.heap[r]? = some o ∧ o.isCells = false) : W'.ownsRow base e size v k xs := by
  refine ⟨h.1, ?_⟩
  rcases h.2 with h0 | ⟨g, cap, cur, hv, hb, hgb, hq⟩
  · exact .inl h0
  · refine .inr ⟨g, cap, cur, hv, hb, (hg.block g (Array.getElem?_eq_some_iff.1 hgb).1 (fun e => ?_)).trans hgb, hq⟩
    obtain ⟨o, ho, hc⟩ := hr g e.symm
    rw [hgb] at ho
    have := Option.some.inj ho
    subst this
    cases hc
theorem KeepsBut.of_grownBy {X : Nat → Prop} {W W' : World} {row : Option Nat} (hg : W.grownBy W' row) (hrow : ∀ r, row = some r → X r) : KeepsBut X W W' :=
  ⟨hg.os, hg.tape, hg.output, hg.size, fun k hk hn => hg.block k hk (fun e => hn (hrow k e.symm))⟩
/-- those of a row that are in one class with k -/
noncomputable def pick (U : Int → Option Int) (k : Int) (l : List Int) : List Int := l.filter (fun x => @decide (Eq2 U x k) (Classical.propDecidable _))
theorem pick_len (U : Int → Option Int) (k : Int) (l : List Int) : (pick U k l).length ≤ l.length := List.length_filter_le _ _
theorem pick_mem {U : Int → Option Int} {k : Int} {l : List Int} {x : Int} : x ∈ pick U k l ↔ x ∈ l ∧ Eq2 U x k := by unfold pick; rw [List.mem_filter]; simp
theorem pick_yes {U : Int → Option Int} {k x : Int} {l : List Int} (h : Eq2 U x k) : pick U k (l ++ [x]) = pick U k l ++ [x] := by unfold pick; rw [List.filter_append, List.filter_cons]; simp [h]
theorem pick_no {U : Int → Option Int} {k x : Int} {l : List Int} (h : ¬ Eq2 U x k) : pick U k (l ++ [x]) = pick U k l := by unfold pick; rw [List.filter_append, List.filter_cons]; simp [h]

theorem KpB.of_others {b B0 : Nat} {W W' : World} (h : KeepsOthers W W') : KpB b B0 W W' :=
  ⟨h.size, fun k o _ ho hw => h.same k o ho (by cases o <;> simp_all [Obj.isWalk, Obj.isCells])⟩
theorem KeepsBut.low {X Y : Nat → Prop} {A B C : World} (h : KeepsBut X A B) (k : KeepsBut Y B C) (hy : ∀ q, q < A.heap.size → ¬ Y q) : KeepsBut X A C :=
  ⟨k.os.trans h.os, k.tape.trans h.tape, k.output.trans h.output, Nat.le_trans h.size k.size, fun q hq hx => (k.block q (Nat.lt_of_lt_of_le hq h.size) (hy q hq)).trans (h.block q hq hx)⟩
theorem keeps_drew (X : Nat → Prop) (W : World) : KeepsBut X W W.drew := ⟨rfl, rfl, rfl, Nat.le_refl _, fun _ _ _ => rfl⟩
theorem Uni.drew {K : Type} {κ : Kind K} {w : World} {p bu bs nu N : Nat} {U : K → Option K} {Z : K → Option Int} (h : Uni κ w p bu bs nu N U Z) : Uni κ w.drew p bu bs nu N U Z := ⟨h.cu, h.cs, h.mu.same rfl, h.ms.same rfl, h.ne, h.F⟩
theorem keepsFrom_but {X : Nat → Prop} {B : Nat} {W W' : World} (h : KeepsBut X W W') (hx : ∀ q, B ≤ q → ¬ X q) : KeepsFrom B W W' :=
  ⟨h.size, fun q o hq ho _ => (h.block q (Array.getElem?_eq_some_iff.1 ho).1 (hx q hq)).trans ho⟩
/-- what a class's loop holds between its rounds -/
structure CI (p bu bs nu N : Nat) (U Z : Int → Option Int) (k r : Int) (w : World) (n1 nc : Nat) (l : List Int) (W : World) : Prop where
  ex : ∃ (U' : Int → Option Int) (v : Value), Uni κI W p bu bs nu N U' Z ∧ Halved U U' ∧ Boxed W (n1 + 1) 36 v ∧ W.ownsRow (n1 + 2) 3 1 v (pick U k l).length ((pick U k l).map encZ)
  keep : KeepsBut (UX bu bs) w W
  c2 : W.cell? ⟨w.heap.size, 0, none⟩ = some (.pointer (some ⟨p, 0, none⟩))
  c5 : W.cell? ⟨n1, 0, none⟩ = some (.int .i64 r)
  big : n1 + 3 ≤ W.heap.size
  len : l.length ≤ nc

set_option maxRecDepth 100000 in
set_option maxHeartbeats 4000000 in
theorem class_some {p bu bs nu N : Nat} {U Z : Int → Option Int} (w : World) (h : Uni κI w p bu bs nu N U Z) {k : Int} (hk : κI.wf k) (hu : (U k).isSome = true) (hn : nu ≤ 100000) :
    Calls Try.prog 17 #[.pointer (some ⟨p, 0, none⟩), .int .i64 k] w fun e w' => ∃ (v : Value) (ks : List Int) (U' : Int → Option Int), e = .returned v ∧ Rising ks ∧ (∀ x, x ∈ ks ↔ Eq2 U x k) ∧ w'.ownsRow w.heap.size 3 1 v ks.length (ks.map (Value.int .i64)) ∧ Uni κI w' p bu bs nu N U' Z ∧ Halved U U' ∧ KeepsBut (UX bu bs) w w' := by
  rw [← callsIn_wide (n := 5)]
  have hro : (Fence.wide).round = none := rfl
  have hmix : Try.prog.follows .mixedOrders = true := by kernel_rfl
  have hmx : nu < maxLen := by unfold maxLen; omega
  have hplt : p < w.heap.size := World.block_lt_of_cell? _ _ h.cu
  have hbult := h.mu.lt
  have hbslt := h.ms.lt
  have hUa := h.alloc (.cells #[.pointer (some ⟨p, 0, none⟩)] 24)
  have hc1 := has_calls _ hUa hk
  rw [hu] at hc1
  have hc2 := root_calls _ hUa hmx hu
  have hX0 : ∀ q, w.heap.size ≤ q → ¬ UX bu bs q := fun q hq hx => by rcases hx with rfl | rfl <;> omega
  refine callsIn_of_wp_marks Try.func17 rfl trivial ?_ hro
  simp only [Try.ntmps17, List.size_toArray, List.length_cons, List.length_nil, Nat.reduceAdd, Nat.reduceSub, Array.replicate_succ, Array.replicate_zero, List.push_toArray, List.append_toArray, List.nil_append, List.cons_append]
  gi_wp2_with (first
    | ((try refine ⟨trivial, ?_⟩); gi_at_call 37; refine (callsIn_wide.2 hc1).mono ?_; clear hc1; rintro e w' ⟨rfl, rfl⟩)
    | ((try refine ⟨trivial, ?_⟩); gi_at_call 34; refine (callsIn_wide.2 hc2).mono ?_; clear hc2; rintro e w1 ⟨r, U1, rfl, ⟨d1, hto⟩, h1, hh1, k1⟩; have hn1 : w.heap.size + 1 ≤ w1.heap.size := (by have := k1.size; simpa using this); have g2 : w1.cell? ⟨w.heap.size, 0, none⟩ = some (.pointer (some ⟨p, 0, none⟩)) := k1.cell (by simp [go_sem]) (hX0 _ (Nat.le_refl _)); have g2v : ((w1.alloc (.cells #[.int .i64 r] 3)).alloc (.cells #[.slice none 0 0] 36)).cell? ⟨w.heap.size, 0, none⟩ = some (.pointer (some ⟨p, 0, none⟩)) := (by rw [World.cell?_alloc_lt _ _ _ (by show w.heap.size < _; simp; omega), World.cell?_alloc_lt _ _ _ (by show w.heap.size < _; omega)]; exact g2); have hUv := (h1.alloc (.cells #[.int .i64 r] 3)).alloc (.cells #[.slice none 0 0] 36); have gpv := hUv.cu; have hmuv := hUv.mu; obtain ⟨D, hown, hR, hsz, hwf⟩ := hmuv)
    | ((try refine ⟨trivial, ?_⟩); gi_at_call 39; refine (callsIn_wide.2 (AnyW.maps_Clone_owns Try.clone39 3 (plainElem (H := Unit) Try.prog 3) bu nu D _ hown)).mono ?_; rintro e w2 ⟨rfl, hcl, hbu2, hB2⟩)
    | ((try refine ⟨trivial, ?_⟩); gi_at_call 38; refine (callsIn_wide.2 (keys38_calls _ _)).mono ?_; rintro e w' ⟨rfl, rfl⟩))
  have hs2 : w1.heap.size + 2 ≤ w2.heap.size := by have := hB2.size; simpa using this
  simp only [World.size_alloc] at hB2 hcl
  obtain ⟨WL, hWL⟩ : ∃ WL, w2.alloc (.cells #[.map (some (w1.heap.size + 1 + 1))] 66) = WL := ⟨_, rfl⟩
  have hBL : Below (w1.heap.size + 1 + 1) ((w1.alloc (.cells #[.int .i64 r] 3)).alloc (.cells #[.slice none 0 0] 36)) WL := by rw [← hWL]; exact hB2.alloc (by omega) _
  have hsL : WL.heap.size = w2.heap.size + 1 := by rw [← hWL]; simp
  have hUL : Uni κI WL p bu bs nu N U1 Z := by
    refine hUv.keep (X := fun q => w1.heap.size + 1 + 1 ≤ q) ⟨hBL.os, hBL.tape, hBL.output, hBL.size, fun q hq hx => hBL.block q (by omega)⟩ ?_ ?_ ?_ <;> omega
  have kL : KeepsBut (UX bu bs) w WL := by
    refine ⟨hBL.os.trans k1.os, hBL.tape.trans k1.tape, hBL.output.trans k1.output, by omega, fun q hq hx => ?_⟩
    rw [hBL.block q (by omega), Below.heap_alloc _ _ _ (by simp; omega), Below.heap_alloc _ _ _ (by omega), k1.block q (by simp; omega) hx, Below.heap_alloc _ _ _ hq]
  have c2L : WL.cell? ⟨w.heap.size, 0, none⟩ = some (.pointer (some ⟨p, 0, none⟩)) := (hBL.cell (p := ⟨w.heap.size, 0, none⟩) (by show w.heap.size < _; omega)).trans g2v
  have c5L : WL.cell? ⟨w1.heap.size, 0, none⟩ = some (.int .i64 r) := (hBL.cell (p := ⟨w1.heap.size, 0, none⟩) (by show w1.heap.size < _; omega)).trans (by
    rw [World.cell?_alloc_lt _ _ _ (by show w1.heap.size < _; simp)]; simp [go_sem])
  have b6L : Boxed WL (w1.heap.size + 1) 36 (.slice none 0 0) := (hBL.block _ (by omega)).trans (by
    have := World.alloc_heap_new (w1.alloc (.cells #[.int .i64 r] 3)) (.cells #[.slice none 0 0] 36); rwa [World.size_alloc] at this)
  have hclL : WL.ownsMap Try.prog 3 (plainElem (H := Unit) Try.prog 3) (w1.heap.size + 1 + 1) nu D := by rw [← hWL]; exact hcl.alloc _
  have hmL : WL.cell? ⟨w2.heap.size, 0, none⟩ = some (.map (some (w1.heap.size + 1 + 1))) := by rw [← hWL]; simp [go_sem]
  have hstop := keys64_stops Fence.wide 4 trivial hro (by omega) w2.heap.size (w1.heap.size + 1 + 1) nu WL.heap.size D WL (Nat.le_refl _) (by omega) hmL hclL
  have hrk : ∀ U' : Int → Option Int, Halved U U' → ∃ d, To U' d k r := fun U' hh => hh.tos _ _ _ hto
  rw [hWL]
  clear hB2 hcl hbu2 hWL hBL hown hmL hclL g2 g2v gpv k1 h1
  refine wpIn_rangeFunc_ownG hro (by omega) (gf := 64) (lb := #[.pointer (some ⟨w2.heap.size, 0, none⟩)]) rfl trivial (enters_of Try.func64 (by kernel_rfl) rfl) hstop
    KpB.trans (fun W l o o' _ h _ hw => KpB.putObj W l o o' h hw) (Below.refl _ _) (fun _ => rfl)
    (fun pre W => Aside0 (CI p bu bs nu N U Z k r w w1.heap.size (Maps.size D) (pre.map (·.1)) W)) (fun _ _ _ => False) ?hI (fun _ _ _ _ _ hs _ _ => hs) ⟨⟨⟨U1, _, hUL, hh1, b6L, World.ownsRow_nil _ _ _ _⟩, kL, c2L, c5L, by omega, by simp⟩⟩ ?a1 ?assign ?body ?done ?stop
  case hI =>
    rintro pre W W' row ⟨⟨⟨U', v, hU, hh, hbx, hrow⟩, hkp, g2, g5, hbg, hln⟩⟩ hg hr
    have hlow : ∀ q, q < WL.heap.size → row ≠ some q := fun q hq e => by have := (hr q e).1; omega
    refine ⟨⟨⟨U', v, hU.keep (X := fun q => row = some q) (KeepsBut.of_grownBy hg fun r e => e) (hlow p (by omega)) (hlow bu (by omega)) (hlow bs (by omega)), hh, hbx.kept hg (fun e => hlow _ (by omega) e.symm), own_turn hrow hg fun r e => (hr r e).2⟩, ?_, cell_kept g2 hg (fun r e => (hr r e).2), cell_kept g5 hg (fun r e => (hr r e).2), Nat.le_trans hbg hg.size, hln⟩⟩
    exact ⟨hg.os.trans hkp.os, hg.tape.trans hkp.tape, hg.output.trans hkp.output, Nat.le_trans hkp.size hg.size, fun q hq hx => (hg.block q (Nat.lt_of_lt_of_le hq hkp.size) (fun e => hlow q (by omega) e.symm)).trans (hkp.block q hq hx)⟩
  case assign =>
    intro l x W K hK
    gi_wp2
    exact hK
  case body =>
    rintro l pre ⟨x, hx⟩ W ⟨⟨⟨U', v, hU, hh, hbx, hrow⟩, hkp, g2, g5, hbg, hln⟩⟩ hlt
    dsimp only
    have hxs : (U' x).isSome = true := by
      have := hR.has x
      rw [show κI.lit x = Lit.int .i64 x from rfl, hx] at this
      rw [hh.dom, ← hh1.dom]; exact this.symm
    obtain ⟨d0, hk0⟩ := hrk U' hh
    have hroot := root_calls W.drew hU.drew hmx hxs
    have g2d : W.drew.cell? ⟨w.heap.size, 0, none⟩ = some (.pointer (some ⟨p, 0, none⟩)) := g2
    have g5d : W.drew.cell? ⟨w1.heap.size, 0, none⟩ = some (.int .i64 r) := g5
    obtain ⟨i0, hi, hz0, hz1, hz2⟩ := info_parts info3
    have hlen1 : (pick U k (pre.map (·.1))).length ≤ 100000 := by
      have := pick_len U k (pre.map (·.1))
      have : pre.length ≤ Maps.size D := by omega
      rw [List.length_map] at *
      omega
    have hpre : ((pre ++ [(⟨x, hx⟩ : KeyI D)]).map (·.1)) = pre.map (·.1) ++ [x] := by rw [List.map_append]; rfl
    gi_wp2
    gi_region_with_o ((try refine ⟨trivial, ?_⟩); gi_at_call 34; refine (CallsIn.inRound l (callsIn_wide.2 hroot)).mono ?_; clear hroot; rintro e w5 ⟨r2, U2, rfl, ⟨d2, hto2⟩, h5, hh5, k5⟩; have g5w := k5.cell g5d (hX0 _ (by show w.heap.size ≤ w1.heap.size; omega)))
    all_goals
      have hEq : Eq2 U x k ↔ r2 = r := (hh.eq2 h.F x k).symm.trans (Eq2.root_iff hto2 hk0)
      have k5' : KeepsBut (UX bu bs) W w5 := (keeps_drew _ W).trans k5
      have hbx5 : Boxed w5 (w1.heap.size + 1) 36 v := (k5'.block _ hbx.lt (hX0 _ (by omega))).trans hbx
      have hrow5 := own_keep hrow k5' (fun q hq => hX0 q (by omega))
      have g2w := k5'.cell g2 (hX0 _ (Nat.le_refl _))
      have hsz5 : W.heap.size ≤ w5.heap.size := k5'.size
      by_cases e : r2 = r
      · have hb : (r2 == r) = true := beq_iff_eq.2 e
        have hc1 := hbx5.cell
        have hf1 := hbx5.frozen
        gi_wp2_with (gi_at_builtin; refine wpListIn_append_own _ rfl _ _ 36 rfl (w1.heap.size + 2) 3 i0 _ 1 8 Try.underlying36 hi hz0 hz1 hz2 rfl (by decide) _ _ _ rfl (hrow5.alloc _) ⟨w5.heap.size, 0, none⟩ 1 1 [.int .i64 x] rfl rfl (cell_one_new _ _ _) (by simp [Value.oneCell']) (by unfold maxLen; omega) (by omega) (by simp; omega) ?_; intro v' w6 hown' hgrow _; replace hgrow : (w5.alloc (.cells #[.int .i64 x] 3)).grownBy w6 v.ownBlock := hgrow; obtain ⟨g', cap', rfl⟩ := ownsRow_succ hown'; have hv1 := (hbx5.alloc (.cells #[.int .i64 x] 3)).kept hgrow (hbx5.not_row (by decide) hrow5); have hc2 := hv1.cell; have hf2 := hv1.frozen)
        have hkb : KeepsBut (fun q => q = w1.heap.size + 1 ∨ w1.heap.size + 2 ≤ q) w5 (w6.setCell ⟨w1.heap.size + 1, 0, none⟩ (.slice (some ⟨g', 0, none⟩) ((pick U k (pre.map (·.1))).length + 1) cap')) :=
          ((KeepsBut.alloc _ w5 _).trans (KeepsBut.of_grownBy hgrow fun r hr => .inr (own_base hrow5 r hr).1)).trans (KeepsBut.setCell _ _ _ (.inl rfl))
        have hko : KeepsOthers w5 (w6.setCell ⟨w1.heap.size + 1, 0, none⟩ (.slice (some ⟨g', 0, none⟩) ((pick U k (pre.map (·.1))).length + 1) cap')) := by
          refine ((KeepsOthers.alloc w5 _).trans (KeepsOthers.of_grownBy hgrow fun j o ej hj => ?_)).trans (KeepsOthers.setCell _ _ _)
          rcases (hrow5.alloc (.cells #[.int .i64 x] 3)).2 with ⟨rfl, _⟩ | ⟨g, cap, cur, rfl, _, hgb, _⟩
          · simp [Value.ownBlock] at ej
          · obtain rfl : g = j := by simpa [Value.ownBlock] using ej
            rw [hgb] at hj; cases hj; rfl
        refine ⟨(keepsFrom_but k5' (fun q hq => hX0 q (by omega))).trans (hko.from _), (KpB.of_keeps k5' (hX0 _ (by omega)) (fun q hq => hX0 q (by omega))).trans (KpB.of_others hko), ⟨⟨⟨U2, _, h5.keep hkb (by omega) (by omega) (by omega), hh.trans hh5, hv1.set _, ?_⟩, (hkp.trans k5').low hkb (by omega), hkb.cell g2w (by show ¬ (w.heap.size = _ ∨ _ ≤ w.heap.size); omega), hkb.cell g5w (by show ¬ (w1.heap.size = _ ∨ _ ≤ w1.heap.size); omega), Nat.le_trans (Nat.le_trans hbg hsz5) hkb.size, by rw [hpre, List.length_append, List.length_map]; exact hlt⟩⟩⟩
        have := hown'.kept (grownBy_setCell' w6 (w1.heap.size + 1) (.slice (some ⟨g', 0, none⟩) ((pick U k (pre.map (·.1))).length + 1) cap')) (.inr (hv1.not_row (by decide) hown').symm)
        rw [hpre, pick_yes (hEq.2 e), List.length_append, List.map_append]
        exact this
      · have hb : (r2 == r) = false := beq_false_of_ne e
        gi_wp2
        refine ⟨keepsFrom_but k5' (fun q hq => hX0 q (by omega)), KpB.of_keeps k5' (hX0 _ (by omega)) (fun q hq => hX0 q (by omega)), ⟨⟨⟨U2, v, h5, hh.trans hh5, hbx5, ?_⟩, hkp.trans k5', g2w, g5w, by omega, by rw [hpre, List.length_append, List.length_map]; exact hlt⟩⟩⟩
        rw [hpre, pick_no (fun g => e (hEq.1 g))]
        exact hrow5
  case done =>
    rintro Dd ys W hDd ⟨hnd, hall⟩ ⟨⟨⟨U', v, hU, hh, hbx, hrow⟩, hkp, g2, g5, hbg, hln⟩⟩ hK
    have hc1 := hbx.cell
    have hlen1 : (pick U k (ys.map (·.1))).length ≤ 100000 := by
      have := pick_len U k (ys.map (·.1))
      omega
    have hsort := sort_own (w1.heap.size + 2) v _ W hrow (by omega)
    gi_wp2_with ((try refine ⟨trivial, ?_⟩); gi_at_call 40; refine (callsIn_wide.2 hsort).mono ?_; clear hsort; rintro e w5 ⟨rfl, hrow5, hg5⟩; have hbx5 := hbx.kept hg5 (hbx.not_row (by decide) hrow); have hc5 := hbx5.cell)
    have hK' : w5.heap[Dd]? = some (.deferred (some [])) := by
      refine (hg5.block Dd (Array.getElem?_eq_some_iff.1 hK).1 (fun e => ?_)).trans hK
      rcases hrow.2 with ⟨rfl, _⟩ | ⟨g, cap, cur, rfl, _, hgb, _⟩
      · simp [Value.ownBlock] at e
      · obtain rfl : Dd = g := by simpa [Value.ownBlock] using e
        rw [hgb] at hK; cases hK
    refine ⟨by simp, .inl ⟨_, _, rfl, run_takeDeferred hK', ?_⟩⟩
    have hX2 : KeepsBut (fun q => w.heap.size ≤ q) W (w5.putObj Dd (.deferred none)) := (KeepsBut.of_grownBy hg5 fun r hr => by have := (own_base hrow r hr).1; show w.heap.size ≤ r; omega).trans (KeepsBut.putObj w5 _ (by show w.heap.size ≤ Dd; omega))
    refine ⟨_, results_tmp rfl _ _ _, _, _, U', rfl, merge_rising (ss := pick U k (ys.map (·.1))) ?_, fun x => ?_, ?_, hU.keep hX2 (by omega) (by omega) (by omega), hh, hkp.low hX2 (by omega)⟩
    · exact hnd.filter _
    · rw [List.mem_mergeSort, pick_mem]
      refine ⟨fun g => g.2, fun g => ⟨hall x ?_, g⟩⟩
      have := hR.has x
      rw [show κI.lit x = Lit.int .i64 x from rfl] at this
      rw [this, hh1.dom]
      exact (Eq2.self_iff h.F).1 (g.trans g.symm)
    · refine own_lower ?_ (show w.heap.size ≤ w1.heap.size + 2 by omega)
      have := ownsRow_putObj hrow5 (.deferred none) hK' rfl
      rw [show (pick U k (ys.map (·.1))).length = ((pick U k (ys.map (·.1))).mergeSort fun x y => decide (x ≤ y)).length by simp] at this
      exact this
  case stop =>
    rintro D c pre W _ _ h _
    exact h.elim
end Go.Proofs.Yteeapfmgdlcgfaa.A


namespace Go.Proofs.Yteeapfmgdlcgfaa.A
open Go.RowKit Go.Maps Go.Proofs.YteeapfmgdlcgfaaW.PrintWords Go.Proofs.YteeapfmgdlcgfaaW.PrintLast
set_option linter.unusedVariables false
set_option linter.unusedSimpArgs false

theorem class_un {p bu bs nu N : Nat} {E : Int → Int → Prop} (w : World) (h : UN κI w p bu bs nu N E) {k : Int} (hk : κI.wf k) (hn : nu ≤ 100000) :
    Calls Try.prog 17 #[.pointer (some ⟨p, 0, none⟩), .int .i64 k] w fun e w' => ∃ (v : Value) (ks : List Int), e = .returned v ∧ Rising ks ∧ (∀ x, x ∈ ks ↔ E x k) ∧ w'.ownsRow w.heap.size 3 1 v ks.length (ks.map (Value.int .i64)) ∧ UN κI w' p bu bs nu N E ∧ KeepsBut (UX bu bs) w w' := by
  obtain ⟨U, Z, h1, h2⟩ := h
  cases hu : U k with
  | none =>
    refine (class_none w h1 hk hu).mono ?_
    rintro e w' ⟨rfl, h3, hB⟩
    refine ⟨_, [], rfl, List.Pairwise.nil, fun x => ?_, World.ownsRow_nil _ _ _ _, ⟨U, Z, h3, h2⟩, keeps_below hB _⟩
    rw [← h2]
    constructor
    · intro g; cases g
    · intro g
      have := (Eq2.self_iff h1.F).1 (g.symm.trans g)
      rw [hu] at this; cases this
  | some j =>
    refine (class_some w h1 hk (by rw [hu]; rfl) hn).mono ?_
    rintro e w' ⟨v, ks, U', rfl, h3, h4, h5, h6, h7, h8⟩
    exact ⟨v, ks, rfl, h3, fun x => (h4 x).trans (h2 x k), h5, ⟨U', Z, h6, fun x y => (h7.eq2 h1.F x y).trans (h2 x y)⟩, h8⟩
theorem add_un {p bu bs nu N : Nat} {E : Int → Int → Prop} (w : World) (h : UN κI w p bu bs nu N E) {k : Int} (hk : κI.wf k) (hn : nu ≤ 100000) (hN : N ≤ 100000) :
    Calls Try.prog 22 #[.pointer (some ⟨p, 0, none⟩), .int .i64 k] w fun e w' => ∃ r : Bool, e = .returned (.bool r) ∧ (r = true ↔ ¬ E k k) ∧ UN κI w' p bu bs (nu + r.toNat) (N + r.toNat) (addE E k) ∧ KeepsBut (UX bu bs) w w' := by
  obtain ⟨U, Z, h1, h2⟩ := h
  refine (add_calls w h1 hk (by unfold maxLen; omega) (by unfold maxLen; omega)).mono ?_
  rintro e w' ⟨r, U', Z', rfl, h3, h4, h5, h6⟩
  exact ⟨r, rfl, h3.trans (not_congr (h2 k k)), ⟨U', Z', h4, fun x y => by rw [h5]; unfold addE; rw [h2]⟩, h6⟩
theorem join_un {p bu bs nu N : Nat} {E : Int → Int → Prop} (w : World) (h : UN κI w p bu bs nu N E) {a b : Int} (ha : κI.wf a) (hb : κI.wf b) (hn : nu ≤ 100000) (hN : N ≤ 100000) :
    Calls Try.prog 12 #[.pointer (some ⟨p, 0, none⟩), .int .i64 a, .int .i64 b] w fun e w' => ∃ (ra rb r : Bool), e = .returned (.bool r) ∧ (ra = true ↔ ¬ E a a) ∧ (rb = true ↔ ¬ addE E a b b) ∧ (r = true ↔ ¬ addE (addE E a) b a b) ∧
      UN κI w' p bu bs (nu + ra.toNat + rb.toNat) (N + ra.toNat + rb.toNat - r.toNat) (joinE (addE (addE E a) b) a b) ∧ KeepsBut (UX bu bs) w w' := by
  obtain ⟨U, Z, h1, h2⟩ := h
  have hE : ∀ x y, addE (addE (Eq2 U) a) b x y ↔ addE (addE E a) b x y := fun x y => by unfold addE; rw [h2]
  refine (join_calls w h1 ha hb (by unfold maxLen; omega) (by unfold maxLen; omega)).mono ?_
  rintro e w' ⟨ra, rb, r, U', Z', rfl, h3, h4, h5, h6, h7, h8⟩
  refine ⟨ra, rb, r, rfl, h3.trans (not_congr (h2 a a)), h4.trans (not_congr ?_), h5.trans (not_congr (hE a b)), ⟨U', Z', h6, fun x y => ?_⟩, h8⟩
  · unfold addE; rw [h2]
  · rw [h7]; unfold joinE; rw [hE, hE, hE, hE, hE]
theorem len_un {p bu bs nu N : Nat} {E : Int → Int → Prop} (w : World) (h : UN κI w p bu bs nu N E) :
    Calls Try.prog 19 #[.pointer (some ⟨p, 0, none⟩)] w fun e w' => e = .returned (.int .i64 N) ∧ w' = w := by
  obtain ⟨U, Z, h1, h2⟩ := h
  exact len_calls w h1
theorem new_un (w : World) : Calls Try.prog 10 #[] w fun e w' => ∃ p bu bs, e = .returned (.pointer (some ⟨p, 0, none⟩)) ∧ w.heap.size ≤ p ∧ w.heap.size ≤ bu ∧ w.heap.size ≤ bs ∧ UN κI w' p bu bs 0 0 (fun _ _ => False) ∧ Below w.heap.size w w' := by
  refine (new_calls w).mono ?_
  rintro e w' ⟨p, bu, bs, rfl, h1, h2, h3, h4, h5⟩
  refine ⟨p, bu, bs, rfl, h1, h2, h3, ⟨_, _, h4, fun x y => ⟨?_, False.elim⟩⟩, h5⟩
  rintro ⟨r, d, e, g, _⟩
  obtain ⟨j, hj⟩ := g.has
  cases hj
theorem UN.lt {p bu bs nu N : Nat} {E : Int → Int → Prop} {w : World} (h : UN κI w p bu bs nu N E) : p < w.heap.size ∧ bu < w.heap.size ∧ bs < w.heap.size := by
  obtain ⟨U, Z, h1, h2⟩ := h
  exact ⟨World.block_lt_of_cell? _ _ h1.cu, h1.mu.lt, h1.ms.lt⟩
theorem UN.ne {p bu bs nu N : Nat} {E : Int → Int → Prop} {w : World} (h : UN κI w p bu bs nu N E) : p ≠ bu ∧ p ≠ bs := by
  obtain ⟨U, Z, h1, h2⟩ := h
  exact h1.pne

set_option maxRecDepth 100000 in
set_option maxHeartbeats 4000000 in
theorem find_un {p bu bs nu N : Nat} {E : Int → Int → Prop} (w : World) (h : UN κI w p bu bs nu N E) {k : Int} (hk : κI.wf k) (hn : nu ≤ 100000) :
    Calls Try.prog 15 #[.pointer (some ⟨p, 0, none⟩), .int .i64 k] w fun e w' => ∃ (m : Int) (r : Bool), e = .returned (.tuple #[.int .i64 m, .bool r]) ∧ (r = true → E m k ∧ ∀ x, E x k → m ≤ x) ∧ (r = false → m = 0 ∧ ∀ x, ¬ E x k) ∧ UN κI w' p bu bs nu N E ∧ KeepsBut (UX bu bs) w w' := by
  have hc := class_un w h hk hn
  go_enter Try.func15, Try.ntmps15
  go_wp2_with fail
  refine hc.mono ?_
  clear hc
  rintro e w1 ⟨v, ks, rfl, h1, h2, h30, h4, h5⟩
  have h3 : Kd.R (Kd.int .i64) 3 w1 w.heap.size (fun _ => True) v ks := Kd.R_of_own h30 (fun _ _ => trivial)
  clear h30
  obtain ⟨A, c, rfl⟩ := Kd.R_slice h3
  cases ks with
  | nil =>
    have hz : ((([] : List Int).length : Nat) : Int) = 0 := rfl
    have hz2 : (((([] : List Int).length : Nat) : Int) == 0) = true := rfl
    go_wp2
    (try simp only [Exit.inBlock, Exit.then])
    refine bodyPost_ret (results_tmp2 rfl _ _ _) rfl ?_
    exact ⟨0, false, rfl, fun g => by simp at g, fun _ => ⟨rfl, fun x g => by have := (h2 x).2 g; cases this⟩, h4, h5⟩
  | cons m l =>
    have hz2 : ((((m :: l).length : Nat) : Int) == 0) = false := by simp; omega
    have hp : (0 : Int) ≤ 0 := by omega
    have hq : (0 : Int) < (((m :: l).length : Nat) : Int) := by simp
    obtain ⟨ad, e1, hx⟩ := Kd.at_int (Kd.R_reads' h3).2.2 0 hp hq
    cases e1
    have hm : rd (m :: l) 0 = m := rfl
    rw [hm] at hx
    have hx0 : w1.cell? ad = some (.int .i64 m) := by have := hx; simpa [Addr.add] using this
    have hz3 : ((l.length : Int) + 1 == 0) = false := by simpa using hz2
    have hfin : Aside0 (E m k ∧ ∀ x, E x k → m ≤ x) := ⟨⟨(h2 m).1 (by simp), fun x g => by
      rcases List.mem_cons.1 ((h2 x).2 g) with rfl | g
      · exact Int.le_refl _
      · have := (List.pairwise_cons.1 h1).1 x g; omega⟩⟩
    clear h1 h2
    go_wp2
    (try simp only [Exit.inBlock, Exit.then])
    refine bodyPost_ret (results_tmp2 rfl _ _ _) rfl ?_
    exact ⟨m, true, rfl, fun _ => hfin.out, fun g => by simp at g, h4, h5⟩
set_option maxRecDepth 100000 in
set_option maxHeartbeats 4000000 in
theorem same_calls {p bu bs nu N : Nat} {U Z : Int → Option Int} (w : World) (h : Uni κI w p bu bs nu N U Z) {a b : Int} (ha : κI.wf a) (hb : κI.wf b) (hn : nu < maxLen) :
    Calls Try.prog 33 #[.pointer (some ⟨p, 0, none⟩), .int .i64 a, .int .i64 b] w fun e w' => ∃ (r : Bool) (U' : Int → Option Int), e = .returned (.bool r) ∧ (r = true ↔ Eq2 U a b) ∧ Uni κI w' p bu bs nu N U' Z ∧ Halved U U' ∧ KeepsBut (UX bu bs) w w' := by
  have hc1 := has_calls w h ha
  have hc2 := has_calls w h hb
  go_enter Try.func33, Try.ntmps33
  go_wp2_with fail
  refine hc1.mono ?_
  clear hc1
  rintro e w' ⟨rfl, rfl⟩
  cases ha2 : (U a).isSome with
  | false =>
    have hno : ¬ Eq2 U a b := fun g => by
      have := (Eq2.self_iff h.F).1 (g.trans g.symm)
      rw [ha2] at this; cases this
    go_wp2
    go_ret
    exact ⟨false, U, rfl, by simp [hno], h, Halved.refl _, KeepsBut.refl _ _⟩
  | true =>
    go_wp2_with fail
    refine hc2.mono ?_
    clear hc2
    rintro e w' ⟨rfl, rfl⟩
    cases hb2 : (U b).isSome with
    | false =>
      have hno : ¬ Eq2 U a b := fun g => by
        have := (Eq2.self_iff h.F).1 (g.symm.trans g)
        rw [hb2] at this; cases this
      go_wp2
      go_ret
      exact ⟨false, U, rfl, by simp [hno], h, Halved.refl _, KeepsBut.refl _ _⟩
    | true =>
      have hr1 := root_calls w' h hn ha2
      go_wp2_with fail
      refine hr1.mono ?_
      clear hr1
      rintro e w3 ⟨r1, U3, rfl, ⟨d1, hto1⟩, h3, hv3, k3⟩
      have hr2 := root_calls w3 h3 hn (by rw [hv3.dom]; exact hb2)
      go_wp2_with fail
      refine hr2.mono ?_
      clear hr2
      rintro e w4 ⟨r2, U4, rfl, ⟨d2, hto2⟩, h4, hv4, k4⟩
      obtain ⟨e1, hto1'⟩ := hv3.tos _ _ _ hto1
      have hEq : (r1 == r2) = true ↔ Eq2 U a b := by
        rw [beq_iff_eq, ← hv3.eq2 h.F a b]
        exact (Eq2.root_iff hto1' hto2).symm
      go_wp2
      go_ret
      exact ⟨_, U4, rfl, hEq, h4, hv3.trans hv4, k3.trans k4⟩
theorem same_un {p bu bs nu N : Nat} {E : Int → Int → Prop} (w : World) (h : UN κI w p bu bs nu N E) {a b : Int} (ha : κI.wf a) (hb : κI.wf b) (hn : nu ≤ 100000) :
    Calls Try.prog 33 #[.pointer (some ⟨p, 0, none⟩), .int .i64 a, .int .i64 b] w fun e w' => ∃ r : Bool, e = .returned (.bool r) ∧ (r = true ↔ E a b) ∧ UN κI w' p bu bs nu N E ∧ KeepsBut (UX bu bs) w w' := by
  obtain ⟨U, Z, h1, h2⟩ := h
  refine (same_calls w h1 ha hb (by unfold maxLen; omega)).mono ?_
  rintro e w' ⟨r, U', rfl, h3, h4, h5, h6⟩
  exact ⟨r, rfl, h3.trans (h2 a b), ⟨U', Z, h4, fun x y => (h5.eq2 h1.F x y).trans (h2 x y)⟩, h6⟩
end Go.Proofs.Yteeapfmgdlcgfaa.A


namespace Go.Proofs.Yteeapfmgdlcgfaa.A
open Go.RowKit Go.Proofs.YteeapfmgdlcgfaaW.PrintWords Go.Proofs.YteeapfmgdlcgfaaW.PrintLast Go.Proofs.YteeapfmgdlcgfaaW.PrintMore
attribute [local go_sem] max2_int min2_int max_two min_two max_three min_three max_four min_four   -- for this text's walks alone
set_option linter.unusedVariables false
set_option linter.unusedSimpArgs false

def swageref02_Ints.l0 : Nat → List Int → List Int → Int → Option (Bool)
  | 0, _, _, _ => none
  | k + 1, x0, x1, x5 => if x5 < (x0.length : Int) then (if 0 ≤ x5 then (if x5 < (x1.length : Int) then (if (rd x0 x5) = (rd x1 x5) then (swageref02_Ints.l0 k x0 x1 (wrap64 (x5 + 1))) else (some false)) else (none)) else (none)) else (some true)
def swageref02_Ints.f (k : Nat) (l0 : List Int) (l1 : List Int) : Option (Bool) := if (l0.length : Int) = (l1.length : Int) then (swageref02_Ints.l0 k l0 l1 0) else (some false)
set_option maxHeartbeats 8000000 in
set_option maxRecDepth 100000 in
theorem swageref02_Ints.calls (k : Nat) (A0 : Option Addr) (c0 : Nat) (l0 : List Int) (A1 : Option Addr) (c1 : Nat) (l1 : List Int) (r : Bool) (w : World) (hr0 : Kd.C (Kd.int .i64) w A0 l0.length l0) (hc0 : l0.length ≤ c0) (hr1 : Kd.C (Kd.int .i64) w A1 l1.length l1) (hc1 : l1.length ≤ c1) (h : swageref02_Ints.f k l0 l1 = some r) :
    Calls Try.prog 21 #[.slice A0 l0.length c0, .slice A1 l1.length c1] w fun e w' => e = .returned (.bool r) ∧ Drawn0 w w' := by
  have HR0 := Aside0.mk hr0
  have HC0 := Aside0.mk hc0
  clear hr0 hc0
  have HR1 := Aside0.mk hr1
  have HC1 := Aside0.mk hc1
  clear hr1 hc1
  have H : (if (l0.length : Int) = (l1.length : Int) then (swageref02_Ints.l0 k l0 l1 0) else (some false)) = some r := h
  clear h
  by_cases c3 : (l0.length : Int) = (l1.length : Int)
  · rw [if_pos c3] at H
    have c3b0 : ((l0.length : Int) == (l1.length : Int)) = true := beq_iff_eq.mpr c3
    have c3b1 : ((l0.length : Int) != (l1.length : Int)) = false := bne_eq_false_iff_eq.mpr c3
    have c3b2 : (l0.length == l1.length) = true := by first | simpa using c3 | (simp at c3 ⊢; omega)
    clear c3
    have H' := Aside0.mk H
    clear H
    go_enter Try.func21, Try.ntmps21
    go_wp2
    repeat (go_quiet (fail); try go_wp2)
    go_loopg [5] k (fun kq v5 w' => ∃ (x5_1 : Int), v5 = .int .i64 x5_1 ∧ Aside0 (swageref02_Ints.l0 kq l0 l1 x5_1 = some r) ∧ Aside0 (kq ≤ k) ∧ Drawn0 w w')
    case atStart => exact ⟨(0), (by first | rfl | (simp; done) | (simp [*]; done)), H', ⟨Nat.le_refl _⟩, by repeat (first | exact Drawn0.refl _ | apply Drawn0.step)⟩
    case round =>
      clear H'
      try clear c1
      try clear c2
      try clear p2
      try clear c3
      try clear c3b0
      try clear c3b1
      try clear c3b2
      obtain ⟨x5_1, rfl, HA, HK1, ⟨m1, rfl⟩⟩ := hrel
      cases gk with
      | zero => exact absurd HA.out (by simp [swageref02_Ints.l0])
      | succ k1 =>
        have H := HA.out
        clear HA
        simp only [swageref02_Ints.l0] at H
        by_cases c4 : x5_1 < (l0.length : Int)
        · rw [if_pos c4] at H
          have c4b0 : decide (x5_1 < (l0.length : Int)) = true := decide_eq_true c4
          clear c4
          by_cases c5 : 0 ≤ x5_1
          · rw [if_pos c5] at H
            have c5b0 : decide (0 ≤ x5_1) = true := decide_eq_true c5
            clear c5
            by_cases c6 : x5_1 < (l1.length : Int)
            · rw [if_pos c6] at H
              have c6b0 : decide (x5_1 < (l1.length : Int)) = true := decide_eq_true c6
              clear c6
              by_cases c7 : (rd l0 x5_1) = (rd l1 x5_1)
              · rw [if_pos c7] at H
                have c7b0 : ((rd l0 x5_1) == (rd l1 x5_1)) = true := beq_iff_eq.mpr c7
                have c7b1 : ((rd l0 x5_1) != (rd l1 x5_1)) = false := bne_eq_false_iff_eq.mpr c7
                clear c7
                have H' := Aside0.mk H
                clear H
                have p221 : 0 ≤ (x5_1 : Int) := of_decide_eq_true (by first | (with_reducible assumption) | assumption)
                have q221 : x5_1 < (l0.length : Int) := of_decide_eq_true (by first | (with_reducible assumption) | assumption)
                obtain ⟨ad221, e221, hx221_0⟩ := Kd.at_int HR0.out x5_1 p221 q221
                cases e221
                replace p221 := eq_true p221
                replace q221 := eq_true q221
                have p222 : 0 ≤ (x5_1 : Int) := of_decide_eq_true (by first | (with_reducible assumption) | assumption)
                have q222 : x5_1 < (l1.length : Int) := of_decide_eq_true (by first | (with_reducible assumption) | assumption)
                obtain ⟨ad222, e222, hx222_0⟩ := Kd.at_int HR1.out x5_1 p222 q222
                cases e222
                replace p222 := eq_true p222
                replace q222 := eq_true q222
                go_wp2
                repeat (go_quiet (fail); try go_wp2)
                go_roundg k1
                case measure => have := HK1.out; omega
                case rel => exact ⟨(wrap64 (x5_1 + 1)), (by first | rfl | (simp; done) | (simp [*]; done)), H', ⟨by have := HK1.out; omega⟩, by repeat (first | exact Drawn0.refl _ | apply Drawn0.step)⟩
              · rw [if_neg c7] at H
                have c7b0 : ((rd l0 x5_1) == (rd l1 x5_1)) = false := beq_eq_false_iff_ne.mpr c7
                have c7b1 : ((rd l0 x5_1) != (rd l1 x5_1)) = true := bne_iff_ne.mpr c7
                obtain rfl := Option.some.inj H
                have p221 : 0 ≤ (x5_1 : Int) := of_decide_eq_true (by first | (with_reducible assumption) | assumption)
                have q221 : x5_1 < (l0.length : Int) := of_decide_eq_true (by first | (with_reducible assumption) | assumption)
                obtain ⟨ad221, e221, hx221_0⟩ := Kd.at_int HR0.out x5_1 p221 q221
                cases e221
                replace p221 := eq_true p221
                replace q221 := eq_true q221
                have p222 : 0 ≤ (x5_1 : Int) := of_decide_eq_true (by first | (with_reducible assumption) | assumption)
                have q222 : x5_1 < (l1.length : Int) := of_decide_eq_true (by first | (with_reducible assumption) | assumption)
                obtain ⟨ad222, e222, hx222_0⟩ := Kd.at_int HR1.out x5_1 p222 q222
                cases e222
                replace p222 := eq_true p222
                replace q222 := eq_true q222
                go_wp2
                repeat (go_quiet (fail); try go_wp2)
                go_ret
                exact ⟨by first | rfl | (simp; done) | (simp [*]; done), by repeat (first | exact Drawn0.refl _ | apply Drawn0.step)⟩
            · rw [if_neg c6] at H
              exact absurd H (by simp)
          · rw [if_neg c5] at H
            exact absurd H (by simp)
        · rw [if_neg c4] at H
          have c4b0 : decide (x5_1 < (l0.length : Int)) = false := decide_eq_false c4
          clear c4
          obtain rfl := Option.some.inj H
          go_wp2
          repeat (go_quiet (fail); try go_wp2)
          go_ret
          exact ⟨by first | rfl | (simp; done) | (simp [*]; done), by repeat (first | exact Drawn0.refl _ | apply Drawn0.step)⟩
  · rw [if_neg c3] at H
    have c3b0 : ((l0.length : Int) == (l1.length : Int)) = false := beq_eq_false_iff_ne.mpr c3
    have c3b1 : ((l0.length : Int) != (l1.length : Int)) = true := bne_iff_ne.mpr c3
    have c3b2 : (l0.length == l1.length) = false := by first | simpa using c3 | (simp at c3 ⊢; omega)
    obtain rfl := Option.some.inj H
    go_enter Try.func21, Try.ntmps21
    go_wp2
    repeat (go_quiet (fail); try go_wp2)
    go_ret
    exact ⟨by first | rfl | (simp; done) | (simp [*]; done), by repeat (first | exact Drawn0.refl _ | apply Drawn0.step)⟩

end Go.Proofs.Yteeapfmgdlcgfaa.A


namespace Go.Proofs.Yteeapfmgdlcgfaa.A
open Go.RowKit Go.Maps Go.Proofs.YteeapfmgdlcgfaaW.PrintWords Go.Proofs.YteeapfmgdlcgfaaW.PrintLast
set_option linter.unusedVariables false
set_option linter.unusedSimpArgs false

def Evt {α : Type} (g : Nat → Option α) (r : α) : Prop := ∃ K, ∀ k, K ≤ k → g k = some r
theorem Evt.const {α : Type} {x : Option α} {r : α} (h : x = some r) : Evt (fun _ => x) r := ⟨0, fun _ _ => h⟩
theorem Evt.step {α : Type} {f g : Nat → Option α} {r : α} (h : Evt g r) (e : ∀ k, f (k + 1) = g k) : Evt f r := by
  obtain ⟨K, h⟩ := h
  refine ⟨K + 1, fun k hk => ?_⟩
  obtain ⟨j, rfl⟩ : ∃ j, k = j + 1 := ⟨k - 1, by omega⟩
  rw [e]; exact h j (by omega)
theorem Evt.congr {α : Type} {f g : Nat → Option α} {r : α} (h : Evt g r) (e : ∀ k, f k = g k) : Evt f r := by
  obtain ⟨K, h⟩ := h
  exact ⟨K, fun k hk => (e k).trans (h k hk)⟩
theorem Evt.get {α : Type} {g : Nat → Option α} {r : α} (h : Evt g r) : ∃ k, g k = some r := by
  obtain ⟨K, h⟩ := h
  exact ⟨K, h K (Nat.le_refl _)⟩
theorem w64 {n : Int} (h1 : -1000000000000 ≤ n) (h2 : n ≤ 1000000000000) : wrap64 n = n := by unfold wrap64; omega
theorem wsucc {i : Nat} (h : i ≤ 1000000000) : wrap64 ((i : Int) + 1) = ((i + 1 : Nat) : Int) := by rw [w64 (by omega) (by omega)]; rfl
theorem ints_l0 (l : List Int) (hl : l.length ≤ 1000000) : ∀ (d i : Nat), i + d = l.length → Evt (fun k => swageref02_Ints.l0 k l l i) true
  | 0, i, hi => Evt.step (Evt.const rfl) fun k => by rw [swageref02_Ints.l0, if_neg (by omega)]
  | d + 1, i, hi => Evt.step (ints_l0 l hl d (i + 1) (by omega)) fun k => by
    rw [swageref02_Ints.l0, if_pos (by omega), if_pos (by omega), if_pos (by omega), if_pos rfl, wsucc (by omega)]
theorem ints_ev (l : List Int) (hl : l.length ≤ 1000000) : Evt (fun k => swageref02_Ints.f k l l) true := by
  unfold swageref02_Ints.f
  exact Evt.congr (ints_l0 l hl l.length 0 (by omega)) fun k => by rw [if_pos rfl]; rfl
/-- rows alike are found alike -/
theorem ints_same {w : World} {A A' : Option Addr} {c c' : Nat} (l : List Int) (hl : l.length ≤ 1000000) (h : Kd.C (Kd.int .i64) w A l.length l) (hc : l.length ≤ c) (h' : Kd.C (Kd.int .i64) w A' l.length l) (hc' : l.length ≤ c') :
    Calls Try.prog 21 #[.slice A l.length c, .slice A' l.length c'] w fun e w' => e = .returned (.bool true) ∧ Drawn0 w w' := by
  obtain ⟨k, hk⟩ := (ints_ev l hl).get
  exact swageref02_Ints.calls k A c l A' c' l true w h hc h' hc' hk

abbrev cellsI (l : List Int) : Obj := .cells (l.map (Value.int .i64)).toArray 3
theorem R_new_lit {α : Type} (d : Kd α) (W : World) (base e : Nat) {xs : List α} {inner : List Value} {ok okp : Nat → Prop}
    (hrep : Reps (d.M W base okp) d.sz xs inner) (hok : ∀ k, okp k → ok k) (hfresh : ok W.heap.size) (hbase : base ≤ W.heap.size) (hm : xs.length ≤ 9223372036854775807) :
    d.R e (W.alloc (.cells inner.toArray e)) base ok (.slice (some ⟨W.heap.size, 0, none⟩) xs.length xs.length) xs := by
  refine ⟨fun k hk => ?_, inner, ?_, ?_⟩
  · have : W.heap.size = k := by simpa [Value.ownBlock] using hk
    subst this
    exact hfresh
  · have h2 := World.ownsRow_lit (base := base) (e := e) (size := d.sz) W inner.toArray xs.length hbase (by simpa [maxLen] using hm) (by simpa using hrep.1)
    simpa using h2
  · refine hrep.imp_ (fun p c hp => d.M_mono (fun k hk => ⟨hok k hk.1, fun he => ?_⟩) (Kd.M_below (d.M_bound hp) (below_alloc (Below.refl _ _) _)))
    have : W.heap.size = k := by simpa [Value.ownBlock] using he.symm
    have := hk.2.2.1
    omega
theorem reps_ints {W : World} {base : Nat} {ok : Nat → Prop} (l : List Int) : Reps ((Kd.int .i64).M W base ok) (Kd.int .i64).sz l (l.map (Value.int .i64)) := by
  refine ⟨by rw [List.length_map]; show _ = l.length * 1; omega, fun j p hj => ?_⟩
  obtain ⟨h, rfl⟩ := List.getElem?_eq_some_iff.1 hj
  show ((l.map (Value.int .i64)).drop (j * 1)).take 1 = [Value.int .i64 l[j]]
  rw [Nat.mul_one, List.take_one, List.head?_drop, List.getElem?_map, hj]
  rfl
theorem lit_row (W : World) (l : List Int) (hl : l.length ≤ 1000) : Kd.R (Kd.int .i64) 3 (W.alloc (cellsI l)) W.heap.size (fun _ => True) (.slice (some ⟨W.heap.size, 0, none⟩) l.length l.length) l :=
  R_new_lit (Kd.int .i64) W W.heap.size 3 (ok := fun _ => True) (okp := fun _ => True) (reps_ints l) (fun _ h => h) trivial (Nat.le_refl _) (by omega)

theorem perm_of_sub {α : Type} [DecidableEq α] : ∀ {l m : List α}, l.Nodup → l ⊆ m → m.length ≤ l.length → m.Perm l
  | [], m, _, _, h => by
    have : m = [] := List.eq_nil_of_length_eq_zero (by simpa using h)
    subst this; exact List.Perm.refl _
  | a :: l, m, hn, hs, h => by
    have ha : a ∈ m := hs (by simp)
    have hn' := List.nodup_cons.1 hn
    have h1 := List.perm_cons_erase ha
    have h2 : l ⊆ m.erase a := fun x hx => by
      have hxa : x ≠ a := fun e => hn'.1 (e ▸ hx)
      rw [List.mem_erase_of_ne hxa]; exact hs (by simp [hx])
    have h3 : (m.erase a).length ≤ l.length := by rw [List.length_erase_of_mem ha]; simp at h; omega
    exact h1.trans ((perm_of_sub hn'.2 h2 h3).cons a)
theorem rising_eq {a b : List Int} (ha : Rising a) (hb : Rising b) (h : ∀ k, k ∈ a ↔ k ∈ b) : a = b := by
  have hna : a.Nodup := ha.imp (fun h e => by omega)
  have hnb : b.Nodup := hb.imp (fun h e => by omega)
  have hp : a.Perm b := by
    refine perm_of_sub hnb (fun x hx => (h x).2 hx) ?_ |>.trans (List.Perm.refl _)
    exact List.Nodup.length_le_of_subset hna (fun x hx => (h x).1 hx)
  exact List.Perm.eq_of_pairwise (le := (· < ·)) (fun x y _ _ h1 h2 => by omega) ha hb hp
theorem wfI {n : Int} (h0 : -1000000000000 ≤ n) (h1 : n ≤ 1000000000000) : κI.wf n := by
  show (Lit.int .i64 n).wf = true
  simp [Lit.wf, IntKind.min, IntKind.max, IntKind.signed, IntKind.bits]; omega
end Go.Proofs.Yteeapfmgdlcgfaa.A


namespace Go.Proofs
open Go.Shelf
def Try.keys73_ren : Go.Shelf.Ren := ⟨fun | 7 => 73 | 10 => 103 | n => n, fun | 23 => 114 | 26 => 3 | 3 => 36 | 28 => 78 | 0 => 0 | 27 => 77 | 33 => 43 | 4 => 4 | n => n, fun | n => n⟩
theorem Try.keys73 : Go.Proofs.SlLaysZI.n7 Try.prog Try.keys73_ren := {
  mixed := by kernel_rfl
  f7 := ⟨Try.f73.name, by decide, Try.func73.trans (congrArg some (by kernel_rfl))⟩
  f10 := ⟨Try.f103.name, by decide, Try.func103.trans (congrArg some (by kernel_rfl))⟩
  t0 := Try.underlying0
  a0 := Try.isAgg0
  z0 := Try.sizeOf0
  v0 := Try.zeroValue0
  t4 := Try.underlying4
  a4 := Try.isAgg4
  z4 := Try.sizeOf4
  v4 := Try.zeroValue4
  t23 := Try.underlying114
  a23 := Try.isAgg114
  z23 := Try.sizeOf114
  v23 := Try.zeroValue114
  t26 := Try.underlying3
  a26 := Try.isAgg3
  z26 := Try.sizeOf3
  v26 := Try.zeroValue3
  t27 := Try.underlying77
  a27 := Try.isAgg77
  z27 := Try.sizeOf77
  v27 := Try.zeroValue77
  t28 := Try.underlying78
  a28 := Try.isAgg78
  z28 := Try.sizeOf78
  v28 := Try.zeroValue78
  t33 := Try.underlying43
  a33 := Try.isAgg43
  z33 := Try.sizeOf43
  v33 := Try.zeroValue43 }
def Try.sorted72_ren : Go.Shelf.Ren := ⟨fun | 6 => 72 | 8 => 102 | 9 => 40 | 11 => 121 | 13 => 67 | 12 => 66 | 23 => 91 | 24 => 92 | 14 => 82 | 15 => 83 | 16 => 84 | 17 => 85 | 18 => 86 | 19 => 87 | 20 => 88 | 21 => 89 | 22 => 90 | 25 => 111 | 26 => 112 | 27 => 113 | 28 => 114 | 29 => 115 | 30 => 116 | 31 => 124 | n => n, fun | 26 => 3 | 28 => 78 | 24 => 36 | 0 => 0 | 3 => 3 | 37 => 111 | 48 => 136 | 50 => 138 | 4 => 4 | 40 => 130 | 39 => 129 | 45 => 32 | 5 => 5 | 9 => 9 | 51 => 148 | 55 => 152 | 57 => 158 | 58 => 159 | 33 => 43 | n => n, fun | n => n⟩
theorem Try.sorted72 : Go.Proofs.SlLaysZI.n6 Try.prog Try.sorted72_ren := {
  mixed := by kernel_rfl
  f6 := ⟨Try.f72.name, by decide, Try.func72.trans (congrArg some (by kernel_rfl))⟩
  f8 := ⟨Try.f102.name, by decide, Try.func102.trans (congrArg some (by kernel_rfl))⟩
  f11 := ⟨Try.f121.name, by decide, Try.func121.trans (congrArg some (by kernel_rfl))⟩
  t0 := Try.underlying0
  a0 := Try.isAgg0
  z0 := Try.sizeOf0
  v0 := Try.zeroValue0
  t24 := Try.underlying36
  a24 := Try.isAgg36
  z24 := Try.sizeOf36
  v24 := Try.zeroValue36
  t26 := Try.underlying3
  a26 := Try.isAgg3
  z26 := Try.sizeOf3
  v26 := Try.zeroValue3
  t28 := Try.underlying78
  a28 := Try.isAgg78
  z28 := Try.sizeOf78
  v28 := Try.zeroValue78
  i26 := by kernel_rfl }
end Go.Proofs


namespace Go.Proofs.Yteeapfmgdlcgfaa.A
open Go.RowKit Go.Maps Go.Sort Go.Shelf Go.Proofs.YteeapfmgdlcgfaaW.PrintWords Go.Proofs.YteeapfmgdlcgfaaW.PrintLast
set_option linter.unusedVariables false
set_option linter.unusedSimpArgs false

/-- a row's header -/
structure Hd where
  g : Nat
  n : Nat
  c : Nat
def Hd.val (h : Hd) : Value := .slice (some ⟨h.g, 0, none⟩) h.n h.c
def Hd.dat (h : Hd) : DU := .agg [.lit (.int .i64 h.g), .lit (.int .i64 h.n), .lit (.int .i64 h.c)]
def rdH : Value → Option (DU × List MemPlace)
  | .slice none 0 0 => some (.lit (.bool false), [])
  | .slice (some ⟨g, 0, none⟩) n c => some (.agg [.lit (.int .i64 g), .lit (.int .i64 n), .lit (.int .i64 c)], [])
  | _ => none
theorem rdH_mk (h : Hd) : rdH h.val = some (h.dat, []) := rfl
def hv : Option Hd → Value
  | none => .slice none 0 0
  | some h => h.val
def hd : Option Hd → DU
  | none => .lit (.bool false)
  | some h => h.dat
theorem rdH_inv {v : Value} {o : Option Hd} {ps : List MemPlace} (h : rdH v = some (hd o, ps)) : v = hv o := by
  unfold rdH at h
  split at h
  · cases o with
    | none => rfl
    | some x => simp [hd, Hd.dat] at h
  · cases o with
    | none => simp [hd] at h
    | some x =>
      simp [hd, Hd.dat] at h
      obtain ⟨⟨h1, h2⟩, _⟩ := h
      have h2 := h2
      obtain ⟨h2, h3⟩ := h2
      have e1 := Int.ofNat.inj h1
      have e2 := Int.ofNat.inj h2
      have e3 := Int.ofNat.inj h3
      show Value.slice _ _ _ = Value.slice _ _ _
      rw [e1, e2, e3]
  · cases h
structure ReadsH (D : DU) (f : Int → Option Hd) : Prop where
  tidy : Tidy D
  has : ∀ k : Int, Maps.has D (.int .i64 k) = (f k).isSome
  at_ : ∀ k : Int, D.atKey (.int .i64 k) (.lit (.bool false)) = hd (f k)
theorem isKeyI (k : Int) : WideAt.IsKeyLit (.int .i64 k) := κI_ok.isKey k
theorem ReadsH.put {D : DU} {f : Int → Option Hd} (h : ReadsH D f) (k : Int) (v : Hd) : ReadsH (D.put (.int .i64 k) v.dat) (updK f k v) := by
  refine ⟨h.tidy.put (isKeyI k) _, fun j => ?_, fun j => ?_⟩
  · by_cases hj : j = k
    · subst hj
      rw [has_put_same h.tidy.isMap (isKeyI j), updK_same]; rfl
    · rw [has_put_other (by simpa using hj), h.has j, updK_other hj]
  · by_cases hj : j = k
    · subst hj
      rw [atKey_put_same h.tidy.isMap (isKeyI j), updK_same]; rfl
    · rw [atKey_put_other (by simpa using hj), h.at_ j, updK_other hj]
/-- block b is a map of N rows' headers -/
def MapR (w : World) (b : Nat) (f : Int → Option Hd) (N : Nat) : Prop :=
  ∃ D : DU, w.ownsMap Try.prog 3 rdH b N D ∧ ReadsH D f ∧ Maps.size D = N ∧ ∀ k, (f k).isSome = true → κI.wf k
theorem MapR.lt {w : World} {b N : Nat} {f : Int → Option Hd} (h : MapR w b f N) : b < w.heap.size := by
  obtain ⟨D, h1, _⟩ := h; exact h1.lt
theorem MapR.same {w w' : World} {b N : Nat} {f : Int → Option Hd} (h : MapR w b f N) (hb : w'.heap[b]? = w.heap[b]?) : MapR w' b f N := by
  obtain ⟨D, ⟨es, clock, h1, h2⟩, h3⟩ := h
  exact ⟨D, ⟨es, clock, hb.trans h1, h2⟩, h3⟩
theorem MapR.made (w : World) : MapR (w.alloc (.map #[] 0)) w.heap.size (fun _ => none) 0 := ⟨.map [], World.ownsMap_made _ _ _ _, ⟨tidy_empty, fun _ => rfl, fun _ => rfl⟩, rfl, fun _ h => (nomatch h)⟩
theorem MapR.noCell {w : World} {b N : Nat} {f : Int → Option Hd} (h : MapR w b f N) {a : Addr} {v : Value} (hc : w.cell? a = some v) : a.block ≠ b := by
  intro e
  obtain ⟨D, ⟨es, clock, h1, _⟩, _⟩ := h
  unfold World.cell? at hc
  rw [e, h1] at hc
  cases hc
theorem zero36 (w : World) : (zeroValue 36).run Try.prog w = .ok (.slice none 0 0) w := by kernel_rfl
theorem MapR.look {w : World} {b N : Nat} {f : Int → Option Hd} (h : MapR w b f N) {k : Int} (hk : κI.wf k) :
    (Instr.lookup 114 (.map (some b)) (.int .i64 k) false).run Try.prog w = .ok (hv (f k)) w := by
  obtain ⟨D, h1, h2, h3, h4⟩ := h
  obtain ⟨v, ps, hrun, hv'⟩ := h1.lookup (int_keyed Try.underlying3) Try.underlying114 (zero36 w) (zd := .lit (.bool false)) (zp := []) rfl (κI_ok.key hk)
  rw [show κI.lit k = Lit.int .i64 k from rfl, h2.at_ k] at hv'
  rw [rdH_inv hv'] at hrun
  exact hrun
theorem MapR.store {w : World} {b N : Nat} {f : Int → Option Hd} (h : MapR w b f N) {k : Int} (hk : κI.wf k) (v : Hd) (hN : N < maxLen) :
    ∃ w1, (Instr.mapUpdate 114 (.map (some b)) (.int .i64 k) v.val).run Try.prog w = .ok () w1 ∧ MapR w1 b (updK f k v) (if (f k).isSome = true then N else N + 1) ∧ w.grownBy w1 (some b) := by
  obtain ⟨D, h1, h2, h3, h4⟩ := h
  obtain ⟨w1, r1, r2, r3⟩ := h1.store (int_keyed Try.underlying3) Try.underlying114 hN (κI_ok.key hk) (rdH_mk v)
  have e : Maps.size (D.put (.int .i64 k) v.dat) = if (f k).isSome = true then N else N + 1 := by rw [size_put h2.tidy, h2.has k, h3]
  refine ⟨w1, r1, ⟨_, ?_, h2.put k v, e, fun j hj => ?_⟩, r3.grown⟩
  · rw [← e]; exact owns_tight r2
  · by_cases ej : j = k
    · subst ej; exact hk
    · rw [updK_other ej] at hj; exact h4 j hj

theorem intKeys_of {D : DU} {s : Int → Bool} (hR : ∀ k : Int, Maps.has D (.int .i64 k) = s k) {R : Value → Option (DU × List MemPlace)} {w : World} {b n : Nat} (hown : w.ownsMap Try.prog 3 R b n D) : (intKeys D).Nodup ∧ (∀ k, k ∈ intKeys D ↔ s k = true) ∧ (intKeys D).length = Maps.size D := by
  obtain ⟨es, hD, hpw, _⟩ := hown.entries (int_keyed Try.underlying3)
  obtain ⟨es', hD', hko⟩ := hown.keysOf
  obtain rfl : es = es' := by rw [hD] at hD'; simpa using hD'
  subst hD
  have hk : ∀ p ∈ es, ∃ x, p.1 = Lit.int .i64 x := fun p hp => by
    obtain ⟨v, hv⟩ := hko p hp
    obtain ⟨x, _, hx, _⟩ := Maps.keyOf_i64 Try.underlying3 hv
    exact ⟨x, hx⟩
  refine ⟨?_, fun k => ?_, by simp [intKeys, size]⟩
  · show (es.map fun p => Go.intOf p.1).Nodup
    refine List.pairwise_map.2 (hpw.imp_of_mem fun {p q} hp' hq' hne e => hne ?_)
    obtain ⟨a, ha⟩ := hk p hp'
    obtain ⟨b, hb⟩ := hk q hq'
    rw [ha, hb] at e ⊢
    exact congrArg _ e
  · rw [← hR k, has_eq, List.any_eq_true]
    show k ∈ (es.map fun p => Go.intOf p.1) ↔ _
    rw [List.mem_map]
    constructor
    · rintro ⟨p, hp', rfl⟩
      obtain ⟨a, ha⟩ := hk p hp'
      exact ⟨p, hp', by rw [ha]; simp [Lit.sameKey, Go.intOf]⟩
    · rintro ⟨p, hp', hs⟩
      obtain ⟨a, ha⟩ := hk p hp'
      rw [ha] at hs
      exact ⟨p, hp', by rw [ha]; simpa [Lit.sameKey, Go.intOf] using hs⟩
theorem sorts72 (m : Nat) : AnyZI.SortsIn Try.prog Try.sorted72_ren Fence.wide m :=
  ⟨fun blk off cap ss W hH hblk hsz => callsIn_wide.2 (AnyM.slices_Sort_int Try.sort40 blk off cap ss W hH hblk hsz),
   fun p cap W => callsIn_wide.2 (AnyM.slices_Sort_int_none Try.sort40 p cap W)⟩
theorem sorted_keys (fn : Nat) (tm : TypeId) {ρ : Ren} (L : SlLaysZI.n10 Try.prog ρ) (hfn : ρ.f 10 = fn) (h3 : ρ.t 26 = 3) (hen : ∀ args w, (callFunc fn args).run Try.prog w = .ok (.enter fn args) w)
    (b n : Nat) (s : Int → Bool) (w : World) {R : Value → Option (DU × List MemPlace)} {D : DU} (hown : w.ownsMap Try.prog 3 R b n D) (hR : ∀ k : Int, Maps.has D (.int .i64 k) = s k) (hn : n ≤ 1000000) :
    Calls Try.prog 72 #[.func (.func fn) #[] #[.pointer (some ⟨w.heap.size, 0, none⟩)]] (w.alloc (.cells #[.map (some b)] tm)) fun e w' => ∃ (v : Value) (ks : List Int), e = .returned v ∧ Rising ks ∧ (∀ k, k ∈ ks ↔ s k = true) ∧ ks.length = Maps.size D ∧
      w'.ownsRow (w.heap.size + 1) 3 1 v ks.length (ks.map (Value.int .i64)) ∧ Below (w.heap.size + 1) (w.alloc (.cells #[.map (some b)] tm)) w' := by
  subst hfn
  have hbl := hown.lt
  have hsz := hown.size_le
  obtain ⟨hnd, hmem, hlen0⟩ := intKeys_of hR hown
  have hown' : (w.alloc (.cells #[.map (some b)] tm)).ownsMap Try.prog (ρ.t 26) R b n D := by
    rw [h3]
    obtain ⟨es, clock, hb, Ft, hs, hD⟩ := hown
    exact ⟨es, clock, (Below.heap_alloc _ _ b hbl).trans hb, Ft, hs, hD⟩
  have hseq : SeqGives Fence.wide 2 Try.prog (ρ.f 10) #[.pointer (some ⟨w.heap.size, 0, none⟩)] Go.encZ (fun ss => ss.Perm (intKeys D)) (Maps.size D) (w.alloc (.cells #[.map (some b)] tm)) :=
    AnyZI.keys_gives (ρ := ρ) L Fence.wide _ trivial rfl (by omega) w.heap.size b n D _ (by simp) (by simp) hown'
  have cS := AnyZI.sorted_in Try.sorted72 Fence.wide 5 trivial trivial trivial trivial rfl (by omega) (sorts72 _) (enters_of Try.func40 (by kernel_rfl) rfl) (ρ.f 10) #[.pointer (some ⟨w.heap.size, 0, none⟩)] trivial hen _ _ (by unfold maxLen; omega) (by omega) _ hseq
  refine ((callsIn_wide (n := 5)).1 cS).mono ?_
  rintro e w' ⟨v, ss, rfl, hS, hrow, hnil, hb⟩
  have hlen : ss.length = (ss.mergeSort fun x y => decide (x ≤ y)).length := by simp
  refine ⟨v, _, rfl, merge_rising (hS.nodup_iff.2 hnd), fun k => ?_, ?_, ?_, by simpa using hb⟩
  · rw [List.mem_mergeSort, hS.mem_iff, hmem]
  · rw [← hlen, hS.length_eq, hlen0]
  · rw [← hlen]
    rw [World.size_alloc] at hrow
    exact hrow
end Go.Proofs.Yteeapfmgdlcgfaa.A


namespace Go.Proofs.Yteeapfmgdlcgfaa.A
open Go.Deep Go.RowKit Go.Proofs.YteeapfmgdlcgfaaW.PrintWords Go.Proofs.YteeapfmgdlcgfaaW.PrintLast
set_option linter.unusedVariables false
set_option linter.unusedSimpArgs false

section
variable {H : Type} {enc : TypeId × Value → H} {P : Program} {w : World} {base : Nat} {α : Type} [Inhabited α]

def Opens (enc : TypeId × Value → H) (P : Program) (w : World) (base : Nat) (t : TypeId) (d : Kd α) (p : α → Prop) : Prop :=
  ∀ fuel cs x, DataW.trod enc P w base (fun _ => true) true fuel t cs = some x → ∃ y, d.K w y cs ∧ p y

theorem opens_slice {t e : TypeId} {d : Kd α} {p : α → Prop} (ht : P.underlying t = some (.slice e)) (hc : P.cellsOf e = d.sz) (ho : Opens enc P w base e d p) : Opens enc P w base t (Kd.slice e d) (fun xs => ∀ x ∈ xs, p x) := by
  intro fuel cs x h
  rcases open_slice ht h with ⟨rfl, _⟩ | ⟨a, len, cap, m, n, D, Pl, rfl, hb, hl, hm, hmm, _, hx⟩
  · exact ⟨[], ⟨none, 0, rfl, Nat.le_refl _, rfl, by simp, fun h => by simp at h⟩, fun x hx => by simp at hx⟩
  · simp only [if_true] at hmm
    obtain ⟨Y, hY⟩ := choose_lt (α := α) (n := len) (p := fun i y => p y ∧ ∃ c, d.K w y c ∧ ∀ j u, c[j]? = some u → w.cell? (a.add (i * d.sz + j)) = some u) (fun i hi => by
      obtain ⟨cs', h1, h2⟩ := hx i (by omega)
      obtain ⟨y, hy, hp⟩ := ho _ _ _ h2
      obtain ⟨_, hlen, hcell⟩ := World.cells?_some h1
      refine ⟨y, hp, cs', hy, fun j u hj => ?_⟩
      have hj' : j < cs'.length := (List.getElem?_eq_some_iff.1 hj).1
      have := hcell j (by omega)
      rw [hj, hc] at this
      rwa [Addr.add_add] at this)
    have hlen : ((List.range len).map Y).length = len := by simp
    refine ⟨(List.range len).map Y, ⟨some a, cap, by rw [hlen], by rw [hlen]; exact hl, hlen.trans hlen.symm, by rw [hlen]; unfold maxLen at hm; omega, fun _ => ⟨a, rfl, fun j y hj => ?_⟩⟩, fun y hy => ?_⟩
    · have hjl : j < len := by have := (List.getElem?_eq_some_iff.1 hj).1; omega
      rw [List.getElem?_map, List.getElem?_range hjl] at hj
      obtain rfl := Option.some.inj hj
      obtain ⟨_, c, hk, hcell⟩ := hY j hjl
      exact ⟨c, d.K_len hk, hk, hcell⟩
    · obtain ⟨i, hi, rfl⟩ := List.mem_map.1 hy
      exact (hY i (List.mem_range.1 hi)).1
omit [Inhabited α] in
/-- of a parameter: a slice -/
theorem opens_param {t e : TypeId} {d : Kd α} {p : List α → Prop} (ho : Opens enc P w base t (Kd.slice e d) p) {A : Option Addr} {len cap : Nat} {x : DataW H} {ps : List MemPlace} (h : DataW.Trod enc P w base (fun _ => true) true t (.slice A len cap) x ps) :
    ∃ xs : List α, len = xs.length ∧ xs.length ≤ cap ∧ d.C w A xs.length xs ∧ p xs := by
  obtain ⟨fuel, hf⟩ := h
  obtain ⟨xs, ⟨A', c', he, hl, hC⟩, hp⟩ := ho _ _ _ hf
  simp [Value.cells] at he
  obtain ⟨rfl, rfl, rfl⟩ := he
  exact ⟨xs, rfl, hl, hC, hp⟩
end

end Go.Proofs.Yteeapfmgdlcgfaa.A


namespace Go.Proofs.Yteeapfmgdlcgfaa.A
open Go.RowKit Go.Maps Go.Sort Go.Shelf Go.Proofs.YteeapfmgdlcgfaaW.PrintWords Go.Proofs.YteeapfmgdlcgfaaW.PrintLast
set_option linter.unusedVariables false
set_option linter.unusedSimpArgs false

/-- strings -/
abbrev Str := ByteArray
def κS : Kind Str := { t := 9, val := .string, lit := fun s => .string s.data.toList, wf := fun s => s.size ≤ maxLen, z := ⟨#[]⟩ }
end Go.Proofs.Yteeapfmgdlcgfaa.A


namespace Go.Proofs.Yteeapfmgdlcgfaa.A
open Go.RowKit Go.Maps Go.Sort Go.Shelf Go.Proofs.YteeapfmgdlcgfaaW.PrintWords Go.Proofs.YteeapfmgdlcgfaaW.PrintLast
set_option linter.unusedVariables false
set_option linter.unusedSimpArgs false

theorem own_cell {W : World} {base : Nat} {e : TypeId} {v : Value} {k : Nat} {xs : List Value} (h : W.ownsRow base e 1 v k xs) {j : Nat} {x : Value} (hj : xs[j]? = some x) (hjk : j < k) : ∃ g cap, v = .slice (some ⟨g, 0, none⟩) k cap ∧ W.cell? ⟨g, j, none⟩ = some x := by
  rcases h.2 with ⟨rfl, hz⟩ | ⟨g, cap, cur, rfl, hb, hgb, h1, h2, h3, h4⟩
  · omega
  · refine ⟨g, cap, rfl, ?_⟩
    have hx : cur.toList[j]? = some x := by
      rw [← hj, ← h4, List.getElem?_take_of_lt (by omega)]
    have hc : cur[j]? = some x := by rw [← Array.getElem?_toList]; exact hx
    unfold World.cell?
    rw [hgb]
    simpa using hc
end Go.Proofs.Yteeapfmgdlcgfaa.A


namespace Go.Proofs.Yteeapfmgdlcgfaa.A
open Go.RowKit Go.Maps Go.Proofs.YteeapfmgdlcgfaaW.PrintWords Go.Proofs.YteeapfmgdlcgfaaW.PrintLast
set_option linter.unusedVariables false
set_option linter.unusedSimpArgs false

theorem un_step {n bu bs : Nat} {w W W' : World} (h : Below n w W) (k : KeepsBut (UX bu bs) W W') (hn : n ≤ w.heap.size) (h1 : n ≤ bu) (h2 : n ≤ bs) : Below n w W' :=
  h.trans (k.below (Nat.le_trans hn h.size) (fun q hq hx => by rcases hx with rfl | rfl <;> omega))
theorem UN.alloc {p bu bs nu N : Nat} {E : Int → Int → Prop} {w : World} (h : UN κI w p bu bs nu N E) (o : Obj) : UN κI (w.alloc o) p bu bs nu N E := h.keep (KeepsBut.alloc (fun _ => False) w o) id id id
def T1 (x y : Int) : Prop := x = 3 ∧ y = 3
def T2 (x y : Int) : Prop := (x = 3 ∧ y = 3) ∨ ((x = 5 ∨ x = 2) ∧ (y = 5 ∨ y = 2))
def T3 (x y : Int) : Prop := (x = 3 ∧ y = 3) ∨ ((x = 5 ∨ x = 2 ∨ x = 9) ∧ (y = 5 ∨ y = 2 ∨ y = 9))
theorem t1 (x y : Int) : addE (fun _ _ => False) 3 x y ↔ T1 x y := by unfold addE T1; simp
theorem t2 (x y : Int) : joinE (addE (addE T1 5) 2) 5 2 x y ↔ T2 x y := by simp only [joinE, addE, T1, T2]; grind
theorem t3 (x y : Int) : joinE (addE (addE T2 2) 9) 2 9 x y ↔ T3 x y := by simp only [joinE, addE, T2, T3]; grind
theorem t4 (x y : Int) : joinE (addE (addE T3 9) 5) 9 5 x y ↔ T3 x y := by simp only [joinE, addE, T3]; grind

set_option maxRecDepth 100000 in
set_option maxHeartbeats 4000000 in
theorem small_calls (w : World) : Calls Try.prog 9 #[] w fun e w' => e = .returned (.bool true) ∧ Below w.heap.size w w' := by
  go_enter Try.func9, Try.ntmps9
  go_wp2_with fail
  refine (new_un w).mono ?_
  rintro e w0 ⟨p, bu, bs, rfl, hp, hbu, hbs, h0, hB0⟩
  have hadd := add_un w0 h0 (k := 3) (wfI (by omega) (by omega)) (by omega) (by omega)
  go_wp2_with fail
  refine hadd.mono ?_
  clear hadd
  rintro e w1 ⟨r, rfl, hr, h1, k1⟩
  obtain rfl : r = true := hr.2 id
  have h1 := h1.congr t1
  have hB1 := un_step hB0 k1 (Nat.le_refl _) hbu hbs
  clear h0 hB0 k1 hr
  have hj := join_un w1 h1 (a := 5) (b := 2) (wfI (by omega) (by omega)) (wfI (by omega) (by omega)) (by decide) (by decide)
  go_wp2_with fail
  refine hj.mono ?_
  clear hj
  rintro e w2 ⟨ra, rb, r, rfl, hra, hrb, hr, h2, k2⟩
  obtain rfl : ra = true := hra.2 (by simp [T1])
  obtain rfl : rb = true := hrb.2 (by simp [addE, T1])
  obtain rfl : r = true := hr.2 (by simp [addE, T1])
  have h2 := h2.congr t2
  have hB2 := un_step hB1 k2 (Nat.le_refl _) hbu hbs
  clear h1 hB1 k2 hr hra hrb
  have hj := join_un w2 h2 (a := 2) (b := 9) (wfI (by omega) (by omega)) (wfI (by omega) (by omega)) (by decide) (by decide)
  go_wp2_with fail
  refine hj.mono ?_
  clear hj
  rintro e w3 ⟨ra, rb, r, rfl, hra, hrb, hr, h3, k3⟩
  obtain rfl : ra = false := by cases ra; rfl; exact absurd (by simp [T2]) (hra.1 rfl)
  obtain rfl : rb = true := hrb.2 (by simp [addE, T2])
  obtain rfl : r = true := hr.2 (by simp [addE, T2])
  have h3 := h3.congr t3
  have hB3 := un_step hB2 k3 (Nat.le_refl _) hbu hbs
  clear h2 hB2 k3 hr hra hrb
  have hj := join_un w3 h3 (a := 9) (b := 5) (wfI (by omega) (by omega)) (wfI (by omega) (by omega)) (by decide) (by decide)
  go_wp2_with fail
  refine hj.mono ?_
  clear hj
  rintro e w4 ⟨ra, rb, r, rfl, hra, hrb, hr, h4, k4⟩
  obtain rfl : ra = false := by cases ra; rfl; exact absurd (by simp [T3]) (hra.1 rfl)
  obtain rfl : rb = false := by cases rb; rfl; exact absurd (by simp [addE, T3]) (hrb.1 rfl)
  obtain rfl : r = false := by cases r; rfl; exact absurd (by simp [addE, T3]) (hr.1 rfl)
  have h4 := h4.congr t4
  have hB4 := un_step hB3 k4 (Nat.le_refl _) hbu hbs
  simp only [Bool.toNat_true, Bool.toNat_false, Nat.zero_add, Nat.add_zero, Nat.reduceAdd, Nat.reduceSub] at h4
  clear h3 hB3 k4 hr hra hrb
  have hf := find_un w4 h4 (k := 9) (wfI (by omega) (by omega)) (by decide)
  go_wp2_with fail
  refine hf.mono ?_
  clear hf
  rintro e w5 ⟨m, r, rfl, hr1, hr2, h5, k5⟩
  obtain rfl : r = true := by
    cases r with
    | true => rfl
    | false => exact absurd (by simp [T3]) ((hr2 rfl).2 9)
  obtain rfl : m = 2 := by
    have g1 := (hr1 rfl).1
    have g2 := (hr1 rfl).2 2 (by simp [T3])
    simp only [T3] at g1
    omega
  have hB5 := un_step hB4 k5 (Nat.le_refl _) hbu hbs
  clear h4 hB4 k5 hr1 hr2
  have hc := class_un w5 h5 (k := 5) (wfI (by omega) (by omega)) (by decide)
  go_wp2_with fail
  refine hc.mono ?_
  clear hc
  rintro e w6 ⟨v, ks, rfl, hk1, hk2, hk30, h6, k6⟩
  have hk3 : Kd.R (Kd.int .i64) 3 w6 w5.heap.size (fun _ => True) v ks := Kd.R_of_own hk30 (fun _ _ => trivial)
  clear hk30
  obtain rfl : ks = [2, 5, 9] := rising_eq hk1 (by unfold Rising; decide) (fun x => by rw [hk2]; simp only [T3, List.mem_cons, List.not_mem_nil]; grind)
  have hB6 := un_step hB5 k6 (Nat.le_refl _) hbu hbs
  obtain ⟨A, c, rfl⟩ := Kd.R_slice hk3
  have hcA := (Kd.R_reads' hk3).2.1
  have hCA := Kd.C_alloc (Kd.R_reads' hk3).2.2 (cellsI [2, 5, 9])
  have hq : Calls Try.prog 21 #[.slice A 3 c, .slice (some ⟨w6.heap.size, 0, none⟩) 3 3] (w6.alloc (.cells #[.int .i64 2, .int .i64 5, .int .i64 9] 3)) fun e w' => e = .returned (.bool true) ∧ Drawn0 (w6.alloc (.cells #[.int .i64 2, .int .i64 5, .int .i64 9] 3)) w' :=
    ints_same [2, 5, 9] (by decide) hCA hcA (Kd.R_reads' (lit_row w6 [2, 5, 9] (by decide))).2.2 (by decide)
  have h6' := h6.alloc (cellsI [2, 5, 9])
  have hB6' := below_alloc hB6 (cellsI [2, 5, 9])
  clear h5 hB5 k6 hk1 hk2 hk3 hcA hCA h6 hB6
  go_wp2_with fail
  refine hq.mono ?_
  clear hq
  rintro e w7 ⟨rfl, ⟨q, rfl⟩⟩
  have h7 : UN κI ((w6.alloc (.cells #[.int .i64 2, .int .i64 5, .int .i64 9] 3)).drewN q) p bu bs 4 2 T3 := h6'.keep (X := fun _ => False) ⟨rfl, rfl, rfl, Nat.le_refl _, fun _ _ _ => rfl⟩ id id id
  have hB7 : Below w.heap.size w ((w6.alloc (.cells #[.int .i64 2, .int .i64 5, .int .i64 9] 3)).drewN q) := hB6'.trans (pw_below_drewN (Below.refl _ _) q)
  generalize (w6.alloc (.cells #[.int .i64 2, .int .i64 5, .int .i64 9] 3)).drewN q = W7 at h7 hB7 ⊢
  clear h6' hB6'
  have hl := len_un W7 h7
  go_wp2_with fail
  refine hl.mono ?_
  clear hl
  rintro e w' ⟨rfl, rfl⟩
  have hs := same_un w' h7 (a := 2) (b := 9) (wfI (by omega) (by omega)) (wfI (by omega) (by omega)) (by decide)
  go_wp2_with fail
  refine hs.mono ?_
  clear hs
  rintro e w8 ⟨r, rfl, hr, h8, k8⟩
  obtain rfl : r = true := hr.2 (by simp [T3])
  have hB8 := un_step hB7 k8 (Nat.le_refl _) hbu hbs
  clear h7 hB7 k8 hr
  have hs := same_un w8 h8 (a := 3) (b := 2) (wfI (by omega) (by omega)) (wfI (by omega) (by omega)) (by decide)
  go_wp2_with fail
  refine hs.mono ?_
  clear hs
  rintro e w9 ⟨r, rfl, hr, h9, k9⟩
  obtain rfl : r = false := by cases r; rfl; exact absurd (hr.1 rfl) (by simp [T3])
  have hB9 := un_step hB8 k9 (Nat.le_refl _) hbu hbs
  clear h8 hB8 k9 hr
  have hs := same_un w9 h9 (a := 7) (b := 7) (wfI (by omega) (by omega)) (wfI (by omega) (by omega)) (by decide)
  go_wp2_with fail
  refine hs.mono ?_
  clear hs
  rintro e w10 ⟨r, rfl, hr, h10, k10⟩
  obtain rfl : r = false := by cases r; rfl; exact absurd (hr.1 rfl) (by simp [T3])
  have hB10 := un_step hB9 k10 (Nat.le_refl _) hbu hbs
  clear h9 hB9 k10 hr
  go_wp2
  go_ret
  exact ⟨rfl, hB10⟩
end Go.Proofs.Yteeapfmgdlcgfaa.A


namespace Go.Proofs.Yteeapfmgdlcgfaa.A
open Go.Deep Go.RowKit Go.Maps Go.Sort Go.Shelf Go.Proofs.YteeapfmgdlcgfaaW.PrintWords Go.Proofs.YteeapfmgdlcgfaaW.PrintLast
set_option linter.unusedVariables false
set_option linter.unusedSimpArgs false

structure S28 where
  f0 : Int
  f1 : Int
def z28 : S28 := ⟨(0 : Int), (0 : Int)⟩
def k28 : Kd S28 := Kd.iso (Kd.pair (Kd.int .i64) (Kd.int .i64)) (fun x : S28 => (x.f0, x.f1))
theorem k28_open {w : World} {x : S28} {cs : List Value} (h : k28.K w x cs) : cs = [.int .i64 x.f0, .int .i64 x.f1] := by
  obtain ⟨_, _, rfl, rfl, rfl⟩ := h
  exact rfl
theorem k28_mk (w : World) (x : S28) : k28.K w x [.int .i64 x.f0, .int .i64 x.f1] := ⟨[.int .i64 x.f0], [.int .i64 x.f1], rfl, rfl, rfl⟩
def rd_T28 (xs : List S28) (i : Int) : S28 := xs.getD i.toNat z28
theorem at_T28 {w : World} {A : Option Addr} {n : Nat} {xs : List S28} (h : Kd.C k28 w A n xs) (i : Int) (h0 : 0 ≤ i) (h1 : i < n) : ∃ ad , A = some ad ∧ w.cell? (ad.add (i.toNat * 2)) = some (.int .i64 (rd_T28 xs i).f0) ∧ w.cell? ⟨(ad.add (i.toNat * 2)).block, (ad.add (i.toNat * 2)).off + 1, none⟩ = some (.int .i64 (rd_T28 xs i).f1) := by
  obtain ⟨ad, c, e, _, hK, hc0⟩ := Kd.C_get h z28 i h0 h1
  have hc : ∀ j u, c[j]? = some u → w.cell? (ad.add (i.toNat * 2 + j)) = some u := hc0
  obtain rfl := k28_open hK
  exact ⟨ad, e, hc 0 _ rfl, by rw [← add_field _ _ 1 (by omega)]; exact hc 1 _ rfl⟩
instance : Inhabited S28 := ⟨z28⟩
set_option maxRecDepth 100000 in
theorem opens_pair {H : Type} {enc : TypeId × Value → H} {w : World} {base : Nat} : Opens enc Try.prog w base 28 k28 (fun x => κI.wf x.f0 ∧ κI.wf x.f1) := by
  intro fuel cs x h
  obtain ⟨xs, n, _, _, hl, hlen, hf⟩ := DataW.trod_array Try.underlying28 h
  have hl' : cs.length = 2 := hl.trans (by kernel_rfl)
  match cs, hl' with
  | [c0, c1], _ =>
    have h0 := hf 0 (by omega)
    have h1 := hf 1 (by omega)
    rw [show Try.prog.cellsOf 3 = 1 by kernel_rfl] at h0 h1
    rw [List.getElem?_eq_getElem (by omega)] at h0 h1
    obtain ⟨m0, e0, _, w0⟩ := DataW.trod_int Try.underlying3 h0
    obtain ⟨m1, e1, _, w1⟩ := DataW.trod_int Try.underlying3 h1
    have e0' : c0 = .int .i64 m0 := by simpa using e0
    have e1' : c1 = .int .i64 m1 := by simpa using e1
    subst e0' e1'
    exact ⟨⟨m0, m1⟩, k28_mk w ⟨m0, m1⟩, w0, w1⟩
theorem opens_pairs {H : Type} {enc : TypeId × Value → H} {w : World} {base : Nat} : Opens enc Try.prog w base 22 (Kd.slice 28 k28) (fun xs => ∀ x ∈ xs, κI.wf x.f0 ∧ κI.wf x.f1) := opens_slice Try.underlying22 (by kernel_rfl) opens_pair

def nm (n : Int) : Str := strOfNums (([(wrap64 (97 + (Int.tmod (wrap64 (Int.tdiv n 26)) 26))) % 256, (wrap64 (97 + (Int.tmod n 26))) % 256] : List Int))
/-- a relation of numbers, of their names -/
def Img (E : Int → Int → Prop) (s t : Str) : Prop := ∃ a b, s = nm a ∧ t = nm b ∧ E a b
end Go.Proofs.Yteeapfmgdlcgfaa.A


namespace Go.Proofs.Yteeapfmgdlcgfaa.A
open Go.Deep Go.RowKit Go.Maps Go.Sort Go.Shelf Go.Proofs.YteeapfmgdlcgfaaW.PrintWords Go.Proofs.YteeapfmgdlcgfaaW.PrintLast
set_option linter.unusedVariables false
set_option linter.unusedSimpArgs false

theorem UN.keepB {K : Type} {κ : Kind K} {w w' : World} {p bu bs nu N : Nat} {E : K → K → Prop} (h : UN κ w p bu bs nu N E) (hb : Below w.heap.size w w') : UN κ w' p bu bs nu N E := h.keep (keeps_below hb (fun _ => False)) id id id
theorem own_shape {W : World} {base : Nat} {e : TypeId} {v : Value} {k : Nat} {xs : List Value} (h : W.ownsRow base e 1 v k xs) : ∃ A c, v = .slice A k c := by
  rcases h.2 with ⟨rfl, hz⟩ | ⟨g, cap, cur, rfl, _⟩
  · exact ⟨none, 0, by rw [hz]⟩
  · exact ⟨_, _, rfl⟩
theorem own_at {W : World} {base : Nat} {e : TypeId} {A : Option Addr} {c k : Nat} {xs : List Value} (h : W.ownsRow base e 1 (.slice A k c) k xs) {j : Nat} {x : Value} (hj : xs[j]? = some x) (hjk : j < k) : ∃ ad, A = some ad ∧ W.cell? (ad.add j) = some x := by
  obtain ⟨g, cap, e1, hc⟩ := own_cell h hj hjk
  injection e1 with e1 _ e2
  refine ⟨_, e1, ?_⟩
  have : (⟨g, 0, none⟩ : Addr).add j = ⟨g, j, none⟩ := by
    by_cases h0 : j = 0
    · subst h0; rfl
    · simp [Addr.add, h0]
  rw [this]; exact hc
theorem own_below {W W' : World} {base : Nat} {e : TypeId} {v : Value} {k : Nat} {xs : List Value} (h : W.ownsRow base e 1 v k xs) (hb : Below W.heap.size W W') : W'.ownsRow base e 1 v k xs := own_keep h (keeps_below hb (fun _ => False)) (fun _ _ => id)
/-- what the inner loop keeps -/
structure NJ (w : World) (px bux bsx py buy bsy : Nat) (nu N : Nat) (E : Int → Int → Prop) (l : List Int) (vl vm : Value) (bl bm : Nat) (W : World) : Prop where
  x : UN κI W px bux bsx nu N E
  y : UN κS W py buy bsy nu N (Img E)
  below : Below w.heap.size w W
  rl : W.ownsRow bl 3 1 vl l.length (l.map (Value.int .i64))
  rm : W.ownsRow bm 9 1 vm l.length (l.map fun a => Value.string (nm a))
theorem NJ.step {w W W' : World} {px bux bsx py buy bsy nu N : Nat} {E : Int → Int → Prop} {l : List Int} {vl vm : Value} {bl bm : Nat} (h : NJ w px bux bsx py buy bsy nu N E l vl vm bl bm W) (hb : Below W.heap.size W W') : NJ w px bux bsx py buy bsy nu N E l vl vm bl bm W' :=
  ⟨h.x.keepB hb, h.y.keepB hb, below_step h.below hb, own_below h.rl hb, own_below h.rm hb⟩
end Go.Proofs.Yteeapfmgdlcgfaa.A


namespace Go.Proofs.Yteeapfmgdlcgfaa.A
open Go.RowKit Go.Maps Go.Sort Go.Shelf Go.Proofs.YteeapfmgdlcgfaaW.PrintWords Go.Proofs.YteeapfmgdlcgfaaW.PrintLast
set_option linter.unusedVariables false
set_option linter.unusedSimpArgs false

theorem rdH_cases {v : Value} {y : DU × List MemPlace} (h : rdH v = some y) : ∃ o : Option Hd, v = hv o := by
  unfold rdH at h
  split at h
  · exact ⟨none, rfl⟩
  · exact ⟨some ⟨_, _, _⟩, rfl⟩
  · cases h
/-- rows whose headers a map holds -/
structure RowsAt (W : World) (base : Nat) (f : Int → Option Hd) (H : Int → List Int) : Prop where
  no : ∀ r, f r = none → H r = []
  own : ∀ r h, f r = some h → base ≤ h.g ∧ h.n = (H r).length ∧ H r ≠ [] ∧ W.ownsRow base 3 1 h.val (H r).length ((H r).map (Value.int .i64))
  apart : ∀ r s h k, f r = some h → f s = some k → h.g = k.g → r = s
theorem RowsAt.keep {W W' : World} {base : Nat} {f : Int → Option Hd} {H : Int → List Int} (h : RowsAt W base f H) {X : Nat → Prop} (hk : KeepsBut X W W') (hx : ∀ r k, f r = some k → ¬ X k.g) : RowsAt W' base f H := by
  refine ⟨h.no, fun r k hr => ?_, h.apart⟩
  obtain ⟨h1, h2, h3, h4⟩ := h.own r k hr
  refine ⟨h1, h2, h3, ?_⟩
  refine ⟨h4.1, ?_⟩
  rcases h4.2 with h0 | ⟨g, cap, cur, hv, hb, hgb, hr'⟩
  · exact .inl h0
  · have hg : g = k.g := by
      unfold Hd.val at hv
      injection hv with e1
      injection e1 with e1
      injection e1 with e1
      exact e1.symm
    subst hg
    exact .inr ⟨k.g, cap, cur, hv, hb, (hk.block k.g (Array.getElem?_eq_some_iff.1 hgb).1 (hx r k hr)).trans hgb, hr'⟩
theorem RowsAt.lt {W : World} {base : Nat} {f : Int → Option Hd} {H : Int → List Int} (h : RowsAt W base f H) {r : Int} {k : Hd} (hr : f r = some k) : k.g < W.heap.size := by
  obtain ⟨h1, h2, h3, h4⟩ := h.own r k hr
  rcases h4.2 with ⟨h0, _⟩ | ⟨g, cap, cur, hv, hb, hgb, hr'⟩
  · unfold Hd.val at h0; cases h0
  · unfold Hd.val at hv
    injection hv with e1
    injection e1 with e1
    injection e1 with e1
    rw [e1]
    exact (Array.getElem?_eq_some_iff.1 hgb).1
/-- a row is not a map -/
theorem RowsAt.cells {W : World} {base : Nat} {f : Int → Option Hd} {H : Int → List Int} (h : RowsAt W base f H) {r : Int} {k : Hd} (hr : f r = some k) : ∃ cur : Array Value, W.heap[k.g]? = some (.cells cur 3 (0, 0)) := by
  obtain ⟨h1, h2, h3, h4⟩ := h.own r k hr
  rcases h4.2 with ⟨h0, _⟩ | ⟨g, cap, cur, hv, hb, hgb, hr'⟩
  · unfold Hd.val at h0; cases h0
  · unfold Hd.val at hv
    injection hv with e1
    injection e1 with e1
    injection e1 with e1
    rw [e1]
    exact ⟨cur, hgb⟩
def gupd (H : Int → List Int) (k x : Int) : Int → List Int := fun j => if j = k then H k ++ [x] else H j
/-- a row that a map holds is appended to, and its header is stored anew -/
theorem RowsAt.more {W W1 : World} {base : Nat} {f : Int → Option Hd} {H : Int → List Int} (h : RowsAt W base f H) {r x : Int} {v' : Value}
    (hrow : W1.ownsRow base 3 1 v' ((H r).length + 1) ((H r).map (Value.int .i64) ++ [.int .i64 x])) (hg : W.grownBy W1 (hv (f r)).ownBlock) (hat : v'.ownBlock = (hv (f r)).ownBlock ∨ v'.ownBlock = some W.heap.size) :
    ∃ k : Hd, v' = k.val ∧ RowsAt W1 base (updK f r k) (gupd H r x) ∧ (∀ s q, f s = some q → s ≠ r → q.g ≠ k.g) ∧ base ≤ k.g := by
  obtain ⟨g, cap, cur, hv', hb, hgb, h1, h2, h3, h4⟩ := hrow.2.resolve_left (fun ⟨_, e⟩ => by omega)
  have hold : ∀ s q, f s = some q → s ≠ r → q.g ≠ g := fun s q hs hne e => by
    have hlt := h.lt hs
    rw [hv'] at hat
    rcases hat with e1 | e1
    · cases hf : f r with
      | none => rw [hf] at e1; simp [hv, Value.ownBlock] at e1
      | some k =>
        rw [hf] at e1
        have : g = k.g := by simpa [hv, Hd.val, Value.ownBlock] using e1
        exact hne (h.apart s r q k hs hf (by rw [e, this]))
    · have : g = W.heap.size := by simpa [Value.ownBlock] using e1
      omega
  refine ⟨⟨g, (H r).length + 1, cap⟩, hv', ⟨fun s hs => ?_, fun s k hs => ?_, fun s t k q hs ht e => ?_⟩, hold, hb⟩
  · by_cases es : s = r
    · subst es; rw [updK_same] at hs; cases hs
    · rw [updK_other es] at hs
      unfold gupd; rw [if_neg es]; exact h.no s hs
  · by_cases es : s = r
    · subst es
      rw [updK_same] at hs
      obtain rfl := Option.some.inj hs
      unfold gupd
      rw [if_pos rfl]
      refine ⟨hb, by simp, by simp, ?_⟩
      rw [List.length_append, List.map_append]
      rw [hv'] at hrow
      exact hrow
    · rw [updK_other es] at hs
      unfold gupd; rw [if_neg es]
      obtain ⟨a1, a2, a3, a4⟩ := h.own s k hs
      refine ⟨a1, a2, a3, a4.kept hg (.inr fun e => ?_)⟩
      cases hf : f r with
      | none => rw [hf] at e; simp [hv, Hd.val, Value.ownBlock] at e
      | some q =>
        rw [hf] at e
        have : k.g = q.g := by simpa [hv, Hd.val, Value.ownBlock] using e
        exact es (h.apart s r k q hs hf this)
  · by_cases es : s = r
    · by_cases et : t = r
      · rw [es, et]
      · subst es
        rw [updK_same] at hs
        rw [updK_other et] at ht
        obtain rfl := Option.some.inj hs
        exact absurd e.symm (hold t q ht et)
    · by_cases et : t = r
      · subst et
        rw [updK_same] at ht
        rw [updK_other es] at hs
        obtain rfl := Option.some.inj ht
        exact absurd e (hold s k hs es)
      · rw [updK_other es] at hs
        rw [updK_other et] at ht
        exact h.apart s t k q hs ht e

/-- of the first i keys, those whose root is r -/
noncomputable def under (U : Int → Option Int) (r : Int) (l : List Int) : List Int := l.filter fun x => @decide (∃ d, To U d x r) (Classical.propDecidable _)
theorem under_mem {U : Int → Option Int} {r x : Int} {l : List Int} : x ∈ under U r l ↔ x ∈ l ∧ ∃ d, To U d x r := by unfold under; rw [List.mem_filter]; simp
theorem under_snoc {U : Int → Option Int} {x r : Int} {d : Nat} (h : To U d x r) (l : List Int) : (fun s => under U s (l ++ [x])) = gupd (fun s => under U s l) r x := by
  funext s
  unfold under gupd
  rw [List.filter_append]
  by_cases e : s = r
  · subst e
    rw [if_pos rfl, List.filter_cons]
    have : ∃ d, To U d x s := ⟨d, h⟩
    simp [this]
  · rw [if_neg e, List.filter_cons]
    have : ¬ ∃ d, To U d x s := fun ⟨d', h'⟩ => e (h'.det h).2
    simp [this]
theorem RowsAt.alloc {W : World} {base : Nat} {f : Int → Option Hd} {H : Int → List Int} (h : RowsAt W base f H) (o : Obj) : RowsAt (W.alloc o) base f H := h.keep (KeepsBut.alloc (fun _ => False) W o) (fun _ _ _ => id)
theorem RowsAt.row {W : World} {base : Nat} {f : Int → Option Hd} {H : Int → List Int} (h : RowsAt W base f H) (r : Int) : W.ownsRow base 3 1 (hv (f r)) (H r).length ((H r).map (Value.int .i64)) := by
  cases hf : f r with
  | none => rw [h.no r hf]; exact World.ownsRow_nil _ _ _ _
  | some k => exact (h.own r k hf).2.2.2
theorem MapR.block {w : World} {b N : Nat} {f : Int → Option Hd} (h : MapR w b f N) : ∃ es clock, w.heap[b]? = some (.map es clock) := by
  obtain ⟨D, ⟨es, clock, h1, _⟩, _⟩ := h; exact ⟨es, clock, h1⟩
theorem hd_inj {a b : Option Hd} (h : hd a = hd b) : a = b := by
  have h1 : rdH (hv a) = some (hd a, []) := by cases a <;> rfl
  have h2 := rdH_inv (o := b) (v := hv a) (ps := []) (by rw [h1, h])
  cases a with
  | none => cases b with
    | none => rfl
    | some k => exact absurd h2 (by simp [hv, Hd.val])
  | some q => cases b with
    | none => exact absurd h2 (by simp [hv, Hd.val])
    | some k =>
      cases q; cases k
      simp [hv, Hd.val] at h2
      obtain ⟨rfl, rfl, rfl⟩ := h2
      rfl
theorem rdH_hv (o : Option Hd) : rdH (hv o) = some (hd o, []) := by cases o <;> rfl
/-- what the second loop keeps -/
structure CB (p bu bs nu N : Nat) (U Z : Int → Option Int) (ks : List Int) (bR bo it nR : Nat) (D : DU) (f : Int → Option Hd) (w2 : World) (W : World) : Prop where
  ex : ∃ (U' : Int → Option Int) (left : Lit → Bool) (cnt : Nat) (fo : Int → Option Hd) (nF : Nat), Uni κI W p bu bs nu N U' Z ∧ Halved U U' ∧ W.ranges Try.prog 3 rdH bR it nR D left cnt ∧ MapR W bo fo nF ∧ nF + cnt ≤ nR ∧
    (∀ r k, f r = some k → left (.int .i64 r) = false → ∃ m, (under U r ks).head? = some m ∧ fo m = some k) ∧
    (∀ m k, fo m = some k → ∃ r, f r = some k ∧ left (.int .i64 r) = false ∧ (under U r ks).head? = some m)
  rows : RowsAt W w2.heap.size f (fun r => under U r ks)
  low : KeepsBut (fun b => UX bu bs b ∨ b = bR ∨ w2.heap.size ≤ b) w2 W
open Classical in
/-- the root of one -/
noncomputable def rootOf (U : Int → Option Int) (x : Int) : Int := if h : ∃ r d, To U d x r then h.choose else 0
theorem rootOf_eq {U : Int → Option Int} {d : Nat} {x r : Int} (h : To U d x r) : rootOf U x = r := by
  unfold rootOf
  have hx : ∃ r d, To U d x r := ⟨r, d, h⟩
  rw [dif_pos hx]
  obtain ⟨d', h'⟩ := hx.choose_spec
  exact (h'.det h).2
theorem under_pick {U : Int → Option Int} {d : Nat} {m r : Int} (h : To U d m r) (ks : List Int) : under U r ks = pick U m ks := by
  unfold under pick
  congr 1
  funext x
  apply decide_eq_decide.2
  constructor
  · rintro ⟨e, g⟩; exact ⟨r, e, d, g, h⟩
  · rintro ⟨r', e, d', g, g'⟩
    obtain rfl := (g'.det h).2
    exact ⟨e, g⟩
theorem classes_end {p bu bs nu N nF : Nat} {U U2 Z : Int → Option Int} {w w2 W : World} {ks : List Int} {f fo : Int → Option Hd} {bo base : Nat} (hF : Forest U Z) (hks1 : Rising ks) (hks2 : ∀ k, k ∈ ks ↔ (U k).isSome = true)
    (hU : Uni κI W p bu bs nu N U2 Z) (hh : Halved U U2) (hMo : MapR W bo fo nF) (hRows : RowsAt W base f (fun r => under U r ks))
    (hdn : ∀ r k, f r = some k → ∃ m, (under U r ks).head? = some m ∧ fo m = some k) (hfo : ∀ m k, fo m = some k → ∃ r, f r = some k ∧ (under U r ks).head? = some m) :
    ∃ G : Int → List Int, MapR W bo fo N ∧ RowsAt W base fo G ∧ (∀ m, (fo m).isSome = true → (∃ tl, G m = m :: tl) ∧ Rising (G m) ∧ ∀ x, x ∈ G m ↔ Eq2 U x m) ∧ (∀ x, (U x).isSome = true → ∃ m, (fo m).isSome = true ∧ Eq2 U x m) := by
  have hto : ∀ m k, fo m = some k → ∃ r d, f r = some k ∧ (under U r ks).head? = some m ∧ To U d m r := fun m k hm => by
    obtain ⟨r, h1, h2⟩ := hfo m k hm
    obtain ⟨d, hd⟩ := (under_mem.1 (List.mem_of_mem_head? (by rw [h2]; rfl) : m ∈ under U r ks)).2
    exact ⟨r, d, h1, h2, hd⟩
  have hcov : ∀ x, (U x).isSome = true → ∃ m r d e, (fo m).isSome = true ∧ To U d x r ∧ To U e m r := fun x hx => by
    obtain ⟨j, hj⟩ := Option.isSome_iff_exists.1 hx
    obtain ⟨d, r, hr⟩ := hF.up x j hj
    have hxu : x ∈ under U r ks := under_mem.2 ⟨(hks2 x).2 hx, d, hr⟩
    cases hf : f r with
    | none => have := hRows.no r hf; rw [this] at hxu; cases hxu
    | some k =>
      obtain ⟨m, h1, h2⟩ := hdn r k hf
      obtain ⟨e, he⟩ := (under_mem.1 (List.mem_of_mem_head? (by rw [h1]; rfl) : m ∈ under U r ks)).2
      exact ⟨m, r, d, e, by rw [h2]; rfl, hr, he⟩
  have hN : nF = N := by
    obtain ⟨D1, o1, r1, s1, _⟩ := hMo
    obtain ⟨D2, o2, r2, s2, _⟩ := hU.ms
    obtain ⟨n1, m1, l1⟩ := intKeys_of r1.has o1
    obtain ⟨n2, m2, l2⟩ := intKeys_of (s := fun k => (Z k).isSome) r2.has o2
    have hm2 : ∀ k, k ∈ intKeys D2 ↔ U2 k = some k := fun k => (m2 k).trans (hU.F.z k)
    have hroot : ∀ r, U2 r = some r ↔ U r = some r := fun r => (hU.F.z r).symm.trans (hF.z r)
    have hnd : ((intKeys D1).map (rootOf U)).Nodup := by
      refine List.pairwise_map.2 (n1.imp_of_mem fun {a b} ha hb hne e => hne ?_)
      obtain ⟨ka, hka⟩ := Option.isSome_iff_exists.1 ((m1 a).1 ha)
      obtain ⟨kb, hkb⟩ := Option.isSome_iff_exists.1 ((m1 b).1 hb)
      obtain ⟨ra, da, _, ha2, ha3⟩ := hto a ka hka
      obtain ⟨rb, db, _, hb2, hb3⟩ := hto b kb hkb
      rw [rootOf_eq ha3, rootOf_eq hb3] at e
      subst e
      rw [ha2] at hb2
      exact Option.some.inj hb2
    have h1 : ((intKeys D1).map (rootOf U)).length ≤ (intKeys D2).length := List.Nodup.length_le_of_subset hnd (fun x hx => by
      obtain ⟨a, ha, rfl⟩ := List.mem_map.1 hx
      obtain ⟨ka, hka⟩ := Option.isSome_iff_exists.1 ((m1 a).1 ha)
      obtain ⟨ra, da, _, ha2, ha3⟩ := hto a ka hka
      rw [rootOf_eq ha3, hm2, hroot]
      exact ha3.root)
    have h2 : (intKeys D2).length ≤ ((intKeys D1).map (rootOf U)).length := List.Nodup.length_le_of_subset n2 (fun x hx => by
      have hx' := (hroot x).1 ((hm2 x).1 hx)
      obtain ⟨m, r, d, e, g1, g2, g3⟩ := hcov x (by rw [hx']; rfl)
      obtain rfl := ((To.zero hx').det g2).2
      exact List.mem_map.2 ⟨m, (m1 m).2 g1, rootOf_eq g3⟩)
    rw [List.length_map, l1, l2, s1, s2] at *
    omega
  subst hN
  refine ⟨fun m => if (fo m).isSome = true then pick U m ks else [], hMo, ⟨fun m hm => by simp [hm], fun m k hm => ?_, fun m m' k k' hm hm' e => ?_⟩, fun m hm => ?_, fun x hx => ?_⟩
  · obtain ⟨r, d, h1, h2, h3⟩ := hto m k hm
    rw [if_pos (by rw [hm]; rfl), ← under_pick h3]
    exact hRows.own r k h1
  · obtain ⟨r, d, h1, h2, h3⟩ := hto m k hm
    obtain ⟨r', d', h1', h2', h3'⟩ := hto m' k' hm'
    obtain rfl := hRows.apart r r' k k' h1 h1' e
    rw [h2] at h2'
    exact Option.some.inj h2'
  · obtain ⟨k, hk⟩ := Option.isSome_iff_exists.1 hm
    obtain ⟨r, d, h1, h2, h3⟩ := hto m k hk
    simp only [if_pos hm]
    refine ⟨?_, hks1.sublist List.filter_sublist, fun x => ?_⟩
    · rw [← under_pick h3]
      cases hux : under U r ks with
      | nil => rw [hux] at h2; cases h2
      | cons a tl =>
        rw [hux] at h2
        have : a = m := Option.some.inj h2
        exact ⟨tl, by rw [this]⟩
    · rw [pick_mem]
      exact ⟨fun g => g.2, fun g => ⟨(hks2 x).2 ((Eq2.self_iff hF).1 (g.trans g.symm)), g⟩⟩
  · obtain ⟨m, r, d, e, g1, g2, g3⟩ := hcov x hx
    exact ⟨m, g1, r, d, e, g2, g3⟩
/-- what the first loop keeps -/
structure CA (p bu bs nu N : Nat) (U Z : Int → Option Int) (ks : List Int) (bR : Nat) (w2 : World) (i : Nat) (W : World) : Prop where
  ex : ∃ (U' : Int → Option Int) (f : Int → Option Hd) (nR : Nat), Uni κI W p bu bs nu N U' Z ∧ Halved U U' ∧ MapR W bR f nR ∧ nR ≤ i ∧ RowsAt W w2.heap.size f (fun r => under U r (ks.take i))
  low : KeepsBut (fun b => UX bu bs b ∨ b = bR ∨ w2.heap.size ≤ b) w2 W

set_option maxRecDepth 100000 in
set_option maxHeartbeats 8000000 in
theorem classes_calls {p bu bs nu N : Nat} {U Z : Int → Option Int} (w : World) (h : Uni κI w p bu bs nu N U Z) (hn : nu ≤ 100000) :
    Calls Try.prog 71 #[.pointer (some ⟨p, 0, none⟩)] w fun e w' => ∃ (b : Nat) (fo : Int → Option Hd) (G : Int → List Int) (U' : Int → Option Int), e = .returned (.map (some b)) ∧ w.heap.size ≤ b ∧ MapR w' b fo N ∧ RowsAt w' w.heap.size fo G ∧ (∀ m, (fo m).isSome = true → (∃ tl, G m = m :: tl) ∧ Rising (G m) ∧ ∀ x, x ∈ G m ↔ Eq2 U x m) ∧ (∀ x, (U x).isSome = true → ∃ m, (fo m).isSome = true ∧ Eq2 U x m) ∧ Uni κI w' p bu bs nu N U' Z ∧ Halved U U' ∧ KeepsBut (UX bu bs) w w' := by
  have hmm := @run_makeMap Try.prog
  have hmx : nu < maxLen := by unfold maxLen; omega
  have hplt : p < w.heap.size := World.block_lt_of_cell? _ _ h.cu
  have hbult := h.mu.lt
  have hbslt := h.ms.lt
  have hU1 := h.alloc (.map #[] 0)
  have hcu1 := hU1.cu
  obtain ⟨D, hown, hR, hsz, hwf⟩ := hU1.mu
  have hsk := sorted_keys 64 66 (ρ := Try.keys38_ren) { Try.keys38 with } rfl rfl (enters_of Try.func64 (by kernel_rfl) rfl) bu nu (fun k => (U k).isSome) (w.alloc (.map #[] 0)) hown hR.has (by omega)
  rw [World.size_alloc] at hsk
  go_enter Try.func71, Try.ntmps71
  go_wp2_with fail
  refine (keys38_calls (some bu) _).mono ?_
  rintro e w' ⟨rfl, rfl⟩
  go_wp2_with fail
  refine hsk.mono ?_
  clear hsk
  rintro e w2 ⟨vk, ks, rfl, hk1, hk2, hk3, hk4, hB2⟩
  rw [hsz] at hk3
  have hsA : (w.alloc (.map #[] 0)).heap.size = w.heap.size + 1 := by simp
  have hs2 : w.heap.size + 2 ≤ w2.heap.size := by have := hB2.size; simpa using this
  have hB0 : Below w.heap.size w w2 := ((below_alloc (Below.refl _ _) _).alloc (by simp) _).trans (hB2.mono (by omega))
  have hU2 : Uni κI w2 p bu bs nu N U Z := h.keep (keeps_below hB0 (fun _ => False)) id id id
  have hM2 : MapR w2 w.heap.size (fun _ => none) 0 := (MapR.made w).same (by
    rw [hB2.block _ (by omega), Below.heap_alloc _ _ _ (by simp)])
  obtain ⟨Ak, ck, rfl⟩ := own_shape hk4
  have hcell : Aside0 (∀ j x, ks[j]? = some x → ∃ ad, Ak = some ad ∧ w2.cell? (ad.add j) = some (.int .i64 x)) := ⟨fun j x hj => own_at hk4 (by rw [List.getElem?_map, hj]; rfl) (List.getElem?_eq_some_iff.1 hj).1⟩
  have hks : Aside0 (Rising ks ∧ (∀ k, k ∈ ks ↔ (U k).isSome = true) ∧ ks.length = nu) := ⟨⟨hk1, hk2, hk3⟩⟩
  have hC0 : Aside0 (CA p bu bs nu N U Z ks w.heap.size w2 0 w2) := ⟨⟨⟨U, _, 0, hU2, Halved.refl _, hM2, by omega, ⟨fun _ _ => rfl, fun _ _ h => (nomatch h), fun _ _ _ _ h => (nomatch h)⟩⟩, KeepsBut.refl _ _⟩⟩
  have hB0' := Aside0.mk hB0
  have hU2' := Aside0.mk hU2
  have hM2' := Aside0.mk hM2
  have hlen : ks.length ≤ 100000 := by omega
  clear hk1 hk2 hk3 hk4 hB2 hB0 hU2 hM2 hown hR hsz hwf hcu1 hU1
  go_wp2
  go_loopw [18] (fun v18 wr => ∃ (i : Nat), v18 = .int .i64 i ∧ i ≤ ks.length ∧ Aside0 (CA p bu bs nu N U Z ks w.heap.size w2 i wr)) (fun v18 _ => ks.length - (RowKit.intOf v18).toNat)
  case atStart => exact ⟨0, rfl, by omega, hC0⟩
  case round =>
    obtain ⟨i, rfl, hi, hC⟩ := hrel
    clear hC0
    by_cases hlt : i < ks.length
    · have hltb : decide ((i : Int) < (ks.length : Int)) = true := decide_eq_true (by omega)
      have hp0 : (0 : Int) ≤ (i : Int) := by omega
      have hq0 : (i : Int) < (ks.length : Int) := by omega
      obtain ⟨x, hx⟩ : ∃ x, ks[i] = x := ⟨_, rfl⟩
      have hx' : ks[i]? = some x := by rw [List.getElem?_eq_getElem hlt, hx]
      obtain ⟨ad, rfl, hck⟩ := hcell.out i x hx'
      obtain ⟨⟨U', f, nR, hU, hh, hM, hnR, hRows⟩, hlow⟩ := hC.out
      have hckr : wr.cell? (ad.add i) = some (.int .i64 x) := hlow.cell hck (by
        have hblk : (ad.add i).block = ad.block := by unfold Addr.add; split <;> rfl
        have g1 := hU2'.out.mu.noCell hck
        have g2 := hU2'.out.ms.noCell hck
        have g3 := hM2'.out.noCell hck
        have g4 := World.block_lt_of_cell? _ _ hck
        rintro ((g | g) | g | g)
        · exact g1 g
        · exact g2 g
        · exact g3 g
        · omega)
      have hxU : (U x).isSome = true := (hks.out.2.1 x).1 (List.mem_of_getElem? hx')
      have hroot := root_calls wr hU hmx (by rw [hh.dom]; exact hxU)
      clear hC
      go_wp2_with fail
      refine hroot.mono ?_
      clear hroot
      rintro e w5 ⟨r, U2, rfl, ⟨d, hto⟩, hU5, hh5, k5⟩
      obtain ⟨j0, hj0⟩ := Option.isSome_iff_exists.1 hxU
      obtain ⟨d0, r0, hto0⟩ := h.F.up x j0 hj0
      obtain ⟨d1, hto1⟩ := hh.tos _ _ _ hto0
      obtain rfl : r0 = r := (hto1.det hto).2
      have hwr : κI.wf r0 := (hU.mu.wfs hto.root).1
      have hbRn : ¬ UX bu bs w.heap.size := fun g => by rcases g with g | g <;> omega
      have hM5 : MapR w5 w.heap.size f nR := hM.same (k5.block _ hM.lt hbRn)
      have hR5 := hRows.keep k5 (fun s k hs g => by have := (hRows.own s k hs).1; rcases g with g | g <;> omega)
      have hl := hM5.look hwr
      have hrow := hR5.row r0
      have hul : (under U r0 (ks.take i)).length ≤ 100000 := by
        have : (under U r0 (ks.take i)).length ≤ (ks.take i).length := List.length_filter_le _ _
        rw [List.length_take] at this
        omega
      have hsz5 : w2.heap.size ≤ w5.heap.size := Nat.le_trans hlow.size k5.size
      have hownb : ∀ q, (hv (f r0)).ownBlock = some q → w2.heap.size ≤ q := fun q hq => (own_base hrow q hq).1
      obtain ⟨i0, hi0, hz0, hz1, hz2⟩ := info_parts info3
      have hlow5 := Aside0.mk (hlow.trans (k5.mono fun b g => Or.inl g))
      have hhU := Aside0.mk (hh.trans hh5)
      have htk : Aside0 ((fun s => under U s (ks.take (i + 1))) = gupd (fun s => under U s (ks.take i)) r0 x) := ⟨by
        rw [List.take_add_one, hx']
        exact under_snoc hto0 _⟩
      clear hU hh hM hRows hlow hto hto1 hh5 k5 hck hckr
      go_wp2_with (at_builtin; refine wpList_append_own_at _ rfl _ _ 36 rfl w2.heap.size 3 i0 _ 1 8 Try.underlying36 hi0 hz0 hz1 hz2 rfl (by decide) _ _ _ rfl (hrow.alloc _) ⟨w5.heap.size, 0, none⟩ 1 1 [.int .i64 x] rfl rfl (cell_one_new _ _ _) (by simp [Value.oneCell']) (by unfold maxLen; omega) (by omega) (by simp; omega) ?_; intro v' w6 hown' hgrow _ hat'; obtain ⟨k, rfl, hR6, hap, hbk⟩ := (hR5.alloc (.cells #[.int .i64 x] 3)).more hown' hgrow hat'; have hM6 : MapR w6 w.heap.size f nR := (hM5.same (Below.heap_alloc _ _ _ hM5.lt)).same (hgrow.block _ (by have := hM5.lt; simp; omega) (fun g => by have := hownb _ g.symm; omega)); obtain ⟨w7, hs1, hs2, hs3⟩ := hM6.store hwr k (by unfold maxLen; omega))
      have hk57 : KeepsBut (fun b => b = w.heap.size ∨ w2.heap.size ≤ b) w5 w7 := ((KeepsBut.alloc _ w5 _).trans (KeepsBut.of_grownBy hgrow fun q hq => .inr (hownb q hq))).trans (keeps_grown hs3 (.inl rfl))
      have hU7 := hU5.keep hk57 (by omega) (by omega) (by omega)
      have hR7 := hR6.keep (keeps_grown hs3 (X := fun b => b = w.heap.size) rfl) (fun s q hq g => by have := (hR6.own s q hq).1; omega)
      have hC7 : Aside0 (CA p bu bs nu N U Z ks w.heap.size w2 (i + 1) w7) := ⟨⟨⟨_, _, _, hU7, hhU.out, hs2, by split <;> omega, by rw [htk.out]; exact hR7⟩, hlow5.out.trans (hk57.mono fun b g => .inr g)⟩⟩
      clear hU7 hR7 hk57 hs2 hs3 hM6 hR6 hgrow hown' hat' hM5 hR5 hl hrow hU5
      go_wp2
      go_roundw
      case rel => exact ⟨i + 1, by go_num, by omega, hC7⟩
      case measure => simp [RowKit.intOf]; omega
    · have hltb : decide ((i : Int) < (ks.length : Int)) = false := decide_eq_false (by omega)
      obtain rfl : i = ks.length := by omega
      obtain ⟨⟨U', f, nR, hU, hh, hM, hnR, hRows⟩, hlow⟩ := hC.out
      rw [List.take_length] at hRows
      clear hC
      have hsz2 : w2.heap.size ≤ wr.heap.size := hlow.size
      have hM' : MapR (wr.alloc (.map #[] 0)) w.heap.size f nR := hM.same (Below.heap_alloc _ _ _ hM.lt)
      obtain ⟨D, hownR, hRd, hszD, hwfD⟩ := hM'
      have hMo : MapR (wr.alloc (.map #[] 0)) wr.heap.size (fun _ => none) 0 := MapR.made wr
      have hUo := hU.alloc (.map #[] 0)
      have hRo := hRows.alloc (.map #[] 0)
      have hlo : KeepsBut (fun b => UX bu bs b ∨ b = w.heap.size ∨ w2.heap.size ≤ b) w2 (wr.alloc (.map #[] 0)) := hlow.trans (KeepsBut.alloc _ wr _)
      go_wp2_with (at_range; refine wpList_range_own _ rfl _ 114 rfl 3 36 (int_keyed Try.underlying3) Try.underlying114 _ w.heap.size nR _ rfl hownR ?_; intro wb hrg hgb hsb)
      have hWs : (wr.alloc (.map #[] 0)).heap.size = wr.heap.size + 1 := by simp
      rw [hWs, hszD] at hrg
      have hkb := keeps_grown0 hgb (fun _ => False)
      have hB1 : Aside0 (CB p bu bs nu N U Z ks w.heap.size wr.heap.size (wr.heap.size + 1) nR D f w2 wb) :=
        ⟨⟨⟨U', _, _, _, 0, hUo.keep hkb id id id, hh, hrg, hMo.same (hgb.block _ hMo.lt (by simp)), by omega, (fun r k hr hl => by
          have := hRd.has r
          rw [hl, hr] at this; cases this), fun m k hm => (nomatch hm)⟩, hRo.keep hkb (fun _ _ _ => id), hlo.trans (keeps_grown0 hgb _)⟩⟩
      have hDf : Aside0 (ReadsH D f ∧ (∀ k, (f k).isSome = true → κI.wf k)) := ⟨⟨hRd, hwfD⟩⟩
      obtain ⟨bo, hbo⟩ : ∃ bo, wr.heap.size = bo := ⟨_, rfl⟩
      rw [hWs]
      rw [hbo] at hB1 ⊢
      have hbo2 : w2.heap.size ≤ bo := by omega
      clear hrg hgb hkb hMo hUo hRo hlo hownR hRd hwfD hU hh hM hRows hlow hsb
      go_frame
      go_loopw [9] (fun _ wq => Aside0 (CB p bu bs nu N U Z ks w.heap.size bo (bo + 1) nR D f w2 wq)) (fun _ wq => wq.rangeLeft w.heap.size (bo + 1))
      case atStart => exact hB1
      case round =>
        have hC := hrel
        clear hB1
        obtain ⟨⟨U2, left, cnt, fo, nF, hU, hh, hrg, hMo, hcn, hdn, hfo⟩, hRows, hlow⟩ := hC.out
        go_wp2_with (at_next; refine wpList_next_ranges _ rfl _ rfl 3 (int_keyed Try.underlying3) rdH (Value.int .i64) hv (fun key kl hk => by obtain ⟨x, hx, _⟩ := Maps.keyOf_i64 Try.underlying3 hk; exact ⟨x, hx⟩) (fun v y hy => rdH_cases hy) w.heap.size (bo + 1) nR _ _ _ rfl hrg ?_ ?_)
        · intro hc0 hl0
          obtain ⟨G, e1, e2, e3, e4⟩ := classes_end h.F hks.out.1 hks.out.2.1 hU hh hMo hRows (fun r k hr => hdn r k hr (hl0 _)) (fun m k hm => by obtain ⟨r, g1, g2, g3⟩ := hfo m k hm; exact ⟨r, g1, g3⟩) (w := w) (w2 := w2)
          have hbo3 : w.heap.size ≤ bo := by omega
          have hK : KeepsBut (UX bu bs) w wr := by
            have h0 : KeepsBut (UX bu bs) w w2 := keeps_below hB0'.out _
            refine ⟨hlow.os.trans h0.os, hlow.tape.trans h0.tape, hlow.output.trans h0.output, Nat.le_trans h0.size hlow.size, fun q hq hx => (hlow.block q (Nat.lt_of_lt_of_le hq h0.size) ?_).trans (h0.block q hq hx)⟩
            rintro (g | g | g)
            · exact hx g
            · omega
            · omega
          have e2' : RowsAt wr w.heap.size fo G := ⟨e2.no, fun r k hr => by
            obtain ⟨b1, b2, b3, b4⟩ := e2.own r k hr
            exact ⟨by omega, b2, b3, own_lower b4 (by omega)⟩, e2.apart⟩
          have hfin : Aside0 (∃ (b : Nat) (fo : Int → Option Hd) (G : Int → List Int) (U' : Int → Option Int), Ending.returned (.map (some bo)) = .returned (.map (some b)) ∧ w.heap.size ≤ b ∧ MapR wr b fo N ∧ RowsAt wr w.heap.size fo G ∧ (∀ m, (fo m).isSome = true → (∃ tl, G m = m :: tl) ∧ Rising (G m) ∧ ∀ x, x ∈ G m ↔ Eq2 U x m) ∧ (∀ x, (U x).isSome = true → ∃ m, (fo m).isSome = true ∧ Eq2 U x m) ∧ Uni κI wr p bu bs nu N U' Z ∧ Halved U U' ∧ KeepsBut (UX bu bs) w wr) :=
            ⟨⟨bo, fo, G, U2, rfl, hbo3, e1, e2', e3, e4, hU, hh, hK⟩⟩
          clear e1 e2 e2' e3 e4 hdn hfo hRows hMo hrg hU hh hlow hC hK
          go_wp2
          go_ret
          exact hfin.out
        · intro x c kl yd yp w6 cnt2 hkey hlk hv' hat hrg2 hlt2 hg2 hs2' hen
          obtain ⟨x', ex, rfl, hwx⟩ := Maps.keyOf_i64 Try.underlying3 hkey
          obtain rfl : x = x' := encZ_inj ex
          have hcf : f x = c := hd_inj (by
            rw [rdH_hv] at hv'
            rw [← hDf.out.1.at_ x, hat (.lit (.bool false))]
            exact (congrArg Prod.fst (Option.some.inj hv')).symm)
          have hhas : Maps.has D (.int .i64 x) = true := Maps.has_true_of_atKey hat
          rw [hDf.out.1.has x] at hhas
          obtain ⟨k, hk⟩ := Option.isSome_iff_exists.1 hhas
          obtain rfl : c = some k := by rw [← hcf, hk]
          clear hcf hat hhas ex
          have k6 : KeepsBut (fun b => b = bo + 1) wr w6 := keeps_grown hg2 rfl
          have hRows6 := hRows.keep k6 (fun r q hr g => by
            obtain ⟨cur, hcur⟩ := hRows.cells hr
            obtain ⟨ob, ho1, ho2⟩ := hrg.iter_walk
            have g' : q.g = bo + 1 := g
            rw [g', ho1] at hcur
            obtain rfl := Option.some.inj hcur
            cases ho2)
          obtain ⟨a1, a2, a3, a4⟩ := hRows6.own x k hk
          obtain ⟨m, tl, hmt⟩ : ∃ m tl, under U x ks = m :: tl := by
            cases hux : under U x ks with
            | nil => exact absurd hux a3
            | cons m tl => exact ⟨m, tl, rfl⟩
          have hmu : m ∈ under U x ks := by rw [hmt]; simp
          have hkn : k.n = tl.length + 1 := by rw [a2, hmt]; rfl
          have hq0 : (0 : Int) < (k.n : Int) := by omega
          have hp0 : (0 : Int) ≤ 0 := Int.le_refl _
          have hcm : w6.cell? ⟨k.g, 0, none⟩ = some (.int .i64 m) := by
            unfold Hd.val at a4
            rw [a2] at a4
            obtain ⟨ad, e1, e2⟩ := own_at a4 (j := 0) (x := .int .i64 m) (by rw [hmt]; rfl) (by rw [hmt]; simp)
            obtain rfl := Option.some.inj e1
            exact e2
          have hwm : κI.wf m := by
            have : (U2 m).isSome = true := by rw [hh.dom]; exact (hks.out.2.1 m).1 (under_mem.1 hmu).1
            obtain ⟨j, hj⟩ := Option.isSome_iff_exists.1 this
            exact (hU.mu.wfs hj).1
          have hfom : fo m = none := by
            cases hq : fo m with
            | none => rfl
            | some q =>
              obtain ⟨r, g1, g2, g3⟩ := hfo m q hq
              have hmr : m ∈ under U r ks := List.mem_of_mem_head? (by rw [g3]; rfl)
              obtain ⟨d1, t1⟩ := (under_mem.1 hmr).2
              obtain ⟨d2, t2⟩ := (under_mem.1 hmu).2
              obtain rfl := (t1.det t2).2
              rw [hlk] at g2; cases g2
          have hMo6 := hMo.same (k6.block bo hMo.lt (fun g => by have g' : bo = bo + 1 := g; omega))
          obtain ⟨w7, s1, s2, s3⟩ := hMo6.store hwm k (by unfold maxLen; omega)
          rw [hfom] at s2
          have hrg7 := ranges_kpB (B0 := bo + 1) hrg2 (Nat.le_refl _) (KpB.of_keeps (keeps_grown s3 (X := fun b => b = bo) rfl) (fun g => by have g' : w.heap.size = bo := g; omega) (fun q hq g => by have g' : q = bo := g; omega))
          have hRows7 := hRows6.keep (keeps_grown s3 (X := fun b => b = bo) rfl) (fun r q hr g => by
            obtain ⟨cur, hcur⟩ := hRows6.cells hr
            obtain ⟨es, ck', hb'⟩ := hMo6.block
            have g' : q.g = bo := g
            rw [g', hb'] at hcur
            cases hcur)
          have k67 : KeepsBut (fun b => w2.heap.size ≤ b) wr w7 := (k6.mono fun b g => by have g' : b = bo + 1 := g; show w2.heap.size ≤ b; omega).trans (keeps_grown s3 (show w2.heap.size ≤ bo from hbo2))
          have hfin : Aside0 (CB p bu bs nu N U Z ks w.heap.size bo (bo + 1) nR D f w2 w7) := by
            refine ⟨⟨⟨U2, _, cnt2, _, nF + 1, hU.keep k67 (fun g => by have g' : w2.heap.size ≤ p := g; omega) (fun g => by have g' : w2.heap.size ≤ bu := g; omega) (fun g => by have g' : w2.heap.size ≤ bs := g; omega), hh, hrg7, s2, by omega, ?_, ?_⟩, hRows7, hlow.trans (k67.mono fun b g => .inr (.inr g))⟩⟩
            · intro r q hr hl
              by_cases er : r = x
              · subst er
                rw [hk] at hr
                obtain rfl := Option.some.inj hr
                exact ⟨m, by rw [hmt]; rfl, updK_same _ _ _⟩
              · have hl' : left (.int .i64 r) = false := by
                  have : Lit.sameKey (.int .i64 r) (.int .i64 x) = false := by simp [Lit.sameKey, er]
                  rw [this] at hl
                  simpa using hl
                obtain ⟨m', g1, g2⟩ := hdn r q hr hl'
                refine ⟨m', g1, ?_⟩
                rw [updK_other (fun e => by rw [e, hfom] at g2; cases g2)]
                exact g2
            · intro m' q hq
              by_cases em : m' = m
              · subst em
                rw [updK_same] at hq
                obtain rfl := Option.some.inj hq
                exact ⟨x, hk, by simp [Lit.sameKey], by rw [hmt]; rfl⟩
              · rw [updK_other em] at hq
                obtain ⟨r, g1, g2, g3⟩ := hfo m' q hq
                exact ⟨r, g1, by rw [g2]; rfl, g3⟩
          have hmeas : wr.rangeLeft w.heap.size (bo + 1) = cnt := hrg.left_eq
          have hmeas7 : w7.rangeLeft w.heap.size (bo + 1) = cnt2 := hrg7.left_eq
          simp only [hv, Hd.val] at hen s1 ⊢
          clear hrg hrg2 hrg7 hMo hMo6 hRows hRows6 hRows7 hU hC hlow a4 s2 s3 hg2 hs2' hdn hfo k6 k67 hkn a1 a2 a3 hmt hmu hfom hk
          go_wp2
          go_roundw
          case rel => exact hfin
          case measure => rw [hmeas7, hmeas]; exact hlt2
end Go.Proofs.Yteeapfmgdlcgfaa.A


namespace Go.Proofs.Yteeapfmgdlcgfaa.A
open Go.RowKit

/-- J s: s: how large the heap was at the first round -/
def SeqR {α : Type} (F : Fence) (n : Nat) (P : Program) (g : Nat) (lb : Array Value) (encs : α → Array Value) (X : Nat → Prop) (Pre : Nat → Nat → α → World → Prop) (Kp : Nat → Nat → α → World → World → Prop) (S : List α → Prop) (Q : World → Prop) (Nn : Nat) (w : World) : Prop :=
  ∀ (l : Nat) (J : Nat → List α → World → Prop) (W : World), Below w.heap.size w W → (∀ W1, KeepsBut X W W1 → J W1.heap.size [] W1) →
    (∀ s pre x W1, W.heap.size ≤ s → s ≤ W1.heap.size → J s pre W1 → Pre W.heap.size s x W1 → pre.length < Nn → YieldAt F (n - 1) P l (encs x) W1 fun e W' =>
      e = .returned (.bool true) ∧ J s (pre ++ [x]) W' ∧ Kp W.heap.size s x W1 W') →
    CallsIn F n P g (#[.func (.yield l) #[] #[]] ++ lb) W fun e W' => (∃ v, e = .returned v) ∧ ∃ s xs, S xs ∧ J s xs W' ∧ Q W'

variable {F : Fence} {n : Nat} {P : Program}

theorem wpIn_rangeFunc_R {α : Type} {g : Operand} {ps : Array Tmp} {assign body : Code} {Q : Exit → Act → World → Prop} {a : Act} {w : World}
    (hro : F.round = none) (h1 : 1 ≤ n) {gf : Nat} {lb : Array Value} (hg : a.eval g = .func (.func gf) #[] lb) (hFg : F.fn gf) (eg : ∀ args w, (callFunc gf args).run P w = .ok (.enter gf args) w)
    {encs : α → Array Value} {X : Nat → Prop} {Pre : Nat → Nat → α → World → Prop} {Kp : Nat → Nat → α → World → World → Prop} {S : List α → Prop} {Qe : World → Prop} {Nn : Nat} {w0 : World} (hseq : SeqR F (n - 1) P gf lb encs X Pre Kp S Qe Nn w0)
    (hXd : ∀ k, X k → k < w.heap.size) (hKt : ∀ {s x} {A B C : World}, Kp (w.heap.size + 2) s x A B → Kp (w.heap.size + 2) s x B C → Kp (w.heap.size + 2) s x A C)
    (hKb : ∀ (s : Nat) (x : α) (W : World) (l : Nat) (o : Obj), w.heap.size ≤ l → l ≤ w.heap.size + 1 → Kp (w.heap.size + 2) s x W (W.putObj l o))
    (hPb : ∀ (s : Nat) (x : α) (W : World) (l : Nat) (o : Obj), w.heap.size ≤ l → l ≤ w.heap.size + 1 → Pre (w.heap.size + 2) s x W → Pre (w.heap.size + 2) s x (W.putObj l o))
    (hQb : ∀ (W : World) (l : Nat) (o : Obj), w.heap.size ≤ l → l ≤ w.heap.size + 1 → Qe W → Qe (W.putObj l o)) (hb0 : Below w0.heap.size w0 w) (hps : ∀ x, (encs x).size = ps.size)
    (I : Nat → List α → World → Prop) (hI : ∀ s pre (W : World) (l : Nat) (o : Obj), w.heap.size ≤ l → l ≤ w.heap.size + 1 → I s pre W → I s pre (W.putObj l o)) (h0 : ∀ W1, KeepsBut X w W1 → w.heap.size + 2 ≤ W1.heap.size → I W1.heap.size [] W1) (a₁ : α → Act)
    (hassign : ∀ (l : Nat) (x : α) (W : World) (K : Act → World → Prop), K (a₁ x) W →
      assign.wpIn (F.inRound l) (n - 1 - 1) P (Exit.then K (fun _ _ _ => False)) { tmps := (ps.zip (encs x)).foldl (fun t (p, v) => t.setIfInBounds p v) a.tmps, defers := [] } W)
    (hbody : ∀ (l s : Nat) (pre : List α) (x : α) (W : World), w.heap.size + 2 ≤ s → s ≤ W.heap.size → I s pre W → Pre (w.heap.size + 2) s x W → pre.length < Nn →
      body.wpIn (F.inRound l) (n - 1 - 1) P (ownPostG w.heap.size (Kp (w.heap.size + 2) s x) (I s) (fun _ _ _ => False) (pre ++ [x]) W) (a₁ x) W)
    (hdone : ∀ (D s : Nat) (xs : List α) (W : World), w.heap.size ≤ D → D ≤ w.heap.size + 1 → S xs → I s xs W → Qe W → W.heap[D]? = some (.deferred (some [])) → Q .normal { a with defers := { target := .collected D, args := #[] } :: a.defers } W) :
    (Code.rangeFunc g ps assign body).wpIn F n P Q a w := by
  refine wpIn_rangeFunc ?_
  intro fn hfn
  rw [hro]
  obtain ⟨rec, hrec⟩ : ∃ rec : LoopState → Option Code → Loop, rec = fun st pe => { state := st, pending := pe, fn, tmps := a.tmps, params := ps, assign, body, defers := w.heap.size } := ⟨_, rfl⟩
  obtain ⟨W1, hW1⟩ : ∃ W1, (w.alloc (.deferred (some []))).alloc (.loop (rec .ready none)) = W1 := ⟨_, rfl⟩
  have hL1 : W1.heap[w.heap.size + 1]? = some (.loop (rec .ready none)) := by
    rw [← hW1]; have := World.alloc_heap_new (w.alloc (.deferred (some []))) (.loop (rec .ready none)); rwa [World.size_alloc] at this
  have hK1 : W1.heap[w.heap.size]? = some (.deferred (some [])) := by
    rw [← hW1]; exact (Below.heap_alloc _ _ _ (by simp)).trans (World.alloc_heap_new w _)
  have hb1 : Below w0.heap.size w0 W1 := by
    rw [← hW1]; exact hb0.trans ((((Below.refl _ w).alloc (Nat.le_refl _) _).alloc (by simp) _).mono hb0.size)
  have hsz : W1.heap.size = w.heap.size + 2 := by rw [← hW1]; simp
  have hw1 : KeepsBut X w W1 := by rw [← hW1]; exact (KeepsBut.alloc X w _).trans (KeepsBut.alloc X _ _)
  refine ⟨w.heap.size + 1, [{ target := .collected w.heap.size, args := #[] }], W1, { target := .fn (.func gf) lb, args := #[.func (.yield (w.heap.size + 1)) #[] #[]] }, W1, gf,
    #[.func (.yield (w.heap.size + 1)) #[] #[]] ++ lb, W1, ?_, ?_, ?_, ?_, fun _ => h1, ?_⟩
  · rw [← hW1, hrec]; exact run_enterLoop_outer _ _ _ _ _
  · simp only [resolve, hg]
    simp [go_sem]
  · intro f' hf'; simp [Target.leads] at hf'; subst hf'; exact hFg
  · simp [invoke, go_sem, eg]
  · refine (hseq (w.heap.size + 1)
      (fun s pre W => I s pre W ∧ W.heap[w.heap.size + 1]? = some (.loop (rec .ready none)) ∧ W.heap[w.heap.size]? = some (.deferred (some [])))
      W1 hb1 (fun W2 hk => ?_) ?_).mono ?_
    · exact ⟨h0 W2 (hw1.trans hk) (by have := hk.size; omega), (hk.block _ (by omega) (fun h => by have := hXd _ h; omega)).trans hL1, (hk.block _ (by omega) (fun h => by have := hXd _ h; omega)).trans hK1⟩
    · rw [hsz]
      rintro s pre x W hs1 hs2 ⟨hi, hl, hk⟩ hP hNn
      have hlt : w.heap.size + 1 < W.heap.size := (Array.getElem?_eq_some_iff.1 hl).1
      have hy := run_yield (P := P) (args := encs x) hl (by rw [hrec]; exact hps x)
      rw [hrec] at hy
      refine ⟨fn, _, assign, body, hy, roundIn_of_wpIn hfn (hassign _ x W _ ⟨_, run_beginRound hl (by rw [hrec]), ?_⟩)⟩
      have hl2 : (W.putObj (w.heap.size + 1) (.loop { rec .ready none with state := .busy })).heap[w.heap.size + 1]? = some (.loop { rec .ready none with state := .busy }) := World.putObj_heap_same hlt
      have hk2 : (W.putObj (w.heap.size + 1) (.loop { rec .ready none with state := .busy })).heap[w.heap.size]? = some (.deferred (some [])) := (World.putObj_heap_other (by omega)).trans hk
      have hw2 : Kp (w.heap.size + 2) s x W (W.putObj (w.heap.size + 1) (.loop { rec .ready none with state := .busy })) := hKb _ _ _ _ _ (by omega) (by omega)
      refine wpIn_mono (hbody _ s pre x _ hs1 (by simpa using hs2) (hI _ _ _ _ _ (by omega) (by omega) hi) (hPb _ _ _ _ _ (by omega) (by omega) hP) hNn) ?_
      have fin : ∀ (W3 : World), KeepsFrom w.heap.size (W.putObj (w.heap.size + 1) (.loop { rec .ready none with state := .busy })) W3 →
          (Instr.endRound (w.heap.size + 1) none).run P W3 = .ok (.bool true) (W3.putObj (w.heap.size + 1) (.loop (rec .ready none))) ∧
          (W3.putObj (w.heap.size + 1) (.loop (rec .ready none))).heap[w.heap.size + 1]? = some (.loop (rec .ready none)) ∧
          (W3.putObj (w.heap.size + 1) (.loop (rec .ready none))).heap[w.heap.size]? = some (.deferred (some [])) := fun W3 hk3 => by
        have hl3 := hk3.same _ _ (by omega) hl2 rfl
        have := run_endRound (P := P) none hl3
        rw [hrec] at this ⊢
        exact ⟨this, World.putObj_heap_same (Array.getElem?_eq_some_iff.1 hl3).1, (World.putObj_heap_other (by omega)).trans (hk3.same _ _ (Nat.le_refl _) hk2 rfl)⟩
      rintro e a3 W3 hp
      cases e with
      | normal =>
        obtain ⟨hk3, hkp3, hi3⟩ := hp
        obtain ⟨hr, hl4, hk4⟩ := fin W3 hk3
        exact ⟨_, _, hr, rfl, ⟨hI _ _ _ _ _ (by omega) (by omega) hi3, hl4, hk4⟩, hKt (hKt hw2 hkp3) (hKb _ _ _ _ _ (by omega) (by omega))⟩
      | ret => exact hp.2.elim
      | exit id => exact hp.2.elim
      | goto t => exact hp.2.elim
      | panic ch => exact hp.elim
      | outgrown => exact hp.elim
    · rintro e W2 ⟨⟨v, rfl⟩, s, xs, hS, ⟨hi, hl, hk⟩, hq⟩
      exact ⟨none, _, by have := run_endLoop (P := P) hl (by rw [hrec]; simp); rw [hrec] at this; exact this, hdone _ s xs _ (Nat.le_refl _) (by omega) hS (hI _ _ _ _ _ (by omega) (by omega) hi) (hQb _ _ _ (by omega) (by omega) hq) ((World.putObj_heap_other (by omega)).trans hk)⟩
end Go.Proofs.Yteeapfmgdlcgfaa.A


namespace Go.Proofs.Yteeapfmgdlcgfaa.A
open Go.RowKit Go.Maps Go.Sort Go.Shelf Go.Proofs.YteeapfmgdlcgfaaW.PrintWords Go.Proofs.YteeapfmgdlcgfaaW.PrintLast
set_option linter.unusedVariables false
set_option linter.unusedSimpArgs false

/-- what comes: the least one, its row's header, its row -/
structure Ent where
  m : Int
  k : Hd
  row : List Int
def Ent.encs (x : Ent) : Array Value := #[.int .i64 x.m, x.k.val]
/-- a row of a class, rising, its least one first -/
structure IsRow (E : Int → Int → Prop) (x : Ent) : Prop where
  head : ∃ tl, x.row = x.m :: tl
  rising : Rising x.row
  mem : ∀ y, y ∈ x.row ↔ E y x.m
def PreE (E : Int → Int → Prop) (B s : Nat) (x : Ent) (W : World) : Prop := IsRow E x ∧ x.k.n = x.row.length ∧ B ≤ x.k.g ∧ x.k.g < s ∧ W.ownsRow B 3 1 x.k.val x.row.length (x.row.map (Value.int .i64))
def KpE (p bu bs : Nat) (B s : Nat) (x : Ent) (W W' : World) : Prop := W.heap.size ≤ W'.heap.size ∧ ∀ k, ((B ≤ k ∧ k < s) ∨ k = p ∨ k = bu ∨ k = bs) → k ≠ x.k.g → W'.heap[k]? = W.heap[k]?
structure AllE (E : Int → Int → Prop) (N : Nat) (xs : List Ent) : Prop where
  rising : Rising (xs.map (·.m))
  len : xs.length = N
  row : ∀ x ∈ xs, IsRow E x
  cover : ∀ y, E y y → ∃ x ∈ xs, E y x.m
theorem keys73_calls (mb : Option Nat) (W : World) : Calls Try.prog 73 #[.map mb] W fun e w' => e = .returned (.func (.func 103) #[] #[.pointer (some ⟨W.heap.size, 0, none⟩)]) ∧ w' = W.alloc (.cells #[.map mb] 114) :=
  (callsIn_wide (n := 5)).1 (AnyZI.keys_in Try.keys73 Fence.wide 5 trivial rfl mb W)

theorem cell_block {W W' : World} {a : Addr} {v : Value} (h : W.cell? a = some v) (hb : W'.heap[a.block]? = W.heap[a.block]?) : W'.cell? a = some v := by
  unfold World.cell? at h ⊢; rw [hb]; exact h
theorem own_block {W W' : World} {base : Nat} {e : TypeId} {size : Nat} {v : Value} {k : Nat} {xs : List Value} (h : W.ownsRow base e size v k xs) (hb : ∀ g, v.ownBlock = some g → W'.heap[g]? = W.heap[g]?) : W'.ownsRow base e size v k xs := by
  refine ⟨h.1, ?_⟩
  rcases h.2 with h0 | ⟨g, cap, cur, rfl, hbb, hgb, hr⟩
  · exact .inl h0
  · exact .inr ⟨g, cap, cur, rfl, hbb, (hb g rfl).trans hgb, hr⟩
/-- what the loop of All keeps -/
structure AI (J : Nat → List Ent → World → Prop) (p bu bs B : Nat) (fo : Int → Option Hd) (E : Int → Int → Prop) (ks : List Int) (W2 : World) (j : Nat) (ents : List Ent) (W : World) : Prop where
  ms : ents.map (·.m) = ks.take j
  rows : ∀ x ∈ ents, IsRow E x
  le : W2.heap.size ≤ W.heap.size
  kept : ∀ k, ((B ≤ k ∧ k < W2.heap.size) ∨ k = p ∨ k = bu ∨ k = bs) → (∀ m h, m ∈ ks.take j → fo m = some h → k ≠ h.g) → W.heap[k]? = W2.heap[k]?
  j : J W2.heap.size ents W

set_option maxRecDepth 100000 in
set_option maxHeartbeats 8000000 in
theorem all70_R {p bu bs nu N Bx : Nat} {U Z : Int → Option Int} (w : World) (h : Uni κI w p bu bs nu N U Z) (hn : nu ≤ 100000) (hN : N ≤ 100000) (hbx : w.cell? ⟨Bx, 0, none⟩ = some (.pointer (some ⟨p, 0, none⟩))) :
    SeqR Fence.wide 4 Try.prog 70 #[.pointer (some ⟨Bx, 0, none⟩)] Ent.encs (UX bu bs) (PreE (Eq2 U)) (KpE p bu bs) (AllE (Eq2 U) N) (fun W => ∃ U', Uni κI W p bu bs nu N U' Z ∧ Halved U U') N w := by
  intro l J W hW h0 hY
  have hplt : p < w.heap.size := World.block_lt_of_cell? _ _ h.cu
  have hbult := h.mu.lt
  have hbslt := h.ms.lt
  have hwW := hW.size
  have hUW : Uni κI W p bu bs nu N U Z := h.keep (keeps_below hW (fun _ => False)) id id id
  have hbxW : W.cell? ⟨Bx, 0, none⟩ = some (.pointer (some ⟨p, 0, none⟩)) := (hW.cell (p := ⟨Bx, 0, none⟩) (World.block_lt_of_cell? _ _ hbx)).trans hbx
  have hcl := classes_calls W hUW hn
  refine callsIn_of_wp Try.func70 rfl trivial ?_ rfl
  simp only [Try.ntmps70, List.size_toArray, List.length_cons, List.length_nil, Nat.reduceAdd, Nat.reduceSub, Array.replicate_succ, Array.replicate_zero, List.push_toArray, List.append_toArray, List.nil_append, List.cons_append]
  gi_wp2_with (first
    | ((try refine ⟨trivial, ?_⟩); gi_at_call 71; refine (callsIn_wide.2 hcl).mono ?_; clear hcl; rintro e W1 ⟨bo, fo, G, U1, rfl, hbo, hMo, hRows, hG1, hG2, hU1, hh1, k1⟩; obtain ⟨D, hownD, hRD, hszD, hwfD⟩ := hMo; have hsk := sorted_keys 103 114 (ρ := Try.keys73_ren) { Try.keys73 with } rfl rfl (enters_of Try.func103 (by kernel_rfl) rfl) bo N (fun k => (fo k).isSome) W1 hownD hRD.has (by omega))
    | ((try refine ⟨trivial, ?_⟩); gi_at_call 73; refine (callsIn_wide.2 (keys73_calls _ _)).mono ?_; rintro e w' ⟨rfl, rfl⟩)
    | ((try refine ⟨trivial, ?_⟩); gi_at_call 72; refine (callsIn_wide.2 hsk).mono ?_; clear hsk; rintro e W2 ⟨vk, ks, rfl, hk1, hk2, hk3, hk4, hB2⟩; obtain ⟨Ak, ck, rfl⟩ := own_shape hk4))
  have hcell : Aside0 (∀ j x, ks[j]? = some x → ∃ ad, Ak = some ad ∧ W1.heap.size + 1 ≤ ad.block ∧ ad.block < W2.heap.size ∧ W2.cell? (ad.add j) = some (.int .i64 x)) := ⟨fun j x hj => by
    obtain ⟨ad, rfl, hc⟩ := own_at hk4 (by rw [List.getElem?_map, hj]; rfl) (List.getElem?_eq_some_iff.1 hj).1
    have hblk : (ad.add j).block = ad.block := by unfold Addr.add; split <;> rfl
    obtain ⟨b1, b2⟩ := own_base hk4 ad.block rfl
    exact ⟨ad, rfl, b1, b2, hc⟩⟩
  have hks : Aside0 (Rising ks ∧ (∀ k, k ∈ ks ↔ (fo k).isSome = true) ∧ ks.length = N) := ⟨⟨hk1, hk2, by rw [hk3, hszD]⟩⟩
  have hlen : ks.length ≤ 100000 := by rw [hk3, hszD]; exact hN
  have hs12 : W1.heap.size + 1 ≤ W2.heap.size := by have := hB2.size; simpa using this
  have hB12 : Below W1.heap.size W1 W2 := (((Below.refl _ W1).alloc (Nat.le_refl _) _)).trans (hB2.mono (by omega))
  have hrg : Aside0 (∀ m k, fo m = some k → W.heap.size ≤ k.g ∧ k.g < W1.heap.size ∧ k.n = (G m).length ∧ W2.ownsRow W.heap.size 3 1 k.val (G m).length ((G m).map (Value.int .i64)) ∧ ∃ cur : Array Value, W2.heap[k.g]? = some (.cells cur 3 (0, 0))) := ⟨fun m k hm => by
    obtain ⟨a1, a2, a3, a4⟩ := hRows.own m k hm
    have hlt := hRows.lt hm
    obtain ⟨cur, hcur⟩ := hRows.cells hm
    refine ⟨a1, hlt, a2, own_block a4 (fun g hg => ?_), cur, (hB12.block _ hlt).trans hcur⟩
    have : k.g = g := by simpa [Hd.val, Value.ownBlock] using hg
    subst this
    exact hB12.block _ hlt⟩
  have hap : Aside0 (∀ r s h k, fo r = some h → fo s = some k → h.g = k.g → r = s) := ⟨hRows.apart⟩
  have hM2 : Aside0 (MapR W2 bo fo N ∧ W.heap.size ≤ bo ∧ bo < W1.heap.size) := ⟨⟨MapR.same ⟨D, hownD, hRD, hszD, hwfD⟩ (hB12.block _ hownD.lt), hbo, hownD.lt⟩⟩
  have hU2 : Aside0 (Uni κI W2 p bu bs nu N U1 Z) := ⟨hU1.keep (keeps_below hB12 (fun _ => False)) id id id⟩
  have hk12 : KeepsBut (UX bu bs) W W2 := k1.trans (keeps_below hB12 _)
  have hG : Aside0 ((∀ m, (fo m).isSome = true → (∃ tl, G m = m :: tl) ∧ Rising (G m) ∧ ∀ x, x ∈ G m ↔ Eq2 U x m) ∧ ∀ x, (U x).isSome = true → ∃ m, (fo m).isSome = true ∧ Eq2 U x m) := ⟨⟨hG1, hG2⟩⟩
  have hpl : p < W.heap.size ∧ bu < W.heap.size ∧ bs < W.heap.size := by omega
  have hI0 : Aside0 (AI J p bu bs W.heap.size fo (Eq2 U) ks W2 0 [] W2) := ⟨⟨rfl, fun _ h => (nomatch h), Nat.le_refl _, fun _ _ _ => rfl, h0 W2 hk12⟩⟩
  have hfoS : Aside0 (∀ m, (fo m).isSome = true → κI.wf m) := ⟨hwfD⟩
  have hsB1 : W.heap.size ≤ W1.heap.size := by have := k1.size; omega
  clear hk1 hk2 hk3 hk4 hB2 hB12 hRows hG1 hG2 hU1 k1 hk12 hownD hRD hszD hwfD hbo h0
  have hY' := Aside0.mk hY
  clear hY
  gi_loopw [12] (fun v12 wr => ∃ (j : Nat) (ents : List Ent), v12 = .int .i64 j ∧ j ≤ N ∧ Aside0 (AI J p bu bs W.heap.size fo (Eq2 U) ks W2 j ents wr)) (fun v12 _ => N - (RowKit.intOf v12).toNat)
  case atStart => exact ⟨0, [], rfl, by omega, hI0⟩
  case round =>
    obtain ⟨j, ents, rfl, hj, hI⟩ := hrel
    clear hI0
    have hkl := hks.out.2.2
    have hkl' := Aside0.mk hkl
    clear hkl
    by_cases hlt : j < N
    · have hltb : decide ((j : Int) < (N : Int)) = true := decide_eq_true (by omega)
      have hp0 : (0 : Int) ≤ (j : Int) := by omega
      have hq0 : (j : Int) < (N : Int) := by omega
      have hlt' : Aside0 (j < ks.length) := ⟨by rw [hkl'.out]; exact hlt⟩
      obtain ⟨x, hx'⟩ : ∃ x, ks[j]? = some x := ⟨_, List.getElem?_eq_getElem hlt'.out⟩
      obtain ⟨ad, rfl, hab1, hab2, hck⟩ := hcell.out j x hx'
      have hblk : (ad.add j).block = ad.block := by unfold Addr.add; split <;> rfl
      have hckr : wr.cell? (ad.add j) = some (.int .i64 x) := cell_block hck (hI.out.kept _ (.inl ⟨by omega, by omega⟩) (fun m k _ hm e => by have := (hrg.out m k hm).2.1; omega))
      have hxm : (fo x).isSome = true := (hks.out.2.1 x).1 (List.mem_of_getElem? hx')
      obtain ⟨k, hk⟩ := Option.isSome_iff_exists.1 hxm
      have hMr : MapR wr bo fo N := hM2.out.1.same (hI.out.kept _ (.inl ⟨hM2.out.2.1, by have := hM2.out.2.2; omega⟩) (fun m q _ hm e => by
        obtain ⟨_, _, _, _, cur, hcur⟩ := hrg.out m q hm
        obtain ⟨es, ck', hb'⟩ := hM2.out.1.block
        rw [← e, hb'] at hcur
        cases hcur))
      have hl := hMr.look (hfoS.out x hxm)
      rw [hk] at hl
      simp only [hv, Hd.val] at hl
      obtain ⟨r1, r2, r3, r4, _⟩ := hrg.out x k hk
      have hnot : ∀ m q, m ∈ ks.take j → fo m = some q → k.g ≠ q.g := fun m q hm hq e => by
        obtain rfl := hap.out x m k q hk hq e
        have hnd : ks.Nodup := hks.out.1.imp (fun h e => by omega)
        obtain ⟨i, hi, hi2⟩ := List.getElem_of_mem hm
        rw [List.length_take] at hi
        rw [List.getElem_take] at hi2
        have := (List.getElem_inj hnd (i := i) (j := j) (h₀ := by omega) (h₁ := hlt'.out)).1 (by rw [hi2]; exact ((List.getElem_eq_iff hlt'.out).2 hx').symm)
        omega
      have hrow : wr.ownsRow W.heap.size 3 1 k.val (G x).length ((G x).map (Value.int .i64)) := own_block r4 (fun g hg => by
        have : k.g = g := by simpa [Hd.val, Value.ownBlock] using hg
        subst this
        exact hI.out.kept _ (.inl ⟨r1, by omega⟩) hnot)
      obtain ⟨g1, g2, g3⟩ := hG.out.1 x hxm
      have hIR : IsRow (Eq2 U) ⟨x, k, G x⟩ := ⟨g1, g2, g3⟩
      obtain ⟨fn, tmps, assign, body, hy, hR⟩ := hY'.out W2.heap.size ents ⟨x, k, G x⟩ wr (by omega) hI.out.le hI.out.j ⟨hIR, r3, r1, by show k.g < _; omega, hrow⟩ (by have := congrArg List.length hI.out.ms; rw [List.length_map, List.length_take] at this; omega)
      simp only [Ent.encs, Hd.val] at hy
      clear hMr hrow g1 g2 g3 r3
      gi_wp2
      refine hR.mono ?_
      rintro e W3 ⟨rfl, hJ3, hk3⟩
      have hI3 : Aside0 (AI J p bu bs W.heap.size fo (Eq2 U) ks W2 (j + 1) (ents ++ [⟨x, k, G x⟩]) W3) := ⟨⟨by rw [List.map_append, hI.out.ms, List.take_add_one, hx']; rfl,
        fun y hy => by
          rcases List.mem_append.1 hy with hy | hy
          · exact hI.out.rows y hy
          · rw [List.mem_singleton.1 hy]; exact hIR,
        Nat.le_trans hI.out.le hk3.1, fun q hq hn => by
          rw [hk3.2 q hq (hn x k (by rw [List.take_add_one, hx']; simp) hk)]
          exact hI.out.kept q hq (fun m h hm => hn m h (by rw [List.take_add_one]; exact List.mem_append_left _ hm)), hJ3⟩⟩
      clear hI hk3 hJ3 hIR hR hy hnot
      gi_wp2
      go_roundw
      case rel => exact ⟨j + 1, _, by go_num, by omega, hI3⟩
      case measure => simp [RowKit.intOf]; omega
    · have hltb : decide ((j : Int) < (N : Int)) = false := decide_eq_false (by omega)
      obtain rfl : j = N := by omega
      gi_wp2
      go_end0
      have hms := hI.out.ms
      rw [← hkl'.out, List.take_length] at hms
      have hkp : ∀ q, (q = p ∨ q = bu ∨ q = bs) → wr.heap[q]? = W2.heap[q]? := fun q hq => hI.out.kept q (.inr hq) (fun m k _ hm e => by have := (hrg.out m k hm).1; omega)
      refine ⟨⟨_, rfl⟩, W2.heap.size, ents, ⟨by rw [hms]; exact hks.out.1, ?_, hI.out.rows, fun y hy => ?_⟩, hI.out.j, U1, ?_, hh1⟩
      · have := congrArg List.length hms
        rw [List.length_map] at this
        rw [this]; exact hks.out.2.2
      · obtain ⟨m, hm1, hm2⟩ := hG.out.2 y ((Eq2.self_iff h.F).1 hy)
        have : m ∈ ents.map (·.m) := by rw [hms]; exact (hks.out.2.1 m).2 hm1
        obtain ⟨e, he1, he2⟩ := List.mem_map.1 this
        exact ⟨e, he1, by rw [he2]; exact hm2⟩
      · exact ⟨cell_block hU2.out.cu (hkp p (.inl rfl)), cell_block hU2.out.cs (hkp p (.inl rfl)), hU2.out.mu.same (hkp bu (.inr (.inl rfl))), hU2.out.ms.same (hkp bs (.inr (.inr rfl))), hU2.out.ne, hU2.out.F⟩
end Go.Proofs.Yteeapfmgdlcgfaa.A


namespace Go.Proofs.Yteeapfmgdlcgfaa.A
open Go.RowKit
variable {P : Program} {ops : Array Oper} {Q : Exit → Act → World → Prop} {md : Region.Mode}

theorem opIn_of_op {l n i : Nat} {K K' : Act → World → Prop} {a : Act} {w : World} (hnd : ∀ (j : Nat) o, ops[j]? = some o → ∀ c, o.op ≠ .defer c) (hno : ¬ LetsOut Q) (hK : ∀ a w, K a w → K' a w)
    (h : wpOp P ops Q i K a w) : wpOpIn (Fence.wide.inRound l) n P ops Q i K' a w := by
  unfold wpOp at h
  unfold wpOpIn
  cases ho : ops[i]? with
  | none => rw [ho] at h; exact hK _ _ h
  | some o =>
    rw [ho] at h
    simp only at h ⊢
    split
    · rename_i hw
      rw [if_pos hw] at h
      rcases h with h | ⟨_, h⟩
      · unfold Oper.wp at h
        unfold Oper.wpIn
        refine ⟨fun _ _ => trivial, ?_⟩
        rw [Fence.inRound_round, Oper.semAt_some _ _ _ (hnd i o ho)]
        generalize (execOp a.eval o).run P w = r at h ⊢
        cases r with
        | ok x w' =>
          cases x with
          | value v => exact hK _ _ h
          | skip => exact hK _ _ h
          | defer d => exact hK _ _ h
          | enter f args =>
            refine ⟨fun g => by simp [Fence.wide] at g, CallsIn.inRound l (callsIn_wide.2 (Calls.mono h ?_))⟩
            intro e w'' he
            cases e with
            | returned v => exact hK _ _ he
            | panicked c => exact he
            | outgrown => exact he
          | row row args =>
            refine ⟨fun g => by simp [Fence.wide] at g, fun c cs _ => ?_⟩
            obtain ⟨v, w'', r, s⟩ := h c cs
            exact ⟨v, w'', hK _ _ r, stepsIn_wide.2 s⟩
          | _ => exact h.elim
        | halt x w' =>
          cases x <;> first | exact h | exact h.elim
      · exact absurd h hno
    · rename_i hw
      rw [if_neg hw] at h
      exact ⟨fun _ _ => trivial, hK _ _ h⟩
theorem anyIn_of_any {l n : Nat} (hnd : ∀ (j : Nat) o, ops[j]? = some o → ∀ c, o.op ≠ .defer c) (hno : ¬ LetsOut Q) : ∀ (fuel : Nat) (listed : Array Bool) (a : Act) (w : World),
    wpAny P md ops Q fuel listed a w → wpAnyIn (Fence.wide.inRound l) n P md ops Q fuel listed a w
  | 0, _, _, _, h => h
  | fuel + 1, listed, a, w, h => ⟨h.1, fun i hi => opIn_of_op hnd hno (fun a w => anyIn_of_any hnd hno fuel _ a w) (h.2 i hi)⟩
def noDefer (ops : Array Oper) : Bool := ops.all fun o => match o.op with | .defer _ => false | _ => true
theorem noDefer_spec (h : noDefer ops = true) : ∀ (j : Nat) o, ops[j]? = some o → ∀ c, o.op ≠ .defer c := fun j o hj c e => by
  have := (Array.all_eq_true'.1 h) o (Array.mem_of_getElem? hj)
  rw [e] at this
  cases this
theorem region_round {l n id : Nat} {a : Act} {w : World} (hm : P.follows .mixedOrders = true) (hnd : noDefer ops = true) (hno : ¬ LetsOut Q)
    (h : wpAny P .any ops Q ops.size (Array.replicate ops.size false) a w.drew) : (Code.region id ops true).wpIn (Fence.wide.inRound l) n P Q a w :=
  wpIn_region_any hm (anyIn_of_any (noDefer_spec hnd) hno _ _ _ _ h)
/-- an append, by its run's equation -/
theorem step_append_run {o : Oper} {a : Act} {w : World} {K : Act → World → Prop} {E : Prop}
    (hg : o.guard = none) (s x : Operand) (t : TypeId) (hop : o.op = Op.call { callee := Callee.builtin Builtin.append, args := #[s, x], argTypes := #[t, t] })
    (sv xv v' : Value) (w' : World) (hs : a.eval s = sv) (hx : a.eval x = xv) (hrun : (Builtin.append_ #[t, t] o.type #[sv, xv]).run P w = .ok v' w') (hK : K (a.put o.dst v') w') :
    if Region.wanted o (yielded ops a.tmps) = true then Oper.wp P o a w K Q else E := by
  have hw : Region.wanted o (yielded ops a.tmps) = true := by simp [Region.wanted, hg]
  rw [if_pos hw]
  unfold Oper.wp
  simp [execOp, hop, resolve, invoke, builtin, hs, hx, hrun, Result.andThen]
  exact hK
end Go.Proofs.Yteeapfmgdlcgfaa.A


namespace Go.Proofs.Yteeapfmgdlcgfaa.A
open Go.RowKit Go.Maps Go.Sort Go.Shelf Go.Proofs.YteeapfmgdlcgfaaW.PrintWords Go.Proofs.YteeapfmgdlcgfaaW.PrintLast
set_option linter.unusedVariables false
set_option linter.unusedSimpArgs false
attribute [local go_sem] Oper.semAt_some

theorem all45_calls (p : Nat) (w : World) : Calls Try.prog 45 #[.pointer (some ⟨p, 0, none⟩)] w fun e w' => e = .returned (.func (.func 70) #[] #[.pointer (some ⟨w.heap.size, 0, none⟩)]) ∧ w' = w.alloc (.cells #[.pointer (some ⟨p, 0, none⟩)] 24) := by
  go_enter Try.func45, Try.ntmps45
  go_wp2
  go_ret
  exact ⟨rfl, rfl⟩
theorem nil88 (q : Value) (W : World) : (binOp BinOp.eql 88 (.func (.func 70) #[] #[q]) .nilFunc).run Try.prog W = .ok (.bool false) W := by
  kernel_rfl
theorem info36 : (Try.prog.info? 36).map (fun i => (i.zero, i.size, i.bytes)) = some (some (.slice none 0 0), 1, 24) := by kernel_rfl
theorem startR_ {P : Program} {ops : Array Oper} {Q : Exit → Act → World → Prop} {S : World → Prop} {ds : List Nat} {id m l n : Nat} {a : Act} {w : World} (ls : Array Bool) (hm : P.follows .mixedOrders = true) (hnd : noDefer ops = true) (hno : ¬ LetsOut Q) (hn : ops.size = m) (hl : Array.replicate m false = ls) (hS : S w.drew)
    (h : S w.drew → wpAnyLast P .any ops Q S ds m ls a w.drew) : (Code.region id ops true).wpIn (Fence.wide.inRound l) n P Q a w := by
  subst hn
  subst hl
  exact region_round hm hnd hno (wpAny_of_last _ _ _ _ (h hS))
theorem own_keepX {X : Nat → Prop} {W W' : World} {base : Nat} {e : TypeId} {size : Nat} {v : Value} {k : Nat} {xs : List Value} (h : W.ownsRow base e size v k xs) (hk : KeepsBut X W W') (hx : ∀ g, v.ownBlock = some g → ¬ X g) : W'.ownsRow base e size v k xs :=
  own_block h fun g hg => hk.block g (own_base h g hg).2 (hx g hg)
theorem own_ne {W : World} {b b' : Nat} {e e' : TypeId} {s s' : Nat} {v v' : Value} {k k' : Nat} {xs xs' : List Value} (h : W.ownsRow b e s v k xs) (h' : W.ownsRow b' e' s' v' k' xs') (hne : e ≠ e') : ∀ g, v.ownBlock = some g → v'.ownBlock ≠ some g := by
  intro g hg hg'
  rcases h.2 with ⟨rfl, _⟩ | ⟨g1, cap, cur, rfl, _, hb, _⟩
  · simp [Value.ownBlock] at hg
  · rcases h'.2 with ⟨rfl, _⟩ | ⟨g2, cap', cur', rfl, _, hb', _⟩
    · simp [Value.ownBlock] at hg'
    · obtain rfl : g1 = g := by simpa [Value.ownBlock] using hg
      obtain rfl : g2 = g1 := by simpa [Value.ownBlock] using hg'
      rw [hb] at hb'
      simp at hb'
      exact hne hb'.2
theorem own_empty (W : World) (base : Nat) (hb : base ≤ W.heap.size) : (W.alloc (.cells #[] 3)).ownsRow base 3 1 (.slice (some ⟨W.heap.size, 0, none⟩) 0 0) 0 [] :=
  ⟨rfl, .inr ⟨W.heap.size, 0, #[], rfl, hb, World.alloc_heap_new W _, by simp⟩⟩
theorem own_cells {W : World} {base : Nat} {e : TypeId} {size : Nat} {v : Value} {k : Nat} {xs : List Value} (h : W.ownsRow base e size v k xs) : ∀ (j : Nat) (o : Obj), v.ownBlock = some j → W.heap[j]? = some o → o.isCells = true := by
  intro j o ej hj
  rcases h.2 with ⟨rfl, _⟩ | ⟨g, cap, cur, rfl, _, hgb, _⟩
  · simp [Value.ownBlock] at ej
  · obtain rfl : g = j := by simpa [Value.ownBlock] using ej
    rw [hgb] at hj; cases hj; rfl
theorem Uni.few {w : World} {p bu bs nu N : Nat} {U Z : Int → Option Int} (h : Uni κI w p bu bs nu N U Z) {l : List Int} (hl : l.Nodup) (hm : ∀ y ∈ l, (U y).isSome = true) : l.length ≤ nu := by
  obtain ⟨D, hown, hR, hsz, _⟩ := h.mu
  obtain ⟨n2, m2, l2⟩ := intKeys_of (s := fun k => (U k).isSome) hR.has hown
  have := List.Nodup.length_le_of_subset hl (l₂ := intKeys D) (fun y hy => (m2 y).2 (hm y hy))
  omega
theorem results_cell1 {P : Program} {fn : Func} {p : Tmp} {ty : TypeId} (h : fn.results = #[.cell p ty]) (tmps : Array Value) (w : World) (q : Addr) (v : Value) (hp : tmps.getD p undef = .pointer (some q)) (hv : (loadVar ty q).run P w = .ok v w) : (results fn tmps).run P w = .ok v w := by
  have hp' : tmps[p]?.getD undef = .pointer (some q) := by simpa using hp
  simp [results, h, hp', asAddr, hv, Sem.run_bind, Result.andThen]
theorem load44 (W : World) (q : Addr) (v : Value) (h : W.cell? q = some v) : (loadVar 44 q).run Try.prog W = .ok v W := by
  go_simp
/-- a row of rows that a call has laid -/
def RowsV (W : World) (base : Nat) (v : Value) (rows : List (List Int)) : Prop :=
  ∃ hds : List Hd, hds.length = rows.length ∧ W.ownsRow base 36 1 v rows.length (hds.map Hd.val) ∧ ∀ (i : Nat) (h : Hd) (row : List Int), hds[i]? = some h → rows[i]? = some row → h.n = row.length ∧ W.ownsRow base 3 1 h.val row.length (row.map (Value.int .i64))
/-- what the body of rows' loop keeps -/
structure BI (w : World) (bu bs s : Nat) (pre : List Ent) (W : World) : Prop where
  ex : ∃ v, Boxed W (w.heap.size + 3) 44 v ∧ RowsV W s v (pre.map (·.row))
  keep : KeepsBut (UX bu bs) w W
  cm : Boxed W w.heap.size 3 (.int .i64 1000)
  c4 : Boxed W (w.heap.size + 1) 44 (.slice none 0 0)
  big : w.heap.size + 6 ≤ s
  sle : s ≤ W.heap.size

set_option maxRecDepth 100000 in
set_option maxHeartbeats 8000000 in
theorem rows23_calls {p bu bs nu N : Nat} {U Z : Int → Option Int} (w : World) (h : Uni κI w p bu bs nu N U Z) (hn : nu ≤ 100000) (hN : N ≤ 900) :
    Calls Try.prog 23 #[.pointer (some ⟨p, 0, none⟩), .int .i64 1000] w fun e w' => ∃ (v : Value) (xs : List Ent) (U' : Int → Option Int), e = .returned v ∧ AllE (Eq2 U) N xs ∧ RowsV w' w.heap.size v (xs.map (·.row)) ∧ Uni κI w' p bu bs nu N U' Z ∧ Halved U U' ∧ KeepsBut (UX bu bs) w w' := by
  rw [← callsIn_wide (n := 5)]
  have hro : (Fence.wide).round = none := rfl
  have hmix : Try.prog.follows .mixedOrders = true := by kernel_rfl
  have hplt : p < w.heap.size := World.block_lt_of_cell? _ _ h.cu
  have hbult := h.mu.lt
  have hbslt := h.ms.lt
  have hnil := nil88
  refine callsIn_of_wp_marks Try.func23 rfl trivial ?_ hro
  simp only [Try.ntmps23, List.size_toArray, List.length_cons, List.length_nil, Nat.reduceAdd, Nat.reduceSub, Array.replicate_succ, Array.replicate_zero, List.push_toArray, List.append_toArray, List.nil_append, List.cons_append]
  gi_wp2_with ((try refine ⟨trivial, ?_⟩); gi_at_call 45; refine (callsIn_wide.2 (all45_calls _ _)).mono ?_; rintro e w' ⟨rfl, rfl⟩)
  obtain ⟨W0, hW0⟩ : ∃ W0, (((w.alloc (.cells #[.int .i64 1000] 3)).alloc (.cells #[.slice none 0 0] 44)).alloc (.cells #[.pointer (some ⟨p, 0, none⟩)] 24)).alloc (.cells #[.slice none 0 0] 44) = W0 := ⟨_, rfl⟩
  have hs0 : W0.heap.size = w.heap.size + 4 := by rw [← hW0]; simp
  have hk0 : KeepsBut (UX bu bs) w W0 := by rw [← hW0]; exact (((KeepsBut.alloc _ w _).trans (KeepsBut.alloc _ _ _)).trans (KeepsBut.alloc _ _ _)).trans (KeepsBut.alloc _ _ _)
  have hU0 : Uni κI W0 p bu bs nu N U Z := by rw [← hW0]; exact (((h.alloc _).alloc _).alloc _).alloc _
  have bm0 : Boxed W0 w.heap.size 3 (.int .i64 1000) := by rw [← hW0]; exact (((Boxed.new w 3 (.int .i64 1000)).alloc _).alloc _).alloc _
  have b40 : Boxed W0 (w.heap.size + 1) 44 (.slice none 0 0) := by
    have := Boxed.new (w.alloc (.cells #[.int .i64 1000] 3)) 44 (.slice none 0 0)
    rw [World.size_alloc] at this
    rw [← hW0]; exact (this.alloc _).alloc _
  have bx0 : Boxed W0 (w.heap.size + 2) 24 (.pointer (some ⟨p, 0, none⟩)) := by
    have := Boxed.new ((w.alloc (.cells #[.int .i64 1000] 3)).alloc (.cells #[.slice none 0 0] 44)) 24 (.pointer (some ⟨p, 0, none⟩))
    rw [World.size_alloc, World.size_alloc] at this
    rw [← hW0]; exact this.alloc _
  have b60 : Boxed W0 (w.heap.size + 3) 44 (.slice none 0 0) := by
    have := Boxed.new (((w.alloc (.cells #[.int .i64 1000] 3)).alloc (.cells #[.slice none 0 0] 44)).alloc (.cells #[.pointer (some ⟨p, 0, none⟩)] 24)) 44 (.slice none 0 0)
    rw [World.size_alloc, World.size_alloc, World.size_alloc] at this
    rw [← hW0]; exact this
  obtain ⟨i0, hi, hz0, hz1, hz2⟩ := info_parts info3
  obtain ⟨i1, hi1, hz01, hz11, hz21⟩ := info_parts info36
  rw [hW0]
  clear hW0 hnil
  refine wpIn_rangeFunc_R hro (by omega) (gf := 70) (lb := #[.pointer (some ⟨w.heap.size + 2, 0, none⟩)]) rfl trivial (enters_of Try.func70 (by kernel_rfl) rfl) (all70_R W0 hU0 hn (by omega) bx0.cell) ?XD ?Kt ?Kb ?Pb ?Qb (Below.refl _ _) (fun _ => rfl)
    (fun s pre W => Aside0 (BI w bu bs s pre W)) ?hI ?h0 ?a1 ?assign ?body ?done
  case XD => rintro k (rfl | rfl) <;> omega
  case Kt =>
    rintro s x A B C ⟨h1, h2⟩ ⟨g1, g2⟩
    exact ⟨Nat.le_trans h1 g1, fun k hk hne => (g2 k hk hne).trans (h2 k hk hne)⟩
  case Kb =>
    intro s x W l o h1 h2
    exact ⟨by simp, fun k hk hne => World.putObj_heap_other (by omega)⟩
  case Pb =>
    rintro s x W l o h1 h2 ⟨a1, a2, a3, a4, a5⟩
    exact ⟨a1, a2, a3, a4, own_keep a5 (KeepsBut.putObj (X := fun q => q = l) W o rfl) (fun r hr e => by omega)⟩
  case Qb =>
    rintro W l o h1 h2 ⟨U', hU', hh'⟩
    exact ⟨U', hU'.keep (KeepsBut.putObj (X := fun q => q = l) W o rfl) (fun e => by omega) (fun e => by omega) (fun e => by omega), hh'⟩
  case hI =>
    rintro s pre W l o h1 h2 ⟨⟨⟨v, hb, hds, e1, e2, e3⟩, hk, hm, h4, hbg, hsl⟩⟩
    have k : KeepsBut (fun q => q = l) W (W.putObj l o) := KeepsBut.putObj W o rfl
    have hX : ∀ r, s ≤ r → ¬ r = l := fun r hr e => by omega
    exact ⟨⟨⟨v, (k.block _ hb.lt (by omega)).trans hb, hds, e1, own_keep e2 k hX, fun i h row g1 g2 => ⟨(e3 i h row g1 g2).1, own_keep (e3 i h row g1 g2).2 k hX⟩⟩, hk.low k (fun q hq => by omega), (k.block _ hm.lt (by omega)).trans hm, (k.block _ h4.lt (by omega)).trans h4, hbg, Nat.le_trans hsl k.size⟩⟩
  case h0 =>
    intro W1 hk h6
    have hnX : ∀ q, w.heap.size ≤ q → ¬ UX bu bs q := fun q hq hx => by rcases hx with rfl | rfl <;> omega
    exact ⟨⟨⟨_, (hk.block _ b60.lt (hnX _ (by omega))).trans b60, [], rfl, World.ownsRow_nil _ _ _ _, fun i h row g1 => by simp at g1⟩, hk0.trans hk, (hk.block _ bm0.lt (hnX _ (by omega))).trans bm0, (hk.block _ b40.lt (hnX _ (by omega))).trans b40, by omega, Nat.le_refl _⟩⟩
  case assign =>
    intro l x W K hK
    simp only [Ent.encs, Hd.val]
    gi_wp2
    exact hK
  case body =>
    rintro l s pre x W hs1 hs2 ⟨⟨⟨v, hb6, hds, e1, e2, e3⟩, hkp, hm, h4, hbg, hsl⟩⟩ ⟨hIR, hxn, hxg, hxs, hxo⟩ hpN
    rw [List.length_map] at e1 e2
    obtain ⟨tl, htl⟩ := hIR.head
    obtain ⟨A, c, rfl⟩ := own_shape e2
    have hc6 := hb6.cell
    have hf6 := hb6.frozen
    have hcm := hm.cell
    have hltb : decide ((1000 : Int) ≤ (pre.length : Int)) = false := decide_eq_false (by omega)
    have hrl : 0 < x.row.length := by rw [htl]; simp
    have hq0 : (0 : Int) < (x.k.n : Int) := by omega
    have hp0 : (0 : Int) ≤ 0 := Int.le_refl _
    have hqn : ((x.k.n : Int) == 0) = false := beq_false_of_ne (by omega)
    have hxc : W.cell? ⟨x.k.g, 0, none⟩ = some (.int .i64 x.m) := by
      unfold Hd.val at hxo
      rw [hxn] at hxo
      obtain ⟨ad, g1, g2⟩ := own_at hxo (j := 0) (x := .int .i64 x.m) (by rw [htl]; rfl) hrl
      obtain rfl := Option.some.inj g1
      exact g2
    have hxr : x.row.length ≤ 100000 := by
      have := hU0.few (hIR.rising.imp (fun h e => by omega)) (fun y hy => (Eq2.self_iff h.F).1 (((hIR.mem y).1 hy).trans ((hIR.mem y).1 hy).symm))
      omega
    -- the worlds of the drawn region
    have hown0 := own_empty W.drew s (by show s ≤ W.heap.size; exact hsl)
    obtain ⟨v1, W2, hr1, ho1, hg1, hn1, hat1⟩ := run_append_own_at (P := Try.prog) (W.drew.alloc (.cells #[] 3)) s 36 36 3 i0 _ 1 8 Try.underlying36 hi hz0 hz1 hz2 rfl (by decide) _ 0 [] hown0 ⟨x.k.g, 0, none⟩ x.k.n x.k.c (x.row.map (Value.int .i64)) (by rw [List.length_map, hxn, Nat.mul_one])
      (fun j u hj => by
        have hjl : j < x.row.length := by have := (List.getElem?_eq_some_iff.1 hj).1; simpa using this
        unfold Hd.val at hxo
        rw [hxn] at hxo
        obtain ⟨ad, g1, g2⟩ := own_at hxo hj hjl
        obtain rfl := Option.some.inj g1
        exact (World.cell?_alloc_lt W.drew _ _ (World.block_lt_of_cell? _ _ g2)).trans g2) (by intro u hu; obtain ⟨y, _, rfl⟩ := List.mem_map.1 hu; rfl) (by unfold maxLen; omega) (by omega) (by simp; omega)
    rw [Nat.zero_add, List.nil_append] at ho1
    obtain ⟨g1, c1, cur1, rfl, hb1, hgb1, _⟩ := ho1.2.resolve_left (fun ⟨_, e⟩ => by omega)
    have hg1W : W.heap.size ≤ g1 := by
      rcases hat1 with e | e
      · have : g1 = W.drew.heap.size := by simpa [Value.ownBlock] using e
        exact Nat.le_of_eq this.symm
      · have : g1 = W.drew.heap.size + 1 := by simpa [Value.ownBlock] using e
        have h' : W.drew.heap.size = W.heap.size := rfl
        omega
    have k12 : KeepsBut (fun q => W.heap.size ≤ q) W W2 := ((keeps_drew _ W).trans (KeepsBut.alloc _ _ _)).trans (KeepsBut.of_grownBy hg1 (fun r hr => by
      have : W.drew.heap.size = r := by simpa [Value.ownBlock] using hr
      exact Nat.le_of_eq this))
    obtain ⟨W3, hW3⟩ : ∃ W3, W2.alloc (.cells #[.slice (some ⟨g1, 0, none⟩) x.k.n c1] 36) = W3 := ⟨_, rfl⟩
    have k13 : KeepsBut (fun q => W.heap.size ≤ q) W W3 := by rw [← hW3]; exact k12.trans (KeepsBut.alloc _ _ _)
    have hlt6 : ¬ W.heap.size ≤ w.heap.size + 3 := by omega
    have hgo := own_base e2
    have hown3 := own_keepX e2 k13 (fun g hg e => by have := (hgo g hg).2; omega)
    have hone : ∀ (j : Nat) (u : Value), [Value.slice (some ⟨g1, 0, none⟩) x.k.n c1][j]? = some u → W3.cell? ((⟨W2.heap.size, 0, none⟩ : Addr).add j) = some u := by rw [← hW3]; exact cell_one_new _ _ _
    obtain ⟨v4, W4, hr2, ho4, hg4, hn4, hat4⟩ := run_append_own_at (P := Try.prog) W3 s 44 44 36 i1 _ 1 24 Try.underlying44 hi1 hz01 hz11 hz21 rfl (by decide) (.slice A pre.length c) pre.length (hds.map Hd.val) hown3 ⟨W2.heap.size, 0, none⟩ 1 1 [.slice (some ⟨g1, 0, none⟩) x.k.n c1] rfl hone (by simp [Value.oneCell']) (by unfold maxLen; omega) (by omega) (by have := k13.size; omega)
    obtain ⟨g4, c4, rfl⟩ := ownsRow_succ ho4
    have k14 : KeepsBut (fun q => (Value.slice A pre.length c).ownBlock = some q ∨ W.heap.size ≤ q) W W4 := (k13.mono fun q g => .inr g).trans (KeepsBut.of_grownBy hg4 fun r hr => .inl hr)
    have hno6 : ¬ ((Value.slice A pre.length c).ownBlock = some (w.heap.size + 3) ∨ W.heap.size ≤ w.heap.size + 3) := by
      rintro (g | g)
      · have := (hgo _ g).1; omega
      · omega
    have hb64 : Boxed W4 (w.heap.size + 3) 44 (.slice A pre.length c) := (k14.block _ hb6.lt hno6).trans hb6
    have hc6a : (W.drew.alloc (.cells #[] 3)).cell? ⟨w.heap.size + 3, 0, none⟩ = some (.slice A pre.length c) := (World.cell?_alloc_lt W.drew _ _ hb6.lt).trans hc6
    have hc6b : W2.cell? ⟨w.heap.size + 3, 0, none⟩ = some (.slice A pre.length c) := k12.cell hc6 hlt6
    have hc6c : W3.cell? ⟨w.heap.size + 3, 0, none⟩ = some (.slice A pre.length c) := k13.cell hc6 hlt6
    have hc6d := hb64.cell
    have hf6d := hb64.frozen
    obtain ⟨W5, hW5⟩ : ∃ W5, W4.setCell ⟨w.heap.size + 3, 0, none⟩ (.slice (some ⟨g4, 0, none⟩) (pre.length + 1) c4) = W5 := ⟨_, rfl⟩
    have k15 : KeepsBut (fun q => q = w.heap.size + 3 ∨ (Value.slice A pre.length c).ownBlock = some q ∨ W.heap.size ≤ q) W W5 := by rw [← hW5]; exact (k14.mono fun q g => .inr g).trans (KeepsBut.setCell _ _ _ (.inl rfl))
    have hxlt : x.k.g < W.heap.size := by omega
    have hnox : ¬ (x.k.g = w.heap.size + 3 ∨ (Value.slice A pre.length c).ownBlock = some x.k.g ∨ W.heap.size ≤ x.k.g) := by
      rintro (g | g | g)
      · omega
      · have := (hgo _ g).1; omega
      · omega
    have hx5 : W5.cell? ⟨x.k.g, 0, none⟩ = some (.int .i64 x.m) := k15.cell hxc hnox
    have hfx5 : W5.frozen? ⟨x.k.g, 0, none⟩ = false := by
      obtain ⟨g, cap, cur, e, _, hgb, _⟩ := hxo.2.resolve_left (fun ⟨_, e⟩ => by omega)
      have : x.k.g = g := by
        unfold Hd.val at e
        injection e with e
        injection e with e
        injection e
      subst this
      have := (k15.block _ hxlt hnox).trans hgb
      simp [World.frozen?, this]
    obtain ⟨W6, hW6⟩ : ∃ W6, W5.setCell ⟨x.k.g, 0, none⟩ (.int .i64 (-7)) = W6 := ⟨_, rfl⟩
    have k16 : KeepsBut (fun q => q = x.k.g ∨ q = w.heap.size + 3 ∨ (Value.slice A pre.length c).ownBlock = some q ∨ W.heap.size ≤ q) W W6 := by rw [← hW6]; exact (k15.mono fun q g => .inr g).trans (KeepsBut.setCell _ _ _ (.inl rfl))
    have k46 : KeepsBut (fun q => q = x.k.g ∨ q = w.heap.size + 3) W4 W6 := by rw [← hW6, ← hW5]; exact (KeepsBut.setCell _ _ _ (.inr rfl)).trans (KeepsBut.setCell _ _ _ (.inl rfl))
    have ho4' := own_keep ho4 k46 (fun r hr g => by omega)
    have hfin : Aside0 (KeepsFrom W0.heap.size W W6 ∧ KpE p bu bs (W0.heap.size + 2) s x W W6 ∧ Aside0 (BI w bu bs s (pre ++ [x]) W6)) := by
      refine ⟨⟨?_, ⟨k16.size, fun k hk hne => ?_⟩, ⟨⟨⟨.slice (some ⟨g4, 0, none⟩) (pre.length + 1) c4, ?_, hds ++ [⟨g1, x.k.n, c1⟩], by simp [e1], ?_, ?_⟩, hkp.low k16 (fun q hq g => ?_), (k16.block _ hm.lt ?_).trans hm, (k16.block _ h4.lt ?_).trans h4, hbg, Nat.le_trans hsl k16.size⟩⟩⟩⟩
      · rw [← hW6, ← hW5]
        refine KeepsOthers.from ?_ _
        refine ((((((KeepsOthers.drew W).trans (KeepsOthers.alloc _ _)).trans (KeepsOthers.of_grownBy hg1 (own_cells hown0))).trans (KeepsOthers.alloc W2 (.cells #[.slice (some ⟨g1, 0, none⟩) x.k.n c1] 36))).trans ?_).trans (KeepsOthers.setCell _ _ _)).trans (KeepsOthers.setCell _ _ _)
        rw [hW3]
        exact KeepsOthers.of_grownBy hg4 (own_cells hown3)
      · refine k16.block k ?_ ?_
        · omega
        · rintro (g | g | g | g)
          · exact hne g
          · omega
          · have := (hgo _ g).1; omega
          · omega
      · rw [← hW6, ← hW5]
        exact ((KeepsBut.setCell (X := fun q => q = x.k.g) _ _ _ rfl).block _ (hb64.set _).lt (by omega)).trans (hb64.set _)
      · rw [List.length_map, List.length_append, List.map_append]
        exact ho4'
      · intro i h row h1 h2
        by_cases hi' : i < pre.length
        · rw [List.getElem?_append_left (by omega)] at h1
          rw [List.map_append, List.getElem?_append_left (by simpa using hi')] at h2
          obtain ⟨f1, f2⟩ := e3 i h row h1 h2
          refine ⟨f1, own_keepX f2 k16 ?_⟩
          intro g hg
          have hb' := own_base f2 g hg
          rintro (e | e | e | e)
          · omega
          · omega
          · exact own_ne f2 e2 (by decide) g hg e
          · omega
        · have hil : i = pre.length := by
            have := (List.getElem?_eq_some_iff.1 h1).1
            simp at this
            omega
          subst hil
          rw [List.getElem?_append_right (by omega), e1, Nat.sub_self] at h1
          rw [List.map_append, List.getElem?_append_right (by simp), List.length_map, Nat.sub_self] at h2
          obtain rfl := Option.some.inj h1
          obtain rfl := Option.some.inj h2
          refine ⟨hxn, ?_⟩
          rw [hxn] at ho1 ⊢
          have f3 := own_keepX (W' := W3) ho1 (by rw [← hW3]; exact KeepsBut.alloc (fun _ => False) _ _) (fun _ _ => id)
          refine own_keepX (own_keepX f3 (KeepsBut.of_grownBy hg4 (X := fun q => (Value.slice A pre.length c).ownBlock = some q) fun r hr => hr) (fun g hg => own_ne f3 hown3 (by decide) g hg)) k46 ?_
          intro g hg
          have : g1 = g := by simpa [Hd.val, Value.ownBlock] using hg
          rintro (e | e) <;> omega
      · rcases g with g | g | g | g
        · omega
        · omega
        · have := (hgo _ g).1; omega
        · have := hkp.size; omega
      · rintro (g | g | g | g)
        · omega
        · omega
        · have := (hgo _ g).1; omega
        · omega
      · rintro (g | g | g | g)
        · omega
        · omega
        · have := (hgo _ g).1; omega
        · omega
    clear htl hxn hrl hxr e1 k12 k13 k14 k15 k16 k46 hown0 hown3 ho1 ho4 ho4' hg1 hg4 hn1 hn4 hat1 hat4 e2 e3 hxo hIR hone hgo hgb1 hkp
    gi_wp2
    refine startR_ (m := 7) #[false, false, false, false, false, false, false] (S := fun w' => w'.cell? ⟨w.heap.size + 3, 0, none⟩ = some (.slice A pre.length c)) (ds := [6]) hmix (by kernel_rfl) ?hno rfl rfl hc6 (fun hHeld => ?_)
    case hno => rintro ⟨a, w', hh⟩; exact hh
    refine pure_ (i := 2) (N := some 32) (v := ?_) (a' := ?_) #[false, false, true, false, false, false, false] rfl rfl (by kernel_rfl) (fun _ _ _ h => h) (Or.inl ⟨by rfl, ?_⟩) ?_ ?_
    rotate_left
    · intro w'
      go_simp
      try with_reducible rfl
    rotate_left
    · simp only [Act.put, List.setIfInBounds_toArray, List.set_cons_zero, List.set_cons_succ, i64_w, i32_w]
      rfl
    refine take_ (i := 0) (N := some 30) (v := ?_) (a' := ?_) #[true, false, true, false, false, false, false] rfl rfl (by kernel_rfl) (fun _ _ _ h => h) (Or.inl ⟨by rfl, ?_⟩) hHeld ?_ ?_
    rotate_left
    · rintro w' s0
      go_simp
      try with_reducible rfl
    rotate_left
    · simp only [Act.put, List.setIfInBounds_toArray, List.set_cons_zero, List.set_cons_succ, i64_w, i32_w]
      rfl
    refine one_ (i := 1) (N := some 31) #[true, true, true, false, false, false, false] rfl rfl (by kernel_rfl) (by decide) (fun K hK => ?_)
    refine value_ (w1 := ?_) (v := ?_) (by rfl) rfl ?_ ?_
    rotate_left 2
    · go_simp
      constructor
      · rfl
      · rfl
    refine hK.out _ _ hc6a (fun hHeld => ?_)
    clear hK K
    refine norm_ (a' := ?_) ?_ ?_
    rotate_left
    · show Act.put _ (some 31) _ = _
      simp only [Act.put, List.setIfInBounds_toArray, List.set_cons_zero, List.set_cons_succ, i64_w, i32_w]
      rfl
    refine one_ (i := 3) (N := some 33) #[true, true, true, true, false, false, false] rfl rfl (by kernel_rfl) (by decide) (fun K hK => ?_)
    refine step_append_run rfl (.tmp 31) (.tmp 32) 36 rfl _ _ _ W2 rfl rfl hr1 ?_
    refine hK.out _ _ hc6b (fun hHeld => ?_)
    clear hK K
    refine norm_ (a' := ?_) ?_ ?_
    rotate_left
    · show Act.put _ (some 33) _ = _
      simp only [Act.put, List.setIfInBounds_toArray, List.set_cons_zero, List.set_cons_succ, i64_w, i32_w]
      rfl
    refine one_ (i := 4) (N := some 34) #[true, true, true, true, true, false, false] rfl rfl (by kernel_rfl) (by decide) (fun K hK => ?_)
    refine value_ (w1 := ?_) (v := ?_) (by rfl) rfl ?_ ?_
    rotate_left 2
    · go_simp
      constructor
      · rfl
      · rfl
    refine hK.out _ _ hc6c (fun hHeld => ?_)
    clear hK K
    refine norm_ (a' := ?_) ?_ ?_
    rotate_left
    · show Act.put _ (some 34) _ = _
      simp only [Act.put, List.setIfInBounds_toArray, List.set_cons_zero, List.set_cons_succ, i64_w, i32_w]
      rfl
    refine one_ (i := 5) (N := some 35) #[true, true, true, true, true, true, false] rfl rfl (by kernel_rfl) (by decide) (fun K hK => ?_)
    refine step_append_run rfl (.tmp 30) (.tmp 34) 44 rfl _ _ _ W4 rfl rfl hr2 ?_
    refine hK.out _ _ hc6d (fun hHeld => ?_)
    clear hK K
    refine norm_ (a' := ?_) ?_ ?_
    rotate_left
    · show Act.put _ (some 35) _ = _
      simp only [Act.put, List.setIfInBounds_toArray, List.set_cons_zero, List.set_cons_succ, i64_w, i32_w]
      rfl
    refine last_ (i := 6) (N := none) #[true, true, true, true, true, true, true] rfl rfl (by kernel_rfl) (by decide) (fun K hK => ?_)
    refine skip_ (w1 := ?_) (by rfl) rfl ?_ ?_
    rotate_left
    · go_simp
      rfl
    refine hK.out _ _ ?_
    clear hK K
    refine done_ (by kernel_rfl) ?_
    gi_wp2
    exact hfin.out
  case done =>
    rintro Dd s xs W hD1 hD2 hS ⟨⟨⟨v, hb6, hrv⟩, hkp, hm, h4, hbg, hsl⟩⟩ ⟨U', hU', hh'⟩ hK
    obtain ⟨A, c, rfl⟩ : ∃ A c, v = .slice A xs.length c := by
      obtain ⟨hds, e1, e2, e3⟩ := hrv
      rw [List.length_map] at e2
      exact own_shape e2
    have hc6 := hb6.cell
    have hc4 := h4.cell
    have hf4 := h4.frozen
    gi_wp2
    refine ⟨by simp, .inl ⟨_, _, rfl, run_takeDeferred ?_, ?_⟩⟩
    · exact ((KeepsBut.setCell (X := fun q => q = w.heap.size + 1) W ⟨w.heap.size + 1, 0, none⟩ (.slice A xs.length c) rfl).block Dd (Array.getElem?_eq_some_iff.1 hK).1 (by omega)).trans hK
    have hK' : (W.setCell ⟨w.heap.size + 1, 0, none⟩ (.slice A xs.length c)).heap[Dd]? = some (.deferred (some [])) := ((KeepsBut.setCell (X := fun q => q = w.heap.size + 1) W ⟨w.heap.size + 1, 0, none⟩ (.slice A xs.length c) rfl).block Dd (Array.getElem?_eq_some_iff.1 hK).1 (by omega)).trans hK
    have k2 : KeepsBut (fun q => q = w.heap.size + 1 ∨ q = Dd) W ((W.setCell ⟨w.heap.size + 1, 0, none⟩ (.slice A xs.length c)).putObj Dd (.deferred none)) := (KeepsBut.setCell W _ _ (.inl rfl)).trans (KeepsBut.putObj _ _ (.inr rfl))
    have hb4 : Boxed ((W.setCell ⟨w.heap.size + 1, 0, none⟩ (.slice A xs.length c)).putObj Dd (.deferred none)) (w.heap.size + 1) 44 (.slice A xs.length c) := ((KeepsBut.putObj (X := fun q => q = Dd) (W.setCell ⟨w.heap.size + 1, 0, none⟩ (.slice A xs.length c)) (.deferred none) rfl).block _ (h4.set _).lt (by omega)).trans (h4.set _)
    have hnX : ∀ q, q < w.heap.size → ¬ (q = w.heap.size + 1 ∨ q = Dd) := fun q hq g => by omega
    refine ⟨_, results_cell1 rfl _ _ ⟨w.heap.size + 1, 0, none⟩ _ rfl (load44 _ _ _ hb4.cell), _, xs, U', rfl, hS, ?_, hU'.keep k2 (hnX _ hplt) (hnX _ hbult) (hnX _ hbslt), hh', hkp.low k2 hnX⟩
    obtain ⟨hds, e1, e2, e3⟩ := hrv
    have hnX2 : ∀ r, s ≤ r → ¬ (r = w.heap.size + 1 ∨ r = Dd) := fun r hr g => by omega
    exact ⟨hds, e1, own_lower (own_keep e2 k2 hnX2) (by omega), fun i h row g1 g2 => ⟨(e3 i h row g1 g2).1, own_lower (own_keep (e3 i h row g1 g2).2 k2 hnX2) (by omega)⟩⟩
end Go.Proofs.Yteeapfmgdlcgfaa.A


namespace Go.Proofs.Yteeapfmgdlcgfaa.A
open Go.RowKit Go.Maps Go.Sort Go.Shelf Go.Proofs.YteeapfmgdlcgfaaW.PrintWords Go.Proofs.YteeapfmgdlcgfaaW.PrintLast
set_option linter.unusedVariables false
set_option linter.unusedSimpArgs false

theorem Uni.pos {w : World} {p bu bs nu N : Nat} {U Z : Int → Option Int} (h : Uni κI w p bu bs nu N U Z) {a : Int} (ha : Eq2 U a a) : 1 ≤ N := by
  obtain ⟨D, hown, hR, hsz, _⟩ := h.ms
  obtain ⟨n2, m2, l2⟩ := intKeys_of (s := fun k => (Z k).isSome) hR.has hown
  obtain ⟨r, d, e, h1, h2⟩ := ha
  have := List.Nodup.length_le_of_subset (l₁ := [r]) (l₂ := intKeys D) (List.pairwise_singleton _ _) (fun y hy => by
    rw [List.mem_singleton.1 hy]
    exact (m2 r).2 ((h.F.z r).2 h1.root))
  simp at this
  omega
theorem UN.pos {w : World} {p bu bs nu N : Nat} {E : Int → Int → Prop} (h : UN κI w p bu bs nu N E) {a : Int} (ha : E a a) : 1 ≤ N := by
  obtain ⟨U, Z, h1, h2⟩ := h
  exact h1.pos ((h2 a a).2 ha)
/-- all classes, each once -/
structure AllL (E : Int → Int → Prop) (N nu : Nat) (rows : List (List Int)) : Prop where
  len : rows.length = N
  row : ∀ row ∈ rows, ∃ m tl, row = m :: tl ∧ Rising row ∧ ∀ y, y ∈ row ↔ E y m
  sum : (rows.map List.length).sum = nu
theorem AllE.all {w : World} {p bu bs nu N : Nat} {U Z : Int → Option Int} (h : Uni κI w p bu bs nu N U Z) {xs : List Ent} (hx : AllE (Eq2 U) N xs) : AllL (Eq2 U) N nu (xs.map (·.row)) := by
  refine ⟨by rw [List.length_map]; exact hx.len, fun row hr => ?_, ?_⟩
  · obtain ⟨x, hm, rfl⟩ := List.mem_map.1 hr
    obtain ⟨tl, ht⟩ := (hx.row x hm).head
    exact ⟨x.m, tl, ht, (hx.row x hm).rising, (hx.row x hm).mem⟩
  · rw [← List.length_flatten]
    obtain ⟨D, hown, hR, hsz, _⟩ := h.mu
    obtain ⟨n2, m2, l2⟩ := intKeys_of (s := fun k => (U k).isSome) hR.has hown
    have hnd : (xs.map (·.row)).flatten.Nodup := by
      show List.Pairwise _ _
      rw [List.pairwise_flatten]
      refine ⟨fun l hl => ?_, ?_⟩
      · obtain ⟨x, hm, rfl⟩ := List.mem_map.1 hl
        exact (hx.row x hm).rising.imp (fun h e => by omega)
      · refine List.pairwise_map.2 ((List.pairwise_map.1 hx.rising).imp_of_mem fun {x y} hxm hym hlt z hz z' hz' e => ?_)
        subst e
        have ex := hx.row x hxm
        have ey := hx.row y hym
        obtain ⟨tl, ht⟩ := ey.head
        have h1 : Eq2 U x.m y.m := ((ex.mem z).1 hz).symm.trans ((ey.mem z).1 hz')
        have h2 : x.m ∈ y.row := (ey.mem x.m).2 h1
        have hr := ey.rising
        rw [ht] at hr h2
        rcases List.mem_cons.1 h2 with e | e
        · omega
        · have := (List.pairwise_cons.1 hr).1 _ e
          omega
    have hmem : ∀ y, y ∈ (xs.map (·.row)).flatten ↔ (U y).isSome = true := fun y => by
      rw [List.mem_flatten]
      constructor
      · rintro ⟨l, hl, hy⟩
        obtain ⟨x, hm, rfl⟩ := List.mem_map.1 hl
        have e := ((hx.row x hm).mem y).1 hy
        exact (Eq2.self_iff h.F).1 (e.trans e.symm)
      · intro hy
        obtain ⟨x, hm, e⟩ := hx.cover y ((Eq2.self_iff h.F).2 hy)
        exact ⟨x.row, List.mem_map.2 ⟨x, hm, rfl⟩, ((hx.row x hm).mem y).2 e⟩
    have h1 := List.Nodup.length_le_of_subset hnd (l₂ := intKeys D) (fun y hy => (m2 y).2 ((hmem y).1 hy))
    have h2 := List.Nodup.length_le_of_subset n2 (l₂ := (xs.map (·.row)).flatten) (fun y hy => (hmem y).2 ((m2 y).1 hy))
    omega
theorem AllL.congr {E E' : Int → Int → Prop} {N nu : Nat} {rows : List (List Int)} (h : AllL E N nu rows) (he : ∀ x y, E x y ↔ E' x y) : AllL E' N nu rows :=
  ⟨h.len, fun row hr => by obtain ⟨m, tl, h1, h2, h3⟩ := h.row row hr; exact ⟨m, tl, h1, h2, fun y => (h3 y).trans (he y m)⟩, h.sum⟩
theorem rows_un {p bu bs nu N : Nat} {E : Int → Int → Prop} (w : World) (h : UN κI w p bu bs nu N E) (hn : nu ≤ 100000) (hN : N ≤ 900) :
    Calls Try.prog 23 #[.pointer (some ⟨p, 0, none⟩), .int .i64 1000] w fun e w' => ∃ (v : Value) (rows : List (List Int)), e = .returned v ∧ AllL E N nu rows ∧ RowsV w' w.heap.size v rows ∧ UN κI w' p bu bs nu N E ∧ KeepsBut (UX bu bs) w w' := by
  obtain ⟨U, Z, h1, h2⟩ := h
  refine (rows23_calls w h1 hn hN).mono ?_
  rintro e w' ⟨v, xs, U', rfl, hx, hr, hU, hh, hk⟩
  exact ⟨v, _, rfl, (hx.all h1).congr h2, hr, ⟨U', Z, hU, fun x y => (hh.eq2 h1.F x y).trans (h2 x y)⟩, hk⟩
theorem RowsV.keep {W W' : World} {base : Nat} {v : Value} {rows : List (List Int)} (h : RowsV W base v rows) {X : Nat → Prop} (hk : KeepsBut X W W') (hx : ∀ r, base ≤ r → ¬ X r) : RowsV W' base v rows := by
  obtain ⟨hds, e1, e2, e3⟩ := h
  exact ⟨hds, e1, own_keep e2 hk hx, fun i h row g1 g2 => ⟨(e3 i h row g1 g2).1, own_keep (e3 i h row g1 g2).2 hk hx⟩⟩
theorem RowsV.at_ {W : World} {base : Nat} {A : Option Addr} {n c : Nat} {rows : List (List Int)} (h : RowsV W base (.slice A n c) rows) (hn : n = rows.length) {i : Nat} {row : List Int} (hi : rows[i]? = some row) (hne : row ≠ []) :
    ∃ (ad ar : Addr) (cr : Nat), A = some ad ∧ W.cell? (ad.add i) = some (.slice (some ar) row.length cr) ∧ ∀ (j : Nat) (x : Int), row[j]? = some x → W.cell? (ar.add j) = some (.int .i64 x) := by
  subst hn
  obtain ⟨hds, e1, e2, e3⟩ := h
  have hil : i < rows.length := (List.getElem?_eq_some_iff.1 hi).1
  obtain ⟨k, hk⟩ : ∃ k, hds[i]? = some k := ⟨_, List.getElem?_eq_getElem (by omega)⟩
  obtain ⟨ad, rfl, hc⟩ := own_at e2 (j := i) (x := k.val) (by rw [List.getElem?_map, hk]; rfl) hil
  obtain ⟨f1, f2⟩ := e3 i k row hk hi
  refine ⟨ad, ⟨k.g, 0, none⟩, k.c, rfl, by rw [hc]; unfold Hd.val; rw [f1], fun j x hj => ?_⟩
  unfold Hd.val at f2
  rw [f1] at f2
  obtain ⟨ar, g1, g2⟩ := own_at f2 (j := j) (x := .int .i64 x) (by rw [List.getElem?_map, hj]; rfl) (List.getElem?_eq_some_iff.1 hj).1
  obtain rfl := Option.some.inj g1
  exact g2
theorem RowsV.shape {W : World} {base : Nat} {v : Value} {rows : List (List Int)} (h : RowsV W base v rows) : ∃ A c, v = .slice A rows.length c := by
  obtain ⟨hds, e1, e2, e3⟩ := h
  exact own_shape e2
end Go.Proofs.Yteeapfmgdlcgfaa.A

