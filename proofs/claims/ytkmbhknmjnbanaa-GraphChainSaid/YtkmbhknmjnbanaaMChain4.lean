/- Parts of the proof, in the order in which they rest on one another. -/
import Derived.Test.YtkmbhknmjnbanaaMChain3
import Derived.Below
import Derived.Deep.Draws
import Derived.Deep.AppendLies
import Derived.Maps.AppendAt
import Derived.OwnWalk
import Derived.Laws.BytesArg
import Derived.Laws.MakeOwn
import Derived.Laws.OwnMore
import Derived.Deep.OwnRows
import Derived.Tactics
import Derived.Lib.ConvBytes
import Derived.Laws.Slices
import Derived.WalkKit
import Derived.KernelRfl
import Derived.RowKit3
import Derived.Deep.LoopGhost
import Derived.Deep.QuietTactic
import Derived.BigQuiet
import Derived.WideLaws
import Derived.Deep.DeepCutAuto
import Derived.Deep.CutBlock
import Derived.Deep.RegionHeld3
import Derived.Laws.Rows
import Derived.Lib.AppendStr
import Derived.ArgAppend
import Derived.Laws.IdiomCopy
import Derived.RowKit
import Derived.OrdersHeld
import Derived.Laws.BitsLemmas
import Derived.Laws.StructEq
import Derived.Test.YtkmbhknmjnbanaaProg
import Derived.Shelf.Abstract
import Derived.Lib.Walk
import Derived.RangeFuncWrites
import Derived.RangeFuncNested
import Derived.RangeFuncBound
import Derived.RangeFuncCalls
import Derived.RangeFuncLeaves
import Derived.Shelf.RegionOpen
import Derived.OwnWalkIn
import Derived.TacticsInMore
import Derived.LoopNIn
import Derived.LoopIn
import Derived.Laws.EntriesVeiled
import Derived.RangeFuncBox
import Derived.Laws.CopyOwn
import Derived.Deep.RegionLaw
import Derived.BigRegion
import Derived.WalkSpells
import Derived.Shelf.SlIterI.Nil
import Derived.Shelf.SortM.Plain
import Derived.Shelf.SortM.SortNone
import Derived.Ground.GgzProg
import Derived.Ground.SlgmProg
import Derived.Shelf.SlGeneric
import Derived.Maps.Own
import Derived.Maps.OwnOps
import Derived.Maps.OwnSet
import Derived.Maps.Views
import Derived.RangeFuncRecord
import Derived.Deep.RegionLawGrows
import Derived.Deep.Upon
import Derived.Maps.OwnRows
import Derived.Maps.GroupsBeside
namespace Go.Proofs.Ytkmbhknmjnbanaa.A
open Go.RowKit Go.Proofs.YtkmbhknmjnbanaaW.PrintWords Go.Proofs.YtkmbhknmjnbanaaW.PrintLast Go.Shelf
set_option linter.unusedVariables false
set_option linter.unusedSimpArgs false

/-- the blocks of a loop with this head that comes back from these blocks -/
inductive BodySet (g : List (List Int)) (h : Nat) (F re : Nat → Prop) : Nat → Prop
  | head : BodySet g h F re h
  | frm {x : Nat} : F x → BodySet g h F re x
  | back {x y : Nat} : BodySet g h F re y → y ≠ h → Edge g x y → re x → BodySet g h F re x

theorem bodyW_spec {g : List (List Int)} (hg : InG g) {re : List Bool} {h : Nat} {F : Nat → Prop} (hF : ∀ x, F x → re.getD x false = true) :
    ∀ (n : Nat) (S : Int → Bool) (ws : List Int), budget (predsOf g) S ws ≤ n → (∀ x ∈ ws, 0 ≤ x ∧ x < (g.length : Int)) →
      (∀ x : Nat, S x = true → BodySet g h F (fun x => re.getD x false = true) x) → (∀ x : Nat, (x : Int) ∈ ws → re.getD x false = true → BodySet g h F (fun x => re.getD x false = true) x) →
      (∀ x y : Nat, y ≠ h → S y = true → Edge g x y → re.getD x false = true → S x = true ∨ (x : Int) ∈ ws) → (∀ x : Nat, F x → S x = true ∨ (x : Int) ∈ ws) → S h = true →
      ∀ x : Nat, bodyW (predsOf g) re n S ws x = true ↔ BodySet g h F (fun x => re.getD x false = true) x := by
  have fin : ∀ (S : Int → Bool), (∀ x : Nat, S x = true → BodySet g h F (fun x => re.getD x false = true) x) → (∀ x y : Nat, y ≠ h → S y = true → Edge g x y → re.getD x false = true → S x = true) → (∀ x : Nat, F x → S x = true) → S h = true → ∀ x : Nat, S x = true ↔ BodySet g h F (fun x => re.getD x false = true) x := by
    intro S h1 h2 h3 h4 x
    refine ⟨h1 x, fun hb => ?_⟩
    induction hb with
    | head => exact h4
    | frm hf => exact h3 _ hf
    | back _ hy he hr ih => exact h2 _ _ hy ih he hr
  intro n
  induction n with
  | zero =>
    intro S ws hb hw h1 h2 h3 h4 h5
    have : ws = [] := List.eq_nil_of_length_eq_zero (by unfold budget at hb; omega)
    subst this
    exact fin S h1 (fun x y a b c d => (h3 x y a b c d).resolve_right (by simp)) (fun x a => (h4 x a).resolve_right (by simp)) h5
  | succ n ih =>
    intro S ws hb hw h1 h2 h3 h4 h5
    cases ws with
    | nil => exact fin S h1 (fun x y a b c d => (h3 x y a b c d).resolve_right (by simp)) (fun x a => (h4 x a).resolve_right (by simp)) h5
    | cons a ws =>
      obtain ⟨a, rfl⟩ := Int.eq_ofNat_of_zero_le (hw a (by simp)).1
      have hal : a < g.length := by have := (hw (a : Int) (by simp)).2; omega
      have hpl := predsOf_len g
      have hrow : ∀ x ∈ rowOf (predsOf g) a, ∃ i : Nat, i < g.length ∧ x = i ∧ Edge g i a := fun x hx => (predsOf_mem hg a x).1 hx
      rw [budget_cons] at hb
      rw [bodyW, Int.toNat_natCast]
      split
      · rename_i hs
        refine ih S ws (by omega) (fun x hx => hw x (by simp [hx])) h1 (fun x hx => h2 x (by simp [hx])) (fun x y p q r s => ?_) (fun x p => ?_) h5
        · rcases h3 x y p q r s with t | t
          · exact .inl t
          · rcases List.mem_cons.1 t with t | t
            · obtain rfl : x = a := by omega
              rcases hs with hs | hs
              · exact .inl hs
              · rw [hs] at s; cases s
            · exact .inr t
        · rcases h4 x p with t | t
          · exact .inl t
          · rcases List.mem_cons.1 t with t | t
            · obtain rfl : x = a := by omega
              rcases hs with hs | hs
              · exact .inl hs
              · have := hF x p; rw [hs] at this; cases this
            · exact .inr t
      · rename_i hs
        obtain ⟨hs1, hs2⟩ := not_or.1 hs
        rw [Bool.not_eq_true] at hs1
        rw [Bool.not_eq_false] at hs2
        have hah : a ≠ h := fun e => by subst e; rw [h5] at hs1; cases hs1
        have hba : BodySet g h F (fun x => re.getD x false = true) a := h2 a (by simp) hs2
        have hins : ∀ x : Nat, ins S (a : Int) x = true ↔ S x = true ∨ x = a := fun x => by
          simp only [ins, Bool.or_eq_true, decide_eq_true_eq]
          constructor
          · rintro (h | h)
            · exact .inr (by omega)
            · exact .inl h
          · rintro (h | h)
            · exact .inr h
            · exact .inl (by omega)
        refine ih _ _ (by rw [budget_ins (by omega) hs1]; omega) (fun x hx => ?_) (fun x hx => ?_) (fun x hx hr => ?_) (fun x y p q r s => ?_) (fun x p => ?_) ((hins h).2 (.inl h5))
        · rcases List.mem_append.1 hx with hx | hx
          · exact hw x (by simp [hx])
          · obtain ⟨i, hi, rfl, _⟩ := hrow x hx; omega
        · rcases (hins x).1 hx with hx | rfl
          · exact h1 x hx
          · exact hba
        · rcases List.mem_append.1 hx with hx | hx
          · exact h2 x (by simp [hx]) hr
          · obtain ⟨i, hi, e, he⟩ := hrow _ hx
            obtain rfl : x = i := by omega
            exact .back hba hah he hr
        · rcases (hins y).1 q with q | rfl
          · rcases h3 x y p q r s with t | t
            · exact .inl ((hins x).2 (.inl t))
            · rcases List.mem_cons.1 t with t | t
              · exact .inl ((hins x).2 (.inr (by omega)))
              · exact .inr (List.mem_append_left _ t)
          · exact .inr (List.mem_append_right _ ((predsOf_mem hg y x).2 ⟨x, r.lt1, rfl, r⟩))
        · rcases h4 x p with t | t
          · exact .inl ((hins x).2 (.inl t))
          · rcases List.mem_cons.1 t with t | t
            · exact .inl ((hins x).2 (.inr (by omega)))
            · exact .inr (List.mem_append_left _ t)

theorem plfold_spec {o : List Int} {n : Nat} (hnd : o.Nodup) (ho : ∀ x ∈ o, 0 ≤ x ∧ x < (n : Int)) : ∀ m, m ≤ o.length → (∀ j (hj : j < m) (hj2 : j < o.length), (plfold o n m).getD o[j].toNat 0 = (j : Int)) ∧ ∀ i, i < n → (i : Int) ∉ o.take m → (plfold o n m).getD i 0 = -1
  | 0, _ => ⟨fun j hj => by omega, fun i hi _ => by
      unfold plfold
      rw [List.range_zero, List.foldl_nil, List.getD_eq_getElem?_getD, List.getElem?_replicate, if_pos hi]; rfl⟩
  | m + 1, hm => by
    have hlt : m < o.length := by omega
    obtain ⟨h1, h2⟩ := plfold_spec hnd ho m (by omega)
    have hom : o.getD m 0 = o[m] := by simp [List.getD_eq_getElem?_getD, hlt]
    have hx := ho o[m] (List.getElem_mem hlt)
    have hl := plfold_len o n m
    have hset : ∀ i, (plfold o n (m + 1)).getD i 0 = if o[m].toNat = i then (m : Int) else (plfold o n m).getD i 0 := by
      intro i
      rw [plfold_succ, hom, List.getD_eq_getElem?_getD, List.getElem?_set]
      by_cases e : o[m].toNat = i
      · rw [if_pos e, if_pos e, if_pos (by omega)]; rfl
      · rw [if_neg e, if_neg e, List.getD_eq_getElem?_getD]
    refine ⟨fun j hj hj2 => ?_, fun i hi hni => ?_⟩
    · rw [hset]
      by_cases e : j = m
      · subst e; rw [if_pos rfl]
      · rw [if_neg ?_, h1 j (by omega) hj2]
        intro e2
        have hxj := ho o[j] (List.getElem_mem hj2)
        have : o[m] = o[j] := by omega
        exact e ((List.getElem_inj hnd).1 this).symm
    · rw [List.take_succ_eq_append_getElem hlt] at hni
      rw [hset, if_neg ?_, h2 i hi (fun h => hni (List.mem_append_left _ h))]
      intro e
      exact hni (List.mem_append_right _ (by rw [List.mem_singleton]; omega))
theorem order_nodup (g : List (List Int)) : (orderOf g).Nodup := by
  unfold orderOf
  cases hr : rightB g
  · simp
  · obtain ⟨h1, h2, h3⟩ := right_rows hr
    rw [if_pos rfl]
    exact List.pairwise_reverse.2 ((walk_nodup h3 (by omega)).imp fun h e => h e.symm)
theorem place_at (g : List (List Int)) {j : Nat} (hj : j < (orderOf g).length) : (placesOf g).getD (orderOf g)[j].toNat 0 = (j : Int) :=
  (plfold_spec (order_nodup g) (orderOf_in g) _ (Nat.le_refl _)).1 j hj hj
theorem place_no (g : List (List Int)) {i : Nat} (hi : i < g.length) (h : (i : Int) ∉ orderOf g) : (placesOf g).getD i 0 = -1 :=
  (plfold_spec (order_nodup g) (orderOf_in g) _ (Nat.le_refl _)).2 i hi (by rw [List.take_length]; exact h)
theorem place_pos (g : List (List Int)) {i : Nat} (hi : i < g.length) : 0 ≤ (placesOf g).getD i 0 ↔ (i : Int) ∈ orderOf g := by
  constructor
  · intro h
    refine Classical.byContradiction fun hn => ?_
    rw [place_no g hi hn] at h; omega
  · intro h
    obtain ⟨j, hj, e⟩ := List.getElem_of_mem h
    have := place_at g hj
    rw [e, Int.toNat_natCast] at this
    omega
theorem order_mem {g : List (List Int)} (hr : rightB g = true) (i : Nat) : (i : Int) ∈ orderOf g ↔ Way g 0 i := by
  obtain ⟨h1, h2, h3⟩ := right_rows hr
  unfold orderOf
  rw [if_pos hr, List.mem_reverse]
  exact walk_mem h3 (by omega) i
/-- what is reached from the entry -/
theorem reach0 {g : List (List Int)} (hr : rightB g = true) {i : Nat} (hi : i < g.length) : (reachRes g 0).getD i false = true ↔ Way g 0 i := by
  obtain ⟨h1, h2, h3⟩ := right_rows hr
  unfold reachRes
  rw [if_pos ⟨hr, by omega, by omega⟩, ← walk_mem h3 (show 0 < g.length by omega)]
  have := mk_marks (n := g.length) (pre := walkOf g 0) hi
  unfold Mk at this
  rw [List.getD_eq_getElem?_getD, List.getElem?_eq_getElem (by rw [marks_len]; exact hi)] at this ⊢
  exact this
/-- which edges lead back -/
theorem back_mem {g : List (List Int)} (hr : rightB g = true) (e : S37) : e ∈ backOf g ↔ ∃ i x : Nat, e = ⟨i, x⟩ ∧ Edge g i x ∧ 0 ≤ (placesOf g).getD i 0 ∧ (placesOf g).getD x 0 ≤ (placesOf g).getD i 0 := by
  obtain ⟨h1, h2, h3⟩ := right_rows hr
  generalize hp : placesOf g = P
  have hrow : ∀ (i : Nat) (l : List Int), (∀ x ∈ l, 0 ≤ x) → ∀ out : List S37, e ∈ brow P i out l ↔ e ∈ out ∨ ∃ x : Nat, (x : Int) ∈ l ∧ e = ⟨i, x⟩ ∧ 0 ≤ P.getD i 0 ∧ P.getD x 0 ≤ P.getD i 0 := by
    intro i l
    induction l with
    | nil => intro _ out; simp [brow]
    | cons y l ih =>
      intro hl out
      obtain ⟨y, rfl⟩ := Int.eq_ofNat_of_zero_le (hl y (by simp))
      show e ∈ brow P i (bstep P i out y) l ↔ _
      rw [ih (fun x hx => hl x (by simp [hx]))]
      have hst : e ∈ bstep P i out (y : Int) ↔ e ∈ out ∨ (e = ⟨i, y⟩ ∧ 0 ≤ P.getD i 0 ∧ P.getD y 0 ≤ P.getD i 0) := by
        unfold bstep
        rw [Int.toNat_natCast]
        by_cases h0 : 0 ≤ P.getD i 0 ∧ P.getD y 0 ≤ P.getD i 0
        · cases hc : out.any (isE i y)
          · rw [if_pos ⟨h0.1, h0.2, rfl⟩, List.mem_append, List.mem_singleton]
            exact ⟨fun h => h.imp id fun h => ⟨h, h0⟩, fun h => h.imp id fun h => h.1⟩
          · rw [if_neg (fun h => by cases h.2.2)]
            refine ⟨.inl, fun h => h.elim id fun ⟨h, _⟩ => ?_⟩
            rw [List.any_eq_true] at hc
            obtain ⟨e', he', hc⟩ := hc
            unfold isE at hc
            rw [Bool.and_eq_true, decide_eq_true_eq, decide_eq_true_eq] at hc
            rw [h, hc.1, hc.2]; exact he'
        · rw [if_neg (fun h => h0 ⟨h.1, h.2.1⟩)]
          exact ⟨.inl, fun h => h.elim id fun h => absurd h.2 h0⟩
      rw [hst]
      constructor
      · rintro ((h | h) | ⟨x, hx, h⟩)
        · exact .inl h
        · exact .inr ⟨y, by simp, h⟩
        · exact .inr ⟨x, by simp [hx], h⟩
      · rintro (h | ⟨x, hx, h⟩)
        · exact .inl (.inl h)
        · rcases List.mem_cons.1 hx with hx | hx
          · obtain rfl : x = y := by omega
            exact .inl (.inr h)
          · exact .inr ⟨x, hx, h⟩
  have hfold : ∀ m, m ≤ g.length → (e ∈ bfold P g m ↔ ∃ i x : Nat, i < m ∧ e = ⟨i, x⟩ ∧ Edge g i x ∧ 0 ≤ P.getD i 0 ∧ P.getD x 0 ≤ P.getD i 0) := by
    intro m
    induction m with
    | zero => intro _; simp [bfold]
    | succ m ih =>
      intro hm
      rw [bfold_succ, hrow _ _ (fun x hx => (h3 _ (rowOf_mem (by omega)) x hx).1), ih (by omega)]
      constructor
      · rintro (⟨i, x, hi, h⟩ | ⟨x, hx, h, h4⟩)
        · exact ⟨i, x, by omega, h⟩
        · exact ⟨m, x, by omega, h, hx, h4⟩
      · rintro ⟨i, x, hi, h, he, h4⟩
        by_cases hi' : i = m
        · subst hi'; exact .inr ⟨x, he, h, h4⟩
        · exact .inl ⟨i, x, by omega, h, he, h4⟩
  unfold backOf
  rw [if_pos hr, hp, hfold _ (Nat.le_refl _)]
  exact ⟨fun ⟨i, x, _, h⟩ => ⟨i, x, h⟩, fun ⟨i, x, h⟩ => ⟨i, x, h.2.1.lt1, h⟩⟩
/-- from where one comes back to a head -/
def Froms (g : List (List Int)) (h : Nat) (x : Nat) : Prop := (⟨x, h⟩ : S37) ∈ backOf g
theorem froms_mem (g : List (List Int)) (h x : Nat) : (x : Int) ∈ hfold (backOf g) h ↔ Froms g h x := by
  rw [hfold_mem]
  constructor
  · rintro ⟨⟨a, b⟩, he, h1, h2⟩
    dsimp only at h1 h2
    subst h1; subst h2; exact he
  · intro h; exact ⟨_, h, rfl, rfl⟩
theorem froms_way {g : List (List Int)} (hr : rightB g = true) {h x : Nat} (hf : Froms g h x) : Way g 0 x := by
  obtain ⟨i, y, e, he, h1, _⟩ := (back_mem hr _).1 hf
  simp only [S37.mk.injEq] at e
  obtain rfl : x = i := by omega
  exact (order_mem hr x).1 ((place_pos g he.lt1).1 h1)
/-- the blocks of the loop of a head, as the program finds them -/
theorem body_spec {g : List (List Int)} (hr : rightB g = true) {h : Nat} (hh : h < g.length) (x : Nat) :
    bodyW (predsOf g) (reachRes g 0) (budget (predsOf g) (ins (fun _ => false) h) (hfold (backOf g) h)) (ins (fun _ => false) h) (hfold (backOf g) h) x = true ↔ BodySet g h (Froms g h) (fun x => (reachRes g 0).getD x false = true) x := by
  obtain ⟨h1, h2, h3⟩ := right_rows hr
  have hback := back_in g
  have hin : ∀ y ∈ hfold (backOf g) h, 0 ≤ y ∧ y < (g.length : Int) := by
    intro y hy
    rw [hfold_mem] at hy
    obtain ⟨e, he, _, rfl⟩ := hy
    exact (hback e he).1
  have hins : ∀ x : Nat, ins (fun _ => false) (h : Int) x = true ↔ x = h := fun x => by
    simp [ins]; omega
  refine bodyW_spec h3 (F := Froms g h) (fun x hx => ?_) _ _ _ (Nat.le_refl _) hin (fun x hx => ?_) (fun x hx hre => .frm ((froms_mem g h x).1 hx)) (fun x y hy hS => absurd ((hins y).1 hS) hy) (fun x hx => .inr ((froms_mem g h x).2 hx)) ((hins h).2 rfl) x
  · have := (hin x ((froms_mem g h x).2 hx)).2
    exact (reach0 hr (by omega)).2 (froms_way hr hx)
  · obtain rfl := (hins x).1 hx
    exact .head
end Go.Proofs.Ytkmbhknmjnbanaa.A


namespace Go.Proofs.Ytkmbhknmjnbanaa.A
open Go.RowKit Go.Proofs.YtkmbhknmjnbanaaW.PrintWords Go.Proofs.YtkmbhknmjnbanaaW.PrintLast Go.Shelf
set_option linter.unusedVariables false
set_option linter.unusedSimpArgs false

section
variable {g : List (List Int)} (hg : InG g) (hn : g.length ≤ 4096) (h8 : ∀ l ∈ g, l.length ≤ 8) {bk : List S37} {at_ : List Int} (hat : at_.length = g.length) {h : Nat} (hh : h < g.length) {F re : Nat → Prop} (hre : ∀ i, i < g.length → (0 ≤ at_.getD i 0 ↔ re i)) {out : List (List Int)}
include hg hn h8 hat hh hre
end

/-- a loop's row as far as block i -/
def rowTo (R : Nat → Bool) (h i : Nat) : List Int := (h : Int) :: (((List.range i).filter fun k : Nat => R k && !decide (k = h)).map fun k : Nat => (k : Int))
theorem bodyRes_row {g : List (List Int)} (hr : rightB g = true) {h : Nat} (hh : h < g.length) (fr : List Int) : bodyRes (predsOf g) (reachRes g 0) h fr = rowTo (fun k => bodyW (predsOf g) (reachRes g 0) (budget (predsOf g) (ins (fun _ => false) h) fr) (ins (fun _ => false) h) fr k) h g.length := by
  unfold bodyRes others rowTo
  rw [predsOf_len]
end Go.Proofs.Ytkmbhknmjnbanaa.A


namespace Go.Proofs.Ytkmbhknmjnbanaa.A
open Go.RowKit Go.Proofs.YtkmbhknmjnbanaaW.PrintWords Go.Proofs.YtkmbhknmjnbanaaW.PrintLast Go.Shelf
set_option linter.unusedVariables false
set_option linter.unusedSimpArgs false

def graph_Loops.f (l0 : List (List Int)) : Option (List (List Int)) := some (loopsOf l0)
theorem graph_Loops.calls (A0 : Option Addr) (c0 : Nat) (l0 : List (List Int)) (r : List (List Int)) (w : World) (hr0 : Kd.C (Kd.slice 3 (Kd.int .i64)) w A0 l0.length l0) (hc0 : l0.length ≤ c0) (h : graph_Loops.f l0 = some r) :
    Calls Try.prog 32 #[.slice A0 l0.length c0] w fun e w' => ∃ v0_ : Value, e = .returned (v0_) ∧ Kd.S (Kd.slice 3 (Kd.int .i64)) 27 w' w.heap.size (fun _ => True) v0_ r ∧ Below w.heap.size w w' := by
  obtain rfl := Option.some.inj h
  exact loops_calls A0 c0 l0 w hr0 hc0
def graph_Critical.f (l0 : List (List Int)) : Option (List S37) := some (crit (rightB l0) (predsOf l0) l0 l0.length)
theorem graph_Critical.calls (A0 : Option Addr) (c0 : Nat) (l0 : List (List Int)) (r : List S37) (w : World) (hr0 : Kd.C (Kd.slice 3 (Kd.int .i64)) w A0 l0.length l0) (hc0 : l0.length ≤ c0) (h : graph_Critical.f l0 = some r) :
    Calls Try.prog 25 #[.slice A0 l0.length c0] w fun e w' => ∃ v0_ : Value, e = .returned (v0_) ∧ Kd.R k37 37 w' w.heap.size (fun _ => True) v0_ r ∧ Below w.heap.size w w' := by
  obtain rfl := Option.some.inj h
  exact crit_calls A0 c0 l0 w hr0 hc0
end Go.Proofs.Ytkmbhknmjnbanaa.A


namespace Go.Proofs.Ytkmbhknmjnbanaa.A
open Go.RowKit Go.Maps Go.Proofs.YtkmbhknmjnbanaaW.PrintWords Go.Proofs.YtkmbhknmjnbanaaW.PrintLast Go.Shelf
set_option linter.unusedVariables false
set_option linter.unusedSimpArgs false

def g4 : List (List Int) := [[1, 2], [3], [3], [0]]
theorem s_right : graph_Right.f g4 = some true := by kernel_rfl
theorem s_order : graph_Order.f g4 = some [0, 2, 1, 3] := by kernel_rfl
theorem s_ints : swageref02_Ints.f 9 [0, 2, 1, 3] [0, 2, 1, 3] = some true := by kernel_rfl
theorem s_back : graph_Back.f 40 g4 = some [⟨3, 0⟩] := by kernel_rfl
theorem s_pairs : swageref05_Pairs.f 9 [⟨3, 0⟩] [⟨3, 0⟩] = some true := by kernel_rfl
theorem s_loops : graph_Loops.f g4 = some [[0, 1, 2, 3]] := by kernel_rfl
theorem s_rows : swageref06_Rows.f 40 [[0, 1, 2, 3]] [[0, 1, 2, 3]] = some true := by kernel_rfl
theorem s_preds : graph_Preds.f 40 g4 = some [[3], [0], [0], [1, 2]] := by kernel_rfl
theorem s_rows2 : swageref06_Rows.f 40 [[3], [0], [0], [1, 2]] [[3], [0], [0], [1, 2]] = some true := by kernel_rfl
theorem s_crit : graph_Critical.f g4 = some [] := by kernel_rfl
theorem s_reach : graph_Reach.f g4 1 = some [true, true, true, true] := by kernel_rfl

/-- a literal row of numbers -/
abbrev cellsI (l : List Int) : Obj := .cells (l.map (Value.int .i64)).toArray 3
theorem reps_ints {W : World} {base : Nat} {ok : Nat → Prop} (l : List Int) : Reps ((Kd.int .i64).M W base ok) (Kd.int .i64).sz l (l.map (Value.int .i64)) := by
  refine ⟨by rw [List.length_map]; show _ = l.length * 1; omega, fun j p hj => ?_⟩
  obtain ⟨h, rfl⟩ := List.getElem?_eq_some_iff.1 hj
  show ((l.map (Value.int .i64)).drop (j * 1)).take 1 = [Value.int .i64 l[j]]
  rw [Nat.mul_one, List.take_one, List.head?_drop, List.getElem?_map, hj]
  rfl
theorem lit_row (W : World) (l : List Int) (hl : l.length ≤ 1000) : Kd.R (Kd.int .i64) 3 (W.alloc (cellsI l)) W.heap.size (fun _ => True) (.slice (some ⟨W.heap.size, 0, none⟩) l.length l.length) l :=
  R_new_lit (Kd.int .i64) W W.heap.size 3 (ok := fun _ => True) (okp := fun _ => True) (reps_ints l) (fun _ h => h) trivial (Nat.le_refl _) (by omega)
inductive RowsR (W : World) (base : Nat) (ok : Nat → Prop) : List (List Int) → List Value → Prop
  | nil : RowsR W base ok [] []
  | cons {l : List Int} {v : Value} {ls : List (List Int)} {vs : List Value} : Kd.R (Kd.int .i64) 3 W base ok v l → RowsR W base ok ls vs → RowsR W base ok (l :: ls) (v :: vs)
theorem reps_rows {W : World} {base : Nat} {ok : Nat → Prop} : ∀ {ls : List (List Int)} {vs : List Value}, RowsR W base ok ls vs → Reps ((Kd.slice 3 (Kd.int .i64)).M W base ok) (Kd.slice 3 (Kd.int .i64)).sz ls vs := by
  intro ls vs h
  refine ⟨?_, ?_⟩
  · have : vs.length = ls.length := by induction h <;> simp_all
    rw [this]; show _ = ls.length * 1; omega
  · intro j p hj
    show (Kd.slice 3 (Kd.int .i64)).M W base ok p ((vs.drop (j * 1)).take 1)
    rw [Nat.mul_one]
    induction h generalizing j with
    | nil => simp at hj
    | cons h1 h2 ih =>
      cases j with
      | zero => simp at hj; subst hj; exact Kd.M_row h1
      | succ j => simp at hj; simpa using ih j hj
theorem lit_rows1 (W : World) (a : List Int) (ha : a.length ≤ 1000) : Kd.C (Kd.slice 3 (Kd.int .i64)) ((W.alloc (cellsI a)).alloc (.cells #[.slice (some ⟨W.heap.size, 0, none⟩) a.length a.length] 27)) (some ⟨W.heap.size + 1, 0, none⟩) 1 [a] := by
  have h1 := lit_row W a ha
  have h2 := R_new_lit (Kd.slice 3 (Kd.int .i64)) (W.alloc (cellsI a)) W.heap.size 27 (xs := [a]) (inner := [.slice (some ⟨W.heap.size, 0, none⟩) a.length a.length]) (ok := fun _ => True) (okp := fun _ => True) (reps_rows (.cons h1 .nil)) (fun _ h => h) trivial (by simp) (by simp)
  rw [World.size_alloc] at h2
  exact (Kd.R_reads' h2).2.2
theorem lit_rows4 (W : World) (a b c d : List Int) (ha : a.length ≤ 1000) (hb : b.length ≤ 1000) (hc : c.length ≤ 1000) (hd : d.length ≤ 1000) :
    Kd.C (Kd.slice 3 (Kd.int .i64)) (((((W.alloc (cellsI a)).alloc (cellsI b)).alloc (cellsI c)).alloc (cellsI d)).alloc (.cells #[.slice (some ⟨W.heap.size, 0, none⟩) a.length a.length, .slice (some ⟨W.heap.size + 1, 0, none⟩) b.length b.length, .slice (some ⟨W.heap.size + 2, 0, none⟩) c.length c.length, .slice (some ⟨W.heap.size + 3, 0, none⟩) d.length d.length] 27)) (some ⟨W.heap.size + 4, 0, none⟩) 4 [a, b, c, d] := by
  have al : ∀ (w : World) (o : Obj), Below w.heap.size w (w.alloc o) := fun w o => below_alloc (Below.refl _ _) _
  have h1 := Kd.R_below (Kd.R_below (Kd.R_below (lit_row W a ha) (al _ (cellsI b))) (al _ (cellsI c))) (al _ (cellsI d))
  have h2 := Kd.R_lower (Kd.R_below (Kd.R_below (lit_row (W.alloc (cellsI a)) b hb) (al _ (cellsI c))) (al _ (cellsI d))) (base' := W.heap.size) (by simp)
  have h3 := Kd.R_lower (Kd.R_below (lit_row ((W.alloc (cellsI a)).alloc (cellsI b)) c hc) (al _ (cellsI d))) (base' := W.heap.size) (by simp; omega)
  have h4 := Kd.R_lower (lit_row (((W.alloc (cellsI a)).alloc (cellsI b)).alloc (cellsI c)) d hd) (base' := W.heap.size) (by simp; omega)
  simp only [World.size_alloc, Nat.add_assoc, Nat.reduceAdd] at h2 h3 h4
  have h5 := R_new_lit (Kd.slice 3 (Kd.int .i64)) ((((W.alloc (cellsI a)).alloc (cellsI b)).alloc (cellsI c)).alloc (cellsI d)) W.heap.size 27 (xs := [a, b, c, d]) (ok := fun _ => True) (okp := fun _ => True) (reps_rows (.cons h1 (.cons h2 (.cons h3 (.cons h4 .nil))))) (fun _ h => h) trivial (by simp; omega) (by simp)
  simp only [World.size_alloc, Nat.add_assoc, Nat.reduceAdd] at h5
  exact (Kd.R_reads' h5).2.2
theorem lit_pair (W : World) (x y : Int) : Kd.C k37 (W.alloc (.cells #[.int .i64 x, .int .i64 y] 37)) (some ⟨W.heap.size, 0, none⟩) 1 [⟨x, y⟩] := by
  have h := R_new_lit k37 W W.heap.size 37 (xs := [(⟨x, y⟩ : S37)]) (inner := [.int .i64 x, .int .i64 y]) (ok := fun _ => True) (okp := fun _ => True) ⟨rfl, fun j p hj => by
    match j, hj with
    | 0, hj => simp at hj; subst hj; exact k37_mkM _ _ _ _
    | j + 1, hj => simp at hj⟩ (fun _ h => h) trivial (Nat.le_refl _) (by simp)
  exact (Kd.R_reads' h).2.2

set_option maxRecDepth 100000 in
set_option maxHeartbeats 2000000 in
theorem small_calls (w : World) : Calls Try.prog 13 #[] w fun e w' => e = .returned (.bool true) ∧ Below w.heap.size w w' := by
  have hu37 := Try.underlying37
  go_enter Try.func13, Try.ntmps13
  go_wp2_with fail
  have hC0 : Kd.C (Kd.slice 3 (Kd.int .i64)) (((((w.alloc (.cells #[.int .i64 1, .int .i64 2] 3)).alloc (.cells #[.int .i64 3] 3)).alloc (.cells #[.int .i64 3] 3)).alloc (.cells #[.int .i64 0] 3)).alloc (.cells #[.slice (some ⟨w.heap.size, 0, none⟩) 2 2, .slice (some ⟨w.heap.size + 1, 0, none⟩) 1 1, .slice (some ⟨w.heap.size + 1 + 1, 0, none⟩) 1 1, .slice (some ⟨w.heap.size + 1 + 1 + 1, 0, none⟩) 1 1] 27)) (some ⟨w.heap.size + 1 + 1 + 1 + 1, 0, none⟩) 4 g4 := lit_rows4 w [1, 2] [3] [3] [0] (by decide) (by decide) (by decide) (by decide)
  have hB0 : Below w.heap.size w (((((w.alloc (.cells #[.int .i64 1, .int .i64 2] 3)).alloc (.cells #[.int .i64 3] 3)).alloc (.cells #[.int .i64 3] 3)).alloc (.cells #[.int .i64 0] 3)).alloc (.cells #[.slice (some ⟨w.heap.size, 0, none⟩) 2 2, .slice (some ⟨w.heap.size + 1, 0, none⟩) 1 1, .slice (some ⟨w.heap.size + 1 + 1, 0, none⟩) 1 1, .slice (some ⟨w.heap.size + 1 + 1 + 1, 0, none⟩) 1 1] 27)) := below_alloc (below_alloc (below_alloc (below_alloc (below_alloc (Below.refl _ _) _) _) _) _) _
  generalize (((((w.alloc (.cells #[.int .i64 1, .int .i64 2] 3)).alloc (.cells #[.int .i64 3] 3)).alloc (.cells #[.int .i64 3] 3)).alloc (.cells #[.int .i64 0] 3)).alloc (.cells #[.slice (some ⟨w.heap.size, 0, none⟩) 2 2, .slice (some ⟨w.heap.size + 1, 0, none⟩) 1 1, .slice (some ⟨w.heap.size + 1 + 1, 0, none⟩) 1 1, .slice (some ⟨w.heap.size + 1 + 1 + 1, 0, none⟩) 1 1] 27)) = W0 at hC0 hB0 ⊢
  generalize w.heap.size + 1 + 1 + 1 + 1 = b0 at hC0 ⊢
  have hc1 : Calls Try.prog 19 #[.slice (some ⟨b0, 0, none⟩) 4 4] W0 fun e w' => e = .returned (.bool true) ∧ Below W0.heap.size W0 w' := graph_Right.calls (some ⟨b0, 0, none⟩) 4 g4 true W0 hC0 (by decide) s_right
  refine hc1.mono ?_
  rintro e w1 ⟨rfl, hb1⟩
  have hC1 := Aside0.mk (Kd.C_below hC0 hb1)
  have hB1 := Aside0.mk (below_step hB0 hb1)
  clear hc1 hC0 hB0 hb1
  go_wp2_with fail
  have ho : Calls Try.prog 28 #[.slice (some ⟨b0, 0, none⟩) 4 4] w1 fun e w' => ∃ A c, e = .returned (.slice A 4 c) ∧ 4 ≤ c ∧ Kd.C (Kd.int .i64) w' A 4 [0, 2, 1, 3] ∧ Below w1.heap.size w1 w' :=
    (graph_Order.calls (some ⟨b0, 0, none⟩) 4 g4 [0, 2, 1, 3] w1 hC1.out (by decide) s_order).mono fun e w' ⟨v, he, hR, hB⟩ => by
      obtain ⟨A, c, rfl, h1, h2⟩ := Kd.R_reads hR
      exact ⟨A, c, he, h1, h2, hB⟩
  refine ho.mono ?_
  rintro e w2 ⟨A2, c2, rfl, h2, hC2, hb2⟩
  have hC2' := Aside0.mk (Kd.C_below hC1.out hb2)
  have hB2 := Aside0.mk (below_step hB1.out hb2)
  have hi2 : Calls Try.prog 27 #[.slice A2 4 c2, .slice (some ⟨w2.heap.size, 0, none⟩) 4 4] (w2.alloc (.cells #[.int .i64 0, .int .i64 2, .int .i64 1, .int .i64 3] 3)) fun e w' => e = .returned (.bool true) ∧ Drawn0 (w2.alloc (.cells #[.int .i64 0, .int .i64 2, .int .i64 1, .int .i64 3] 3)) w' := swageref02_Ints.calls 9 A2 c2 [0, 2, 1, 3] (some ⟨w2.heap.size, 0, none⟩) 4 [0, 2, 1, 3] true _ (Kd.C_alloc hC2 (cellsI [0, 2, 1, 3])) h2 (Kd.R_reads' (lit_row w2 [0, 2, 1, 3] (by decide))).2.2 (by decide) s_ints
  have hC3 := Aside0.mk (Kd.C_alloc hC2'.out (cellsI [0, 2, 1, 3]))
  have hB3 := Aside0.mk (below_alloc hB2.out (cellsI [0, 2, 1, 3]))
  clear ho h2 hC2 hb2 hC1 hB1 hC2' hB2
  go_wp2_with fail
  refine hi2.mono ?_
  rintro e w3 ⟨rfl, hd3⟩
  have hC4 := Aside0.mk (Kd.C_below hC3.out hd3.below)
  have hB4 := Aside0.mk (below_step hB3.out hd3.below)
  clear hi2 hd3 hC3 hB3
  go_wp2_with fail
  -- Back
  have hbk : Calls Try.prog 30 #[.slice (some ⟨b0, 0, none⟩) 4 4] w3 fun e w' => ∃ A c, e = .returned (.slice A 1 c) ∧ 1 ≤ c ∧ Kd.C k37 w' A 1 [⟨3, 0⟩] ∧ Below w3.heap.size w3 w' :=
    (graph_Back.calls 40 (some ⟨b0, 0, none⟩) 4 g4 [⟨3, 0⟩] w3 hC4.out (by decide) s_back).mono fun e w' ⟨v, he, hR, hB⟩ => by
      obtain ⟨A, c, rfl, h1, h2⟩ := Kd.R_reads hR
      exact ⟨A, c, he, h1, h2, hB⟩
  refine hbk.mono ?_
  rintro e w4 ⟨A4, c4, rfl, h4, hC5, hb4⟩
  have hC6 := Aside0.mk (Kd.C_below hC4.out hb4)
  have hB6 := Aside0.mk (below_step hB4.out hb4)
  have hp : Calls Try.prog 24 #[.slice A4 1 c4, .slice (some ⟨w4.heap.size, 0, none⟩) 1 1] (w4.alloc (.cells #[.int .i64 3, .int .i64 0] 37)) fun e w' => e = .returned (.bool true) ∧ Drawn0 (w4.alloc (.cells #[.int .i64 3, .int .i64 0] 37)) w' := swageref05_Pairs.calls 9 A4 c4 [⟨3, 0⟩] (some ⟨w4.heap.size, 0, none⟩) 1 [⟨3, 0⟩] true _ (Kd.C_alloc hC5 _) h4 (lit_pair w4 3 0) (by decide) s_pairs
  have hC7 := Aside0.mk (Kd.C_alloc hC6.out (.cells #[.int .i64 3, .int .i64 0] 37))
  have hB7 := Aside0.mk (below_alloc hB6.out (.cells #[.int .i64 3, .int .i64 0] 37))
  clear hbk h4 hC5 hb4 hC4 hB4 hC6 hB6
  go_wp2_with fail
  refine hp.mono ?_
  rintro e w5 ⟨rfl, hd5⟩
  have hC8 := Aside0.mk (Kd.C_below hC7.out hd5.below)
  have hB8 := Aside0.mk (below_step hB7.out hd5.below)
  clear hp hd5 hC7 hB7
  go_wp2_with fail
  -- Loops
  have hlo : Calls Try.prog 32 #[.slice (some ⟨b0, 0, none⟩) 4 4] w5 fun e w' => ∃ A c, e = .returned (.slice A 1 c) ∧ 1 ≤ c ∧ Kd.C (Kd.slice 3 (Kd.int .i64)) w' A 1 [[0, 1, 2, 3]] ∧ Below w5.heap.size w5 w' :=
    (graph_Loops.calls (some ⟨b0, 0, none⟩) 4 g4 [[0, 1, 2, 3]] w5 hC8.out (by decide) s_loops).mono fun e w' ⟨v, he, hR, hB⟩ => by
      obtain ⟨A, c, rfl, h1, h2⟩ := Kd.S_reads hR
      exact ⟨A, c, he, h1, h2, hB⟩
  refine hlo.mono ?_
  rintro e w6 ⟨A6, c6, rfl, h6, hC9, hb6⟩
  have hC10 := Aside0.mk (Kd.C_below hC8.out hb6)
  have hB10 := Aside0.mk (below_step hB8.out hb6)
  have hr6 : Calls Try.prog 17 #[.slice A6 1 c6, .slice (some ⟨w6.heap.size + 1, 0, none⟩) 1 1] ((w6.alloc (.cells #[.int .i64 0, .int .i64 1, .int .i64 2, .int .i64 3] 3)).alloc (.cells #[.slice (some ⟨w6.heap.size, 0, none⟩) 4 4] 27)) fun e w' => e = .returned (.bool true) ∧ Drawn0 ((w6.alloc (.cells #[.int .i64 0, .int .i64 1, .int .i64 2, .int .i64 3] 3)).alloc (.cells #[.slice (some ⟨w6.heap.size, 0, none⟩) 4 4] 27)) w' :=
    swageref06_Rows.calls 40 A6 c6 [[0, 1, 2, 3]] (some ⟨w6.heap.size + 1, 0, none⟩) 1 [[0, 1, 2, 3]] true _ (Kd.C_alloc (Kd.C_alloc hC9 _) _) h6 (lit_rows1 w6 [0, 1, 2, 3] (by decide)) (by decide) s_rows
  have hC11 := Aside0.mk (Kd.C_alloc (Kd.C_alloc hC10.out (cellsI [0, 1, 2, 3])) (.cells #[.slice (some ⟨w6.heap.size, 0, none⟩) 4 4] 27))
  have hB11 := Aside0.mk (below_alloc (below_alloc hB10.out (cellsI [0, 1, 2, 3])) (.cells #[.slice (some ⟨w6.heap.size, 0, none⟩) 4 4] 27))
  clear hlo h6 hC9 hb6 hC8 hB8 hC10 hB10
  go_wp2_with fail
  refine hr6.mono ?_
  rintro e w7 ⟨rfl, hd7⟩
  have hC12 := Aside0.mk (Kd.C_below hC11.out hd7.below)
  have hB12 := Aside0.mk (below_step hB11.out hd7.below)
  clear hr6 hd7 hC11 hB11
  go_wp2_with fail
  -- Preds
  have hpr : Calls Try.prog 16 #[.slice (some ⟨b0, 0, none⟩) 4 4] w7 fun e w' => ∃ A c, e = .returned (.slice A 4 c) ∧ 4 ≤ c ∧ Kd.C (Kd.slice 3 (Kd.int .i64)) w' A 4 [[3], [0], [0], [1, 2]] ∧ Below w7.heap.size w7 w' :=
    (graph_Preds.calls 40 (some ⟨b0, 0, none⟩) 4 g4 [[3], [0], [0], [1, 2]] w7 hC12.out (by decide) s_preds).mono fun e w' ⟨v, he, hR, hB⟩ => by
      obtain ⟨A, c, rfl, h1, h2⟩ := Kd.S_reads hR
      exact ⟨A, c, he, h1, h2, hB⟩
  refine hpr.mono ?_
  rintro e w8 ⟨A8, c8, rfl, h8, hC13, hb8⟩
  have hC14 := Aside0.mk (Kd.C_below hC12.out hb8)
  have hB14 := Aside0.mk (below_step hB12.out hb8)
  have hr8 : Calls Try.prog 17 #[.slice A8 4 c8, .slice (some ⟨w8.heap.size + 1 + 1 + 1 + 1, 0, none⟩) 4 4] (((((w8.alloc (.cells #[.int .i64 3] 3)).alloc (.cells #[.int .i64 0] 3)).alloc (.cells #[.int .i64 0] 3)).alloc (.cells #[.int .i64 1, .int .i64 2] 3)).alloc (.cells #[.slice (some ⟨w8.heap.size, 0, none⟩) 1 1, .slice (some ⟨w8.heap.size + 1, 0, none⟩) 1 1, .slice (some ⟨w8.heap.size + 1 + 1, 0, none⟩) 1 1, .slice (some ⟨w8.heap.size + 1 + 1 + 1, 0, none⟩) 2 2] 27)) fun e w' => e = .returned (.bool true) ∧ Drawn0 (((((w8.alloc (.cells #[.int .i64 3] 3)).alloc (.cells #[.int .i64 0] 3)).alloc (.cells #[.int .i64 0] 3)).alloc (.cells #[.int .i64 1, .int .i64 2] 3)).alloc (.cells #[.slice (some ⟨w8.heap.size, 0, none⟩) 1 1, .slice (some ⟨w8.heap.size + 1, 0, none⟩) 1 1, .slice (some ⟨w8.heap.size + 1 + 1, 0, none⟩) 1 1, .slice (some ⟨w8.heap.size + 1 + 1 + 1, 0, none⟩) 2 2] 27)) w' :=
    swageref06_Rows.calls 40 A8 c8 [[3], [0], [0], [1, 2]] (some ⟨w8.heap.size + 1 + 1 + 1 + 1, 0, none⟩) 4 [[3], [0], [0], [1, 2]] true _ (Kd.C_alloc (Kd.C_alloc (Kd.C_alloc (Kd.C_alloc (Kd.C_alloc hC13 _) _) _) _) _) h8 (lit_rows4 w8 [3] [0] [0] [1, 2] (by decide) (by decide) (by decide) (by decide)) (by decide) s_rows2
  have hC15 : Aside0 (Kd.C (Kd.slice 3 (Kd.int .i64)) (((((w8.alloc (.cells #[.int .i64 3] 3)).alloc (.cells #[.int .i64 0] 3)).alloc (.cells #[.int .i64 0] 3)).alloc (.cells #[.int .i64 1, .int .i64 2] 3)).alloc (.cells #[.slice (some ⟨w8.heap.size, 0, none⟩) 1 1, .slice (some ⟨w8.heap.size + 1, 0, none⟩) 1 1, .slice (some ⟨w8.heap.size + 1 + 1, 0, none⟩) 1 1, .slice (some ⟨w8.heap.size + 1 + 1 + 1, 0, none⟩) 2 2] 27)) (some ⟨b0, 0, none⟩) 4 g4) := ⟨Kd.C_alloc (Kd.C_alloc (Kd.C_alloc (Kd.C_alloc (Kd.C_alloc hC14.out _) _) _) _) _⟩
  have hB15 : Aside0 (Below w.heap.size w (((((w8.alloc (.cells #[.int .i64 3] 3)).alloc (.cells #[.int .i64 0] 3)).alloc (.cells #[.int .i64 0] 3)).alloc (.cells #[.int .i64 1, .int .i64 2] 3)).alloc (.cells #[.slice (some ⟨w8.heap.size, 0, none⟩) 1 1, .slice (some ⟨w8.heap.size + 1, 0, none⟩) 1 1, .slice (some ⟨w8.heap.size + 1 + 1, 0, none⟩) 1 1, .slice (some ⟨w8.heap.size + 1 + 1 + 1, 0, none⟩) 2 2] 27))) := ⟨below_alloc (below_alloc (below_alloc (below_alloc (below_alloc hB14.out _) _) _) _) _⟩
  clear hpr h8 hC13 hb8 hC12 hB12 hC14 hB14
  go_wp2_with fail
  refine hr8.mono ?_
  rintro e w9 ⟨rfl, hd9⟩
  have hC16 := Aside0.mk (Kd.C_below hC15.out hd9.below)
  have hB16 := Aside0.mk (below_step hB15.out hd9.below)
  clear hr8 hd9 hC15 hB15
  go_wp2_with fail
  -- Critical
  have hcr : Calls Try.prog 25 #[.slice (some ⟨b0, 0, none⟩) 4 4] w9 fun e w' => ∃ A c, e = .returned (.slice A 0 c) ∧ Below w9.heap.size w9 w' :=
    (graph_Critical.calls (some ⟨b0, 0, none⟩) 4 g4 [] w9 hC16.out (by decide) s_crit).mono fun e w' ⟨v, he, hR, hB⟩ => by
      obtain ⟨A, c, rfl, h1, h2⟩ := Kd.R_reads hR
      exact ⟨A, c, he, hB⟩
  refine hcr.mono ?_
  rintro e w10 ⟨A10, c10, rfl, hb10⟩
  have hC17 := Aside0.mk (Kd.C_below hC16.out hb10)
  have hB17 := Aside0.mk (below_step hB16.out hb10)
  clear hcr hb10 hC16 hB16
  go_wp2_with fail
  -- Reach
  have hre : Calls Try.prog 22 #[.slice (some ⟨b0, 0, none⟩) 4 4, .int .i64 1] w10 fun e w' => ∃ A c, e = .returned (.slice A 4 c) ∧ Below w10.heap.size w10 w' :=
    (graph_Reach.calls (some ⟨b0, 0, none⟩) 4 g4 1 [true, true, true, true] w10 hC17.out (by decide) s_reach).mono fun e w' ⟨v, he, hR, hB⟩ => by
      obtain ⟨A, c, rfl, h1, h2⟩ := Kd.R_reads hR
      exact ⟨A, c, he, hB⟩
  refine hre.mono ?_
  rintro e w11 ⟨A11, c11, rfl, hb11⟩
  have hB18 := Aside0.mk (below_step hB17.out hb11)
  clear hre hb11 hC17 hB17
  go_wp2_with fail
  go_ret
  exact ⟨rfl, hB18.out⟩
def swagelaw06_small.f : Option Bool := some true
theorem swagelaw06_small.calls (r : Bool) (w : World) (h : swagelaw06_small.f = some r) : Calls Try.prog 13 #[] w fun e w' => e = .returned (.bool r) ∧ Below w.heap.size w w' := by
  obtain rfl := Option.some.inj h
  exact small_calls w
end Go.Proofs.Ytkmbhknmjnbanaa.A


namespace Go.Proofs.Ytkmbhknmjnbanaa.A
open Go.RowKit Go.Proofs.YtkmbhknmjnbanaaW.PrintWords Go.Proofs.YtkmbhknmjnbanaaW.PrintLast Go.Shelf
set_option linter.unusedVariables false
set_option linter.unusedSimpArgs false

theorem rowTo_mem {R : Nat → Bool} {h n : Nat} (hh : h < n) (hRh : R h = true) (x : Int) : x ∈ rowTo R h n ↔ ∃ k : Nat, x = k ∧ k < n ∧ R k = true := by
  unfold rowTo
  rw [List.mem_cons, List.mem_map]
  constructor
  · rintro (rfl | ⟨k, hk, rfl⟩)
    · exact ⟨h, rfl, hh, hRh⟩
    · obtain ⟨h1, h2⟩ := List.mem_filter.1 hk
      rw [Bool.and_eq_true] at h2
      exact ⟨k, rfl, List.mem_range.1 h1, h2.1⟩
  · rintro ⟨k, rfl, hk, hR⟩
    by_cases e : k = h
    · subst e; exact .inl rfl
    · exact .inr ⟨k, List.mem_filter.2 ⟨List.mem_range.2 hk, by rw [hR]; simp [e]⟩, rfl⟩
end Go.Proofs.Ytkmbhknmjnbanaa.A


namespace Go.Proofs.Ytkmbhknmjnbanaa.A
open Go.RowKit Go.Proofs.YtkmbhknmjnbanaaW.PrintWords Go.Proofs.YtkmbhknmjnbanaaW.PrintLast Go.Proofs.YtkmbhknmjnbanaaW.PrintMore
attribute [local go_sem] max2_int min2_int max_two min_two max_three min_three max_four min_four   -- for this text's walks alone
set_option linter.unusedVariables false
set_option linter.unusedSimpArgs false

mutual
def swagelaw06_GraphChain.j0 : Nat → Int → Int → Int → Bool → Bool → Option (Bool)
  | 0, _, _, _, _, _ => none
  | k + 1, x0, x1, x2, x7, x34 => if x34 = true then (some x7) else (swagelaw06_GraphChain.l0 k x0 x1 x2 x7 ([] : List (List Int)) 0)
def swagelaw06_GraphChain.l0 : Nat → Int → Int → Int → Bool → List (List Int) → Int → Option (Bool)
  | 0, _, _, _, _, _, _ => none
  | k + 1, x0, x1, x2, x7, x8, x9 => if x9 < x0 then (if (wrap64 (x9 + 1)) < x0 then (if ([] : List Int).length < 17592186044416 then ((some (([] : List Int) ++ [wrap64 (x9 + 1)] : List Int)).bind fun y569 => (if x9 = x1 then (if y569.length < 17592186044416 then (if x8.length < 5864062014805 then (swagelaw06_GraphChain.l0 k x0 x1 x2 x7 (x8 ++ [(y569 ++ [x2])]) (wrap64 (x9 + 1))) else (none)) else (none)) else (if x8.length < 5864062014805 then (swagelaw06_GraphChain.l0 k x0 x1 x2 x7 (x8 ++ [y569]) (wrap64 (x9 + 1))) else (none)))) else (none)) else (if x9 = x1 then (if ([] : List Int).length < 17592186044416 then (if x8.length < 5864062014805 then (swagelaw06_GraphChain.l0 k x0 x1 x2 x7 (x8 ++ [(([] : List Int) ++ [x2])]) (wrap64 (x9 + 1))) else (none)) else (none)) else (if x8.length < 5864062014805 then (swagelaw06_GraphChain.l0 k x0 x1 x2 x7 (x8 ++ [([] : List Int)]) (wrap64 (x9 + 1))) else (none)))) else ((graph_Order.f x8).bind fun t590 => ((graph_Loops.f x8).bind fun t593 => (if (t590.length : Int) = x0 then (if (t593.length : Int) = 1 then (if 0 < (t593.length : Int) then (if ((rd_L1 t593 0).length : Int) = (wrap64 ((wrap64 (x1 - x2)) + 1)) then ((graph_Back.f k x8).bind fun t597 => ((swageref05_Pairs.f k t597 (([(⟨x1, x2⟩ : S37)] : List (S37)))).bind fun t603 => (swagelaw06_GraphChain.j2 k x0 x2 x7 t590 t593 (!t603)))) else (swagelaw06_GraphChain.j2 k x0 x2 x7 t590 t593 true)) else (none)) else (swagelaw06_GraphChain.j2 k x0 x2 x7 t590 t593 true)) else (swagelaw06_GraphChain.j2 k x0 x2 x7 t590 t593 true))))
def swagelaw06_GraphChain.j2 : Nat → Int → Int → Bool → List Int → List (List Int) → Bool → Option (Bool)
  | 0, _, _, _, _, _, _ => none
  | k + 1, x0, x2, x7, x11, x12, x94 => if x94 = true then (some false) else (swagelaw06_GraphChain.l1 k x0 x2 x7 x11 x12 0)
def swagelaw06_GraphChain.l1 : Nat → Int → Int → Bool → List Int → List (List Int) → Int → Option (Bool)
  | 0, _, _, _, _, _, _ => none
  | k + 1, x0, x2, x7, x11, x12, x13 => if x13 < x0 then (if 0 ≤ x13 then (if x13 < (x11.length : Int) then (if (rd x11 x13) = x13 then (if 0 < (x12.length : Int) then (if x13 < ((rd_L1 x12 0).length : Int) then (if (rd (rd_L1 x12 0) x13) = (wrap64 (x2 + x13)) then (swagelaw06_GraphChain.l1 k x0 x2 x7 x11 x12 (wrap64 (x13 + 1))) else (some false)) else (swagelaw06_GraphChain.l1 k x0 x2 x7 x11 x12 (wrap64 (x13 + 1)))) else (none)) else (some false)) else (none)) else (none)) else (some x7)
end
def swagelaw06_GraphChain.f (k : Nat) (a0 : Int) (a1 : Int) (a2 : Int) : Option (Bool) := (swagelaw06_small.f).bind fun t568 => (if a0 < 1 then (swagelaw06_GraphChain.j0 k a0 a1 a2 t568 true) else (if a0 > 60 then (swagelaw06_GraphChain.j0 k a0 a1 a2 t568 true) else (if a2 < 0 then (swagelaw06_GraphChain.j0 k a0 a1 a2 t568 true) else (if a1 < a2 then (swagelaw06_GraphChain.j0 k a0 a1 a2 t568 true) else (swagelaw06_GraphChain.j0 k a0 a1 a2 t568 (decide (a1 ≥ a0)))))))
set_option maxHeartbeats 8000000 in
set_option maxRecDepth 100000 in
theorem swagelaw06_GraphChain.calls (k : Nat) (a0 : Int) (a1 : Int) (a2 : Int) (r : Bool) (w : World) (h : swagelaw06_GraphChain.f k a0 a1 a2 = some r) :
    Calls Try.prog 8 #[.int .i64 a0, .int .i64 a1, .int .i64 a2] w fun e w' => e = .returned (.bool r) ∧ Below w.heap.size w w' := by
  have hu37 := Try.underlying37
  have HB := Aside0.mk (Below.refl w.heap.size w)
  have H : ((swagelaw06_small.f).bind fun t568 => (if a0 < 1 then (swagelaw06_GraphChain.j0 k a0 a1 a2 t568 true) else (if a0 > 60 then (swagelaw06_GraphChain.j0 k a0 a1 a2 t568 true) else (if a2 < 0 then (swagelaw06_GraphChain.j0 k a0 a1 a2 t568 true) else (if a1 < a2 then (swagelaw06_GraphChain.j0 k a0 a1 a2 t568 true) else (swagelaw06_GraphChain.j0 k a0 a1 a2 t568 (decide (a1 ≥ a0)))))))) = some r := h
  clear h
  replace H := Option.bind_eq_some_iff.mp H
  obtain ⟨t568, A40, H⟩ := H
  replace H : (if a0 < 1 then (swagelaw06_GraphChain.j0 k a0 a1 a2 t568 true) else (if a0 > 60 then (swagelaw06_GraphChain.j0 k a0 a1 a2 t568 true) else (if a2 < 0 then (swagelaw06_GraphChain.j0 k a0 a1 a2 t568 true) else (if a1 < a2 then (swagelaw06_GraphChain.j0 k a0 a1 a2 t568 true) else (swagelaw06_GraphChain.j0 k a0 a1 a2 t568 (decide (a1 ≥ a0))))))) = some r := H
  have A4 := Aside0.mk A40
  clear A40
  have HC5 := Aside0.mk H
  clear H
  go_enter Try.func8, Try.ntmps8
  go_upto_region 2 with (first | ((with_reducible refine gate_callee (f := 13) rfl ?_); refine goesL_ (some 14) rfl rfl Try.func13 (by kernel_rfl) rfl #[] rfl (by (try simp only [List.map_toArray, List.map_cons, List.map_nil]); first | done | rfl | (simp only [List.length_drop, List.length_take]; rfl)) ?_; (with_reducible refine (swagelaw06_small.calls  t568 _ A4.out).mono ?_); rintro e w6 ⟨rfl, hb⟩; refine ⟨_, rfl, ?_⟩; have n0_ := Aside0.mk (below_step (by repeat (first | (with_reducible first | exact HB.out | apply below_alloc | apply pw_below_drewN | apply below_drew1) | exact HB.out)) hb); clear HB; have HB := n0_; clear n0_; (try clear hb); (try clear hb2); (try clear hk); (try clear hi)))
  (try simp only [Act.put, List.setIfInBounds_toArray, List.set_cons_zero, List.set_cons_succ])
  go_cut [34] (fun v34 wc => ∃ (kq : Nat) (x34_4 : Bool), v34 = .bool x34_4 ∧ Aside0 (swagelaw06_GraphChain.j0 kq a0 a1 a2 t568 x34_4 = some r) ∧ Aside0 (kq ≤ k) ∧ Aside0 (Below w.heap.size w wc))
  case first =>
    have H := HC5.out
    clear HC5
    by_cases c7 : a0 < 1
    · rw [if_pos c7] at H
      have c7b0 : decide (a0 < 1) = true := decide_eq_true c7
      clear c7
      (first | rw [c7b0] | (simp only [i64_w, i32_w]; rw [c7b0]) | skip)
      have H' := Aside0.mk H
      clear H
      go_wp2
      go_meet
      case rel => exact ⟨_, (true), (by first | rfl | (simp; done) | (simp [*]; done)), H', ⟨by first | omega | exact Nat.le_refl _⟩, ⟨by repeat (first | (with_reducible first | exact HB.out | apply below_alloc | apply pw_below_drewN | apply below_drew1) | exact HB.out)⟩⟩
    · rw [if_neg c7] at H
      have c7b0 : decide (a0 < 1) = false := decide_eq_false c7
      clear c7
      (first | rw [c7b0] | (simp only [i64_w, i32_w]; rw [c7b0]) | skip)
      by_cases c8 : a0 > 60
      · rw [if_pos c8] at H
        have c8b0 : decide (60 < a0) = true := decide_eq_true c8
        clear c8
        have H' := Aside0.mk H
        clear H
        go_wp2
        go_meet
        case rel => exact ⟨_, (true), (by first | rfl | (simp; done) | (simp [*]; done)), H', ⟨by first | omega | exact Nat.le_refl _⟩, ⟨by repeat (first | (with_reducible first | exact HB.out | apply below_alloc | apply pw_below_drewN | apply below_drew1) | exact HB.out)⟩⟩
      · rw [if_neg c8] at H
        have c8b0 : decide (60 < a0) = false := decide_eq_false c8
        clear c8
        by_cases c9 : a2 < 0
        · rw [if_pos c9] at H
          have c9b0 : decide (a2 < 0) = true := decide_eq_true c9
          clear c9
          have H' := Aside0.mk H
          clear H
          go_wp2
          go_meet
          case rel => exact ⟨_, (true), (by first | rfl | (simp; done) | (simp [*]; done)), H', ⟨by first | omega | exact Nat.le_refl _⟩, ⟨by repeat (first | (with_reducible first | exact HB.out | apply below_alloc | apply pw_below_drewN | apply below_drew1) | exact HB.out)⟩⟩
        · rw [if_neg c9] at H
          have c9b0 : decide (a2 < 0) = false := decide_eq_false c9
          clear c9
          by_cases c10 : a1 < a2
          · rw [if_pos c10] at H
            have c10b0 : decide (a1 < a2) = true := decide_eq_true c10
            clear c10
            have H' := Aside0.mk H
            clear H
            go_wp2
            go_meet
            case rel => exact ⟨_, (true), (by first | rfl | (simp; done) | (simp [*]; done)), H', ⟨by first | omega | exact Nat.le_refl _⟩, ⟨by repeat (first | (with_reducible first | exact HB.out | apply below_alloc | apply pw_below_drewN | apply below_drew1) | exact HB.out)⟩⟩
          · rw [if_neg c10] at H
            have c10b0 : decide (a1 < a2) = false := decide_eq_false c10
            clear c10
            have H' := Aside0.mk H
            clear H
            go_wp2
            go_meet
            case rel => exact ⟨_, (decide (a1 ≥ a0)), (by first | rfl | (simp; done) | (simp [*]; done)), H', ⟨by first | omega | exact Nat.le_refl _⟩, ⟨by repeat (first | (with_reducible first | exact HB.out | apply below_alloc | apply pw_below_drewN | apply below_drew1) | exact HB.out)⟩⟩
  case rest =>
    clear HC5
    try clear c1
    try clear p2
    try clear c7
    try clear c7b0
    try clear c8
    try clear c8b0
    try clear c9
    try clear c9b0
    try clear c10
    try clear c10b0
    obtain ⟨kq, x34_4, rfl, HA, HJ4, HB⟩ := hcut
    cases kq with
    | zero => exact absurd HA.out (by simp [swagelaw06_GraphChain.j0])
    | succ kj4 =>
      have H := HA.out
      clear HA
      simp only [swagelaw06_GraphChain.j0] at H
      by_cases c11 : x34_4 = true
      · subst c11
        have H1 : (some t568) = some r := by rw [if_pos rfl] at H; exact H
        clear H
        have H := H1
        clear H1
        obtain rfl := Option.some.inj H
        go_wp2
        go_ret
        exact ⟨by first | rfl | (simp [errW_none, errW_some] <;> rfl) | (simp [*, errW_none, errW_some] <;> rfl), by repeat (first | (with_reducible first | exact HB.out | apply below_alloc | apply pw_below_drewN | apply below_drew1) | exact HB.out)⟩
      · replace c11 := Bool.eq_false_iff.mpr c11
        subst c11
        have H1 : (swagelaw06_GraphChain.l0 kj4 a0 a1 a2 t568 ([] : List (List Int)) 0) = some r := by rw [if_neg (show ¬ (false = true) by decide)] at H; exact H
        clear H
        have H := H1
        clear H1
        have H' := Aside0.mk H
        clear H
        go_wp2
        go_loopg [8, 9] kj4 (fun kq v8 v9 w' => ∃ (x8_2 : List (List Int)) (x9_2 : Int), v9 = .int .i64 x9_2 ∧ Aside0 (swagelaw06_GraphChain.l0 kq a0 a1 a2 t568 x8_2 x9_2 = some r) ∧ Aside0 (kq ≤ kj4) ∧ Aside0 (Kd.S (Kd.slice 3 (Kd.int .i64)) 27 w' w.heap.size (fun _ => True) v8 x8_2) ∧ Aside0 (Below w.heap.size w w'))
        case atStart => exact ⟨(([] : List (List Int))), (0), (by first | rfl | (simp; done) | (simp [*]; done)), H', ⟨Nat.le_refl _⟩, ⟨by first | exact Kd.S_nil _ _ _ _ _ | exact Kd.N_nil _ _ _ _ _ | exact Kd.V_nil _ _ _ _ _ | exact Kd.Q_nil _ _ _ _ _ | exact Kd.R_nil _ _ _ _ _⟩, ⟨by repeat (first | (with_reducible first | exact HB.out | apply below_alloc | apply pw_below_drewN | apply below_drew1) | exact HB.out)⟩⟩
        case round =>
          clear H'
          try clear c1
          try clear p2
          try clear c7
          try clear c7b0
          try clear c8
          try clear c8b0
          try clear c9
          try clear c9b0
          try clear c10
          try clear c10b0
          try clear c11
          try clear p2
          obtain ⟨x8_2, x9_2, rfl, HA, HK2, HO_8, HB⟩ := hrel
          cases gk with
          | zero => exact absurd HA.out (by simp [swagelaw06_GraphChain.l0])
          | succ k2 =>
            have H := HA.out
            clear HA
            simp only [swagelaw06_GraphChain.l0] at H
            by_cases c12 : x9_2 < a0
            · rw [if_pos c12] at H
              have c12b0 : decide (x9_2 < a0) = true := decide_eq_true c12
              clear c12
              by_cases c13 : (wrap64 (x9_2 + 1)) < a0
              · rw [if_pos c13] at H
                have c13b0 : decide ((wrap64 (x9_2 + 1)) < a0) = true := decide_eq_true c13
                clear c13
                by_cases c14 : ([] : List Int).length < 17592186044416
                · rw [if_pos c14] at H
                  have LMc14 := Aside0.mk c14
                  clear c14
                  obtain ⟨y569, hy569⟩ : ∃ y_ : List Int, y_ = (([] : List Int) ++ [wrap64 (x9_2 + 1)]) := ⟨_, rfl⟩
                  replace H : (if x9_2 = a1 then (if y569.length < 17592186044416 then (if x8_2.length < 5864062014805 then (swagelaw06_GraphChain.l0 k2 a0 a1 a2 t568 (x8_2 ++ [(y569 ++ [a2])]) (wrap64 (x9_2 + 1))) else (none)) else (none)) else (if x8_2.length < 5864062014805 then (swagelaw06_GraphChain.l0 k2 a0 a1 a2 t568 (x8_2 ++ [y569]) (wrap64 (x9_2 + 1))) else (none))) = some r := by first | (rw [hy569]; with_reducible exact H) | (have H2_ := (Option.bind_some _ _).symm.trans H; rw [hy569]; with_reducible exact H2_) | (have H2_ := (Option.bind_some _ _).symm.trans H; with_reducible exact H2_) | with_reducible exact H | (rw [hy569]; exact H) | exact H
                  have Ny569 := Aside0.mk hy569
                  clear hy569
                  by_cases c15 : x9_2 = a1
                  · rw [if_pos c15] at H
                    have c15b0 : (x9_2 == a1) = true := beq_iff_eq.mpr c15
                    have c15b1 : (x9_2 != a1) = false := bne_eq_false_iff_eq.mpr c15
                    clear c15
                    by_cases c16 : y569.length < 17592186044416
                    · rw [if_pos c16] at H
                      have LMc16 := Aside0.mk c16
                      clear c16
                      obtain ⟨y572, hy572⟩ : ∃ y_ : List Int, y_ = (y569 ++ [a2]) := ⟨_, rfl⟩
                      replace H : (if x8_2.length < 5864062014805 then (swagelaw06_GraphChain.l0 k2 a0 a1 a2 t568 (x8_2 ++ [y572]) (wrap64 (x9_2 + 1))) else (none)) = some r := by first | (rw [hy572]; with_reducible exact H) | (have H2_ := (Option.bind_some _ _).symm.trans H; rw [hy572]; with_reducible exact H2_) | (have H2_ := (Option.bind_some _ _).symm.trans H; with_reducible exact H2_) | with_reducible exact H | (rw [hy572]; exact H) | exact H
                      have Ny572 := Aside0.mk hy572
                      clear hy572
                      by_cases c17 : x8_2.length < 5864062014805
                      · rw [if_pos c17] at H
                        have LMc17 := Aside0.mk c17
                        clear c17
                        obtain ⟨y575, hy575⟩ : ∃ y_ : List (List Int), y_ = (x8_2 ++ [y572]) := ⟨_, rfl⟩
                        replace H : (swagelaw06_GraphChain.l0 k2 a0 a1 a2 t568 y575 (wrap64 (x9_2 + 1))) = some r := by first | (rw [hy575]; with_reducible exact H) | (have H2_ := (Option.bind_some _ _).symm.trans H; rw [hy575]; with_reducible exact H2_) | (have H2_ := (Option.bind_some _ _).symm.trans H; with_reducible exact H2_) | with_reducible exact H | (rw [hy575]; exact H) | exact H
                        have Ny575 := Aside0.mk hy575
                        clear hy575
                        have H' := Aside0.mk H
                        clear H
                        go_wp2_with (first | ((with_reducible refine gate_builtin (b := .append) (xs := #[.tmp 45, .tmp 48]) rfl ?_); (try (refine gate_guard (by rfl) ?_; dsimp only)); at_builtin; refine Kd.R_append (Kd.int .i64) (w0 := w) w.heap.size rfl (.tmp 45) (.tmp 48) 27 3 (.int .i64 0) 8 rfl Try.underlying27 info3 rfl (by decide) (by omega) (.slice none 0 0) ([] : List Int) (wrap64 (x9_2 + 1)) [.int .i64 (wrap64 (x9_2 + 1))] (fun _ => True) (fun _ => False) rfl rfl ?aP (fun _ hk => hk.elim) ?aF ?aO ?aB ?aS ?aL ?_; (case aP => exact rfl); (case aB => exact (by repeat (first | (with_reducible first | exact HB.out | apply below_alloc | apply pw_below_drewN | apply below_drew1) | exact HB.out))); (case aF => exact (fun _ _ => trivial)); (case aO => exact ((Kd.R_nil _ _ _ _ (fun _ => True)))); (case aS => exact (below_size (by repeat (first | (with_reducible first | exact HB.out | apply below_alloc | apply pw_below_drewN | apply below_drew1) | exact HB.out)))); (case aL => have := LMc14.out; omega); intro v570 w18 ho hb hg hat; rw [← Ny569.out] at ho; have n0_ := Aside0.mk (Kd.S_after (Kd.S_apart_nil (by (with_reducible repeat (first | apply Kd.S_alloc | apply Kd.S_drewN | apply Kd.S_drew)); exact HO_8.out)) hg hat); have n1_ := Aside0.mk (hb); have n2_ := Aside0.mk (ho); clear HO_8; clear HB; have HO_8 := n0_; have HB := n1_; have HO571 := n2_; clear n0_ n1_ n2_; clear ho hb hg hat) | ((with_reducible refine gate_builtin (b := .append) (xs := #[.tmp 53, .tmp 55]) rfl ?_); (try (refine gate_guard (by rfl) ?_; dsimp only)); at_builtin; refine Kd.R_append (Kd.int .i64) (w0 := w) w.heap.size rfl (.tmp 53) (.tmp 55) 27 3 (.int .i64 0) 8 rfl Try.underlying27 info3 rfl (by decide) (by omega) v570 y569 a2 [.int .i64 a2] (fun _ => True) (fun _ => False) rfl rfl ?aP (fun _ hk => hk.elim) ?aF ?aO ?aB ?aS ?aL ?_; (case aP => exact rfl); (case aB => exact (by repeat (first | (with_reducible first | exact HB.out | apply below_alloc | apply pw_below_drewN | apply below_drew1) | exact HB.out))); (case aF => exact (fun _ _ => trivial)); (case aO => exact (by (with_reducible repeat (first | apply Kd.R_alloc | apply Kd.R_drewN | apply Kd.R_drew)); exact HO571.out)); (case aS => exact (below_size (by repeat (first | (with_reducible first | exact HB.out | apply below_alloc | apply pw_below_drewN | apply below_drew1) | exact HB.out)))); (case aL => have := LMc16.out; omega); intro v573 w19 ho hb hg hat; rw [← Ny572.out] at ho; have n0_ := Aside0.mk (Kd.S_after (ok := (fun _ => True)) (by (with_reducible repeat (first | apply Kd.S_alloc | apply Kd.S_drewN | apply Kd.S_drew)); exact HO_8.out) hg hat); have n1_ := Aside0.mk (hb); have n2_ := Aside0.mk (ho); clear HO_8; clear HB; clear HO571; have HO_8 := n0_; have HB := n1_; have HO574 := n2_; clear n0_ n1_ n2_; clear ho hb hg hat; obtain ⟨Ao21, co21, eo21⟩ := Kd.R_slice HO574.out; subst eo21) | ((with_reducible refine gate_builtin (b := .append) (xs := #[.tmp 57, .tmp 59]) rfl ?_); (try (refine gate_guard (by rfl) ?_; dsimp only)); at_builtin; refine Kd.S_append (Kd.slice 3 (Kd.int .i64)) (w0 := w) w.heap.size rfl (.tmp 57) (.tmp 59) 22 27 (.slice none 0 0) 24 rfl Try.underlying22 info27 rfl (by decide) (by omega) u8 x8_2 y572 [.slice Ao21 y572.length co21] (fun _ => True) (fun k_ => some k_ = (.slice Ao21 y572.length co21 : Value).ownBlock) rfl rfl ?aP (fun k_ hk_ => ((Kd.R_mono (ok' := fun k_ => ((fun _ => True)) k_ ∧ some k_ ≠ (u8 : Value).ownBlock) (Kd.R_apart' (HO574.out) (Kd.S_typed HO_8.out) (by decide)) (fun k_ hk => ⟨trivial, hk.2⟩))).1 k_ hk_.symm) ?aF ?aO ?aB ?aS ?aL ?_; (case aP => exact Kd.M_row (Kd.R_mono (Kd.R_tight rfl (Kd.R_mono (ok' := fun k_ => ((fun _ => True)) k_ ∧ some k_ ≠ (u8 : Value).ownBlock) (Kd.R_apart' (HO574.out) (Kd.S_typed HO_8.out) (by decide)) (fun k_ hk => ⟨trivial, hk.2⟩))) (fun _ h_ => h_))); (case aB => exact (by repeat (first | (with_reducible first | exact HB.out | apply below_alloc | apply pw_below_drewN | apply below_drew1) | exact HB.out))); (case aF => exact (fun _ _ => trivial)); (case aO => exact (by (with_reducible repeat (first | apply Kd.S_alloc | apply Kd.S_drewN | apply Kd.S_drew)); exact Kd.S_mono HO_8.out (fun k_ hk => ⟨trivial, fun e_ => hk.2 e_⟩))); (case aS => exact (below_size (by repeat (first | (with_reducible first | exact HB.out | apply below_alloc | apply pw_below_drewN | apply below_drew1) | exact HB.out)))); (case aL => have := LMc17.out; omega); intro v576 w20 ho hb hg hat; rw [← Ny575.out] at ho; have n0_ := Aside0.mk (hb); have n1_ := Aside0.mk (ho); clear HB; clear HO_8; clear HO574; have HB := n0_; have HO577 := n1_; clear n0_ n1_; clear ho hb hg hat))
                        go_roundg k2
                        case measure => have := HJ4.out; have := HK2.out; omega
                        case rel => exact ⟨(y575), (wrap64 (x9_2 + 1)), (by first | rfl | (simp; done) | (simp [*]; done)), H', ⟨by have := HJ4.out; have := HK2.out; omega⟩, ⟨by (with_reducible repeat (first | apply Kd.S_alloc | apply Kd.S_drewN | apply Kd.S_drew)); exact HO577.out⟩, ⟨by repeat (first | (with_reducible first | exact HB.out | apply below_alloc | apply pw_below_drewN | apply below_drew1) | exact HB.out)⟩⟩
                      · rw [if_neg c17] at H
                        exact absurd H (by simp)
                    · rw [if_neg c16] at H
                      exact absurd H (by simp)
                  · rw [if_neg c15] at H
                    have c15b0 : (x9_2 == a1) = false := beq_eq_false_iff_ne.mpr c15
                    have c15b1 : (x9_2 != a1) = true := bne_iff_ne.mpr c15
                    by_cases c22 : x8_2.length < 5864062014805
                    · rw [if_pos c22] at H
                      have LMc22 := Aside0.mk c22
                      clear c22
                      obtain ⟨y578, hy578⟩ : ∃ y_ : List (List Int), y_ = (x8_2 ++ [y569]) := ⟨_, rfl⟩
                      replace H : (swagelaw06_GraphChain.l0 k2 a0 a1 a2 t568 y578 (wrap64 (x9_2 + 1))) = some r := by first | (rw [hy578]; with_reducible exact H) | (have H2_ := (Option.bind_some _ _).symm.trans H; rw [hy578]; with_reducible exact H2_) | (have H2_ := (Option.bind_some _ _).symm.trans H; with_reducible exact H2_) | with_reducible exact H | (rw [hy578]; exact H) | exact H
                      have Ny578 := Aside0.mk hy578
                      clear hy578
                      have H' := Aside0.mk H
                      clear H
                      go_wp2_with (first | ((with_reducible refine gate_builtin (b := .append) (xs := #[.tmp 45, .tmp 48]) rfl ?_); (try (refine gate_guard (by rfl) ?_; dsimp only)); at_builtin; refine Kd.R_append (Kd.int .i64) (w0 := w) w.heap.size rfl (.tmp 45) (.tmp 48) 27 3 (.int .i64 0) 8 rfl Try.underlying27 info3 rfl (by decide) (by omega) (.slice none 0 0) ([] : List Int) (wrap64 (x9_2 + 1)) [.int .i64 (wrap64 (x9_2 + 1))] (fun _ => True) (fun _ => False) rfl rfl ?aP (fun _ hk => hk.elim) ?aF ?aO ?aB ?aS ?aL ?_; (case aP => exact rfl); (case aB => exact (by repeat (first | (with_reducible first | exact HB.out | apply below_alloc | apply pw_below_drewN | apply below_drew1) | exact HB.out))); (case aF => exact (fun _ _ => trivial)); (case aO => exact ((Kd.R_nil _ _ _ _ (fun _ => True)))); (case aS => exact (below_size (by repeat (first | (with_reducible first | exact HB.out | apply below_alloc | apply pw_below_drewN | apply below_drew1) | exact HB.out)))); (case aL => have := LMc14.out; omega); intro v570 w23 ho hb hg hat; rw [← Ny569.out] at ho; have n0_ := Aside0.mk (Kd.S_after (Kd.S_apart_nil (by (with_reducible repeat (first | apply Kd.S_alloc | apply Kd.S_drewN | apply Kd.S_drew)); exact HO_8.out)) hg hat); have n1_ := Aside0.mk (hb); have n2_ := Aside0.mk (ho); clear HO_8; clear HB; have HO_8 := n0_; have HB := n1_; have HO571 := n2_; clear n0_ n1_ n2_; clear ho hb hg hat; obtain ⟨Ao25, co25, eo25⟩ := Kd.R_slice HO571.out; subst eo25) | ((with_reducible refine gate_builtin (b := .append) (xs := #[.tmp 57, .tmp 59]) rfl ?_); (try (refine gate_guard (by rfl) ?_; dsimp only)); at_builtin; refine Kd.S_append (Kd.slice 3 (Kd.int .i64)) (w0 := w) w.heap.size rfl (.tmp 57) (.tmp 59) 22 27 (.slice none 0 0) 24 rfl Try.underlying22 info27 rfl (by decide) (by omega) u8 x8_2 y569 [.slice Ao25 y569.length co25] (fun _ => True) (fun k_ => some k_ = (.slice Ao25 y569.length co25 : Value).ownBlock) rfl rfl ?aP (fun k_ hk_ => ((Kd.R_mono (ok' := fun k_ => ((fun _ => True)) k_ ∧ some k_ ≠ (u8 : Value).ownBlock) (Kd.R_apart' (HO571.out) (Kd.S_typed HO_8.out) (by decide)) (fun k_ hk => ⟨trivial, hk.2⟩))).1 k_ hk_.symm) ?aF ?aO ?aB ?aS ?aL ?_; (case aP => exact Kd.M_row (Kd.R_mono (Kd.R_tight rfl (Kd.R_mono (ok' := fun k_ => ((fun _ => True)) k_ ∧ some k_ ≠ (u8 : Value).ownBlock) (Kd.R_apart' (HO571.out) (Kd.S_typed HO_8.out) (by decide)) (fun k_ hk => ⟨trivial, hk.2⟩))) (fun _ h_ => h_))); (case aB => exact (by repeat (first | (with_reducible first | exact HB.out | apply below_alloc | apply pw_below_drewN | apply below_drew1) | exact HB.out))); (case aF => exact (fun _ _ => trivial)); (case aO => exact (by (with_reducible repeat (first | apply Kd.S_alloc | apply Kd.S_drewN | apply Kd.S_drew)); exact Kd.S_mono HO_8.out (fun k_ hk => ⟨trivial, fun e_ => hk.2 e_⟩))); (case aS => exact (below_size (by repeat (first | (with_reducible first | exact HB.out | apply below_alloc | apply pw_below_drewN | apply below_drew1) | exact HB.out)))); (case aL => have := LMc22.out; omega); intro v579 w24 ho hb hg hat; rw [← Ny578.out] at ho; have n0_ := Aside0.mk (hb); have n1_ := Aside0.mk (ho); clear HB; clear HO_8; clear HO571; have HB := n0_; have HO580 := n1_; clear n0_ n1_; clear ho hb hg hat))
                      go_roundg k2
                      case measure => have := HJ4.out; have := HK2.out; omega
                      case rel => exact ⟨(y578), (wrap64 (x9_2 + 1)), (by first | rfl | (simp; done) | (simp [*]; done)), H', ⟨by have := HJ4.out; have := HK2.out; omega⟩, ⟨by (with_reducible repeat (first | apply Kd.S_alloc | apply Kd.S_drewN | apply Kd.S_drew)); exact HO580.out⟩, ⟨by repeat (first | (with_reducible first | exact HB.out | apply below_alloc | apply pw_below_drewN | apply below_drew1) | exact HB.out)⟩⟩
                    · rw [if_neg c22] at H
                      exact absurd H (by simp)
                · rw [if_neg c14] at H
                  exact absurd H (by simp)
              · rw [if_neg c13] at H
                have c13b0 : decide ((wrap64 (x9_2 + 1)) < a0) = false := decide_eq_false c13
                clear c13
                by_cases c26 : x9_2 = a1
                · rw [if_pos c26] at H
                  have c26b0 : (x9_2 == a1) = true := beq_iff_eq.mpr c26
                  have c26b1 : (x9_2 != a1) = false := bne_eq_false_iff_eq.mpr c26
                  clear c26
                  by_cases c27 : ([] : List Int).length < 17592186044416
                  · rw [if_pos c27] at H
                    have LMc27 := Aside0.mk c27
                    clear c27
                    obtain ⟨y581, hy581⟩ : ∃ y_ : List Int, y_ = (([] : List Int) ++ [a2]) := ⟨_, rfl⟩
                    replace H : (if x8_2.length < 5864062014805 then (swagelaw06_GraphChain.l0 k2 a0 a1 a2 t568 (x8_2 ++ [y581]) (wrap64 (x9_2 + 1))) else (none)) = some r := by first | (rw [hy581]; with_reducible exact H) | (have H2_ := (Option.bind_some _ _).symm.trans H; rw [hy581]; with_reducible exact H2_) | (have H2_ := (Option.bind_some _ _).symm.trans H; with_reducible exact H2_) | with_reducible exact H | (rw [hy581]; exact H) | exact H
                    have Ny581 := Aside0.mk hy581
                    clear hy581
                    by_cases c28 : x8_2.length < 5864062014805
                    · rw [if_pos c28] at H
                      have LMc28 := Aside0.mk c28
                      clear c28
                      obtain ⟨y584, hy584⟩ : ∃ y_ : List (List Int), y_ = (x8_2 ++ [y581]) := ⟨_, rfl⟩
                      replace H : (swagelaw06_GraphChain.l0 k2 a0 a1 a2 t568 y584 (wrap64 (x9_2 + 1))) = some r := by first | (rw [hy584]; with_reducible exact H) | (have H2_ := (Option.bind_some _ _).symm.trans H; rw [hy584]; with_reducible exact H2_) | (have H2_ := (Option.bind_some _ _).symm.trans H; with_reducible exact H2_) | with_reducible exact H | (rw [hy584]; exact H) | exact H
                      have Ny584 := Aside0.mk hy584
                      clear hy584
                      have H' := Aside0.mk H
                      clear H
                      go_wp2_with (first | ((with_reducible refine gate_builtin (b := .append) (xs := #[.tmp 53, .tmp 55]) rfl ?_); (try (refine gate_guard (by rfl) ?_; dsimp only)); at_builtin; refine Kd.R_append (Kd.int .i64) (w0 := w) w.heap.size rfl (.tmp 53) (.tmp 55) 27 3 (.int .i64 0) 8 rfl Try.underlying27 info3 rfl (by decide) (by omega) (.slice none 0 0) ([] : List Int) a2 [.int .i64 a2] (fun _ => True) (fun _ => False) rfl rfl ?aP (fun _ hk => hk.elim) ?aF ?aO ?aB ?aS ?aL ?_; (case aP => exact rfl); (case aB => exact (by repeat (first | (with_reducible first | exact HB.out | apply below_alloc | apply pw_below_drewN | apply below_drew1) | exact HB.out))); (case aF => exact (fun _ _ => trivial)); (case aO => exact ((Kd.R_nil _ _ _ _ (fun _ => True)))); (case aS => exact (below_size (by repeat (first | (with_reducible first | exact HB.out | apply below_alloc | apply pw_below_drewN | apply below_drew1) | exact HB.out)))); (case aL => have := LMc27.out; omega); intro v582 w29 ho hb hg hat; rw [← Ny581.out] at ho; have n0_ := Aside0.mk (Kd.S_after (Kd.S_apart_nil (by (with_reducible repeat (first | apply Kd.S_alloc | apply Kd.S_drewN | apply Kd.S_drew)); exact HO_8.out)) hg hat); have n1_ := Aside0.mk (hb); have n2_ := Aside0.mk (ho); clear HO_8; clear HB; have HO_8 := n0_; have HB := n1_; have HO583 := n2_; clear n0_ n1_ n2_; clear ho hb hg hat; obtain ⟨Ao31, co31, eo31⟩ := Kd.R_slice HO583.out; subst eo31) | ((with_reducible refine gate_builtin (b := .append) (xs := #[.tmp 57, .tmp 59]) rfl ?_); (try (refine gate_guard (by rfl) ?_; dsimp only)); at_builtin; refine Kd.S_append (Kd.slice 3 (Kd.int .i64)) (w0 := w) w.heap.size rfl (.tmp 57) (.tmp 59) 22 27 (.slice none 0 0) 24 rfl Try.underlying22 info27 rfl (by decide) (by omega) u8 x8_2 y581 [.slice Ao31 y581.length co31] (fun _ => True) (fun k_ => some k_ = (.slice Ao31 y581.length co31 : Value).ownBlock) rfl rfl ?aP (fun k_ hk_ => ((Kd.R_mono (ok' := fun k_ => ((fun _ => True)) k_ ∧ some k_ ≠ (u8 : Value).ownBlock) (Kd.R_apart' (HO583.out) (Kd.S_typed HO_8.out) (by decide)) (fun k_ hk => ⟨trivial, hk.2⟩))).1 k_ hk_.symm) ?aF ?aO ?aB ?aS ?aL ?_; (case aP => exact Kd.M_row (Kd.R_mono (Kd.R_tight rfl (Kd.R_mono (ok' := fun k_ => ((fun _ => True)) k_ ∧ some k_ ≠ (u8 : Value).ownBlock) (Kd.R_apart' (HO583.out) (Kd.S_typed HO_8.out) (by decide)) (fun k_ hk => ⟨trivial, hk.2⟩))) (fun _ h_ => h_))); (case aB => exact (by repeat (first | (with_reducible first | exact HB.out | apply below_alloc | apply pw_below_drewN | apply below_drew1) | exact HB.out))); (case aF => exact (fun _ _ => trivial)); (case aO => exact (by (with_reducible repeat (first | apply Kd.S_alloc | apply Kd.S_drewN | apply Kd.S_drew)); exact Kd.S_mono HO_8.out (fun k_ hk => ⟨trivial, fun e_ => hk.2 e_⟩))); (case aS => exact (below_size (by repeat (first | (with_reducible first | exact HB.out | apply below_alloc | apply pw_below_drewN | apply below_drew1) | exact HB.out)))); (case aL => have := LMc28.out; omega); intro v585 w30 ho hb hg hat; rw [← Ny584.out] at ho; have n0_ := Aside0.mk (hb); have n1_ := Aside0.mk (ho); clear HB; clear HO_8; clear HO583; have HB := n0_; have HO586 := n1_; clear n0_ n1_; clear ho hb hg hat))
                      go_roundg k2
                      case measure => have := HJ4.out; have := HK2.out; omega
                      case rel => exact ⟨(y584), (wrap64 (x9_2 + 1)), (by first | rfl | (simp; done) | (simp [*]; done)), H', ⟨by have := HJ4.out; have := HK2.out; omega⟩, ⟨by (with_reducible repeat (first | apply Kd.S_alloc | apply Kd.S_drewN | apply Kd.S_drew)); exact HO586.out⟩, ⟨by repeat (first | (with_reducible first | exact HB.out | apply below_alloc | apply pw_below_drewN | apply below_drew1) | exact HB.out)⟩⟩
                    · rw [if_neg c28] at H
                      exact absurd H (by simp)
                  · rw [if_neg c27] at H
                    exact absurd H (by simp)
                · rw [if_neg c26] at H
                  have c26b0 : (x9_2 == a1) = false := beq_eq_false_iff_ne.mpr c26
                  have c26b1 : (x9_2 != a1) = true := bne_iff_ne.mpr c26
                  by_cases c32 : x8_2.length < 5864062014805
                  · rw [if_pos c32] at H
                    have LMc32 := Aside0.mk c32
                    clear c32
                    obtain ⟨y587, hy587⟩ : ∃ y_ : List (List Int), y_ = (x8_2 ++ [([] : List Int)]) := ⟨_, rfl⟩
                    replace H : (swagelaw06_GraphChain.l0 k2 a0 a1 a2 t568 y587 (wrap64 (x9_2 + 1))) = some r := by first | (rw [hy587]; with_reducible exact H) | (have H2_ := (Option.bind_some _ _).symm.trans H; rw [hy587]; with_reducible exact H2_) | (have H2_ := (Option.bind_some _ _).symm.trans H; with_reducible exact H2_) | with_reducible exact H | (rw [hy587]; exact H) | exact H
                    have Ny587 := Aside0.mk hy587
                    clear hy587
                    have H' := Aside0.mk H
                    clear H
                    go_wp2_with (first | ((with_reducible refine gate_builtin (b := .append) (xs := #[.tmp 57, .tmp 59]) rfl ?_); (try (refine gate_guard (by rfl) ?_; dsimp only)); at_builtin; refine Kd.S_append (Kd.slice 3 (Kd.int .i64)) (w0 := w) w.heap.size rfl (.tmp 57) (.tmp 59) 22 27 (.slice none 0 0) 24 rfl Try.underlying22 info27 rfl (by decide) (by omega) u8 x8_2 ([] : List Int) [.slice none 0 0] (fun _ => True) (fun _ => False) rfl rfl ?aP (fun k_ hk_ => hk_.elim) ?aF ?aO ?aB ?aS ?aL ?_; (case aP => exact Kd.M_row (Kd.R_nil _ _ _ _ _)); (case aB => exact (by repeat (first | (with_reducible first | exact HB.out | apply below_alloc | apply pw_below_drewN | apply below_drew1) | exact HB.out))); (case aF => exact (fun _ _ => trivial)); (case aO => exact (by (with_reducible repeat (first | apply Kd.S_alloc | apply Kd.S_drewN | apply Kd.S_drew)); exact Kd.S_mono HO_8.out (fun k_ hk => ⟨trivial, fun e_ => e_⟩))); (case aS => exact (below_size (by repeat (first | (with_reducible first | exact HB.out | apply below_alloc | apply pw_below_drewN | apply below_drew1) | exact HB.out)))); (case aL => have := LMc32.out; omega); intro v588 w33 ho hb hg hat; rw [← Ny587.out] at ho; have n0_ := Aside0.mk (hb); have n1_ := Aside0.mk (ho); clear HB; clear HO_8; have HB := n0_; have HO589 := n1_; clear n0_ n1_; clear ho hb hg hat))
                    go_roundg k2
                    case measure => have := HJ4.out; have := HK2.out; omega
                    case rel => exact ⟨(y587), (wrap64 (x9_2 + 1)), (by first | rfl | (simp; done) | (simp [*]; done)), H', ⟨by have := HJ4.out; have := HK2.out; omega⟩, ⟨by (with_reducible repeat (first | apply Kd.S_alloc | apply Kd.S_drewN | apply Kd.S_drew)); exact HO589.out⟩, ⟨by repeat (first | (with_reducible first | exact HB.out | apply below_alloc | apply pw_below_drewN | apply below_drew1) | exact HB.out)⟩⟩
                  · rw [if_neg c32] at H
                    exact absurd H (by simp)
            · rw [if_neg c12] at H
              have c12b0 : decide (x9_2 < a0) = false := decide_eq_false c12
              clear c12
              replace H := Option.bind_eq_some_iff.mp H
              obtain ⟨t590, A340, H⟩ := H
              replace H : ((graph_Loops.f x8_2).bind fun t593 => (if (t590.length : Int) = a0 then (if (t593.length : Int) = 1 then (if 0 < (t593.length : Int) then (if ((rd_L1 t593 0).length : Int) = (wrap64 ((wrap64 (a1 - a2)) + 1)) then ((graph_Back.f k2 x8_2).bind fun t597 => ((swageref05_Pairs.f k2 t597 (([(⟨a1, a2⟩ : S37)] : List (S37)))).bind fun t603 => (swagelaw06_GraphChain.j2 k2 a0 a2 t568 t590 t593 (!t603)))) else (swagelaw06_GraphChain.j2 k2 a0 a2 t568 t590 t593 true)) else (none)) else (swagelaw06_GraphChain.j2 k2 a0 a2 t568 t590 t593 true)) else (swagelaw06_GraphChain.j2 k2 a0 a2 t568 t590 t593 true))) = some r := H
              have A34 := Aside0.mk A340
              clear A340
              replace H := Option.bind_eq_some_iff.mp H
              obtain ⟨t593, A350, H⟩ := H
              replace H : (if (t590.length : Int) = a0 then (if (t593.length : Int) = 1 then (if 0 < (t593.length : Int) then (if ((rd_L1 t593 0).length : Int) = (wrap64 ((wrap64 (a1 - a2)) + 1)) then ((graph_Back.f k2 x8_2).bind fun t597 => ((swageref05_Pairs.f k2 t597 (([(⟨a1, a2⟩ : S37)] : List (S37)))).bind fun t603 => (swagelaw06_GraphChain.j2 k2 a0 a2 t568 t590 t593 (!t603)))) else (swagelaw06_GraphChain.j2 k2 a0 a2 t568 t590 t593 true)) else (none)) else (swagelaw06_GraphChain.j2 k2 a0 a2 t568 t590 t593 true)) else (swagelaw06_GraphChain.j2 k2 a0 a2 t568 t590 t593 true)) = some r := H
              have A35 := Aside0.mk A350
              clear A350
              have HC36 := Aside0.mk H
              clear H
              obtain ⟨Ao37, co37, eo37⟩ := Kd.S_slice HO_8.out
              subst eo37
              go_upto_region 16 with (first | ((with_reducible refine gate_callee (f := 28) rfl ?_); refine goesL_ (some 62) rfl rfl Try.func28 (by kernel_rfl) rfl #[.slice Ao37 x8_2.length co37] rfl (by (try simp only [List.map_toArray, List.map_cons, List.map_nil]); first | done | rfl | (simp only [List.length_drop, List.length_take]; rfl)) ?_; (with_reducible refine (graph_Order.calls _ _ x8_2 t590 _ ?side1 ?side2 A34.out).mono ?_); (case side1 => repeat (first | exact (Kd.S_reads' HO_8.out).2.2 | (with_reducible refine Kd.C_alloc ?_ _) | (with_reducible refine Kd.C_drewN ?_ _) | (with_reducible refine Kd.C_drew ?_))); (case side2 => exact (Kd.S_reads' HO_8.out).2.1); rintro e w38 ⟨v591, rfl, ho0, hb⟩; refine ⟨_, rfl, ?_⟩; have n0_ := Aside0.mk (Kd.S_elder' (by (with_reducible repeat (first | apply Kd.S_alloc | apply Kd.S_drewN | apply Kd.S_drew)); exact HO_8.out) (Kd.R_base ho0) hb); have n1_ := Aside0.mk (Kd.R_lower ho0 (below_size (by repeat (first | (with_reducible first | exact HB.out | apply below_alloc | apply pw_below_drewN | apply below_drew1) | exact HB.out)))); have n2_ := Aside0.mk (below_step (by repeat (first | (with_reducible first | exact HB.out | apply below_alloc | apply pw_below_drewN | apply below_drew1) | exact HB.out)) hb); clear HO_8; clear HB; have HO_8 := n0_; have HO592 := n1_; have HB := n2_; clear n0_ n1_ n2_; (try clear hb); (try clear hb2); (try clear hk); (try clear hi); (try clear ho0)) | ((with_reducible refine gate_callee (f := 32) rfl ?_); refine goesL_ (some 64) rfl rfl Try.func32 (by kernel_rfl) rfl #[.slice Ao37 x8_2.length co37] rfl (by (try simp only [List.map_toArray, List.map_cons, List.map_nil]); first | done | rfl | (simp only [List.length_drop, List.length_take]; rfl)) ?_; (with_reducible refine (graph_Loops.calls _ _ x8_2 t593 _ ?side1 ?side2 A35.out).mono ?_); (case side1 => repeat (first | exact (Kd.S_reads' HO_8.out).2.2 | (with_reducible refine Kd.C_alloc ?_ _) | (with_reducible refine Kd.C_drewN ?_ _) | (with_reducible refine Kd.C_drew ?_))); (case side2 => exact (Kd.S_reads' HO_8.out).2.1); rintro e w39 ⟨v594, rfl, ho0, hb⟩; refine ⟨_, rfl, ?_⟩; have n0_ := Aside0.mk (Kd.S_elder' (by (with_reducible repeat (first | apply Kd.S_alloc | apply Kd.S_drewN | apply Kd.S_drew)); exact HO_8.out) (Kd.S_base ho0) hb); have n1_ := Aside0.mk (Kd.R_below (by (with_reducible repeat (first | apply Kd.R_alloc | apply Kd.R_drewN | apply Kd.R_drew)); exact HO592.out) hb); have n2_ := Aside0.mk (Kd.S_lower (Kd.S_new' (Kd.S_new' ho0 (Kd.S_lt (by (with_reducible repeat (first | apply Kd.S_alloc | apply Kd.S_drewN | apply Kd.S_drew)); exact HO_8.out))) (Kd.R_lt (by (with_reducible repeat (first | apply Kd.R_alloc | apply Kd.R_drewN | apply Kd.R_drew)); exact HO592.out))) (below_size (by repeat (first | (with_reducible first | exact HB.out | apply below_alloc | apply pw_below_drewN | apply below_drew1) | exact HB.out)))); have n3_ := Aside0.mk (below_step (by repeat (first | (with_reducible first | exact HB.out | apply below_alloc | apply pw_below_drewN | apply below_drew1) | exact HB.out)) hb); clear HO_8; clear HO592; clear HB; have HO_8 := n0_; have HO592 := n1_; have HO595 := n2_; have HB := n3_; clear n0_ n1_ n2_ n3_; (try clear hb); (try clear hb2); (try clear hk); (try clear hi); (try clear ho0)))
              (try simp only [Act.put, List.setIfInBounds_toArray, List.set_cons_zero, List.set_cons_succ])
              go_cut [94] (fun v94 wc => ∃ (kq : Nat) (x94_35 : Bool), v94 = .bool x94_35 ∧ Aside0 (swagelaw06_GraphChain.j2 kq a0 a2 t568 t590 t593 x94_35 = some r) ∧ Aside0 (kq ≤ k2) ∧ Aside0 (Kd.R (Kd.int .i64) 3 wc w.heap.size (fun _ => True) v591 t590) ∧ Aside0 (Kd.S (Kd.slice 3 (Kd.int .i64)) 27 wc w.heap.size (fun k_ => some k_ ≠ (v591 : Value).ownBlock) v594 t593) ∧ Aside0 (Below w.heap.size w wc))
              case first =>
                have H := HC36.out
                clear HC36
                by_cases c40 : (t590.length : Int) = a0
                · rw [if_pos c40] at H
                  have c40b0 : ((t590.length : Int) == a0) = true := beq_iff_eq.mpr c40
                  have c40b1 : ((t590.length : Int) != a0) = false := bne_eq_false_iff_eq.mpr c40
                  clear c40
                  (first | rw [c40b0] | (simp only [i64_w, i32_w]; rw [c40b0]) | skip)
                  by_cases c41 : (t593.length : Int) = 1
                  · rw [if_pos c41] at H
                    have c41b0 : ((t593.length : Int) == 1) = true := beq_iff_eq.mpr c41
                    have c41b1 : ((t593.length : Int) != 1) = false := bne_eq_false_iff_eq.mpr c41
                    clear c41
                    by_cases c42 : 0 < (t593.length : Int)
                    · rw [if_pos c42] at H
                      have c42b0 : decide (0 < (t593.length : Int)) = true := decide_eq_true c42
                      have c42b1 : decide (0 < t593.length) = true := decide_eq_true (by omega)
                      clear c42
                      by_cases c43 : ((rd_L1 t593 0).length : Int) = (wrap64 ((wrap64 (a1 - a2)) + 1))
                      · rw [if_pos c43] at H
                        have c43b0 : (((rd_L1 t593 0).length : Int) == (wrap64 ((wrap64 (a1 - a2)) + 1))) = true := beq_iff_eq.mpr c43
                        have c43b1 : (((rd_L1 t593 0).length : Int) != (wrap64 ((wrap64 (a1 - a2)) + 1))) = false := bne_eq_false_iff_eq.mpr c43
                        clear c43
                        replace H := Option.bind_eq_some_iff.mp H
                        obtain ⟨t597, A440, H⟩ := H
                        replace H : ((swageref05_Pairs.f k2 t597 (([(⟨a1, a2⟩ : S37)] : List (S37)))).bind fun t603 => (swagelaw06_GraphChain.j2 k2 a0 a2 t568 t590 t593 (!t603))) = some r := H
                        have A44 := Aside0.mk A440
                        clear A440
                        obtain ⟨y600, hy600⟩ : ∃ y_ : List (S37), y_ = (([(⟨a1, a2⟩ : S37)] : List (S37))) := ⟨_, rfl⟩
                        replace H : ((swageref05_Pairs.f k2 t597 y600).bind fun t603 => (swagelaw06_GraphChain.j2 k2 a0 a2 t568 t590 t593 (!t603))) = some r := by first | (rw [hy600]; with_reducible exact H) | (have H2_ := (Option.bind_some _ _).symm.trans H; rw [hy600]; with_reducible exact H2_) | (have H2_ := (Option.bind_some _ _).symm.trans H; with_reducible exact H2_) | with_reducible exact H | (rw [hy600]; exact H) | exact H
                        have Ny600 := Aside0.mk hy600
                        clear hy600
                        replace H := Option.bind_eq_some_iff.mp H
                        obtain ⟨t603, A450, H⟩ := H
                        replace H : (swagelaw06_GraphChain.j2 k2 a0 a2 t568 t590 t593 (!t603)) = some r := H
                        have A45 := Aside0.mk A450
                        clear A450
                        have H' := Aside0.mk H
                        clear H
                        obtain ⟨Ao46, co46, eo46⟩ := Kd.R_slice HO592.out
                        subst eo46
                        obtain ⟨Ao47, co47, eo47⟩ := Kd.S_slice HO595.out
                        subst eo47
                        have p596 : 0 ≤ (0 : Int) := (by omega)
                        have q596 : 0 < (t593.length : Int) := of_decide_eq_true (by first | (with_reducible assumption) | assumption)
                        obtain ⟨ad596, A596_0, c596_0, e596, hx596_0, hl596_0, hi596_0⟩ := at_L1 (Kd.S_reads' HO595.out).2.2 0 p596 q596
                        cases e596
                        obtain ⟨ce596, hce596, hMe596, hcc596⟩ := Kd.S_get HO595.out [] 0 p596 (by first | exact q596 | exact of_decide_eq_true (by first | (with_reducible assumption) | assumption) | (have e_ := (Kd.S_reads' HO595.out).1; omega))
                        obtain ⟨ve596_0, rfl, ge596_0⟩ := hMe596
                        have hv596_0 := hcc596 0 _ rfl
                        rw [Nat.add_zero, show ((Kd.slice 3 (Kd.int .i64))).sz = 1 from rfl, Nat.mul_one] at hv596_0
                        replace hv596_0 := Option.some.inj (hv596_0.symm.trans hx596_0)
                        rw [hv596_0] at ge596_0
                        have HL596_0 := Aside0.mk (show Kd.R (Kd.int .i64) 3 _ _ _ _ (rd_L1 t593 0) from ge596_0)
                        clear hv596_0 ge596_0
                        clear hcc596 hce596
                        have qi596 : (0 < t593.length) = True := eq_true (by omega)
                        (try rw [show ((0 : Int)).toNat = 0 from rfl] at hx596_0)
                        (try rw [Addr.add_zero'] at hx596_0)
                        have HR596_0 := Aside0.mk hi596_0
                        have HC596_0 := Aside0.mk hl596_0
                        clear hi596_0 hl596_0
                        replace p596 := eq_true p596
                        replace q596 := eq_true q596
                        go_wp2_with (first | (go_at_call 30; (with_reducible refine (graph_Back.calls k2 _ _ x8_2 t597 _ ?side1 ?side2 A44.out).mono ?_); (case side1 => repeat (first | exact (Kd.S_reads' HO_8.out).2.2 | (with_reducible refine Kd.C_alloc ?_ _) | (with_reducible refine Kd.C_drewN ?_ _) | (with_reducible refine Kd.C_drew ?_))); (case side2 => exact (Kd.S_reads' HO_8.out).2.1); rintro e w48 ⟨v598, rfl, ho0, hb⟩; have n0_ := Aside0.mk (Kd.S_below (by (with_reducible repeat (first | apply Kd.S_alloc | apply Kd.S_drewN | apply Kd.S_drew)); exact HO_8.out) hb); have n1_ := Aside0.mk (Kd.R_below (by (with_reducible repeat (first | apply Kd.R_alloc | apply Kd.R_drewN | apply Kd.R_drew)); exact HO592.out) hb); have n2_ := Aside0.mk (Kd.S_below (by (with_reducible repeat (first | apply Kd.S_alloc | apply Kd.S_drewN | apply Kd.S_drew)); exact HO595.out) hb); have n3_ := Aside0.mk (Kd.R_below (by (with_reducible repeat (first | apply Kd.R_alloc | apply Kd.R_drewN | apply Kd.R_drew)); exact HL596_0.out) hb); have n4_ := Aside0.mk (Kd.R_lower ho0 (below_size (by repeat (first | (with_reducible first | exact HB.out | apply below_alloc | apply pw_below_drewN | apply below_drew1) | exact HB.out)))); have n5_ := Aside0.mk (Kd.C_below (by repeat (first | (with_reducible exact HR596_0.out) | (with_reducible refine Kd.C_alloc ?_ _) | (with_reducible refine Kd.C_drewN ?_ _) | (with_reducible refine Kd.C_drew ?_) | exact HR596_0.out)) hb); have n6_ := Aside0.mk (below_step (by repeat (first | (with_reducible first | exact HB.out | apply below_alloc | apply pw_below_drewN | apply below_drew1) | exact HB.out)) hb); clear HO_8; clear HO592; clear HO595; clear HL596_0; clear HR596_0; clear HB; have HO_8 := n0_; have HO592 := n1_; have HO595 := n2_; have HL596_0 := n3_; have HO599 := n4_; have HR596_0 := n5_; have HB := n6_; clear n0_ n1_ n2_ n3_ n4_ n5_ n6_; (try clear hb); (try clear hb2); (try clear hk); (try clear hi); (try clear ho0)) | ((with_reducible refine gate_dst (N := 91) rfl ?_); (try (refine gate_guard (by rfl) ?_; dsimp only)); refine Kd.R_lit k37 _ 37 ?hg (N := 91) ?hd (xs := ([(⟨a1, a2⟩ : S37)] : List (S37))) (inner := [.int .i64 a1, .int .i64 a2]) (ok := fun _ => True) (okp := fun _ => True) ?hr ?hp (fun _ hk => hk) trivial (Below.refl _ _) (Nat.le_refl _) (by simp) ?_; (case hd => rfl); (case hg => rfl); (case hr => first | (go_simp; done) | (go_simp; rfl)); (case hp => exact (Reps.c2 (show Kd.M k37 _ _ _ (⟨a1, a2⟩ : S37) [.int .i64 a1, .int .i64 a2] from (k37_mkM _ _ _ (⟨a1, a2⟩ : S37) )) (Reps.none _ _))); intro v601 w49 ho50 hb hg_ hnew_; clear hg_ hnew_; (first | rw [← Ny600.out] at ho50 | (simp only [Int.reduceToNat] at ho50; rw [← Ny600.out] at ho50)); have n0_ := Aside0.mk (Kd.S_below (by (with_reducible repeat (first | apply Kd.S_alloc | apply Kd.S_drewN | apply Kd.S_drew)); exact HO_8.out) hb); have n1_ := Aside0.mk (Kd.R_below (by (with_reducible repeat (first | apply Kd.R_alloc | apply Kd.R_drewN | apply Kd.R_drew)); exact HO592.out) hb); have n2_ := Aside0.mk (Kd.S_below (by (with_reducible repeat (first | apply Kd.S_alloc | apply Kd.S_drewN | apply Kd.S_drew)); exact HO595.out) hb); have n3_ := Aside0.mk (Kd.R_below (by (with_reducible repeat (first | apply Kd.R_alloc | apply Kd.R_drewN | apply Kd.R_drew)); exact HL596_0.out) hb); have n4_ := Aside0.mk (Kd.R_elder' (by (with_reducible repeat (first | apply Kd.R_alloc | apply Kd.R_drewN | apply Kd.R_drew)); exact HO599.out) (Kd.R_base ho50) hb); have n5_ := Aside0.mk (Kd.R_lower (Kd.R_new' ho50 (Kd.R_lt (by (with_reducible repeat (first | apply Kd.R_alloc | apply Kd.R_drewN | apply Kd.R_drew)); exact HO599.out))) (below_size (by repeat (first | (with_reducible first | exact HB.out | apply below_alloc | apply pw_below_drewN | apply below_drew1) | exact HB.out)))); have n6_ := Aside0.mk (Kd.C_below (by repeat (first | (with_reducible exact HR596_0.out) | (with_reducible refine Kd.C_alloc ?_ _) | (with_reducible refine Kd.C_drewN ?_ _) | (with_reducible refine Kd.C_drew ?_) | exact HR596_0.out)) hb); have n7_ := Aside0.mk (below_step (by repeat (first | (with_reducible first | exact HB.out | apply below_alloc | apply pw_below_drewN | apply below_drew1) | exact HB.out)) hb); clear HO_8; clear HO592; clear HO595; clear HL596_0; clear HO599; clear HR596_0; clear HB; have HO_8 := n0_; have HO592 := n1_; have HO595 := n2_; have HL596_0 := n3_; have HO599 := n4_; have HO602 := n5_; have HR596_0 := n6_; have HB := n7_; clear n0_ n1_ n2_ n3_ n4_ n5_ n6_ n7_; clear hb ho50; obtain ⟨Ao51, co51, eo51⟩ := Kd.R_slice HO599.out; subst eo51; obtain ⟨Ao52, co52, eo52⟩ := Kd.R_slice HO602.out; subst eo52) | (go_at_call 24; (with_reducible refine (swageref05_Pairs.calls k2 _ _ t597 _ _ y600 t603 _ ?side1 ?side2 ?side3 ?side4 A45.out).mono ?_); (case side1 => repeat (first | exact (Kd.R_reads' HO599.out).2.2 | (with_reducible refine Kd.C_alloc ?_ _) | (with_reducible refine Kd.C_drewN ?_ _) | (with_reducible refine Kd.C_drew ?_))); (case side2 => exact (Kd.R_reads' HO599.out).2.1); (case side3 => repeat (first | exact (Kd.R_reads' HO602.out).2.2 | (with_reducible refine Kd.C_alloc ?_ _) | (with_reducible refine Kd.C_drewN ?_ _) | (with_reducible refine Kd.C_drew ?_))); (case side4 => exact (Kd.R_reads' HO602.out).2.1); rintro e w' ⟨rfl, ⟨nd, rfl⟩⟩))
                        go_meet
                        case rel => exact ⟨_, (!t603), (by first | rfl | (simp; done) | (simp [*]; done)), H', ⟨by have := HJ4.out; have := HK2.out; first | omega | exact Nat.le_refl _⟩, ⟨by (with_reducible repeat (first | apply Kd.R_alloc | apply Kd.R_drewN | apply Kd.R_drew)); exact HO592.out⟩, ⟨by (with_reducible repeat (first | apply Kd.S_alloc | apply Kd.S_drewN | apply Kd.S_drew)); exact Kd.S_mono HO595.out (fun _ hk => hk.2)⟩, ⟨by repeat (first | (with_reducible first | exact HB.out | apply below_alloc | apply pw_below_drewN | apply below_drew1) | exact HB.out)⟩⟩
                      · rw [if_neg c43] at H
                        have c43b0 : (((rd_L1 t593 0).length : Int) == (wrap64 ((wrap64 (a1 - a2)) + 1))) = false := beq_eq_false_iff_ne.mpr c43
                        have c43b1 : (((rd_L1 t593 0).length : Int) != (wrap64 ((wrap64 (a1 - a2)) + 1))) = true := bne_iff_ne.mpr c43
                        have H' := Aside0.mk H
                        clear H
                        obtain ⟨Ao53, co53, eo53⟩ := Kd.R_slice HO592.out
                        subst eo53
                        obtain ⟨Ao54, co54, eo54⟩ := Kd.S_slice HO595.out
                        subst eo54
                        have p596 : 0 ≤ (0 : Int) := (by omega)
                        have q596 : 0 < (t593.length : Int) := of_decide_eq_true (by first | (with_reducible assumption) | assumption)
                        obtain ⟨ad596, A596_0, c596_0, e596, hx596_0, hl596_0, hi596_0⟩ := at_L1 (Kd.S_reads' HO595.out).2.2 0 p596 q596
                        cases e596
                        obtain ⟨ce596, hce596, hMe596, hcc596⟩ := Kd.S_get HO595.out [] 0 p596 (by first | exact q596 | exact of_decide_eq_true (by first | (with_reducible assumption) | assumption) | (have e_ := (Kd.S_reads' HO595.out).1; omega))
                        obtain ⟨ve596_0, rfl, ge596_0⟩ := hMe596
                        have hv596_0 := hcc596 0 _ rfl
                        rw [Nat.add_zero, show ((Kd.slice 3 (Kd.int .i64))).sz = 1 from rfl, Nat.mul_one] at hv596_0
                        replace hv596_0 := Option.some.inj (hv596_0.symm.trans hx596_0)
                        rw [hv596_0] at ge596_0
                        have HL596_0 := Aside0.mk (show Kd.R (Kd.int .i64) 3 _ _ _ _ (rd_L1 t593 0) from ge596_0)
                        clear hv596_0 ge596_0
                        clear hcc596 hce596
                        have qi596 : (0 < t593.length) = True := eq_true (by omega)
                        (try rw [show ((0 : Int)).toNat = 0 from rfl] at hx596_0)
                        (try rw [Addr.add_zero'] at hx596_0)
                        have HR596_0 := Aside0.mk hi596_0
                        have HC596_0 := Aside0.mk hl596_0
                        clear hi596_0 hl596_0
                        replace p596 := eq_true p596
                        replace q596 := eq_true q596
                        go_wp2
                        go_meet
                        case rel => exact ⟨_, (true), (by first | rfl | (simp; done) | (simp [*]; done)), H', ⟨by have := HJ4.out; have := HK2.out; first | omega | exact Nat.le_refl _⟩, ⟨by (with_reducible repeat (first | apply Kd.R_alloc | apply Kd.R_drewN | apply Kd.R_drew)); exact HO592.out⟩, ⟨by (with_reducible repeat (first | apply Kd.S_alloc | apply Kd.S_drewN | apply Kd.S_drew)); exact Kd.S_mono HO595.out (fun _ hk => hk.2)⟩, ⟨by repeat (first | (with_reducible first | exact HB.out | apply below_alloc | apply pw_below_drewN | apply below_drew1) | exact HB.out)⟩⟩
                    · rw [if_neg c42] at H
                      exact absurd H (by simp)
                  · rw [if_neg c41] at H
                    have c41b0 : ((t593.length : Int) == 1) = false := beq_eq_false_iff_ne.mpr c41
                    have c41b1 : ((t593.length : Int) != 1) = true := bne_iff_ne.mpr c41
                    have H' := Aside0.mk H
                    clear H
                    obtain ⟨Ao55, co55, eo55⟩ := Kd.R_slice HO592.out
                    subst eo55
                    obtain ⟨Ao56, co56, eo56⟩ := Kd.S_slice HO595.out
                    subst eo56
                    go_wp2
                    go_meet
                    case rel => exact ⟨_, (true), (by first | rfl | (simp; done) | (simp [*]; done)), H', ⟨by have := HJ4.out; have := HK2.out; first | omega | exact Nat.le_refl _⟩, ⟨by (with_reducible repeat (first | apply Kd.R_alloc | apply Kd.R_drewN | apply Kd.R_drew)); exact HO592.out⟩, ⟨by (with_reducible repeat (first | apply Kd.S_alloc | apply Kd.S_drewN | apply Kd.S_drew)); exact Kd.S_mono HO595.out (fun _ hk => hk.2)⟩, ⟨by repeat (first | (with_reducible first | exact HB.out | apply below_alloc | apply pw_below_drewN | apply below_drew1) | exact HB.out)⟩⟩
                · rw [if_neg c40] at H
                  have c40b0 : ((t590.length : Int) == a0) = false := beq_eq_false_iff_ne.mpr c40
                  have c40b1 : ((t590.length : Int) != a0) = true := bne_iff_ne.mpr c40
                  (first | rw [c40b0] | (simp only [i64_w, i32_w]; rw [c40b0]) | skip)
                  have H' := Aside0.mk H
                  clear H
                  obtain ⟨Ao57, co57, eo57⟩ := Kd.R_slice HO592.out
                  subst eo57
                  go_wp2
                  go_meet
                  case rel => exact ⟨_, (true), (by first | rfl | (simp; done) | (simp [*]; done)), H', ⟨by have := HJ4.out; have := HK2.out; first | omega | exact Nat.le_refl _⟩, ⟨by (with_reducible repeat (first | apply Kd.R_alloc | apply Kd.R_drewN | apply Kd.R_drew)); exact HO592.out⟩, ⟨by (with_reducible repeat (first | apply Kd.S_alloc | apply Kd.S_drewN | apply Kd.S_drew)); exact Kd.S_mono HO595.out (fun _ hk => hk.2)⟩, ⟨by repeat (first | (with_reducible first | exact HB.out | apply below_alloc | apply pw_below_drewN | apply below_drew1) | exact HB.out)⟩⟩
              case rest =>
                clear HC36
                try clear c1
                try clear c2
                try clear p2
                try clear c3
                try clear c4
                try clear c5
                try clear p5
                try clear q5
                try clear hx5
                try clear qi5
                try clear p6
                try clear c7
                try clear c7b0
                try clear c8
                try clear c8b0
                try clear c9
                try clear c9b0
                try clear c10
                try clear c10b0
                try clear c11
                try clear c12
                try clear c12b0
                try clear c13
                try clear c13b0
                try clear c14
                try clear c15
                try clear c15b0
                try clear c15b1
                try clear c16
                try clear c17
                try clear c22
                try clear c26
                try clear c26b0
                try clear c26b1
                try clear c27
                try clear c28
                try clear c32
                try clear c40
                try clear c40b0
                try clear c40b1
                try clear c41
                try clear c41b0
                try clear c41b1
                try clear c42
                try clear c42b0
                try clear c42b1
                try clear c43
                try clear c43b0
                try clear c43b1
                try clear hx596_0
                try clear p2
                try clear p596
                try clear q596
                obtain ⟨kq, x94_35, rfl, HA, HJ35, HO_11, HO_12, HB⟩ := hcut
                cases kq with
                | zero => exact absurd HA.out (by simp [swagelaw06_GraphChain.j2])
                | succ kj35 =>
                  have H := HA.out
                  clear HA
                  simp only [swagelaw06_GraphChain.j2] at H
                  by_cases c58 : x94_35 = true
                  · subst c58
                    have H1 : (some false) = some r := by rw [if_pos rfl] at H; exact H
                    clear H
                    have H := H1
                    clear H1
                    obtain rfl := Option.some.inj H
                    go_wp2
                    go_ret
                    exact ⟨by first | rfl | (simp [errW_none, errW_some] <;> rfl) | (simp [*, errW_none, errW_some] <;> rfl), by repeat (first | (with_reducible first | exact HB.out | apply below_alloc | apply pw_below_drewN | apply below_drew1) | exact HB.out)⟩
                  · replace c58 := Bool.eq_false_iff.mpr c58
                    subst c58
                    have H1 : (swagelaw06_GraphChain.l1 kj35 a0 a2 t568 t590 t593 0) = some r := by rw [if_neg (show ¬ (false = true) by decide)] at H; exact H
                    clear H
                    have H := H1
                    clear H1
                    have H' := Aside0.mk H
                    clear H
                    go_wp2
                    go_loopg [13] kj35 (fun kq v13 w' => ∃ (x13_4 : Int), v13 = .int .i64 x13_4 ∧ Aside0 (swagelaw06_GraphChain.l1 kq a0 a2 t568 t590 t593 x13_4 = some r) ∧ Aside0 (kq ≤ kj35) ∧ Aside0 (Kd.R (Kd.int .i64) 3 w' w.heap.size (fun _ => True) v591 t590) ∧ Aside0 (Kd.S (Kd.slice 3 (Kd.int .i64)) 27 w' w.heap.size (fun k_ => some k_ ≠ (v591 : Value).ownBlock) v594 t593) ∧ Aside0 (Below w.heap.size w w'))
                    case atStart => exact ⟨(0), (by first | rfl | (simp; done) | (simp [*]; done)), H', ⟨Nat.le_refl _⟩, ⟨by (with_reducible repeat (first | apply Kd.R_alloc | apply Kd.R_drewN | apply Kd.R_drew)); exact HO_11.out⟩, ⟨by (with_reducible repeat (first | apply Kd.S_alloc | apply Kd.S_drewN | apply Kd.S_drew)); exact HO_12.out⟩, ⟨by repeat (first | (with_reducible first | exact HB.out | apply below_alloc | apply pw_below_drewN | apply below_drew1) | exact HB.out)⟩⟩
                    case round =>
                      clear H'
                      try clear c1
                      try clear c2
                      try clear p2
                      try clear c3
                      try clear c4
                      try clear c5
                      try clear p5
                      try clear q5
                      try clear hx5
                      try clear qi5
                      try clear p6
                      try clear c7
                      try clear c7b0
                      try clear c8
                      try clear c8b0
                      try clear c9
                      try clear c9b0
                      try clear c10
                      try clear c10b0
                      try clear c11
                      try clear c12
                      try clear c12b0
                      try clear c13
                      try clear c13b0
                      try clear c14
                      try clear c15
                      try clear c15b0
                      try clear c15b1
                      try clear c16
                      try clear c17
                      try clear c22
                      try clear c26
                      try clear c26b0
                      try clear c26b1
                      try clear c27
                      try clear c28
                      try clear c32
                      try clear c40
                      try clear c40b0
                      try clear c40b1
                      try clear c41
                      try clear c41b0
                      try clear c41b1
                      try clear c42
                      try clear c42b0
                      try clear c42b1
                      try clear c43
                      try clear c43b0
                      try clear c43b1
                      try clear c58
                      try clear hx596_0
                      try clear p2
                      try clear p5
                      try clear p596
                      try clear p6
                      try clear q5
                      try clear q596
                      obtain ⟨x13_4, rfl, HA, HK4, HO_11, HO_12, HB⟩ := hrel
                      cases gk with
                      | zero => exact absurd HA.out (by simp [swagelaw06_GraphChain.l1])
                      | succ k4 =>
                        have H := HA.out
                        clear HA
                        simp only [swagelaw06_GraphChain.l1] at H
                        by_cases c59 : x13_4 < a0
                        · rw [if_pos c59] at H
                          have c59b0 : decide (x13_4 < a0) = true := decide_eq_true c59
                          clear c59
                          by_cases c60 : 0 ≤ x13_4
                          · rw [if_pos c60] at H
                            have c60b0 : decide (0 ≤ x13_4) = true := decide_eq_true c60
                            clear c60
                            by_cases c61 : x13_4 < (t590.length : Int)
                            · rw [if_pos c61] at H
                              have c61b0 : decide (x13_4 < (t590.length : Int)) = true := decide_eq_true c61
                              clear c61
                              by_cases c62 : (rd t590 x13_4) = x13_4
                              · rw [if_pos c62] at H
                                have c62b0 : ((rd t590 x13_4) == x13_4) = true := beq_iff_eq.mpr c62
                                have c62b1 : ((rd t590 x13_4) != x13_4) = false := bne_eq_false_iff_eq.mpr c62
                                clear c62
                                by_cases c63 : 0 < (t593.length : Int)
                                · rw [if_pos c63] at H
                                  have c63b0 : decide (0 < (t593.length : Int)) = true := decide_eq_true c63
                                  have c63b1 : decide (0 < t593.length) = true := decide_eq_true (by omega)
                                  clear c63
                                  by_cases c64 : x13_4 < ((rd_L1 t593 0).length : Int)
                                  · rw [if_pos c64] at H
                                    have c64b0 : decide (x13_4 < ((rd_L1 t593 0).length : Int)) = true := decide_eq_true c64
                                    clear c64
                                    by_cases c65 : (rd (rd_L1 t593 0) x13_4) = (wrap64 (a2 + x13_4))
                                    · rw [if_pos c65] at H
                                      have c65b0 : ((rd (rd_L1 t593 0) x13_4) == (wrap64 (a2 + x13_4))) = true := beq_iff_eq.mpr c65
                                      have c65b1 : ((rd (rd_L1 t593 0) x13_4) != (wrap64 (a2 + x13_4))) = false := bne_eq_false_iff_eq.mpr c65
                                      clear c65
                                      have H' := Aside0.mk H
                                      clear H
                                      obtain ⟨Ao66, co66, eo66⟩ := Kd.R_slice HO_11.out
                                      subst eo66
                                      have p604 : 0 ≤ (x13_4 : Int) := of_decide_eq_true (by first | (with_reducible assumption) | assumption)
                                      have q604 : x13_4 < (t590.length : Int) := of_decide_eq_true (by first | (with_reducible assumption) | assumption)
                                      obtain ⟨ad604, e604, hx604_0⟩ := Kd.at_int (Kd.R_reads' HO_11.out).2.2 x13_4 p604 q604
                                      cases e604
                                      replace p604 := eq_true p604
                                      replace q604 := eq_true q604
                                      obtain ⟨Ao67, co67, eo67⟩ := Kd.S_slice HO_12.out
                                      subst eo67
                                      have p605 : 0 ≤ (0 : Int) := (by omega)
                                      have q605 : 0 < (t593.length : Int) := of_decide_eq_true (by first | (with_reducible assumption) | assumption)
                                      obtain ⟨ad605, A605_0, c605_0, e605, hx605_0, hl605_0, hi605_0⟩ := at_L1 (Kd.S_reads' HO_12.out).2.2 0 p605 q605
                                      cases e605
                                      obtain ⟨ce605, hce605, hMe605, hcc605⟩ := Kd.S_get HO_12.out [] 0 p605 (by first | exact q605 | exact of_decide_eq_true (by first | (with_reducible assumption) | assumption) | (have e_ := (Kd.S_reads' HO_12.out).1; omega))
                                      obtain ⟨ve605_0, rfl, ge605_0⟩ := hMe605
                                      have hv605_0 := hcc605 0 _ rfl
                                      rw [Nat.add_zero, show ((Kd.slice 3 (Kd.int .i64))).sz = 1 from rfl, Nat.mul_one] at hv605_0
                                      replace hv605_0 := Option.some.inj (hv605_0.symm.trans hx605_0)
                                      rw [hv605_0] at ge605_0
                                      have HL605_0 := Aside0.mk (show Kd.R (Kd.int .i64) 3 _ _ _ _ (rd_L1 t593 0) from ge605_0)
                                      clear hv605_0 ge605_0
                                      clear hcc605 hce605
                                      have qi605 : (0 < t593.length) = True := eq_true (by omega)
                                      (try rw [show ((0 : Int)).toNat = 0 from rfl] at hx605_0)
                                      (try rw [Addr.add_zero'] at hx605_0)
                                      have HR605_0 := Aside0.mk hi605_0
                                      have HC605_0 := Aside0.mk hl605_0
                                      clear hi605_0 hl605_0
                                      replace p605 := eq_true p605
                                      replace q605 := eq_true q605
                                      have p606 : 0 ≤ (0 : Int) := (by omega)
                                      have q606 : 0 < (t593.length : Int) := of_decide_eq_true (by first | (with_reducible assumption) | assumption)
                                      obtain ⟨ad606, A606_0, c606_0, e606, hx606_0, hl606_0, hi606_0⟩ := at_L1 (Kd.S_reads' HO_12.out).2.2 0 p606 q606
                                      obtain rfl : ad605 = ad606 := (by injection e606)
                                      obtain ⟨ce606, hce606, hMe606, hcc606⟩ := Kd.S_get HO_12.out [] 0 p606 (by first | exact q606 | exact of_decide_eq_true (by first | (with_reducible assumption) | assumption) | (have e_ := (Kd.S_reads' HO_12.out).1; omega))
                                      obtain ⟨ve606_0, rfl, ge606_0⟩ := hMe606
                                      have hv606_0 := hcc606 0 _ rfl
                                      rw [Nat.add_zero, show ((Kd.slice 3 (Kd.int .i64))).sz = 1 from rfl, Nat.mul_one] at hv606_0
                                      replace hv606_0 := Option.some.inj (hv606_0.symm.trans hx606_0)
                                      rw [hv606_0] at ge606_0
                                      have HL606_0 := Aside0.mk (show Kd.R (Kd.int .i64) 3 _ _ _ _ (rd_L1 t593 0) from ge606_0)
                                      clear hv606_0 ge606_0
                                      clear hcc606 hce606
                                      have qi606 : (0 < t593.length) = True := eq_true (by omega)
                                      (try rw [show ((0 : Int)).toNat = 0 from rfl] at hx606_0)
                                      (try rw [Addr.add_zero'] at hx606_0)
                                      have HR606_0 := Aside0.mk hi606_0
                                      have HC606_0 := Aside0.mk hl606_0
                                      clear hi606_0 hl606_0
                                      replace p606 := eq_true p606
                                      replace q606 := eq_true q606
                                      have ea_ := Option.some.inj (hx605_0.symm.trans hx606_0)
                                      injection ea_ with ea_ en_ ec_
                                      subst ea_
                                      subst ec_
                                      clear en_
                                      have p607 : 0 ≤ (x13_4 : Int) := of_decide_eq_true (by first | (with_reducible assumption) | assumption)
                                      have q607 : x13_4 < ((rd_L1 t593 0).length : Int) := of_decide_eq_true (by first | (with_reducible assumption) | assumption)
                                      obtain ⟨ad607, e607, hx607_0⟩ := Kd.at_int (by repeat (first | (with_reducible exact HR606_0.out) | (with_reducible refine Kd.C_alloc ?_ _) | (with_reducible refine Kd.C_drewN ?_ _) | (with_reducible refine Kd.C_drew ?_) | exact HR606_0.out)) x13_4 p607 q607
                                      cases e607
                                      replace p607 := eq_true p607
                                      replace q607 := eq_true q607
                                      go_wp2
                                      go_roundg k4
                                      case measure => have := HJ4.out; have := HK2.out; have := HJ35.out; have := HK4.out; omega
                                      case rel => exact ⟨(wrap64 (x13_4 + 1)), (by first | rfl | (simp; done) | (simp [*]; done)), H', ⟨by have := HJ4.out; have := HK2.out; have := HJ35.out; have := HK4.out; omega⟩, ⟨by (with_reducible repeat (first | apply Kd.R_alloc | apply Kd.R_drewN | apply Kd.R_drew)); exact HO_11.out⟩, ⟨by (with_reducible repeat (first | apply Kd.S_alloc | apply Kd.S_drewN | apply Kd.S_drew)); exact HO_12.out⟩, ⟨by repeat (first | (with_reducible first | exact HB.out | apply below_alloc | apply pw_below_drewN | apply below_drew1) | exact HB.out)⟩⟩
                                    · rw [if_neg c65] at H
                                      have c65b0 : ((rd (rd_L1 t593 0) x13_4) == (wrap64 (a2 + x13_4))) = false := beq_eq_false_iff_ne.mpr c65
                                      have c65b1 : ((rd (rd_L1 t593 0) x13_4) != (wrap64 (a2 + x13_4))) = true := bne_iff_ne.mpr c65
                                      obtain rfl := Option.some.inj H
                                      obtain ⟨Ao68, co68, eo68⟩ := Kd.R_slice HO_11.out
                                      subst eo68
                                      have p604 : 0 ≤ (x13_4 : Int) := of_decide_eq_true (by first | (with_reducible assumption) | assumption)
                                      have q604 : x13_4 < (t590.length : Int) := of_decide_eq_true (by first | (with_reducible assumption) | assumption)
                                      obtain ⟨ad604, e604, hx604_0⟩ := Kd.at_int (Kd.R_reads' HO_11.out).2.2 x13_4 p604 q604
                                      cases e604
                                      replace p604 := eq_true p604
                                      replace q604 := eq_true q604
                                      obtain ⟨Ao69, co69, eo69⟩ := Kd.S_slice HO_12.out
                                      subst eo69
                                      have p605 : 0 ≤ (0 : Int) := (by omega)
                                      have q605 : 0 < (t593.length : Int) := of_decide_eq_true (by first | (with_reducible assumption) | assumption)
                                      obtain ⟨ad605, A605_0, c605_0, e605, hx605_0, hl605_0, hi605_0⟩ := at_L1 (Kd.S_reads' HO_12.out).2.2 0 p605 q605
                                      cases e605
                                      obtain ⟨ce605, hce605, hMe605, hcc605⟩ := Kd.S_get HO_12.out [] 0 p605 (by first | exact q605 | exact of_decide_eq_true (by first | (with_reducible assumption) | assumption) | (have e_ := (Kd.S_reads' HO_12.out).1; omega))
                                      obtain ⟨ve605_0, rfl, ge605_0⟩ := hMe605
                                      have hv605_0 := hcc605 0 _ rfl
                                      rw [Nat.add_zero, show ((Kd.slice 3 (Kd.int .i64))).sz = 1 from rfl, Nat.mul_one] at hv605_0
                                      replace hv605_0 := Option.some.inj (hv605_0.symm.trans hx605_0)
                                      rw [hv605_0] at ge605_0
                                      have HL605_0 := Aside0.mk (show Kd.R (Kd.int .i64) 3 _ _ _ _ (rd_L1 t593 0) from ge605_0)
                                      clear hv605_0 ge605_0
                                      clear hcc605 hce605
                                      have qi605 : (0 < t593.length) = True := eq_true (by omega)
                                      (try rw [show ((0 : Int)).toNat = 0 from rfl] at hx605_0)
                                      (try rw [Addr.add_zero'] at hx605_0)
                                      have HR605_0 := Aside0.mk hi605_0
                                      have HC605_0 := Aside0.mk hl605_0
                                      clear hi605_0 hl605_0
                                      replace p605 := eq_true p605
                                      replace q605 := eq_true q605
                                      have p606 : 0 ≤ (0 : Int) := (by omega)
                                      have q606 : 0 < (t593.length : Int) := of_decide_eq_true (by first | (with_reducible assumption) | assumption)
                                      obtain ⟨ad606, A606_0, c606_0, e606, hx606_0, hl606_0, hi606_0⟩ := at_L1 (Kd.S_reads' HO_12.out).2.2 0 p606 q606
                                      obtain rfl : ad605 = ad606 := (by injection e606)
                                      obtain ⟨ce606, hce606, hMe606, hcc606⟩ := Kd.S_get HO_12.out [] 0 p606 (by first | exact q606 | exact of_decide_eq_true (by first | (with_reducible assumption) | assumption) | (have e_ := (Kd.S_reads' HO_12.out).1; omega))
                                      obtain ⟨ve606_0, rfl, ge606_0⟩ := hMe606
                                      have hv606_0 := hcc606 0 _ rfl
                                      rw [Nat.add_zero, show ((Kd.slice 3 (Kd.int .i64))).sz = 1 from rfl, Nat.mul_one] at hv606_0
                                      replace hv606_0 := Option.some.inj (hv606_0.symm.trans hx606_0)
                                      rw [hv606_0] at ge606_0
                                      have HL606_0 := Aside0.mk (show Kd.R (Kd.int .i64) 3 _ _ _ _ (rd_L1 t593 0) from ge606_0)
                                      clear hv606_0 ge606_0
                                      clear hcc606 hce606
                                      have qi606 : (0 < t593.length) = True := eq_true (by omega)
                                      (try rw [show ((0 : Int)).toNat = 0 from rfl] at hx606_0)
                                      (try rw [Addr.add_zero'] at hx606_0)
                                      have HR606_0 := Aside0.mk hi606_0
                                      have HC606_0 := Aside0.mk hl606_0
                                      clear hi606_0 hl606_0
                                      replace p606 := eq_true p606
                                      replace q606 := eq_true q606
                                      have ea_ := Option.some.inj (hx605_0.symm.trans hx606_0)
                                      injection ea_ with ea_ en_ ec_
                                      subst ea_
                                      subst ec_
                                      clear en_
                                      have p607 : 0 ≤ (x13_4 : Int) := of_decide_eq_true (by first | (with_reducible assumption) | assumption)
                                      have q607 : x13_4 < ((rd_L1 t593 0).length : Int) := of_decide_eq_true (by first | (with_reducible assumption) | assumption)
                                      obtain ⟨ad607, e607, hx607_0⟩ := Kd.at_int (by repeat (first | (with_reducible exact HR606_0.out) | (with_reducible refine Kd.C_alloc ?_ _) | (with_reducible refine Kd.C_drewN ?_ _) | (with_reducible refine Kd.C_drew ?_) | exact HR606_0.out)) x13_4 p607 q607
                                      cases e607
                                      replace p607 := eq_true p607
                                      replace q607 := eq_true q607
                                      go_wp2
                                      go_ret
                                      exact ⟨by first | rfl | (simp [errW_none, errW_some] <;> rfl) | (simp [*, errW_none, errW_some] <;> rfl), by repeat (first | (with_reducible first | exact HB.out | apply below_alloc | apply pw_below_drewN | apply below_drew1) | exact HB.out)⟩
                                  · rw [if_neg c64] at H
                                    have c64b0 : decide (x13_4 < ((rd_L1 t593 0).length : Int)) = false := decide_eq_false c64
                                    clear c64
                                    have H' := Aside0.mk H
                                    clear H
                                    obtain ⟨Ao70, co70, eo70⟩ := Kd.R_slice HO_11.out
                                    subst eo70
                                    have p604 : 0 ≤ (x13_4 : Int) := of_decide_eq_true (by first | (with_reducible assumption) | assumption)
                                    have q604 : x13_4 < (t590.length : Int) := of_decide_eq_true (by first | (with_reducible assumption) | assumption)
                                    obtain ⟨ad604, e604, hx604_0⟩ := Kd.at_int (Kd.R_reads' HO_11.out).2.2 x13_4 p604 q604
                                    cases e604
                                    replace p604 := eq_true p604
                                    replace q604 := eq_true q604
                                    obtain ⟨Ao71, co71, eo71⟩ := Kd.S_slice HO_12.out
                                    subst eo71
                                    have p605 : 0 ≤ (0 : Int) := (by omega)
                                    have q605 : 0 < (t593.length : Int) := of_decide_eq_true (by first | (with_reducible assumption) | assumption)
                                    obtain ⟨ad605, A605_0, c605_0, e605, hx605_0, hl605_0, hi605_0⟩ := at_L1 (Kd.S_reads' HO_12.out).2.2 0 p605 q605
                                    cases e605
                                    obtain ⟨ce605, hce605, hMe605, hcc605⟩ := Kd.S_get HO_12.out [] 0 p605 (by first | exact q605 | exact of_decide_eq_true (by first | (with_reducible assumption) | assumption) | (have e_ := (Kd.S_reads' HO_12.out).1; omega))
                                    obtain ⟨ve605_0, rfl, ge605_0⟩ := hMe605
                                    have hv605_0 := hcc605 0 _ rfl
                                    rw [Nat.add_zero, show ((Kd.slice 3 (Kd.int .i64))).sz = 1 from rfl, Nat.mul_one] at hv605_0
                                    replace hv605_0 := Option.some.inj (hv605_0.symm.trans hx605_0)
                                    rw [hv605_0] at ge605_0
                                    have HL605_0 := Aside0.mk (show Kd.R (Kd.int .i64) 3 _ _ _ _ (rd_L1 t593 0) from ge605_0)
                                    clear hv605_0 ge605_0
                                    clear hcc605 hce605
                                    have qi605 : (0 < t593.length) = True := eq_true (by omega)
                                    (try rw [show ((0 : Int)).toNat = 0 from rfl] at hx605_0)
                                    (try rw [Addr.add_zero'] at hx605_0)
                                    have HR605_0 := Aside0.mk hi605_0
                                    have HC605_0 := Aside0.mk hl605_0
                                    clear hi605_0 hl605_0
                                    replace p605 := eq_true p605
                                    replace q605 := eq_true q605
                                    go_wp2
                                    go_roundg k4
                                    case measure => have := HJ4.out; have := HK2.out; have := HJ35.out; have := HK4.out; omega
                                    case rel => exact ⟨(wrap64 (x13_4 + 1)), (by first | rfl | (simp; done) | (simp [*]; done)), H', ⟨by have := HJ4.out; have := HK2.out; have := HJ35.out; have := HK4.out; omega⟩, ⟨by (with_reducible repeat (first | apply Kd.R_alloc | apply Kd.R_drewN | apply Kd.R_drew)); exact HO_11.out⟩, ⟨by (with_reducible repeat (first | apply Kd.S_alloc | apply Kd.S_drewN | apply Kd.S_drew)); exact HO_12.out⟩, ⟨by repeat (first | (with_reducible first | exact HB.out | apply below_alloc | apply pw_below_drewN | apply below_drew1) | exact HB.out)⟩⟩
                                · rw [if_neg c63] at H
                                  exact absurd H (by simp)
                              · rw [if_neg c62] at H
                                have c62b0 : ((rd t590 x13_4) == x13_4) = false := beq_eq_false_iff_ne.mpr c62
                                have c62b1 : ((rd t590 x13_4) != x13_4) = true := bne_iff_ne.mpr c62
                                obtain rfl := Option.some.inj H
                                obtain ⟨Ao72, co72, eo72⟩ := Kd.R_slice HO_11.out
                                subst eo72
                                have p604 : 0 ≤ (x13_4 : Int) := of_decide_eq_true (by first | (with_reducible assumption) | assumption)
                                have q604 : x13_4 < (t590.length : Int) := of_decide_eq_true (by first | (with_reducible assumption) | assumption)
                                obtain ⟨ad604, e604, hx604_0⟩ := Kd.at_int (Kd.R_reads' HO_11.out).2.2 x13_4 p604 q604
                                cases e604
                                replace p604 := eq_true p604
                                replace q604 := eq_true q604
                                go_wp2
                                go_ret
                                exact ⟨by first | rfl | (simp [errW_none, errW_some] <;> rfl) | (simp [*, errW_none, errW_some] <;> rfl), by repeat (first | (with_reducible first | exact HB.out | apply below_alloc | apply pw_below_drewN | apply below_drew1) | exact HB.out)⟩
                            · rw [if_neg c61] at H
                              exact absurd H (by simp)
                          · rw [if_neg c60] at H
                            exact absurd H (by simp)
                        · rw [if_neg c59] at H
                          have c59b0 : decide (x13_4 < a0) = false := decide_eq_false c59
                          clear c59
                          obtain rfl := Option.some.inj H
                          go_wp2
                          go_ret
                          exact ⟨by first | rfl | (simp [errW_none, errW_some] <;> rfl) | (simp [*, errW_none, errW_some] <;> rfl), by repeat (first | (with_reducible first | exact HB.out | apply below_alloc | apply pw_below_drewN | apply below_drew1) | exact HB.out)⟩

end Go.Proofs.Ytkmbhknmjnbanaa.A


namespace Go.Proofs.Ytkmbhknmjnbanaa.A
open Go.RowKit Go.Proofs.YtkmbhknmjnbanaaW.PrintWords Go.Proofs.YtkmbhknmjnbanaaW.PrintLast Go.Shelf
set_option linter.unusedVariables false
set_option linter.unusedSimpArgs false

/-- the row of block i in a chain of n blocks with one edge from f back to t -/
def crw (n f t i : Nat) : List Int := (if i + 1 < n then [((i + 1 : Nat) : Int)] else []) ++ (if i = f then [(t : Int)] else [])
def chainG (n f t m : Nat) : List (List Int) := (List.range m).map (crw n f t)
theorem chainG_len (n f t m : Nat) : (chainG n f t m).length = m := by simp [chainG]
theorem chainG_succ (n f t m : Nat) : chainG n f t (m + 1) = chainG n f t m ++ [crw n f t m] := by simp [chainG, List.range_succ]
theorem chain_row {n f t i : Nat} (hi : i < n) : rowOf (chainG n f t n) i = crw n f t i := by
  unfold rowOf chainG
  rw [List.getD_eq_getElem?_getD, List.getElem?_map, List.getElem?_range hi]
  rfl
theorem crw_mem {n f t i : Nat} (x : Int) : x ∈ crw n f t i ↔ (i + 1 < n ∧ x = ((i + 1 : Nat) : Int)) ∨ (i = f ∧ x = t) := by
  unfold crw
  rw [List.mem_append]
  by_cases h1 : i + 1 < n <;> by_cases h2 : i = f <;> simp [h1, h2]
theorem crw_len (n f t i : Nat) : (crw n f t i).length ≤ 2 := by
  unfold crw
  split <;> split <;> simp

theorem chain_edge {n f t : Nat} (hn1 : 1 ≤ n) (hn : n ≤ 60) (htf : t ≤ f) (hfn : f < n) {i x : Nat} (hi : i < n) : Edge (chainG n f t n) i x ↔ (i + 1 < n ∧ x = i + 1) ∨ (i = f ∧ x = t) := by
  unfold Edge
  rw [chain_row hi, crw_mem]
  constructor
  · rintro (⟨h1, h2⟩ | ⟨h1, h2⟩)
    · exact .inl ⟨h1, by omega⟩
    · exact .inr ⟨h1, by omega⟩
  · rintro (⟨h1, h2⟩ | ⟨h1, h2⟩)
    · exact .inl ⟨h1, by omega⟩
    · exact .inr ⟨h1, by omega⟩
theorem chain_right {n f t : Nat} (hn1 : 1 ≤ n) (hn : n ≤ 60) (htf : t ≤ f) (hfn : f < n) : rightB (chainG n f t n) = true := by
  unfold rightB
  rw [chainG_len, decide_eq_true hn1, decide_eq_true (show n ≤ 4096 by omega)]
  simp only [Bool.true_and, Bool.not_eq_true', List.any_eq_false]
  intro l hl
  unfold chainG at hl
  obtain ⟨i, hi, rfl⟩ := List.mem_map.1 hl
  have hil := List.mem_range.1 hi
  have := crw_len n f t i
  unfold badL
  rw [decide_eq_false (by omega), Bool.false_or, List.any_eq_true]
  rintro ⟨x, hx, hb⟩
  unfold badN at hb
  rcases (crw_mem x).1 hx with ⟨h1, rfl⟩ | ⟨h1, rfl⟩
  · rw [decide_eq_false (by omega), decide_eq_false (by omega)] at hb; cases hb
  · rw [decide_eq_false (by omega), decide_eq_false (by omega)] at hb; cases hb
/-- down from n to a -/
def downTo (n a : Nat) : List Int := ((List.range n).drop a).reverse.map fun k : Nat => (k : Int)
theorem downTo_self (n : Nat) : downTo n n = [] := by simp [downTo]
theorem downTo_step {n a : Nat} (h : a < n) : downTo n a = downTo n (a + 1) ++ [(a : Int)] := by
  unfold downTo
  rw [List.drop_eq_getElem_cons (by rw [List.length_range]; exact h), List.getElem_range, List.reverse_cons, List.map_append]
  rfl
def upto (n a : Nat) : List Bool := List.replicate a true ++ List.replicate (n - a) false
theorem upto_get {n a i : Nat} (h : a ≤ n) (hi : i < n) : (upto n a).getD i true = decide (i < a) := by
  unfold upto
  rw [List.getD_eq_getElem?_getD, List.getElem?_append]
  by_cases e : i < a
  · rw [if_pos (by simpa using e), List.getElem?_replicate, if_pos e, decide_eq_true e]; rfl
  · rw [if_neg (by simpa using e), List.getElem?_replicate, if_pos (by simp; omega), decide_eq_false e]; rfl
theorem upto_set {n a : Nat} (h : a < n) : (upto n a).set a true = upto n (a + 1) := by
  unfold upto
  rw [List.set_append_right _ _ (by simp), List.length_replicate, Nat.sub_self]
  obtain ⟨d, hd⟩ : ∃ d, n - a = d + 1 := ⟨n - a - 1, by omega⟩
  rw [hd, show n - (a + 1) = d by omega, List.replicate_succ (n := d), List.set_cons_zero, List.replicate_succ' (n := a), List.append_assoc]
  rfl
theorem chain_visit {n f t : Nat} (hn1 : 1 ≤ n) (hn : n ≤ 60) (htf : t ≤ f) (hfn : f < n) : ∀ (d a : Nat), a + d = n → 1 ≤ d → ∀ e, d ≤ e → visit (chainG n f t n) e (upto n a) a = (upto n n, downTo n a)
  | 0, a, h, h1, e, he => by omega
  | d + 1, a, h, h1, e, he => by
    obtain ⟨e, rfl⟩ : ∃ m, e = m + 1 := ⟨e - 1, by omega⟩
    have ha : a < n := by omega
    rw [visit_succ, chain_row ha, upto_set ha, downTo_step ha]
    have key : vrow (chainG n f t n) e (upto n (a + 1)) (crw n f t a) = (upto n n, downTo n (a + 1)) := by
      unfold vrow crw
      rw [List.foldl_append]
      have hs1 : (if a + 1 < n then [((a + 1 : Nat) : Int)] else []).foldl (vstep (chainG n f t n) e) (upto n (a + 1), []) = (upto n n, downTo n (a + 1)) := by
        by_cases hl : a + 1 < n
        · rw [if_pos hl, List.foldl_cons, List.foldl_nil]
          unfold vstep
          rw [Int.toNat_natCast, if_neg (by rw [upto_get (by omega) hl]; simp), chain_visit hn1 hn htf hfn d (a + 1) (by omega) (by omega) e (by omega)]
          rfl
        · rw [if_neg hl]
          have : a + 1 = n := by omega
          rw [this, downTo_self]
          rfl
      rw [hs1]
      by_cases hl : a = f
      · rw [if_pos hl, List.foldl_cons, List.foldl_nil]
        unfold vstep
        rw [Int.toNat_natCast, if_pos (by rw [upto_get (Nat.le_refl _) (by omega)]; simp; omega)]
      · rw [if_neg hl]
        rfl
    rw [key]
theorem chain_walk {n f t : Nat} (hn1 : 1 ≤ n) (hn : n ≤ 60) (htf : t ≤ f) (hfn : f < n) : walkOf (chainG n f t n) 0 = downTo n 0 := by
  unfold walkOf
  have e : met0 (chainG n f t n) = upto n 0 := by unfold met0 upto; rw [chainG_len]; simp
  rw [e, chainG_len, chain_visit hn1 hn htf hfn n 0 (by omega) hn1 n (Nat.le_refl _)]
theorem chain_order {n f t : Nat} (hn1 : 1 ≤ n) (hn : n ≤ 60) (htf : t ≤ f) (hfn : f < n) : orderOf (chainG n f t n) = (List.range n).map fun k : Nat => (k : Int) := by
  unfold orderOf
  rw [if_pos (chain_right hn1 hn htf hfn), chain_walk hn1 hn htf hfn]
  unfold downTo
  rw [List.drop_zero, ← List.map_reverse, List.reverse_reverse]
theorem chain_place {n f t : Nat} (hn1 : 1 ≤ n) (hn : n ≤ 60) (htf : t ≤ f) (hfn : f < n) {i : Nat} (hi : i < n) : (placesOf (chainG n f t n)).getD i 0 = (i : Int) := by
  have ho := chain_order hn1 hn htf hfn
  have hl : (orderOf (chainG n f t n)).length = n := by rw [ho]; simp
  have := place_at (chainG n f t n) (j := i) (by omega)
  have e : (orderOf (chainG n f t n))[i]'(by omega) = (i : Int) := by simp [ho]
  rw [e, Int.toNat_natCast] at this
  exact this
theorem chain_reach {n f t : Nat} (hn1 : 1 ≤ n) (hn : n ≤ 60) (htf : t ≤ f) (hfn : f < n) {i : Nat} (hi : i < n) : Way (chainG n f t n) 0 i := by
  refine (order_mem (chain_right hn1 hn htf hfn) i).1 ?_
  rw [chain_order hn1 hn htf hfn]
  exact List.mem_map.2 ⟨i, List.mem_range.2 hi, rfl⟩
theorem back_nodup (g : List (List Int)) : (backOf g).Nodup := by
  unfold backOf
  split
  · generalize placesOf g = P
    have hrow : ∀ (i : Nat) (l : List Int) (out : List S37), out.Nodup → (brow P i out l).Nodup := by
      intro i l
      induction l with
      | nil => intro out h; exact h
      | cons x l ih =>
        intro out h
        refine ih _ ?_
        unfold bstep
        split
        · rename_i hc
          rw [List.nodup_append]
          refine ⟨h, by simp, fun e he e2 he2 hee => ?_⟩
          rw [List.mem_singleton] at he2
          subst he2; subst hee
          have := List.any_eq_false.1 hc.2.2 _ he
          simp [isE] at this
        · exact h
    have : ∀ m, (bfold P g m).Nodup := by
      intro m
      induction m with
      | zero => simp [bfold]
      | succ m ih => rw [bfold_succ]; exact hrow _ _ _ ih
    exact this _
  · simp
theorem chain_back {n f t : Nat} (hn1 : 1 ≤ n) (hn : n ≤ 60) (htf : t ≤ f) (hfn : f < n) : backOf (chainG n f t n) = [⟨f, t⟩] := by
  have hm : ∀ e : S37, e ∈ backOf (chainG n f t n) ↔ e = ⟨f, t⟩ := by
    intro e
    rw [back_mem (chain_right hn1 hn htf hfn)]
    constructor
    · rintro ⟨i, x, rfl, he, h1, h2⟩
      have hi : i < n := by have := he.lt1; rwa [chainG_len] at this
      have hx : x < n := by
        rcases (chain_edge hn1 hn htf hfn hi).1 he with ⟨h3, h4⟩ | ⟨h3, h4⟩ <;> omega
      rw [chain_place hn1 hn htf hfn hi, chain_place hn1 hn htf hfn hx] at h2
      rcases (chain_edge hn1 hn htf hfn hi).1 he with ⟨h3, h4⟩ | ⟨h3, h4⟩
      · omega
      · subst h3; subst h4; rfl
    · rintro rfl
      refine ⟨f, t, rfl, (chain_edge hn1 hn htf hfn hfn).2 (.inr ⟨rfl, rfl⟩), ?_, ?_⟩
      · rw [chain_place hn1 hn htf hfn hfn]; omega
      · rw [chain_place hn1 hn htf hfn hfn, chain_place hn1 hn htf hfn (by omega)]; omega
  have hnd := back_nodup (chainG n f t n)
  cases hb : backOf (chainG n f t n) with
  | nil => have := (hm ⟨f, t⟩).2 rfl; rw [hb] at this; cases this
  | cons a l =>
    rw [hb] at hnd hm
    obtain rfl := (hm a).1 (by simp)
    cases l with
    | nil => rfl
    | cons b l =>
      have := (hm b).1 (by simp)
      subst this
      simp at hnd
def loopRow (f t : Nat) : List Int := (List.range (f - t + 1)).map fun i : Nat => ((t + i : Nat) : Int)
theorem chain_body {n f t : Nat} (hn1 : 1 ≤ n) (hn : n ≤ 60) (htf : t ≤ f) (hfn : f < n) (x : Nat) : BodySet (chainG n f t n) t (Froms (chainG n f t n) t) (fun x => (reachRes (chainG n f t n) 0).getD x false = true) x ↔ t ≤ x ∧ x ≤ f := by
  have hF : ∀ x, Froms (chainG n f t n) t x ↔ x = f := by
    intro x
    unfold Froms
    rw [chain_back hn1 hn htf hfn, List.mem_singleton, S37.mk.injEq]
    constructor
    · rintro ⟨h, _⟩; omega
    · rintro rfl; exact ⟨rfl, rfl⟩
  constructor
  · intro h
    induction h with
    | head => omega
    | frm h => have := (hF _).1 h; omega
    | @back a y hy hyt he hr ih =>
      have ha : a < n := by have := he.lt1; rwa [chainG_len] at this
      rcases (chain_edge hn1 hn htf hfn ha).1 he with ⟨h3, h4⟩ | ⟨h3, h4⟩
      · omega
      · exact absurd h4 hyt
  · rintro ⟨h1, h2⟩
    have : ∀ d k, k + d = f → t ≤ k → BodySet (chainG n f t n) t (Froms (chainG n f t n) t) (fun x => (reachRes (chainG n f t n) 0).getD x false = true) k := by
      intro d
      induction d with
      | zero => intro k hk _; exact .frm ((hF k).2 (by omega))
      | succ d ih =>
        intro k hk htk
        refine .back (ih (k + 1) (by omega) (by omega)) (by omega) ((chain_edge hn1 hn htf hfn (by omega)).2 (.inl ⟨by omega, rfl⟩)) ?_
        exact (reach0 (chain_right hn1 hn htf hfn) (by rw [chainG_len]; omega)).2 (chain_reach hn1 hn htf hfn (by omega))
    exact this (f - x) x (by omega) h1
theorem chain_loops {n f t : Nat} (hn1 : 1 ≤ n) (hn : n ≤ 60) (htf : t ≤ f) (hfn : f < n) : loopsOf (chainG n f t n) = [loopRow f t] := by
  have hr := chain_right hn1 hn htf hfn
  have hb := chain_back hn1 hn htf hfn
  have hH : ∀ k : Nat, hfold (backOf (chainG n f t n)) k = if k = t then [(f : Int)] else [] := by
    intro k
    rw [hb]
    unfold hfold gupd
    simp only [List.foldl_cons, List.foldl_nil]
    by_cases e : k = t
    · subst e; simp
    · rw [if_neg (by omega), if_neg e]
  have hh : headsOf (chainG n f t n).length (hfold (backOf (chainG n f t n))) = [(t : Int)] := by
    refine rising_eq ?_ ?_ fun k => ?_
    · unfold Rising headsOf
      rw [List.pairwise_map]
      exact (List.pairwise_lt_range.filter _).imp (fun h => by omega)
    · unfold Rising; simp
    · unfold headsOf
      rw [List.mem_map, List.mem_singleton, chainG_len]
      constructor
      · rintro ⟨a, ha, rfl⟩
        have h2 := (List.mem_filter.1 ha).2
        rw [hH] at h2
        by_cases e : a = t
        · rw [e]
        · rw [if_neg e] at h2; cases h2
      · rintro rfl
        exact ⟨t, List.mem_filter.2 ⟨List.mem_range.2 (by omega), by rw [hH, if_pos rfl]; rfl⟩, rfl⟩
  have htn : t < (chainG n f t n).length := by rw [chainG_len]; omega
  unfold loopsOf
  rw [hh, List.map_cons, List.map_nil, Int.toNat_natCast, bodyRes_row hr htn]
  congr 1
  refine rising_eq ?_ ?_ fun k => ?_
  · unfold Rising rowTo
    rw [List.pairwise_cons]
    constructor
    · intro a ha
      obtain ⟨k, hk, rfl⟩ := List.mem_map.1 ha
      have h2 := (List.mem_filter.1 hk).2
      rw [Bool.and_eq_true, Bool.not_eq_true', decide_eq_false_iff_not, body_spec hr htn, chain_body hn1 hn htf hfn] at h2
      omega
    · rw [List.pairwise_map]
      exact (List.pairwise_lt_range.filter _).imp (fun h => by omega)
  · unfold Rising loopRow
    rw [List.pairwise_map]
    exact List.pairwise_lt_range.imp (fun h => by omega)
  · rw [rowTo_mem htn ((body_spec hr htn t).2 .head)]
    unfold loopRow
    rw [List.mem_map]
    constructor
    · rintro ⟨a, rfl, ha, hb⟩
      rw [body_spec hr htn, chain_body hn1 hn htf hfn] at hb
      exact ⟨a - t, List.mem_range.2 (by omega), by omega⟩
    · rintro ⟨a, ha, rfl⟩
      have := List.mem_range.1 ha
      refine ⟨t + a, rfl, by rw [chainG_len]; omega, ?_⟩
      rw [body_spec hr htn, chain_body hn1 hn htf hfn]
      omega

theorem cl_l1 {n f t : Nat} (hn1 : 1 ≤ n) (hn : n ≤ 60) (htf : t ≤ f) (hfn : f < n) : ∀ (d i : Nat), i + d = n → Evt (fun k => swagelaw06_GraphChain.l1 k n t true ((List.range n).map fun k : Nat => (k : Int)) [loopRow f t] i) true := by
  intro d
  induction d with
  | zero =>
    intro i hi
    exact Evt.step (Evt.const rfl) fun k => by rw [swagelaw06_GraphChain.l1, if_neg (by omega)]
  | succ d ih =>
    intro i hi
    have hlr : (loopRow f t).length = f - t + 1 := by simp [loopRow]
    have hr0 : rd_L1 [loopRow f t] 0 = loopRow f t := rfl
    have hri : rd ((List.range n).map fun k : Nat => (k : Int)) (i : Int) = (i : Int) := by
      rw [rdI (by simp; omega)]; simp
    refine Evt.step (ih (i + 1) (by omega)) fun k => ?_
    by_cases hlt : i < f - t + 1
    · have hrl : rd (loopRow f t) (i : Int) = ((t + i : Nat) : Int) := by
        rw [rdI (by omega)]; simp [loopRow]
      rw [swagelaw06_GraphChain.l1, if_pos (by omega), if_pos (by omega), if_pos (by simp; omega), if_pos hri, if_pos (by simp), hr0, if_pos (by omega), hrl, if_pos (by rw [w64 (by omega) (by omega)]; rfl), wsucc (by omega)]
    · rw [swagelaw06_GraphChain.l1, if_pos (by omega), if_pos (by omega), if_pos (by simp; omega), if_pos hri, if_pos (by simp), hr0, if_neg (by omega), wsucc (by omega)]
theorem cl_l0 {n f t : Nat} (hn1 : 1 ≤ n) (hn : n ≤ 60) (htf : t ≤ f) (hfn : f < n) : ∀ (d i : Nat), i + d = n → Evt (fun k => swagelaw06_GraphChain.l0 k n f t true (chainG n f t i) i) true := by
  intro d
  induction d with
  | zero =>
    intro i hi
    obtain rfl : i = n := by omega
    have hb := back_ev (chainG i f t i)
    rw [chain_back hn1 hn htf hfn] at hb
    have hp := pairs_ev [⟨f, t⟩] (by simp)
    have hlr : (loopRow f t).length = f - t + 1 := by simp [loopRow]
    refine Evt.step (Evt.bind hb (h := fun k t597 => ((swageref05_Pairs.f k t597 (([(⟨f, t⟩ : S37)] : List (S37)))).bind fun t603 => (swagelaw06_GraphChain.j2 k i t true ((List.range i).map fun k : Nat => (k : Int)) [loopRow f t] (!t603)))) (Evt.bind hp (h := fun k t603 => swagelaw06_GraphChain.j2 k i t true ((List.range i).map fun k : Nat => (k : Int)) [loopRow f t] (!t603)) (Evt.step (cl_l1 hn1 hn htf hfn i 0 (by omega)) fun k => ?_))) fun k => ?_
    · rw [Bool.not_true, swagelaw06_GraphChain.j2, if_neg (by simp)]
      rfl
    · rw [swagelaw06_GraphChain.l0, if_neg (by omega)]
      unfold graph_Order.f graph_Loops.f
      rw [Option.bind_some, Option.bind_some, chain_order hn1 hn htf hfn, chain_loops hn1 hn htf hfn, if_pos (by simp), if_pos (by simp), if_pos (by simp), show rd_L1 [loopRow f t] 0 = loopRow f t from rfl, if_pos (by rw [hlr, w64 (n := (f : Int) - t) (by omega) (by omega), w64 (by omega) (by omega)]; omega)]
  | succ d ih =>
    intro i hi
    have ih' := ih (i + 1) (by omega)
    rw [chainG_succ] at ih'
    have hl := chainG_len n f t i
    refine Evt.step ih' fun k => ?_
    unfold crw
    rw [swagelaw06_GraphChain.l0, if_pos (by omega), wsucc (by omega)]
    by_cases h1 : i + 1 < n
    · rw [if_pos (by omega), if_pos (by simp), Option.bind_some]
      by_cases h2 : i = f
      · rw [if_pos (by omega), if_pos (by simp), if_pos (by omega), if_pos h1, if_pos h2]
        rfl
      · rw [if_neg (by omega), if_pos (by omega), if_pos h1, if_neg h2]
        rfl
    · rw [if_neg (by omega)]
      by_cases h2 : i = f
      · rw [if_pos (by omega), if_pos (by simp), if_pos (by omega), if_neg h1, if_pos h2]
      · rw [if_neg (by omega), if_pos (by omega), if_neg h1, if_neg h2]
        rfl
theorem chain_pure (n f t : Int) : ∃ k, swagelaw06_GraphChain.f k n f t = some true := by
  suffices H : Evt (fun k => swagelaw06_GraphChain.f k n f t) true from H.get
  unfold swagelaw06_GraphChain.f swagelaw06_small.f
  simp only [Option.bind_some]
  have hno : Evt (fun k => swagelaw06_GraphChain.j0 k n f t true true) true := Evt.step (Evt.const rfl) fun k => by rw [swagelaw06_GraphChain.j0, if_pos rfl]
  by_cases h1 : n < 1
  · exact Evt.congr hno fun k => by rw [if_pos h1]
  by_cases h2 : n > 60
  · exact Evt.congr hno fun k => by rw [if_neg h1, if_pos h2]
  by_cases h3 : t < 0
  · exact Evt.congr hno fun k => by rw [if_neg h1, if_neg h2, if_pos h3]
  by_cases h4 : f < t
  · exact Evt.congr hno fun k => by rw [if_neg h1, if_neg h2, if_neg h3, if_pos h4]
  by_cases h5 : f ≥ n
  · exact Evt.congr hno fun k => by rw [if_neg h1, if_neg h2, if_neg h3, if_neg h4, decide_eq_true h5]
  obtain ⟨n, rfl⟩ := Int.eq_ofNat_of_zero_le (show 0 ≤ n by omega)
  obtain ⟨f, rfl⟩ := Int.eq_ofNat_of_zero_le (show 0 ≤ f by omega)
  obtain ⟨t, rfl⟩ := Int.eq_ofNat_of_zero_le (show 0 ≤ t by omega)
  refine Evt.congr (Evt.step (cl_l0 (n := n) (f := f) (t := t) (by omega) (by omega) (by omega) (by omega) n 0 (by omega)) (f := fun k => swagelaw06_GraphChain.j0 k n f t true false) fun k => ?_) fun k => ?_
  · rw [swagelaw06_GraphChain.j0, if_neg (by simp)]
    rfl
  · rw [if_neg h1, if_neg h2, if_neg h3, if_neg h4, decide_eq_false h5]
theorem law_chain (n f t : Int) (w : World) (hn : (Lit.int .i64 n).wf = true) (hf : (Lit.int .i64 f).wf = true) (ht : (Lit.int .i64 t).wf = true) :
    Calls Try.prog 8 #[.int .i64 n, .int .i64 f, .int .i64 t] w fun e w' => e = .returned (.bool true) ∧ Below w.heap.size w w' := by
  obtain ⟨k, hk⟩ := chain_pure n f t
  exact swagelaw06_GraphChain.calls k n f t true w hk
end Go.Proofs.Ytkmbhknmjnbanaa.A

