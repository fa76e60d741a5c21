/- Parts of the proof, in the order in which they rest on one another. -/
import Derived.Test.YtkfopphcgjdcaaaMPlain2
import Derived.OpenShut
import Derived.Deep.Slices
import Derived.ChangeArms
/- The law MovesPlain, as printed, answers true. -/
namespace Go.Proofs.Ytkfopphcgjdcaaa.A
open Go.RowKit Go.Maps Go.Proofs.YtkfopphcgjdcaaaW.PrintWords Go.Proofs.YtkfopphcgjdcaaaW.PrintLast Go.Shelf
set_option linter.unusedVariables false
set_option linter.unusedSimpArgs false

def spCount (sp : Int) (o : List S38) : Nat := o.countP fun c => decide (c.f0 = sp)
def fits (sp : Int) (x c : S38) : Bool := decide (c.f0 = x.f0) && (decide (c.f1 = x.f1) || decide (x.f1 = sp))

section
variable {l o : List S38} {sp x8 : Int} {i : Nat}
theorem plain_l2 (ho : o.length ≤ 1000000) (hi : i < o.length) (hne : ∀ j (h : j < i), o[j].f0 ≠ o[i].f0) (hk : Evt (fun k => swagelaw18_MovesPlain.l0 k l sp true o x8 ((i + 1 : Nat) : Int)) true) :
    ∀ (d j : Nat), j + d = i → Evt (fun k => swagelaw18_MovesPlain.l2 k l sp true o x8 i true j) true
  | 0, j, hj => by
    refine Evt.step hk fun k => ?_
    rw [swagelaw18_MovesPlain.l2, if_neg (by omega), if_pos rfl, w64 (by omega) (by omega)]
    rfl
  | d + 1, j, hj => by
    have hlt : j < i := by omega
    have ih := plain_l2 ho hi hne hk d (j + 1) (by omega)
    refine Evt.step ih fun k => ?_
    rw [swagelaw18_MovesPlain.l2, if_pos (by omega), if_pos (by omega), if_pos (by omega), if_pos (by omega), if_pos (by omega), rd38_lt (show j < o.length by omega), rd38_lt hi, if_neg (hne j hlt), w64 (by omega) (by omega)]
    rfl
theorem plain_l1 (hl : l.length ≤ 1000000) (ho : o.length ≤ 1000000) (hi : i < o.length) (hk : Evt (fun k => swagelaw18_MovesPlain.l2 k l sp true o x8 i true ((0 : Nat) : Int)) true) :
    ∀ (d j : Nat) (b : Bool), j + d = l.length → (b || (l.drop j).any (fits sp o[i])) = true → Evt (fun k => swagelaw18_MovesPlain.l1 k l sp true o x8 i b j) true
  | 0, j, b, hj, hb => by
    rw [List.drop_eq_nil_of_le (by omega)] at hb
    have : b = true := by simpa using hb
    subst this
    refine Evt.step hk fun k => ?_
    rw [swagelaw18_MovesPlain.l1, if_neg (by omega)]
    rfl
  | d + 1, j, b, hj, hb => by
    have hlt : j < l.length := by omega
    have hd : l.drop j = l[j] :: l.drop (j + 1) := List.drop_eq_getElem_cons hlt
    rw [hd, List.any_cons] at hb
    cases b with
    | true =>
      have ih := plain_l1 hl ho hi hk d (j + 1) true (by omega) rfl
      refine Evt.step ih fun k => ?_
      rw [swagelaw18_MovesPlain.l1, if_pos (by omega), if_pos rfl, w64 (by omega) (by omega)]
      rfl
    | false =>
      have ih := plain_l1 hl ho hi hk d (j + 1) (fits sp o[i] l[j]) (by omega) (by simpa using hb)
      refine Evt.step ih fun k => ?_
      rw [swagelaw18_MovesPlain.l1, if_pos (by omega), if_neg (by simp), if_pos (by omega), if_pos (by omega), if_pos (by omega), rd38_lt hlt, rd38_lt hi, w64 (by omega) (by omega)]
      unfold fits
      by_cases h1 : l[j].f0 = o[i].f0
      · by_cases h2 : l[j].f1 = o[i].f1
        · simp [h1, h2]
        · rw [if_pos h1, if_neg h2]
          simp only [h1, h2, decide_true, decide_false, Bool.true_and, Bool.false_or]
          rfl
      · rw [if_neg h1]
        simp only [h1, decide_false, Bool.false_and]
        rfl
theorem plain_l0 (hl : l.length ≤ 1000000) (ho : o.length ≤ 1000000) (hf : ∀ c ∈ o, c.f0 ≠ sp → l.any (fits sp c) = true) (hd : ∀ i (hi : i < o.length) j (hj : j < i), o[i].f0 ≠ sp → o[j].f0 ≠ o[i].f0) :
    ∀ (d i : Nat), i + d = o.length → Evt (fun k => swagelaw18_MovesPlain.l0 k l sp true o ((spCount sp (o.drop i) : Nat) : Int) i) true
  | 0, i, hi => by
    refine Evt.step (Evt.const rfl) fun k => ?_
    rw [swagelaw18_MovesPlain.l0, if_neg (by omega), if_pos rfl, List.drop_eq_nil_of_le (by omega)]
    rfl
  | d + 1, i, hi => by
    have hlt : i < o.length := by omega
    have hdr : o.drop i = o[i] :: o.drop (i + 1) := List.drop_eq_getElem_cons hlt
    have ih := plain_l0 hl ho hf hd d (i + 1) (by omega)
    have hcl : spCount sp (o.drop (i + 1)) ≤ o.length := by
      unfold spCount
      have := List.countP_le_length (p := fun c : S38 => decide (c.f0 = sp)) (l := o.drop (i + 1))
      rw [List.length_drop] at this; omega
    by_cases hc : o[i].f0 = sp
    · have e : spCount sp (o.drop i) = spCount sp (o.drop (i + 1)) + 1 := by unfold spCount; rw [hdr, List.countP_cons_of_pos (by simp [hc])]
      rw [e]
      refine Evt.step ih fun k => ?_
      rw [swagelaw18_MovesPlain.l0, if_pos (by omega), if_pos (by omega), rd38_lt hlt, if_pos hc, w64 (by omega) (by omega), w64 (by omega) (by omega)]
      congr 1
      omega
    · have e : spCount sp (o.drop i) = spCount sp (o.drop (i + 1)) := by unfold spCount; rw [hdr, List.countP_cons_of_neg (by simp [hc])]
      rw [e]
      have h2 := plain_l2 (x8 := ((spCount sp (o.drop (i + 1)) : Nat) : Int)) ho hlt (fun j hj => hd i hlt j hj hc) ih i 0 (by omega)
      have h1 := plain_l1 (sp := sp) hl ho hlt h2 l.length 0 false (by omega) (by simpa using hf o[i] (List.getElem_mem _) hc)
      refine Evt.step h1 fun k => ?_
      rw [swagelaw18_MovesPlain.l0, if_pos (by omega), if_pos (by omega), rd38_lt hlt, if_neg hc]
      rfl
end
theorem plain_law (l : List S38) (sp : Int) (hw : WfL l) (hs : Wf sp) : ∃ k, swagelaw18_MovesPlain.f k l sp = some true := by
  refine Evt.get ?_
  show Evt (fun k => (swagelaw18_small.f).bind fun t515 => (if (l.length : Int) > 40 then (some t515) else ((moves_Order.f l sp).bind fun bt516 => (if bt516.2 = 0 then ((moves_Cycles.f l).bind fun t520 => (swagelaw18_MovesPlain.l0 k l sp t515 bt516.1 (t520.length : Int) 0)) else (some t515))))) true
  by_cases h1 : (l.length : Int) > 40
  · refine (Evt.const rfl).congr fun k => ?_
    show (if (l.length : Int) > 40 then _ else _) = _
    rw [if_pos h1]
  have hO : moves_Order.f l sp = some (orderRes l sp) := by unfold moves_Order.f; rw [if_pos ⟨by omega, hw, hs⟩]
  have hC : moves_Cycles.f l = some (cycRes l) := by unfold moves_Cycles.f; rw [if_pos ⟨by omega, hw⟩]
  have go : ∀ (r : List S38 × Int), orderRes l sp = r → r.2 ≠ 0 → Evt (fun k => (swagelaw18_small.f).bind fun t515 => (if (l.length : Int) > 40 then (some t515) else ((moves_Order.f l sp).bind fun bt516 => (if bt516.2 = 0 then ((moves_Cycles.f l).bind fun t520 => (swagelaw18_MovesPlain.l0 k l sp t515 bt516.1 (t520.length : Int) 0)) else (some t515))))) true := fun r e h => by
    refine (Evt.const rfl).congr fun k => ?_
    show (if (l.length : Int) > 40 then _ else _) = _
    rw [if_neg h1, hO, e, Option.bind_some, if_neg h]
  cases hok : okN l l.length with
  | false => exact go _ (ores_twice hok) (by decide)
  | true =>
    have hn := (okN_iff l).1 hok
    cases hany : l.any (usesSp sp) with
    | true => exact go _ (ores_arg hok hany) (by decide)
    | false =>
      have hI := inv_of hn hany
      have hol : (ordOf sp l).length ≤ 80 := by
        unfold ordOf
        rw [(ordN_count _ hI (Nat.le_refl _)).2]
        have := circs_le (waitsOf l)
        have : (waitsOf l).length ≤ l.length := List.length_filter_le _ _
        omega
      have hl0 := plain_l0 (l := l) (o := ordOf sp l) (sp := sp) (by omega) (by omega) (fun c hc hne => by
        obtain ⟨d, hd, h1, h2⟩ := ordN_from _ hI c hc hne
        rw [List.any_eq_true]
        refine ⟨d, (List.mem_filter.1 hd).1, ?_⟩
        unfold fits
        rcases h2 with h2 | h2 <;> simp [h1, h2]) (fun i hi j hj hne => by
        have : ((ordOf sp l).filter fun c => !decide (c.f0 = sp)).Pairwise (fun a b => a.f0 ≠ b.f0) := ordN_once (sp := sp) (meas (waitsOf l)) hI
        rw [List.pairwise_filter] at this
        have hp := List.pairwise_iff_getElem.1 this j i (by omega) hi hj
        intro e
        exact hp (by simpa using fun h => hne (e.symm.trans h)) (by simpa using hne) e) (ordOf sp l).length 0 (by omega)
      refine hl0.congr fun k => ?_
      show (if (l.length : Int) > 40 then _ else _) = _
      rw [if_neg h1, hO, ores_ok hok hany, Option.bind_some, if_pos rfl, hC, Option.bind_some]
      have e : (cycRes l).length = spCount sp (ordOf sp l) := by
        unfold cycRes spCount ordOf
        rw [if_pos hok, cyc_len hn, circs_waits hn]
        exact ((ordN_count _ hI (Nat.le_refl _)).1).symm
      rw [e]
      rfl
theorem law_plain (A0 : Option Addr) (c0 : Nat) (l0 : List S38) (a1 : Int) (w : World) (h0 : Kd.C k38 w A0 l0.length l0) (hc0 : l0.length ≤ c0) (hw0 : WfL l0) (hw1 : Wf a1) :
    Calls Try.prog 6 #[.slice A0 l0.length c0, .int .i64 a1] w fun e w' => e = .returned (.bool true) ∧ Below w.heap.size w w' := by
  obtain ⟨k, hk⟩ := plain_law l0 a1 hw0 hw1
  exact swagelaw18_MovesPlain.calls k A0 c0 l0 a1 true w h0 hc0 hk
#print axioms plain_law
end Go.Proofs.Ytkfopphcgjdcaaa.A

/- What comes in, opened: a datum that is trodden at a type is a value of the kind. -/
namespace Go.Proofs.Ytkfopphcgjdcaaa.A
open Go.Deep Go.RowKit Go.Proofs.YtkfopphcgjdcaaaW.PrintWords Go.Proofs.YtkfopphcgjdcaaaW.PrintLast
set_option linter.unusedVariables false
set_option linter.unusedSimpArgs false

section
variable {H : Type} {enc : TypeId × Value → H} {P : Program} {w : World} {base : Nat} {α : Type} [Inhabited α]

def Opens (enc : TypeId × Value → H) (P : Program) (w : World) (base : Nat) (t : TypeId) (d : Kd α) (p : α → Prop) : Prop :=
  ∀ fuel cs x, DataW.trod enc P w base (fun _ => true) true fuel t cs = some x → ∃ y, d.K w y cs ∧ p y

theorem opens_int {t : TypeId} {k : IntKind} (ht : P.underlying t = some (.int k)) : Opens enc P w base t (Kd.int k) (fun n => (Lit.int k n).wf = true) := by
  intro fuel cs x h
  obtain ⟨n, rfl, _, hw⟩ := DataW.trod_int ht h
  exact ⟨n, rfl, hw⟩

theorem opens_slice {t e : TypeId} {d : Kd α} {p : α → Prop} (ht : P.underlying t = some (.slice e)) (hc : P.cellsOf e = d.sz) (ho : Opens enc P w base e d p) : Opens enc P w base t (Kd.slice e d) (fun xs => ∀ x ∈ xs, p x) := by
  intro fuel cs x h
  rcases open_slice ht h with ⟨rfl, _⟩ | ⟨a, len, cap, m, n, D, Pl, rfl, hb, hl, hm, hmm, _, hx⟩
  · exact ⟨[], ⟨none, 0, rfl, Nat.le_refl _, rfl, by simp, fun h => by simp at h⟩, fun x hx => by simp at hx⟩
  · simp only [if_true] at hmm
    obtain ⟨Y, hY⟩ := choose_lt (α := α) (n := len) (p := fun i y => p y ∧ ∃ c, d.K w y c ∧ ∀ j u, c[j]? = some u → w.cell? (a.add (i * d.sz + j)) = some u) (fun i hi => by
      obtain ⟨cs', h1, h2⟩ := hx i (by omega)
      obtain ⟨y, hy, hp⟩ := ho _ _ _ h2
      obtain ⟨_, hlen, hcell⟩ := World.cells?_some h1
      refine ⟨y, hp, cs', hy, fun j u hj => ?_⟩
      have hj' : j < cs'.length := (List.getElem?_eq_some_iff.1 hj).1
      have := hcell j (by omega)
      rw [hj, hc] at this
      rwa [Addr.add_add] at this)
    have hlen : ((List.range len).map Y).length = len := by simp
    refine ⟨(List.range len).map Y, ⟨some a, cap, by rw [hlen], by rw [hlen]; exact hl, hlen.trans hlen.symm, by rw [hlen]; unfold maxLen at hm; omega, fun _ => ⟨a, rfl, fun j y hj => ?_⟩⟩, fun y hy => ?_⟩
    · have hjl : j < len := by have := (List.getElem?_eq_some_iff.1 hj).1; omega
      rw [List.getElem?_map, List.getElem?_range hjl] at hj
      obtain rfl := Option.some.inj hj
      obtain ⟨_, c, hk, hcell⟩ := hY j hjl
      exact ⟨c, d.K_len hk, hk, hcell⟩
    · obtain ⟨i, hi, rfl⟩ := List.mem_map.1 hy
      exact (hY i (List.mem_range.1 hi)).1
omit [Inhabited α] in
/-- of a parameter: a slice -/
theorem opens_param {t e : TypeId} {d : Kd α} {p : List α → Prop} (ho : Opens enc P w base t (Kd.slice e d) p) {A : Option Addr} {len cap : Nat} {x : DataW H} {ps : List MemPlace} (h : DataW.Trod enc P w base (fun _ => true) true t (.slice A len cap) x ps) :
    ∃ xs : List α, len = xs.length ∧ xs.length ≤ cap ∧ d.C w A xs.length xs ∧ p xs := by
  obtain ⟨fuel, hf⟩ := h
  obtain ⟨xs, ⟨A', c', he, hl, hC⟩, hp⟩ := ho _ _ _ hf
  simp [Value.cells] at he
  obtain ⟨rfl, rfl, rfl⟩ := he
  exact ⟨xs, rfl, hl, hC, hp⟩
end

instance : Inhabited S38 := ⟨z38⟩
instance : Inhabited S42 := ⟨z42⟩
theorem opens_copy {H : Type} {enc : TypeId × Value → H} {w : World} {base : Nat} : Opens enc Try.prog w base 38 k38 (fun x => Wf x.f0 ∧ Wf x.f1) := by
  intro fuel cs x h
  obtain ⟨xs, n, _, _, hl, hlen, hf⟩ := DataW.trod_struct Try.underlying38 h
  have hl' : cs.length = 2 := hl.trans (by kernel_rfl)
  match cs, hl' with
  | [c0, c1], _ =>
    have h0 : DataW.trod enc Try.prog w base (fun _ => true) true n 3 (([c0, c1].drop 0).take (Try.prog.cellsOf 3)) = xs[0]? := hf 0 _ rfl
    have h1 : DataW.trod enc Try.prog w base (fun _ => true) true n 3 (([c0, c1].drop 1).take (Try.prog.cellsOf 3)) = xs[1]? := hf 1 _ rfl
    rw [show Try.prog.cellsOf 3 = 1 by kernel_rfl] at h0 h1
    have hx : xs.length = 2 := by rw [hlen]; rfl
    rw [List.getElem?_eq_getElem (by omega)] at h0 h1
    obtain ⟨m0, e0, _, w0⟩ := DataW.trod_int Try.underlying3 h0
    obtain ⟨m1, e1, _, w1⟩ := DataW.trod_int Try.underlying3 h1
    have e0' : c0 = .int .i64 m0 := by simpa using e0
    have e1' : c1 = .int .i64 m1 := by simpa using e1
    subst e0' e1'
    exact ⟨⟨m0, m1⟩, k38_mk w ⟨m0, m1⟩, w0, w1⟩
theorem opens_pair {H : Type} {enc : TypeId × Value → H} {w : World} {base : Nat} : Opens enc Try.prog w base 42 k42 (fun x => Wf x.f0 ∧ Wf x.f1) := by
  intro fuel cs x h
  obtain ⟨xs, n, _, _, hl, hlen, hf⟩ := DataW.trod_array Try.underlying42 h
  have hl' : cs.length = 2 := hl.trans (by kernel_rfl)
  match cs, hl' with
  | [c0, c1], _ =>
    have h0 := hf 0 (by omega)
    have h1 := hf 1 (by omega)
    rw [show Try.prog.cellsOf 3 = 1 by kernel_rfl] at h0 h1
    rw [List.getElem?_eq_getElem (by omega)] at h0 h1
    obtain ⟨m0, e0, _, w0⟩ := DataW.trod_int Try.underlying3 h0
    obtain ⟨m1, e1, _, w1⟩ := DataW.trod_int Try.underlying3 h1
    have e0' : c0 = .int .i64 m0 := by simpa using e0
    have e1' : c1 = .int .i64 m1 := by simpa using e1
    subst e0' e1'
    exact ⟨⟨m0, m1⟩, k42_mk w ⟨m0, m1⟩, w0, w1⟩
theorem opens_copies {H : Type} {enc : TypeId × Value → H} {w : World} {base : Nat} : Opens enc Try.prog w base 22 (Kd.slice 38 k38) WfL := opens_slice Try.underlying22 (by kernel_rfl) opens_copy
theorem opens_pairs {H : Type} {enc : TypeId × Value → H} {w : World} {base : Nat} : Opens enc Try.prog w base 33 (Kd.slice 42 k42) WfH := opens_slice Try.underlying33 (by kernel_rfl) opens_pair
end Go.Proofs.Ytkfopphcgjdcaaa.A
