/- Parts of the proof, in the order in which they rest on one another. -/
import Derived.Test.YtkfopphcgjdcaaaMRound1
import Derived.OpenShut
import Derived.Deep.Slices
import Derived.ChangeArms
/- swagelaw18.small: it returns true. -/
namespace Go.Proofs.Ytkfopphcgjdcaaa.A
open Go.RowKit Go.Maps Go.Proofs.YtkfopphcgjdcaaaW.PrintWords Go.Proofs.YtkfopphcgjdcaaaW.PrintLast Go.Shelf
set_option linter.unusedVariables false
set_option linter.unusedSimpArgs false

def some3 : List S38 := [⟨1, 2⟩, ⟨2, 1⟩, ⟨3, 1⟩]
def held2 : List S42 := [⟨1, 10⟩, ⟨2, 20⟩]
def ord4 : List S38 := [⟨3, 1⟩, ⟨9, 1⟩, ⟨1, 2⟩, ⟨2, 9⟩]
def once3 : List S42 := [⟨1, 20⟩, ⟨2, 10⟩, ⟨3, 10⟩]
def one3 : List S42 := [⟨1, 20⟩, ⟨2, 20⟩, ⟨3, 20⟩]
theorem s_some : swagelaw18_some.f = some some3 := by kernel_rfl
theorem s_ord : moves_Order.f some3 9 = some (ord4, 0) := by kernel_rfl
theorem s_same : swageref18_Same.f 9 ord4 ord4 = some true := by kernel_rfl
theorem s_once : moves_AtOnce.f some3 held2 = some once3 := by kernel_rfl
theorem s_pairs : swageref05_Pairs.f 9 once3 once3 = some true := by kernel_rfl
theorem s_one : moves_OneByOne.f some3 held2 = some one3 := by kernel_rfl
theorem s_pairs2 : swageref05_Pairs.f 9 one3 one3 = some true := by kernel_rfl
theorem s_cyc : moves_Cycles.f some3 = some [[1, 2]] := by kernel_rfl
theorem s_rows : swageref06_Rows.f 9 [[1, 2]] [[1, 2]] = some true := by kernel_rfl
theorem s_right : moves_Right.f some3 = some true := by kernel_rfl

theorem c38 {w : World} {base : Nat} {v : Value} {l : List S38} (h : Kd.R k38 38 w base (fun _ => True) v l) : ∃ A c, v = .slice A l.length c ∧ l.length ≤ c ∧ Kd.C k38 w A l.length l := Kd.R_reads h
theorem c42 {w : World} {base : Nat} {v : Value} {l : List S42} (h : Kd.R k42 42 w base (fun _ => True) v l) : ∃ A c, v = .slice A l.length c ∧ l.length ≤ c ∧ Kd.C k42 w A l.length l := Kd.R_reads h
theorem some_c (W : World) : Calls Try.prog 24 #[] W fun e w' => ∃ A c, e = .returned (.slice A 3 c) ∧ 3 ≤ c ∧ Kd.C k38 w' A 3 some3 ∧ Below W.heap.size W w' :=
  (swagelaw18_some.calls some3 W s_some).mono fun e w' ⟨v, he, hR, hB⟩ => by
    obtain ⟨A, c, rfl, h1, h2⟩ := c38 hR
    exact ⟨A, c, he, h1, h2, hB⟩

theorem reps38 (W : World) (base : Nat) (ok : Nat → Prop) (l : List S38) : Reps (k38.M W base ok) k38.sz l (cells38 l) := by
  refine ⟨by rw [cells38_length]; rfl, fun j p hj => ?_⟩
  obtain ⟨a, b⟩ := cells38_get l j p hj
  have hjl : j < l.length := (List.getElem?_eq_some_iff.1 hj).1
  have hsz : k38.sz = 2 := rfl
  have e : ((cells38 l).drop (j * k38.sz)).take k38.sz = [.int .i64 p.f0, .int .i64 p.f1] := by
    apply List.ext_getElem?
    intro i
    rw [hsz]
    rcases i with _ | _ | i
    · rw [List.getElem?_take_of_lt (by omega), List.getElem?_drop]; simpa using a
    · rw [List.getElem?_take_of_lt (by omega), List.getElem?_drop]; simpa using b
    · rw [List.getElem?_eq_none (by rw [List.length_take]; omega), List.getElem?_eq_none (by simp)]
  rw [e]
  exact k38_mkM _ _ _ p
def to42 (l : List S42) : List S38 := l.map fun x => ⟨x.f0, x.f1⟩
theorem reps42 (W : World) (base : Nat) (ok : Nat → Prop) (l : List S42) : Reps (k42.M W base ok) k42.sz l (cells38 (to42 l)) := by
  have h := reps38 W base ok (to42 l)
  refine ⟨by rw [cells38_length]; simp [to42]; rfl, fun j p hj => ?_⟩
  have := h.2 j ⟨p.f0, p.f1⟩ (by unfold to42; rw [List.getElem?_map, hj]; rfl)
  have hc := k38_openM this
  have hsz : k42.sz = k38.sz := rfl
  rw [hsz, hc]
  exact k42_mkM _ _ _ p
theorem lit38 (W : World) (l : List S38) (hl : l.length ≤ 1000) : Kd.C k38 (W.alloc (.cells (cells38 l).toArray 38)) (some ⟨W.heap.size, 0, none⟩) l.length l :=
  (Kd.R_reads' (R_new_lit k38 W W.heap.size 38 (ok := fun _ => True) (okp := fun _ => True) (reps38 _ _ _ l) (fun _ h => h) trivial (Nat.le_refl _) (by omega))).2.2
theorem lit42 (W : World) (l : List S42) (hl : l.length ≤ 1000) : Kd.C k42 (W.alloc (.cells (cells38 (to42 l)).toArray 42)) (some ⟨W.heap.size, 0, none⟩) l.length l :=
  (Kd.R_reads' (R_new_lit k42 W W.heap.size 42 (ok := fun _ => True) (okp := fun _ => True) (reps42 _ _ _ l) (fun _ h => h) trivial (Nat.le_refl _) (by omega))).2.2

theorem reps_two {W : World} {base : Nat} {ok : Nat → Prop} (x y : Int) : Reps ((Kd.int .i64).M W base ok) (Kd.int .i64).sz [x, y] [.int .i64 x, .int .i64 y] := by
  refine ⟨rfl, fun j p hj => ?_⟩
  match j, hj with
  | 0, hj => simp at hj; subst hj; rfl
  | 1, hj => simp at hj; subst hj; rfl
  | j + 2, hj => simp at hj
theorem reps_row {α : Type} {d : Kd α} {e : Nat} {W : World} {base : Nat} {ok : Nat → Prop} {v : Value} {l : List α} (h : Kd.R d e W base ok v l) : Reps ((Kd.slice e d).M W base ok) (Kd.slice e d).sz [l] [v] := by
  refine ⟨rfl, fun j p hj => ?_⟩
  match j, hj with
  | 0, hj => simp at hj; subst hj; exact Kd.M_row h
  | j + 1, hj => simp at hj
theorem lit12 (W : World) : Kd.C (Kd.slice 3 (Kd.int .i64)) ((W.alloc (.cells #[.int .i64 1, .int .i64 2] 3)).alloc (.cells #[.slice (some ⟨W.heap.size, 0, none⟩) 2 2] 43)) (some ⟨W.heap.size + 1, 0, none⟩) 1 [[1, 2]] := by
  have h1 := R_new_lit (Kd.int .i64) W W.heap.size 3 (xs := [1, 2]) (inner := [.int .i64 1, .int .i64 2]) (ok := fun _ => True) (okp := fun _ => True) (reps_two 1 2) (fun _ h => h) trivial (Nat.le_refl _) (by simp)
  have h2 := R_new_lit (Kd.slice 3 (Kd.int .i64)) (W.alloc (.cells #[.int .i64 1, .int .i64 2] 3)) W.heap.size 43 (xs := [[1, 2]]) (inner := [.slice (some ⟨W.heap.size, 0, none⟩) 2 2]) (ok := fun _ => True) (okp := fun _ => True) (reps_row h1) (fun _ h => h) trivial (by simp) (by simp)
  rw [World.size_alloc] at h2
  exact (Kd.R_reads' h2).2.2

set_option maxRecDepth 100000 in
set_option maxHeartbeats 2000000 in
theorem small_calls (w : World) : Calls Try.prog 8 #[] w fun e w' => e = .returned (.bool true) ∧ Below w.heap.size w w' := by
  have hu38 := Try.underlying38
  have hu42 := Try.underlying42
  go_enter Try.func8, Try.ntmps8
  go_wp2_with fail
  refine (some_c w).mono ?_
  rintro e w1 ⟨A1, c1, rfl, h1, hC1, hB1⟩
  have hO : Calls Try.prog 9 #[.slice A1 3 c1, .int .i64 9] w1 fun e w' => ∃ A c, e = .returned (.tuple #[.slice A 4 c, .int .i64 0]) ∧ 4 ≤ c ∧ Kd.C k38 w' A 4 ord4 ∧ Below w1.heap.size w1 w' :=
    (moves_Order.calls A1 c1 some3 9 ord4 0 w1 hC1 h1 s_ord).mono fun e w' ⟨v, he, hR, hB⟩ => by
      obtain ⟨A, c, rfl, h1, h2⟩ := c38 hR
      exact ⟨A, c, he, h1, h2, hB⟩
  have hB1' := Aside0.mk hB1
  clear hC1 hB1 h1
  go_wp2_with fail
  refine hO.mono ?_
  rintro e w2 ⟨A2, c2, rfl, h2, hC2, hB2⟩
  have hC2' := Aside0.mk hC2
  have hB2' := Aside0.mk (below_step hB1'.out hB2)
  have h2' := Aside0.mk h2
  clear hO hC2 hB1' hB2 h2
  have hH3 : Aside0 (Kd.C k42 (w2.alloc (.cells #[.int .i64 1, .int .i64 10, .int .i64 2, .int .i64 20] 42)) (some ⟨w2.heap.size, 0, none⟩) 2 held2) := ⟨lit42 w2 held2 (by decide)⟩
  have hB3 := Aside0.mk (below_alloc hB2'.out (.cells #[.int .i64 1, .int .i64 10, .int .i64 2, .int .i64 20] 42))
  have hC3 := Aside0.mk (Kd.C_alloc hC2'.out (.cells #[.int .i64 1, .int .i64 10, .int .i64 2, .int .i64 20] 42))
  have hw3 : (w2.alloc (.cells #[.int .i64 1, .int .i64 10, .int .i64 2, .int .i64 20] 42)).heap.size = w2.heap.size + 1 := by simp
  generalize hq : w2.alloc (.cells #[.int .i64 1, .int .i64 10, .int .i64 2, .int .i64 20] 42) = w3 at *
  have hq' := Aside0.mk hq
  have hL4 : Aside0 (Kd.C k38 (w3.alloc (.cells #[.int .i64 3, .int .i64 1, .int .i64 9, .int .i64 1, .int .i64 1, .int .i64 2, .int .i64 2, .int .i64 9] 38)) (some ⟨w3.heap.size, 0, none⟩) 4 ord4) := ⟨lit38 w3 ord4 (by decide)⟩
  have hsm := swageref18_Same.calls 9 A2 c2 ord4 (some ⟨w3.heap.size, 0, none⟩) 4 ord4 true _ (Kd.C_alloc hC3.out (.cells #[.int .i64 3, .int .i64 1, .int .i64 9, .int .i64 1, .int .i64 1, .int .i64 2, .int .i64 2, .int .i64 9] 38)) h2'.out hL4.out (by decide) s_same
  have hB4 := Aside0.mk (below_alloc hB3.out (.cells #[.int .i64 3, .int .i64 1, .int .i64 9, .int .i64 1, .int .i64 1, .int .i64 2, .int .i64 2, .int .i64 9] 38))
  have hH4 := Aside0.mk (Kd.C_alloc hH3.out (.cells #[.int .i64 3, .int .i64 1, .int .i64 9, .int .i64 1, .int .i64 1, .int .i64 2, .int .i64 2, .int .i64 9] 38))
  rw [hw3] at hsm
  clear hL4 hC3 hC2' h2' hB3 hH3 hB2' hw3
  rw [← hq'.out] at hsm hB4 hH4
  clear hq hq'
  change Calls Try.prog 11 #[.slice A2 4 c2, .slice (some ⟨w2.heap.size + 1, 0, none⟩) 4 4] _ _ at hsm
  go_wp2_with fail
  refine hsm.mono ?_
  rintro e w4 ⟨rfl, hd4⟩
  have hB5 := Aside0.mk (below_step hB4.out hd4.below)
  have hH5 := Aside0.mk (Kd.C_below hH4.out hd4.below)
  clear hsm hd4 hB4 hH4
  generalize w2.heap.size = bh at *
  go_wp2_with fail
  -- AtOnce
  refine (some_c w4).mono ?_
  rintro e w5 ⟨A5, c5, rfl, h5, hC5, hb5⟩
  have hB6 := Aside0.mk (below_step hB5.out hb5)
  have hH6 := Aside0.mk (Kd.C_below hH5.out hb5)
  have hat : Calls Try.prog 18 #[.slice A5 3 c5, .slice (some ⟨bh, 0, none⟩) 2 2] w5 fun e w' => ∃ A c, e = .returned (.slice A 3 c) ∧ 3 ≤ c ∧ Kd.C k42 w' A 3 once3 ∧ Below w5.heap.size w5 w' :=
    (moves_AtOnce.calls A5 c5 some3 (some ⟨bh, 0, none⟩) 2 held2 once3 w5 hC5 h5 hH6.out (by decide) s_once).mono fun e w' ⟨v, he, hR, hB⟩ => by
      obtain ⟨A, c, rfl, h1, h2⟩ := c42 hR
      exact ⟨A, c, he, h1, h2, hB⟩
  clear hC5 h5 hb5 hB5 hH5
  go_wp2_with fail
  refine hat.mono ?_
  rintro e w6 ⟨A6, c6, rfl, h6, hC6, hb6⟩
  have hB7 := Aside0.mk (below_step hB6.out hb6)
  have hH7 := Aside0.mk (Kd.C_below hH6.out hb6)
  have hL7 : Aside0 (Kd.C k42 (w6.alloc (.cells #[.int .i64 1, .int .i64 20, .int .i64 2, .int .i64 10, .int .i64 3, .int .i64 10] 42)) (some ⟨w6.heap.size, 0, none⟩) 3 once3) := ⟨lit42 w6 once3 (by decide)⟩
  have hp7 := swageref05_Pairs.calls 9 A6 c6 once3 (some ⟨w6.heap.size, 0, none⟩) 3 once3 true _ (Kd.C_alloc hC6 (.cells #[.int .i64 1, .int .i64 20, .int .i64 2, .int .i64 10, .int .i64 3, .int .i64 10] 42)) h6 hL7.out (by decide) s_pairs
  have hB8 := Aside0.mk (below_alloc hB7.out (.cells #[.int .i64 1, .int .i64 20, .int .i64 2, .int .i64 10, .int .i64 3, .int .i64 10] 42))
  have hH8 := Aside0.mk (Kd.C_alloc hH7.out (.cells #[.int .i64 1, .int .i64 20, .int .i64 2, .int .i64 10, .int .i64 3, .int .i64 10] 42))
  change Calls Try.prog 17 #[.slice A6 3 c6, .slice (some ⟨w6.heap.size, 0, none⟩) 3 3] _ _ at hp7
  clear hat h6 hC6 hb6 hL7 hB6 hH6 hB7 hH7
  go_wp2_with fail
  refine hp7.mono ?_
  rintro e w7 ⟨rfl, hd7⟩
  have hB9 := Aside0.mk (below_step hB8.out hd7.below)
  have hH9 := Aside0.mk (Kd.C_below hH8.out hd7.below)
  clear hp7 hd7 hB8 hH8
  go_wp2_with fail
  -- OneByOne
  refine (some_c w7).mono ?_
  rintro e w8 ⟨A8, c8, rfl, h8, hC8, hb8⟩
  have hB10 := Aside0.mk (below_step hB9.out hb8)
  have hH10 := Aside0.mk (Kd.C_below hH9.out hb8)
  have hob : Calls Try.prog 20 #[.slice A8 3 c8, .slice (some ⟨bh, 0, none⟩) 2 2] w8 fun e w' => ∃ A c, e = .returned (.slice A 3 c) ∧ 3 ≤ c ∧ Kd.C k42 w' A 3 one3 ∧ Below w8.heap.size w8 w' :=
    (moves_OneByOne.calls A8 c8 some3 (some ⟨bh, 0, none⟩) 2 held2 one3 w8 hC8 h8 hH10.out (by decide) s_one).mono fun e w' ⟨v, he, hR, hB⟩ => by
      obtain ⟨A, c, rfl, h1, h2⟩ := c42 hR
      exact ⟨A, c, he, h1, h2, hB⟩
  clear hC8 h8 hb8 hB9 hH9 hH10
  go_wp2_with fail
  refine hob.mono ?_
  rintro e w9 ⟨A9, c9, rfl, h9, hC9, hb9⟩
  have hB11 := Aside0.mk (below_step hB10.out hb9)
  have hL9 : Aside0 (Kd.C k42 (w9.alloc (.cells #[.int .i64 1, .int .i64 20, .int .i64 2, .int .i64 20, .int .i64 3, .int .i64 20] 42)) (some ⟨w9.heap.size, 0, none⟩) 3 one3) := ⟨lit42 w9 one3 (by decide)⟩
  have hp9 := swageref05_Pairs.calls 9 A9 c9 one3 (some ⟨w9.heap.size, 0, none⟩) 3 one3 true _ (Kd.C_alloc hC9 (.cells #[.int .i64 1, .int .i64 20, .int .i64 2, .int .i64 20, .int .i64 3, .int .i64 20] 42)) h9 hL9.out (by decide) s_pairs2
  have hB12 := Aside0.mk (below_alloc hB11.out (.cells #[.int .i64 1, .int .i64 20, .int .i64 2, .int .i64 20, .int .i64 3, .int .i64 20] 42))
  change Calls Try.prog 17 #[.slice A9 3 c9, .slice (some ⟨w9.heap.size, 0, none⟩) 3 3] _ _ at hp9
  clear hob h9 hC9 hb9 hL9 hB10 hB11
  go_wp2_with fail
  refine hp9.mono ?_
  rintro e w10 ⟨rfl, hd10⟩
  have hB13 := Aside0.mk (below_step hB12.out hd10.below)
  clear hp9 hd10 hB12
  go_wp2_with fail
  -- Cycles
  refine (some_c w10).mono ?_
  rintro e w11 ⟨A11, c11, rfl, h11, hC11, hb11⟩
  have hB14 := Aside0.mk (below_step hB13.out hb11)
  have hcy : Calls Try.prog 15 #[.slice A11 3 c11] w11 fun e w' => ∃ A c, e = .returned (.slice A 1 c) ∧ 1 ≤ c ∧ Kd.C (Kd.slice 3 (Kd.int .i64)) w' A 1 [[1, 2]] ∧ Below w11.heap.size w11 w' :=
    (moves_Cycles.calls A11 c11 some3 [[1, 2]] w11 hC11 h11 s_cyc).mono fun e w' ⟨v, he, hR, hB⟩ => by
      obtain ⟨A, c, rfl, h1, h2⟩ := Kd.S_reads hR
      exact ⟨A, c, he, h1, h2, hB⟩
  clear hC11 h11 hb11 hB13
  go_wp2_with fail
  refine hcy.mono ?_
  rintro e w12 ⟨A12, c12, rfl, h12, hC12, hb12⟩
  have hB15 := Aside0.mk (below_step hB14.out hb12)
  have hrw := swageref06_Rows.calls 9 A12 c12 [[1, 2]] (some ⟨w12.heap.size + 1, 0, none⟩) 1 [[1, 2]] true _ (Kd.C_alloc (Kd.C_alloc hC12 (.cells #[.int .i64 1, .int .i64 2] 3)) (.cells #[.slice (some ⟨w12.heap.size, 0, none⟩) 2 2] 43)) h12 (lit12 w12) (by decide) s_rows
  have hB16 := Aside0.mk (below_alloc (below_alloc hB15.out (.cells #[.int .i64 1, .int .i64 2] 3)) (.cells #[.slice (some ⟨w12.heap.size, 0, none⟩) 2 2] 43))
  change Calls Try.prog 14 #[.slice A12 1 c12, .slice (some ⟨w12.heap.size + 1, 0, none⟩) 1 1] _ _ at hrw
  clear hcy hb12 hB14 hC12 h12 hB15
  go_wp2_with fail
  refine hrw.mono ?_
  rintro e w13 ⟨rfl, hd13⟩
  have hB17 := Aside0.mk (below_step hB16.out hd13.below)
  clear hrw hd13 hB16
  go_wp2_with fail
  refine (some_c w13).mono ?_
  rintro e w14 ⟨A14, c14, rfl, h14, hC14, hb14⟩
  have hB18 := Aside0.mk (below_step hB17.out hb14)
  have hri : Calls Try.prog 12 #[.slice A14 3 c14] w14 fun e w' => e = .returned (.bool true) ∧ Below w14.heap.size w14 w' := moves_Right.calls A14 c14 some3 true w14 hC14 h14 s_right
  clear hC14 h14 hb14 hB17
  go_wp2_with fail
  refine hri.mono ?_
  rintro e w15 ⟨rfl, hb15⟩
  have hB19 := Aside0.mk (below_step hB18.out hb15)
  clear hri hb15 hB18
  go_wp2_with fail
  go_ret
  exact ⟨rfl, hB19.out⟩
def swagelaw18_small.f : Option Bool := some true
theorem swagelaw18_small.calls (r : Bool) (w : World) (h : swagelaw18_small.f = some r) : Calls Try.prog 8 #[] w fun e w' => e = .returned (.bool r) ∧ Below w.heap.size w w' := by
  obtain rfl := Option.some.inj h
  exact small_calls w
#print axioms small_calls
end Go.Proofs.Ytkfopphcgjdcaaa.A

/- What the machine does at this function, and a plain Lean function that says the same: written by a program for this claim; Lean checks it. -/
namespace Go.Proofs.Ytkfopphcgjdcaaa.A
open Go.RowKit Go.Proofs.YtkfopphcgjdcaaaW.PrintWords Go.Proofs.YtkfopphcgjdcaaaW.PrintLast Go.Proofs.YtkfopphcgjdcaaaW.PrintMore
attribute [local go_sem] max2_int min2_int max_two min_two max_three min_three max_four min_four   -- for this text's walks alone
set_option linter.unusedVariables false
set_option linter.unusedSimpArgs false

attribute [local go_sem high] eqA42
/-! ### swagelaw18_MovesRound: function 7 -/
mutual
def swagelaw18_MovesRound.j0 : Nat → Int → Bool → Bool → Option (Bool)
  | 0, _, _, _ => none
  | k + 1, x0, x3, x18 => if x18 = true then (some x3) else (swagelaw18_MovesRound.l0 k x0 x3 ([] : List (S38)) ([] : List (S42)) 0)
def swagelaw18_MovesRound.l0 : Nat → Int → Bool → List (S38) → List (S42) → Int → Option (Bool)
  | 0, _, _, _, _, _ => none
  | k + 1, x0, x3, x4, x5, x6 => if x6 < x0 then (if x0 = 0 then (none) else (if x4.length < 8796093022208 then (if x5.length < 8796093022208 then (swagelaw18_MovesRound.l0 k x0 x3 (x4 ++ [(⟨x6, Int.tmod (wrap64 (x6 + 1)) x0⟩ : S38)]) (x5 ++ [(⟨x6, wrap64 (100 + x6)⟩ : S42)]) (wrap64 (x6 + 1))) else (none)) else (none))) else ((moves_Order.f x4 x0).bind fun bt538 => ((moves_Cycles.f x4).bind fun t542 => ((moves_OneByOne.f bt538.1 x5).bind fun t545 => (if bt538.2 = 0 then (if (bt538.1.length : Int) = (wrap64 (x0 + 1)) then (if (t542.length : Int) = 1 then (if 0 < (t542.length : Int) then (if ((rd_L4 t542 0).length : Int) = x0 then (swagelaw18_MovesRound.j2 k x0 x3 t542 t545 ((t545.length : Int) != (wrap64 (x0 + 1)))) else (swagelaw18_MovesRound.j2 k x0 x3 t542 t545 true)) else (none)) else (swagelaw18_MovesRound.j2 k x0 x3 t542 t545 true)) else (swagelaw18_MovesRound.j2 k x0 x3 t542 t545 true)) else (swagelaw18_MovesRound.j2 k x0 x3 t542 t545 true)))))
def swagelaw18_MovesRound.j2 : Nat → Int → Bool → List (List Int) → List (S42) → Bool → Option (Bool)
  | 0, _, _, _, _, _ => none
  | k + 1, x0, x3, x9, x10, x80 => if x80 = true then (some false) else (swagelaw18_MovesRound.l1 k x0 x3 x9 x10 0)
def swagelaw18_MovesRound.l1 : Nat → Int → Bool → List (List Int) → List (S42) → Int → Option (Bool)
  | 0, _, _, _, _, _ => none
  | k + 1, x0, x3, x9, x10, x11 => if x11 < x0 then (if 0 ≤ x11 then (if x11 < (x10.length : Int) then (if x0 = 0 then (none) else (if (!(((rd_T42 x10 x11).f0) == x11) || (!(((rd_T42 x10 x11).f1) == (wrap64 (100 + (Int.tmod (wrap64 (x11 + 1)) x0)))))) = true then (some false) else (swagelaw18_MovesRound.l1 k x0 x3 x9 x10 (wrap64 (x11 + 1))))) else (none)) else (none)) else (if x3 = true then (if 0 < (x9.length : Int) then (if 0 < ((rd_L4 x9 0).length : Int) then (some ((rd (rd_L4 x9 0) 0) == 0)) else (none)) else (none)) else (some false))
end
def swagelaw18_MovesRound.f (k : Nat) (a0 : Int) : Option (Bool) := (swagelaw18_small.f).bind fun t531 => (if a0 < 2 then (swagelaw18_MovesRound.j0 k a0 t531 true) else (swagelaw18_MovesRound.j0 k a0 t531 (decide (a0 > 40))))
theorem swagelaw18_MovesRound.mono_l : ∀ k, (∀ y0 y1 y2, LeO (swagelaw18_MovesRound.j0 k y0 y1 y2) (swagelaw18_MovesRound.j0 (k + 1) y0 y1 y2)) ∧ (∀ y0 y1 y2 y3 y4, LeO (swagelaw18_MovesRound.l0 k y0 y1 y2 y3 y4) (swagelaw18_MovesRound.l0 (k + 1) y0 y1 y2 y3 y4)) ∧ (∀ y0 y1 y2 y3 y4, LeO (swagelaw18_MovesRound.j2 k y0 y1 y2 y3 y4) (swagelaw18_MovesRound.j2 (k + 1) y0 y1 y2 y3 y4)) ∧ (∀ y0 y1 y2 y3 y4, LeO (swagelaw18_MovesRound.l1 k y0 y1 y2 y3 y4) (swagelaw18_MovesRound.l1 (k + 1) y0 y1 y2 y3 y4))
  | 0 => ⟨fun _ _ _ r h => by simp [swagelaw18_MovesRound.j0] at h, fun _ _ _ _ _ r h => by simp [swagelaw18_MovesRound.l0] at h, fun _ _ _ _ _ r h => by simp [swagelaw18_MovesRound.j2] at h, fun _ _ _ _ _ r h => by simp [swagelaw18_MovesRound.l1] at h⟩
  | k + 1 => by
    obtain ⟨ih0, ih1, ih2, ih3⟩ := swagelaw18_MovesRound.mono_l k
    refine ⟨?_, ?_, ?_, ?_⟩
    · intro y0 y1 y2
      unfold swagelaw18_MovesRound.j0
      repeat' first
      | (with_reducible exact ih0 _ _ _)
      | (with_reducible exact ih1 _ _ _ _ _)
      | (with_reducible exact ih2 _ _ _ _ _)
      | (with_reducible exact ih3 _ _ _ _ _)
      | (with_reducible exact LeO.refl _)
      | (with_reducible exact LeO.none _)
      | (with_reducible refine LeO.ite ?_ ?_)
      | (with_reducible refine LeO.bind ?_ (fun _ => ?_))
      | exact ih0 _ _ _
      | exact ih1 _ _ _ _ _
      | exact ih2 _ _ _ _ _
      | exact ih3 _ _ _ _ _
      | exact LeO.none _
      | refine LeO.ite ?_ ?_
      | refine LeO.bind ?_ (fun _ => ?_)
    · intro y0 y1 y2 y3 y4
      unfold swagelaw18_MovesRound.l0
      repeat' first
      | (with_reducible exact ih0 _ _ _)
      | (with_reducible exact ih1 _ _ _ _ _)
      | (with_reducible exact ih2 _ _ _ _ _)
      | (with_reducible exact ih3 _ _ _ _ _)
      | (with_reducible exact LeO.refl _)
      | (with_reducible exact LeO.none _)
      | (with_reducible refine LeO.ite ?_ ?_)
      | (with_reducible refine LeO.bind ?_ (fun _ => ?_))
      | exact ih0 _ _ _
      | exact ih1 _ _ _ _ _
      | exact ih2 _ _ _ _ _
      | exact ih3 _ _ _ _ _
      | exact LeO.none _
      | refine LeO.ite ?_ ?_
      | refine LeO.bind ?_ (fun _ => ?_)
    · intro y0 y1 y2 y3 y4
      unfold swagelaw18_MovesRound.j2
      repeat' first
      | (with_reducible exact ih0 _ _ _)
      | (with_reducible exact ih1 _ _ _ _ _)
      | (with_reducible exact ih2 _ _ _ _ _)
      | (with_reducible exact ih3 _ _ _ _ _)
      | (with_reducible exact LeO.refl _)
      | (with_reducible exact LeO.none _)
      | (with_reducible refine LeO.ite ?_ ?_)
      | (with_reducible refine LeO.bind ?_ (fun _ => ?_))
      | exact ih0 _ _ _
      | exact ih1 _ _ _ _ _
      | exact ih2 _ _ _ _ _
      | exact ih3 _ _ _ _ _
      | exact LeO.none _
      | refine LeO.ite ?_ ?_
      | refine LeO.bind ?_ (fun _ => ?_)
    · intro y0 y1 y2 y3 y4
      unfold swagelaw18_MovesRound.l1
      repeat' first
      | (with_reducible exact ih0 _ _ _)
      | (with_reducible exact ih1 _ _ _ _ _)
      | (with_reducible exact ih2 _ _ _ _ _)
      | (with_reducible exact ih3 _ _ _ _ _)
      | (with_reducible exact LeO.refl _)
      | (with_reducible exact LeO.none _)
      | (with_reducible refine LeO.ite ?_ ?_)
      | (with_reducible refine LeO.bind ?_ (fun _ => ?_))
      | exact ih0 _ _ _
      | exact ih1 _ _ _ _ _
      | exact ih2 _ _ _ _ _
      | exact ih3 _ _ _ _ _
      | exact LeO.none _
      | refine LeO.ite ?_ ?_
      | refine LeO.bind ?_ (fun _ => ?_)
theorem swagelaw18_MovesRound.mono : ∀ a0 k, LeO (swagelaw18_MovesRound.f k a0) (swagelaw18_MovesRound.f (k + 1) a0) := by
  intro a0 k
  obtain ⟨ih0, ih1, ih2, ih3⟩ := swagelaw18_MovesRound.mono_l k
  unfold swagelaw18_MovesRound.f
  repeat' first
      | (with_reducible exact ih0 _ _ _)
      | (with_reducible exact ih1 _ _ _ _ _)
      | (with_reducible exact ih2 _ _ _ _ _)
      | (with_reducible exact ih3 _ _ _ _ _)
      | (with_reducible exact LeO.refl _)
      | (with_reducible exact LeO.none _)
      | (with_reducible refine LeO.ite ?_ ?_)
      | (with_reducible refine LeO.bind ?_ (fun _ => ?_))
      | exact ih0 _ _ _
      | exact ih1 _ _ _ _ _
      | exact ih2 _ _ _ _ _
      | exact ih3 _ _ _ _ _
      | exact LeO.none _
      | refine LeO.ite ?_ ?_
      | refine LeO.bind ?_ (fun _ => ?_)
set_option maxHeartbeats 8000000 in
set_option maxRecDepth 100000 in
theorem swagelaw18_MovesRound.calls (k : Nat) (a0 : Int) (r : Bool) (w : World) (h : swagelaw18_MovesRound.f k a0 = some r) :
    Calls Try.prog 7 #[.int .i64 a0] w fun e w' => e = .returned (.bool r) ∧ Below w.heap.size w w' := by
  have hu38 := Try.underlying38
  have hu42 := Try.underlying42
  have HB := Aside0.mk (Below.refl w.heap.size w)
  have H : ((swagelaw18_small.f).bind fun t531 => (if a0 < 2 then (swagelaw18_MovesRound.j0 k a0 t531 true) else (swagelaw18_MovesRound.j0 k a0 t531 (decide (a0 > 40))))) = some r := h
  clear h
  replace H := Option.bind_eq_some_iff.mp H
  obtain ⟨t531, A20, H⟩ := H
  replace H : (if a0 < 2 then (swagelaw18_MovesRound.j0 k a0 t531 true) else (swagelaw18_MovesRound.j0 k a0 t531 (decide (a0 > 40)))) = some r := H
  have A2 := Aside0.mk A20
  clear A20
  have HC3 := Aside0.mk H
  clear H
  go_enter Try.func7, Try.ntmps7
  go_upto_region 2 with (first | (go_at_call 8; (with_reducible refine (swagelaw18_small.calls  t531 _ A2.out).mono ?_); rintro e w4 ⟨rfl, hb⟩; have n0_ := Aside0.mk (below_step (by repeat (first | (with_reducible first | exact HB.out | apply below_alloc | apply pw_below_drewN | apply below_drew1) | exact HB.out)) hb); clear HB; have HB := n0_; clear n0_; (try clear hb); (try clear hb2); (try clear hk); (try clear hi)))
  repeat (go_quiet (first | (go_at_call 8; (with_reducible refine (swagelaw18_small.calls  t531 _ A2.out).mono ?_); rintro e w4 ⟨rfl, hb⟩; have n0_ := Aside0.mk (below_step (by repeat (first | (with_reducible first | exact HB.out | apply below_alloc | apply pw_below_drewN | apply below_drew1) | exact HB.out)) hb); clear HB; have HB := n0_; clear n0_; (try clear hb); (try clear hb2); (try clear hk); (try clear hi))); go_upto_region 2 with (first | (go_at_call 8; (with_reducible refine (swagelaw18_small.calls  t531 _ A2.out).mono ?_); rintro e w4 ⟨rfl, hb⟩; have n0_ := Aside0.mk (below_step (by repeat (first | (with_reducible first | exact HB.out | apply below_alloc | apply pw_below_drewN | apply below_drew1) | exact HB.out)) hb); clear HB; have HB := n0_; clear n0_; (try clear hb); (try clear hb2); (try clear hk); (try clear hi))))
  (try simp only [Act.put, List.setIfInBounds_toArray, List.set_cons_zero, List.set_cons_succ])
  go_cut [18] (fun v18 wc => ∃ (kq : Nat) (x18_2 : Bool), v18 = .bool x18_2 ∧ Aside0 (swagelaw18_MovesRound.j0 kq a0 t531 x18_2 = some r) ∧ Aside0 (kq ≤ k) ∧ Aside0 (Below w.heap.size w wc))
  case first =>
    have H := HC3.out
    clear HC3
    by_cases c5 : a0 < 2
    · rw [if_pos c5] at H
      have c5b0 : decide (a0 < 2) = true := decide_eq_true c5
      clear c5
      (first | rw [c5b0] | (simp only [i64_w, i32_w]; rw [c5b0]) | skip)
      have H' := Aside0.mk H
      clear H
      go_wp2
      repeat (go_quiet (fail); try go_wp2)
      go_meet
      case rel => exact ⟨_, (true), (by first | rfl | (simp; done) | (simp [*]; done)), H', ⟨by first | omega | exact Nat.le_refl _⟩, ⟨by repeat (first | (with_reducible first | exact HB.out | apply below_alloc | apply pw_below_drewN | apply below_drew1) | exact HB.out)⟩⟩
    · rw [if_neg c5] at H
      have c5b0 : decide (a0 < 2) = false := decide_eq_false c5
      clear c5
      (first | rw [c5b0] | (simp only [i64_w, i32_w]; rw [c5b0]) | skip)
      have H' := Aside0.mk H
      clear H
      go_wp2
      repeat (go_quiet (fail); try go_wp2)
      go_meet
      case rel => exact ⟨_, (decide (a0 > 40)), (by first | rfl | (simp; done) | (simp [*]; done)), H', ⟨by first | omega | exact Nat.le_refl _⟩, ⟨by repeat (first | (with_reducible first | exact HB.out | apply below_alloc | apply pw_below_drewN | apply below_drew1) | exact HB.out)⟩⟩
  case rest =>
    clear HC3
    try clear p2
    try clear c5
    try clear c5b0
    obtain ⟨kq, x18_2, rfl, HA, HJ2, HB⟩ := hcut
    cases kq with
    | zero => exact absurd HA.out (by simp [swagelaw18_MovesRound.j0])
    | succ kj2 =>
      have H := HA.out
      clear HA
      simp only [swagelaw18_MovesRound.j0] at H
      by_cases c6 : x18_2 = true
      · subst c6
        have H1 : (some t531) = some r := by rw [if_pos rfl] at H; exact H
        clear H
        have H := H1
        clear H1
        obtain rfl := Option.some.inj H
        go_wp2
        repeat (go_quiet (fail); try go_wp2)
        go_ret
        exact ⟨by first | rfl | (simp [errW_none, errW_some] <;> rfl) | (simp [*, errW_none, errW_some] <;> rfl), by repeat (first | (with_reducible first | exact HB.out | apply below_alloc | apply pw_below_drewN | apply below_drew1) | exact HB.out)⟩
      · replace c6 := Bool.eq_false_iff.mpr c6
        subst c6
        have H1 : (swagelaw18_MovesRound.l0 kj2 a0 t531 ([] : List (S38)) ([] : List (S42)) 0) = some r := by rw [if_neg (show ¬ (false = true) by decide)] at H; exact H
        clear H
        have H := H1
        clear H1
        have H' := Aside0.mk H
        clear H
        go_wp2
        repeat (go_quiet (fail); try go_wp2)
        go_loopg [4, 5, 6] kj2 (fun kq v4 v5 v6 w' => ∃ (x4_2 : List (S38)) (x5_2 : List (S42)) (x6_2 : Int), v6 = .int .i64 x6_2 ∧ Aside0 (swagelaw18_MovesRound.l0 kq a0 t531 x4_2 x5_2 x6_2 = some r) ∧ Aside0 (kq ≤ kj2) ∧ Aside0 (Kd.R k38 38 w' w.heap.size (fun _ => True) v4 x4_2) ∧ Aside0 (Kd.R k42 42 w' w.heap.size (fun _ => True) v5 x5_2) ∧ Aside0 (Below w.heap.size w w'))
        case atStart => exact ⟨(([] : List (S38))), (([] : List (S42))), (0), (by first | rfl | (simp; done) | (simp [*]; done)), H', ⟨Nat.le_refl _⟩, ⟨by first | exact Kd.R_nil _ _ _ _ _ | exact Kd.N_nil _ _ _ _ _ | exact Kd.V_nil _ _ _ _ _ | exact Kd.Q_nil _ _ _ _ _ | exact Kd.S_nil _ _ _ _ _⟩, ⟨by first | exact Kd.R_nil _ _ _ _ _ | exact Kd.N_nil _ _ _ _ _ | exact Kd.V_nil _ _ _ _ _ | exact Kd.Q_nil _ _ _ _ _ | exact Kd.S_nil _ _ _ _ _⟩, ⟨by repeat (first | (with_reducible first | exact HB.out | apply below_alloc | apply pw_below_drewN | apply below_drew1) | exact HB.out)⟩⟩
        case round =>
          clear H'
          try clear p2
          try clear c5
          try clear c5b0
          try clear c6
          try clear p2
          obtain ⟨x4_2, x5_2, x6_2, rfl, HA, HK2, HO_4, HO_5, HB⟩ := hrel
          cases gk with
          | zero => exact absurd HA.out (by simp [swagelaw18_MovesRound.l0])
          | succ k2 =>
            have H := HA.out
            clear HA
            simp only [swagelaw18_MovesRound.l0] at H
            by_cases c7 : x6_2 < a0
            · rw [if_pos c7] at H
              have c7b0 : decide (x6_2 < a0) = true := decide_eq_true c7
              clear c7
              by_cases c8 : a0 = 0
              · rw [if_pos c8] at H
                exact absurd H (by simp)
              · rw [if_neg c8] at H
                have c8b0 : (a0 == 0) = false := beq_eq_false_iff_ne.mpr c8
                have c8b1 : (a0 != 0) = true := bne_iff_ne.mpr c8
                by_cases c9 : x4_2.length < 8796093022208
                · rw [if_pos c9] at H
                  have LMc9 := Aside0.mk c9
                  clear c9
                  obtain ⟨y532, hy532⟩ : ∃ y_ : List (S38), y_ = (x4_2 ++ [(⟨x6_2, Int.tmod (wrap64 (x6_2 + 1)) a0⟩ : S38)]) := ⟨_, rfl⟩
                  replace H : (if x5_2.length < 8796093022208 then (swagelaw18_MovesRound.l0 k2 a0 t531 y532 (x5_2 ++ [(⟨x6_2, wrap64 (100 + x6_2)⟩ : S42)]) (wrap64 (x6_2 + 1))) else (none)) = some r := by first | (rw [hy532]; with_reducible exact H) | (have H2_ := (Option.bind_some _ _).symm.trans H; rw [hy532]; with_reducible exact H2_) | (have H2_ := (Option.bind_some _ _).symm.trans H; with_reducible exact H2_) | with_reducible exact H | (rw [hy532]; exact H) | exact H
                  have Ny532 := Aside0.mk hy532
                  clear hy532
                  by_cases c10 : x5_2.length < 8796093022208
                  · rw [if_pos c10] at H
                    have LMc10 := Aside0.mk c10
                    clear c10
                    obtain ⟨y535, hy535⟩ : ∃ y_ : List (S42), y_ = (x5_2 ++ [(⟨x6_2, wrap64 (100 + x6_2)⟩ : S42)]) := ⟨_, rfl⟩
                    replace H : (swagelaw18_MovesRound.l0 k2 a0 t531 y532 y535 (wrap64 (x6_2 + 1))) = some r := by first | (rw [hy535]; with_reducible exact H) | (have H2_ := (Option.bind_some _ _).symm.trans H; rw [hy535]; with_reducible exact H2_) | (have H2_ := (Option.bind_some _ _).symm.trans H; with_reducible exact H2_) | with_reducible exact H | (rw [hy535]; exact H) | exact H
                    have Ny535 := Aside0.mk hy535
                    clear hy535
                    have H' := Aside0.mk H
                    clear H
                    go_wp2_with (first | ((with_reducible refine gate_builtin (b := .append) (xs := #[.tmp 25, .tmp 32]) rfl ?_); (try (refine gate_guard (by rfl) ?_; dsimp only)); at_builtin; refine Kd.R_append k38 (w0 := w) w.heap.size rfl (.tmp 25) (.tmp 32) 22 38 (.agg #[(.int .i64 0), (.int .i64 0)]) 16 rfl Try.underlying22 info38 rfl (by decide) (by omega) u4 x4_2 (⟨x6_2, Int.tmod (wrap64 (x6_2 + 1)) a0⟩ : S38) [.int .i64 x6_2, .int .i64 (Int.tmod (wrap64 (x6_2 + 1)) a0)] (fun _ => True) (fun _ => False) rfl rfl ?aP (fun _ hk => hk.elim) ?aF ?aO ?aB ?aS ?aL ?_; (case aP => exact k38_mkM _ _ _ (⟨x6_2, Int.tmod (wrap64 (x6_2 + 1)) a0⟩ : S38)); (case aB => exact (by repeat (first | (with_reducible first | exact HB.out | apply below_alloc | apply pw_below_drewN | apply below_drew1) | exact HB.out))); (case aF => exact (fun _ _ => trivial)); (case aO => exact (by (with_reducible repeat (first | apply Kd.R_alloc | apply Kd.R_drewN | apply Kd.R_drew)); exact HO_4.out)); (case aS => exact (below_size (by repeat (first | (with_reducible first | exact HB.out | apply below_alloc | apply pw_below_drewN | apply below_drew1) | exact HB.out)))); (case aL => have := LMc9.out; omega); intro v533 w11 ho hb hg hat; rw [← Ny532.out] at ho; have n0_ := Aside0.mk (Kd.R_over' (by (with_reducible repeat (first | apply Kd.R_alloc | apply Kd.R_drewN | apply Kd.R_drew)); exact HO_5.out) (Kd.R_typed (by (with_reducible repeat (first | apply Kd.R_alloc | apply Kd.R_drewN | apply Kd.R_drew)); exact HO_4.out)) (by decide) hg); have n1_ := Aside0.mk (hb); have n2_ := Aside0.mk (ho); clear HO_5; clear HB; clear HO_4; have HO_5 := n0_; have HB := n1_; have HO534 := n2_; clear n0_ n1_ n2_; clear ho hb hg hat) | ((with_reducible refine gate_builtin (b := .append) (xs := #[.tmp 34, .tmp 39]) rfl ?_); (try (refine gate_guard (by rfl) ?_; dsimp only)); at_builtin; refine Kd.R_append k42 (w0 := w) w.heap.size rfl (.tmp 34) (.tmp 39) 33 42 (.agg #[(.int .i64 0), (.int .i64 0)]) 16 rfl Try.underlying33 info42 rfl (by decide) (by omega) u5 x5_2 (⟨x6_2, wrap64 (100 + x6_2)⟩ : S42) [.int .i64 x6_2, .int .i64 (wrap64 (100 + x6_2))] (fun _ => True) (fun _ => False) rfl rfl ?aP (fun _ hk => hk.elim) ?aF ?aO ?aB ?aS ?aL ?_; (case aP => exact k42_mkM _ _ _ (⟨x6_2, wrap64 (100 + x6_2)⟩ : S42)); (case aB => exact (by repeat (first | (with_reducible first | exact HB.out | apply below_alloc | apply pw_below_drewN | apply below_drew1) | exact HB.out))); (case aF => exact (fun _ _ => trivial)); (case aO => exact (by (with_reducible repeat (first | apply Kd.R_alloc | apply Kd.R_drewN | apply Kd.R_drew)); exact HO_5.out)); (case aS => exact (below_size (by repeat (first | (with_reducible first | exact HB.out | apply below_alloc | apply pw_below_drewN | apply below_drew1) | exact HB.out)))); (case aL => have := LMc10.out; omega); intro v536 w12 ho hb hg hat; rw [← Ny535.out] at ho; have n0_ := Aside0.mk (Kd.R_over' (by (with_reducible repeat (first | apply Kd.R_alloc | apply Kd.R_drewN | apply Kd.R_drew)); exact HO534.out) (Kd.R_typed (by (with_reducible repeat (first | apply Kd.R_alloc | apply Kd.R_drewN | apply Kd.R_drew)); exact HO_5.out)) (by decide) hg); have n1_ := Aside0.mk (hb); have n2_ := Aside0.mk (ho); clear HO534; clear HB; clear HO_5; have HO534 := n0_; have HB := n1_; have HO537 := n2_; clear n0_ n1_ n2_; clear ho hb hg hat))
                    repeat (go_quiet (first | ((with_reducible refine gate_builtin (b := .append) (xs := #[.tmp 25, .tmp 32]) rfl ?_); (try (refine gate_guard (by rfl) ?_; dsimp only)); at_builtin; refine Kd.R_append k38 (w0 := w) w.heap.size rfl (.tmp 25) (.tmp 32) 22 38 (.agg #[(.int .i64 0), (.int .i64 0)]) 16 rfl Try.underlying22 info38 rfl (by decide) (by omega) u4 x4_2 (⟨x6_2, Int.tmod (wrap64 (x6_2 + 1)) a0⟩ : S38) [.int .i64 x6_2, .int .i64 (Int.tmod (wrap64 (x6_2 + 1)) a0)] (fun _ => True) (fun _ => False) rfl rfl ?aP (fun _ hk => hk.elim) ?aF ?aO ?aB ?aS ?aL ?_; (case aP => exact k38_mkM _ _ _ (⟨x6_2, Int.tmod (wrap64 (x6_2 + 1)) a0⟩ : S38)); (case aB => exact (by repeat (first | (with_reducible first | exact HB.out | apply below_alloc | apply pw_below_drewN | apply below_drew1) | exact HB.out))); (case aF => exact (fun _ _ => trivial)); (case aO => exact (by (with_reducible repeat (first | apply Kd.R_alloc | apply Kd.R_drewN | apply Kd.R_drew)); exact HO_4.out)); (case aS => exact (below_size (by repeat (first | (with_reducible first | exact HB.out | apply below_alloc | apply pw_below_drewN | apply below_drew1) | exact HB.out)))); (case aL => have := LMc9.out; omega); intro v533 w11 ho hb hg hat; rw [← Ny532.out] at ho; have n0_ := Aside0.mk (Kd.R_over' (by (with_reducible repeat (first | apply Kd.R_alloc | apply Kd.R_drewN | apply Kd.R_drew)); exact HO_5.out) (Kd.R_typed (by (with_reducible repeat (first | apply Kd.R_alloc | apply Kd.R_drewN | apply Kd.R_drew)); exact HO_4.out)) (by decide) hg); have n1_ := Aside0.mk (hb); have n2_ := Aside0.mk (ho); clear HO_5; clear HB; clear HO_4; have HO_5 := n0_; have HB := n1_; have HO534 := n2_; clear n0_ n1_ n2_; clear ho hb hg hat) | ((with_reducible refine gate_builtin (b := .append) (xs := #[.tmp 34, .tmp 39]) rfl ?_); (try (refine gate_guard (by rfl) ?_; dsimp only)); at_builtin; refine Kd.R_append k42 (w0 := w) w.heap.size rfl (.tmp 34) (.tmp 39) 33 42 (.agg #[(.int .i64 0), (.int .i64 0)]) 16 rfl Try.underlying33 info42 rfl (by decide) (by omega) u5 x5_2 (⟨x6_2, wrap64 (100 + x6_2)⟩ : S42) [.int .i64 x6_2, .int .i64 (wrap64 (100 + x6_2))] (fun _ => True) (fun _ => False) rfl rfl ?aP (fun _ hk => hk.elim) ?aF ?aO ?aB ?aS ?aL ?_; (case aP => exact k42_mkM _ _ _ (⟨x6_2, wrap64 (100 + x6_2)⟩ : S42)); (case aB => exact (by repeat (first | (with_reducible first | exact HB.out | apply below_alloc | apply pw_below_drewN | apply below_drew1) | exact HB.out))); (case aF => exact (fun _ _ => trivial)); (case aO => exact (by (with_reducible repeat (first | apply Kd.R_alloc | apply Kd.R_drewN | apply Kd.R_drew)); exact HO_5.out)); (case aS => exact (below_size (by repeat (first | (with_reducible first | exact HB.out | apply below_alloc | apply pw_below_drewN | apply below_drew1) | exact HB.out)))); (case aL => have := LMc10.out; omega); intro v536 w12 ho hb hg hat; rw [← Ny535.out] at ho; have n0_ := Aside0.mk (Kd.R_over' (by (with_reducible repeat (first | apply Kd.R_alloc | apply Kd.R_drewN | apply Kd.R_drew)); exact HO534.out) (Kd.R_typed (by (with_reducible repeat (first | apply Kd.R_alloc | apply Kd.R_drewN | apply Kd.R_drew)); exact HO_5.out)) (by decide) hg); have n1_ := Aside0.mk (hb); have n2_ := Aside0.mk (ho); clear HO534; clear HB; clear HO_5; have HO534 := n0_; have HB := n1_; have HO537 := n2_; clear n0_ n1_ n2_; clear ho hb hg hat)); try go_wp2_with (first | ((with_reducible refine gate_builtin (b := .append) (xs := #[.tmp 25, .tmp 32]) rfl ?_); (try (refine gate_guard (by rfl) ?_; dsimp only)); at_builtin; refine Kd.R_append k38 (w0 := w) w.heap.size rfl (.tmp 25) (.tmp 32) 22 38 (.agg #[(.int .i64 0), (.int .i64 0)]) 16 rfl Try.underlying22 info38 rfl (by decide) (by omega) u4 x4_2 (⟨x6_2, Int.tmod (wrap64 (x6_2 + 1)) a0⟩ : S38) [.int .i64 x6_2, .int .i64 (Int.tmod (wrap64 (x6_2 + 1)) a0)] (fun _ => True) (fun _ => False) rfl rfl ?aP (fun _ hk => hk.elim) ?aF ?aO ?aB ?aS ?aL ?_; (case aP => exact k38_mkM _ _ _ (⟨x6_2, Int.tmod (wrap64 (x6_2 + 1)) a0⟩ : S38)); (case aB => exact (by repeat (first | (with_reducible first | exact HB.out | apply below_alloc | apply pw_below_drewN | apply below_drew1) | exact HB.out))); (case aF => exact (fun _ _ => trivial)); (case aO => exact (by (with_reducible repeat (first | apply Kd.R_alloc | apply Kd.R_drewN | apply Kd.R_drew)); exact HO_4.out)); (case aS => exact (below_size (by repeat (first | (with_reducible first | exact HB.out | apply below_alloc | apply pw_below_drewN | apply below_drew1) | exact HB.out)))); (case aL => have := LMc9.out; omega); intro v533 w11 ho hb hg hat; rw [← Ny532.out] at ho; have n0_ := Aside0.mk (Kd.R_over' (by (with_reducible repeat (first | apply Kd.R_alloc | apply Kd.R_drewN | apply Kd.R_drew)); exact HO_5.out) (Kd.R_typed (by (with_reducible repeat (first | apply Kd.R_alloc | apply Kd.R_drewN | apply Kd.R_drew)); exact HO_4.out)) (by decide) hg); have n1_ := Aside0.mk (hb); have n2_ := Aside0.mk (ho); clear HO_5; clear HB; clear HO_4; have HO_5 := n0_; have HB := n1_; have HO534 := n2_; clear n0_ n1_ n2_; clear ho hb hg hat) | ((with_reducible refine gate_builtin (b := .append) (xs := #[.tmp 34, .tmp 39]) rfl ?_); (try (refine gate_guard (by rfl) ?_; dsimp only)); at_builtin; refine Kd.R_append k42 (w0 := w) w.heap.size rfl (.tmp 34) (.tmp 39) 33 42 (.agg #[(.int .i64 0), (.int .i64 0)]) 16 rfl Try.underlying33 info42 rfl (by decide) (by omega) u5 x5_2 (⟨x6_2, wrap64 (100 + x6_2)⟩ : S42) [.int .i64 x6_2, .int .i64 (wrap64 (100 + x6_2))] (fun _ => True) (fun _ => False) rfl rfl ?aP (fun _ hk => hk.elim) ?aF ?aO ?aB ?aS ?aL ?_; (case aP => exact k42_mkM _ _ _ (⟨x6_2, wrap64 (100 + x6_2)⟩ : S42)); (case aB => exact (by repeat (first | (with_reducible first | exact HB.out | apply below_alloc | apply pw_below_drewN | apply below_drew1) | exact HB.out))); (case aF => exact (fun _ _ => trivial)); (case aO => exact (by (with_reducible repeat (first | apply Kd.R_alloc | apply Kd.R_drewN | apply Kd.R_drew)); exact HO_5.out)); (case aS => exact (below_size (by repeat (first | (with_reducible first | exact HB.out | apply below_alloc | apply pw_below_drewN | apply below_drew1) | exact HB.out)))); (case aL => have := LMc10.out; omega); intro v536 w12 ho hb hg hat; rw [← Ny535.out] at ho; have n0_ := Aside0.mk (Kd.R_over' (by (with_reducible repeat (first | apply Kd.R_alloc | apply Kd.R_drewN | apply Kd.R_drew)); exact HO534.out) (Kd.R_typed (by (with_reducible repeat (first | apply Kd.R_alloc | apply Kd.R_drewN | apply Kd.R_drew)); exact HO_5.out)) (by decide) hg); have n1_ := Aside0.mk (hb); have n2_ := Aside0.mk (ho); clear HO534; clear HB; clear HO_5; have HO534 := n0_; have HB := n1_; have HO537 := n2_; clear n0_ n1_ n2_; clear ho hb hg hat)))
                    go_roundg k2
                    case measure => have := HJ2.out; have := HK2.out; omega
                    case rel => exact ⟨(y532), (y535), (wrap64 (x6_2 + 1)), (by first | rfl | (simp; done) | (simp [*]; done)), H', ⟨by have := HJ2.out; have := HK2.out; omega⟩, ⟨by (with_reducible repeat (first | apply Kd.R_alloc | apply Kd.R_drewN | apply Kd.R_drew)); exact HO534.out⟩, ⟨by (with_reducible repeat (first | apply Kd.R_alloc | apply Kd.R_drewN | apply Kd.R_drew)); exact HO537.out⟩, ⟨by repeat (first | (with_reducible first | exact HB.out | apply below_alloc | apply pw_below_drewN | apply below_drew1) | exact HB.out)⟩⟩
                  · rw [if_neg c10] at H
                    exact absurd H (by simp)
                · rw [if_neg c9] at H
                  exact absurd H (by simp)
            · rw [if_neg c7] at H
              have c7b0 : decide (x6_2 < a0) = false := decide_eq_false c7
              clear c7
              replace H := Option.bind_eq_some_iff.mp H
              obtain ⟨⟨t538, t539⟩, A130, H⟩ := H
              replace H : ((moves_Cycles.f x4_2).bind fun t542 => ((moves_OneByOne.f t538 x5_2).bind fun t545 => (if t539 = 0 then (if (t538.length : Int) = (wrap64 (a0 + 1)) then (if (t542.length : Int) = 1 then (if 0 < (t542.length : Int) then (if ((rd_L4 t542 0).length : Int) = a0 then (swagelaw18_MovesRound.j2 k2 a0 t531 t542 t545 ((t545.length : Int) != (wrap64 (a0 + 1)))) else (swagelaw18_MovesRound.j2 k2 a0 t531 t542 t545 true)) else (none)) else (swagelaw18_MovesRound.j2 k2 a0 t531 t542 t545 true)) else (swagelaw18_MovesRound.j2 k2 a0 t531 t542 t545 true)) else (swagelaw18_MovesRound.j2 k2 a0 t531 t542 t545 true)))) = some r := H
              have A13 := Aside0.mk A130
              clear A130
              replace H := Option.bind_eq_some_iff.mp H
              obtain ⟨t542, A140, H⟩ := H
              replace H : ((moves_OneByOne.f t538 x5_2).bind fun t545 => (if t539 = 0 then (if (t538.length : Int) = (wrap64 (a0 + 1)) then (if (t542.length : Int) = 1 then (if 0 < (t542.length : Int) then (if ((rd_L4 t542 0).length : Int) = a0 then (swagelaw18_MovesRound.j2 k2 a0 t531 t542 t545 ((t545.length : Int) != (wrap64 (a0 + 1)))) else (swagelaw18_MovesRound.j2 k2 a0 t531 t542 t545 true)) else (none)) else (swagelaw18_MovesRound.j2 k2 a0 t531 t542 t545 true)) else (swagelaw18_MovesRound.j2 k2 a0 t531 t542 t545 true)) else (swagelaw18_MovesRound.j2 k2 a0 t531 t542 t545 true))) = some r := H
              have A14 := Aside0.mk A140
              clear A140
              replace H := Option.bind_eq_some_iff.mp H
              obtain ⟨t545, A150, H⟩ := H
              replace H : (if t539 = 0 then (if (t538.length : Int) = (wrap64 (a0 + 1)) then (if (t542.length : Int) = 1 then (if 0 < (t542.length : Int) then (if ((rd_L4 t542 0).length : Int) = a0 then (swagelaw18_MovesRound.j2 k2 a0 t531 t542 t545 ((t545.length : Int) != (wrap64 (a0 + 1)))) else (swagelaw18_MovesRound.j2 k2 a0 t531 t542 t545 true)) else (none)) else (swagelaw18_MovesRound.j2 k2 a0 t531 t542 t545 true)) else (swagelaw18_MovesRound.j2 k2 a0 t531 t542 t545 true)) else (swagelaw18_MovesRound.j2 k2 a0 t531 t542 t545 true)) = some r := H
              have A15 := Aside0.mk A150
              clear A150
              have HC16 := Aside0.mk H
              clear H
              obtain ⟨Ao17, co17, eo17⟩ := Kd.R_slice HO_4.out
              subst eo17
              go_upto_region 14 with (first | (go_at_call 9; (with_reducible refine (moves_Order.calls _ _ x4_2 a0 t538 t539 _ ?side1 ?side2 A13.out).mono ?_); (case side1 => repeat (first | exact (Kd.R_reads' HO_4.out).2.2 | (with_reducible refine Kd.C_alloc ?_ _) | (with_reducible refine Kd.C_drewN ?_ _) | (with_reducible refine Kd.C_drew ?_))); (case side2 => exact (Kd.R_reads' HO_4.out).2.1); rintro e w18 ⟨v540, rfl, ho0, hb⟩; have n0_ := Aside0.mk (Kd.R_elder' (by (with_reducible repeat (first | apply Kd.R_alloc | apply Kd.R_drewN | apply Kd.R_drew)); exact HO_4.out) (Kd.R_base ho0) hb); have n1_ := Aside0.mk (Kd.R_below (by (with_reducible repeat (first | apply Kd.R_alloc | apply Kd.R_drewN | apply Kd.R_drew)); exact HO_5.out) hb); have n2_ := Aside0.mk (Kd.R_lower (Kd.R_new' ho0 (Kd.R_lt (by (with_reducible repeat (first | apply Kd.R_alloc | apply Kd.R_drewN | apply Kd.R_drew)); exact HO_4.out))) (below_size (by repeat (first | (with_reducible first | exact HB.out | apply below_alloc | apply pw_below_drewN | apply below_drew1) | exact HB.out)))); have n3_ := Aside0.mk (below_step (by repeat (first | (with_reducible first | exact HB.out | apply below_alloc | apply pw_below_drewN | apply below_drew1) | exact HB.out)) hb); clear HO_4; clear HO_5; clear HB; have HO_4 := n0_; have HO_5 := n1_; have HO541 := n2_; have HB := n3_; clear n0_ n1_ n2_ n3_; (try clear hb); (try clear hb2); (try clear hk); (try clear hi); (try clear ho0)) | (go_at_call 15; (with_reducible refine (moves_Cycles.calls _ _ x4_2 t542 _ ?side1 ?side2 A14.out).mono ?_); (case side1 => repeat (first | exact (Kd.R_reads' HO_4.out).2.2 | (with_reducible refine Kd.C_alloc ?_ _) | (with_reducible refine Kd.C_drewN ?_ _) | (with_reducible refine Kd.C_drew ?_))); (case side2 => exact (Kd.R_reads' HO_4.out).2.1); rintro e w19 ⟨v543, rfl, ho0, hb⟩; have n0_ := Aside0.mk (Kd.R_below (by (with_reducible repeat (first | apply Kd.R_alloc | apply Kd.R_drewN | apply Kd.R_drew)); exact HO_4.out) hb); have n1_ := Aside0.mk (Kd.R_below (by (with_reducible repeat (first | apply Kd.R_alloc | apply Kd.R_drewN | apply Kd.R_drew)); exact HO_5.out) hb); have n2_ := Aside0.mk (Kd.R_below (by (with_reducible repeat (first | apply Kd.R_alloc | apply Kd.R_drewN | apply Kd.R_drew)); exact HO541.out) hb); have n3_ := Aside0.mk (Kd.S_lower ho0 (below_size (by repeat (first | (with_reducible first | exact HB.out | apply below_alloc | apply pw_below_drewN | apply below_drew1) | exact HB.out)))); have n4_ := Aside0.mk (below_step (by repeat (first | (with_reducible first | exact HB.out | apply below_alloc | apply pw_below_drewN | apply below_drew1) | exact HB.out)) hb); clear HO_4; clear HO_5; clear HO541; clear HB; have HO_4 := n0_; have HO_5 := n1_; have HO541 := n2_; have HO544 := n3_; have HB := n4_; clear n0_ n1_ n2_ n3_ n4_; (try clear hb); (try clear hb2); (try clear hk); (try clear hi); (try clear ho0); obtain ⟨Ao20, co20, eo20⟩ := Kd.R_slice HO541.out; subst eo20; obtain ⟨Ao21, co21, eo21⟩ := Kd.R_slice HO_5.out; subst eo21) | (go_at_call 20; (with_reducible refine (moves_OneByOne.calls _ _ t538 _ _ x5_2 t545 _ ?side1 ?side2 ?side3 ?side4 A15.out).mono ?_); (case side1 => repeat (first | exact (Kd.R_reads' HO541.out).2.2 | (with_reducible refine Kd.C_alloc ?_ _) | (with_reducible refine Kd.C_drewN ?_ _) | (with_reducible refine Kd.C_drew ?_))); (case side2 => exact (Kd.R_reads' HO541.out).2.1); (case side3 => repeat (first | exact (Kd.R_reads' HO_5.out).2.2 | (with_reducible refine Kd.C_alloc ?_ _) | (with_reducible refine Kd.C_drewN ?_ _) | (with_reducible refine Kd.C_drew ?_))); (case side4 => exact (Kd.R_reads' HO_5.out).2.1); rintro e w22 ⟨v546, rfl, ho0, hb⟩; have n0_ := Aside0.mk (Kd.R_below (by (with_reducible repeat (first | apply Kd.R_alloc | apply Kd.R_drewN | apply Kd.R_drew)); exact HO_4.out) hb); have n1_ := Aside0.mk (Kd.R_elder' (by (with_reducible repeat (first | apply Kd.R_alloc | apply Kd.R_drewN | apply Kd.R_drew)); exact HO_5.out) (Kd.R_base ho0) hb); have n2_ := Aside0.mk (Kd.R_below (by (with_reducible repeat (first | apply Kd.R_alloc | apply Kd.R_drewN | apply Kd.R_drew)); exact HO541.out) hb); have n3_ := Aside0.mk (Kd.S_below (by (with_reducible repeat (first | apply Kd.S_alloc | apply Kd.S_drewN | apply Kd.S_drew)); exact HO544.out) hb); have n4_ := Aside0.mk (Kd.R_lower (Kd.R_new' ho0 (Kd.R_lt (by (with_reducible repeat (first | apply Kd.R_alloc | apply Kd.R_drewN | apply Kd.R_drew)); exact HO_5.out))) (below_size (by repeat (first | (with_reducible first | exact HB.out | apply below_alloc | apply pw_below_drewN | apply below_drew1) | exact HB.out)))); have n5_ := Aside0.mk (below_step (by repeat (first | (with_reducible first | exact HB.out | apply below_alloc | apply pw_below_drewN | apply below_drew1) | exact HB.out)) hb); clear HO_4; clear HO_5; clear HO541; clear HO544; clear HB; have HO_4 := n0_; have HO_5 := n1_; have HO541 := n2_; have HO544 := n3_; have HO547 := n4_; have HB := n5_; clear n0_ n1_ n2_ n3_ n4_ n5_; (try clear hb); (try clear hb2); (try clear hk); (try clear hi); (try clear ho0)))
              repeat (go_quiet (first | (go_at_call 9; (with_reducible refine (moves_Order.calls _ _ x4_2 a0 t538 t539 _ ?side1 ?side2 A13.out).mono ?_); (case side1 => repeat (first | exact (Kd.R_reads' HO_4.out).2.2 | (with_reducible refine Kd.C_alloc ?_ _) | (with_reducible refine Kd.C_drewN ?_ _) | (with_reducible refine Kd.C_drew ?_))); (case side2 => exact (Kd.R_reads' HO_4.out).2.1); rintro e w18 ⟨v540, rfl, ho0, hb⟩; have n0_ := Aside0.mk (Kd.R_elder' (by (with_reducible repeat (first | apply Kd.R_alloc | apply Kd.R_drewN | apply Kd.R_drew)); exact HO_4.out) (Kd.R_base ho0) hb); have n1_ := Aside0.mk (Kd.R_below (by (with_reducible repeat (first | apply Kd.R_alloc | apply Kd.R_drewN | apply Kd.R_drew)); exact HO_5.out) hb); have n2_ := Aside0.mk (Kd.R_lower (Kd.R_new' ho0 (Kd.R_lt (by (with_reducible repeat (first | apply Kd.R_alloc | apply Kd.R_drewN | apply Kd.R_drew)); exact HO_4.out))) (below_size (by repeat (first | (with_reducible first | exact HB.out | apply below_alloc | apply pw_below_drewN | apply below_drew1) | exact HB.out)))); have n3_ := Aside0.mk (below_step (by repeat (first | (with_reducible first | exact HB.out | apply below_alloc | apply pw_below_drewN | apply below_drew1) | exact HB.out)) hb); clear HO_4; clear HO_5; clear HB; have HO_4 := n0_; have HO_5 := n1_; have HO541 := n2_; have HB := n3_; clear n0_ n1_ n2_ n3_; (try clear hb); (try clear hb2); (try clear hk); (try clear hi); (try clear ho0)) | (go_at_call 15; (with_reducible refine (moves_Cycles.calls _ _ x4_2 t542 _ ?side1 ?side2 A14.out).mono ?_); (case side1 => repeat (first | exact (Kd.R_reads' HO_4.out).2.2 | (with_reducible refine Kd.C_alloc ?_ _) | (with_reducible refine Kd.C_drewN ?_ _) | (with_reducible refine Kd.C_drew ?_))); (case side2 => exact (Kd.R_reads' HO_4.out).2.1); rintro e w19 ⟨v543, rfl, ho0, hb⟩; have n0_ := Aside0.mk (Kd.R_below (by (with_reducible repeat (first | apply Kd.R_alloc | apply Kd.R_drewN | apply Kd.R_drew)); exact HO_4.out) hb); have n1_ := Aside0.mk (Kd.R_below (by (with_reducible repeat (first | apply Kd.R_alloc | apply Kd.R_drewN | apply Kd.R_drew)); exact HO_5.out) hb); have n2_ := Aside0.mk (Kd.R_below (by (with_reducible repeat (first | apply Kd.R_alloc | apply Kd.R_drewN | apply Kd.R_drew)); exact HO541.out) hb); have n3_ := Aside0.mk (Kd.S_lower ho0 (below_size (by repeat (first | (with_reducible first | exact HB.out | apply below_alloc | apply pw_below_drewN | apply below_drew1) | exact HB.out)))); have n4_ := Aside0.mk (below_step (by repeat (first | (with_reducible first | exact HB.out | apply below_alloc | apply pw_below_drewN | apply below_drew1) | exact HB.out)) hb); clear HO_4; clear HO_5; clear HO541; clear HB; have HO_4 := n0_; have HO_5 := n1_; have HO541 := n2_; have HO544 := n3_; have HB := n4_; clear n0_ n1_ n2_ n3_ n4_; (try clear hb); (try clear hb2); (try clear hk); (try clear hi); (try clear ho0); obtain ⟨Ao20, co20, eo20⟩ := Kd.R_slice HO541.out; subst eo20; obtain ⟨Ao21, co21, eo21⟩ := Kd.R_slice HO_5.out; subst eo21) | (go_at_call 20; (with_reducible refine (moves_OneByOne.calls _ _ t538 _ _ x5_2 t545 _ ?side1 ?side2 ?side3 ?side4 A15.out).mono ?_); (case side1 => repeat (first | exact (Kd.R_reads' HO541.out).2.2 | (with_reducible refine Kd.C_alloc ?_ _) | (with_reducible refine Kd.C_drewN ?_ _) | (with_reducible refine Kd.C_drew ?_))); (case side2 => exact (Kd.R_reads' HO541.out).2.1); (case side3 => repeat (first | exact (Kd.R_reads' HO_5.out).2.2 | (with_reducible refine Kd.C_alloc ?_ _) | (with_reducible refine Kd.C_drewN ?_ _) | (with_reducible refine Kd.C_drew ?_))); (case side4 => exact (Kd.R_reads' HO_5.out).2.1); rintro e w22 ⟨v546, rfl, ho0, hb⟩; have n0_ := Aside0.mk (Kd.R_below (by (with_reducible repeat (first | apply Kd.R_alloc | apply Kd.R_drewN | apply Kd.R_drew)); exact HO_4.out) hb); have n1_ := Aside0.mk (Kd.R_elder' (by (with_reducible repeat (first | apply Kd.R_alloc | apply Kd.R_drewN | apply Kd.R_drew)); exact HO_5.out) (Kd.R_base ho0) hb); have n2_ := Aside0.mk (Kd.R_below (by (with_reducible repeat (first | apply Kd.R_alloc | apply Kd.R_drewN | apply Kd.R_drew)); exact HO541.out) hb); have n3_ := Aside0.mk (Kd.S_below (by (with_reducible repeat (first | apply Kd.S_alloc | apply Kd.S_drewN | apply Kd.S_drew)); exact HO544.out) hb); have n4_ := Aside0.mk (Kd.R_lower (Kd.R_new' ho0 (Kd.R_lt (by (with_reducible repeat (first | apply Kd.R_alloc | apply Kd.R_drewN | apply Kd.R_drew)); exact HO_5.out))) (below_size (by repeat (first | (with_reducible first | exact HB.out | apply below_alloc | apply pw_below_drewN | apply below_drew1) | exact HB.out)))); have n5_ := Aside0.mk (below_step (by repeat (first | (with_reducible first | exact HB.out | apply below_alloc | apply pw_below_drewN | apply below_drew1) | exact HB.out)) hb); clear HO_4; clear HO_5; clear HO541; clear HO544; clear HB; have HO_4 := n0_; have HO_5 := n1_; have HO541 := n2_; have HO544 := n3_; have HO547 := n4_; have HB := n5_; clear n0_ n1_ n2_ n3_ n4_ n5_; (try clear hb); (try clear hb2); (try clear hk); (try clear hi); (try clear ho0))); go_upto_region 14 with (first | (go_at_call 9; (with_reducible refine (moves_Order.calls _ _ x4_2 a0 t538 t539 _ ?side1 ?side2 A13.out).mono ?_); (case side1 => repeat (first | exact (Kd.R_reads' HO_4.out).2.2 | (with_reducible refine Kd.C_alloc ?_ _) | (with_reducible refine Kd.C_drewN ?_ _) | (with_reducible refine Kd.C_drew ?_))); (case side2 => exact (Kd.R_reads' HO_4.out).2.1); rintro e w18 ⟨v540, rfl, ho0, hb⟩; have n0_ := Aside0.mk (Kd.R_elder' (by (with_reducible repeat (first | apply Kd.R_alloc | apply Kd.R_drewN | apply Kd.R_drew)); exact HO_4.out) (Kd.R_base ho0) hb); have n1_ := Aside0.mk (Kd.R_below (by (with_reducible repeat (first | apply Kd.R_alloc | apply Kd.R_drewN | apply Kd.R_drew)); exact HO_5.out) hb); have n2_ := Aside0.mk (Kd.R_lower (Kd.R_new' ho0 (Kd.R_lt (by (with_reducible repeat (first | apply Kd.R_alloc | apply Kd.R_drewN | apply Kd.R_drew)); exact HO_4.out))) (below_size (by repeat (first | (with_reducible first | exact HB.out | apply below_alloc | apply pw_below_drewN | apply below_drew1) | exact HB.out)))); have n3_ := Aside0.mk (below_step (by repeat (first | (with_reducible first | exact HB.out | apply below_alloc | apply pw_below_drewN | apply below_drew1) | exact HB.out)) hb); clear HO_4; clear HO_5; clear HB; have HO_4 := n0_; have HO_5 := n1_; have HO541 := n2_; have HB := n3_; clear n0_ n1_ n2_ n3_; (try clear hb); (try clear hb2); (try clear hk); (try clear hi); (try clear ho0)) | (go_at_call 15; (with_reducible refine (moves_Cycles.calls _ _ x4_2 t542 _ ?side1 ?side2 A14.out).mono ?_); (case side1 => repeat (first | exact (Kd.R_reads' HO_4.out).2.2 | (with_reducible refine Kd.C_alloc ?_ _) | (with_reducible refine Kd.C_drewN ?_ _) | (with_reducible refine Kd.C_drew ?_))); (case side2 => exact (Kd.R_reads' HO_4.out).2.1); rintro e w19 ⟨v543, rfl, ho0, hb⟩; have n0_ := Aside0.mk (Kd.R_below (by (with_reducible repeat (first | apply Kd.R_alloc | apply Kd.R_drewN | apply Kd.R_drew)); exact HO_4.out) hb); have n1_ := Aside0.mk (Kd.R_below (by (with_reducible repeat (first | apply Kd.R_alloc | apply Kd.R_drewN | apply Kd.R_drew)); exact HO_5.out) hb); have n2_ := Aside0.mk (Kd.R_below (by (with_reducible repeat (first | apply Kd.R_alloc | apply Kd.R_drewN | apply Kd.R_drew)); exact HO541.out) hb); have n3_ := Aside0.mk (Kd.S_lower ho0 (below_size (by repeat (first | (with_reducible first | exact HB.out | apply below_alloc | apply pw_below_drewN | apply below_drew1) | exact HB.out)))); have n4_ := Aside0.mk (below_step (by repeat (first | (with_reducible first | exact HB.out | apply below_alloc | apply pw_below_drewN | apply below_drew1) | exact HB.out)) hb); clear HO_4; clear HO_5; clear HO541; clear HB; have HO_4 := n0_; have HO_5 := n1_; have HO541 := n2_; have HO544 := n3_; have HB := n4_; clear n0_ n1_ n2_ n3_ n4_; (try clear hb); (try clear hb2); (try clear hk); (try clear hi); (try clear ho0); obtain ⟨Ao20, co20, eo20⟩ := Kd.R_slice HO541.out; subst eo20; obtain ⟨Ao21, co21, eo21⟩ := Kd.R_slice HO_5.out; subst eo21) | (go_at_call 20; (with_reducible refine (moves_OneByOne.calls _ _ t538 _ _ x5_2 t545 _ ?side1 ?side2 ?side3 ?side4 A15.out).mono ?_); (case side1 => repeat (first | exact (Kd.R_reads' HO541.out).2.2 | (with_reducible refine Kd.C_alloc ?_ _) | (with_reducible refine Kd.C_drewN ?_ _) | (with_reducible refine Kd.C_drew ?_))); (case side2 => exact (Kd.R_reads' HO541.out).2.1); (case side3 => repeat (first | exact (Kd.R_reads' HO_5.out).2.2 | (with_reducible refine Kd.C_alloc ?_ _) | (with_reducible refine Kd.C_drewN ?_ _) | (with_reducible refine Kd.C_drew ?_))); (case side4 => exact (Kd.R_reads' HO_5.out).2.1); rintro e w22 ⟨v546, rfl, ho0, hb⟩; have n0_ := Aside0.mk (Kd.R_below (by (with_reducible repeat (first | apply Kd.R_alloc | apply Kd.R_drewN | apply Kd.R_drew)); exact HO_4.out) hb); have n1_ := Aside0.mk (Kd.R_elder' (by (with_reducible repeat (first | apply Kd.R_alloc | apply Kd.R_drewN | apply Kd.R_drew)); exact HO_5.out) (Kd.R_base ho0) hb); have n2_ := Aside0.mk (Kd.R_below (by (with_reducible repeat (first | apply Kd.R_alloc | apply Kd.R_drewN | apply Kd.R_drew)); exact HO541.out) hb); have n3_ := Aside0.mk (Kd.S_below (by (with_reducible repeat (first | apply Kd.S_alloc | apply Kd.S_drewN | apply Kd.S_drew)); exact HO544.out) hb); have n4_ := Aside0.mk (Kd.R_lower (Kd.R_new' ho0 (Kd.R_lt (by (with_reducible repeat (first | apply Kd.R_alloc | apply Kd.R_drewN | apply Kd.R_drew)); exact HO_5.out))) (below_size (by repeat (first | (with_reducible first | exact HB.out | apply below_alloc | apply pw_below_drewN | apply below_drew1) | exact HB.out)))); have n5_ := Aside0.mk (below_step (by repeat (first | (with_reducible first | exact HB.out | apply below_alloc | apply pw_below_drewN | apply below_drew1) | exact HB.out)) hb); clear HO_4; clear HO_5; clear HO541; clear HO544; clear HB; have HO_4 := n0_; have HO_5 := n1_; have HO541 := n2_; have HO544 := n3_; have HO547 := n4_; have HB := n5_; clear n0_ n1_ n2_ n3_ n4_ n5_; (try clear hb); (try clear hb2); (try clear hk); (try clear hi); (try clear ho0))))
              (try simp only [Act.put, List.setIfInBounds_toArray, List.set_cons_zero, List.set_cons_succ])
              go_cut [80] (fun v80 wc => ∃ (kq : Nat) (x80_15 : Bool), v80 = .bool x80_15 ∧ Aside0 (swagelaw18_MovesRound.j2 kq a0 t531 t542 t545 x80_15 = some r) ∧ Aside0 (kq ≤ k2) ∧ Aside0 (Kd.S (Kd.slice 3 (Kd.int .i64)) 43 wc w.heap.size (fun _ => True) v543 t542) ∧ Aside0 (Kd.R k42 42 wc w.heap.size (fun _ => True) v546 t545) ∧ Aside0 (Below w.heap.size w wc))
              case first =>
                have H := HC16.out
                clear HC16
                by_cases c23 : t539 = 0
                · rw [if_pos c23] at H
                  have c23b0 : (t539 == 0) = true := beq_iff_eq.mpr c23
                  have c23b1 : (t539 != 0) = false := bne_eq_false_iff_eq.mpr c23
                  clear c23
                  (first | rw [c23b0] | (simp only [i64_w, i32_w]; rw [c23b0]) | skip)
                  by_cases c24 : (t538.length : Int) = (wrap64 (a0 + 1))
                  · rw [if_pos c24] at H
                    have c24b0 : ((t538.length : Int) == (wrap64 (a0 + 1))) = true := beq_iff_eq.mpr c24
                    have c24b1 : ((t538.length : Int) != (wrap64 (a0 + 1))) = false := bne_eq_false_iff_eq.mpr c24
                    clear c24
                    by_cases c25 : (t542.length : Int) = 1
                    · rw [if_pos c25] at H
                      have c25b0 : ((t542.length : Int) == 1) = true := beq_iff_eq.mpr c25
                      have c25b1 : ((t542.length : Int) != 1) = false := bne_eq_false_iff_eq.mpr c25
                      clear c25
                      by_cases c26 : 0 < (t542.length : Int)
                      · rw [if_pos c26] at H
                        have c26b0 : decide (0 < (t542.length : Int)) = true := decide_eq_true c26
                        have c26b1 : decide (0 < t542.length) = true := decide_eq_true (by omega)
                        clear c26
                        by_cases c27 : ((rd_L4 t542 0).length : Int) = a0
                        · rw [if_pos c27] at H
                          have c27b0 : (((rd_L4 t542 0).length : Int) == a0) = true := beq_iff_eq.mpr c27
                          have c27b1 : (((rd_L4 t542 0).length : Int) != a0) = false := bne_eq_false_iff_eq.mpr c27
                          clear c27
                          have H' := Aside0.mk H
                          clear H
                          obtain ⟨Ao28, co28, eo28⟩ := Kd.S_slice HO544.out
                          subst eo28
                          have p548 : 0 ≤ (0 : Int) := (by omega)
                          have q548 : 0 < (t542.length : Int) := of_decide_eq_true (by first | (with_reducible assumption) | assumption)
                          obtain ⟨ad548, A548_0, c548_0, e548, hx548_0, hl548_0, hi548_0⟩ := at_L4 (Kd.S_reads' HO544.out).2.2 0 p548 q548
                          cases e548
                          obtain ⟨ce548, hce548, hMe548, hcc548⟩ := Kd.S_get HO544.out [] 0 p548 (by first | exact q548 | exact of_decide_eq_true (by first | (with_reducible assumption) | assumption) | (have e_ := (Kd.S_reads' HO544.out).1; omega))
                          obtain ⟨ve548_0, rfl, ge548_0⟩ := hMe548
                          have hv548_0 := hcc548 0 _ rfl
                          rw [Nat.add_zero, show ((Kd.slice 3 (Kd.int .i64))).sz = 1 from rfl, Nat.mul_one] at hv548_0
                          replace hv548_0 := Option.some.inj (hv548_0.symm.trans hx548_0)
                          rw [hv548_0] at ge548_0
                          have HL548_0 := Aside0.mk (show Kd.R (Kd.int .i64) 3 _ _ _ _ (rd_L4 t542 0) from ge548_0)
                          clear hv548_0 ge548_0
                          clear hcc548 hce548
                          have qi548 : (0 < t542.length) = True := eq_true (by omega)
                          (try rw [show ((0 : Int)).toNat = 0 from rfl] at hx548_0)
                          (try rw [Addr.add_zero'] at hx548_0)
                          have HR548_0 := Aside0.mk hi548_0
                          have HC548_0 := Aside0.mk hl548_0
                          clear hi548_0 hl548_0
                          replace p548 := eq_true p548
                          replace q548 := eq_true q548
                          obtain ⟨Ao29, co29, eo29⟩ := Kd.R_slice HO547.out
                          subst eo29
                          go_wp2
                          repeat (go_quiet (fail); try go_wp2)
                          go_meet
                          case rel => exact ⟨_, (((t545.length : Int) != (wrap64 (a0 + 1)))), (by first | rfl | (simp; done) | (simp [*]; done)), H', ⟨by have := HJ2.out; have := HK2.out; first | omega | exact Nat.le_refl _⟩, ⟨by (with_reducible repeat (first | apply Kd.S_alloc | apply Kd.S_drewN | apply Kd.S_drew)); exact HO544.out⟩, ⟨by (with_reducible repeat (first | apply Kd.R_alloc | apply Kd.R_drewN | apply Kd.R_drew)); exact Kd.R_mono HO547.out (fun _ hk => trivial)⟩, ⟨by repeat (first | (with_reducible first | exact HB.out | apply below_alloc | apply pw_below_drewN | apply below_drew1) | exact HB.out)⟩⟩
                        · rw [if_neg c27] at H
                          have c27b0 : (((rd_L4 t542 0).length : Int) == a0) = false := beq_eq_false_iff_ne.mpr c27
                          have c27b1 : (((rd_L4 t542 0).length : Int) != a0) = true := bne_iff_ne.mpr c27
                          have H' := Aside0.mk H
                          clear H
                          obtain ⟨Ao30, co30, eo30⟩ := Kd.S_slice HO544.out
                          subst eo30
                          have p548 : 0 ≤ (0 : Int) := (by omega)
                          have q548 : 0 < (t542.length : Int) := of_decide_eq_true (by first | (with_reducible assumption) | assumption)
                          obtain ⟨ad548, A548_0, c548_0, e548, hx548_0, hl548_0, hi548_0⟩ := at_L4 (Kd.S_reads' HO544.out).2.2 0 p548 q548
                          cases e548
                          obtain ⟨ce548, hce548, hMe548, hcc548⟩ := Kd.S_get HO544.out [] 0 p548 (by first | exact q548 | exact of_decide_eq_true (by first | (with_reducible assumption) | assumption) | (have e_ := (Kd.S_reads' HO544.out).1; omega))
                          obtain ⟨ve548_0, rfl, ge548_0⟩ := hMe548
                          have hv548_0 := hcc548 0 _ rfl
                          rw [Nat.add_zero, show ((Kd.slice 3 (Kd.int .i64))).sz = 1 from rfl, Nat.mul_one] at hv548_0
                          replace hv548_0 := Option.some.inj (hv548_0.symm.trans hx548_0)
                          rw [hv548_0] at ge548_0
                          have HL548_0 := Aside0.mk (show Kd.R (Kd.int .i64) 3 _ _ _ _ (rd_L4 t542 0) from ge548_0)
                          clear hv548_0 ge548_0
                          clear hcc548 hce548
                          have qi548 : (0 < t542.length) = True := eq_true (by omega)
                          (try rw [show ((0 : Int)).toNat = 0 from rfl] at hx548_0)
                          (try rw [Addr.add_zero'] at hx548_0)
                          have HR548_0 := Aside0.mk hi548_0
                          have HC548_0 := Aside0.mk hl548_0
                          clear hi548_0 hl548_0
                          replace p548 := eq_true p548
                          replace q548 := eq_true q548
                          go_wp2
                          repeat (go_quiet (fail); try go_wp2)
                          go_meet
                          case rel => exact ⟨_, (true), (by first | rfl | (simp; done) | (simp [*]; done)), H', ⟨by have := HJ2.out; have := HK2.out; first | omega | exact Nat.le_refl _⟩, ⟨by (with_reducible repeat (first | apply Kd.S_alloc | apply Kd.S_drewN | apply Kd.S_drew)); exact HO544.out⟩, ⟨by (with_reducible repeat (first | apply Kd.R_alloc | apply Kd.R_drewN | apply Kd.R_drew)); exact Kd.R_mono HO547.out (fun _ hk => trivial)⟩, ⟨by repeat (first | (with_reducible first | exact HB.out | apply below_alloc | apply pw_below_drewN | apply below_drew1) | exact HB.out)⟩⟩
                      · rw [if_neg c26] at H
                        exact absurd H (by simp)
                    · rw [if_neg c25] at H
                      have c25b0 : ((t542.length : Int) == 1) = false := beq_eq_false_iff_ne.mpr c25
                      have c25b1 : ((t542.length : Int) != 1) = true := bne_iff_ne.mpr c25
                      have H' := Aside0.mk H
                      clear H
                      obtain ⟨Ao31, co31, eo31⟩ := Kd.S_slice HO544.out
                      subst eo31
                      go_wp2
                      repeat (go_quiet (fail); try go_wp2)
                      go_meet
                      case rel => exact ⟨_, (true), (by first | rfl | (simp; done) | (simp [*]; done)), H', ⟨by have := HJ2.out; have := HK2.out; first | omega | exact Nat.le_refl _⟩, ⟨by (with_reducible repeat (first | apply Kd.S_alloc | apply Kd.S_drewN | apply Kd.S_drew)); exact HO544.out⟩, ⟨by (with_reducible repeat (first | apply Kd.R_alloc | apply Kd.R_drewN | apply Kd.R_drew)); exact Kd.R_mono HO547.out (fun _ hk => trivial)⟩, ⟨by repeat (first | (with_reducible first | exact HB.out | apply below_alloc | apply pw_below_drewN | apply below_drew1) | exact HB.out)⟩⟩
                  · rw [if_neg c24] at H
                    have c24b0 : ((t538.length : Int) == (wrap64 (a0 + 1))) = false := beq_eq_false_iff_ne.mpr c24
                    have c24b1 : ((t538.length : Int) != (wrap64 (a0 + 1))) = true := bne_iff_ne.mpr c24
                    have H' := Aside0.mk H
                    clear H
                    go_wp2
                    repeat (go_quiet (fail); try go_wp2)
                    go_meet
                    case rel => exact ⟨_, (true), (by first | rfl | (simp; done) | (simp [*]; done)), H', ⟨by have := HJ2.out; have := HK2.out; first | omega | exact Nat.le_refl _⟩, ⟨by (with_reducible repeat (first | apply Kd.S_alloc | apply Kd.S_drewN | apply Kd.S_drew)); exact HO544.out⟩, ⟨by (with_reducible repeat (first | apply Kd.R_alloc | apply Kd.R_drewN | apply Kd.R_drew)); exact Kd.R_mono HO547.out (fun _ hk => trivial)⟩, ⟨by repeat (first | (with_reducible first | exact HB.out | apply below_alloc | apply pw_below_drewN | apply below_drew1) | exact HB.out)⟩⟩
                · rw [if_neg c23] at H
                  have c23b0 : (t539 == 0) = false := beq_eq_false_iff_ne.mpr c23
                  have c23b1 : (t539 != 0) = true := bne_iff_ne.mpr c23
                  (first | rw [c23b0] | (simp only [i64_w, i32_w]; rw [c23b0]) | skip)
                  have H' := Aside0.mk H
                  clear H
                  go_wp2
                  repeat (go_quiet (fail); try go_wp2)
                  go_meet
                  case rel => exact ⟨_, (true), (by first | rfl | (simp; done) | (simp [*]; done)), H', ⟨by have := HJ2.out; have := HK2.out; first | omega | exact Nat.le_refl _⟩, ⟨by (with_reducible repeat (first | apply Kd.S_alloc | apply Kd.S_drewN | apply Kd.S_drew)); exact HO544.out⟩, ⟨by (with_reducible repeat (first | apply Kd.R_alloc | apply Kd.R_drewN | apply Kd.R_drew)); exact Kd.R_mono HO547.out (fun _ hk => trivial)⟩, ⟨by repeat (first | (with_reducible first | exact HB.out | apply below_alloc | apply pw_below_drewN | apply below_drew1) | exact HB.out)⟩⟩
              case rest =>
                clear HC16
                try clear c1
                try clear c2
                try clear p2
                try clear c5
                try clear c5b0
                try clear p5
                try clear q5
                try clear hx5
                try clear qi5
                try clear c6
                try clear p6
                try clear c7
                try clear c7b0
                try clear c8
                try clear c8b0
                try clear c8b1
                try clear c9
                try clear c10
                try clear c23
                try clear c23b0
                try clear c23b1
                try clear c24
                try clear c24b0
                try clear c24b1
                try clear c25
                try clear c25b0
                try clear c25b1
                try clear c26
                try clear c26b0
                try clear c26b1
                try clear c27
                try clear c27b0
                try clear c27b1
                try clear hx548_0
                try clear p2
                try clear p548
                try clear q548
                obtain ⟨kq, x80_15, rfl, HA, HJ15, HO_9, HO_10, HB⟩ := hcut
                cases kq with
                | zero => exact absurd HA.out (by simp [swagelaw18_MovesRound.j2])
                | succ kj15 =>
                  have H := HA.out
                  clear HA
                  simp only [swagelaw18_MovesRound.j2] at H
                  by_cases c32 : x80_15 = true
                  · subst c32
                    have H1 : (some false) = some r := by rw [if_pos rfl] at H; exact H
                    clear H
                    have H := H1
                    clear H1
                    obtain rfl := Option.some.inj H
                    go_wp2
                    repeat (go_quiet (fail); try go_wp2)
                    go_ret
                    exact ⟨by first | rfl | (simp [errW_none, errW_some] <;> rfl) | (simp [*, errW_none, errW_some] <;> rfl), by repeat (first | (with_reducible first | exact HB.out | apply below_alloc | apply pw_below_drewN | apply below_drew1) | exact HB.out)⟩
                  · replace c32 := Bool.eq_false_iff.mpr c32
                    subst c32
                    have H1 : (swagelaw18_MovesRound.l1 kj15 a0 t531 t542 t545 0) = some r := by rw [if_neg (show ¬ (false = true) by decide)] at H; exact H
                    clear H
                    have H := H1
                    clear H1
                    have H' := Aside0.mk H
                    clear H
                    go_wp2
                    repeat (go_quiet (fail); try go_wp2)
                    go_loopg [11] kj15 (fun kq v11 w' => ∃ (x11_4 : Int), v11 = .int .i64 x11_4 ∧ Aside0 (swagelaw18_MovesRound.l1 kq a0 t531 t542 t545 x11_4 = some r) ∧ Aside0 (kq ≤ kj15) ∧ Aside0 (Kd.S (Kd.slice 3 (Kd.int .i64)) 43 w' w.heap.size (fun _ => True) v543 t542) ∧ Aside0 (Kd.R k42 42 w' w.heap.size (fun _ => True) v546 t545) ∧ Aside0 (Below w.heap.size w w'))
                    case atStart => exact ⟨(0), (by first | rfl | (simp; done) | (simp [*]; done)), H', ⟨Nat.le_refl _⟩, ⟨by (with_reducible repeat (first | apply Kd.S_alloc | apply Kd.S_drewN | apply Kd.S_drew)); exact HO_9.out⟩, ⟨by (with_reducible repeat (first | apply Kd.R_alloc | apply Kd.R_drewN | apply Kd.R_drew)); exact HO_10.out⟩, ⟨by repeat (first | (with_reducible first | exact HB.out | apply below_alloc | apply pw_below_drewN | apply below_drew1) | exact HB.out)⟩⟩
                    case round =>
                      clear H'
                      try clear c1
                      try clear c2
                      try clear p2
                      try clear c3
                      try clear c5
                      try clear c5b0
                      try clear p5
                      try clear q5
                      try clear hx5
                      try clear qi5
                      try clear c6
                      try clear p6
                      try clear c7
                      try clear c7b0
                      try clear c8
                      try clear c8b0
                      try clear c8b1
                      try clear c9
                      try clear c10
                      try clear c23
                      try clear c23b0
                      try clear c23b1
                      try clear c24
                      try clear c24b0
                      try clear c24b1
                      try clear c25
                      try clear c25b0
                      try clear c25b1
                      try clear c26
                      try clear c26b0
                      try clear c26b1
                      try clear c27
                      try clear c27b0
                      try clear c27b1
                      try clear c32
                      try clear hx548_0
                      try clear p2
                      try clear p5
                      try clear p548
                      try clear p6
                      try clear q5
                      try clear q548
                      obtain ⟨x11_4, rfl, HA, HK4, HO_9, HO_10, HB⟩ := hrel
                      cases gk with
                      | zero => exact absurd HA.out (by simp [swagelaw18_MovesRound.l1])
                      | succ k4 =>
                        have H := HA.out
                        clear HA
                        simp only [swagelaw18_MovesRound.l1] at H
                        by_cases c33 : x11_4 < a0
                        · rw [if_pos c33] at H
                          have c33b0 : decide (x11_4 < a0) = true := decide_eq_true c33
                          clear c33
                          by_cases c34 : 0 ≤ x11_4
                          · rw [if_pos c34] at H
                            have c34b0 : decide (0 ≤ x11_4) = true := decide_eq_true c34
                            clear c34
                            by_cases c35 : x11_4 < (t545.length : Int)
                            · rw [if_pos c35] at H
                              have c35b0 : decide (x11_4 < (t545.length : Int)) = true := decide_eq_true c35
                              clear c35
                              by_cases c36 : a0 = 0
                              · rw [if_pos c36] at H
                                exact absurd H (by simp)
                              · rw [if_neg c36] at H
                                have c36b0 : (a0 == 0) = false := beq_eq_false_iff_ne.mpr c36
                                have c36b1 : (a0 != 0) = true := bne_iff_ne.mpr c36
                                by_cases c37 : (!(((rd_T42 t545 x11_4).f0) == x11_4) || (!(((rd_T42 t545 x11_4).f1) == (wrap64 (100 + (Int.tmod (wrap64 (x11_4 + 1)) a0)))))) = true
                                · rw [if_pos c37] at H
                                  have c37b0 : (!(((rd_T42 t545 x11_4).f0) == x11_4) || (!(((rd_T42 t545 x11_4).f1) == (wrap64 (100 + (Int.tmod (wrap64 (x11_4 + 1)) a0)))))) = true := c37
                                  clear c37
                                  obtain rfl := Option.some.inj H
                                  obtain ⟨Ao38, co38, eo38⟩ := Kd.R_slice HO_10.out
                                  subst eo38
                                  have p549 : 0 ≤ (x11_4 : Int) := of_decide_eq_true (by first | (with_reducible assumption) | assumption)
                                  have q549 : x11_4 < (t545.length : Int) := of_decide_eq_true (by first | (with_reducible assumption) | assumption)
                                  obtain ⟨ad549, e549, hx549_0, hx549_1⟩ := at_T42 (Kd.R_reads' HO_10.out).2.2 x11_4 p549 q549
                                  cases e549
                                  replace p549 := eq_true p549
                                  replace q549 := eq_true q549
                                  go_wp2
                                  repeat (go_quiet (fail); try go_wp2)
                                  go_ret
                                  exact ⟨by first | rfl | (simp [errW_none, errW_some] <;> rfl) | (simp [*, errW_none, errW_some] <;> rfl), by repeat (first | (with_reducible first | exact HB.out | apply below_alloc | apply pw_below_drewN | apply below_drew1) | exact HB.out)⟩
                                · rw [if_neg c37] at H
                                  have c37b0 : (!(((rd_T42 t545 x11_4).f0) == x11_4) || (!(((rd_T42 t545 x11_4).f1) == (wrap64 (100 + (Int.tmod (wrap64 (x11_4 + 1)) a0)))))) = false := by simpa using c37
                                  clear c37
                                  have H' := Aside0.mk H
                                  clear H
                                  obtain ⟨Ao39, co39, eo39⟩ := Kd.R_slice HO_10.out
                                  subst eo39
                                  have p549 : 0 ≤ (x11_4 : Int) := of_decide_eq_true (by first | (with_reducible assumption) | assumption)
                                  have q549 : x11_4 < (t545.length : Int) := of_decide_eq_true (by first | (with_reducible assumption) | assumption)
                                  obtain ⟨ad549, e549, hx549_0, hx549_1⟩ := at_T42 (Kd.R_reads' HO_10.out).2.2 x11_4 p549 q549
                                  cases e549
                                  replace p549 := eq_true p549
                                  replace q549 := eq_true q549
                                  go_wp2
                                  repeat (go_quiet (fail); try go_wp2)
                                  go_roundg k4
                                  case measure => have := HJ2.out; have := HK2.out; have := HJ15.out; have := HK4.out; omega
                                  case rel => exact ⟨(wrap64 (x11_4 + 1)), (by first | rfl | (simp; done) | (simp [*]; done)), H', ⟨by have := HJ2.out; have := HK2.out; have := HJ15.out; have := HK4.out; omega⟩, ⟨by (with_reducible repeat (first | apply Kd.S_alloc | apply Kd.S_drewN | apply Kd.S_drew)); exact HO_9.out⟩, ⟨by (with_reducible repeat (first | apply Kd.R_alloc | apply Kd.R_drewN | apply Kd.R_drew)); exact HO_10.out⟩, ⟨by repeat (first | (with_reducible first | exact HB.out | apply below_alloc | apply pw_below_drewN | apply below_drew1) | exact HB.out)⟩⟩
                            · rw [if_neg c35] at H
                              exact absurd H (by simp)
                          · rw [if_neg c34] at H
                            exact absurd H (by simp)
                        · rw [if_neg c33] at H
                          have c33b0 : decide (x11_4 < a0) = false := decide_eq_false c33
                          clear c33
                          by_cases c40 : t531 = true
                          · subst c40
                            have H1 : (if 0 < (t542.length : Int) then (if 0 < ((rd_L4 t542 0).length : Int) then (some ((rd (rd_L4 t542 0) 0) == 0)) else (none)) else (none)) = some r := by rw [if_pos rfl] at H; exact H
                            clear H
                            have H := H1
                            clear H1
                            by_cases c41 : 0 < (t542.length : Int)
                            · rw [if_pos c41] at H
                              have c41b0 : decide (0 < (t542.length : Int)) = true := decide_eq_true c41
                              have c41b1 : decide (0 < t542.length) = true := decide_eq_true (by omega)
                              clear c41
                              by_cases c42 : 0 < ((rd_L4 t542 0).length : Int)
                              · rw [if_pos c42] at H
                                have c42b0 : decide (0 < ((rd_L4 t542 0).length : Int)) = true := decide_eq_true c42
                                have c42b1 : decide (0 < (rd_L4 t542 0).length) = true := decide_eq_true (by omega)
                                clear c42
                                obtain rfl := Option.some.inj H
                                obtain ⟨Ao43, co43, eo43⟩ := Kd.S_slice HO_9.out
                                subst eo43
                                have p550 : 0 ≤ (0 : Int) := (by omega)
                                have q550 : 0 < (t542.length : Int) := of_decide_eq_true (by first | (with_reducible assumption) | assumption)
                                obtain ⟨ad550, A550_0, c550_0, e550, hx550_0, hl550_0, hi550_0⟩ := at_L4 (Kd.S_reads' HO_9.out).2.2 0 p550 q550
                                cases e550
                                obtain ⟨ce550, hce550, hMe550, hcc550⟩ := Kd.S_get HO_9.out [] 0 p550 (by first | exact q550 | exact of_decide_eq_true (by first | (with_reducible assumption) | assumption) | (have e_ := (Kd.S_reads' HO_9.out).1; omega))
                                obtain ⟨ve550_0, rfl, ge550_0⟩ := hMe550
                                have hv550_0 := hcc550 0 _ rfl
                                rw [Nat.add_zero, show ((Kd.slice 3 (Kd.int .i64))).sz = 1 from rfl, Nat.mul_one] at hv550_0
                                replace hv550_0 := Option.some.inj (hv550_0.symm.trans hx550_0)
                                rw [hv550_0] at ge550_0
                                have HL550_0 := Aside0.mk (show Kd.R (Kd.int .i64) 3 _ _ _ _ (rd_L4 t542 0) from ge550_0)
                                clear hv550_0 ge550_0
                                clear hcc550 hce550
                                have qi550 : (0 < t542.length) = True := eq_true (by omega)
                                (try rw [show ((0 : Int)).toNat = 0 from rfl] at hx550_0)
                                (try rw [Addr.add_zero'] at hx550_0)
                                have HR550_0 := Aside0.mk hi550_0
                                have HC550_0 := Aside0.mk hl550_0
                                clear hi550_0 hl550_0
                                replace p550 := eq_true p550
                                replace q550 := eq_true q550
                                have p551 : 0 ≤ (0 : Int) := (by omega)
                                have q551 : 0 < ((rd_L4 t542 0).length : Int) := of_decide_eq_true (by first | (with_reducible assumption) | assumption)
                                obtain ⟨ad551, e551, hx551_0⟩ := Kd.at_int (by repeat (first | (with_reducible exact HR550_0.out) | (with_reducible refine Kd.C_alloc ?_ _) | (with_reducible refine Kd.C_drewN ?_ _) | (with_reducible refine Kd.C_drew ?_) | exact HR550_0.out)) 0 p551 q551
                                cases e551
                                have qi551 : (0 < (rd_L4 t542 0).length) = True := eq_true (by omega)
                                (try rw [show ((0 : Int)).toNat = 0 from rfl] at hx551_0)
                                (try rw [Addr.add_zero'] at hx551_0)
                                replace p551 := eq_true p551
                                replace q551 := eq_true q551
                                go_wp2
                                repeat (go_quiet (fail); try go_wp2)
                                go_ret
                                exact ⟨by first | rfl | (simp [errW_none, errW_some] <;> rfl) | (simp [*, errW_none, errW_some] <;> rfl), by repeat (first | (with_reducible first | exact HB.out | apply below_alloc | apply pw_below_drewN | apply below_drew1) | exact HB.out)⟩
                              · rw [if_neg c42] at H
                                exact absurd H (by simp)
                            · rw [if_neg c41] at H
                              exact absurd H (by simp)
                          · replace c40 := Bool.eq_false_iff.mpr c40
                            subst c40
                            have H1 : (some false) = some r := by rw [if_neg (show ¬ (false = true) by decide)] at H; exact H
                            clear H
                            have H := H1
                            clear H1
                            obtain rfl := Option.some.inj H
                            go_wp2
                            repeat (go_quiet (fail); try go_wp2)
                            go_ret
                            exact ⟨by first | rfl | (simp [errW_none, errW_some] <;> rfl) | (simp [*, errW_none, errW_some] <;> rfl), by repeat (first | (with_reducible first | exact HB.out | apply below_alloc | apply pw_below_drewN | apply below_drew1) | exact HB.out)⟩

/-- THE ONE PURE STATEMENT of swagelaw18_MovesRound: yours. -/
def swagelaw18_MovesRound.Pure : Prop := ∀ (a0 : Int), (Lit.int .i64 a0).wf = true → ∃ k, swagelaw18_MovesRound.f k a0 = some true
theorem swagelaw18_MovesRound.walk (P : swagelaw18_MovesRound.Pure) (a0 : Int) (w : World) (w0 : (Lit.int .i64 a0).wf = true) :
    Calls Try.prog 7 #[.int .i64 a0] w fun e w' => e = .returned (.bool true) ∧ Below w.heap.size w w' := by
  obtain ⟨k, h⟩ := P a0 w0
  refine (swagelaw18_MovesRound.calls k a0 true w h).mono ?_
  rintro e w' ⟨rfl, hd⟩
  exact ⟨rfl, hd⟩

end Go.Proofs.Ytkfopphcgjdcaaa.A

/- The law MovesRound, as printed, answers true. -/
namespace Go.Proofs.Ytkfopphcgjdcaaa.A
open Go.RowKit Go.Maps Go.Proofs.YtkfopphcgjdcaaaW.PrintWords Go.Proofs.YtkfopphcgjdcaaaW.PrintLast Go.Shelf
set_option linter.unusedVariables false
set_option linter.unusedSimpArgs false
theorem round_all : ((List.range 39).all fun i => (swagelaw18_MovesRound.f 300 ((i + 2 : Nat) : Int)).getD false) = true := by kernel_rfl
theorem round_law (n : Int) : ∃ k, swagelaw18_MovesRound.f k n = some true := by
  by_cases h1 : n < 2
  · refine ⟨1, ?_⟩
    show (if n < 2 then swagelaw18_MovesRound.j0 1 n true true else _) = _
    rw [if_pos h1, swagelaw18_MovesRound.j0, if_pos rfl]
  by_cases h2 : n > 40
  · refine ⟨1, ?_⟩
    show (if n < 2 then _ else swagelaw18_MovesRound.j0 1 n true (decide (n > 40))) = _
    rw [if_neg h1, decide_eq_true h2, swagelaw18_MovesRound.j0, if_pos rfl]
  have h := List.all_eq_true.1 round_all (n.toNat - 2) (List.mem_range.2 (by omega))
  rw [show ((n.toNat - 2 + 2 : Nat) : Int) = n by omega] at h
  refine ⟨300, ?_⟩
  cases hf : swagelaw18_MovesRound.f 300 n with
  | none => rw [hf] at h; cases h
  | some b => rw [hf] at h; cases b with
    | true => rfl
    | false => cases h
theorem law_round (a0 : Int) (w : World) (hw0 : Wf a0) : Calls Try.prog 7 #[.int .i64 a0] w fun e w' => e = .returned (.bool true) ∧ Below w.heap.size w w' := by
  obtain ⟨k, hk⟩ := round_law a0
  exact swagelaw18_MovesRound.calls k a0 true w hk
#print axioms round_law
end Go.Proofs.Ytkfopphcgjdcaaa.A

/- What comes in, opened: a datum that is trodden at a type is a value of the kind. -/
namespace Go.Proofs.Ytkfopphcgjdcaaa.A
open Go.Deep Go.RowKit Go.Proofs.YtkfopphcgjdcaaaW.PrintWords Go.Proofs.YtkfopphcgjdcaaaW.PrintLast
set_option linter.unusedVariables false
set_option linter.unusedSimpArgs false

section
variable {H : Type} {enc : TypeId × Value → H} {P : Program} {w : World} {base : Nat} {α : Type} [Inhabited α]

def Opens (enc : TypeId × Value → H) (P : Program) (w : World) (base : Nat) (t : TypeId) (d : Kd α) (p : α → Prop) : Prop :=
  ∀ fuel cs x, DataW.trod enc P w base (fun _ => true) true fuel t cs = some x → ∃ y, d.K w y cs ∧ p y

theorem opens_int {t : TypeId} {k : IntKind} (ht : P.underlying t = some (.int k)) : Opens enc P w base t (Kd.int k) (fun n => (Lit.int k n).wf = true) := by
  intro fuel cs x h
  obtain ⟨n, rfl, _, hw⟩ := DataW.trod_int ht h
  exact ⟨n, rfl, hw⟩

theorem opens_slice {t e : TypeId} {d : Kd α} {p : α → Prop} (ht : P.underlying t = some (.slice e)) (hc : P.cellsOf e = d.sz) (ho : Opens enc P w base e d p) : Opens enc P w base t (Kd.slice e d) (fun xs => ∀ x ∈ xs, p x) := by
  intro fuel cs x h
  rcases open_slice ht h with ⟨rfl, _⟩ | ⟨a, len, cap, m, n, D, Pl, rfl, hb, hl, hm, hmm, _, hx⟩
  · exact ⟨[], ⟨none, 0, rfl, Nat.le_refl _, rfl, by simp, fun h => by simp at h⟩, fun x hx => by simp at hx⟩
  · simp only [if_true] at hmm
    obtain ⟨Y, hY⟩ := choose_lt (α := α) (n := len) (p := fun i y => p y ∧ ∃ c, d.K w y c ∧ ∀ j u, c[j]? = some u → w.cell? (a.add (i * d.sz + j)) = some u) (fun i hi => by
      obtain ⟨cs', h1, h2⟩ := hx i (by omega)
      obtain ⟨y, hy, hp⟩ := ho _ _ _ h2
      obtain ⟨_, hlen, hcell⟩ := World.cells?_some h1
      refine ⟨y, hp, cs', hy, fun j u hj => ?_⟩
      have hj' : j < cs'.length := (List.getElem?_eq_some_iff.1 hj).1
      have := hcell j (by omega)
      rw [hj, hc] at this
      rwa [Addr.add_add] at this)
    have hlen : ((List.range len).map Y).length = len := by simp
    refine ⟨(List.range len).map Y, ⟨some a, cap, by rw [hlen], by rw [hlen]; exact hl, hlen.trans hlen.symm, by rw [hlen]; unfold maxLen at hm; omega, fun _ => ⟨a, rfl, fun j y hj => ?_⟩⟩, fun y hy => ?_⟩
    · have hjl : j < len := by have := (List.getElem?_eq_some_iff.1 hj).1; omega
      rw [List.getElem?_map, List.getElem?_range hjl] at hj
      obtain rfl := Option.some.inj hj
      obtain ⟨_, c, hk, hcell⟩ := hY j hjl
      exact ⟨c, d.K_len hk, hk, hcell⟩
    · obtain ⟨i, hi, rfl⟩ := List.mem_map.1 hy
      exact (hY i (List.mem_range.1 hi)).1
omit [Inhabited α] in
/-- of a parameter: a slice -/
theorem opens_param {t e : TypeId} {d : Kd α} {p : List α → Prop} (ho : Opens enc P w base t (Kd.slice e d) p) {A : Option Addr} {len cap : Nat} {x : DataW H} {ps : List MemPlace} (h : DataW.Trod enc P w base (fun _ => true) true t (.slice A len cap) x ps) :
    ∃ xs : List α, len = xs.length ∧ xs.length ≤ cap ∧ d.C w A xs.length xs ∧ p xs := by
  obtain ⟨fuel, hf⟩ := h
  obtain ⟨xs, ⟨A', c', he, hl, hC⟩, hp⟩ := ho _ _ _ hf
  simp [Value.cells] at he
  obtain ⟨rfl, rfl, rfl⟩ := he
  exact ⟨xs, rfl, hl, hC, hp⟩
end

instance : Inhabited S38 := ⟨z38⟩
instance : Inhabited S42 := ⟨z42⟩
theorem opens_copy {H : Type} {enc : TypeId × Value → H} {w : World} {base : Nat} : Opens enc Try.prog w base 38 k38 (fun x => Wf x.f0 ∧ Wf x.f1) := by
  intro fuel cs x h
  obtain ⟨xs, n, _, _, hl, hlen, hf⟩ := DataW.trod_struct Try.underlying38 h
  have hl' : cs.length = 2 := hl.trans (by kernel_rfl)
  match cs, hl' with
  | [c0, c1], _ =>
    have h0 : DataW.trod enc Try.prog w base (fun _ => true) true n 3 (([c0, c1].drop 0).take (Try.prog.cellsOf 3)) = xs[0]? := hf 0 _ rfl
    have h1 : DataW.trod enc Try.prog w base (fun _ => true) true n 3 (([c0, c1].drop 1).take (Try.prog.cellsOf 3)) = xs[1]? := hf 1 _ rfl
    rw [show Try.prog.cellsOf 3 = 1 by kernel_rfl] at h0 h1
    have hx : xs.length = 2 := by rw [hlen]; rfl
    rw [List.getElem?_eq_getElem (by omega)] at h0 h1
    obtain ⟨m0, e0, _, w0⟩ := DataW.trod_int Try.underlying3 h0
    obtain ⟨m1, e1, _, w1⟩ := DataW.trod_int Try.underlying3 h1
    have e0' : c0 = .int .i64 m0 := by simpa using e0
    have e1' : c1 = .int .i64 m1 := by simpa using e1
    subst e0' e1'
    exact ⟨⟨m0, m1⟩, k38_mk w ⟨m0, m1⟩, w0, w1⟩
theorem opens_pair {H : Type} {enc : TypeId × Value → H} {w : World} {base : Nat} : Opens enc Try.prog w base 42 k42 (fun x => Wf x.f0 ∧ Wf x.f1) := by
  intro fuel cs x h
  obtain ⟨xs, n, _, _, hl, hlen, hf⟩ := DataW.trod_array Try.underlying42 h
  have hl' : cs.length = 2 := hl.trans (by kernel_rfl)
  match cs, hl' with
  | [c0, c1], _ =>
    have h0 := hf 0 (by omega)
    have h1 := hf 1 (by omega)
    rw [show Try.prog.cellsOf 3 = 1 by kernel_rfl] at h0 h1
    rw [List.getElem?_eq_getElem (by omega)] at h0 h1
    obtain ⟨m0, e0, _, w0⟩ := DataW.trod_int Try.underlying3 h0
    obtain ⟨m1, e1, _, w1⟩ := DataW.trod_int Try.underlying3 h1
    have e0' : c0 = .int .i64 m0 := by simpa using e0
    have e1' : c1 = .int .i64 m1 := by simpa using e1
    subst e0' e1'
    exact ⟨⟨m0, m1⟩, k42_mk w ⟨m0, m1⟩, w0, w1⟩
theorem opens_copies {H : Type} {enc : TypeId × Value → H} {w : World} {base : Nat} : Opens enc Try.prog w base 22 (Kd.slice 38 k38) WfL := opens_slice Try.underlying22 (by kernel_rfl) opens_copy
theorem opens_pairs {H : Type} {enc : TypeId × Value → H} {w : World} {base : Nat} : Opens enc Try.prog w base 33 (Kd.slice 42 k42) WfH := opens_slice Try.underlying33 (by kernel_rfl) opens_pair
end Go.Proofs.Ytkfopphcgjdcaaa.A
