/- Parts of the proof, in the order in which they rest on one another. -/
import Derived.Test.YteeapfmgdlcgfaaMClose3
import Derived.Below
import Derived.Deep.Draws
import Derived.Deep.AppendLies
import Derived.Maps.AppendAt
import Derived.OwnWalk
import Derived.Laws.BytesArg
import Derived.Laws.MakeOwn
import Derived.Laws.OwnMore
import Derived.Deep.OwnRows
import Derived.Tactics
import Derived.Lib.ConvBytes
import Derived.Laws.Slices
import Derived.WalkKit
import Derived.KernelRfl
import Derived.RowKit3
import Derived.Deep.LoopGhost
import Derived.Deep.QuietTactic
import Derived.BigQuiet
import Derived.WideLaws
import Derived.Deep.DeepCutAuto
import Derived.Deep.CutBlock
import Derived.Deep.RegionHeld3
import Derived.Laws.Rows
import Derived.Lib.AppendStr
import Derived.ArgAppend
import Derived.Laws.IdiomCopy
import Derived.RowKit
import Derived.OrdersHeld
import Derived.Laws.BitsLemmas
import Derived.Laws.StructEq
import Derived.Test.YteeapfmgdlcgfaaProg
import Derived.Maps.Own
import Derived.Maps.OwnOps
import Derived.Maps.OwnSet
import Derived.Maps.Views
import Derived.WideKeyEntry
import Derived.RangeFuncWrites
import Derived.Lib.SlKeysI
import Derived.Shelf.SlIterI.Stops
import Derived.Shelf.SlIterI.Nil
import Derived.Shelf.SortM.Plain
import Derived.Shelf.SortM.SortNone
import Derived.Shelf.SlMaps.Clone
import Derived.Ground.GgzProg
import Derived.Ground.SlgmProg
import Derived.Ground.SlmcProg
import Derived.Shelf.SlGeneric
import Derived.RangeFuncLeaves
import Derived.RangeFuncCalls
import Derived.RangeFuncBox
import Derived.OwnWalkIn
import Derived.TacticsInMore
import Derived.LoopNIn
import Derived.LoopIn
import Derived.Maps.OwnIn
import Derived.Shelf.RegionOpen
import Derived.OpenShut
import Derived.Deep.Slices
import Derived.ChangeArms
import Derived.Maps.StringElems
import Derived.Sort.MapsRangeIn
import Derived.StringKeys
import Derived.Shelf.SlIter.Stops
import Derived.RangeFuncNested
import Derived.RangeFuncRecord
import Derived.Maps.RangeWalk
import Derived.OrdersIn
import Derived.TacticsIn
import Derived.LoopN
namespace Go.Proofs.Yteeapfmgdlcgfaa.A
open Go.RowKit Go.Maps Go.Proofs.YteeapfmgdlcgfaaW.PrintWords Go.Proofs.YteeapfmgdlcgfaaW.PrintLast
set_option linter.unusedVariables false
set_option linter.unusedSimpArgs false
attribute [local go_sem] Oper.semAt_some

theorem drew_below (W : World) : Below W.heap.size W W.drew := ⟨rfl, rfl, rfl, Nat.le_refl _, fun _ _ => rfl⟩
/-- op's own boxes beside the finder -/
structure OI (w : World) (f : Int) (x : S60) (A : Option Addr) (c : Nat) (q p bu bs base nu N : Nat) (E : Int → Int → Prop) (cs : List S28) (W : World) : Prop where
  fs : FS W q p bu bs base nu N E cs
  bf : Boxed W w.heap.size 3 (.int .i64 f)
  bx : OpBox W (w.heap.size + 1) ⟨x, A, c⟩
  kf : KF q bu bs base w W
  lq : q < w.heap.size
  lu : bu < w.heap.size
  ls : bs < w.heap.size
section
variable {w W W' : World} {f : Int} {x : S60} {A : Option Addr} {c q p bu bs base nu N : Nat} {E : Int → Int → Prop} {cs : List S28}
theorem OI.step (h : OI w f x A c q p bu bs base nu N E cs W) (hb : Below W.heap.size W W') : OI w f x A c q p bu bs base nu N E cs W' :=
  ⟨h.fs.step hb, boxed_below h.bf hb h.bf.lt, h.bx.below hb h.bx.lt, h.kf.trans (KF.of_below hb), h.lq, h.lu, h.ls⟩
theorem OI.turn (h : OI w f x A c q p bu bs base nu N E cs W) {N' : Nat} {E' : Int → Int → Prop} (hf : FS W' q p bu bs base nu N' E' cs) (hk : KeepsBut (UX bu bs) W W') : OI w f x A c q p bu bs base nu N' E' cs W' := by
  have h1 := h.lq
  have h2 := h.lu
  have h3 := h.ls
  have kf : KF q bu bs base W W' := KF.of_keeps hk
  exact ⟨hf, kf.boxed h.bf (by decide) (by omega) (by omega) (by omega), kf.opbox h.bx (by omega) (by omega) (by omega), h.kf.trans kf, h1, h2, h3⟩
theorem OI.held (h : OI w f x A c q p bu bs base nu N E cs W) : W.cell? ⟨q, 0, none⟩ = some (.pointer (some ⟨p, 0, none⟩)) ∧ W.cell? ⟨w.heap.size, 0, none⟩ = some (.int .i64 f) ∧ W.cell? ⟨w.heap.size + 1, 0, none⟩ = some (.int .i64 x.f0) ∧ W.cell? ⟨w.heap.size + 1, 1, none⟩ = some (.int .i64 x.f1) ∧ W.cell? ⟨w.heap.size + 1, 2, none⟩ = some (.int .i64 x.f2) ∧ W.cell? ⟨w.heap.size + 1, 3, none⟩ = some (.int .i64 x.f3) ∧ W.cell? ⟨w.heap.size + 1, 4, none⟩ = some (.int .i64 x.f4) ∧ W.cell? ⟨w.heap.size + 1, 5, none⟩ = some (.slice A x.f5.length c) :=
  ⟨h.fs.cellp, h.bf.cell, h.bx.cells⟩
end
theorem set_second {W : World} {q : Nat} {a b v : Value} {t : TypeId} (h : W.heap[q]? = some (.cells #[a, b] t (0, 0))) : (W.setCell ⟨q, 1, none⟩ v).heap[q]? = some (.cells #[a, v] t (0, 0)) := by
  have hl := (Array.getElem?_eq_some_iff.1 h).1
  have he := (Array.getElem?_eq_some_iff.1 h).2
  simp [World.setCell, h, hl, Array.getElem_modify_self, he]
theorem k28_mkM (w : World) (base : Nat) (ok : Nat → Prop) (x : S28) : k28.M w base ok x [.int .i64 x.f0, .int .i64 x.f1] := ⟨[.int .i64 x.f0], [.int .i64 x.f1], rfl, rfl, rfl⟩
theorem info28 : (Try.prog.info? 28).map (fun i => (i.zero, i.size, i.bytes)) = some (some (.agg #[.int .i64 0, .int .i64 0]), 2, 16) := by kernel_rfl
/-- OI with the slice of cells named -/
structure OJ (w : World) (f : Int) (x : S60) (A : Option Addr) (c : Nat) (q p bu bs base nu N : Nat) (E : Int → Int → Prop) (cs : List S28) (v : Value) (W : World) : Prop where
  oi : OI w f x A c q p bu bs base nu N E cs W
  hq : W.heap[q]? = some (.cells #[.pointer (some ⟨p, 0, none⟩), v] 96 (0, 0))
  hr : Kd.R k28 28 W base (fun _ => True) v cs
  hb : Below w.heap.size w W
theorem OJ.step {w W W' : World} {f : Int} {x : S60} {A : Option Addr} {c q p bu bs base nu N : Nat} {E : Int → Int → Prop} {cs : List S28} {v : Value} (h : OJ w f x A c q p bu bs base nu N E cs v W) (hb : Below W.heap.size W W') : OJ w f x A c q p bu bs base nu N E cs v W' :=
  ⟨h.oi.step hb, (hb.block q (Array.getElem?_eq_some_iff.1 h.hq).1).trans h.hq, Kd.R_below h.hr hb, h.hb.trans (hb.mono h.hb.size)⟩
theorem OJ.cell {w W : World} {f : Int} {x : S60} {A : Option Addr} {c q p bu bs base nu N : Nat} {E : Int → Int → Prop} {cs : List S28} {v : Value} (h : OJ w f x A c q p bu bs base nu N E cs v W) : W.cell? ⟨q, 1, none⟩ = some v := by
  simp [World.cell?, h.hq]
theorem OJ.held {w W : World} {f : Int} {x : S60} {A : Option Addr} {c q p bu bs base nu N : Nat} {E : Int → Int → Prop} {cs : List S28} {v : Value} (h : OJ w f x A c q p bu bs base nu N E cs v W) : W.cell? ⟨q, 0, none⟩ = some (.pointer (some ⟨p, 0, none⟩)) ∧ W.cell? ⟨w.heap.size, 0, none⟩ = some (.int .i64 f) ∧ W.cell? ⟨w.heap.size + 1, 0, none⟩ = some (.int .i64 x.f0) ∧ W.cell? ⟨w.heap.size + 1, 1, none⟩ = some (.int .i64 x.f1) ∧ W.cell? ⟨w.heap.size + 1, 2, none⟩ = some (.int .i64 x.f2) ∧ W.cell? ⟨w.heap.size + 1, 3, none⟩ = some (.int .i64 x.f3) ∧ W.cell? ⟨w.heap.size + 1, 4, none⟩ = some (.int .i64 x.f4) ∧ W.cell? ⟨w.heap.size + 1, 5, none⟩ = some (.slice A x.f5.length c) ∧ W.cell? ⟨q, 1, none⟩ = some v := by
  obtain ⟨h1, h2, h3, h4, h5, h6, h7, h8⟩ := h.oi.held
  exact ⟨h1, h2, h3, h4, h5, h6, h7, h8, h.cell⟩
theorem OJ.fin {w W w4 : World} {f : Int} {x : S60} {A : Option Addr} {c q p bu bs base nu N : Nat} {E : Int → Int → Prop} {cs cs' : List S28} {v v1 : Value} (h : OJ w f x A c q p bu bs base nu N E cs v W) (hv1 : Kd.R k28 28 w4 base (fun _ => True) v1 cs') (hg : W.grownBy w4 v.ownBlock) :
    w4.cell? ⟨q, 1, none⟩ = some v ∧ w4.frozen? ⟨q, 1, none⟩ = false ∧ FS (w4.setCell ⟨q, 1, none⟩ v1) q p bu bs base nu N E cs' ∧ KF q bu bs base w (w4.setCell ⟨q, 1, none⟩ v1) := by
  have hF := h.oi.fs
  have h1 := hF.ql
  have h2 := hF.pl
  have h3 := hF.ul
  have h4 := hF.sl
  have h5 := hF.qp
  have h6 := hF.qu
  have h7 := hF.qs
  have hb := Kd.R_base h.hr
  have hq4 : w4.heap[q]? = some (.cells #[.pointer (some ⟨p, 0, none⟩), v] 96 (0, 0)) := (hg.block q (Array.getElem?_eq_some_iff.1 h.hq).1 (fun e => by have := hb q e.symm; omega)).trans h.hq
  have k4 : KeepsBut (fun k => v.ownBlock = some k) W w4 := KeepsBut.of_grownBy hg (fun r hr => hr)
  have k5 : KeepsBut (fun k => k = q) w4 (w4.setCell ⟨q, 1, none⟩ v1) := KeepsBut.setCell _ _ _ rfl
  have kk : KeepsBut (fun k => v.ownBlock = some k ∨ k = q) W (w4.setCell ⟨q, 1, none⟩ v1) := (k4.mono fun k hk => .inl hk).trans (k5.mono fun k hk => .inr hk)
  have hX : ∀ k, k < base → k ≠ q → ¬ (v.ownBlock = some k ∨ k = q) := by
    rintro k hk1 hk2 (e | e)
    · have := hb k e; omega
    · exact hk2 e
  refine ⟨by simp [World.cell?, hq4], by simp [World.frozen?, hq4], ⟨hF.un.keep kk (hX p h2 (Ne.symm h5)) (hX bu h3 (Ne.symm h6)) (hX bs h4 (Ne.symm h7)), ⟨v1, set_second hq4, ?_⟩, h5, h6, h7, h1, h2, h3, h4, Nat.le_trans hF.sz kk.size⟩, ?_⟩
  · exact Kd.R_mono (Kd.R_step (Kd.R_bound hv1) (fun k hk1 hk2 => k5.block k hk2 (by have := hk1.2.1; omega))) (fun _ _ => trivial)
  · refine ⟨kk.os.trans h.hb.os, kk.tape.trans h.hb.tape, kk.output.trans h.hb.output, Nat.le_trans h.hb.size kk.size, fun k hk g1 g2 g3 g4 => ?_⟩
    refine (kk.block k (Nat.lt_of_lt_of_le hk h.hb.size) ?_).trans (h.hb.block k hk)
    rintro (e | e)
    · rcases g4 with g4 | g4
      · have := hb k e; omega
      · obtain ⟨inner, ho⟩ := Kd.R_own h.hr
        obtain ⟨cells, hc⟩ := own_typed ho k e
        exact g4 cells ((h.hb.block k hk).symm.trans hc)
    · exact g1 e
/-- what op answers -/
def OpR (w : World) (f : Int) (x : S60) (q p bu bs base nu N : Nat) (E : Int → Int → Prop) (cs : List S28) (e : Ending) (w' : World) : Prop :=
  (∃ v, e = .returned v) ∧ ∃ N', N' ≤ N ∧ FS w' q p bu bs base nu N' (joinsE E (pairsOf f x)) (cs ++ cellsOf f x) ∧ KF q bu bs base w w'
theorem oi_start (w : World) {f : Int} {x : S60} {A : Option Addr} {c q p bu bs base nu N : Nat} {E : Int → Int → Prop} {cs : List S28} (h : FS w q p bu bs base nu N E cs) :
    OI w f x A c q p bu bs base nu N E cs ((w.alloc (.cells #[.int .i64 f] 3)).alloc (.cells #[.int .i64 x.f0, .int .i64 x.f1, .int .i64 x.f2, .int .i64 x.f3, .int .i64 x.f4, .slice A x.f5.length c] 60)) := by
  have hb : Below w.heap.size w ((w.alloc (.cells #[.int .i64 f] 3)).alloc (.cells #[.int .i64 x.f0, .int .i64 x.f1, .int .i64 x.f2, .int .i64 x.f3, .int .i64 x.f4, .slice A x.f5.length c] 60)) := below_alloc (below_alloc (Below.refl _ _) _) _
  have hl := h.un.lt
  have hq : q < w.heap.size := by have := h.ql; have := h.sz; omega
  refine ⟨h.step hb, (Boxed.new w 3 (.int .i64 f)).alloc _, ?_, KF.of_below hb, hq, hl.2.1, hl.2.2⟩
  have := World.alloc_heap_new (w.alloc (.cells #[.int .i64 f] 3)) (.cells #[.int .i64 x.f0, .int .i64 x.f1, .int .i64 x.f2, .int .i64 x.f3, .int .i64 x.f4, .slice A x.f5.length c] 60)
  rw [World.size_alloc] at this
  exact this

set_option maxRecDepth 100000 in
set_option maxHeartbeats 8000000 in
theorem op_3 (w wI : World) (f : Int) (x : S60) (A : Option Addr) (c q p bu bs base nu N : Nat) (E : Int → Int → Prop) (cs : List S28) (h : FS w q p bu bs base nu N E cs) (hn : nu ≤ 100000) (hN : N ≤ 100000) (hcl : cs.length ≤ 1000000)
    (hBI : Below wI.heap.size wI w) (hI : wI.heap.size ≤ q ∧ wI.heap.size ≤ bu ∧ wI.heap.size ≤ bs) (hC : Kd.C (Kd.int .i64) wI A x.f5.length x.f5) (hxl : x.f5.length ≤ 1000000)
    (h3 : x.f0 = 3) (hin : ∀ ab ∈ pairsOf f x, E ab.1 ab.1 ∧ E ab.2 ab.2) :
    Calls Try.prog 51 #[.pointer (some ⟨q, 0, none⟩), .int .i64 f, .agg #[.int .i64 x.f0, .int .i64 x.f1, .int .i64 x.f2, .int .i64 x.f3, .int .i64 x.f4, .slice A x.f5.length c]] w (OpR w f x q p bu bs base nu N E cs) := by
  have hmix : Try.prog.follows .mixedOrders = true := by kernel_rfl
  have hu60 := Try.underlying60
  have hu96 := Try.underlying96
  have hp : pairsOf f x = [(varI f x.f1, varI f x.f2)] := by unfold pairsOf; rw [if_pos h3]
  have hcs : cellsOf f x = [] := by unfold cellsOf; rw [h3]; rfl
  have hin3 : Aside0 (E (varI f x.f1) (varI f x.f1) ∧ E (varI f x.f2) (varI f x.f2)) := ⟨hin (varI f x.f1, varI f x.f2) (by rw [hp]; simp)⟩
  unfold OpR
  rw [hp, hcs, List.append_nil]
  have h3b : (x.f0 == 3) = true := by rw [h3]; rfl
  have hO := Aside0.mk (oi_start (f := f) (x := x) (A := A) (c := c) w h)
  have hN' := Aside0.mk (Nat.le_refl N)
  have hx0 := hO.out.held.2.2.1
  have hx4 := hO.out.held.2.2.2.2.2.2.1
  clear hp hcs hin h h3 hC hBI hI
  go_enter Try.func51, Try.ntmps51
  go_wp2
  replace hO := Aside0.mk (hO.out.step (drew_below _))
  refine start_ #[false, false, false, false, false, false, false, false, false, false, false, false, false] (S := fun w' => w'.cell? ⟨q, 0, none⟩ = some (.pointer (some ⟨p, 0, none⟩)) ∧ w'.cell? ⟨w.heap.size, 0, none⟩ = some (.int .i64 f) ∧ w'.cell? ⟨w.heap.size + 1, 0, none⟩ = some (.int .i64 x.f0) ∧ w'.cell? ⟨w.heap.size + 1, 1, none⟩ = some (.int .i64 x.f1) ∧ w'.cell? ⟨w.heap.size + 1, 2, none⟩ = some (.int .i64 x.f2) ∧ w'.cell? ⟨w.heap.size + 1, 3, none⟩ = some (.int .i64 x.f3) ∧ w'.cell? ⟨w.heap.size + 1, 4, none⟩ = some (.int .i64 x.f4) ∧ w'.cell? ⟨w.heap.size + 1, 5, none⟩ = some (.slice A x.f5.length c)) (ds := [12]) hmix rfl rfl ⟨hO.out.fs.cellp, hO.out.bf.cell, hO.out.bx.cells⟩ (fun hHeld => ?_)
  refine pure_ (i := 0) (N := some 14) (v := ?_) (a' := ?_) #[true, false, false, false, false, false, false, false, false, false, false, false, false] rfl rfl (by kernel_rfl) (fun _ _ _ h => h) (Or.inl ⟨by rfl, ?_⟩) ?_ ?_
  rotate_left
  · intro w'
    go_simp
    try with_reducible rfl
  rotate_left
  · simp only [Act.put, List.setIfInBounds_toArray, List.set_cons_zero, List.set_cons_succ, i64_w, i32_w]
    rfl
  refine pure_ (i := 1) (N := some 15) (v := ?_) (a' := ?_) #[true, true, false, false, false, false, false, false, false, false, false, false, false] rfl rfl (by kernel_rfl) (fun _ _ _ h => h) (Or.inl ⟨by rfl, ?_⟩) ?_ ?_
  rotate_left
  · intro w'
    go_simp
    try with_reducible rfl
  rotate_left
  · simp only [Act.put, List.setIfInBounds_toArray, List.set_cons_zero, List.set_cons_succ, i64_w, i32_w]
    rfl
  refine pure_ (i := 2) (N := some 16) (v := ?_) (a' := ?_) #[true, true, true, false, false, false, false, false, false, false, false, false, false] rfl rfl (by kernel_rfl) (fun _ _ _ h => h) (Or.inl ⟨by rfl, ?_⟩) ?_ ?_
  rotate_left
  · intro w'
    go_simp
    try with_reducible rfl
  rotate_left
  · simp only [Act.put, List.setIfInBounds_toArray, List.set_cons_zero, List.set_cons_succ, i64_w, i32_w]
    rfl
  refine take_ (i := 3) (N := some 17) (v := ?_) (a' := ?_) #[true, true, true, true, false, false, false, false, false, false, false, false, false] rfl rfl (by kernel_rfl) (fun _ _ _ h => h) (Or.inl ⟨by rfl, ?_⟩) hHeld ?_ ?_
  rotate_left
  · rintro w' ⟨s0, s1, s2, s3, s4, s5, s6, s7⟩
    go_simp
    try with_reducible rfl
  rotate_left
  · simp only [Act.put, List.setIfInBounds_toArray, List.set_cons_zero, List.set_cons_succ, i64_w, i32_w]
    rfl
  refine pure_ (i := 4) (N := some 18) (v := ?_) (a' := ?_) #[true, true, true, true, true, false, false, false, false, false, false, false, false] rfl rfl (by kernel_rfl) (fun _ _ _ h => h) (Or.inl ⟨by rfl, ?_⟩) ?_ ?_
  rotate_left
  · intro w'
    go_simp
    try with_reducible rfl
  rotate_left
  · simp only [Act.put, List.setIfInBounds_toArray, List.set_cons_zero, List.set_cons_succ, i64_w, i32_w]
    rfl
  refine pure_ (i := 5) (N := some 19) (v := ?_) (a' := ?_) #[true, true, true, true, true, true, false, false, false, false, false, false, false] rfl rfl (by kernel_rfl) (fun _ _ _ h => h) (Or.inl ⟨by rfl, ?_⟩) ?_ ?_
  rotate_left
  · intro w'
    go_simp
    try with_reducible rfl
  rotate_left
  · simp only [Act.put, List.setIfInBounds_toArray, List.set_cons_zero, List.set_cons_succ, i64_w, i32_w]
    rfl
  refine take_ (i := 6) (N := some 20) (v := ?_) (a' := ?_) #[true, true, true, true, true, true, true, false, false, false, false, false, false] rfl rfl (by kernel_rfl) (fun _ _ _ h => h) (Or.inl ⟨by rfl, ?_⟩) hHeld ?_ ?_
  rotate_left
  · rintro w' ⟨s0, s1, s2, s3, s4, s5, s6, s7⟩
    go_simp
    try with_reducible rfl
  rotate_left
  · simp only [Act.put, List.setIfInBounds_toArray, List.set_cons_zero, List.set_cons_succ, i64_w, i32_w]
    rfl
  refine pure_ (i := 8) (N := some 22) (v := ?_) (a' := ?_) #[true, true, true, true, true, true, true, false, true, false, false, false, false] rfl rfl (by kernel_rfl) (fun _ _ _ h => h) (Or.inl ⟨by rfl, ?_⟩) ?_ ?_
  rotate_left
  · intro w'
    go_simp
    try with_reducible rfl
  rotate_left
  · simp only [Act.put, List.setIfInBounds_toArray, List.set_cons_zero, List.set_cons_succ, i64_w, i32_w]
    rfl
  refine pure_ (i := 9) (N := some 23) (v := ?_) (a' := ?_) #[true, true, true, true, true, true, true, false, true, true, false, false, false] rfl rfl (by kernel_rfl) (fun _ _ _ h => h) (Or.inl ⟨by rfl, ?_⟩) ?_ ?_
  rotate_left
  · intro w'
    go_simp
    try with_reducible rfl
  rotate_left
  · simp only [Act.put, List.setIfInBounds_toArray, List.set_cons_zero, List.set_cons_succ, i64_w, i32_w]
    rfl
  refine take_ (i := 10) (N := some 24) (v := ?_) (a' := ?_) #[true, true, true, true, true, true, true, false, true, true, true, false, false] rfl rfl (by kernel_rfl) (fun _ _ _ h => h) (Or.inl ⟨by rfl, ?_⟩) hHeld ?_ ?_
  rotate_left
  · rintro w' ⟨s0, s1, s2, s3, s4, s5, s6, s7⟩
    go_simp
    try with_reducible rfl
  rotate_left
  · simp only [Act.put, List.setIfInBounds_toArray, List.set_cons_zero, List.set_cons_succ, i64_w, i32_w]
    rfl
  refine one_ (i := 7) (N := some 21) #[true, true, true, true, true, true, true, true, true, true, true, false, false] rfl rfl (by kernel_rfl) (by decide) (fun K hK => ?_)
  refine call_ 75 _ (by rfl) rfl (by go_simp; rfl) ?_
  refine (var75_calls f x.f1 w.heap.size _ hO.out.bf.cell).mono ?_
  rintro e w9 ⟨rfl, hb9⟩
  refine ⟨_, rfl, ?_⟩
  replace hO := Aside0.mk (hO.out.step hb9)
  clear hb9
  refine hK.out _ _ (by first | exact hO.out.held | (exact ⟨hO.out.fs.cellp, hO.out.bf.cell, hO.out.bx.cells⟩)) (fun hHeld => ?_)
  clear hK K
  refine norm_ (a' := ?_) ?_ ?_
  rotate_left
  · show Act.put _ (some 21) _ = _
    simp only [Act.put, List.setIfInBounds_toArray, List.set_cons_zero, List.set_cons_succ, i64_w, i32_w]
    rfl
  refine one_ (i := 11) (N := some 25) #[true, true, true, true, true, true, true, true, true, true, true, true, false] rfl rfl (by kernel_rfl) (by decide) (fun K hK => ?_)
  refine call_ 75 _ (by rfl) rfl (by go_simp; rfl) ?_
  refine (var75_calls f x.f2 w.heap.size _ hO.out.bf.cell).mono ?_
  rintro e w9 ⟨rfl, hb9⟩
  refine ⟨_, rfl, ?_⟩
  replace hO := Aside0.mk (hO.out.step hb9)
  clear hb9
  refine hK.out _ _ (by first | exact hO.out.held | (exact ⟨hO.out.fs.cellp, hO.out.bf.cell, hO.out.bx.cells⟩)) (fun hHeld => ?_)
  clear hK K
  refine norm_ (a' := ?_) ?_ ?_
  rotate_left
  · show Act.put _ (some 25) _ = _
    simp only [Act.put, List.setIfInBounds_toArray, List.set_cons_zero, List.set_cons_succ, i64_w, i32_w]
    rfl
  refine last_ (i := 12) (N := some 26) #[true, true, true, true, true, true, true, true, true, true, true, true, true] rfl rfl (by kernel_rfl) (by decide) (fun K hK => ?_)
  refine call_ 12 _ (by rfl) rfl (by go_simp; rfl) ?_
  refine (join_fs _ hO.out.fs (varI_wf _ _) (varI_wf _ _) hin3.out.1 hin3.out.2 hn (by have := hN'.out; omega)).mono ?_
  rintro e w9 ⟨r9, N9, rfl, hr9, hN9, hN9', hF9, hk9⟩
  refine ⟨_, rfl, ?_⟩
  replace hO := Aside0.mk (hO.out.turn hF9 hk9)
  replace hN' := Aside0.mk (Nat.le_trans hN9 hN'.out)
  clear hr9 hN9' hF9 hk9 hN9
  refine hK.out _ _ ?_
  clear hK K
  refine norm_ (a' := ?_) ?_ ?_
  rotate_left
  · show Act.put _ (some 26) _ = _
    simp only [Act.put, List.setIfInBounds_toArray, List.set_cons_zero, List.set_cons_succ, i64_w, i32_w]
    rfl
  refine done_ (by kernel_rfl) ?_
  go_wp2
  go_end0
  exact ⟨⟨_, rfl⟩, _, hN'.out, hO.out.fs, hO.out.kf⟩
set_option maxRecDepth 100000 in
set_option maxHeartbeats 8000000 in
theorem op_2a (w wI : World) (f : Int) (x : S60) (A : Option Addr) (c q p bu bs base nu N : Nat) (E : Int → Int → Prop) (cs : List S28) (h : FS w q p bu bs base nu N E cs) (hn : nu ≤ 100000) (hN : N ≤ 100000) (hcl : cs.length ≤ 1000000)
    (hBI : Below wI.heap.size wI w) (hI : wI.heap.size ≤ q ∧ wI.heap.size ≤ bu ∧ wI.heap.size ≤ bs) (hC : Kd.C (Kd.int .i64) wI A x.f5.length x.f5) (hxl : x.f5.length ≤ 1000000)
    (h2 : x.f0 = 2) (h4 : x.f4 = 1) (hin : ∀ ab ∈ pairsOf f x, E ab.1 ab.1 ∧ E ab.2 ab.2) :
    Calls Try.prog 51 #[.pointer (some ⟨q, 0, none⟩), .int .i64 f, .agg #[.int .i64 x.f0, .int .i64 x.f1, .int .i64 x.f2, .int .i64 x.f3, .int .i64 x.f4, .slice A x.f5.length c]] w (OpR w f x q p bu bs base nu N E cs) := by
  have hmix : Try.prog.follows .mixedOrders = true := by kernel_rfl
  have hu60 := Try.underlying60
  have hu96 := Try.underlying96
  have hp : pairsOf f x = [(varI f x.f1, varI f x.f2), (varI f x.f1, varI f x.f3)] := by unfold pairsOf; rw [if_neg (by omega), if_pos h2, if_pos (by omega)]
  have hcs : cellsOf f x = [] := by unfold cellsOf; rw [h2]; rfl
  have hin3 : Aside0 (E (varI f x.f1) (varI f x.f1) ∧ E (varI f x.f2) (varI f x.f2)) := ⟨hin (varI f x.f1, varI f x.f2) (by rw [hp]; simp)⟩
  have hin4 : Aside0 (E (varI f x.f3) (varI f x.f3)) := ⟨(hin (varI f x.f1, varI f x.f3) (by rw [hp]; simp)).2⟩
  unfold OpR
  rw [hp, hcs, List.append_nil]
  have h3b : (x.f0 == 3) = false := by rw [h2]; rfl
  have h2b : (x.f0 == 2) = true := by rw [h2]; rfl
  have h4b : (x.f4 == 1) = true := by rw [h4]; rfl
  have hO := Aside0.mk (oi_start (f := f) (x := x) (A := A) (c := c) w h)
  have hN' := Aside0.mk (Nat.le_refl N)
  have hx0 := hO.out.held.2.2.1
  have hx4 := hO.out.held.2.2.2.2.2.2.1
  clear hp hcs hin h h2 h4 hC hBI hI
  go_enter Try.func51, Try.ntmps51
  go_wp2
  replace hO := Aside0.mk (hO.out.step (drew_below _))
  refine start_ #[false, false, false, false, false, false, false, false, false, false, false, false, false] (S := fun w' => w'.cell? ⟨q, 0, none⟩ = some (.pointer (some ⟨p, 0, none⟩)) ∧ w'.cell? ⟨w.heap.size, 0, none⟩ = some (.int .i64 f) ∧ w'.cell? ⟨w.heap.size + 1, 0, none⟩ = some (.int .i64 x.f0) ∧ w'.cell? ⟨w.heap.size + 1, 1, none⟩ = some (.int .i64 x.f1) ∧ w'.cell? ⟨w.heap.size + 1, 2, none⟩ = some (.int .i64 x.f2) ∧ w'.cell? ⟨w.heap.size + 1, 3, none⟩ = some (.int .i64 x.f3) ∧ w'.cell? ⟨w.heap.size + 1, 4, none⟩ = some (.int .i64 x.f4) ∧ w'.cell? ⟨w.heap.size + 1, 5, none⟩ = some (.slice A x.f5.length c)) (ds := [12]) hmix rfl rfl ⟨hO.out.fs.cellp, hO.out.bf.cell, hO.out.bx.cells⟩ (fun hHeld => ?_)
  refine pure_ (i := 0) (N := some 37) (v := ?_) (a' := ?_) #[true, false, false, false, false, false, false, false, false, false, false, false, false] rfl rfl (by kernel_rfl) (fun _ _ _ h => h) (Or.inl ⟨by rfl, ?_⟩) ?_ ?_
  rotate_left
  · intro w'
    go_simp
    try with_reducible rfl
  rotate_left
  · simp only [Act.put, List.setIfInBounds_toArray, List.set_cons_zero, List.set_cons_succ, i64_w, i32_w]
    rfl
  refine pure_ (i := 1) (N := some 38) (v := ?_) (a' := ?_) #[true, true, false, false, false, false, false, false, false, false, false, false, false] rfl rfl (by kernel_rfl) (fun _ _ _ h => h) (Or.inl ⟨by rfl, ?_⟩) ?_ ?_
  rotate_left
  · intro w'
    go_simp
    try with_reducible rfl
  rotate_left
  · simp only [Act.put, List.setIfInBounds_toArray, List.set_cons_zero, List.set_cons_succ, i64_w, i32_w]
    rfl
  refine pure_ (i := 2) (N := some 39) (v := ?_) (a' := ?_) #[true, true, true, false, false, false, false, false, false, false, false, false, false] rfl rfl (by kernel_rfl) (fun _ _ _ h => h) (Or.inl ⟨by rfl, ?_⟩) ?_ ?_
  rotate_left
  · intro w'
    go_simp
    try with_reducible rfl
  rotate_left
  · simp only [Act.put, List.setIfInBounds_toArray, List.set_cons_zero, List.set_cons_succ, i64_w, i32_w]
    rfl
  refine take_ (i := 3) (N := some 40) (v := ?_) (a' := ?_) #[true, true, true, true, false, false, false, false, false, false, false, false, false] rfl rfl (by kernel_rfl) (fun _ _ _ h => h) (Or.inl ⟨by rfl, ?_⟩) hHeld ?_ ?_
  rotate_left
  · rintro w' ⟨s0, s1, s2, s3, s4, s5, s6, s7⟩
    go_simp
    try with_reducible rfl
  rotate_left
  · simp only [Act.put, List.setIfInBounds_toArray, List.set_cons_zero, List.set_cons_succ, i64_w, i32_w]
    rfl
  refine pure_ (i := 4) (N := some 41) (v := ?_) (a' := ?_) #[true, true, true, true, true, false, false, false, false, false, false, false, false] rfl rfl (by kernel_rfl) (fun _ _ _ h => h) (Or.inl ⟨by rfl, ?_⟩) ?_ ?_
  rotate_left
  · intro w'
    go_simp
    try with_reducible rfl
  rotate_left
  · simp only [Act.put, List.setIfInBounds_toArray, List.set_cons_zero, List.set_cons_succ, i64_w, i32_w]
    rfl
  refine pure_ (i := 5) (N := some 42) (v := ?_) (a' := ?_) #[true, true, true, true, true, true, false, false, false, false, false, false, false] rfl rfl (by kernel_rfl) (fun _ _ _ h => h) (Or.inl ⟨by rfl, ?_⟩) ?_ ?_
  rotate_left
  · intro w'
    go_simp
    try with_reducible rfl
  rotate_left
  · simp only [Act.put, List.setIfInBounds_toArray, List.set_cons_zero, List.set_cons_succ, i64_w, i32_w]
    rfl
  refine take_ (i := 6) (N := some 43) (v := ?_) (a' := ?_) #[true, true, true, true, true, true, true, false, false, false, false, false, false] rfl rfl (by kernel_rfl) (fun _ _ _ h => h) (Or.inl ⟨by rfl, ?_⟩) hHeld ?_ ?_
  rotate_left
  · rintro w' ⟨s0, s1, s2, s3, s4, s5, s6, s7⟩
    go_simp
    try with_reducible rfl
  rotate_left
  · simp only [Act.put, List.setIfInBounds_toArray, List.set_cons_zero, List.set_cons_succ, i64_w, i32_w]
    rfl
  refine pure_ (i := 8) (N := some 45) (v := ?_) (a' := ?_) #[true, true, true, true, true, true, true, false, true, false, false, false, false] rfl rfl (by kernel_rfl) (fun _ _ _ h => h) (Or.inl ⟨by rfl, ?_⟩) ?_ ?_
  rotate_left
  · intro w'
    go_simp
    try with_reducible rfl
  rotate_left
  · simp only [Act.put, List.setIfInBounds_toArray, List.set_cons_zero, List.set_cons_succ, i64_w, i32_w]
    rfl
  refine pure_ (i := 9) (N := some 46) (v := ?_) (a' := ?_) #[true, true, true, true, true, true, true, false, true, true, false, false, false] rfl rfl (by kernel_rfl) (fun _ _ _ h => h) (Or.inl ⟨by rfl, ?_⟩) ?_ ?_
  rotate_left
  · intro w'
    go_simp
    try with_reducible rfl
  rotate_left
  · simp only [Act.put, List.setIfInBounds_toArray, List.set_cons_zero, List.set_cons_succ, i64_w, i32_w]
    rfl
  refine take_ (i := 10) (N := some 47) (v := ?_) (a' := ?_) #[true, true, true, true, true, true, true, false, true, true, true, false, false] rfl rfl (by kernel_rfl) (fun _ _ _ h => h) (Or.inl ⟨by rfl, ?_⟩) hHeld ?_ ?_
  rotate_left
  · rintro w' ⟨s0, s1, s2, s3, s4, s5, s6, s7⟩
    go_simp
    try with_reducible rfl
  rotate_left
  · simp only [Act.put, List.setIfInBounds_toArray, List.set_cons_zero, List.set_cons_succ, i64_w, i32_w]
    rfl
  refine one_ (i := 7) (N := some 44) #[true, true, true, true, true, true, true, true, true, true, true, false, false] rfl rfl (by kernel_rfl) (by decide) (fun K hK => ?_)
  refine call_ 75 _ (by rfl) rfl (by go_simp; rfl) ?_
  refine (var75_calls f x.f1 w.heap.size _ hO.out.bf.cell).mono ?_
  rintro e w9 ⟨rfl, hb9⟩
  refine ⟨_, rfl, ?_⟩
  replace hO := Aside0.mk (hO.out.step hb9)
  clear hb9
  refine hK.out _ _ (by first | exact hO.out.held | (exact ⟨hO.out.fs.cellp, hO.out.bf.cell, hO.out.bx.cells⟩)) (fun hHeld => ?_)
  clear hK K
  refine norm_ (a' := ?_) ?_ ?_
  rotate_left
  · show Act.put _ (some 44) _ = _
    simp only [Act.put, List.setIfInBounds_toArray, List.set_cons_zero, List.set_cons_succ, i64_w, i32_w]
    rfl
  refine one_ (i := 11) (N := some 48) #[true, true, true, true, true, true, true, true, true, true, true, true, false] rfl rfl (by kernel_rfl) (by decide) (fun K hK => ?_)
  refine call_ 75 _ (by rfl) rfl (by go_simp; rfl) ?_
  refine (var75_calls f x.f2 w.heap.size _ hO.out.bf.cell).mono ?_
  rintro e w9 ⟨rfl, hb9⟩
  refine ⟨_, rfl, ?_⟩
  replace hO := Aside0.mk (hO.out.step hb9)
  clear hb9
  refine hK.out _ _ (by first | exact hO.out.held | (exact ⟨hO.out.fs.cellp, hO.out.bf.cell, hO.out.bx.cells⟩)) (fun hHeld => ?_)
  clear hK K
  refine norm_ (a' := ?_) ?_ ?_
  rotate_left
  · show Act.put _ (some 48) _ = _
    simp only [Act.put, List.setIfInBounds_toArray, List.set_cons_zero, List.set_cons_succ, i64_w, i32_w]
    rfl
  refine last_ (i := 12) (N := some 49) #[true, true, true, true, true, true, true, true, true, true, true, true, true] rfl rfl (by kernel_rfl) (by decide) (fun K hK => ?_)
  refine call_ 12 _ (by rfl) rfl (by go_simp; rfl) ?_
  refine (join_fs _ hO.out.fs (varI_wf _ _) (varI_wf _ _) hin3.out.1 hin3.out.2 hn (by have := hN'.out; omega)).mono ?_
  rintro e w9 ⟨r9, N9, rfl, hr9, hN9, hN9', hF9, hk9⟩
  refine ⟨_, rfl, ?_⟩
  replace hO := Aside0.mk (hO.out.turn hF9 hk9)
  replace hN' := Aside0.mk (Nat.le_trans hN9 hN'.out)
  clear hr9 hN9' hF9 hk9 hN9
  refine hK.out _ _ ?_
  clear hK K
  refine norm_ (a' := ?_) ?_ ?_
  rotate_left
  · show Act.put _ (some 49) _ = _
    simp only [Act.put, List.setIfInBounds_toArray, List.set_cons_zero, List.set_cons_succ, i64_w, i32_w]
    rfl
  refine done_ (by kernel_rfl) ?_
  go_wp2
  replace hO := Aside0.mk (hO.out.step (drew_below _))
  refine start_ #[false, false, false, false, false, false, false, false, false, false, false, false, false] (S := fun w' => w'.cell? ⟨q, 0, none⟩ = some (.pointer (some ⟨p, 0, none⟩)) ∧ w'.cell? ⟨w.heap.size, 0, none⟩ = some (.int .i64 f) ∧ w'.cell? ⟨w.heap.size + 1, 0, none⟩ = some (.int .i64 x.f0) ∧ w'.cell? ⟨w.heap.size + 1, 1, none⟩ = some (.int .i64 x.f1) ∧ w'.cell? ⟨w.heap.size + 1, 2, none⟩ = some (.int .i64 x.f2) ∧ w'.cell? ⟨w.heap.size + 1, 3, none⟩ = some (.int .i64 x.f3) ∧ w'.cell? ⟨w.heap.size + 1, 4, none⟩ = some (.int .i64 x.f4) ∧ w'.cell? ⟨w.heap.size + 1, 5, none⟩ = some (.slice A x.f5.length c)) (ds := [12]) hmix rfl rfl ⟨hO.out.fs.cellp, hO.out.bf.cell, hO.out.bx.cells⟩ (fun hHeld => ?_)
  refine pure_ (i := 0) (N := some 50) (v := ?_) (a' := ?_) #[true, false, false, false, false, false, false, false, false, false, false, false, false] rfl rfl (by kernel_rfl) (fun _ _ _ h => h) (Or.inl ⟨by rfl, ?_⟩) ?_ ?_
  rotate_left
  · intro w'
    go_simp
    try with_reducible rfl
  rotate_left
  · simp only [Act.put, List.setIfInBounds_toArray, List.set_cons_zero, List.set_cons_succ, i64_w, i32_w]
    rfl
  refine pure_ (i := 1) (N := some 51) (v := ?_) (a' := ?_) #[true, true, false, false, false, false, false, false, false, false, false, false, false] rfl rfl (by kernel_rfl) (fun _ _ _ h => h) (Or.inl ⟨by rfl, ?_⟩) ?_ ?_
  rotate_left
  · intro w'
    go_simp
    try with_reducible rfl
  rotate_left
  · simp only [Act.put, List.setIfInBounds_toArray, List.set_cons_zero, List.set_cons_succ, i64_w, i32_w]
    rfl
  refine pure_ (i := 2) (N := some 52) (v := ?_) (a' := ?_) #[true, true, true, false, false, false, false, false, false, false, false, false, false] rfl rfl (by kernel_rfl) (fun _ _ _ h => h) (Or.inl ⟨by rfl, ?_⟩) ?_ ?_
  rotate_left
  · intro w'
    go_simp
    try with_reducible rfl
  rotate_left
  · simp only [Act.put, List.setIfInBounds_toArray, List.set_cons_zero, List.set_cons_succ, i64_w, i32_w]
    rfl
  refine take_ (i := 3) (N := some 53) (v := ?_) (a' := ?_) #[true, true, true, true, false, false, false, false, false, false, false, false, false] rfl rfl (by kernel_rfl) (fun _ _ _ h => h) (Or.inl ⟨by rfl, ?_⟩) hHeld ?_ ?_
  rotate_left
  · rintro w' ⟨s0, s1, s2, s3, s4, s5, s6, s7⟩
    go_simp
    try with_reducible rfl
  rotate_left
  · simp only [Act.put, List.setIfInBounds_toArray, List.set_cons_zero, List.set_cons_succ, i64_w, i32_w]
    rfl
  refine pure_ (i := 4) (N := some 54) (v := ?_) (a' := ?_) #[true, true, true, true, true, false, false, false, false, false, false, false, false] rfl rfl (by kernel_rfl) (fun _ _ _ h => h) (Or.inl ⟨by rfl, ?_⟩) ?_ ?_
  rotate_left
  · intro w'
    go_simp
    try with_reducible rfl
  rotate_left
  · simp only [Act.put, List.setIfInBounds_toArray, List.set_cons_zero, List.set_cons_succ, i64_w, i32_w]
    rfl
  refine pure_ (i := 5) (N := some 55) (v := ?_) (a' := ?_) #[true, true, true, true, true, true, false, false, false, false, false, false, false] rfl rfl (by kernel_rfl) (fun _ _ _ h => h) (Or.inl ⟨by rfl, ?_⟩) ?_ ?_
  rotate_left
  · intro w'
    go_simp
    try with_reducible rfl
  rotate_left
  · simp only [Act.put, List.setIfInBounds_toArray, List.set_cons_zero, List.set_cons_succ, i64_w, i32_w]
    rfl
  refine take_ (i := 6) (N := some 56) (v := ?_) (a' := ?_) #[true, true, true, true, true, true, true, false, false, false, false, false, false] rfl rfl (by kernel_rfl) (fun _ _ _ h => h) (Or.inl ⟨by rfl, ?_⟩) hHeld ?_ ?_
  rotate_left
  · rintro w' ⟨s0, s1, s2, s3, s4, s5, s6, s7⟩
    go_simp
    try with_reducible rfl
  rotate_left
  · simp only [Act.put, List.setIfInBounds_toArray, List.set_cons_zero, List.set_cons_succ, i64_w, i32_w]
    rfl
  refine pure_ (i := 8) (N := some 58) (v := ?_) (a' := ?_) #[true, true, true, true, true, true, true, false, true, false, false, false, false] rfl rfl (by kernel_rfl) (fun _ _ _ h => h) (Or.inl ⟨by rfl, ?_⟩) ?_ ?_
  rotate_left
  · intro w'
    go_simp
    try with_reducible rfl
  rotate_left
  · simp only [Act.put, List.setIfInBounds_toArray, List.set_cons_zero, List.set_cons_succ, i64_w, i32_w]
    rfl
  refine pure_ (i := 9) (N := some 59) (v := ?_) (a' := ?_) #[true, true, true, true, true, true, true, false, true, true, false, false, false] rfl rfl (by kernel_rfl) (fun _ _ _ h => h) (Or.inl ⟨by rfl, ?_⟩) ?_ ?_
  rotate_left
  · intro w'
    go_simp
    try with_reducible rfl
  rotate_left
  · simp only [Act.put, List.setIfInBounds_toArray, List.set_cons_zero, List.set_cons_succ, i64_w, i32_w]
    rfl
  refine take_ (i := 10) (N := some 60) (v := ?_) (a' := ?_) #[true, true, true, true, true, true, true, false, true, true, true, false, false] rfl rfl (by kernel_rfl) (fun _ _ _ h => h) (Or.inl ⟨by rfl, ?_⟩) hHeld ?_ ?_
  rotate_left
  · rintro w' ⟨s0, s1, s2, s3, s4, s5, s6, s7⟩
    go_simp
    try with_reducible rfl
  rotate_left
  · simp only [Act.put, List.setIfInBounds_toArray, List.set_cons_zero, List.set_cons_succ, i64_w, i32_w]
    rfl
  refine one_ (i := 7) (N := some 57) #[true, true, true, true, true, true, true, true, true, true, true, false, false] rfl rfl (by kernel_rfl) (by decide) (fun K hK => ?_)
  refine call_ 75 _ (by rfl) rfl (by go_simp; rfl) ?_
  refine (var75_calls f x.f1 w.heap.size _ hO.out.bf.cell).mono ?_
  rintro e w9 ⟨rfl, hb9⟩
  refine ⟨_, rfl, ?_⟩
  replace hO := Aside0.mk (hO.out.step hb9)
  clear hb9
  refine hK.out _ _ (by first | exact hO.out.held | (exact ⟨hO.out.fs.cellp, hO.out.bf.cell, hO.out.bx.cells⟩)) (fun hHeld => ?_)
  clear hK K
  refine norm_ (a' := ?_) ?_ ?_
  rotate_left
  · show Act.put _ (some 57) _ = _
    simp only [Act.put, List.setIfInBounds_toArray, List.set_cons_zero, List.set_cons_succ, i64_w, i32_w]
    rfl
  refine one_ (i := 11) (N := some 61) #[true, true, true, true, true, true, true, true, true, true, true, true, false] rfl rfl (by kernel_rfl) (by decide) (fun K hK => ?_)
  refine call_ 75 _ (by rfl) rfl (by go_simp; rfl) ?_
  refine (var75_calls f x.f3 w.heap.size _ hO.out.bf.cell).mono ?_
  rintro e w9 ⟨rfl, hb9⟩
  refine ⟨_, rfl, ?_⟩
  replace hO := Aside0.mk (hO.out.step hb9)
  clear hb9
  refine hK.out _ _ (by first | exact hO.out.held | (exact ⟨hO.out.fs.cellp, hO.out.bf.cell, hO.out.bx.cells⟩)) (fun hHeld => ?_)
  clear hK K
  refine norm_ (a' := ?_) ?_ ?_
  rotate_left
  · show Act.put _ (some 61) _ = _
    simp only [Act.put, List.setIfInBounds_toArray, List.set_cons_zero, List.set_cons_succ, i64_w, i32_w]
    rfl
  refine last_ (i := 12) (N := some 62) #[true, true, true, true, true, true, true, true, true, true, true, true, true] rfl rfl (by kernel_rfl) (by decide) (fun K hK => ?_)
  refine call_ 12 _ (by rfl) rfl (by go_simp; rfl) ?_
  refine (join_fs _ hO.out.fs (varI_wf _ _) (varI_wf _ _) (.inl hin3.out.1) (.inl hin4.out) hn (by have := hN'.out; omega)).mono ?_
  rintro e w9 ⟨r9, N9, rfl, hr9, hN9, hN9', hF9, hk9⟩
  refine ⟨_, rfl, ?_⟩
  replace hO := Aside0.mk (hO.out.turn hF9 hk9)
  replace hN' := Aside0.mk (Nat.le_trans hN9 hN'.out)
  clear hr9 hN9' hF9 hk9 hN9
  refine hK.out _ _ ?_
  clear hK K
  refine norm_ (a' := ?_) ?_ ?_
  rotate_left
  · show Act.put _ (some 62) _ = _
    simp only [Act.put, List.setIfInBounds_toArray, List.set_cons_zero, List.set_cons_succ, i64_w, i32_w]
    rfl
  refine done_ (by kernel_rfl) ?_
  go_wp2
  go_end0
  exact ⟨⟨_, rfl⟩, _, hN'.out, hO.out.fs, hO.out.kf⟩
set_option maxRecDepth 100000 in
set_option maxHeartbeats 8000000 in
theorem op_2b (w wI : World) (f : Int) (x : S60) (A : Option Addr) (c q p bu bs base nu N : Nat) (E : Int → Int → Prop) (cs : List S28) (h : FS w q p bu bs base nu N E cs) (hn : nu ≤ 100000) (hN : N ≤ 100000) (hcl : cs.length ≤ 1000000)
    (hBI : Below wI.heap.size wI w) (hI : wI.heap.size ≤ q ∧ wI.heap.size ≤ bu ∧ wI.heap.size ≤ bs) (hC : Kd.C (Kd.int .i64) wI A x.f5.length x.f5) (hxl : x.f5.length ≤ 1000000)
    (h2 : x.f0 = 2) (h4 : x.f4 = 2) (hin : ∀ ab ∈ pairsOf f x, E ab.1 ab.1 ∧ E ab.2 ab.2) :
    Calls Try.prog 51 #[.pointer (some ⟨q, 0, none⟩), .int .i64 f, .agg #[.int .i64 x.f0, .int .i64 x.f1, .int .i64 x.f2, .int .i64 x.f3, .int .i64 x.f4, .slice A x.f5.length c]] w (OpR w f x q p bu bs base nu N E cs) := by
  have hmix : Try.prog.follows .mixedOrders = true := by kernel_rfl
  have hu60 := Try.underlying60
  have hu96 := Try.underlying96
  have hp : pairsOf f x = [(varI f x.f1, varI f x.f2), (varI f x.f1, varI f x.f3)] := by unfold pairsOf; rw [if_neg (by omega), if_pos h2, if_pos (by omega)]
  have hcs : cellsOf f x = [] := by unfold cellsOf; rw [h2]; rfl
  have hin3 : Aside0 (E (varI f x.f1) (varI f x.f1) ∧ E (varI f x.f2) (varI f x.f2)) := ⟨hin (varI f x.f1, varI f x.f2) (by rw [hp]; simp)⟩
  have hin4 : Aside0 (E (varI f x.f3) (varI f x.f3)) := ⟨(hin (varI f x.f1, varI f x.f3) (by rw [hp]; simp)).2⟩
  unfold OpR
  rw [hp, hcs, List.append_nil]
  have h3b : (x.f0 == 3) = false := by rw [h2]; rfl
  have h2b : (x.f0 == 2) = true := by rw [h2]; rfl
  have h4b : (x.f4 == 1) = false := by rw [h4]; rfl
  have h4c : (x.f4 == 2) = true := by rw [h4]; rfl
  have hO := Aside0.mk (oi_start (f := f) (x := x) (A := A) (c := c) w h)
  have hN' := Aside0.mk (Nat.le_refl N)
  have hx0 := hO.out.held.2.2.1
  have hx4 := hO.out.held.2.2.2.2.2.2.1
  clear hp hcs hin h h2 h4 hC hBI hI
  go_enter Try.func51, Try.ntmps51
  go_wp2
  replace hO := Aside0.mk (hO.out.step (drew_below _))
  refine start_ #[false, false, false, false, false, false, false, false, false, false, false, false, false] (S := fun w' => w'.cell? ⟨q, 0, none⟩ = some (.pointer (some ⟨p, 0, none⟩)) ∧ w'.cell? ⟨w.heap.size, 0, none⟩ = some (.int .i64 f) ∧ w'.cell? ⟨w.heap.size + 1, 0, none⟩ = some (.int .i64 x.f0) ∧ w'.cell? ⟨w.heap.size + 1, 1, none⟩ = some (.int .i64 x.f1) ∧ w'.cell? ⟨w.heap.size + 1, 2, none⟩ = some (.int .i64 x.f2) ∧ w'.cell? ⟨w.heap.size + 1, 3, none⟩ = some (.int .i64 x.f3) ∧ w'.cell? ⟨w.heap.size + 1, 4, none⟩ = some (.int .i64 x.f4) ∧ w'.cell? ⟨w.heap.size + 1, 5, none⟩ = some (.slice A x.f5.length c)) (ds := [12]) hmix rfl rfl ⟨hO.out.fs.cellp, hO.out.bf.cell, hO.out.bx.cells⟩ (fun hHeld => ?_)
  refine pure_ (i := 0) (N := some 37) (v := ?_) (a' := ?_) #[true, false, false, false, false, false, false, false, false, false, false, false, false] rfl rfl (by kernel_rfl) (fun _ _ _ h => h) (Or.inl ⟨by rfl, ?_⟩) ?_ ?_
  rotate_left
  · intro w'
    go_simp
    try with_reducible rfl
  rotate_left
  · simp only [Act.put, List.setIfInBounds_toArray, List.set_cons_zero, List.set_cons_succ, i64_w, i32_w]
    rfl
  refine pure_ (i := 1) (N := some 38) (v := ?_) (a' := ?_) #[true, true, false, false, false, false, false, false, false, false, false, false, false] rfl rfl (by kernel_rfl) (fun _ _ _ h => h) (Or.inl ⟨by rfl, ?_⟩) ?_ ?_
  rotate_left
  · intro w'
    go_simp
    try with_reducible rfl
  rotate_left
  · simp only [Act.put, List.setIfInBounds_toArray, List.set_cons_zero, List.set_cons_succ, i64_w, i32_w]
    rfl
  refine pure_ (i := 2) (N := some 39) (v := ?_) (a' := ?_) #[true, true, true, false, false, false, false, false, false, false, false, false, false] rfl rfl (by kernel_rfl) (fun _ _ _ h => h) (Or.inl ⟨by rfl, ?_⟩) ?_ ?_
  rotate_left
  · intro w'
    go_simp
    try with_reducible rfl
  rotate_left
  · simp only [Act.put, List.setIfInBounds_toArray, List.set_cons_zero, List.set_cons_succ, i64_w, i32_w]
    rfl
  refine take_ (i := 3) (N := some 40) (v := ?_) (a' := ?_) #[true, true, true, true, false, false, false, false, false, false, false, false, false] rfl rfl (by kernel_rfl) (fun _ _ _ h => h) (Or.inl ⟨by rfl, ?_⟩) hHeld ?_ ?_
  rotate_left
  · rintro w' ⟨s0, s1, s2, s3, s4, s5, s6, s7⟩
    go_simp
    try with_reducible rfl
  rotate_left
  · simp only [Act.put, List.setIfInBounds_toArray, List.set_cons_zero, List.set_cons_succ, i64_w, i32_w]
    rfl
  refine pure_ (i := 4) (N := some 41) (v := ?_) (a' := ?_) #[true, true, true, true, true, false, false, false, false, false, false, false, false] rfl rfl (by kernel_rfl) (fun _ _ _ h => h) (Or.inl ⟨by rfl, ?_⟩) ?_ ?_
  rotate_left
  · intro w'
    go_simp
    try with_reducible rfl
  rotate_left
  · simp only [Act.put, List.setIfInBounds_toArray, List.set_cons_zero, List.set_cons_succ, i64_w, i32_w]
    rfl
  refine pure_ (i := 5) (N := some 42) (v := ?_) (a' := ?_) #[true, true, true, true, true, true, false, false, false, false, false, false, false] rfl rfl (by kernel_rfl) (fun _ _ _ h => h) (Or.inl ⟨by rfl, ?_⟩) ?_ ?_
  rotate_left
  · intro w'
    go_simp
    try with_reducible rfl
  rotate_left
  · simp only [Act.put, List.setIfInBounds_toArray, List.set_cons_zero, List.set_cons_succ, i64_w, i32_w]
    rfl
  refine take_ (i := 6) (N := some 43) (v := ?_) (a' := ?_) #[true, true, true, true, true, true, true, false, false, false, false, false, false] rfl rfl (by kernel_rfl) (fun _ _ _ h => h) (Or.inl ⟨by rfl, ?_⟩) hHeld ?_ ?_
  rotate_left
  · rintro w' ⟨s0, s1, s2, s3, s4, s5, s6, s7⟩
    go_simp
    try with_reducible rfl
  rotate_left
  · simp only [Act.put, List.setIfInBounds_toArray, List.set_cons_zero, List.set_cons_succ, i64_w, i32_w]
    rfl
  refine pure_ (i := 8) (N := some 45) (v := ?_) (a' := ?_) #[true, true, true, true, true, true, true, false, true, false, false, false, false] rfl rfl (by kernel_rfl) (fun _ _ _ h => h) (Or.inl ⟨by rfl, ?_⟩) ?_ ?_
  rotate_left
  · intro w'
    go_simp
    try with_reducible rfl
  rotate_left
  · simp only [Act.put, List.setIfInBounds_toArray, List.set_cons_zero, List.set_cons_succ, i64_w, i32_w]
    rfl
  refine pure_ (i := 9) (N := some 46) (v := ?_) (a' := ?_) #[true, true, true, true, true, true, true, false, true, true, false, false, false] rfl rfl (by kernel_rfl) (fun _ _ _ h => h) (Or.inl ⟨by rfl, ?_⟩) ?_ ?_
  rotate_left
  · intro w'
    go_simp
    try with_reducible rfl
  rotate_left
  · simp only [Act.put, List.setIfInBounds_toArray, List.set_cons_zero, List.set_cons_succ, i64_w, i32_w]
    rfl
  refine take_ (i := 10) (N := some 47) (v := ?_) (a' := ?_) #[true, true, true, true, true, true, true, false, true, true, true, false, false] rfl rfl (by kernel_rfl) (fun _ _ _ h => h) (Or.inl ⟨by rfl, ?_⟩) hHeld ?_ ?_
  rotate_left
  · rintro w' ⟨s0, s1, s2, s3, s4, s5, s6, s7⟩
    go_simp
    try with_reducible rfl
  rotate_left
  · simp only [Act.put, List.setIfInBounds_toArray, List.set_cons_zero, List.set_cons_succ, i64_w, i32_w]
    rfl
  refine one_ (i := 7) (N := some 44) #[true, true, true, true, true, true, true, true, true, true, true, false, false] rfl rfl (by kernel_rfl) (by decide) (fun K hK => ?_)
  refine call_ 75 _ (by rfl) rfl (by go_simp; rfl) ?_
  refine (var75_calls f x.f1 w.heap.size _ hO.out.bf.cell).mono ?_
  rintro e w9 ⟨rfl, hb9⟩
  refine ⟨_, rfl, ?_⟩
  replace hO := Aside0.mk (hO.out.step hb9)
  clear hb9
  refine hK.out _ _ (by first | exact hO.out.held | (exact ⟨hO.out.fs.cellp, hO.out.bf.cell, hO.out.bx.cells⟩)) (fun hHeld => ?_)
  clear hK K
  refine norm_ (a' := ?_) ?_ ?_
  rotate_left
  · show Act.put _ (some 44) _ = _
    simp only [Act.put, List.setIfInBounds_toArray, List.set_cons_zero, List.set_cons_succ, i64_w, i32_w]
    rfl
  refine one_ (i := 11) (N := some 48) #[true, true, true, true, true, true, true, true, true, true, true, true, false] rfl rfl (by kernel_rfl) (by decide) (fun K hK => ?_)
  refine call_ 75 _ (by rfl) rfl (by go_simp; rfl) ?_
  refine (var75_calls f x.f2 w.heap.size _ hO.out.bf.cell).mono ?_
  rintro e w9 ⟨rfl, hb9⟩
  refine ⟨_, rfl, ?_⟩
  replace hO := Aside0.mk (hO.out.step hb9)
  clear hb9
  refine hK.out _ _ (by first | exact hO.out.held | (exact ⟨hO.out.fs.cellp, hO.out.bf.cell, hO.out.bx.cells⟩)) (fun hHeld => ?_)
  clear hK K
  refine norm_ (a' := ?_) ?_ ?_
  rotate_left
  · show Act.put _ (some 48) _ = _
    simp only [Act.put, List.setIfInBounds_toArray, List.set_cons_zero, List.set_cons_succ, i64_w, i32_w]
    rfl
  refine last_ (i := 12) (N := some 49) #[true, true, true, true, true, true, true, true, true, true, true, true, true] rfl rfl (by kernel_rfl) (by decide) (fun K hK => ?_)
  refine call_ 12 _ (by rfl) rfl (by go_simp; rfl) ?_
  refine (join_fs _ hO.out.fs (varI_wf _ _) (varI_wf _ _) hin3.out.1 hin3.out.2 hn (by have := hN'.out; omega)).mono ?_
  rintro e w9 ⟨r9, N9, rfl, hr9, hN9, hN9', hF9, hk9⟩
  refine ⟨_, rfl, ?_⟩
  replace hO := Aside0.mk (hO.out.turn hF9 hk9)
  replace hN' := Aside0.mk (Nat.le_trans hN9 hN'.out)
  clear hr9 hN9' hF9 hk9 hN9
  refine hK.out _ _ ?_
  clear hK K
  refine norm_ (a' := ?_) ?_ ?_
  rotate_left
  · show Act.put _ (some 49) _ = _
    simp only [Act.put, List.setIfInBounds_toArray, List.set_cons_zero, List.set_cons_succ, i64_w, i32_w]
    rfl
  refine done_ (by kernel_rfl) ?_
  go_wp2
  replace hO := Aside0.mk (hO.out.step (drew_below _))
  refine start_ #[false, false, false, false, false, false, false, false, false, false, false, false, false] (S := fun w' => w'.cell? ⟨q, 0, none⟩ = some (.pointer (some ⟨p, 0, none⟩)) ∧ w'.cell? ⟨w.heap.size, 0, none⟩ = some (.int .i64 f) ∧ w'.cell? ⟨w.heap.size + 1, 0, none⟩ = some (.int .i64 x.f0) ∧ w'.cell? ⟨w.heap.size + 1, 1, none⟩ = some (.int .i64 x.f1) ∧ w'.cell? ⟨w.heap.size + 1, 2, none⟩ = some (.int .i64 x.f2) ∧ w'.cell? ⟨w.heap.size + 1, 3, none⟩ = some (.int .i64 x.f3) ∧ w'.cell? ⟨w.heap.size + 1, 4, none⟩ = some (.int .i64 x.f4) ∧ w'.cell? ⟨w.heap.size + 1, 5, none⟩ = some (.slice A x.f5.length c)) (ds := [12]) hmix rfl rfl ⟨hO.out.fs.cellp, hO.out.bf.cell, hO.out.bx.cells⟩ (fun hHeld => ?_)
  refine pure_ (i := 0) (N := some 50) (v := ?_) (a' := ?_) #[true, false, false, false, false, false, false, false, false, false, false, false, false] rfl rfl (by kernel_rfl) (fun _ _ _ h => h) (Or.inl ⟨by rfl, ?_⟩) ?_ ?_
  rotate_left
  · intro w'
    go_simp
    try with_reducible rfl
  rotate_left
  · simp only [Act.put, List.setIfInBounds_toArray, List.set_cons_zero, List.set_cons_succ, i64_w, i32_w]
    rfl
  refine pure_ (i := 1) (N := some 51) (v := ?_) (a' := ?_) #[true, true, false, false, false, false, false, false, false, false, false, false, false] rfl rfl (by kernel_rfl) (fun _ _ _ h => h) (Or.inl ⟨by rfl, ?_⟩) ?_ ?_
  rotate_left
  · intro w'
    go_simp
    try with_reducible rfl
  rotate_left
  · simp only [Act.put, List.setIfInBounds_toArray, List.set_cons_zero, List.set_cons_succ, i64_w, i32_w]
    rfl
  refine pure_ (i := 2) (N := some 52) (v := ?_) (a' := ?_) #[true, true, true, false, false, false, false, false, false, false, false, false, false] rfl rfl (by kernel_rfl) (fun _ _ _ h => h) (Or.inl ⟨by rfl, ?_⟩) ?_ ?_
  rotate_left
  · intro w'
    go_simp
    try with_reducible rfl
  rotate_left
  · simp only [Act.put, List.setIfInBounds_toArray, List.set_cons_zero, List.set_cons_succ, i64_w, i32_w]
    rfl
  refine take_ (i := 3) (N := some 53) (v := ?_) (a' := ?_) #[true, true, true, true, false, false, false, false, false, false, false, false, false] rfl rfl (by kernel_rfl) (fun _ _ _ h => h) (Or.inl ⟨by rfl, ?_⟩) hHeld ?_ ?_
  rotate_left
  · rintro w' ⟨s0, s1, s2, s3, s4, s5, s6, s7⟩
    go_simp
    try with_reducible rfl
  rotate_left
  · simp only [Act.put, List.setIfInBounds_toArray, List.set_cons_zero, List.set_cons_succ, i64_w, i32_w]
    rfl
  refine pure_ (i := 4) (N := some 54) (v := ?_) (a' := ?_) #[true, true, true, true, true, false, false, false, false, false, false, false, false] rfl rfl (by kernel_rfl) (fun _ _ _ h => h) (Or.inl ⟨by rfl, ?_⟩) ?_ ?_
  rotate_left
  · intro w'
    go_simp
    try with_reducible rfl
  rotate_left
  · simp only [Act.put, List.setIfInBounds_toArray, List.set_cons_zero, List.set_cons_succ, i64_w, i32_w]
    rfl
  refine pure_ (i := 5) (N := some 55) (v := ?_) (a' := ?_) #[true, true, true, true, true, true, false, false, false, false, false, false, false] rfl rfl (by kernel_rfl) (fun _ _ _ h => h) (Or.inl ⟨by rfl, ?_⟩) ?_ ?_
  rotate_left
  · intro w'
    go_simp
    try with_reducible rfl
  rotate_left
  · simp only [Act.put, List.setIfInBounds_toArray, List.set_cons_zero, List.set_cons_succ, i64_w, i32_w]
    rfl
  refine take_ (i := 6) (N := some 56) (v := ?_) (a' := ?_) #[true, true, true, true, true, true, true, false, false, false, false, false, false] rfl rfl (by kernel_rfl) (fun _ _ _ h => h) (Or.inl ⟨by rfl, ?_⟩) hHeld ?_ ?_
  rotate_left
  · rintro w' ⟨s0, s1, s2, s3, s4, s5, s6, s7⟩
    go_simp
    try with_reducible rfl
  rotate_left
  · simp only [Act.put, List.setIfInBounds_toArray, List.set_cons_zero, List.set_cons_succ, i64_w, i32_w]
    rfl
  refine pure_ (i := 8) (N := some 58) (v := ?_) (a' := ?_) #[true, true, true, true, true, true, true, false, true, false, false, false, false] rfl rfl (by kernel_rfl) (fun _ _ _ h => h) (Or.inl ⟨by rfl, ?_⟩) ?_ ?_
  rotate_left
  · intro w'
    go_simp
    try with_reducible rfl
  rotate_left
  · simp only [Act.put, List.setIfInBounds_toArray, List.set_cons_zero, List.set_cons_succ, i64_w, i32_w]
    rfl
  refine pure_ (i := 9) (N := some 59) (v := ?_) (a' := ?_) #[true, true, true, true, true, true, true, false, true, true, false, false, false] rfl rfl (by kernel_rfl) (fun _ _ _ h => h) (Or.inl ⟨by rfl, ?_⟩) ?_ ?_
  rotate_left
  · intro w'
    go_simp
    try with_reducible rfl
  rotate_left
  · simp only [Act.put, List.setIfInBounds_toArray, List.set_cons_zero, List.set_cons_succ, i64_w, i32_w]
    rfl
  refine take_ (i := 10) (N := some 60) (v := ?_) (a' := ?_) #[true, true, true, true, true, true, true, false, true, true, true, false, false] rfl rfl (by kernel_rfl) (fun _ _ _ h => h) (Or.inl ⟨by rfl, ?_⟩) hHeld ?_ ?_
  rotate_left
  · rintro w' ⟨s0, s1, s2, s3, s4, s5, s6, s7⟩
    go_simp
    try with_reducible rfl
  rotate_left
  · simp only [Act.put, List.setIfInBounds_toArray, List.set_cons_zero, List.set_cons_succ, i64_w, i32_w]
    rfl
  refine one_ (i := 7) (N := some 57) #[true, true, true, true, true, true, true, true, true, true, true, false, false] rfl rfl (by kernel_rfl) (by decide) (fun K hK => ?_)
  refine call_ 75 _ (by rfl) rfl (by go_simp; rfl) ?_
  refine (var75_calls f x.f1 w.heap.size _ hO.out.bf.cell).mono ?_
  rintro e w9 ⟨rfl, hb9⟩
  refine ⟨_, rfl, ?_⟩
  replace hO := Aside0.mk (hO.out.step hb9)
  clear hb9
  refine hK.out _ _ (by first | exact hO.out.held | (exact ⟨hO.out.fs.cellp, hO.out.bf.cell, hO.out.bx.cells⟩)) (fun hHeld => ?_)
  clear hK K
  refine norm_ (a' := ?_) ?_ ?_
  rotate_left
  · show Act.put _ (some 57) _ = _
    simp only [Act.put, List.setIfInBounds_toArray, List.set_cons_zero, List.set_cons_succ, i64_w, i32_w]
    rfl
  refine one_ (i := 11) (N := some 61) #[true, true, true, true, true, true, true, true, true, true, true, true, false] rfl rfl (by kernel_rfl) (by decide) (fun K hK => ?_)
  refine call_ 75 _ (by rfl) rfl (by go_simp; rfl) ?_
  refine (var75_calls f x.f3 w.heap.size _ hO.out.bf.cell).mono ?_
  rintro e w9 ⟨rfl, hb9⟩
  refine ⟨_, rfl, ?_⟩
  replace hO := Aside0.mk (hO.out.step hb9)
  clear hb9
  refine hK.out _ _ (by first | exact hO.out.held | (exact ⟨hO.out.fs.cellp, hO.out.bf.cell, hO.out.bx.cells⟩)) (fun hHeld => ?_)
  clear hK K
  refine norm_ (a' := ?_) ?_ ?_
  rotate_left
  · show Act.put _ (some 61) _ = _
    simp only [Act.put, List.setIfInBounds_toArray, List.set_cons_zero, List.set_cons_succ, i64_w, i32_w]
    rfl
  refine last_ (i := 12) (N := some 62) #[true, true, true, true, true, true, true, true, true, true, true, true, true] rfl rfl (by kernel_rfl) (by decide) (fun K hK => ?_)
  refine call_ 12 _ (by rfl) rfl (by go_simp; rfl) ?_
  refine (join_fs _ hO.out.fs (varI_wf _ _) (varI_wf _ _) (.inl hin3.out.1) (.inl hin4.out) hn (by have := hN'.out; omega)).mono ?_
  rintro e w9 ⟨r9, N9, rfl, hr9, hN9, hN9', hF9, hk9⟩
  refine ⟨_, rfl, ?_⟩
  replace hO := Aside0.mk (hO.out.turn hF9 hk9)
  replace hN' := Aside0.mk (Nat.le_trans hN9 hN'.out)
  clear hr9 hN9' hF9 hk9 hN9
  refine hK.out _ _ ?_
  clear hK K
  refine norm_ (a' := ?_) ?_ ?_
  rotate_left
  · show Act.put _ (some 62) _ = _
    simp only [Act.put, List.setIfInBounds_toArray, List.set_cons_zero, List.set_cons_succ, i64_w, i32_w]
    rfl
  refine done_ (by kernel_rfl) ?_
  go_wp2
  go_end0
  exact ⟨⟨_, rfl⟩, _, hN'.out, hO.out.fs, hO.out.kf⟩
set_option maxRecDepth 100000 in
set_option maxHeartbeats 8000000 in
theorem op_2c (w wI : World) (f : Int) (x : S60) (A : Option Addr) (c q p bu bs base nu N : Nat) (E : Int → Int → Prop) (cs : List S28) (h : FS w q p bu bs base nu N E cs) (hn : nu ≤ 100000) (hN : N ≤ 100000) (hcl : cs.length ≤ 1000000)
    (hBI : Below wI.heap.size wI w) (hI : wI.heap.size ≤ q ∧ wI.heap.size ≤ bu ∧ wI.heap.size ≤ bs) (hC : Kd.C (Kd.int .i64) wI A x.f5.length x.f5) (hxl : x.f5.length ≤ 1000000)
    (h2 : x.f0 = 2) (h4 : ¬ (x.f4 = 1 ∨ x.f4 = 2)) (hin : ∀ ab ∈ pairsOf f x, E ab.1 ab.1 ∧ E ab.2 ab.2) :
    Calls Try.prog 51 #[.pointer (some ⟨q, 0, none⟩), .int .i64 f, .agg #[.int .i64 x.f0, .int .i64 x.f1, .int .i64 x.f2, .int .i64 x.f3, .int .i64 x.f4, .slice A x.f5.length c]] w (OpR w f x q p bu bs base nu N E cs) := by
  have hmix : Try.prog.follows .mixedOrders = true := by kernel_rfl
  have hu60 := Try.underlying60
  have hu96 := Try.underlying96
  have hp : pairsOf f x = [] := by unfold pairsOf; rw [if_neg (by omega), if_pos h2, if_neg h4]
  have hcs : cellsOf f x = [] := by unfold cellsOf; rw [h2]; rfl
  unfold OpR
  rw [hp, hcs, List.append_nil]
  have h3b : (x.f0 == 3) = false := by rw [h2]; rfl
  have h2b : (x.f0 == 2) = true := by rw [h2]; rfl
  have h4b : (x.f4 == 1) = false := beq_false_of_ne (by omega)
  have h4c : (x.f4 == 2) = false := beq_false_of_ne (by omega)
  have hO := Aside0.mk (oi_start (f := f) (x := x) (A := A) (c := c) w h)
  have hN' := Aside0.mk (Nat.le_refl N)
  have hx0 := hO.out.held.2.2.1
  have hx4 := hO.out.held.2.2.2.2.2.2.1
  clear hp hcs hin h h2 h4 hC hBI hI
  go_enter Try.func51, Try.ntmps51
  go_wp2
  go_end0
  exact ⟨⟨_, rfl⟩, _, hN'.out, hO.out.fs, hO.out.kf⟩
set_option maxRecDepth 100000 in
set_option maxHeartbeats 8000000 in
theorem op_4 (w wI : World) (f : Int) (x : S60) (A : Option Addr) (c q p bu bs base nu N : Nat) (E : Int → Int → Prop) (cs : List S28) (h : FS w q p bu bs base nu N E cs) (hn : nu ≤ 100000) (hN : N ≤ 100000) (hcl : cs.length ≤ 1000000)
    (hBI : Below wI.heap.size wI w) (hI : wI.heap.size ≤ q ∧ wI.heap.size ≤ bu ∧ wI.heap.size ≤ bs) (hC : Kd.C (Kd.int .i64) wI A x.f5.length x.f5) (hxl : x.f5.length ≤ 1000000)
    (h4 : x.f0 = 4) (hin : ∀ ab ∈ pairsOf f x, E ab.1 ab.1 ∧ E ab.2 ab.2) :
    Calls Try.prog 51 #[.pointer (some ⟨q, 0, none⟩), .int .i64 f, .agg #[.int .i64 x.f0, .int .i64 x.f1, .int .i64 x.f2, .int .i64 x.f3, .int .i64 x.f4, .slice A x.f5.length c]] w (OpR w f x q p bu bs base nu N E cs) := by
  have hmix : Try.prog.follows .mixedOrders = true := by kernel_rfl
  have hu60 := Try.underlying60
  have hu96 := Try.underlying96
  have hp : pairsOf f x = [] := by unfold pairsOf; rw [if_neg (by omega), if_neg (by omega), if_neg (by omega)]
  have hcs : cellsOf f x = [⟨varI f x.f2, varI f x.f1⟩] := by unfold cellsOf; rw [h4]; rfl
  unfold OpR
  rw [hp, hcs]
  have h3b : (x.f0 == 3) = false := by rw [h4]; rfl
  have h2b : (x.f0 == 2) = false := by rw [h4]; rfl
  have h4b : (x.f0 == 4) = true := by rw [h4]; rfl

  have hO := Aside0.mk (oi_start (f := f) (x := x) (A := A) (c := c) w h)
  have hN' := Aside0.mk (Nat.le_refl N)
  have hx0 := hO.out.held.2.2.1
  have hx4 := hO.out.held.2.2.2.2.2.2.1
  obtain ⟨v0, hv0, hr0⟩ := hO.out.fs.ex
  obtain ⟨Ac, cc, rfl⟩ := Kd.R_slice hr0
  replace hO := Aside0.mk (OJ.mk hO.out hv0 hr0 (below_alloc (below_alloc (Below.refl _ _) _) _))
  have hcl' := Aside0.mk hcl
  have hbase := Aside0.mk (show base ≤ w.heap.size from h.sz)
  clear hp hcs hin h h4 hC hBI hI hv0 hr0 hcl
  go_enter Try.func51, Try.ntmps51
  go_wp2
  replace hO := Aside0.mk (hO.out.step (drew_below _))
  refine start_ #[false, false, false, false, false, false, false, false, false, false, false, false, false, false, false, false, false, false, false] (S := fun w' => w'.cell? ⟨q, 0, none⟩ = some (.pointer (some ⟨p, 0, none⟩)) ∧ w'.cell? ⟨w.heap.size, 0, none⟩ = some (.int .i64 f) ∧ w'.cell? ⟨w.heap.size + 1, 0, none⟩ = some (.int .i64 x.f0) ∧ w'.cell? ⟨w.heap.size + 1, 1, none⟩ = some (.int .i64 x.f1) ∧ w'.cell? ⟨w.heap.size + 1, 2, none⟩ = some (.int .i64 x.f2) ∧ w'.cell? ⟨w.heap.size + 1, 3, none⟩ = some (.int .i64 x.f3) ∧ w'.cell? ⟨w.heap.size + 1, 4, none⟩ = some (.int .i64 x.f4) ∧ w'.cell? ⟨w.heap.size + 1, 5, none⟩ = some (.slice A x.f5.length c) ∧ w'.cell? ⟨q, 1, none⟩ = some (.slice Ac cs.length cc)) (ds := [15, 18]) hmix rfl rfl hO.out.held (fun hHeld => ?_)
  refine pure_ (i := 0) (N := some 65) (v := ?_) (a' := ?_) #[true, false, false, false, false, false, false, false, false, false, false, false, false, false, false, false, false, false, false] rfl rfl (by kernel_rfl) (fun _ _ _ h => h) (Or.inl ⟨by rfl, ?_⟩) ?_ ?_
  rotate_left
  · intro w'
    go_simp
    try with_reducible rfl
  rotate_left
  · simp only [Act.put, List.setIfInBounds_toArray, List.set_cons_zero, List.set_cons_succ, i64_w, i32_w]
    rfl
  refine pure_ (i := 1) (N := some 66) (v := ?_) (a' := ?_) #[true, true, false, false, false, false, false, false, false, false, false, false, false, false, false, false, false, false, false] rfl rfl (by kernel_rfl) (fun _ _ _ h => h) (Or.inl ⟨by rfl, ?_⟩) ?_ ?_
  rotate_left
  · intro w'
    go_simp
    try with_reducible rfl
  rotate_left
  · simp only [Act.put, List.setIfInBounds_toArray, List.set_cons_zero, List.set_cons_succ, i64_w, i32_w]
    rfl
  refine pure_ (i := 2) (N := some 67) (v := ?_) (a' := ?_) #[true, true, true, false, false, false, false, false, false, false, false, false, false, false, false, false, false, false, false] rfl rfl (by kernel_rfl) (fun _ _ _ h => h) (Or.inl ⟨by rfl, ?_⟩) ?_ ?_
  rotate_left
  · intro w'
    go_simp
    try with_reducible rfl
  rotate_left
  · simp only [Act.put, List.setIfInBounds_toArray, List.set_cons_zero, List.set_cons_succ, i64_w, i32_w]
    rfl
  refine pure_ (i := 3) (N := some 68) (v := ?_) (a' := ?_) #[true, true, true, true, false, false, false, false, false, false, false, false, false, false, false, false, false, false, false] rfl rfl (by kernel_rfl) (fun _ _ _ h => h) (Or.inl ⟨by rfl, ?_⟩) ?_ ?_
  rotate_left
  · intro w'
    go_simp
    try with_reducible rfl
  rotate_left
  · simp only [Act.put, List.setIfInBounds_toArray, List.set_cons_zero, List.set_cons_succ, i64_w, i32_w]
    rfl
  refine take_ (i := 4) (N := some 69) (v := ?_) (a' := ?_) #[true, true, true, true, true, false, false, false, false, false, false, false, false, false, false, false, false, false, false] rfl rfl (by kernel_rfl) (fun _ _ _ h => h) (Or.inl ⟨by rfl, ?_⟩) hHeld ?_ ?_
  rotate_left
  · rintro w' ⟨s0, s1, s2, s3, s4, s5, s6, s7, s8⟩
    go_simp
    try with_reducible rfl
  rotate_left
  · simp only [Act.put, List.setIfInBounds_toArray, List.set_cons_zero, List.set_cons_succ, i64_w, i32_w]
    rfl
  refine pure_ (i := 5) (N := some 70) (v := ?_) (a' := ?_) #[true, true, true, true, true, true, false, false, false, false, false, false, false, false, false, false, false, false, false] rfl rfl (by kernel_rfl) (fun _ _ _ h => h) (Or.inl ⟨by rfl, ?_⟩) ?_ ?_
  rotate_left
  · intro w'
    go_simp
    try with_reducible rfl
  rotate_left
  · simp only [Act.put, List.setIfInBounds_toArray, List.set_cons_zero, List.set_cons_succ, i64_w, i32_w]
    rfl
  refine pure_ (i := 6) (N := some 71) (v := ?_) (a' := ?_) #[true, true, true, true, true, true, true, false, false, false, false, false, false, false, false, false, false, false, false] rfl rfl (by kernel_rfl) (fun _ _ _ h => h) (Or.inl ⟨by rfl, ?_⟩) ?_ ?_
  rotate_left
  · intro w'
    go_simp
    try with_reducible rfl
  rotate_left
  · simp only [Act.put, List.setIfInBounds_toArray, List.set_cons_zero, List.set_cons_succ, i64_w, i32_w]
    rfl
  refine take_ (i := 7) (N := some 72) (v := ?_) (a' := ?_) #[true, true, true, true, true, true, true, true, false, false, false, false, false, false, false, false, false, false, false] rfl rfl (by kernel_rfl) (fun _ _ _ h => h) (Or.inl ⟨by rfl, ?_⟩) hHeld ?_ ?_
  rotate_left
  · rintro w' ⟨s0, s1, s2, s3, s4, s5, s6, s7, s8⟩
    go_simp
    try with_reducible rfl
  rotate_left
  · simp only [Act.put, List.setIfInBounds_toArray, List.set_cons_zero, List.set_cons_succ, i64_w, i32_w]
    rfl
  refine pure_ (i := 9) (N := some 74) (v := ?_) (a' := ?_) #[true, true, true, true, true, true, true, true, false, true, false, false, false, false, false, false, false, false, false] rfl rfl (by kernel_rfl) (fun _ _ _ h => h) (Or.inl ⟨by rfl, ?_⟩) ?_ ?_
  rotate_left
  · intro w'
    go_simp
    try with_reducible rfl
  rotate_left
  · simp only [Act.put, List.setIfInBounds_toArray, List.set_cons_zero, List.set_cons_succ, i64_w, i32_w]
    rfl
  refine pure_ (i := 10) (N := some 75) (v := ?_) (a' := ?_) #[true, true, true, true, true, true, true, true, false, true, true, false, false, false, false, false, false, false, false] rfl rfl (by kernel_rfl) (fun _ _ _ h => h) (Or.inl ⟨by rfl, ?_⟩) ?_ ?_
  rotate_left
  · intro w'
    go_simp
    try with_reducible rfl
  rotate_left
  · simp only [Act.put, List.setIfInBounds_toArray, List.set_cons_zero, List.set_cons_succ, i64_w, i32_w]
    rfl
  refine take_ (i := 11) (N := some 76) (v := ?_) (a' := ?_) #[true, true, true, true, true, true, true, true, false, true, true, true, false, false, false, false, false, false, false] rfl rfl (by kernel_rfl) (fun _ _ _ h => h) (Or.inl ⟨by rfl, ?_⟩) hHeld ?_ ?_
  rotate_left
  · rintro w' ⟨s0, s1, s2, s3, s4, s5, s6, s7, s8⟩
    go_simp
    try with_reducible rfl
  rotate_left
  · simp only [Act.put, List.setIfInBounds_toArray, List.set_cons_zero, List.set_cons_succ, i64_w, i32_w]
    rfl
  refine one_ (i := 8) (N := some 73) #[true, true, true, true, true, true, true, true, true, true, true, true, false, false, false, false, false, false, false] rfl rfl (by kernel_rfl) (by decide) (fun K hK => ?_)
  refine call_ 75 _ (by rfl) rfl (by go_simp; rfl) ?_
  refine (var75_calls f x.f2 w.heap.size _ hO.out.oi.bf.cell).mono ?_
  rintro e w9 ⟨rfl, hb9⟩
  refine ⟨_, rfl, ?_⟩
  replace hO := Aside0.mk (hO.out.step hb9)
  clear hb9
  refine hK.out _ _ hO.out.held (fun hHeld => ?_)
  clear hK K
  refine norm_ (a' := ?_) ?_ ?_
  rotate_left
  · show Act.put _ (some 73) _ = _
    simp only [Act.put, List.setIfInBounds_toArray, List.set_cons_zero, List.set_cons_succ, i64_w, i32_w]
    rfl
  refine one_ (i := 12) (N := some 77) #[true, true, true, true, true, true, true, true, true, true, true, true, true, false, false, false, false, false, false] rfl rfl (by kernel_rfl) (by decide) (fun K hK => ?_)
  refine call_ 75 _ (by rfl) rfl (by go_simp; rfl) ?_
  refine (var75_calls f x.f1 w.heap.size _ hO.out.oi.bf.cell).mono ?_
  rintro e w9 ⟨rfl, hb9⟩
  refine ⟨_, rfl, ?_⟩
  replace hO := Aside0.mk (hO.out.step hb9)
  clear hb9
  refine hK.out _ _ hO.out.held (fun hHeld => ?_)
  clear hK K
  refine norm_ (a' := ?_) ?_ ?_
  rotate_left
  · show Act.put _ (some 77) _ = _
    simp only [Act.put, List.setIfInBounds_toArray, List.set_cons_zero, List.set_cons_succ, i64_w, i32_w]
    rfl
  refine pure_ (i := 13) (N := some 78) (v := ?_) (a' := ?_) #[true, true, true, true, true, true, true, true, true, true, true, true, true, true, false, false, false, false, false] rfl rfl (by kernel_rfl) (fun _ _ _ h => h) (Or.inl ⟨by rfl, ?_⟩) ?_ ?_
  rotate_left
  · intro w'
    go_simp
    try with_reducible rfl
  rotate_left
  · simp only [Act.put, List.setIfInBounds_toArray, List.set_cons_zero, List.set_cons_succ, i64_w, i32_w]
    rfl
  refine one_ (i := 14) (N := some 79) #[true, true, true, true, true, true, true, true, true, true, true, true, true, true, true, false, false, false, false] rfl rfl (by kernel_rfl) (by decide) (fun K hK => ?_)
  refine value_ (w1 := ?_) (v := ?_) (by rfl) rfl ?_ ?_
  rotate_left 2
  · go_simp
    constructor
    · rfl
    · rfl
  refine hK.out _ _ (hO.out.step (below_alloc (Below.refl _ _) _)).held (fun hHeld => ?_)
  clear hK K
  refine norm_ (a' := ?_) ?_ ?_
  rotate_left
  · show Act.put _ (some 79) _ = _
    simp only [Act.put, List.setIfInBounds_toArray, List.set_cons_zero, List.set_cons_succ, i64_w, i32_w]
    rfl
  refine last_ (i := 15) (N := some 80) #[true, true, true, true, true, true, true, true, true, true, true, true, true, true, true, true, false, false, false] rfl rfl (by kernel_rfl) (by decide) (fun K hK => ?_)
  refine Kd.R_append_step k28 (w0 := w) base (by rfl) (.tmp 69) (.tmp 79) 22 28 (.agg #[(.int .i64 0), (.int .i64 0)]) 16 rfl Try.underlying22 info28 rfl (by decide) (by omega) (.slice Ac cs.length cc) cs ⟨varI f x.f2, varI f x.f1⟩ [.int .i64 (varI f x.f2), .int .i64 (varI f x.f1)] (fun _ => True) (fun _ => False) rfl rfl ?aP (fun k h => h.elim) (fun _ _ => trivial) hO.out.hr ?aB ?aS ?aL ?_
  (case aP => exact k28_mkM _ _ _ _)
  (case aB => exact hO.out.hb.mono hbase.out)
  (case aS => exact hO.out.oi.fs.sz)
  (case aL => have := hcl'.out; omega)
  intro v1 w4 hv1 hb4 hg4 hat4
  obtain ⟨Av, cv, hve⟩ := Kd.R_slice hv1
  rw [show (cs ++ [(⟨varI f x.f2, varI f x.f1⟩ : S28)]).length = cs.length + 1 by simp] at hve
  subst hve
  have hA4 := Aside0.mk (hO.out.fin hv1 hg4)
  clear hv1 hb4 hg4 hat4
  refine hK.out _ _ ?_
  clear hK K
  refine norm_ (a' := ?_) ?_ ?_
  rotate_left
  · show Act.put _ (some 80) _ = _
    simp only [Act.put, List.setIfInBounds_toArray, List.set_cons_zero, List.set_cons_succ, i64_w, i32_w]
    rfl
  refine pure_ (i := 16) (N := some 81) (v := ?_) (a' := ?_) #[true, true, true, true, true, true, true, true, true, true, true, true, true, true, true, true, true, false, false] rfl rfl (by kernel_rfl) (fun _ _ _ h => h) (Or.inl ⟨by rfl, ?_⟩) ?_ ?_
  rotate_left
  · intro w'
    go_simp
    try with_reducible rfl
  rotate_left
  · simp only [Act.put, List.setIfInBounds_toArray, List.set_cons_zero, List.set_cons_succ, i64_w, i32_w]
    rfl
  refine pure_ (i := 17) (N := some 82) (v := ?_) (a' := ?_) #[true, true, true, true, true, true, true, true, true, true, true, true, true, true, true, true, true, true, false] rfl rfl (by kernel_rfl) (fun _ _ _ h => h) (Or.inl ⟨by rfl, ?_⟩) ?_ ?_
  rotate_left
  · intro w'
    go_simp
    try with_reducible rfl
  rotate_left
  · simp only [Act.put, List.setIfInBounds_toArray, List.set_cons_zero, List.set_cons_succ, i64_w, i32_w]
    rfl
  refine last_ (i := 18) (N := none) #[true, true, true, true, true, true, true, true, true, true, true, true, true, true, true, true, true, true, true] rfl rfl (by kernel_rfl) (by decide) (fun K hK => ?_)
  have z0 := hA4.out.1
  have z1 := hA4.out.2.1
  refine skip_ (w1 := ?_) (by rfl) rfl ?_ ?_
  rotate_left
  · go_simp
    rfl
  refine hK.out _ _ ?_
  clear hK K
  refine done_ (by kernel_rfl) ?_
  go_wp2
  go_end0
  exact ⟨⟨_, rfl⟩, _, hN'.out, hA4.out.2.2.1, hA4.out.2.2.2⟩
set_option maxRecDepth 100000 in
set_option maxHeartbeats 8000000 in
theorem op_5 (w wI : World) (f : Int) (x : S60) (A : Option Addr) (c q p bu bs base nu N : Nat) (E : Int → Int → Prop) (cs : List S28) (h : FS w q p bu bs base nu N E cs) (hn : nu ≤ 100000) (hN : N ≤ 100000) (hcl : cs.length ≤ 1000000)
    (hBI : Below wI.heap.size wI w) (hI : wI.heap.size ≤ q ∧ wI.heap.size ≤ bu ∧ wI.heap.size ≤ bs) (hC : Kd.C (Kd.int .i64) wI A x.f5.length x.f5) (hxl : x.f5.length ≤ 1000000)
    (h4 : x.f0 = 5) (hin : ∀ ab ∈ pairsOf f x, E ab.1 ab.1 ∧ E ab.2 ab.2) :
    Calls Try.prog 51 #[.pointer (some ⟨q, 0, none⟩), .int .i64 f, .agg #[.int .i64 x.f0, .int .i64 x.f1, .int .i64 x.f2, .int .i64 x.f3, .int .i64 x.f4, .slice A x.f5.length c]] w (OpR w f x q p bu bs base nu N E cs) := by
  have hmix : Try.prog.follows .mixedOrders = true := by kernel_rfl
  have hu60 := Try.underlying60
  have hu96 := Try.underlying96
  have hp : pairsOf f x = [] := by unfold pairsOf; rw [if_neg (by omega), if_neg (by omega), if_neg (by omega)]
  have hcs : cellsOf f x = [⟨varI f x.f2, varI f x.f3⟩] := by unfold cellsOf; rw [h4]; rfl
  unfold OpR
  rw [hp, hcs]
  have h3b : (x.f0 == 3) = false := by rw [h4]; rfl
  have h2b : (x.f0 == 2) = false := by rw [h4]; rfl
  have h4b : (x.f0 == 4) = false := by rw [h4]; rfl
  have h5b : (x.f0 == 5) = true := by rw [h4]; rfl

  have hO := Aside0.mk (oi_start (f := f) (x := x) (A := A) (c := c) w h)
  have hN' := Aside0.mk (Nat.le_refl N)
  have hx0 := hO.out.held.2.2.1
  have hx4 := hO.out.held.2.2.2.2.2.2.1
  obtain ⟨v0, hv0, hr0⟩ := hO.out.fs.ex
  obtain ⟨Ac, cc, rfl⟩ := Kd.R_slice hr0
  replace hO := Aside0.mk (OJ.mk hO.out hv0 hr0 (below_alloc (below_alloc (Below.refl _ _) _) _))
  have hcl' := Aside0.mk hcl
  have hbase := Aside0.mk (show base ≤ w.heap.size from h.sz)
  clear hp hcs hin h h4 hC hBI hI hv0 hr0 hcl
  go_enter Try.func51, Try.ntmps51
  go_wp2
  replace hO := Aside0.mk (hO.out.step (drew_below _))
  refine start_ #[false, false, false, false, false, false, false, false, false, false, false, false, false, false, false, false, false, false, false] (S := fun w' => w'.cell? ⟨q, 0, none⟩ = some (.pointer (some ⟨p, 0, none⟩)) ∧ w'.cell? ⟨w.heap.size, 0, none⟩ = some (.int .i64 f) ∧ w'.cell? ⟨w.heap.size + 1, 0, none⟩ = some (.int .i64 x.f0) ∧ w'.cell? ⟨w.heap.size + 1, 1, none⟩ = some (.int .i64 x.f1) ∧ w'.cell? ⟨w.heap.size + 1, 2, none⟩ = some (.int .i64 x.f2) ∧ w'.cell? ⟨w.heap.size + 1, 3, none⟩ = some (.int .i64 x.f3) ∧ w'.cell? ⟨w.heap.size + 1, 4, none⟩ = some (.int .i64 x.f4) ∧ w'.cell? ⟨w.heap.size + 1, 5, none⟩ = some (.slice A x.f5.length c) ∧ w'.cell? ⟨q, 1, none⟩ = some (.slice Ac cs.length cc)) (ds := [15, 18]) hmix rfl rfl hO.out.held (fun hHeld => ?_)
  refine pure_ (i := 0) (N := some 85) (v := ?_) (a' := ?_) #[true, false, false, false, false, false, false, false, false, false, false, false, false, false, false, false, false, false, false] rfl rfl (by kernel_rfl) (fun _ _ _ h => h) (Or.inl ⟨by rfl, ?_⟩) ?_ ?_
  rotate_left
  · intro w'
    go_simp
    try with_reducible rfl
  rotate_left
  · simp only [Act.put, List.setIfInBounds_toArray, List.set_cons_zero, List.set_cons_succ, i64_w, i32_w]
    rfl
  refine pure_ (i := 1) (N := some 86) (v := ?_) (a' := ?_) #[true, true, false, false, false, false, false, false, false, false, false, false, false, false, false, false, false, false, false] rfl rfl (by kernel_rfl) (fun _ _ _ h => h) (Or.inl ⟨by rfl, ?_⟩) ?_ ?_
  rotate_left
  · intro w'
    go_simp
    try with_reducible rfl
  rotate_left
  · simp only [Act.put, List.setIfInBounds_toArray, List.set_cons_zero, List.set_cons_succ, i64_w, i32_w]
    rfl
  refine pure_ (i := 2) (N := some 87) (v := ?_) (a' := ?_) #[true, true, true, false, false, false, false, false, false, false, false, false, false, false, false, false, false, false, false] rfl rfl (by kernel_rfl) (fun _ _ _ h => h) (Or.inl ⟨by rfl, ?_⟩) ?_ ?_
  rotate_left
  · intro w'
    go_simp
    try with_reducible rfl
  rotate_left
  · simp only [Act.put, List.setIfInBounds_toArray, List.set_cons_zero, List.set_cons_succ, i64_w, i32_w]
    rfl
  refine pure_ (i := 3) (N := some 88) (v := ?_) (a' := ?_) #[true, true, true, true, false, false, false, false, false, false, false, false, false, false, false, false, false, false, false] rfl rfl (by kernel_rfl) (fun _ _ _ h => h) (Or.inl ⟨by rfl, ?_⟩) ?_ ?_
  rotate_left
  · intro w'
    go_simp
    try with_reducible rfl
  rotate_left
  · simp only [Act.put, List.setIfInBounds_toArray, List.set_cons_zero, List.set_cons_succ, i64_w, i32_w]
    rfl
  refine take_ (i := 4) (N := some 89) (v := ?_) (a' := ?_) #[true, true, true, true, true, false, false, false, false, false, false, false, false, false, false, false, false, false, false] rfl rfl (by kernel_rfl) (fun _ _ _ h => h) (Or.inl ⟨by rfl, ?_⟩) hHeld ?_ ?_
  rotate_left
  · rintro w' ⟨s0, s1, s2, s3, s4, s5, s6, s7, s8⟩
    go_simp
    try with_reducible rfl
  rotate_left
  · simp only [Act.put, List.setIfInBounds_toArray, List.set_cons_zero, List.set_cons_succ, i64_w, i32_w]
    rfl
  refine pure_ (i := 5) (N := some 90) (v := ?_) (a' := ?_) #[true, true, true, true, true, true, false, false, false, false, false, false, false, false, false, false, false, false, false] rfl rfl (by kernel_rfl) (fun _ _ _ h => h) (Or.inl ⟨by rfl, ?_⟩) ?_ ?_
  rotate_left
  · intro w'
    go_simp
    try with_reducible rfl
  rotate_left
  · simp only [Act.put, List.setIfInBounds_toArray, List.set_cons_zero, List.set_cons_succ, i64_w, i32_w]
    rfl
  refine pure_ (i := 6) (N := some 91) (v := ?_) (a' := ?_) #[true, true, true, true, true, true, true, false, false, false, false, false, false, false, false, false, false, false, false] rfl rfl (by kernel_rfl) (fun _ _ _ h => h) (Or.inl ⟨by rfl, ?_⟩) ?_ ?_
  rotate_left
  · intro w'
    go_simp
    try with_reducible rfl
  rotate_left
  · simp only [Act.put, List.setIfInBounds_toArray, List.set_cons_zero, List.set_cons_succ, i64_w, i32_w]
    rfl
  refine take_ (i := 7) (N := some 92) (v := ?_) (a' := ?_) #[true, true, true, true, true, true, true, true, false, false, false, false, false, false, false, false, false, false, false] rfl rfl (by kernel_rfl) (fun _ _ _ h => h) (Or.inl ⟨by rfl, ?_⟩) hHeld ?_ ?_
  rotate_left
  · rintro w' ⟨s0, s1, s2, s3, s4, s5, s6, s7, s8⟩
    go_simp
    try with_reducible rfl
  rotate_left
  · simp only [Act.put, List.setIfInBounds_toArray, List.set_cons_zero, List.set_cons_succ, i64_w, i32_w]
    rfl
  refine pure_ (i := 9) (N := some 94) (v := ?_) (a' := ?_) #[true, true, true, true, true, true, true, true, false, true, false, false, false, false, false, false, false, false, false] rfl rfl (by kernel_rfl) (fun _ _ _ h => h) (Or.inl ⟨by rfl, ?_⟩) ?_ ?_
  rotate_left
  · intro w'
    go_simp
    try with_reducible rfl
  rotate_left
  · simp only [Act.put, List.setIfInBounds_toArray, List.set_cons_zero, List.set_cons_succ, i64_w, i32_w]
    rfl
  refine pure_ (i := 10) (N := some 95) (v := ?_) (a' := ?_) #[true, true, true, true, true, true, true, true, false, true, true, false, false, false, false, false, false, false, false] rfl rfl (by kernel_rfl) (fun _ _ _ h => h) (Or.inl ⟨by rfl, ?_⟩) ?_ ?_
  rotate_left
  · intro w'
    go_simp
    try with_reducible rfl
  rotate_left
  · simp only [Act.put, List.setIfInBounds_toArray, List.set_cons_zero, List.set_cons_succ, i64_w, i32_w]
    rfl
  refine take_ (i := 11) (N := some 96) (v := ?_) (a' := ?_) #[true, true, true, true, true, true, true, true, false, true, true, true, false, false, false, false, false, false, false] rfl rfl (by kernel_rfl) (fun _ _ _ h => h) (Or.inl ⟨by rfl, ?_⟩) hHeld ?_ ?_
  rotate_left
  · rintro w' ⟨s0, s1, s2, s3, s4, s5, s6, s7, s8⟩
    go_simp
    try with_reducible rfl
  rotate_left
  · simp only [Act.put, List.setIfInBounds_toArray, List.set_cons_zero, List.set_cons_succ, i64_w, i32_w]
    rfl
  refine one_ (i := 8) (N := some 93) #[true, true, true, true, true, true, true, true, true, true, true, true, false, false, false, false, false, false, false] rfl rfl (by kernel_rfl) (by decide) (fun K hK => ?_)
  refine call_ 75 _ (by rfl) rfl (by go_simp; rfl) ?_
  refine (var75_calls f x.f2 w.heap.size _ hO.out.oi.bf.cell).mono ?_
  rintro e w9 ⟨rfl, hb9⟩
  refine ⟨_, rfl, ?_⟩
  replace hO := Aside0.mk (hO.out.step hb9)
  clear hb9
  refine hK.out _ _ hO.out.held (fun hHeld => ?_)
  clear hK K
  refine norm_ (a' := ?_) ?_ ?_
  rotate_left
  · show Act.put _ (some 93) _ = _
    simp only [Act.put, List.setIfInBounds_toArray, List.set_cons_zero, List.set_cons_succ, i64_w, i32_w]
    rfl
  refine one_ (i := 12) (N := some 97) #[true, true, true, true, true, true, true, true, true, true, true, true, true, false, false, false, false, false, false] rfl rfl (by kernel_rfl) (by decide) (fun K hK => ?_)
  refine call_ 75 _ (by rfl) rfl (by go_simp; rfl) ?_
  refine (var75_calls f x.f3 w.heap.size _ hO.out.oi.bf.cell).mono ?_
  rintro e w9 ⟨rfl, hb9⟩
  refine ⟨_, rfl, ?_⟩
  replace hO := Aside0.mk (hO.out.step hb9)
  clear hb9
  refine hK.out _ _ hO.out.held (fun hHeld => ?_)
  clear hK K
  refine norm_ (a' := ?_) ?_ ?_
  rotate_left
  · show Act.put _ (some 97) _ = _
    simp only [Act.put, List.setIfInBounds_toArray, List.set_cons_zero, List.set_cons_succ, i64_w, i32_w]
    rfl
  refine pure_ (i := 13) (N := some 98) (v := ?_) (a' := ?_) #[true, true, true, true, true, true, true, true, true, true, true, true, true, true, false, false, false, false, false] rfl rfl (by kernel_rfl) (fun _ _ _ h => h) (Or.inl ⟨by rfl, ?_⟩) ?_ ?_
  rotate_left
  · intro w'
    go_simp
    try with_reducible rfl
  rotate_left
  · simp only [Act.put, List.setIfInBounds_toArray, List.set_cons_zero, List.set_cons_succ, i64_w, i32_w]
    rfl
  refine one_ (i := 14) (N := some 99) #[true, true, true, true, true, true, true, true, true, true, true, true, true, true, true, false, false, false, false] rfl rfl (by kernel_rfl) (by decide) (fun K hK => ?_)
  refine value_ (w1 := ?_) (v := ?_) (by rfl) rfl ?_ ?_
  rotate_left 2
  · go_simp
    constructor
    · rfl
    · rfl
  refine hK.out _ _ (hO.out.step (below_alloc (Below.refl _ _) _)).held (fun hHeld => ?_)
  clear hK K
  refine norm_ (a' := ?_) ?_ ?_
  rotate_left
  · show Act.put _ (some 99) _ = _
    simp only [Act.put, List.setIfInBounds_toArray, List.set_cons_zero, List.set_cons_succ, i64_w, i32_w]
    rfl
  refine last_ (i := 15) (N := some 100) #[true, true, true, true, true, true, true, true, true, true, true, true, true, true, true, true, false, false, false] rfl rfl (by kernel_rfl) (by decide) (fun K hK => ?_)
  refine Kd.R_append_step k28 (w0 := w) base (by rfl) (.tmp 89) (.tmp 99) 22 28 (.agg #[(.int .i64 0), (.int .i64 0)]) 16 rfl Try.underlying22 info28 rfl (by decide) (by omega) (.slice Ac cs.length cc) cs ⟨varI f x.f2, varI f x.f3⟩ [.int .i64 (varI f x.f2), .int .i64 (varI f x.f3)] (fun _ => True) (fun _ => False) rfl rfl ?aP (fun k h => h.elim) (fun _ _ => trivial) hO.out.hr ?aB ?aS ?aL ?_
  (case aP => exact k28_mkM _ _ _ _)
  (case aB => exact hO.out.hb.mono hbase.out)
  (case aS => exact hO.out.oi.fs.sz)
  (case aL => have := hcl'.out; omega)
  intro v1 w4 hv1 hb4 hg4 hat4
  obtain ⟨Av, cv, hve⟩ := Kd.R_slice hv1
  rw [show (cs ++ [(⟨varI f x.f2, varI f x.f3⟩ : S28)]).length = cs.length + 1 by simp] at hve
  subst hve
  have hA4 := Aside0.mk (hO.out.fin hv1 hg4)
  clear hv1 hb4 hg4 hat4
  refine hK.out _ _ ?_
  clear hK K
  refine norm_ (a' := ?_) ?_ ?_
  rotate_left
  · show Act.put _ (some 100) _ = _
    simp only [Act.put, List.setIfInBounds_toArray, List.set_cons_zero, List.set_cons_succ, i64_w, i32_w]
    rfl
  refine pure_ (i := 16) (N := some 101) (v := ?_) (a' := ?_) #[true, true, true, true, true, true, true, true, true, true, true, true, true, true, true, true, true, false, false] rfl rfl (by kernel_rfl) (fun _ _ _ h => h) (Or.inl ⟨by rfl, ?_⟩) ?_ ?_
  rotate_left
  · intro w'
    go_simp
    try with_reducible rfl
  rotate_left
  · simp only [Act.put, List.setIfInBounds_toArray, List.set_cons_zero, List.set_cons_succ, i64_w, i32_w]
    rfl
  refine pure_ (i := 17) (N := some 102) (v := ?_) (a' := ?_) #[true, true, true, true, true, true, true, true, true, true, true, true, true, true, true, true, true, true, false] rfl rfl (by kernel_rfl) (fun _ _ _ h => h) (Or.inl ⟨by rfl, ?_⟩) ?_ ?_
  rotate_left
  · intro w'
    go_simp
    try with_reducible rfl
  rotate_left
  · simp only [Act.put, List.setIfInBounds_toArray, List.set_cons_zero, List.set_cons_succ, i64_w, i32_w]
    rfl
  refine last_ (i := 18) (N := none) #[true, true, true, true, true, true, true, true, true, true, true, true, true, true, true, true, true, true, true] rfl rfl (by kernel_rfl) (by decide) (fun K hK => ?_)
  have z0 := hA4.out.1
  have z1 := hA4.out.2.1
  refine skip_ (w1 := ?_) (by rfl) rfl ?_ ?_
  rotate_left
  · go_simp
    rfl
  refine hK.out _ _ ?_
  clear hK K
  refine done_ (by kernel_rfl) ?_
  go_wp2
  go_end0
  exact ⟨⟨_, rfl⟩, _, hN'.out, hA4.out.2.2.1, hA4.out.2.2.2⟩
set_option maxRecDepth 100000 in
set_option maxHeartbeats 8000000 in
theorem op_0 (w wI : World) (f : Int) (x : S60) (A : Option Addr) (c q p bu bs base nu N : Nat) (E : Int → Int → Prop) (cs : List S28) (h : FS w q p bu bs base nu N E cs) (hn : nu ≤ 100000) (hN : N ≤ 100000) (hcl : cs.length ≤ 1000000)
    (hBI : Below wI.heap.size wI w) (hI : wI.heap.size ≤ q ∧ wI.heap.size ≤ bu ∧ wI.heap.size ≤ bs) (hC : Kd.C (Kd.int .i64) wI A x.f5.length x.f5) (hxl : x.f5.length ≤ 1000000)
    (h0 : x.f0 ≠ 2 ∧ x.f0 ≠ 3 ∧ x.f0 ≠ 4 ∧ x.f0 ≠ 5 ∧ x.f0 ≠ 7) (hin : ∀ ab ∈ pairsOf f x, E ab.1 ab.1 ∧ E ab.2 ab.2) :
    Calls Try.prog 51 #[.pointer (some ⟨q, 0, none⟩), .int .i64 f, .agg #[.int .i64 x.f0, .int .i64 x.f1, .int .i64 x.f2, .int .i64 x.f3, .int .i64 x.f4, .slice A x.f5.length c]] w (OpR w f x q p bu bs base nu N E cs) := by
  have hmix : Try.prog.follows .mixedOrders = true := by kernel_rfl
  have hu60 := Try.underlying60
  have hu96 := Try.underlying96
  have hp : pairsOf f x = [] := by unfold pairsOf; rw [if_neg (by omega), if_neg (by omega), if_neg (by omega)]
  have hcs : cellsOf f x = [] := by unfold cellsOf; rw [if_neg (by omega), if_neg (by omega)]
  unfold OpR
  rw [hp, hcs, List.append_nil]
  have h3b : (x.f0 == 3) = false := beq_false_of_ne (by omega)
  have h2b : (x.f0 == 2) = false := beq_false_of_ne (by omega)
  have h4b : (x.f0 == 4) = false := beq_false_of_ne (by omega)
  have h5b : (x.f0 == 5) = false := beq_false_of_ne (by omega)
  have h7b : (x.f0 == 7) = false := beq_false_of_ne (by omega)
  have hO := Aside0.mk (oi_start (f := f) (x := x) (A := A) (c := c) w h)
  have hN' := Aside0.mk (Nat.le_refl N)
  have hx0 := hO.out.held.2.2.1
  have hx4 := hO.out.held.2.2.2.2.2.2.1
  clear hp hcs hin h h0 hC hBI hI
  go_enter Try.func51, Try.ntmps51
  go_wp2
  go_end0
  exact ⟨⟨_, rfl⟩, _, hN'.out, hO.out.fs, hO.out.kf⟩
set_option maxRecDepth 100000 in
set_option maxHeartbeats 8000000 in
theorem op_7 (w wI : World) (f : Int) (x : S60) (A : Option Addr) (c q p bu bs base nu N : Nat) (E : Int → Int → Prop) (cs : List S28) (h : FS w q p bu bs base nu N E cs) (hn : nu ≤ 100000) (hN : N ≤ 100000) (hcl : cs.length ≤ 1000000)
    (hBI : Below wI.heap.size wI w) (hI : wI.heap.size ≤ q ∧ wI.heap.size ≤ bu ∧ wI.heap.size ≤ bs) (hC : Kd.C (Kd.int .i64) wI A x.f5.length x.f5) (hxl : x.f5.length ≤ 1000000)
    (h7 : x.f0 = 7) (hin : ∀ ab ∈ pairsOf f x, E ab.1 ab.1 ∧ E ab.2 ab.2) :
    Calls Try.prog 51 #[.pointer (some ⟨q, 0, none⟩), .int .i64 f, .agg #[.int .i64 x.f0, .int .i64 x.f1, .int .i64 x.f2, .int .i64 x.f3, .int .i64 x.f4, .slice A x.f5.length c]] w (OpR w f x q p bu bs base nu N E cs) := by
  have hmix : Try.prog.follows .mixedOrders = true := by kernel_rfl
  have hu60 := Try.underlying60
  have hu96 := Try.underlying96
  obtain ⟨fl, hfl⟩ : ∃ fl : Int × Nat → Int × Int, Aside0 (fl = fun rk => (varI f rk.1, varI x.f4 (rk.2 + 1))) := ⟨_, ⟨rfl⟩⟩
  have hp : pairsOf f x = (varI f x.f1, varI x.f4 0) :: x.f5.zipIdx.map fl := by rw [hfl.out]; unfold pairsOf; rw [if_neg (by omega), if_neg (by omega), if_pos h7]
  have hcs : cellsOf f x = [] := by unfold cellsOf; rw [h7]; rfl
  have hin3 : Aside0 (E (varI f x.f1) (varI f x.f1) ∧ E (varI x.f4 0) (varI x.f4 0)) := ⟨hin (varI f x.f1, varI x.f4 0) (by rw [hp]; simp)⟩
  have hinr : Aside0 (∀ (k : Nat) (r : Int), x.f5[k]? = some r → E (varI f r) (varI f r) ∧ E (varI x.f4 ((k : Int) + 1)) (varI x.f4 ((k : Int) + 1))) := ⟨fun k r hk => hin (varI f r, varI x.f4 ((k : Int) + 1)) (by
    rw [hp]
    refine List.mem_cons_of_mem _ (List.mem_map.2 ⟨(r, k), List.mem_zipIdx_iff_getElem?.2 hk, by rw [hfl.out]⟩))⟩
  unfold OpR
  rw [hp, hcs, List.append_nil]
  have h3b : (x.f0 == 3) = false := by rw [h7]; rfl
  have h2b : (x.f0 == 2) = false := by rw [h7]; rfl
  have h4b : (x.f0 == 4) = false := by rw [h7]; rfl
  have h5b : (x.f0 == 5) = false := by rw [h7]; rfl
  have h7b : (x.f0 == 7) = true := by rw [h7]; rfl
  have hC' := Aside0.mk (show Kd.C (Kd.int .i64) wI A x.f5.length x.f5 ∧ Below wI.heap.size wI w ∧ (wI.heap.size ≤ q ∧ wI.heap.size ≤ bu ∧ wI.heap.size ≤ bs) ∧ wI.heap.size ≤ base from ⟨hC, hBI, hI, by have := h.ql; omega⟩)
  have hO := Aside0.mk (oi_start (f := f) (x := x) (A := A) (c := c) w h)
  have hN' := Aside0.mk (Nat.le_refl N)
  have hx0 := hO.out.held.2.2.1
  have hx4 := hO.out.held.2.2.2.2.2.2.1
  clear hp hcs hin h h7 hC hBI hI
  go_enter Try.func51, Try.ntmps51
  go_wp2
  replace hO := Aside0.mk (hO.out.step (drew_below _))
  refine start_ #[false, false, false, false, false, false, false, false, false, false, false, false] (S := fun w' => w'.cell? ⟨q, 0, none⟩ = some (.pointer (some ⟨p, 0, none⟩)) ∧ w'.cell? ⟨w.heap.size, 0, none⟩ = some (.int .i64 f) ∧ w'.cell? ⟨w.heap.size + 1, 0, none⟩ = some (.int .i64 x.f0) ∧ w'.cell? ⟨w.heap.size + 1, 1, none⟩ = some (.int .i64 x.f1) ∧ w'.cell? ⟨w.heap.size + 1, 2, none⟩ = some (.int .i64 x.f2) ∧ w'.cell? ⟨w.heap.size + 1, 3, none⟩ = some (.int .i64 x.f3) ∧ w'.cell? ⟨w.heap.size + 1, 4, none⟩ = some (.int .i64 x.f4) ∧ w'.cell? ⟨w.heap.size + 1, 5, none⟩ = some (.slice A x.f5.length c)) (ds := [11]) hmix rfl rfl ⟨hO.out.fs.cellp, hO.out.bf.cell, hO.out.bx.cells⟩ (fun hHeld => ?_)
  refine pure_ (i := 0) (N := some 105) (v := ?_) (a' := ?_) #[true, false, false, false, false, false, false, false, false, false, false, false] rfl rfl (by kernel_rfl) (fun _ _ _ h => h) (Or.inl ⟨by rfl, ?_⟩) ?_ ?_
  rotate_left
  · intro w'
    go_simp
    try with_reducible rfl
  rotate_left
  · simp only [Act.put, List.setIfInBounds_toArray, List.set_cons_zero, List.set_cons_succ, i64_w, i32_w]
    rfl
  refine pure_ (i := 1) (N := some 106) (v := ?_) (a' := ?_) #[true, true, false, false, false, false, false, false, false, false, false, false] rfl rfl (by kernel_rfl) (fun _ _ _ h => h) (Or.inl ⟨by rfl, ?_⟩) ?_ ?_
  rotate_left
  · intro w'
    go_simp
    try with_reducible rfl
  rotate_left
  · simp only [Act.put, List.setIfInBounds_toArray, List.set_cons_zero, List.set_cons_succ, i64_w, i32_w]
    rfl
  refine pure_ (i := 2) (N := some 107) (v := ?_) (a' := ?_) #[true, true, true, false, false, false, false, false, false, false, false, false] rfl rfl (by kernel_rfl) (fun _ _ _ h => h) (Or.inl ⟨by rfl, ?_⟩) ?_ ?_
  rotate_left
  · intro w'
    go_simp
    try with_reducible rfl
  rotate_left
  · simp only [Act.put, List.setIfInBounds_toArray, List.set_cons_zero, List.set_cons_succ, i64_w, i32_w]
    rfl
  refine take_ (i := 3) (N := some 108) (v := ?_) (a' := ?_) #[true, true, true, true, false, false, false, false, false, false, false, false] rfl rfl (by kernel_rfl) (fun _ _ _ h => h) (Or.inl ⟨by rfl, ?_⟩) hHeld ?_ ?_
  rotate_left
  · rintro w' ⟨s0, s1, s2, s3, s4, s5, s6, s7⟩
    go_simp
    try with_reducible rfl
  rotate_left
  · simp only [Act.put, List.setIfInBounds_toArray, List.set_cons_zero, List.set_cons_succ, i64_w, i32_w]
    rfl
  refine pure_ (i := 4) (N := some 109) (v := ?_) (a' := ?_) #[true, true, true, true, true, false, false, false, false, false, false, false] rfl rfl (by kernel_rfl) (fun _ _ _ h => h) (Or.inl ⟨by rfl, ?_⟩) ?_ ?_
  rotate_left
  · intro w'
    go_simp
    try with_reducible rfl
  rotate_left
  · simp only [Act.put, List.setIfInBounds_toArray, List.set_cons_zero, List.set_cons_succ, i64_w, i32_w]
    rfl
  refine pure_ (i := 5) (N := some 110) (v := ?_) (a' := ?_) #[true, true, true, true, true, true, false, false, false, false, false, false] rfl rfl (by kernel_rfl) (fun _ _ _ h => h) (Or.inl ⟨by rfl, ?_⟩) ?_ ?_
  rotate_left
  · intro w'
    go_simp
    try with_reducible rfl
  rotate_left
  · simp only [Act.put, List.setIfInBounds_toArray, List.set_cons_zero, List.set_cons_succ, i64_w, i32_w]
    rfl
  refine take_ (i := 6) (N := some 111) (v := ?_) (a' := ?_) #[true, true, true, true, true, true, true, false, false, false, false, false] rfl rfl (by kernel_rfl) (fun _ _ _ h => h) (Or.inl ⟨by rfl, ?_⟩) hHeld ?_ ?_
  rotate_left
  · rintro w' ⟨s0, s1, s2, s3, s4, s5, s6, s7⟩
    go_simp
    try with_reducible rfl
  rotate_left
  · simp only [Act.put, List.setIfInBounds_toArray, List.set_cons_zero, List.set_cons_succ, i64_w, i32_w]
    rfl
  refine pure_ (i := 8) (N := some 113) (v := ?_) (a' := ?_) #[true, true, true, true, true, true, true, false, true, false, false, false] rfl rfl (by kernel_rfl) (fun _ _ _ h => h) (Or.inl ⟨by rfl, ?_⟩) ?_ ?_
  rotate_left
  · intro w'
    go_simp
    try with_reducible rfl
  rotate_left
  · simp only [Act.put, List.setIfInBounds_toArray, List.set_cons_zero, List.set_cons_succ, i64_w, i32_w]
    rfl
  refine take_ (i := 9) (N := some 114) (v := ?_) (a' := ?_) #[true, true, true, true, true, true, true, false, true, true, false, false] rfl rfl (by kernel_rfl) (fun _ _ _ h => h) (Or.inl ⟨by rfl, ?_⟩) hHeld ?_ ?_
  rotate_left
  · rintro w' ⟨s0, s1, s2, s3, s4, s5, s6, s7⟩
    go_simp
    try with_reducible rfl
  rotate_left
  · simp only [Act.put, List.setIfInBounds_toArray, List.set_cons_zero, List.set_cons_succ, i64_w, i32_w]
    rfl
  refine one_ (i := 7) (N := some 112) #[true, true, true, true, true, true, true, true, true, true, false, false] rfl rfl (by kernel_rfl) (by decide) (fun K hK => ?_)
  refine call_ 75 _ (by rfl) rfl (by go_simp; rfl) ?_
  refine (var75_calls f x.f1 w.heap.size _ hO.out.bf.cell).mono ?_
  rintro e w9 ⟨rfl, hb9⟩
  refine ⟨_, rfl, ?_⟩
  replace hO := Aside0.mk (hO.out.step hb9)
  clear hb9
  refine hK.out _ _ (by first | exact hO.out.held | (exact ⟨hO.out.fs.cellp, hO.out.bf.cell, hO.out.bx.cells⟩)) (fun hHeld => ?_)
  clear hK K
  refine norm_ (a' := ?_) ?_ ?_
  rotate_left
  · show Act.put _ (some 112) _ = _
    simp only [Act.put, List.setIfInBounds_toArray, List.set_cons_zero, List.set_cons_succ, i64_w, i32_w]
    rfl
  refine one_ (i := 10) (N := some 115) #[true, true, true, true, true, true, true, true, true, true, true, false] rfl rfl (by kernel_rfl) (by decide) (fun K hK => ?_)
  refine call_ 50 _ (by rfl) rfl (by go_simp; rfl) ?_
  refine (var_calls x.f4 0 _).mono ?_
  rintro e w9 ⟨rfl, hb9⟩
  refine ⟨_, rfl, ?_⟩
  replace hO := Aside0.mk (hO.out.step hb9)
  clear hb9
  refine hK.out _ _ (by first | exact hO.out.held | (exact ⟨hO.out.fs.cellp, hO.out.bf.cell, hO.out.bx.cells⟩)) (fun hHeld => ?_)
  clear hK K
  refine norm_ (a' := ?_) ?_ ?_
  rotate_left
  · show Act.put _ (some 115) _ = _
    simp only [Act.put, List.setIfInBounds_toArray, List.set_cons_zero, List.set_cons_succ, i64_w, i32_w]
    rfl
  refine last_ (i := 11) (N := some 116) #[true, true, true, true, true, true, true, true, true, true, true, true] rfl rfl (by kernel_rfl) (by decide) (fun K hK => ?_)
  refine call_ 12 _ (by rfl) rfl (by go_simp; rfl) ?_
  refine (join_fs _ hO.out.fs (varI_wf _ _) (varI_wf _ _) hin3.out.1 hin3.out.2 hn (by have := hN'.out; omega)).mono ?_
  rintro e w9 ⟨r9, N9, rfl, hr9, hN9, hN9', hF9, hk9⟩
  refine ⟨_, rfl, ?_⟩
  replace hO := Aside0.mk (hO.out.turn hF9 hk9)
  replace hN' := Aside0.mk (Nat.le_trans hN9 hN'.out)
  clear hr9 hN9' hF9 hk9 hN9
  refine hK.out _ _ ?_
  clear hK K
  refine norm_ (a' := ?_) ?_ ?_
  rotate_left
  · show Act.put _ (some 116) _ = _
    simp only [Act.put, List.setIfInBounds_toArray, List.set_cons_zero, List.set_cons_succ, i64_w, i32_w]
    rfl
  refine done_ (by kernel_rfl) ?_
  have hx5 := hO.out.held.2.2.2.2.2.2.2
  go_wp2
  go_loopw [120] (fun v120 wr => ∃ (k : Nat) (N1 : Nat), v120 = .int .i64 k ∧ k ≤ x.f5.length ∧ Aside0 (N1 ≤ N) ∧ Aside0 (OI w f x A c q p bu bs base nu N1 (joinsE (joinE E (varI f x.f1) (varI x.f4 0)) ((x.f5.zipIdx.map fl).take k)) cs wr)) (fun v120 _ => x.f5.length - (RowKit.intOf v120).toNat)
  case atStart => exact ⟨0, _, rfl, by omega, hN', ⟨hO.out⟩⟩
  case round =>
    obtain ⟨k, N1, rfl, hk, hN', hO⟩ := hrel
    by_cases hlt : k < x.f5.length
    · have hltb : decide ((k : Int) < (x.f5.length : Int)) = true := decide_eq_true (by omega)
      have hp0 : (0 : Int) ≤ (k : Int) := by omega
      have hq0 : (k : Int) < (x.f5.length : Int) := by omega
      have hBr : Below wI.heap.size wI wr := KF.below hC'.out.2.1 hO.out.kf hC'.out.2.1.size hC'.out.2.2.1.1 hC'.out.2.2.1.2.1 hC'.out.2.2.1.2.2 hC'.out.2.2.2
      obtain ⟨ad, e0, hc⟩ := Kd.at_int (Kd.C_below hC'.out.1 hBr) (k : Int) hp0 hq0
      subst e0
      rw [Int.toNat_natCast] at hc
      have hx : Aside0 (x.f5[k]? = some (rd x.f5 (k : Int))) := ⟨by unfold rd; simp [List.getD_eq_getElem?_getD, hlt]⟩
      generalize rd x.f5 (k : Int) = r at hc hx
      have hk1 : wrap64 ((k : Int) + 1) = (k : Int) + 1 := by unfold wrap64; omega
      have hin6 := Aside0.mk (hinr.out k r hx.out)
      clear hBr
      go_wp2
      replace hO := Aside0.mk (hO.out.step (drew_below _))
      refine start_ #[false, false, false, false, false, false, false, false, false, false, false, false, false] (S := fun w' => w'.cell? ⟨q, 0, none⟩ = some (.pointer (some ⟨p, 0, none⟩)) ∧ w'.cell? ⟨w.heap.size, 0, none⟩ = some (.int .i64 f) ∧ w'.cell? ⟨w.heap.size + 1, 0, none⟩ = some (.int .i64 x.f0) ∧ w'.cell? ⟨w.heap.size + 1, 1, none⟩ = some (.int .i64 x.f1) ∧ w'.cell? ⟨w.heap.size + 1, 2, none⟩ = some (.int .i64 x.f2) ∧ w'.cell? ⟨w.heap.size + 1, 3, none⟩ = some (.int .i64 x.f3) ∧ w'.cell? ⟨w.heap.size + 1, 4, none⟩ = some (.int .i64 x.f4) ∧ w'.cell? ⟨w.heap.size + 1, 5, none⟩ = some (.slice (some ad) x.f5.length c)) (ds := [12]) hmix rfl rfl ⟨hO.out.fs.cellp, hO.out.bf.cell, hO.out.bx.cells⟩ (fun hHeld => ?_)
      refine pure_ (i := 0) (N := some 125) (v := ?_) (a' := ?_) #[true, false, false, false, false, false, false, false, false, false, false, false, false] rfl rfl (by kernel_rfl) (fun _ _ _ h => h) (Or.inl ⟨by rfl, ?_⟩) ?_ ?_
      rotate_left
      · intro w'
        go_simp
        try with_reducible rfl
      rotate_left
      · simp only [Act.put, List.setIfInBounds_toArray, List.set_cons_zero, List.set_cons_succ, i64_w, i32_w]
        rfl
      refine pure_ (i := 1) (N := some 126) (v := ?_) (a' := ?_) #[true, true, false, false, false, false, false, false, false, false, false, false, false] rfl rfl (by kernel_rfl) (fun _ _ _ h => h) (Or.inl ⟨by rfl, ?_⟩) ?_ ?_
      rotate_left
      · intro w'
        go_simp
        try with_reducible rfl
      rotate_left
      · simp only [Act.put, List.setIfInBounds_toArray, List.set_cons_zero, List.set_cons_succ, i64_w, i32_w]
        rfl
      refine pure_ (i := 2) (N := some 127) (v := ?_) (a' := ?_) #[true, true, true, false, false, false, false, false, false, false, false, false, false] rfl rfl (by kernel_rfl) (fun _ _ _ h => h) (Or.inl ⟨by rfl, ?_⟩) ?_ ?_
      rotate_left
      · intro w'
        go_simp
        try with_reducible rfl
      rotate_left
      · simp only [Act.put, List.setIfInBounds_toArray, List.set_cons_zero, List.set_cons_succ, i64_w, i32_w]
        rfl
      refine take_ (i := 3) (N := some 128) (v := ?_) (a' := ?_) #[true, true, true, true, false, false, false, false, false, false, false, false, false] rfl rfl (by kernel_rfl) (fun _ _ _ h => h) (Or.inl ⟨by rfl, ?_⟩) hHeld ?_ ?_
      rotate_left
      · rintro w' ⟨s0, s1, s2, s3, s4, s5, s6, s7⟩
        go_simp
        try with_reducible rfl
      rotate_left
      · simp only [Act.put, List.setIfInBounds_toArray, List.set_cons_zero, List.set_cons_succ, i64_w, i32_w]
        rfl
      refine pure_ (i := 4) (N := some 129) (v := ?_) (a' := ?_) #[true, true, true, true, true, false, false, false, false, false, false, false, false] rfl rfl (by kernel_rfl) (fun _ _ _ h => h) (Or.inl ⟨by rfl, ?_⟩) ?_ ?_
      rotate_left
      · intro w'
        go_simp
        try with_reducible rfl
      rotate_left
      · simp only [Act.put, List.setIfInBounds_toArray, List.set_cons_zero, List.set_cons_succ, i64_w, i32_w]
        rfl
      refine pure_ (i := 5) (N := some 130) (v := ?_) (a' := ?_) #[true, true, true, true, true, true, false, false, false, false, false, false, false] rfl rfl (by kernel_rfl) (fun _ _ _ h => h) (Or.inl ⟨by rfl, ?_⟩) ?_ ?_
      rotate_left
      · intro w'
        go_simp
        try with_reducible rfl
      rotate_left
      · simp only [Act.put, List.setIfInBounds_toArray, List.set_cons_zero, List.set_cons_succ, i64_w, i32_w]
        rfl
      refine pure_ (i := 7) (N := some 132) (v := ?_) (a' := ?_) #[true, true, true, true, true, true, false, true, false, false, false, false, false] rfl rfl (by kernel_rfl) (fun _ _ _ h => h) (Or.inl ⟨by rfl, ?_⟩) ?_ ?_
      rotate_left
      · intro w'
        go_simp
        try with_reducible rfl
      rotate_left
      · simp only [Act.put, List.setIfInBounds_toArray, List.set_cons_zero, List.set_cons_succ, i64_w, i32_w]
        rfl
      refine take_ (i := 8) (N := some 133) (v := ?_) (a' := ?_) #[true, true, true, true, true, true, false, true, true, false, false, false, false] rfl rfl (by kernel_rfl) (fun _ _ _ h => h) (Or.inl ⟨by rfl, ?_⟩) hHeld ?_ ?_
      rotate_left
      · rintro w' ⟨s0, s1, s2, s3, s4, s5, s6, s7⟩
        go_simp
        try with_reducible rfl
      rotate_left
      · simp only [Act.put, List.setIfInBounds_toArray, List.set_cons_zero, List.set_cons_succ, i64_w, i32_w]
        rfl
      refine pure_ (i := 9) (N := some 134) (v := ?_) (a' := ?_) #[true, true, true, true, true, true, false, true, true, true, false, false, false] rfl rfl (by kernel_rfl) (fun _ _ _ h => h) (Or.inl ⟨by rfl, ?_⟩) ?_ ?_
      rotate_left
      · intro w'
        go_simp
        try with_reducible rfl
      rotate_left
      · simp only [Act.put, List.setIfInBounds_toArray, List.set_cons_zero, List.set_cons_succ, i64_w, i32_w]
        rfl
      refine pure_ (i := 10) (N := some 135) (v := ?_) (a' := ?_) #[true, true, true, true, true, true, false, true, true, true, true, false, false] rfl rfl (by kernel_rfl) (fun _ _ _ h => h) (Or.inl ⟨by rfl, ?_⟩) ?_ ?_
      rotate_left
      · intro w'
        go_simp
        try with_reducible rfl
      rotate_left
      · simp only [Act.put, List.setIfInBounds_toArray, List.set_cons_zero, List.set_cons_succ, i64_w, i32_w]
        rfl
      refine one_ (i := 6) (N := some 131) #[true, true, true, true, true, true, true, true, true, true, true, false, false] rfl rfl (by kernel_rfl) (by decide) (fun K hK => ?_)
      refine call_ 75 _ (by rfl) rfl (by go_simp; rfl) ?_
      refine (var75_calls f r w.heap.size _ hO.out.bf.cell).mono ?_
      rintro e w9 ⟨rfl, hb9⟩
      refine ⟨_, rfl, ?_⟩
      replace hO := Aside0.mk (hO.out.step hb9)
      clear hb9
      refine hK.out _ _ (by first | exact hO.out.held | (exact ⟨hO.out.fs.cellp, hO.out.bf.cell, hO.out.bx.cells⟩)) (fun hHeld => ?_)
      clear hK K
      refine norm_ (a' := ?_) ?_ ?_
      rotate_left
      · show Act.put _ (some 131) _ = _
        simp only [Act.put, List.setIfInBounds_toArray, List.set_cons_zero, List.set_cons_succ, i64_w, i32_w]
        rfl
      refine one_ (i := 11) (N := some 136) #[true, true, true, true, true, true, true, true, true, true, true, true, false] rfl rfl (by kernel_rfl) (by decide) (fun K hK => ?_)
      refine call_ 50 _ (by rfl) rfl (by go_simp; rfl) ?_
      refine (var_calls x.f4 ((k : Int) + 1) _).mono ?_
      rintro e w9 ⟨rfl, hb9⟩
      refine ⟨_, rfl, ?_⟩
      replace hO := Aside0.mk (hO.out.step hb9)
      clear hb9
      refine hK.out _ _ (by first | exact hO.out.held | (exact ⟨hO.out.fs.cellp, hO.out.bf.cell, hO.out.bx.cells⟩)) (fun hHeld => ?_)
      clear hK K
      refine norm_ (a' := ?_) ?_ ?_
      rotate_left
      · show Act.put _ (some 136) _ = _
        simp only [Act.put, List.setIfInBounds_toArray, List.set_cons_zero, List.set_cons_succ, i64_w, i32_w]
        rfl
      refine last_ (i := 12) (N := some 137) #[true, true, true, true, true, true, true, true, true, true, true, true, true] rfl rfl (by kernel_rfl) (by decide) (fun K hK => ?_)
      refine call_ 12 _ (by rfl) rfl (by go_simp; rfl) ?_
      refine (join_fs _ hO.out.fs (varI_wf _ _) (varI_wf _ _) (joinsE_sub _ (.inl hin6.out.1)) (joinsE_sub _ (.inl hin6.out.2)) hn (by have := hN'.out; omega)).mono ?_
      rintro e w9 ⟨r9, N9, rfl, hr9, hN9, hN9', hF9, hk9⟩
      refine ⟨_, rfl, ?_⟩
      replace hO := Aside0.mk (hO.out.turn hF9 hk9)
      replace hN' := Aside0.mk (Nat.le_trans hN9 hN'.out)
      clear hr9 hN9' hF9 hk9 hN9
      refine hK.out _ _ ?_
      clear hK K
      refine norm_ (a' := ?_) ?_ ?_
      rotate_left
      · show Act.put _ (some 137) _ = _
        simp only [Act.put, List.setIfInBounds_toArray, List.set_cons_zero, List.set_cons_succ, i64_w, i32_w]
        rfl
      refine done_ (by kernel_rfl) ?_
      go_wp2
      go_roundw
      case rel =>
        refine ⟨k + 1, _, by go_num, by omega, hN', ⟨?_⟩⟩
        rw [List.take_add_one, List.getElem?_map, List.getElem?_zipIdx, hx.out]
        simp only [Option.map_some, Option.toList_some]
        rw [joinsE_append]
        rw [hfl.out, Nat.zero_add]
        rw [hfl.out] at hO
        exact hO.out
      case measure => simp [RowKit.intOf]; omega
    · have hltb : decide ((k : Int) < (x.f5.length : Int)) = false := decide_eq_false (by omega)
      go_wp2
      go_end0
      have h0 := hO.out
      rw [List.take_of_length_le (by simp; omega)] at h0
      exact ⟨⟨_, rfl⟩, _, hN'.out, h0.fs, h0.kf⟩
theorem op_calls (w wI : World) (f : Int) (x : S60) (A : Option Addr) (c q p bu bs base nu N : Nat) (E : Int → Int → Prop) (cs : List S28) (h : FS w q p bu bs base nu N E cs) (hn : nu ≤ 100000) (hN : N ≤ 100000) (hcl : cs.length ≤ 1000000)
    (hBI : Below wI.heap.size wI w) (hI : wI.heap.size ≤ q ∧ wI.heap.size ≤ bu ∧ wI.heap.size ≤ bs) (hC : Kd.C (Kd.int .i64) wI A x.f5.length x.f5) (hxl : x.f5.length ≤ 1000000)
    (hin : ∀ ab ∈ pairsOf f x, E ab.1 ab.1 ∧ E ab.2 ab.2) :
    Calls Try.prog 51 #[.pointer (some ⟨q, 0, none⟩), .int .i64 f, .agg #[.int .i64 x.f0, .int .i64 x.f1, .int .i64 x.f2, .int .i64 x.f3, .int .i64 x.f4, .slice A x.f5.length c]] w (OpR w f x q p bu bs base nu N E cs) := by
  by_cases h3 : x.f0 = 3
  · exact op_3 w wI f x A c q p bu bs base nu N E cs h hn hN hcl hBI hI hC hxl h3 hin
  by_cases h2 : x.f0 = 2
  · by_cases h1 : x.f4 = 1
    · exact op_2a w wI f x A c q p bu bs base nu N E cs h hn hN hcl hBI hI hC hxl h2 h1 hin
    by_cases h22 : x.f4 = 2
    · exact op_2b w wI f x A c q p bu bs base nu N E cs h hn hN hcl hBI hI hC hxl h2 h22 hin
    · exact op_2c w wI f x A c q p bu bs base nu N E cs h hn hN hcl hBI hI hC hxl h2 (by omega) hin
  by_cases h4 : x.f0 = 4
  · exact op_4 w wI f x A c q p bu bs base nu N E cs h hn hN hcl hBI hI hC hxl h4 hin
  by_cases h5 : x.f0 = 5
  · exact op_5 w wI f x A c q p bu bs base nu N E cs h hn hN hcl hBI hI hC hxl h5 hin
  by_cases h7 : x.f0 = 7
  · exact op_7 w wI f x A c q p bu bs base nu N E cs h hn hN hcl hBI hI hC hxl h7 hin
  · exact op_0 w wI f x A c q p bu bs base nu N E cs h hn hN hcl hBI hI hC hxl ⟨h2, h3, h4, h5, h7⟩ hin
end Go.Proofs.Yteeapfmgdlcgfaa.A


namespace Go.Proofs.Yteeapfmgdlcgfaa.A
open Go.RowKit Go.Maps Go.Proofs.YteeapfmgdlcgfaaW.PrintWords Go.Proofs.YteeapfmgdlcgfaaW.PrintLast
set_option linter.unusedVariables false
set_option linter.unusedSimpArgs false
attribute [local go_sem] Oper.semAt_some

theorem wp_loop_ghost {P : Program} {c : Code} {Q : Exit → Act → World → Prop} (I : Nat → Act → World → Prop) (round : ∀ k a w, I k a w → c.wp P (Exit.then (fun a' w' => ∃ k', k' < k ∧ I k' a' w') Q) a w) :
    ∀ (k : Nat) (a : Act) (w : World), I k a w → (Code.loop c).wp P Q a w := by
  intro k a w h
  have key : ∀ m k a w, k < m → I k a w → Code.rounds P c Q m a w := by
    intro m
    induction m with
    | zero => intro k a w hk; omega
    | succ m ih =>
      intro k a w hk hI
      refine Go.wp_mono (round k a w hI) ?_
      intro e a' w' hq
      cases e with
      | normal =>
        obtain ⟨k', hk', hI'⟩ := hq
        exact ih k' a' w' (by omega) hI'
      | exit id => exact hq
      | goto l => exact hq
      | ret => exact hq
      | panic ch => exact hq
      | outgrown => exact hq
  exact wp_loop_rounds (k + 1) (key (k + 1) k a w (by omega) h)
theorem UN.symm {w : World} {p bu bs nu N : Nat} {E : Int → Int → Prop} (h : UN κI w p bu bs nu N E) {x y : Int} (e : E x y) : E y x := by
  obtain ⟨U, Z, h1, h2⟩ := h
  exact (h2 _ _).1 ((h2 _ _).2 e).symm
theorem UN.trans {w : World} {p bu bs nu N : Nat} {E : Int → Int → Prop} (h : UN κI w p bu bs nu N E) {x y z : Int} (e : E x y) (e' : E y z) : E x z := by
  obtain ⟨U, Z, h1, h2⟩ := h
  exact (h2 _ _).1 (((h2 _ _).2 e).trans ((h2 _ _).2 e'))
def closedC (E : Int → Int → Prop) (cs : List S28) : Prop := ∀ a ∈ cs, ∀ b ∈ cs, E a.f0 b.f0 → E a.f1 b.f1
structure Per (R : Int → Int → Prop) : Prop where
  symm : ∀ x y, R x y → R y x
  trans : ∀ x y z, R x y → R y z → R x z
def leastC (E0 E : Int → Int → Prop) (cs : List S28) : Prop := ∀ R, Per R → (∀ x y, E0 x y → R x y) → closedC R cs → ∀ x y, E x y → R x y
theorem leastC.join {E0 E : Int → Int → Prop} {cs : List S28} (h : leastC E0 E cs) {a b : Int} (hab : ∀ R, Per R → (∀ x y, E x y → R x y) → closedC R cs → R a b) : leastC E0 (joinE E a b) cs := by
  intro R hR h0 hc x y hxy
  have hE := h R hR h0 hc
  have g := hab R hR hE hc
  rcases hxy with e | ⟨e1, e2⟩ | ⟨e1, e2⟩
  · exact hE _ _ e
  · exact hR.trans _ _ _ (hE _ _ e1) (hR.trans _ _ _ g (hR.symm _ _ (hE _ _ e2)))
  · exact hR.trans _ _ _ (hE _ _ e1) (hR.trans _ _ _ (hR.symm _ _ g) (hR.symm _ _ (hE _ _ e2)))
theorem joinE_had {E : Int → Int → Prop} (hs : ∀ x y, E x y → E y x) (ht : ∀ x y z, E x y → E y z → E x z) {a b : Int} (h : E a b) (x y : Int) : joinE E a b x y ↔ E x y := by
  constructor
  · rintro (e | ⟨e1, e2⟩ | ⟨e1, e2⟩)
    · exact e
    · exact ht _ _ _ e1 (ht _ _ _ h (hs _ _ e2))
    · exact ht _ _ _ e1 (ht _ _ _ (hs _ _ h) (hs _ _ e2))
  · exact .inl
/-- what the cells ahead of i have left in the map -/
structure HI (cs : List S28) (i : Nat) (E : Int → Int → Prop) (H : Int → Option Int) (more : Bool) : Prop where
  from_ : ∀ m u, H m = some u → ∃ c ∈ cs, E m c.f0 ∧ E u c.f1
  all : more = false → ∀ c ∈ cs.take i, ∃ m u, H m = some u ∧ E m c.f0 ∧ (∀ x, E x c.f0 → m ≤ x) ∧ E u c.f1
theorem HI.closed {cs : List S28} {i : Nat} {E : Int → Int → Prop} {H : Int → Option Int} (h : HI cs i E H false) (hi : cs.length ≤ i) (hs : ∀ x y, E x y → E y x) (ht : ∀ x y z, E x y → E y z → E x z) : closedC E cs := by
  intro a ha b hb hab
  have e : cs.take i = cs := List.take_of_length_le hi
  obtain ⟨m, u, h1, h2, h3, h4⟩ := h.all rfl a (by rw [e]; exact ha)
  obtain ⟨m', u', g1, g2, g3, g4⟩ := h.all rfl b (by rw [e]; exact hb)
  have : m = m' := by
    have l1 := h3 m' (ht _ _ _ g2 (hs _ _ hab))
    have l2 := g3 m (ht _ _ _ h2 hab)
    omega
  subst this
  rw [h1] at g1
  obtain rfl := Option.some.inj g1
  exact ht _ _ _ (hs _ _ h4) g4
/-- a new entry -/
theorem HI.put {cs : List S28} {i : Nat} {E : Int → Int → Prop} {H : Int → Option Int} {more : Bool} {c : S28} (h : HI cs i E H more) (hc : cs[i]? = some c) {m : Int} (hn : H m = none) (hm : E m c.f0) (hl : ∀ x, E x c.f0 → m ≤ x) (h1 : E c.f1 c.f1) : HI cs (i + 1) E (updK H m c.f1) more := by
  constructor
  · intro k u hk
    by_cases e : k = m
    · subst e
      rw [updK_same] at hk
      obtain rfl := Option.some.inj hk
      exact ⟨c, List.mem_of_getElem? hc, hm, h1⟩
    · rw [updK_other e] at hk
      exact h.from_ k u hk
  · intro hmo d hd
    rw [List.take_add_one, hc] at hd
    rcases List.mem_append.1 hd with hd | hd
    · obtain ⟨k, u, g1, g2⟩ := h.all hmo d hd
      exact ⟨k, u, by rw [updK_other (fun e => by subst e; rw [hn] at g1; cases g1)]; exact g1, g2⟩
    · obtain rfl : d = c := by simpa using hd
      exact ⟨m, d.f1, updK_same .., hm, hl, h1⟩
/-- an entry that is there, and nothing was joined -/
theorem HI.had {cs : List S28} {i : Nat} {E : Int → Int → Prop} {H : Int → Option Int} {more : Bool} {c : S28} (h : HI cs i E H more) (hc : cs[i]? = some c) {m u : Int} (hn : H m = some u) (hm : E m c.f0) (hl : ∀ x, E x c.f0 → m ≤ x) (h1 : E u c.f1) : HI cs (i + 1) E H more := by
  refine ⟨h.from_, fun hmo d hd => ?_⟩
  rw [List.take_add_one, hc] at hd
  rcases List.mem_append.1 hd with hd | hd
  · exact h.all hmo d hd
  · obtain rfl : d = c := by simpa using hd
    exact ⟨m, u, hn, hm, hl, h1⟩
theorem HI.more {cs : List S28} {i : Nat} {E E' : Int → Int → Prop} {H : Int → Option Int} {more : Bool} (h : HI cs i E H more) (hE : ∀ x y, E x y → E' x y) (j : Nat) : HI cs j E' H true :=
  ⟨fun m u hm => by obtain ⟨c, h1, h2, h3⟩ := h.from_ m u hm; exact ⟨c, h1, hE _ _ h2, hE _ _ h3⟩, fun e => by cases e⟩
theorem HI.congr {cs : List S28} {i : Nat} {E E' : Int → Int → Prop} {H : Int → Option Int} {more : Bool} (h : HI cs i E H more) (hE : ∀ x y, E x y ↔ E' x y) : HI cs i E' H more :=
  ⟨fun m u hm => by obtain ⟨c, h1, h2, h3⟩ := h.from_ m u hm; exact ⟨c, h1, (hE _ _).1 h2, (hE _ _).1 h3⟩,
   fun e c hc => by obtain ⟨m, u, h1, h2, h3, h4⟩ := h.all e c hc; exact ⟨m, u, h1, (hE _ _).1 h2, fun x hx => h3 x ((hE _ _).2 hx), (hE _ _).1 h4⟩⟩

/-- what settle keeps -/
structure SI (w : World) (q p bu bs base nu N0 : Nat) (E0 : Int → Int → Prop) (cs : List S28) (k : Nat) (b : Bool) (W : World) : Prop where
  ex : ∃ (N : Nat) (E : Int → Int → Prop), FS W q p bu bs base nu N E cs ∧ N ≤ N0 ∧ k = 2 * N + b.toNat ∧ (∀ x y, E0 x y → E x y) ∧ leastC E0 E cs ∧ (b = false → closedC E cs)
  kf : KF q bu bs base w W
/-- what a pass over the cells keeps -/
structure TI (w : World) (q p bu bs base nu N0 : Nat) (E0 : Int → Int → Prop) (cs : List S28) (A : Option Addr) (c hb N1 : Nat) (i : Nat) (b : Bool) (W : World) : Prop where
  hr : Kd.R k28 28 W base (fun _ => True) (.slice A cs.length c) cs
  ex : ∃ (N : Nat) (E : Int → Int → Prop) (H : Int → Option Int) (n : Nat), FS W q p bu bs base nu N E cs ∧ N ≤ N0 ∧ N ≤ N1 ∧ (b = true → N < N1) ∧ (∀ x y, E0 x y → E x y) ∧ leastC E0 E cs ∧ HI cs i E H b ∧ MapAt κI κI W hb H n ∧ n ≤ i
  kf : KF q bu bs base w W
theorem FS.map {W W' : World} {q p bu bs base nu N : Nat} {E : Int → Int → Prop} {cs : List S28} (h : FS W q p bu bs base nu N E cs) {hb n : Nat} {H : Int → Option Int} (hm : MapAt κI κI W hb H n) (h1 : hb ≠ bu) (h2 : hb ≠ bs) (hk : KeepsBut (fun k => k = hb) W W') : FS W' q p bu bs base nu N E cs := by
  obtain ⟨v, g1, g2⟩ := h.ex
  have hnc : ∀ k cells t, W.heap[k]? = some (.cells cells t (0, 0)) → k ≠ hb := by
    rintro k cells t hc rfl
    obtain ⟨D, ⟨es, clock, g, _⟩, _⟩ := hm
    rw [g] at hc
    cases hc
  have hp : p ≠ hb := by
    obtain ⟨U, Z, hu, _⟩ := h.un
    exact hm.noCell hu.cu
  refine ⟨h.un.keep hk hp (Ne.symm h1) (Ne.symm h2), ⟨v, (hk.block q (Array.getElem?_eq_some_iff.1 g1).1 (hnc _ _ _ g1)).trans g1, ?_⟩, h.qp, h.qu, h.qs, h.ql, h.pl, h.ul, h.sl, Nat.le_trans h.sz hk.size⟩
  refine Kd.R_mono (Kd.R_step (Kd.R_bound g2) (fun k hk1 hk2 => hk.block k hk2 ?_)) (fun _ _ => trivial)
  obtain ⟨_, _, _, t, _, cells, hc⟩ := hk1
  exact hnc _ _ _ hc
theorem R_turn {W W' : World} {q p bu bs base nu N : Nat} {E : Int → Int → Prop} {cs : List S28} {v : Value} (h : FS W q p bu bs base nu N E cs) (hr : Kd.R k28 28 W base (fun _ => True) v cs) (hk : KeepsBut (UX bu bs) W W') : Kd.R k28 28 W' base (fun _ => True) v cs := by
  have := h.ul
  have := h.sl
  exact Kd.R_mono (Kd.R_step (Kd.R_bound hr) (fun k hk1 hk2 => hk.block k hk2 (by have := hk1.2.1; rintro (e | e) <;> omega))) (fun _ _ => trivial)
theorem R_mapk {W W' : World} {base hb n : Nat} {H : Int → Option Int} {cs : List S28} {v : Value} (hr : Kd.R k28 28 W base (fun _ => True) v cs) (hm : MapAt κI κI W hb H n) (hk : KeepsBut (fun k => k = hb) W W') : Kd.R k28 28 W' base (fun _ => True) v cs := by
  refine Kd.R_mono (Kd.R_step (Kd.R_bound hr) (fun k hk1 hk2 => hk.block k hk2 ?_)) (fun _ _ => trivial)
  obtain ⟨_, _, _, t, _, cells, hc⟩ := hk1
  rintro rfl
  obtain ⟨D, ⟨es, clock, g, _⟩, _⟩ := hm
  rw [g] at hc
  cases hc
theorem UN.wf {w : World} {p bu bs nu N : Nat} {E : Int → Int → Prop} (h : UN κI w p bu bs nu N E) {x y : Int} (e : E x y) : κI.wf x := by
  have hx : E x x := h.trans e (h.symm e)
  obtain ⟨U, Z, h1, h2⟩ := h
  have := (Eq2.self_iff h1.F).1 ((h2 _ _).2 hx)
  obtain ⟨r, hr⟩ := Option.isSome_iff_exists.1 this
  exact (h1.mu.wfs hr).1
theorem KF.map {W W' : World} {q bu bs base hb n : Nat} {w : World} (h : KF q bu bs base w W) (hw : w.heap.size ≤ hb) (hk : KeepsBut (fun k => k = hb) W W') : KF q bu bs base w W' :=
  ⟨hk.os.trans h.os, hk.tape.trans h.tape, hk.output.trans h.output, Nat.le_trans h.size hk.size, fun k hk1 g1 g2 g3 g4 => (hk.block k (Nat.lt_of_lt_of_le hk1 h.size) (by omega)).trans (h.block k hk1 g1 g2 g3 g4)⟩
def RB52 (q : Nat) (R : Nat → Bool → World → Prop) (k : Nat) (a : Act) (W : World) : Prop := ∃ (b : Bool), R k b W ∧ ∃ s1 s3 s4 s5 s6 s7 s8 s9 s10 s11 s12 s13 s14 s15 s16 s17 s18 s19 s20 s21 s22 s23 s24 s25 s26 s27 s28 s29 s30 s31 s32 s33 s34 s35 s36 s37 s38 s39 s40 s41 s42 s43 s44 s45 s46 s47 s48 s49 s50 s51 : Value, a = { tmps := #[.pointer (some ⟨q, 0, none⟩), s1, .bool b, s3, s4, s5, s6, s7, s8, s9, s10, s11, s12, s13, s14, s15, s16, s17, s18, s19, s20, s21, s22, s23, s24, s25, s26, s27, s28, s29, s30, s31, s32, s33, s34, s35, s36, s37, s38, s39, s40, s41, s42, s43, s44, s45, s46, s47, s48, s49, s50, s51], defers := [] }

set_option maxRecDepth 100000 in
set_option maxHeartbeats 8000000 in
theorem settle_calls (w : World) (q p bu bs base nu N0 : Nat) (E0 : Int → Int → Prop) (cs : List S28) (h : FS w q p bu bs base nu N0 E0 cs) (hn : nu ≤ 100000) (hN : N0 ≤ 100000) (hcl : cs.length ≤ 1000000)
    (hmem : ∀ c ∈ cs, E0 c.f0 c.f0 ∧ E0 c.f1 c.f1) (hw : ∀ c ∈ cs, κI.wf c.f0 ∧ κI.wf c.f1) :
    Calls Try.prog 52 #[.pointer (some ⟨q, 0, none⟩)] w fun e w' => (∃ v, e = .returned v) ∧ ∃ (N : Nat) (E : Int → Int → Prop), N ≤ N0 ∧ FS w' q p bu bs base nu N E cs ∧ (∀ x y, E0 x y → E x y) ∧ closedC E cs ∧ leastC E0 E cs ∧ KF q bu bs base w w' := by
  have hmix : Try.prog.follows .mixedOrders = true := by kernel_rfl
  have hu96 := Try.underlying96
  have hu28 := Try.underlying28
  have hlt := h.un.lt
  have hI0 : Aside0 (SI w q p bu bs base nu N0 E0 cs (2 * N0 + 1) true w) := ⟨⟨⟨N0, E0, h, Nat.le_refl _, rfl, fun _ _ e => e, fun R _ h0 _ => h0, fun e => by cases e⟩, KF.refl _ _ _ _ _⟩⟩
  have hmem' := Aside0.mk hmem
  have hw' := Aside0.mk hw
  have hl' := Aside0.mk hlt
  clear h hmem hw hlt
  go_enter Try.func52, Try.ntmps52
  go_wp2
  obtain ⟨Rel, hRel⟩ : ∃ R : Nat → Bool → World → Prop, R = fun k b W => Aside0 (SI w q p bu bs base nu N0 E0 cs k b W) := ⟨_, rfl⟩
  refine wp_loop_ghost (RB52 q Rel) ?_ (2 * N0 + 1) _ _ ?_
  rotate_left
  · refine ⟨true, by rw [hRel]; exact hI0, ?_⟩
    repeat apply Exists.intro
    rfl
  clear hI0
  rintro k a W ⟨b, hR, s1, s3, s4, s5, s6, s7, s8, s9, s10, s11, s12, s13, s14, s15, s16, s17, s18, s19, s20, s21, s22, s23, s24, s25, s26, s27, s28, s29, s30, s31, s32, s33, s34, s35, s36, s37, s38, s39, s40, s41, s42, s43, s44, s45, s46, s47, s48, s49, s50, s51, rfl⟩
  rw [hRel] at hR
  have hmm := @run_makeMap Try.prog
  cases b with
  | false =>
    go_wp2
    go_end0
    obtain ⟨⟨N, E, hF, hN1, hk, hE, hL, hcl2⟩, hkf⟩ := hR.out
    exact ⟨⟨_, rfl⟩, N, E, hN1, hF, hE, hcl2 rfl, hL, hkf⟩
  | true =>
    obtain ⟨⟨N, E, hF, hN1, hk, hE, hL, _⟩, hkf⟩ := hR.out
    have hF1 := hF.step (below_alloc (Below.refl W.heap.size W) (.map #[] 0))
    have g0 := hF1.cellp
    obtain ⟨v, gv, hr⟩ := hF1.ex
    obtain ⟨A, c, rfl⟩ := Kd.R_slice hr
    have g1 : (W.alloc (.map #[] 0)).cell? ⟨q, 1, none⟩ = some (.slice A cs.length c) := by simp [World.cell?, gv]
    have hT : Aside0 (TI w q p bu bs base nu N0 E0 cs A c W.heap.size N 0 false (W.alloc (.map #[] 0))) :=
      ⟨⟨hr, ⟨N, E, fun _ => none, 0, hF1, hN1, Nat.le_refl _, (fun e => by cases e), hE, hL, ⟨(fun m u e => by cases e), (fun _ c hc => by simp at hc)⟩, MapAt.made W, Nat.le_refl _⟩, hkf.trans (KF.of_below (below_alloc (Below.refl _ _) _))⟩⟩
    have hhb : Aside0 (w.heap.size ≤ W.heap.size ∧ k = 2 * N + 1) := ⟨hkf.size, by simpa using hk⟩
    have hRel' : Aside0 (∀ k b W, SI w q p bu bs base nu N0 E0 cs k b W → Rel k b W) := ⟨fun k b W h => by rw [hRel]; exact ⟨h⟩⟩
    clear hF hE hL hkf hF1 gv hr hR hRel hk
    go_wp2
    go_loopw [2, 17] (fun v2 v17 wr => ∃ (i : Nat) (b : Bool), v2 = .bool b ∧ v17 = .int .i64 i ∧ i ≤ cs.length ∧ Aside0 (TI w q p bu bs base nu N0 E0 cs A c W.heap.size N i b wr)) (fun _ v17 _ => cs.length - (RowKit.intOf v17).toNat)
    case atStart => exact ⟨0, false, rfl, rfl, by omega, hT⟩
    case round =>
      obtain ⟨i, b, rfl, rfl, hi, hTr⟩ := hrel
      clear hT g0 g1 hmm
      by_cases hlt : i < cs.length
      · have hltb : decide ((i : Int) < (cs.length : Int)) = true := decide_eq_true (by omega)
        have hp0 : (0 : Int) ≤ (i : Int) := by omega
        have hq0 : (i : Int) < (cs.length : Int) := by omega
        obtain ⟨ad, e0, y0, y1⟩ := at_T28 (Kd.R_reads' hTr.out.hr).2.2 (i : Int) hp0 hq0
        subst e0
        rw [Int.toNat_natCast] at y0 y1
        have hx : Aside0 (cs[i]? = some (rd_T28 cs (i : Int))) := ⟨by unfold rd_T28; rw [Int.toNat_natCast, List.getD_eq_getElem?_getD, List.getElem?_eq_getElem hlt]; rfl⟩
        generalize rd_T28 cs (i : Int) = d at y0 y1 hx
        have hdm := List.mem_of_getElem? hx.out
        have hwf := Aside0.mk (hw'.out d hdm)
        obtain ⟨W1, hW1⟩ : ∃ W1, wr.alloc (.cells #[.int .i64 d.f0, .int .i64 d.f1] 28) = W1 := ⟨_, rfl⟩
        have hB1 : Below wr.heap.size wr W1 := by rw [← hW1]; exact below_alloc (Below.refl _ _) _
        have hs1 : Aside0 (wr.heap.size < W1.heap.size) := ⟨by rw [← hW1]; simp⟩
        have z0 : W1.cell? ⟨wr.heap.size, 0, none⟩ = some (.int .i64 d.f0) := by rw [← hW1]; simp [go_sem]
        have z1 : W1.cell? ⟨wr.heap.size, 1, none⟩ = some (.int .i64 d.f1) := by rw [← hW1]; simp [go_sem]
        obtain ⟨hr1, ⟨N1', E1, H, n, hF, hNa, hNb, hNc, hE, hL, hH, hM, hnn⟩, hkf⟩ := hTr.out
        obtain ⟨Wd, hWd⟩ : ∃ Wd, W1.drew = Wd := ⟨_, rfl⟩
        have hBd : Below wr.heap.size wr Wd := by rw [← hWd]; exact hB1.trans ((drew_below W1).mono hB1.size)
        have hFd := Aside0.mk (hF.step hBd)
        have hMd := Aside0.mk (hM.same (hBd.block _ hM.lt))
        have hrd := Aside0.mk (Kd.R_below hr1 hBd)
        have hkd := Aside0.mk (hkf.trans (KF.of_below hBd))
        have hrest := Aside0.mk (And.intro hNa (And.intro hNb (And.intro hNc (And.intro hE (And.intro hL (And.intro hH hnn))))))
        have hcm := Aside0.mk (And.intro (hE _ _ (hmem'.out d hdm).1) (hE _ _ (hmem'.out d hdm).2))
        have hN1 := Aside0.mk (Nat.le_trans hNa hN)
        have g0 : W1.cell? ⟨q, 0, none⟩ = some (.pointer (some ⟨p, 0, none⟩)) := (hF.step hB1).cellp
        have hwrl := Aside0.mk (And.intro hF.un.lt hM.lt)
        have z0d : Wd.cell? ⟨wr.heap.size, 0, none⟩ = some (.int .i64 d.f0) := by rw [← hWd]; exact z0
        have z1d := Aside0.mk (show Wd.cell? ⟨wr.heap.size, 1, none⟩ = some (.int .i64 d.f1) by rw [← hWd]; exact z1)
        have g0d : Wd.cell? ⟨q, 0, none⟩ = some (.pointer (some ⟨p, 0, none⟩)) := hFd.out.cellp
        clear hr1 hF hNa hNb hNc hE hL hH hM hnn hkf hdm hTr hB1 hBd z0 z1
        go_wp2
        refine start_ (n := 12) #[false, false, false, false, false, false, false, false, false, false, false, false] (S := fun w' => w'.cell? ⟨q, 0, none⟩ = some (.pointer (some ⟨p, 0, none⟩)) ∧ w'.cell? ⟨wr.heap.size, 0, none⟩ = some (.int .i64 d.f0)) (ds := [6]) hmix rfl rfl (by rw [hWd]; exact ⟨g0d, z0d⟩) (fun hHeld => ?_)
        rw [hWd] at hHeld ⊢
        clear hWd
        refine pure_ (i := 0) (N := some 22) (v := ?_) (a' := ?_) #[true, false, false, false, false, false, false, false, false, false, false, false] rfl rfl (by kernel_rfl) (fun _ _ _ h => h) (Or.inl ⟨by rfl, ?_⟩) ?_ ?_
        rotate_left
        · intro w'
          go_simp
          try with_reducible rfl
        rotate_left
        · simp only [Act.put, List.setIfInBounds_toArray, List.set_cons_zero, List.set_cons_succ, i64_w, i32_w]
          rfl
        refine pure_ (i := 1) (N := some 23) (v := ?_) (a' := ?_) #[true, true, false, false, false, false, false, false, false, false, false, false] rfl rfl (by kernel_rfl) (fun _ _ _ h => h) (Or.inl ⟨by rfl, ?_⟩) ?_ ?_
        rotate_left
        · intro w'
          go_simp
          try with_reducible rfl
        rotate_left
        · simp only [Act.put, List.setIfInBounds_toArray, List.set_cons_zero, List.set_cons_succ, i64_w, i32_w]
          rfl
        refine pure_ (i := 2) (N := some 24) (v := ?_) (a' := ?_) #[true, true, true, false, false, false, false, false, false, false, false, false] rfl rfl (by kernel_rfl) (fun _ _ _ h => h) (Or.inl ⟨by rfl, ?_⟩) ?_ ?_
        rotate_left
        · intro w'
          go_simp
          try with_reducible rfl
        rotate_left
        · simp only [Act.put, List.setIfInBounds_toArray, List.set_cons_zero, List.set_cons_succ, i64_w, i32_w]
          rfl
        refine take_ (i := 3) (N := some 25) (v := ?_) (a' := ?_) #[true, true, true, true, false, false, false, false, false, false, false, false] rfl rfl (by kernel_rfl) (fun _ _ _ h => h) (Or.inl ⟨by rfl, ?_⟩) hHeld ?_ ?_
        rotate_left
        · rintro w' ⟨s0, s1⟩
          go_simp
          try with_reducible rfl
        rotate_left
        · simp only [Act.put, List.setIfInBounds_toArray, List.set_cons_zero, List.set_cons_succ, i64_w, i32_w]
          rfl
        refine pure_ (i := 4) (N := some 26) (v := ?_) (a' := ?_) #[true, true, true, true, true, false, false, false, false, false, false, false] rfl rfl (by kernel_rfl) (fun _ _ _ h => h) (Or.inl ⟨by rfl, ?_⟩) ?_ ?_
        rotate_left
        · intro w'
          go_simp
          try with_reducible rfl
        rotate_left
        · simp only [Act.put, List.setIfInBounds_toArray, List.set_cons_zero, List.set_cons_succ, i64_w, i32_w]
          rfl
        refine take_ (i := 5) (N := some 27) (v := ?_) (a' := ?_) #[true, true, true, true, true, true, false, false, false, false, false, false] rfl rfl (by kernel_rfl) (fun _ _ _ h => h) (Or.inl ⟨by rfl, ?_⟩) hHeld ?_ ?_
        rotate_left
        · rintro w' ⟨s0, s1⟩
          go_simp
          try with_reducible rfl
        rotate_left
        · simp only [Act.put, List.setIfInBounds_toArray, List.set_cons_zero, List.set_cons_succ, i64_w, i32_w]
          rfl
        refine last_ (i := 6) (N := some 28) #[true, true, true, true, true, true, true, false, false, false, false, false] rfl rfl (by kernel_rfl) (by decide) (fun K hK => ?_)
        refine call_ 15 _ (by rfl) rfl (by go_simp; rfl) ?_
        refine (find_un _ hFd.out.un hwf.out.1 hn).mono ?_
        rintro e w9 ⟨at_, r9, rfl, hr1, hr2, hu9, hk9⟩
        refine ⟨_, rfl, ?_⟩
        have hrt : r9 = true := by
          cases r9 with
          | true => rfl
          | false => exact absurd hcm.out.1 ((hr2 rfl).2 _)
        subst hrt
        have hat := Aside0.mk (hr1 rfl)
        have hF9 := Aside0.mk (hFd.out.turn hu9 hk9)
        have hk9' := Aside0.mk hk9
        clear hr1 hr2 hu9 hk9
        refine hK.out _ _ ?_
        clear hK K
        refine norm_ (a' := ?_) ?_ ?_
        rotate_left
        · show Act.put _ (some 28) _ = _
          simp only [Act.put, List.setIfInBounds_toArray, List.set_cons_zero, List.set_cons_succ, i64_w, i32_w]
          rfl
        refine pure_ (i := 7) (N := some 21) (v := ?_) (a' := ?_) #[true, true, true, true, true, true, true, true, false, false, false, false] rfl rfl (by kernel_rfl) (fun _ _ _ h => h) (Or.inl ⟨by rfl, ?_⟩) ?_ ?_
        rotate_left
        · intro w'
          go_simp
          try with_reducible rfl
        rotate_left
        · simp only [Act.put, List.setIfInBounds_toArray, List.set_cons_zero, List.set_cons_succ, i64_w, i32_w]
          rfl
        refine pure_ (i := 8) (N := some 29) (v := ?_) (a' := ?_) #[true, true, true, true, true, true, true, true, true, false, false, false] rfl rfl (by kernel_rfl) (fun _ _ _ h => h) (Or.inl ⟨by rfl, ?_⟩) ?_ ?_
        rotate_left
        · intro w'
          go_simp
          try with_reducible rfl
        rotate_left
        · simp only [Act.put, List.setIfInBounds_toArray, List.set_cons_zero, List.set_cons_succ, i64_w, i32_w]
          rfl
        refine pure_ (i := 9) (N := some 30) (v := ?_) (a' := ?_) #[true, true, true, true, true, true, true, true, true, true, false, false] rfl rfl (by kernel_rfl) (fun _ _ _ h => h) (Or.inl ⟨by rfl, ?_⟩) ?_ ?_
        rotate_left
        · intro w'
          go_simp
          try with_reducible rfl
        rotate_left
        · simp only [Act.put, List.setIfInBounds_toArray, List.set_cons_zero, List.set_cons_succ, i64_w, i32_w]
          rfl
        refine pure_ (i := 10) (N := some 6) (v := ?_) (a' := ?_) #[true, true, true, true, true, true, true, true, true, true, true, false] rfl rfl (by kernel_rfl) (fun _ _ _ h => h) (Or.inl ⟨by rfl, ?_⟩) ?_ ?_
        rotate_left
        · intro w'
          go_simp
          try with_reducible rfl
        rotate_left
        · simp only [Act.put, List.setIfInBounds_toArray, List.set_cons_zero, List.set_cons_succ, i64_w, i32_w]
          rfl
        refine pure_ (i := 11) (N := some 7) (v := ?_) (a' := ?_) #[true, true, true, true, true, true, true, true, true, true, true, true] rfl rfl (by kernel_rfl) (fun _ _ _ h => h) (Or.inl ⟨by rfl, ?_⟩) ?_ ?_
        rotate_left
        · intro w'
          go_simp
          try with_reducible rfl
        rotate_left
        · simp only [Act.put, List.setIfInBounds_toArray, List.set_cons_zero, List.set_cons_succ, i64_w, i32_w]
          rfl
        refine done_ (by kernel_rfl) ?_
        clear hHeld g0d z0d y0 y1
        have hlb := hl'.out
        have hhb1 := hhb.out.1
        have hne : ∀ x, w.heap.size ≤ x → ¬ UX bu bs x := by rintro x hx (e | e) <;> omega
        have hsw : w.heap.size ≤ wr.heap.size := by have := hwrl.out.2; omega
        have g0 := hF9.out.cellp
        have z1 := hk9'.out.cell z1d.out (hne wr.heap.size hsw)
        have hM9 := Aside0.mk (hMd.out.same (hk9'.out.block _ hMd.out.lt (hne _ hhb1)))
        have hr9 := Aside0.mk (R_turn hFd.out hrd.out hk9'.out)
        have hk9 := Aside0.mk (hkd.out.trans (KF.of_keeps hk9'.out))
        have hwa := Aside0.mk (hF9.out.un.wf hat.out.1)
        have hlk := hM9.out.look_ok κI_ok κI_ok Try.underlying66 hwa.out
        have hbne := Aside0.mk (And.intro (show W.heap.size ≠ bu by omega) (show W.heap.size ≠ bs by omega))
        clear hFd hMd hrd hkd hk9' z1d hlb hne
        cases hHa : H at_ with
        | none =>
          rw [hHa] at hlk
          simp only [κI, Option.getD_none, Option.isSome_none] at hlk
          obtain ⟨W10, hst, hM10, ht10⟩ := hM9.out.store κI_ok κI_ok Try.underlying66 hwa.out hwf.out.2 (by have := hrest.out.2.2.2.2.2.2; unfold maxLen; omega)
          rw [hHa] at hM10
          have hk10 : KeepsBut (fun k => k = W.heap.size) w9 W10 := keeps_grown ht10.grown rfl
          have hfin : Aside0 (TI w q p bu bs base nu N0 E0 cs (some ad) c W.heap.size N (i + 1) b W10) := by
            obtain ⟨g1, g2, g3, g4, g5, g6, g7⟩ := hrest.out
            exact ⟨⟨R_mapk hr9.out hM9.out hk10, ⟨N1', E1, _, _, hF9.out.map hM9.out hbne.out.1 hbne.out.2 hk10, g1, g2, g3, g4, g5, g6.put hx.out hHa hat.out.1 hat.out.2 hcm.out.2, hM10, by simp; omega⟩, hk9.out.map (hb := W.heap.size) (n := 0) hhb1 hk10⟩⟩
          simp only [κI] at hst
          clear hM10 ht10 hk10 hHa
          go_wp2
          go_roundw
          case rel => exact ⟨i + 1, b, rfl, by go_num, by omega, hfin⟩
          case measure => simp [RowKit.intOf]; omega
        | some u =>
          rw [hHa] at hlk
          simp only [κI, Option.getD_some, Option.isSome_some] at hlk
          obtain ⟨c0, hc0, hfr1, hfr2⟩ := hrest.out.2.2.2.2.2.1.from_ at_ u hHa
          have hfm := Aside0.mk (hF9.out.un.trans hfr2 (hF9.out.un.symm hfr2))
          have hfw := Aside0.mk (hF9.out.un.wf hfr2)
          have hcm1 := Aside0.mk hcm.out.2
          have hfr := Aside0.mk (And.intro hc0 (And.intro hfr1 hfr2))
          have hHa' := Aside0.mk hHa
          clear hc0 hfr1 hfr2 hHa
          go_wp2
          have hFe := Aside0.mk (hF9.out.step (drew_below w9))
          have g0' : w9.drew.cell? ⟨q, 0, none⟩ = some (.pointer (some ⟨p, 0, none⟩)) := g0
          have z1' : w9.drew.cell? ⟨wr.heap.size, 1, none⟩ = some (.int .i64 d.f1) := z1
          refine start_ (n := 8) #[false, false, false, false, false, false, false, false] (S := fun w' => w'.cell? ⟨q, 0, none⟩ = some (.pointer (some ⟨p, 0, none⟩)) ∧ w'.cell? ⟨wr.heap.size, 1, none⟩ = some (.int .i64 d.f1)) (ds := [7]) hmix rfl rfl ⟨g0', z1'⟩ (fun hHeld => ?_)
          refine pure_ (i := 0) (N := some 43) (v := ?_) (a' := ?_) #[true, false, false, false, false, false, false, false] rfl rfl (by kernel_rfl) (fun _ _ _ h => h) (Or.inl ⟨by rfl, ?_⟩) ?_ ?_
          rotate_left
          · intro w'
            go_simp
            try with_reducible rfl
          rotate_left
          · simp only [Act.put, List.setIfInBounds_toArray, List.set_cons_zero, List.set_cons_succ, i64_w, i32_w]
            rfl
          refine pure_ (i := 1) (N := some 44) (v := ?_) (a' := ?_) #[true, true, false, false, false, false, false, false] rfl rfl (by kernel_rfl) (fun _ _ _ h => h) (Or.inl ⟨by rfl, ?_⟩) ?_ ?_
          rotate_left
          · intro w'
            go_simp
            try with_reducible rfl
          rotate_left
          · simp only [Act.put, List.setIfInBounds_toArray, List.set_cons_zero, List.set_cons_succ, i64_w, i32_w]
            rfl
          refine pure_ (i := 2) (N := some 45) (v := ?_) (a' := ?_) #[true, true, true, false, false, false, false, false] rfl rfl (by kernel_rfl) (fun _ _ _ h => h) (Or.inl ⟨by rfl, ?_⟩) ?_ ?_
          rotate_left
          · intro w'
            go_simp
            try with_reducible rfl
          rotate_left
          · simp only [Act.put, List.setIfInBounds_toArray, List.set_cons_zero, List.set_cons_succ, i64_w, i32_w]
            rfl
          refine take_ (i := 3) (N := some 46) (v := ?_) (a' := ?_) #[true, true, true, true, false, false, false, false] rfl rfl (by kernel_rfl) (fun _ _ _ h => h) (Or.inl ⟨by rfl, ?_⟩) hHeld ?_ ?_
          rotate_left
          · rintro w' ⟨s0, s1⟩
            go_simp
            try with_reducible rfl
          rotate_left
          · simp only [Act.put, List.setIfInBounds_toArray, List.set_cons_zero, List.set_cons_succ, i64_w, i32_w]
            rfl
          refine pure_ (i := 4) (N := some 47) (v := ?_) (a' := ?_) #[true, true, true, true, true, false, false, false] rfl rfl (by kernel_rfl) (fun _ _ _ h => h) (Or.inl ⟨by rfl, ?_⟩) ?_ ?_
          rotate_left
          · intro w'
            go_simp
            try with_reducible rfl
          rotate_left
          · simp only [Act.put, List.setIfInBounds_toArray, List.set_cons_zero, List.set_cons_succ, i64_w, i32_w]
            rfl
          refine pure_ (i := 5) (N := some 48) (v := ?_) (a' := ?_) #[true, true, true, true, true, true, false, false] rfl rfl (by kernel_rfl) (fun _ _ _ h => h) (Or.inl ⟨by rfl, ?_⟩) ?_ ?_
          rotate_left
          · intro w'
            go_simp
            try with_reducible rfl
          rotate_left
          · simp only [Act.put, List.setIfInBounds_toArray, List.set_cons_zero, List.set_cons_succ, i64_w, i32_w]
            rfl
          refine take_ (i := 6) (N := some 49) (v := ?_) (a' := ?_) #[true, true, true, true, true, true, true, false] rfl rfl (by kernel_rfl) (fun _ _ _ h => h) (Or.inl ⟨by rfl, ?_⟩) hHeld ?_ ?_
          rotate_left
          · rintro w' ⟨s0, s1⟩
            go_simp
            try with_reducible rfl
          rotate_left
          · simp only [Act.put, List.setIfInBounds_toArray, List.set_cons_zero, List.set_cons_succ, i64_w, i32_w]
            rfl
          refine last_ (i := 7) (N := some 50) #[true, true, true, true, true, true, true, true] rfl rfl (by kernel_rfl) (by decide) (fun K hK => ?_)
          refine call_ 12 _ (by rfl) rfl (by go_simp; rfl) ?_
          refine (join_fs _ hFe.out hfw.out hwf.out.2 hfm.out hcm1.out hn (by have := hN1.out; omega)).mono ?_
          rintro e w8 ⟨r8, N8, rfl, hr8, hN8, hN8', hF8, hk8⟩
          refine ⟨_, rfl, ?_⟩
          refine hK.out _ _ ?_
          clear hK K
          refine norm_ (a' := ?_) ?_ ?_
          rotate_left
          · show Act.put _ (some 50) _ = _
            simp only [Act.put, List.setIfInBounds_toArray, List.set_cons_zero, List.set_cons_succ, i64_w, i32_w]
            rfl
          refine done_ (by kernel_rfl) ?_
          have hk98 := Aside0.mk (hk9.out.trans ((KF.of_below (drew_below w9)).trans (KF.of_keeps hk8)))
          have hr8' := Aside0.mk (R_turn hFe.out (Kd.R_below hr9.out (drew_below w9)) hk8)
          have hM8 := Aside0.mk (hM9.out.same (show w8.heap[W.heap.size]? = w9.heap[W.heap.size]? from hk8.block _ hM9.out.lt (by have h1 := hbne.out; rintro (e | e); exact h1.1 e; exact h1.2 e)))
          have hF8' := Aside0.mk hF8
          have hr8i := Aside0.mk hr8
          have hN8s := Aside0.mk (And.intro hN8 hN8')
          clear hk8 hF8 hr8 hN8 hN8' hHeld hlk g0 z1 g0' z1'
          cases r8 with
          | true =>
            have hfin : Aside0 (TI w q p bu bs base nu N0 E0 cs (some ad) c W.heap.size N (i + 1) true w8) := by
              obtain ⟨g1, g2, g3, g4, g5, g6, g7⟩ := hrest.out
              have hlt8 := hN8s.out.2 rfl
              refine ⟨⟨hr8'.out, ⟨N8, _, H, n, hF8'.out, by omega, by omega, (fun _ => by omega), (fun x y e => .inl (g4 x y e)), g5.join (fun R hR hER hcR => ?_), g6.more (fun x y e => .inl e) _, hM8.out, by omega⟩, hk98.out⟩⟩
              obtain ⟨h1, h2, h3⟩ := hfr.out
              have e1 : E1 c0.f0 d.f0 := hF9.out.un.trans (hF9.out.un.symm h2) hat.out.1
              exact hR.trans _ _ _ (hER _ _ h3) (hcR c0 h1 d (List.mem_of_getElem? hx.out) (hER _ _ e1))
            go_wp2
            go_roundw
            case rel => exact ⟨i + 1, true, rfl, by go_num, by omega, hfin⟩
            case measure => simp [RowKit.intOf]; omega
          | false =>
            have hfin : Aside0 (TI w q p bu bs base nu N0 E0 cs (some ad) c W.heap.size N (i + 1) b w8) := by
              obtain ⟨g1, g2, g3, g4, g5, g6, g7⟩ := hrest.out
              have hEu : E1 u d.f1 := Classical.byContradiction fun hne => by have := hr8i.out.2 hne; cases this
              have hle8 := hN8s.out.1
              have hcg := joinE_had (E := E1) (a := u) (b := d.f1) (fun x y e => hF9.out.un.symm e) (fun x y z e e' => hF9.out.un.trans e e') hEu
              refine ⟨⟨hr8'.out, ⟨N8, E1, H, n, { hF8'.out with un := hF8'.out.un.congr hcg }, by omega, by omega, (fun e => by have := g3 e; omega), g4, g5, g6.had hx.out hHa'.out hat.out.1 hat.out.2 hEu, hM8.out, by omega⟩, hk98.out⟩⟩
            go_wp2
            go_roundw
            case rel => exact ⟨i + 1, b, rfl, by go_num, by omega, hfin⟩
            case measure => simp [RowKit.intOf]; omega
      · have hltb : decide ((i : Int) < (cs.length : Int)) = false := decide_eq_false (by omega)
        go_wp2
        obtain ⟨hr1, ⟨N1', E1, H, n, hF, hNa, hNb, hNc, hE, hL, hH, hM, hnn⟩, hkf⟩ := hTr.out
        have hkk := hhb.out.2
        refine ⟨2 * N1' + b.toNat, ?_, b, hRel'.out _ _ _ ⟨⟨N1', E1, hF, hNa, rfl, hE, hL, ?_⟩, hkf⟩, ?_⟩
        · cases b with
          | false => simp; omega
          | true => have := hNc rfl; simp; omega
        · rintro rfl
          exact hH.closed (by omega) (fun x y e => hF.un.symm e) (fun x y z e e' => hF.un.trans e e')
        · repeat apply Exists.intro
          rfl
end Go.Proofs.Yteeapfmgdlcgfaa.A


namespace Go.Proofs.Yteeapfmgdlcgfaa.A
open Go.RowKit Go.Maps
set_option linter.unusedVariables false
set_option linter.unusedSimpArgs false

/-- those not met before, in their order -/
def firsts (s : List Int) (l : List Int) : List Int := l.foldl (fun s k => if k ∈ s then s else s ++ [k]) s
theorem firsts_snoc (s l : List Int) (k : Int) : firsts s (l ++ [k]) = if k ∈ firsts s l then firsts s l else firsts s l ++ [k] := by
  unfold firsts; rw [List.foldl_append]; rfl
theorem firsts_mem (s l : List Int) (k : Int) : k ∈ firsts s l ↔ k ∈ s ∨ k ∈ l := by
  induction l generalizing s with
  | nil => simp [firsts]
  | cons a tl ih =>
    show k ∈ firsts (if a ∈ s then s else s ++ [a]) tl ↔ _
    rw [ih]
    by_cases h : a ∈ s
    · rw [if_pos h, List.mem_cons]
      constructor
      · rintro (g | g)
        · exact .inl g
        · exact .inr (.inr g)
      · rintro (g | rfl | g)
        · exact .inl g
        · exact .inl h
        · exact .inr g
    · rw [if_neg h, List.mem_append, List.mem_singleton, List.mem_cons, or_assoc]
theorem firsts_len (l : List Int) : (firsts [] l).length ≤ l.length := by
  suffices h : ∀ s, (firsts s l).length ≤ s.length + l.length by simpa using h []
  induction l with
  | nil => intro s; simp [firsts]
  | cons a tl ih =>
    intro s
    show (firsts (if a ∈ s then s else s ++ [a]) tl).length ≤ _
    have h1 := ih s
    have h2 := ih (s ++ [a])
    rw [List.length_append] at h2
    simp only [List.length_cons, List.length_nil] at *
    split <;> omega
/-- the number of one -/
def num (s : List Int) (k : Int) : Int := (s.idxOf k : Int) + 1
theorem num_app {s : List Int} {k : Int} (h : k ∈ s) (a : Int) : num (s ++ [a]) k = num s k := by
  unfold num; rw [List.idxOf_append, if_pos h]
theorem num_new {s : List Int} {k : Int} (h : k ∉ s) : num (s ++ [k]) k = (s.length : Int) + 1 := by
  unfold num; rw [List.idxOf_append, if_neg h]; simp
/-- the map of numbers -/
def numF (s : List Int) (k : Int) : Option Int := if k ∈ s then some (num s k) else none
theorem numF_new {s : List Int} {k : Int} (h : k ∉ s) : updK (numF s) k ((s.length : Int) + 1) = numF (s ++ [k]) := by
  funext j
  by_cases e : j = k
  · subst e
    rw [updK_same]
    unfold numF
    rw [if_pos (by simp), num_new h]
  · rw [updK_other e]
    unfold numF
    by_cases hj : j ∈ s
    · rw [if_pos hj, if_pos (by simp [hj]), num_app hj]
    · rw [if_neg hj, if_neg (by simp [hj, e])]

def varRow (f n : Nat) : List Int := (List.range n).map fun r : Nat => varI f (r : Int)
theorem varRow_succ (f n : Nat) : varRow f (n + 1) = varRow f n ++ [varI f n] := by unfold varRow; rw [List.range_succ, List.map_append]; rfl
def regN (x : S52) : Nat := (regsI x.f0 x.f1).toNat + 1
def varRows (l : List S52) : List (List Int) := l.zipIdx.map fun fx => varRow fx.2 (regN fx.1)
def numRows (key : Int → Int) (l : List S52) : List (List Int) := (varRows l).map fun row => row.map fun v => num (firsts [] ((varRows l).flatten.map key)) (key v)
theorem varRows_len (l : List S52) : (varRows l).length = l.length := by simp [varRows]
theorem varRows_get {l : List S52} {i : Nat} {x : S52} (h : l[i]? = some x) : (varRows l)[i]? = some (varRow i (regN x)) := by
  unfold varRows
  rw [List.getElem?_map, List.getElem?_zipIdx, h]
  simp
/-- what has been met when the functions ahead of i are done, and of function i the first r -/
def met (l : List S52) (i r : Nat) : List Int := ((varRows l).take i).flatten ++ varRow i r
theorem met_zero (l : List S52) (i : Nat) {x : S52} (h : l[i]? = some x) : met l (i + 1) 0 = met l i (regN x) := by
  unfold met
  rw [List.take_add_one, varRows_get h]
  simp [varRow]
theorem met_succ (l : List S52) (i r : Nat) : met l i (r + 1) = met l i r ++ [varI i r] := by
  unfold met
  rw [varRow_succ, List.append_assoc]
/-- the rows so far -/
structure RowsOk (l : List S52) (key : Int → Int) (i r : Nat) (seen : List Int) (rows : List (List Int)) : Prop where
  len : rows.length = l.length
  at_ : ∀ (f : Nat) (x : S52), l[f]? = some x → rows[f]? = some ((varRow f (if f < i then regN x else if f = i then r else 0)).map fun v => num seen (key v))
  seen : seen = firsts [] ((met l i r).map key)
theorem RowsOk.start (l : List S52) (key : Int → Int) : RowsOk l key 0 0 [] (List.replicate l.length []) := by
  refine ⟨by simp, fun f x h => ?_, by simp [met, varRow, firsts]⟩
  have hf : f < l.length := (List.getElem?_eq_some_iff.1 h).1
  rw [List.getElem?_replicate, if_pos hf]
  by_cases e : f = 0 <;> simp [e, varRow]
theorem RowsOk.next {l : List S52} {key : Int → Int} {i : Nat} {seen : List Int} {rows : List (List Int)} {x : S52} (hx : l[i]? = some x) (h : RowsOk l key i (regN x) seen rows) : RowsOk l key (i + 1) 0 seen rows := by
  refine ⟨h.len, fun f y hy => ?_, by rw [met_zero l i hx]; exact h.seen⟩
  rw [h.at_ f y hy]
  by_cases h1 : f < i
  · rw [if_pos h1, if_pos (by omega)]
  · by_cases h2 : f = i
    · subst h2
      rw [hx] at hy
      obtain rfl := Option.some.inj hy
      rw [if_neg h1, if_pos rfl, if_pos (by omega)]
    · rw [if_neg h1, if_neg h2, if_neg (by omega)]
      by_cases h3 : f = i + 1
      · rw [if_pos h3]
      · rw [if_neg h3]
theorem RowsOk.row {l : List S52} {key : Int → Int} {i r : Nat} {seen : List Int} {rows : List (List Int)} {x : S52} (hx : l[i]? = some x) (h : RowsOk l key i r seen rows) : rows[i]? = some ((varRow i r).map fun v => num seen (key v)) := by
  rw [h.at_ i x hx, if_neg (by omega), if_pos rfl]
theorem varRow_mem_met {l : List S52} {i r f : Nat} {y : S52} (hy : l[f]? = some y) {v : Int} (h : v ∈ varRow f (if f < i then regN y else if f = i then r else 0)) : v ∈ met l i r := by
  unfold met
  by_cases h1 : f < i
  · rw [if_pos h1] at h
    refine List.mem_append_left _ (List.mem_flatten.2 ⟨_, ?_, h⟩)
    have h2 := varRows_get hy
    exact List.mem_of_getElem? (by rw [List.getElem?_take, if_pos h1]; exact h2)
  · rw [if_neg h1] at h
    by_cases h2 : f = i
    · subst h2
      rw [if_pos rfl] at h
      exact List.mem_append_right _ h
    · rw [if_neg h2] at h
      simp [varRow] at h
/-- one more -/
theorem RowsOk.put {l : List S52} {key : Int → Int} {i r : Nat} {seen : List Int} {rows : List (List Int)} {x : S52} (hx : l[i]? = some x) (h : RowsOk l key i r seen rows) {k : Int} (hk : key (varI i r) = k) :
    RowsOk l key i (r + 1) (if k ∈ seen then seen else seen ++ [k]) (rows.set i (((varRow i r).map fun v => num seen (key v)) ++ [num (if k ∈ seen then seen else seen ++ [k]) k])) := by
  have hs : ∀ v ∈ met l i r, num (if k ∈ seen then seen else seen ++ [k]) (key v) = num seen (key v) := by
    intro v hv
    by_cases e : k ∈ seen
    · rw [if_pos e]
    · rw [if_neg e]
      refine num_app ?_ k
      rw [h.seen, firsts_mem]
      exact .inr (List.mem_map.2 ⟨v, hv, rfl⟩)
  refine ⟨by rw [List.length_set]; exact h.len, fun f y hy => ?_, ?_⟩
  · have hf : f < rows.length := by rw [h.len]; exact (List.getElem?_eq_some_iff.1 hy).1
    by_cases e : f = i
    · subst e
      rw [List.getElem?_set_self hf, if_neg (Nat.lt_irrefl _), if_pos rfl, varRow_succ, List.map_append]
      congr 2
      · refine List.map_congr_left fun v hv => (hs v ?_).symm
        exact List.mem_append_right _ hv
      · rw [List.map_singleton, hk]
    · rw [List.getElem?_set_ne (Ne.symm e), h.at_ f y hy]
      congr 1
      have e2 : (if f < i then regN y else if f = i then r else 0) = (if f < i then regN y else if f = i then r + 1 else 0) := by rw [if_neg e, if_neg e]
      rw [← e2]
      refine List.map_congr_left fun v hv => (hs v (varRow_mem_met hy hv)).symm
  · rw [met_succ, List.map_append, List.map_singleton, firsts_snoc, hk, ← h.seen]
theorem RowsOk.fin {l : List S52} {key : Int → Int} {seen : List Int} {rows : List (List Int)} (h : RowsOk l key l.length 0 seen rows) : rows = numRows key l := by
  have hs : seen = firsts [] ((varRows l).flatten.map key) := by
    rw [h.seen]
    unfold met
    rw [List.take_of_length_le (by rw [varRows_len]; exact Nat.le_refl _)]
    simp [varRow]
  apply List.ext_getElem?
  intro f
  by_cases hf : f < l.length
  · rw [h.at_ f _ (List.getElem?_eq_getElem hf), if_pos hf]
    unfold numRows
    rw [List.getElem?_map, varRows_get (List.getElem?_eq_getElem hf), ← hs]
    rfl
  · rw [List.getElem?_eq_none (by rw [h.len]; omega), List.getElem?_eq_none (by unfold numRows; rw [List.length_map, varRows_len]; omega)]
theorem met_len {l : List S52} {i r B : Nat} (h : ∀ x ∈ l, regN x ≤ B) (hr : r ≤ B) : (met l i r).length ≤ l.length * B + B := by
  unfold met
  rw [List.length_append]
  have h1 : (varRow i r).length = r := by simp [varRow]
  have h2 : ∀ (rows : List (List Int)), (∀ row ∈ rows, row.length ≤ B) → rows.flatten.length ≤ rows.length * B := by
    intro rows
    induction rows with
    | nil => intro _; simp
    | cons a tl ih =>
      intro hr
      have e1 := hr a (by simp)
      have e2 := ih (fun row hm => hr row (by simp [hm]))
      rw [List.flatten_cons, List.length_append, List.length_cons, Nat.add_mul, Nat.one_mul]
      omega
  have h3 := h2 ((varRows l).take i) (by
    intro row hrow
    have := List.mem_of_mem_take hrow
    unfold varRows at this
    obtain ⟨fx, hfx, rfl⟩ := List.mem_map.1 this
    have hm := List.fst_mem_of_mem_zipIdx hfx
    have := h fx.1 hm
    simpa [varRow] using this)
  have h4 : ((varRows l).take i).length ≤ l.length := by rw [List.length_take, varRows_len]; exact Nat.min_le_right _ _
  have h5 := Nat.mul_le_mul_right B h4
  omega
end Go.Proofs.Yteeapfmgdlcgfaa.A


namespace Go.Proofs.Yteeapfmgdlcgfaa.A
open Go.RowKit Go.Maps Go.Sort Go.Shelf Go.Proofs.YteeapfmgdlcgfaaW.PrintWords Go.Proofs.YteeapfmgdlcgfaaW.PrintLast
set_option linter.unusedVariables false
set_option linter.unusedSimpArgs false
attribute [local go_sem] Oper.semAt_some

/-- what the map of classes tells when the classes of pre are done, and of one more (least m) those in x -/
structure CM (pre : List Ent) (x : List Int) (m : Int) (C : Int → Option Int) : Prop where
  done : ∀ e ∈ pre, ∀ y ∈ e.row, (C y).isSome = true
  part : ∀ y ∈ x, (C y).isSome = true
  from_ : ∀ y u, C y = some u → (∃ e ∈ pre, y ∈ e.row ∧ u = e.m) ∨ (y ∈ x ∧ u = m)
theorem CM.put {pre : List Ent} {x : List Int} {m : Int} {C : Int → Option Int} (h : CM pre x m C) (y : Int) : CM pre (x ++ [y]) m (updK C y m) := by
  have up : ∀ z, (C z).isSome = true ∨ z = y → (updK C y m z).isSome = true := by
    intro z hz
    by_cases hzy : z = y
    · subst hzy; rw [updK_same]; rfl
    · rw [updK_other hzy]
      rcases hz with hz | hz
      · exact hz
      · exact absurd hz hzy
  refine ⟨fun e he z hz => up z (.inl (h.done e he z hz)), fun z hz => ?_, fun z u hz => ?_⟩
  · rcases List.mem_append.1 hz with hz | hz
    · exact up z (.inl (h.part z hz))
    · exact up z (.inr (List.mem_singleton.1 hz))
  · by_cases hzy : z = y
    · subst hzy
      rw [updK_same] at hz
      exact .inr ⟨by simp, (Option.some.inj hz).symm⟩
    · rw [updK_other hzy] at hz
      rcases h.from_ z u hz with g | ⟨g1, g2⟩
      · exact .inl g
      · exact .inr ⟨List.mem_append_left _ g1, g2⟩
theorem CM.next {pre : List Ent} {e : Ent} {C : Int → Option Int} (h : CM pre e.row e.m C) : CM (pre ++ [e]) [] 0 C := by
  refine ⟨fun d hd y hy => ?_, (fun y hy => by cases hy), fun y u hu => ?_⟩
  · rcases List.mem_append.1 hd with hd | hd
    · exact h.done d hd y hy
    · rw [List.mem_singleton.1 hd] at hy; exact h.part y hy
  · left
    rcases h.from_ y u hu with ⟨d, hd, g⟩ | ⟨g1, g2⟩
    · exact ⟨d, List.mem_append_left _ hd, g⟩
    · exact ⟨e, by simp, g1, g2⟩
/-- what the rounds over the classes keep -/
structure CR (M : Nat) (w : World) (bu bs s : Nat) (pre : List Ent) (x : List Int) (m : Int) (W : World) : Prop where
  ex : ∃ (C : Int → Option Int) (n : Nat), CM pre x m C ∧ MapAt κI κI W w.heap.size C n ∧ n ≤ pre.length * M + x.length
  keep : KeepsBut (UX bu bs) w W
  bc : Boxed W (w.heap.size + 1) 66 (.map (some w.heap.size))
  big : w.heap.size + 5 ≤ s
  sle : s ≤ W.heap.size
theorem CR.stepk {M : Nat} {w W W' : World} {bu bs s : Nat} {pre : List Ent} {x : List Int} {m : Int} (h : CR M w bu bs s pre x m W) {X : Nat → Prop} (hk : KeepsBut X W W') (hx : ∀ k, k ≤ w.heap.size + 1 → ¬ X k) : CR M w bu bs s pre x m W' := by
  obtain ⟨C, n, h1, h2, h3⟩ := h.ex
  exact ⟨⟨C, n, h1, h2.same (hk.block _ h2.lt (hx _ (by omega))), h3⟩, h.keep.low hk (fun q hq => hx q (by omega)), (hk.block _ h.bc.lt (hx _ (by omega))).trans h.bc, h.big, Nat.le_trans h.sle hk.size⟩

theorem lenb {n a i N M : Nat} (h : n ≤ a * M + i) (ha : a < N) (hN : N ≤ 100000) (hi : i ≤ 100000) (hM : M = 100000) : n < maxLen := by subst hM; unfold maxLen; omega
theorem lenc0 {n r a M : Nat} (h : n ≤ a * M + r) (hr : r ≤ M) : n ≤ (a + 1) * M + 0 := by
  rw [Nat.add_mul, Nat.one_mul]
  generalize a * M = z at *
  omega
theorem lenc {α β : Type} {n r M : Nat} {pre : List α} {x : α} (h : n ≤ pre.length * M + r) (hr : r ≤ M) : n ≤ (pre ++ [x]).length * M + ([] : List β).length := by
  have := lenc0 h hr
  rw [List.length_append]
  exact this
theorem ite_le {b : Prop} [Decidable b] {n z i : Nat} (h : n ≤ z + i) : (if b then n else n + 1) ≤ z + (i + 1) := by split <;> omega
theorem wp_normal {P : Program} {c : Code} {Q : Exit → Act → World → Prop} {a : Act} {w : World} (h : c.wp P (fun e a w => e = .normal ∧ Q e a w) a w) : c.wp P Q a w := Go.wp_mono h (fun e a w h => h.2)
theorem CR.weak {M : Nat} {w W : World} {bu bs s : Nat} {pre : List Ent} (h : CR M w bu bs s pre [] 0 W) (m : Int) : CR M w bu bs s pre [] m W := by
  obtain ⟨C, n, h1, h2, h3⟩ := h.ex
  exact ⟨⟨C, n, ⟨h1.done, (fun y hy => by cases hy), fun y u hu => (h1.from_ y u hu).elim .inl (fun g => by cases g.1)⟩, h2, h3⟩, h.keep, h.bc, h.big, h.sle⟩
/-- what the second half of rows keeps -/
structure RS (w : World) (bu bs : Nat) (C : Int → Option Int) (n D nb B0 : Nat) (seen : List Int) (v : Value) (rows : List (List Int)) (W : World) : Prop where
  keep : KeepsBut (UX bu bs) w W
  bc : Boxed W (w.heap.size + 1) 66 (.map (some w.heap.size))
  mc : MapAt κI κI W w.heap.size C n
  md : W.heap[D]? = some (.deferred (some []))
  mn : MapAt κI κI W nb (numF seen) seen.length
  out : Kd.S (Kd.slice 3 (Kd.int .i64)) 36 W B0 (fun _ => True) v rows
  lo : w.heap.size + 2 ≤ D ∧ D < nb ∧ nb < B0 ∧ B0 ≤ W.heap.size
theorem RS.step {w W W' : World} {bu bs : Nat} {C : Int → Option Int} {n D nb B0 : Nat} {seen : List Int} {v : Value} {rows : List (List Int)} (h : RS w bu bs C n D nb B0 seen v rows W) (hb : Below W.heap.size W W') : RS w bu bs C n D nb B0 seen v rows W' :=
  ⟨h.keep.trans (keeps_below hb _), boxed_below h.bc hb h.bc.lt, h.mc.same (hb.block _ h.mc.lt), (hb.block _ (Array.getElem?_eq_some_iff.1 h.md).1).trans h.md, h.mn.same (hb.block _ h.mn.lt), Kd.S_below h.out hb, h.lo.1, h.lo.2.1, h.lo.2.2.1, Nat.le_trans h.lo.2.2.2 hb.size⟩
theorem RS.look {w W : World} {bu bs : Nat} {C : Int → Option Int} {n D nb B0 : Nat} {seen : List Int} {v : Value} {rows : List (List Int)} (h : RS w bu bs C n D nb B0 seen v rows W) {k : Int} (hk : κI.wf k) {m : Int} (hm : (C k).getD 0 = m) :
    (Instr.lookup 66 (.map (some w.heap.size)) (.int .i64 k) false).run Try.prog W = .ok (.int .i64 m) W := by
  have := h.mc.look κI_ok κI_ok Try.underlying66 hk
  rw [← hm]
  exact this
/-- one number more in a row of rows -/
theorem RS.put {w Wd w11 : World} {bu bs : Nat} {C : Int → Option Int} {n D nb B0 : Nat} {seen : List Int} {g nn cap : Nat} {rows : List (List Int)} (h : RS w bu bs C n D nb B0 seen (.slice (some ⟨g, 0, none⟩) nn cap) rows Wd) (hlu : bu < w.heap.size) (hls : bs < w.heap.size)
    {i : Int} {oki : Nat → Prop} {vf v1 : Value} (h0 : 0 ≤ i) (h1 : i < nn) (hH : Kd.H (Kd.slice 3 (Kd.int .i64)) 36 Wd B0 (fun _ => True) (.slice (some ⟨g, 0, none⟩) nn cap) rows i oki [vf]) (hoki : ∀ k, oki k → True ∧ k ≠ g)
    (hvo : ∀ k, vf.ownBlock = some k → oki k) (hvb : ∀ k, vf.ownBlock = some k → B0 ≤ k) {row' : List Int} (hv1 : Kd.R (Kd.int .i64) 3 w11 B0 (fun k => oki k ∨ True ∧ Wd.heap.size ≤ k) v1 row') (hg : Wd.grownBy w11 vf.ownBlock) (hone : v1.oneCell' = true) :
    RS w bu bs C n D nb B0 seen (.slice (some ⟨g, 0, none⟩) nn cap) (rows.set i.toNat row') (w11.setCell ⟨g, i.toNat, none⟩ v1) := by
  have hgb : B0 ≤ g := Kd.S_base h.out g (by simp [Value.ownBlock])
  have hgl : g < Wd.heap.size := by
    obtain ⟨inner, ho⟩ := Kd.R_own (Kd.S_R h.out)
    exact own_lt ho g (by simp [Value.ownBlock])
  have hW := Kd.H_widen hH
  have hG := Kd.H_grown hW hg (fun k hk => .inl (hvo k hk))
  obtain ⟨hS1, hS2⟩ := Kd.H_seg hG h0 h1 (seg := [v1]) (j := 0) (Nat.le_refl 1) (by intro q hq; rw [List.mem_singleton.1 hq]; exact hone)
  have hS1' : Kd.H (Kd.slice 3 (Kd.int .i64)) 36 (w11.setCell ⟨g, i.toNat, none⟩ v1) B0 (fun _ => True) (.slice (some ⟨g, 0, none⟩) nn cap) rows i (fun k => oki k ∨ True ∧ Wd.heap.size ≤ k) [v1] := by
    have e : w11.setCells g (i.toNat * (Kd.slice 3 (Kd.int .i64)).sz + 0) [v1] = w11.setCell ⟨g, i.toNat, none⟩ v1 := by
      show w11.setCell ⟨g, i.toNat * 1 + 0, none⟩ v1 = _
      rw [Nat.mul_one, Nat.add_zero]
    rw [e] at hS1
    exact hS1
  have k11 : KeepsBut (fun k => B0 ≤ k) Wd w11 := KeepsBut.of_grownBy hg (fun r hr => hvb r hr)
  have k12 : KeepsBut (fun k => k = g) w11 (w11.setCell ⟨g, i.toNat, none⟩ v1) := KeepsBut.setCell _ _ _ rfl
  have kk : KeepsBut (fun k => B0 ≤ k) Wd (w11.setCell ⟨g, i.toNat, none⟩ v1) := k11.trans (k12.mono fun k hk => by subst hk; exact hgb)
  have hb := Kd.H_back hS1' (x' := row') (okp := fun k => oki k ∨ True ∧ Wd.heap.size ≤ k) ⟨v1, rfl, Kd.R_step hv1 (fun k hk hk2 => k12.block k hk2 (by
    rcases hk with hk | hk
    · exact (hoki k hk).2
    · have := hk.2; omega))⟩ (fun _ hk => hk)
  have hlo := h.lo
  exact ⟨h.keep.low kk (fun q hq => by omega), (kk.block _ h.bc.lt (by omega)).trans h.bc, h.mc.same (kk.block _ h.mc.lt (by omega)), (kk.block _ (Array.getElem?_eq_some_iff.1 h.md).1 (by omega)).trans h.md, h.mn.same (kk.block _ h.mn.lt (by omega)), hb, hlo.1, hlo.2.1, hlo.2.2.1, Nat.le_trans hlo.2.2.2 kk.size⟩
theorem RS.lend {w Wd : World} {bu bs : Nat} {C : Int → Option Int} {n D nb B0 : Nat} {seen : List Int} {g nn cap : Nat} {rows : List (List Int)} (h : RS w bu bs C n D nb B0 seen (.slice (some ⟨g, 0, none⟩) nn cap) rows Wd)
    {i : Int} (h0 : 0 ≤ i) (h1 : i < nn) {rowf : List Int} (hrow : rows[i.toNat]? = some rowf) :
    ∃ (oki : Nat → Prop) (vf : Value), Kd.H (Kd.slice 3 (Kd.int .i64)) 36 Wd B0 (fun _ => True) (.slice (some ⟨g, 0, none⟩) nn cap) rows i oki [vf] ∧ (∀ k, oki k → True ∧ k ≠ g) ∧ (∀ k, vf.ownBlock = some k → oki k) ∧ (∀ k, vf.ownBlock = some k → B0 ≤ k) ∧
      Kd.R (Kd.int .i64) 3 Wd B0 (fun k => oki k ∨ True ∧ Wd.heap.size ≤ k) vf rowf ∧ Wd.cell? ⟨g, i.toNat, none⟩ = some vf ∧
      (∀ w11, Wd.grownBy w11 vf.ownBlock → w11.cell? ⟨g, i.toNat, none⟩ = some vf ∧ w11.frozen? ⟨g, i.toNat, none⟩ = false) := by
  obtain ⟨oki, c, hcl, hM, hcc, hfr, hoki, hH⟩ := Kd.S_elem h.out ([] : List Int) i h0 h1
  obtain ⟨vf, rfl, hR⟩ := hM
  rw [List.getD_eq_getElem?_getD, hrow, Option.getD_some] at hR
  have hcell : Wd.cell? ⟨g, i.toNat, none⟩ = some vf := by
    have := hcc 0 vf rfl
    rw [show (Kd.slice 3 (Kd.int .i64)).sz = 1 from rfl, Nat.mul_one, Nat.add_zero] at this
    exact this
  have hfz : Wd.frozen? ⟨g, i.toNat, none⟩ = false := by
    have := hfr 0
    rw [show (Kd.slice 3 (Kd.int .i64)).sz = 1 from rfl, Nat.mul_one, Nat.add_zero] at this
    exact this
  have hown : ∀ k, vf.ownBlock = some k → oki k := fun k hk => hR.1 k hk
  refine ⟨oki, vf, hH, hoki, hown, Kd.R_base hR, Kd.R_mono hR (fun k hk => .inl hk), hcell, fun w11 hg => ?_⟩
  have hgl : g < Wd.heap.size := World.block_lt_of_cell? _ _ hcell
  have hb : w11.heap[g]? = Wd.heap[g]? := hg.block g hgl (fun e => (hoki g (hown g e.symm)).2 rfl)
  refine ⟨cell_block hcell hb, ?_⟩
  unfold World.frozen? at hfz ⊢
  rw [hb]
  exact hfz
theorem regN_le {x : S52} {M : Nat} (hM : M = 1000000) (h : regsI x.f0 x.f1 ≤ 100000) : regN x ≤ M := by unfold regN; omega
theorem big_ok {n a M : Nat} (h : n ≤ a * M + M) (ha : a ≤ 100000) (hM : M = 1000000) : n < maxLen ∧ wrap64 ((n : Int) + 1) = (n : Int) + 1 := by
  subst hM
  have h2 : n ≤ 200000000000 := by omega
  constructor
  · unfold maxLen; omega
  · unfold wrap64; omega
theorem app_len {n : Nat} (h : n ≤ 1000000) : (n + 1) * 8 ≤ 140737488355328 := by omega
/-- one more key -/
theorem RS.key {w W W' : World} {bu bs : Nat} {C : Int → Option Int} {n D nb B0 : Nat} {seen : List Int} {v : Value} {rows : List (List Int)} (h : RS w bu bs C n D nb B0 seen v rows W) {k : Int} (hk : k ∉ seen) (hm : MapAt κI κI W' nb (updK (numF seen) k ((seen.length : Int) + 1)) (seen.length + 1)) (hK : KeepsBut (fun q => q = nb) W W') : RS w bu bs C n D nb B0 (seen ++ [k]) v rows W' := by
  have hlo := h.lo
  refine ⟨h.keep.low hK (fun q hq => by omega), (hK.block _ h.bc.lt (by omega)).trans h.bc, h.mc.same (hK.block _ h.mc.lt (by omega)), (hK.block _ (Array.getElem?_eq_some_iff.1 h.md).1 (by omega)).trans h.md, ?_, ?_, hlo.1, hlo.2.1, hlo.2.2.1, Nat.le_trans hlo.2.2.2 hK.size⟩
  · rw [numF_new hk] at hm
    rw [List.length_append, List.length_singleton]
    exact hm
  · exact Kd.S_mono (Kd.S_step (Kd.S_bound h.out) (fun k hk1 hk2 => hK.block k hk2 (by have := hk1.2.1; omega))) (fun _ _ => trivial)
theorem key_of {E : Int → Int → Prop} {xs : List Ent} {C : Int → Option Int} {U : Int → Option Int} (hUE : ∀ x y, Eq2 U x y ↔ E x y) {N : Nat} (hS : AllE (Eq2 U) N xs) (h : CM xs [] 0 C) (y : Int) (hy : E y y) : C y = some ((C y).getD 0) ∧ E ((C y).getD 0) y ∧ ∀ z, E z y → (C y).getD 0 ≤ z := by
  obtain ⟨x, hx, hxy⟩ := hS.cover y ((hUE _ _).2 hy)
  have hm := ((hS.row x hx).mem y).2 hxy
  have hs := h.done x hx y hm
  obtain ⟨u, hu⟩ := Option.isSome_iff_exists.1 hs
  rcases h.from_ y u hu with ⟨e, he, hye, rfl⟩ | ⟨g, _⟩
  · rw [hu]
    have hr := hS.row e he
    have h1 := (hr.mem y).1 hye
    refine ⟨rfl, (hUE _ _).1 h1.symm, fun z hz => ?_⟩
    have hz' := (hr.mem z).2 (((hUE _ _).2 hz).trans h1)
    obtain ⟨tl, ht⟩ := hr.head
    have hri := hr.rising
    rw [ht] at hri hz'
    rcases List.mem_cons.1 hz' with rfl | hz'
    · exact Int.le_refl _
    · exact Int.le_of_lt ((List.pairwise_cons.1 hri).1 _ hz')
  · cases g
set_option maxRecDepth 100000 in
set_option maxHeartbeats 8000000 in
theorem rows53_calls (w wI : World) (q p bu bs base nu N : Nat) (E : Int → Int → Prop) (cs : List S28) (h : FS w q p bu bs base nu N E cs) (hn : nu ≤ 100000) (hN : N ≤ 100000)
    (A : Option Addr) (c : Nat) (l : List S52) (hBI : Below wI.heap.size wI w) (hI : wI.heap.size ≤ q ∧ wI.heap.size ≤ bu ∧ wI.heap.size ≤ bs) (hC : Kd.C k52 wI A l.length l) (hz : Sz l) (hreg : ∀ x ∈ l, 0 ≤ regsI x.f0 x.f1 ∧ regsI x.f0 x.f1 ≤ 100000) (hlb : l.length ≤ 100000) :
    Calls Try.prog 53 #[.pointer (some ⟨q, 0, none⟩), .slice A l.length c] w fun e w' => ∃ (v : Value) (key : Int → Int), e = .returned v ∧ (∀ y, E y y → E (key y) y ∧ ∀ z, E z y → key y ≤ z) ∧ Kd.S (Kd.slice 3 (Kd.int .i64)) 36 w' w.heap.size (fun _ => True) v (numRows key l) ∧ KeepsBut (UX bu bs) w w' := by
  obtain ⟨M, hM⟩ : ∃ M : Nat, Aside0 (M = 100000) := ⟨_, ⟨rfl⟩⟩
  rw [← callsIn_wide (n := 5)]
  have hro : (Fence.wide).round = none := rfl
  have hmix : Try.prog.follows .mixedOrders = true := by kernel_rfl
  have hmm := @run_makeMap Try.prog
  have hu96 := Try.underlying96
  have hlt := h.un.lt
  obtain ⟨U, Z, hU, hUE⟩ := h.un
  have hnil := nil88
  have hcp : ((w.alloc (.map #[] 0)).alloc (.cells #[.map (some w.heap.size)] 66)).cell? ⟨q, 0, none⟩ = some (.pointer (some ⟨p, 0, none⟩)) := (h.step (below_alloc (below_alloc (Below.refl _ _) _) _)).cellp
  obtain ⟨W0, hW0⟩ : ∃ W0, ((w.alloc (.map #[] 0)).alloc (.cells #[.map (some w.heap.size)] 66)).alloc (.cells #[.pointer (some ⟨p, 0, none⟩)] 24) = W0 := ⟨_, rfl⟩
  refine callsIn_of_wp_marks Try.func53 rfl trivial ?_ hro
  simp only [Try.ntmps53, List.size_toArray, List.length_cons, List.length_nil, Nat.reduceAdd, Nat.reduceSub, Array.replicate_succ, Array.replicate_zero, List.push_toArray, List.append_toArray, List.nil_append, List.cons_append]
  gi_wp2_with ((try refine ⟨trivial, ?_⟩); gi_at_call 45; refine (callsIn_wide.2 (all45_calls _ _)).mono ?_; rintro e w' ⟨rfl, rfl⟩)
  have hs0 : W0.heap.size = w.heap.size + 3 := by rw [← hW0]; simp
  have hk0 : KeepsBut (UX bu bs) w W0 := by rw [← hW0]; exact ((KeepsBut.alloc _ w _).trans (KeepsBut.alloc _ _ _)).trans (KeepsBut.alloc _ _ _)
  have hU0 : Uni κI W0 p bu bs nu N U Z := by rw [← hW0]; exact ((hU.alloc _).alloc _).alloc _
  have hM0 : MapAt κI κI W0 w.heap.size (fun _ => none) 0 := by
    have := MapAt.made (κ := κI) (ν := κI) w
    rw [← hW0]
    exact this.same (((Below.heap_alloc _ _ _ (by simp; omega)).trans (Below.heap_alloc _ _ _ (by simp))))
  have bc0 : Boxed W0 (w.heap.size + 1) 66 (.map (some w.heap.size)) := by
    have := Boxed.new (w.alloc (.map #[] 0)) 66 (.map (some w.heap.size))
    rw [World.size_alloc] at this
    rw [← hW0]; exact this.alloc _
  have bx0 : Boxed W0 (w.heap.size + 2) 24 (.pointer (some ⟨p, 0, none⟩)) := by
    have := Boxed.new ((w.alloc (.map #[] 0)).alloc (.cells #[.map (some w.heap.size)] 66)) 24 (.pointer (some ⟨p, 0, none⟩))
    rw [World.size_alloc, World.size_alloc] at this
    rw [← hW0]; exact this
  have hltp := Aside0.mk hlt
  clear hW0 hnil hcp
  refine wpIn_rangeFunc_R hro (by omega) (gf := 70) (lb := #[.pointer (some ⟨w.heap.size + 2, 0, none⟩)]) rfl trivial (enters_of Try.func70 (by kernel_rfl) rfl) (all70_R W0 hU0 hn hN bx0.cell) ?XD ?Kt ?Kb ?Pb ?Qb (Below.refl _ _) (fun _ => rfl)
    (fun s pre W => Aside0 (CR M w bu bs s pre [] 0 W)) ?hI ?h0 ?a1 ?assign ?body ?done
  case XD => rintro k (rfl | rfl) <;> omega
  case Kt =>
    rintro s x A B C ⟨h1, h2⟩ ⟨g1, g2⟩
    exact ⟨Nat.le_trans h1 g1, fun k hk hne => (g2 k hk hne).trans (h2 k hk hne)⟩
  case Kb =>
    intro s x W l o h1 h2
    exact ⟨by simp, fun k hk hne => World.putObj_heap_other (by omega)⟩
  case Pb =>
    rintro s x W l o h1 h2 ⟨a1, a2, a3, a4, a5⟩
    exact ⟨a1, a2, a3, a4, own_keep a5 (KeepsBut.putObj (X := fun q => q = l) W o rfl) (fun r hr e => by omega)⟩
  case Qb =>
    rintro W l o h1 h2 ⟨U', hU', hh'⟩
    exact ⟨U', hU'.keep (KeepsBut.putObj (X := fun q => q = l) W o rfl) (fun e => by omega) (fun e => by omega) (fun e => by omega), hh'⟩
  case hI =>
    rintro s pre W l o h1 h2 ⟨hc⟩
    exact ⟨hc.stepk (KeepsBut.putObj (X := fun q => q = l) W o rfl) (fun k hk e => by omega)⟩
  case h0 =>
    intro W1 hk h6
    have hnX : ∀ q, w.heap.size ≤ q → ¬ UX bu bs q := fun q hq hx => by rcases hx with rfl | rfl <;> omega
    exact ⟨⟨⟨_, 0, ⟨(fun e he => by cases he), (fun y hy => by cases hy), (fun y u hu => by cases hu)⟩, hM0.same (hk.block _ hM0.lt (hnX _ (by omega))), by simp⟩, hk0.trans hk, (hk.block _ bc0.lt (hnX _ (by omega))).trans bc0, by omega, Nat.le_refl _⟩⟩
  case assign =>
    intro l x W K hK
    simp only [Ent.encs, Hd.val]
    gi_wp2
    exact hK
  case body =>
    rintro lp s pre x W hs1 hs2 ⟨hCI⟩ ⟨hIR, hxn, hxg, hxs, hxo⟩ hpN
    obtain ⟨tl, htl⟩ := hIR.head
    have hrl : 0 < x.row.length := by rw [htl]; simp
    have hxr : x.row.length ≤ 100000 := by
      have := hU0.few (hIR.rising.imp (fun h e => by omega)) (fun y hy => (Eq2.self_iff hU.F).1 (((hIR.mem y).1 hy).trans ((hIR.mem y).1 hy).symm))
      omega
    have hp0 : (0 : Int) ≤ 0 := Int.le_refl _
    have hqn : (0 : Int) < (x.k.n : Int) := by omega
    have hkn0 : 0 < x.k.n := by omega
    have hkb : x.k.n ≤ 1000000 := hxn ▸ Nat.le_trans hxr (by decide)
    have hwf : Aside0 (∀ y ∈ x.row, κI.wf y ∧ κI.wf x.m) := ⟨fun y hy => by
      have e := (hIR.mem y).1 hy
      obtain ⟨r, hr⟩ := Option.isSome_iff_exists.1 ((Eq2.self_iff hU.F).1 (e.trans e.symm))
      obtain ⟨r', hr'⟩ := Option.isSome_iff_exists.1 ((Eq2.self_iff hU.F).1 (e.symm.trans e))
      exact ⟨(hU.mu.wfs hr).1, (hU.mu.wfs hr').1⟩⟩
    have hm0 : Aside0 (x.row[0]? = some x.m) := ⟨by rw [htl]; rfl⟩
    have hsz := Aside0.mk (And.intro hxn (And.intro hxr (And.intro hpN (And.intro hrl (And.intro hxg (And.intro hxs (And.intro hs1 hs2)))))))
    have hstart : Aside0 (CR M w bu bs s pre (x.row.take 0) x.m W ∧ KeepsFrom W0.heap.size W W ∧ KpE p bu bs (W0.heap.size + 2) s x W W ∧ W.ownsRow (W0.heap.size + 2) 3 1 x.k.val x.row.length (x.row.map (Value.int .i64))) :=
      ⟨hCI.weak _, KeepsFrom.refl _ _, ⟨Nat.le_refl _, fun _ _ _ => rfl⟩, hxo⟩
    clear htl hrl hxr hCI hIR hxn hxg hxs hxo hpN hs1 hs2
    simp only [Ent.encs, Hd.val] at *
    gi_wp2
    gi_loopw [28] (fun v28 wr => ∃ (i : Nat), v28 = .int .i64 i ∧ i ≤ x.k.n ∧ Aside0 (CR M w bu bs s pre (x.row.take i) x.m wr ∧ KeepsFrom W0.heap.size W wr ∧ KpE p bu bs (W0.heap.size + 2) s x W wr ∧ wr.ownsRow (W0.heap.size + 2) 3 1 x.k.val x.row.length (x.row.map (Value.int .i64)))) (fun v28 _ => x.k.n - (RowKit.intOf v28).toNat)
    case atStart => exact ⟨0, rfl, by omega, hstart⟩
    case round =>
      obtain ⟨i, rfl, hi, hr⟩ := hrel
      clear hstart
      by_cases hl : i < x.k.n
      · have hltb : decide ((i : Int) < (x.k.n : Int)) = true := decide_eq_true (by omega)
        have hpi : (0 : Int) ≤ (i : Int) := by omega
        have hqi : (i : Int) < (x.k.n : Int) := by omega
        have hsx := hsz.out
        have hil : i < x.row.length := by omega
        have hog := hr.out.2.2.2
        unfold Hd.val at hog
        rw [hsx.1] at hog
        obtain ⟨ad, e1, hc⟩ := own_at hog (j := i) (x := .int .i64 x.row[i]) (by rw [List.getElem?_map, List.getElem?_eq_getElem hil]; rfl) hil
        obtain rfl := Option.some.inj e1
        obtain ⟨ad, e1, hc0⟩ := own_at hog (j := 0) (x := .int .i64 x.m) (by rw [List.getElem?_map, hm0.out]; rfl) hsx.2.2.2.1
        obtain rfl := Option.some.inj e1
        have hc0' : wr.cell? ⟨x.k.g, 0, none⟩ = some (.int .i64 x.m) := hc0
        have hci : wr.cell? ⟨x.k.g, i, none⟩ = some (.int .i64 x.row[i]) := by
          by_cases h0 : i = 0
          · subst h0; exact hc
          · simpa [Addr.add, h0] using hc
        have hy : Aside0 (x.row[i]? = some x.row[i]) := ⟨List.getElem?_eq_getElem hil⟩
        have hwy := Aside0.mk (hwf.out x.row[i] (List.getElem_mem hil))
        generalize x.row[i] = y at hc hci hy hwy
        obtain ⟨C, n, hCM, hMC, hnC⟩ := hr.out.1.ex
        have hMd : MapAt κI κI wr.drew w.heap.size C n := hMC.same rfl
        have hnb : n < maxLen := lenb hnC hsx.2.2.1 hN (Nat.le_trans (List.length_take_le' _ _) hsx.2.1) hM.out
        obtain ⟨W10, hst, hM10, ht10⟩ := hMd.store κI_ok κI_ok Try.underlying66 hwy.out.1 hwy.out.2 hnb
        have hk10 : KeepsBut (fun k => k = w.heap.size) wr W10 := (KeepsBut.mk rfl rfl rfl (Nat.le_refl _) (fun _ _ _ => rfl) : KeepsBut (fun k => k = w.heap.size) wr wr.drew).trans (keeps_grown ht10.grown rfl)
        have hbc := hr.out.1.bc.cell
        have hfin : Aside0 (CR M w bu bs s pre (x.row.take (i + 1)) x.m W10 ∧ KeepsFrom W0.heap.size W W10 ∧ KpE p bu bs (W0.heap.size + 2) s x W W10 ∧ W10.ownsRow (W0.heap.size + 2) 3 1 x.k.val x.row.length (x.row.map (Value.int .i64))) := by
          obtain ⟨g1, g2, g3, g4⟩ := hr.out
          have hlp := hltp.out
          refine ⟨⟨⟨_, _, ?_, hM10, ?_⟩, g1.keep.low hk10 (fun q hq e => by omega), (hk10.block _ g1.bc.lt (by omega)).trans g1.bc, g1.big, Nat.le_trans g1.sle hk10.size⟩, g2.trans ⟨hk10.size, fun k o hk ho hoc => (hk10.block k (Array.getElem?_eq_some_iff.1 ho).1 (by omega)).trans ho⟩, ⟨Nat.le_trans g3.1 hk10.size, fun k hk hne => ?_⟩, own_keep g4 hk10 (fun r hr e => by omega)⟩
          · rw [List.take_add_one, hy.out]
            exact hCM.put y
          · have h1 : (x.row.take i).length = i := List.length_take_of_le (Nat.le_of_lt hil)
            have h2 : (x.row.take (i + 1)).length = i + 1 := List.length_take_of_le hil
            rw [h1] at hnC
            rw [h2]
            exact ite_le hnC
          · have e := g3.2 k hk hne
            refine (hk10.block k ?_ ?_).trans e
            · have := g3.1; omega
            · omega
        simp only [κI] at hst
        clear hMC hMd hM10 ht10 hk10 hCM hnC hnb hog hil hr hsx hc0
        gi_wp2
        refine startR_ (m := 6) #[false, false, false, false, false, false] (S := fun w' => w'.cell? ⟨w.heap.size + 1, 0, none⟩ = some (.map (some w.heap.size)) ∧ w'.cell? ⟨x.k.g, 0, none⟩ = some (.int .i64 x.m)) (ds := [5]) hmix (by kernel_rfl) ?hno rfl rfl ⟨hbc, hc0'⟩ (fun hHeld => ?_)
        case hno => rintro ⟨a, w', hh⟩; exact hh
        refine take_ (i := 0) (N := some 32) (v := ?_) (a' := ?_) #[true, false, false, false, false, false] rfl rfl (by kernel_rfl) (fun _ _ _ h => h) (Or.inl ⟨by rfl, ?_⟩) hHeld ?_ ?_
        rotate_left
        · rintro w' ⟨s0, s1⟩
          go_simp
          try with_reducible rfl
        rotate_left
        · simp only [Act.put, List.setIfInBounds_toArray, List.set_cons_zero, List.set_cons_succ, i64_w, i32_w]
          rfl
        refine pure_ (i := 1) (N := some 33) (v := ?_) (a' := ?_) #[true, true, false, false, false, false] rfl rfl (by kernel_rfl) (fun _ _ _ h => h) (Or.inl ⟨by rfl, ?_⟩) ?_ ?_
        rotate_left
        · intro w'
          go_simp
          try with_reducible rfl
        rotate_left
        · simp only [Act.put, List.setIfInBounds_toArray, List.set_cons_zero, List.set_cons_succ, i64_w, i32_w]
          rfl
        refine pure_ (i := 2) (N := some 34) (v := ?_) (a' := ?_) #[true, true, true, false, false, false] rfl rfl (by kernel_rfl) (fun _ _ _ h => h) (Or.inl ⟨by rfl, ?_⟩) ?_ ?_
        rotate_left
        · intro w'
          go_simp
          try with_reducible rfl
        rotate_left
        · simp only [Act.put, List.setIfInBounds_toArray, List.set_cons_zero, List.set_cons_succ, i64_w, i32_w]
          rfl
        refine pure_ (i := 3) (N := some 35) (v := ?_) (a' := ?_) #[true, true, true, true, false, false] rfl rfl (by kernel_rfl) (fun _ _ _ h => h) (Or.inl ⟨by rfl, ?_⟩) ?_ ?_
        rotate_left
        · intro w'
          go_simp
          try with_reducible rfl
        rotate_left
        · simp only [Act.put, List.setIfInBounds_toArray, List.set_cons_zero, List.set_cons_succ, i64_w, i32_w]
          rfl
        refine take_ (i := 4) (N := some 36) (v := ?_) (a' := ?_) #[true, true, true, true, true, false] rfl rfl (by kernel_rfl) (fun _ _ _ h => h) (Or.inl ⟨by rfl, ?_⟩) hHeld ?_ ?_
        rotate_left
        · rintro w' ⟨s0, s1⟩
          go_simp
          try with_reducible rfl
        rotate_left
        · simp only [Act.put, List.setIfInBounds_toArray, List.set_cons_zero, List.set_cons_succ, i64_w, i32_w]
          rfl
        refine last_ (i := 5) (N := none) #[true, true, true, true, true, true] rfl rfl (by kernel_rfl) (by decide) (fun K hK => ?_)
        refine skip_ (w1 := W10) (by rfl) rfl ?_ ?_
        · go_simp
        refine hK.out _ _ ?_
        clear hK K
        refine done_ (by kernel_rfl) ?_
        gi_wp2
        go_roundw
        case rel => exact ⟨i + 1, by go_num, by omega, hfin⟩
        case measure => simp [RowKit.intOf]; omega
      · have hltb : decide ((i : Int) < (x.k.n : Int)) = false := decide_eq_false (by omega)
        gi_wp2
        obtain ⟨g1, g2, g3, g4⟩ := hr.out
        refine ⟨g2, g3, ⟨?_⟩⟩
        obtain ⟨C, n, h1, h2, h3⟩ := g1.ex
        rw [List.take_of_length_le (l := x.row) (i := i) (by have := hsz.out.1; omega)] at h1 h3
        exact ⟨⟨C, n, h1.next, h2, lenc h3 (by rw [hM.out]; exact hsz.out.2.1)⟩, g1.keep, g1.bc, g1.big, g1.sle⟩
  case done =>
    rintro D s xs W hD1 hD2 hS ⟨hCI⟩ ⟨U', hU', hh'⟩ hK
    obtain ⟨C, n, hCM, hMC, hnC⟩ := hCI.ex
    have hkey := Aside0.mk (key_of hUE hS hCM)
    have hkeep := hCI.keep
    have hbc := hCI.bc
    obtain ⟨nb, hnb⟩ : ∃ nb, W.heap.size = nb := ⟨_, rfl⟩
    have hDlt := (Array.getElem?_eq_some_iff.1 hK).1
    have hbs0 := Aside0.mk (And.intro hCI.keep (And.intro hCI.bc (And.intro hMC (And.intro hK (And.intro hD1 hDlt)))))
    clear hCI hCM hMC hnC hS hU' hh' hU hkeep hbc
    rename_i QQ KK aa
    show KK _ _
    refine aa _ _ (wpIn_wide.2 ?_)
    clear aa
    obtain ⟨key, hkd⟩ : ∃ key : Int → Int, Aside0 (∀ y, (C y).getD 0 = key y) := ⟨_, ⟨fun y => rfl⟩⟩
    have hs1 : (W.alloc (.map #[] 0)).heap.size = nb + 1 := by simp [hnb]
    have hlen6 := hz.len
    have hWlo : Aside0 (w.heap.size + 3 ≤ nb ∧ D < nb ∧ w.heap.size + 3 ≤ D) := ⟨by have := hs0; omega, by omega, by omega⟩
    clear hs0
    go_wp2_with ((with_reducible refine gate_dst (N := 41) rfl ?_); refine Kd.S_make (Kd.slice 3 (Kd.int .i64)) (w0 := W.alloc (.map #[] 0)) (nb + 1) 36 rfl (N := 41) rfl 44 _ _ rfl (l.length : Int) rfl rfl Try.underlying44 (.slice none 0 0) 24 info36 rfl (by decide) (by omega) ([] : List Int) (ok := fun _ => True) (okp := fun _ => True) ⟨_, rfl, Kd.R_nil _ _ _ _ _⟩ (fun _ h => h) trivial (by omega) (by omega) (Below.refl _ _) (by rw [hs1]; exact Nat.le_refl _) ?_; intro v1 w1 hS1 hB1 hg1 hat1; have hS1' := Aside0.mk hS1; have hB1' := Aside0.mk hB1; have hat1' := Aside0.mk hat1; clear hS1 hB1 hg1 hat1)
    obtain ⟨g, oc, rfl⟩ : ∃ g oc, v1 = .slice (some ⟨g, 0, none⟩) l.length oc := by
      obtain ⟨A1, c1, e⟩ := Kd.S_slice hS1'.out
      obtain ⟨b, hb, _⟩ := hat1'.out
      rw [List.length_replicate, Int.toNat_natCast] at e
      cases A1 with
      | none => rw [e] at hb; simp [Value.ownBlock] at hb
      | some ad =>
        have h1 := hS1'.out
        rw [e] at h1
        obtain ⟨g, rfl⟩ := Kd.R_head (Kd.S_R h1)
        exact ⟨g, c1, e⟩
    have hRS0 : Aside0 (RowsOk l key 0 0 [] (List.replicate l.length []) ∧ RS w bu bs C n D nb (nb + 1) [] (.slice (some ⟨g, 0, none⟩) l.length oc) (List.replicate l.length []) w1) := by
      obtain ⟨y1, y2, y3, y4, y5, y6⟩ := hbs0.out
      obtain ⟨z1, z2, z3⟩ := hWlo.out
      have hB1 := hB1'.out
      have hba : Below W.heap.size W (W.alloc (.map #[] 0)) := below_alloc (Below.refl _ _) _
      have hbw : Below W.heap.size W w1 := hba.trans (hB1.mono (by omega))
      have hmn : MapAt κI κI w1 nb (fun _ => none) 0 := by
        have h0 := MapAt.made (κ := κI) (ν := κI) W
        rw [hnb] at h0
        exact h0.same (hB1.block _ (by omega))
      have hS := hS1'.out
      rw [Int.toNat_natCast] at hS
      have hsz := hB1.size
      exact ⟨RowsOk.start l key, y1.trans (keeps_below hbw _), boxed_below y2 hbw y2.lt, y3.same (hbw.block _ y3.lt), (hbw.block _ (by omega)).trans y4, hmn, hS, by omega, by omega, by omega, by omega⟩
    have hC' := Aside0.mk (And.intro hC (And.intro hBI hI))
    have hz' := Aside0.mk (And.intro hz (And.intro hreg hlb))
    clear hS1' hB1' hat1' hbs0 hs1 hnb hDlt hK hD1 hD2 hC hBI hI hz hreg hU0 hM0 bc0 bx0 hk0 hmm h
    go_loopw [44] (fun v44 wr => ∃ (i : Nat), v44 = .int .i64 i ∧ i ≤ l.length ∧ Aside0 (∃ seen rows, RowsOk l key i 0 seen rows ∧ RS w bu bs C n D nb (nb + 1) seen (.slice (some ⟨g, 0, none⟩) l.length oc) rows wr)) (fun v44 _ => l.length - (RowKit.intOf v44).toNat)
    case atStart => exact ⟨0, rfl, by omega, ⟨_, _, hRS0.out⟩⟩
    case round =>
      obtain ⟨i, rfl, hi, hrel⟩ := hrel
      clear hRS0
      by_cases hil : i < l.length
      · have hltb : decide ((i : Int) < (l.length : Int)) = true := decide_eq_true (by omega)
        obtain ⟨seen, rows, hRO, hRS⟩ := hrel.out
        have hpm : (0 : Int) ≤ (i : Int) := by omega
        have hqm : (i : Int) < (l.length : Int) := by omega
        have hBw : Below wI.heap.size wI wr := by
          have h1 := hC'.out.2.1
          have h2 := hC'.out.2.2
          exact h1.trans (hRS.keep.below h1.size (fun k hk e => by rcases e with e | e <;> omega))
        obtain ⟨ad0, A3, c3, e0, g0, g1, hc3, hCb⟩ := at_T52 (Kd.C_below hC'.out.1 hBw) (i : Int) hpm hqm
        subst e0
        rw [Int.toNat_natCast] at g0 g1
        have hy : Aside0 (l[i]? = some (rd_T52 l (i : Int))) := ⟨by unfold rd_T52; rw [List.getElem?_eq_getElem hil]; simp [List.getD_eq_getElem?_getD, hil]⟩
        generalize rd_T52 l (i : Int) = y at g0 g1 hy hCb hc3
        have hym := List.mem_of_getElem? hy.out
        obtain ⟨w2, hw2⟩ : ∃ w2, wr.alloc (.cells #[.int .i64 y.f0, .slice A3 y.f1.length c3] 52) = w2 := ⟨_, rfl⟩
        have hb2 : Below wr.heap.size wr w2 := by rw [← hw2]; exact below_alloc (Below.refl _ _) _
        have k0 : w2.cell? ⟨wr.heap.size, 0, none⟩ = some (.int .i64 y.f0) := by rw [← hw2]; simp [go_sem]
        have k1 : w2.cell? ⟨wr.heap.size, 1, none⟩ = some (.slice A3 y.f1.length c3) := by rw [← hw2]; simp [go_sem]
        have h31 := regs_calls y.f0 A3 c3 y.f1 w2 (Kd.C_below hCb hb2) (hz'.out.1.bl y hym) (hz'.out.1.op y hym) (hz'.out.1.ar y hym)
        have hry := hz'.out.2.1 y hym
        obtain ⟨rg, hrg⟩ : ∃ rg, regsI y.f0 y.f1 = rg := ⟨_, rfl⟩
        rw [hrg] at h31 hry
        have hrn : Aside0 (regN y = rg.toNat + 1) := ⟨by unfold regN; rw [hrg]⟩
        obtain ⟨rn, hrn2⟩ : ∃ rn : Nat, Aside0 (rn = rg.toNat + 1) := ⟨_, ⟨rfl⟩⟩
        have hwr : wrap64 (rg + 1) = (rn : Int) := by rw [hrn2.out]; unfold wrap64; omega
        have hrb : rn ≤ 1000000 := by rw [hrn2.out]; omega
        have hst := Aside0.mk (And.intro hRO (hRS.step hb2))
        clear hRO hRS hBw hCb hc3 hym hry hrg hb2 hrel
        go_wp2_with (go_at_call 31; refine h31.mono ?_; rintro e w3 ⟨rfl, hb3⟩; have hst3 := Aside0.mk (And.intro hst.out.1 (hst.out.2.step hb3)); clear hb3)
        rw [hwr]
        clear hwr h31 k0 k1 g0 g1 hw2
        go_loopw [52] (fun v52 wr => ∃ (r : Nat), v52 = .int .i64 r ∧ r ≤ rn ∧ Aside0 (∃ seen rows, RowsOk l key i r seen rows ∧ RS w bu bs C n D nb (nb + 1) seen (.slice (some ⟨g, 0, none⟩) l.length oc) rows wr)) (fun v52 _ => rn - (RowKit.intOf v52).toNat)
        case atStart => exact ⟨0, rfl, by omega, ⟨_, _, hst3.out⟩⟩
        case round =>
          obtain ⟨r, rfl, hr, hrel⟩ := hrel
          clear hst3
          by_cases hrl : r < rn
          · have hltr : decide ((r : Int) < (rn : Int)) = true := decide_eq_true (by omega)
            obtain ⟨seen, rows, hRO, hRS⟩ := hrel.out
            have hvw := Aside0.mk (varI_wf (i : Int) (r : Int))
            obtain ⟨kk, hkk⟩ : ∃ kk, Aside0 (key (varI (i : Int) (r : Int)) = kk) := ⟨_, ⟨rfl⟩⟩
            have hGd := Aside0.mk (hRS.step (drew_below _))
            have hRO' := Aside0.mk hRO
            have hCk : Aside0 ((C (varI (i : Int) (r : Int))).getD 0 = kk) := ⟨by rw [hkd.out, hkk.out]⟩
            have hbc := hRS.bc.cell
            have hlk := hGd.out.look hvw.out hCk.out
            have hbcd := hGd.out.bc.cell
            have hkwf : Aside0 (κI.wf kk) := ⟨by
              rw [← hCk.out]
              cases hc : C (varI (i : Int) (r : Int)) with
              | none => rfl
              | some u => exact (hRS.mc.wfs hc).2⟩
            have hbig : Aside0 (seen.length < maxLen ∧ wrap64 ((seen.length : Int) + 1) = (seen.length : Int) + 1) := by
              obtain ⟨MM, hMM⟩ : ∃ MM : Nat, MM = 1000000 := ⟨_, rfl⟩
              refine ⟨big_ok (M := MM) (a := l.length) ?_ hz'.out.2.2 hMM⟩
              rw [hRO.seen]
              refine Nat.le_trans (firsts_len _) ?_
              rw [List.length_map]
              refine met_len (fun x hx => ?_) ?_
              · exact regN_le hMM (hz'.out.2.1 x hx).2
              · rw [hMM]; exact Nat.le_trans hr hrb
            clear hRO hRS hrel
            go_wp2
            refine wp_normal ?_
            refine start_ (n := 6) #[false, false, false, false, false, false] (S := fun w' => w'.cell? ⟨w.heap.size + 1, 0, none⟩ = some (.map (some w.heap.size)) ∧ (Instr.lookup 66 (.map (some w.heap.size)) (.int .i64 (varI (i : Int) (r : Int))) false).run Try.prog w' = .ok (.int .i64 kk) w') (ds := []) hmix rfl rfl ⟨hbcd, hlk⟩ (fun hHeld => ?_)
            refine take_ (i := 0) (N := some 55) (v := ?_) (a' := ?_) #[true, false, false, false, false, false] rfl rfl (by kernel_rfl) (fun _ _ _ h => by cases h.1) (Or.inl ⟨by rfl, ?_⟩) hHeld ?_ ?_
            rotate_left
            · rintro w' ⟨s0, s1⟩
              go_simp
              try with_reducible rfl
            rotate_left
            · simp only [Act.put, List.setIfInBounds_toArray, List.set_cons_zero, List.set_cons_succ, i64_w, i32_w]
              rfl
            refine pure_ (i := 1) (N := some 56) (v := ?_) (a' := ?_) #[true, true, false, false, false, false] rfl rfl (by kernel_rfl) (fun _ _ _ h => by cases h.1) (Or.inl ⟨by rfl, ?_⟩) ?_ ?_
            rotate_left
            · intro w'
              go_simp
              try with_reducible rfl
            rotate_left
            · simp only [Act.put, List.setIfInBounds_toArray, List.set_cons_zero, List.set_cons_succ, i64_w, i32_w]
              rfl
            refine pure_ (i := 2) (N := some 57) (v := ?_) (a' := ?_) #[true, true, true, false, false, false] rfl rfl (by kernel_rfl) (fun _ _ _ h => by cases h.1) (Or.inl ⟨by rfl, ?_⟩) ?_ ?_
            rotate_left
            · intro w'
              go_simp
              try with_reducible rfl
            rotate_left
            · simp only [Act.put, List.setIfInBounds_toArray, List.set_cons_zero, List.set_cons_succ, i64_w, i32_w]
              rfl
            refine one_ (i := 3) (N := some 58) #[true, true, true, true, false, false] rfl rfl (by kernel_rfl) (by decide) (fun K hK => ?_)
            refine call_ 50 _ (by rfl) rfl (by go_simp; rfl) ?_
            refine (var_calls (i : Int) (r : Int) _).mono ?_
            rintro e w9 ⟨rfl, hb9⟩
            refine ⟨_, rfl, ?_⟩
            have hG9 := Aside0.mk (hGd.out.step hb9)
            clear hb9
            have hlk9 := hG9.out.look hvw.out hCk.out
            refine hK.out _ _ ⟨hG9.out.bc.cell, hlk9⟩ (fun hHeld => ?_)
            clear hK K
            refine norm_ (a' := ?_) ?_ ?_
            rotate_left
            · show Act.put _ (some 58) _ = _
              simp only [Act.put, List.setIfInBounds_toArray, List.set_cons_zero, List.set_cons_succ, i64_w, i32_w]
              rfl
            refine take_ (i := 4) (N := some 59) (v := ?_) (a' := ?_) #[true, true, true, true, true, false] rfl rfl (by kernel_rfl) (fun _ _ _ h => by cases h.1) (Or.inl ⟨by rfl, ?_⟩) hHeld ?_ ?_
            rotate_left
            · rintro w' ⟨s0, s1⟩
              go_simp
              try with_reducible rfl
            rotate_left
            · simp only [Act.put, List.setIfInBounds_toArray, List.set_cons_zero, List.set_cons_succ, i64_w, i32_w]
              rfl
            refine pure_ (i := 5) (N := some 15) (v := ?_) (a' := ?_) #[true, true, true, true, true, true] rfl rfl (by kernel_rfl) (fun _ _ _ h => by cases h.1) (Or.inl ⟨by rfl, ?_⟩) ?_ ?_
            rotate_left
            · intro w'
              go_simp
              try with_reducible rfl
            rotate_left
            · simp only [Act.put, List.setIfInBounds_toArray, List.set_cons_zero, List.set_cons_succ, i64_w, i32_w]
              rfl
            refine done_ (by kernel_rfl) ⟨rfl, ?_⟩
            have hlk2 := hG9.out.mn.look_ok κI_ok κI_ok Try.underlying66 hkwf.out
            have hrow := Aside0.mk (hRO'.out.row hy.out)
            have hrr := Aside0.mk (show r ≤ 1000000 by omega)
            obtain ⟨rowf, hrowf⟩ : ∃ rowf, Aside0 ((varRow i r).map (fun v => num seen (key v)) = rowf) := ⟨_, ⟨rfl⟩⟩
            have hrfl := Aside0.mk (show rowf.length ≤ 1000000 by rw [← hrowf.out]; simpa [varRow] using hrr.out)
            rw [hrowf.out] at hrow
            have hpi : (0 : Int) ≤ (i : Int) := by omega
            have hqi : (i : Int) < (l.length : Int) := by omega
            have hil' := Aside0.mk hil
            clear hHeld hlk hbcd hGd hbc
            by_cases hks : kk ∈ seen
            · have hnf : numF seen kk = some (num seen kk) := if_pos hks
              rw [hnf] at hlk2
              simp only [κI, Option.getD_some, Option.isSome_some] at hlk2
              obtain ⟨nv, hnv⟩ : ∃ nv, num seen kk = nv := ⟨_, rfl⟩
              rw [hnv] at hlk2
              have hput := Aside0.mk (hRO'.out.put hy.out hkk.out)
              rw [if_pos hks, hrowf.out, hnv] at hput
              have hnv' := Aside0.mk hnv
              have hnf' := Aside0.mk hnf
              clear hnv hnf hks
              go_wp2
              obtain ⟨Wd, hWd⟩ : ∃ Wd, w9.drew = Wd := ⟨_, rfl⟩
              have hG2 := Aside0.mk (show RS w bu bs C n D nb (nb + 1) seen (.slice (some ⟨g, 0, none⟩) l.length oc) rows Wd by rw [← hWd]; exact hG9.out.step (drew_below _))
              obtain ⟨oki, vf, hle⟩ := hG2.out.lend hpi hqi (rowf := rowf) (by rw [Int.toNat_natCast]; exact hrow.out)
              have hle := Aside0.mk hle
              have hcv := hle.out.2.2.2.2.2.1
              rw [Int.toNat_natCast] at hcv
              have hlkB : ∀ V, V.heap[nb]? = Wd.heap[nb]? → (Instr.lookup 66 (.map (some nb)) (.int .i64 kk) false).run Try.prog V = .ok (.int .i64 nv) V := fun V hV => by
                have h0 := (hG2.out.mn.same hV).look κI_ok κI_ok Try.underlying66 hkwf.out
                rw [hnf'.out, Option.getD_some, hnv'.out] at h0
                exact h0
              have hlkC := hlkB Wd rfl
              have hlkA := Aside0.mk (hlkB (Wd.alloc (.cells #[.int .i64 nv] 3)) (Below.heap_alloc _ _ _ hG2.out.mn.lt))
              clear hlkB hG9 hlk2
              refine wp_normal ?_
              refine start_ (n := 13) #[false, false, false, false, false, false, false, false, false, false, false, false, false] (S := fun w' => w'.cell? ⟨g, i, none⟩ = some vf ∧ (Instr.lookup 66 (.map (some nb)) (.int .i64 kk) false).run Try.prog w' = .ok (.int .i64 nv) w') (ds := [10, 12]) hmix rfl rfl (by rw [hWd]; exact ⟨hcv, hlkC⟩) (fun hHeld => ?_)
              rw [hWd] at hHeld ⊢
              clear hWd
              refine pure_ (i := 0) (N := some 73) (v := ?_) (a' := ?_) #[true, false, false, false, false, false, false, false, false, false, false, false, false] rfl rfl (by kernel_rfl) (fun _ _ _ h => by cases h.1) (Or.inl ⟨by rfl, ?_⟩) ?_ ?_
              rotate_left
              · intro w'
                go_simp
                try with_reducible rfl
              rotate_left
              · simp only [Act.put, List.setIfInBounds_toArray, List.set_cons_zero, List.set_cons_succ, i64_w, i32_w]
                rfl
              refine pure_ (i := 1) (N := some 74) (v := ?_) (a' := ?_) #[true, true, false, false, false, false, false, false, false, false, false, false, false] rfl rfl (by kernel_rfl) (fun _ _ _ h => by cases h.1) (Or.inl ⟨by rfl, ?_⟩) ?_ ?_
              rotate_left
              · intro w'
                go_simp
                try with_reducible rfl
              rotate_left
              · simp only [Act.put, List.setIfInBounds_toArray, List.set_cons_zero, List.set_cons_succ, i64_w, i32_w]
                rfl
              refine pure_ (i := 2) (N := some 75) (v := ?_) (a' := ?_) #[true, true, true, false, false, false, false, false, false, false, false, false, false] rfl rfl (by kernel_rfl) (fun _ _ _ h => by cases h.1) (Or.inl ⟨by rfl, ?_⟩) ?_ ?_
              rotate_left
              · intro w'
                go_simp
                try with_reducible rfl
              rotate_left
              · simp only [Act.put, List.setIfInBounds_toArray, List.set_cons_zero, List.set_cons_succ, i64_w, i32_w]
                rfl
              refine pure_ (i := 3) (N := some 76) (v := ?_) (a' := ?_) #[true, true, true, true, false, false, false, false, false, false, false, false, false] rfl rfl (by kernel_rfl) (fun _ _ _ h => by cases h.1) (Or.inl ⟨by rfl, ?_⟩) ?_ ?_
              rotate_left
              · intro w'
                go_simp
                try with_reducible rfl
              rotate_left
              · simp only [Act.put, List.setIfInBounds_toArray, List.set_cons_zero, List.set_cons_succ, i64_w, i32_w]
                rfl
              refine pure_ (i := 4) (N := some 77) (v := ?_) (a' := ?_) #[true, true, true, true, true, false, false, false, false, false, false, false, false] rfl rfl (by kernel_rfl) (fun _ _ _ h => by cases h.1) (Or.inl ⟨by rfl, ?_⟩) ?_ ?_
              rotate_left
              · intro w'
                go_simp
                try with_reducible rfl
              rotate_left
              · simp only [Act.put, List.setIfInBounds_toArray, List.set_cons_zero, List.set_cons_succ, i64_w, i32_w]
                rfl
              refine take_ (i := 5) (N := some 78) (v := ?_) (a' := ?_) #[true, true, true, true, true, true, false, false, false, false, false, false, false] rfl rfl (by kernel_rfl) (fun _ _ _ h => by cases h.1) (Or.inl ⟨by rfl, ?_⟩) hHeld ?_ ?_
              rotate_left
              · rintro w' ⟨s0, s1⟩
                go_simp
                try with_reducible rfl
              rotate_left
              · simp only [Act.put, List.setIfInBounds_toArray, List.set_cons_zero, List.set_cons_succ, i64_w, i32_w]
                rfl
              refine pure_ (i := 6) (N := some 79) (v := ?_) (a' := ?_) #[true, true, true, true, true, true, true, false, false, false, false, false, false] rfl rfl (by kernel_rfl) (fun _ _ _ h => by cases h.1) (Or.inl ⟨by rfl, ?_⟩) ?_ ?_
              rotate_left
              · intro w'
                go_simp
                try with_reducible rfl
              rotate_left
              · simp only [Act.put, List.setIfInBounds_toArray, List.set_cons_zero, List.set_cons_succ, i64_w, i32_w]
                rfl
              refine pure_ (i := 7) (N := some 80) (v := ?_) (a' := ?_) #[true, true, true, true, true, true, true, true, false, false, false, false, false] rfl rfl (by kernel_rfl) (fun _ _ _ h => by cases h.1) (Or.inl ⟨by rfl, ?_⟩) ?_ ?_
              rotate_left
              · intro w'
                go_simp
                try with_reducible rfl
              rotate_left
              · simp only [Act.put, List.setIfInBounds_toArray, List.set_cons_zero, List.set_cons_succ, i64_w, i32_w]
                rfl
              refine take_ (i := 8) (N := some 81) (v := ?_) (a' := ?_) #[true, true, true, true, true, true, true, true, true, false, false, false, false] rfl rfl (by kernel_rfl) (fun _ _ _ h => by cases h.1) (Or.inl ⟨by rfl, ?_⟩) hHeld ?_ ?_
              rotate_left
              · rintro w' ⟨s0, s1⟩
                go_simp
                try with_reducible rfl
              rotate_left
              · simp only [Act.put, List.setIfInBounds_toArray, List.set_cons_zero, List.set_cons_succ, i64_w, i32_w]
                rfl
              refine one_ (i := 9) (N := some 82) #[true, true, true, true, true, true, true, true, true, true, false, false, false] rfl rfl (by kernel_rfl) (by decide) (fun K hK => ?_)
              refine value_ (w1 := ?_) (v := ?_) (by rfl) rfl ?_ ?_
              rotate_left 2
              · go_simp
                constructor
                · rfl
                · rfl
              refine hK.out _ _ ⟨pw_cell_below (below_alloc (Below.refl _ _) _) hHeld.1, hlkA.out⟩ (fun hHeld => ?_)
              clear hK K
              refine norm_ (a' := ?_) ?_ ?_
              rotate_left
              · show Act.put _ (some 82) _ = _
                simp only [Act.put, List.setIfInBounds_toArray, List.set_cons_zero, List.set_cons_succ, i64_w, i32_w]
                rfl
              refine last_ (i := 10) (N := some 83) #[true, true, true, true, true, true, true, true, true, true, true, false, false] rfl rfl (by kernel_rfl) (by decide) (fun K hK => ?_)
              refine Kd.R_append_step (Kd.int .i64) (w0 := Wd) (nb + 1) (by rfl) (.tmp 78) (.tmp 82) 36 3 (.int .i64 0) 8 rfl Try.underlying36 info3 rfl (by decide) (by decide) vf rowf nv [.int .i64 nv] (fun k => oki k ∨ True ∧ Wd.heap.size ≤ k) (fun _ => False) rfl rfl ?aP (fun k h => h.elim) (fun k hk => .inr ⟨trivial, hk⟩) hle.out.2.2.2.2.1 ?aB ?aS ?aL ?_
              (case aP => rfl)
              (case aB => exact Below.refl _ _)
              (case aS => exact hG2.out.lo.2.2.2)
              (case aL => exact app_len hrfl.out)
              intro v1 w11 hv1 hb11 hg11 hat11
              obtain ⟨Av, cv, hve⟩ := Kd.R_slice hv1
              rw [show (rowf ++ [nv]).length = rowf.length + 1 by simp] at hve
              subst hve
              have hst1 := hle.out.2.2.2.2.2.2 w11 hg11
              have hG3 := Aside0.mk (hG2.out.put (hltp.out.2.1) (hltp.out.2.2) hpi hqi hle.out.1 hle.out.2.1 hle.out.2.2.1 hle.out.2.2.2.1 hv1 hg11 rfl)
              rw [Int.toNat_natCast] at hG3 hst1
              clear hv1 hb11 hg11 hat11
              refine hK.out _ _ ?_
              clear hK K
              refine norm_ (a' := ?_) ?_ ?_
              rotate_left
              · show Act.put _ (some 83) _ = _
                simp only [Act.put, List.setIfInBounds_toArray, List.set_cons_zero, List.set_cons_succ, i64_w, i32_w]
                rfl
              refine pure_ (i := 11) (N := some 84) (v := ?_) (a' := ?_) #[true, true, true, true, true, true, true, true, true, true, true, true, false] rfl rfl (by kernel_rfl) (fun _ _ _ h => by cases h.1) (Or.inl ⟨by rfl, ?_⟩) ?_ ?_
              rotate_left
              · intro w'
                go_simp
                try with_reducible rfl
              rotate_left
              · simp only [Act.put, List.setIfInBounds_toArray, List.set_cons_zero, List.set_cons_succ, i64_w, i32_w]
                rfl
              refine last_ (i := 12) (N := none) #[true, true, true, true, true, true, true, true, true, true, true, true, true] rfl rfl (by kernel_rfl) (by decide) (fun K hK => ?_)
              have z1 := hst1.1
              have z2 := hst1.2
              refine skip_ (w1 := ?_) (by rfl) rfl ?_ ?_
              rotate_left
              · go_simp
                rfl
              refine hK.out _ _ ?_
              clear hK K
              refine done_ (by kernel_rfl) ⟨rfl, ?_⟩
              go_wp2
              go_roundw
              case rel => exact ⟨r + 1, by go_num, by omega, ⟨_, _, hput.out, hG3.out⟩⟩
              case measure => simp [RowKit.intOf]; omega
            · have hnf : numF seen kk = none := if_neg hks
              rw [hnf] at hlk2
              simp only [κI, Option.getD_none, Option.isSome_none] at hlk2
              have hln := hG9.out.mn.len Try.underlying66 3
              obtain ⟨nv, hnv⟩ : ∃ nv, (seen.length : Int) + 1 = nv := ⟨_, rfl⟩
              have hwz : wrap64 ((seen.length : Int) + 1) = nv := by rw [hbig.out.2, hnv]
              have hput := Aside0.mk (hRO'.out.put hy.out hkk.out)
              rw [if_neg hks, hrowf.out, num_new hks, hnv] at hput
              have hnvw : κI.wf nv := by rw [← hwz]; exact wrap64_wf _
              obtain ⟨W10, hst, hM10, ht10⟩ := hG9.out.mn.store κI_ok κI_ok Try.underlying66 hkwf.out hnvw hbig.out.1
              rw [hnf] at hM10
              simp only [Option.isSome_none] at hM10
              rw [if_neg (by decide), ← hnv] at hM10
              have hG10 := Aside0.mk (hG9.out.key hks hM10 (keeps_grown ht10.grown rfl))
              simp only [κI] at hst
              have hnv' := Aside0.mk hnv
              have hks' := Aside0.mk hks
              clear hnv hnf hks hM10 ht10 hnvw
              go_wp2
              obtain ⟨Wd, hWd⟩ : ∃ Wd, W10.drew = Wd := ⟨_, rfl⟩
              have hG2 := Aside0.mk (show RS w bu bs C n D nb (nb + 1) (seen ++ [kk]) (.slice (some ⟨g, 0, none⟩) l.length oc) rows Wd by rw [← hWd]; exact hG10.out.step (drew_below _))
              obtain ⟨oki, vf, hle⟩ := hG2.out.lend hpi hqi (rowf := rowf) (by rw [Int.toNat_natCast]; exact hrow.out)
              have hle := Aside0.mk hle
              have hcv := hle.out.2.2.2.2.2.1
              rw [Int.toNat_natCast] at hcv
              have hlkB : ∀ V, V.heap[nb]? = Wd.heap[nb]? → (Instr.lookup 66 (.map (some nb)) (.int .i64 kk) false).run Try.prog V = .ok (.int .i64 nv) V := fun V hV => by
                have h0 := (hG2.out.mn.same hV).look κI_ok κI_ok Try.underlying66 hkwf.out
                rw [show numF (seen ++ [kk]) kk = some nv from (if_pos (by simp)).trans (by rw [num_new hks'.out, hnv'.out]), Option.getD_some] at h0
                exact h0
              have hlkC := hlkB Wd rfl
              have hlkA := Aside0.mk (hlkB (Wd.alloc (.cells #[.int .i64 nv] 3)) (Below.heap_alloc _ _ _ hG2.out.mn.lt))
              clear hlkB hG9 hlk2 hst hln hwz
              refine wp_normal ?_
              refine start_ (n := 13) #[false, false, false, false, false, false, false, false, false, false, false, false, false] (S := fun w' => w'.cell? ⟨g, i, none⟩ = some vf ∧ (Instr.lookup 66 (.map (some nb)) (.int .i64 kk) false).run Try.prog w' = .ok (.int .i64 nv) w') (ds := [10, 12]) hmix rfl rfl (by rw [hWd]; exact ⟨hcv, hlkC⟩) (fun hHeld => ?_)
              rw [hWd] at hHeld ⊢
              clear hWd
              refine pure_ (i := 0) (N := some 73) (v := ?_) (a' := ?_) #[true, false, false, false, false, false, false, false, false, false, false, false, false] rfl rfl (by kernel_rfl) (fun _ _ _ h => by cases h.1) (Or.inl ⟨by rfl, ?_⟩) ?_ ?_
              rotate_left
              · intro w'
                go_simp
                try with_reducible rfl
              rotate_left
              · simp only [Act.put, List.setIfInBounds_toArray, List.set_cons_zero, List.set_cons_succ, i64_w, i32_w]
                rfl
              refine pure_ (i := 1) (N := some 74) (v := ?_) (a' := ?_) #[true, true, false, false, false, false, false, false, false, false, false, false, false] rfl rfl (by kernel_rfl) (fun _ _ _ h => by cases h.1) (Or.inl ⟨by rfl, ?_⟩) ?_ ?_
              rotate_left
              · intro w'
                go_simp
                try with_reducible rfl
              rotate_left
              · simp only [Act.put, List.setIfInBounds_toArray, List.set_cons_zero, List.set_cons_succ, i64_w, i32_w]
                rfl
              refine pure_ (i := 2) (N := some 75) (v := ?_) (a' := ?_) #[true, true, true, false, false, false, false, false, false, false, false, false, false] rfl rfl (by kernel_rfl) (fun _ _ _ h => by cases h.1) (Or.inl ⟨by rfl, ?_⟩) ?_ ?_
              rotate_left
              · intro w'
                go_simp
                try with_reducible rfl
              rotate_left
              · simp only [Act.put, List.setIfInBounds_toArray, List.set_cons_zero, List.set_cons_succ, i64_w, i32_w]
                rfl
              refine pure_ (i := 3) (N := some 76) (v := ?_) (a' := ?_) #[true, true, true, true, false, false, false, false, false, false, false, false, false] rfl rfl (by kernel_rfl) (fun _ _ _ h => by cases h.1) (Or.inl ⟨by rfl, ?_⟩) ?_ ?_
              rotate_left
              · intro w'
                go_simp
                try with_reducible rfl
              rotate_left
              · simp only [Act.put, List.setIfInBounds_toArray, List.set_cons_zero, List.set_cons_succ, i64_w, i32_w]
                rfl
              refine pure_ (i := 4) (N := some 77) (v := ?_) (a' := ?_) #[true, true, true, true, true, false, false, false, false, false, false, false, false] rfl rfl (by kernel_rfl) (fun _ _ _ h => by cases h.1) (Or.inl ⟨by rfl, ?_⟩) ?_ ?_
              rotate_left
              · intro w'
                go_simp
                try with_reducible rfl
              rotate_left
              · simp only [Act.put, List.setIfInBounds_toArray, List.set_cons_zero, List.set_cons_succ, i64_w, i32_w]
                rfl
              refine take_ (i := 5) (N := some 78) (v := ?_) (a' := ?_) #[true, true, true, true, true, true, false, false, false, false, false, false, false] rfl rfl (by kernel_rfl) (fun _ _ _ h => by cases h.1) (Or.inl ⟨by rfl, ?_⟩) hHeld ?_ ?_
              rotate_left
              · rintro w' ⟨s0, s1⟩
                go_simp
                try with_reducible rfl
              rotate_left
              · simp only [Act.put, List.setIfInBounds_toArray, List.set_cons_zero, List.set_cons_succ, i64_w, i32_w]
                rfl
              refine pure_ (i := 6) (N := some 79) (v := ?_) (a' := ?_) #[true, true, true, true, true, true, true, false, false, false, false, false, false] rfl rfl (by kernel_rfl) (fun _ _ _ h => by cases h.1) (Or.inl ⟨by rfl, ?_⟩) ?_ ?_
              rotate_left
              · intro w'
                go_simp
                try with_reducible rfl
              rotate_left
              · simp only [Act.put, List.setIfInBounds_toArray, List.set_cons_zero, List.set_cons_succ, i64_w, i32_w]
                rfl
              refine pure_ (i := 7) (N := some 80) (v := ?_) (a' := ?_) #[true, true, true, true, true, true, true, true, false, false, false, false, false] rfl rfl (by kernel_rfl) (fun _ _ _ h => by cases h.1) (Or.inl ⟨by rfl, ?_⟩) ?_ ?_
              rotate_left
              · intro w'
                go_simp
                try with_reducible rfl
              rotate_left
              · simp only [Act.put, List.setIfInBounds_toArray, List.set_cons_zero, List.set_cons_succ, i64_w, i32_w]
                rfl
              refine take_ (i := 8) (N := some 81) (v := ?_) (a' := ?_) #[true, true, true, true, true, true, true, true, true, false, false, false, false] rfl rfl (by kernel_rfl) (fun _ _ _ h => by cases h.1) (Or.inl ⟨by rfl, ?_⟩) hHeld ?_ ?_
              rotate_left
              · rintro w' ⟨s0, s1⟩
                go_simp
                try with_reducible rfl
              rotate_left
              · simp only [Act.put, List.setIfInBounds_toArray, List.set_cons_zero, List.set_cons_succ, i64_w, i32_w]
                rfl
              refine one_ (i := 9) (N := some 82) #[true, true, true, true, true, true, true, true, true, true, false, false, false] rfl rfl (by kernel_rfl) (by decide) (fun K hK => ?_)
              refine value_ (w1 := ?_) (v := ?_) (by rfl) rfl ?_ ?_
              rotate_left 2
              · go_simp
                constructor
                · rfl
                · rfl
              refine hK.out _ _ ⟨pw_cell_below (below_alloc (Below.refl _ _) _) hHeld.1, hlkA.out⟩ (fun hHeld => ?_)
              clear hK K
              refine norm_ (a' := ?_) ?_ ?_
              rotate_left
              · show Act.put _ (some 82) _ = _
                simp only [Act.put, List.setIfInBounds_toArray, List.set_cons_zero, List.set_cons_succ, i64_w, i32_w]
                rfl
              refine last_ (i := 10) (N := some 83) #[true, true, true, true, true, true, true, true, true, true, true, false, false] rfl rfl (by kernel_rfl) (by decide) (fun K hK => ?_)
              refine Kd.R_append_step (Kd.int .i64) (w0 := Wd) (nb + 1) (by rfl) (.tmp 78) (.tmp 82) 36 3 (.int .i64 0) 8 rfl Try.underlying36 info3 rfl (by decide) (by decide) vf rowf nv [.int .i64 nv] (fun k => oki k ∨ True ∧ Wd.heap.size ≤ k) (fun _ => False) rfl rfl ?aP (fun k h => h.elim) (fun k hk => .inr ⟨trivial, hk⟩) hle.out.2.2.2.2.1 ?aB ?aS ?aL ?_
              (case aP => rfl)
              (case aB => exact Below.refl _ _)
              (case aS => exact hG2.out.lo.2.2.2)
              (case aL => exact app_len hrfl.out)
              intro v1 w11 hv1 hb11 hg11 hat11
              obtain ⟨Av, cv, hve⟩ := Kd.R_slice hv1
              rw [show (rowf ++ [nv]).length = rowf.length + 1 by simp] at hve
              subst hve
              have hst1 := hle.out.2.2.2.2.2.2 w11 hg11
              have hG3 := Aside0.mk (hG2.out.put (hltp.out.2.1) (hltp.out.2.2) hpi hqi hle.out.1 hle.out.2.1 hle.out.2.2.1 hle.out.2.2.2.1 hv1 hg11 rfl)
              rw [Int.toNat_natCast] at hG3 hst1
              clear hv1 hb11 hg11 hat11
              refine hK.out _ _ ?_
              clear hK K
              refine norm_ (a' := ?_) ?_ ?_
              rotate_left
              · show Act.put _ (some 83) _ = _
                simp only [Act.put, List.setIfInBounds_toArray, List.set_cons_zero, List.set_cons_succ, i64_w, i32_w]
                rfl
              refine pure_ (i := 11) (N := some 84) (v := ?_) (a' := ?_) #[true, true, true, true, true, true, true, true, true, true, true, true, false] rfl rfl (by kernel_rfl) (fun _ _ _ h => by cases h.1) (Or.inl ⟨by rfl, ?_⟩) ?_ ?_
              rotate_left
              · intro w'
                go_simp
                try with_reducible rfl
              rotate_left
              · simp only [Act.put, List.setIfInBounds_toArray, List.set_cons_zero, List.set_cons_succ, i64_w, i32_w]
                rfl
              refine last_ (i := 12) (N := none) #[true, true, true, true, true, true, true, true, true, true, true, true, true] rfl rfl (by kernel_rfl) (by decide) (fun K hK => ?_)
              have z1 := hst1.1
              have z2 := hst1.2
              refine skip_ (w1 := ?_) (by rfl) rfl ?_ ?_
              rotate_left
              · go_simp
                rfl
              refine hK.out _ _ ?_
              clear hK K
              refine done_ (by kernel_rfl) ⟨rfl, ?_⟩
              go_wp2
              go_roundw
              case rel => exact ⟨r + 1, by go_num, by omega, ⟨_, _, hput.out, hG3.out⟩⟩
              case measure => simp [RowKit.intOf]; omega
          · have hltr : decide ((r : Int) < (rn : Int)) = false := decide_eq_false (by omega)
            go_wp2
            go_roundw
            case rel =>
              refine ⟨i + 1, by go_num, by omega, ⟨?_⟩⟩
              obtain ⟨seen, rows, hRO, hRS⟩ := hrel.out
              have hr2 : r = regN y := by rw [hrn.out, ← hrn2.out]; omega
              subst hr2
              exact ⟨seen, rows, hRO.next hy.out, hRS⟩
            case measure => simp [RowKit.intOf]; omega
      · have hltb : decide ((i : Int) < (l.length : Int)) = false := decide_eq_false (by omega)
        go_wp2
        obtain ⟨seen, rows, hRO, hRS⟩ := hrel.out
        have hil2 : i = l.length := by omega
        subst hil2
        refine ⟨by simp, .inl ⟨_, _, rfl, run_takeDeferred hRS.md, ?_⟩⟩
        have hlo := hRS.lo
        have hk : KeepsBut (fun q => q = D) wr (wr.putObj D (.deferred none)) := KeepsBut.putObj _ _ rfl
        have hS : Kd.S (Kd.slice 3 (Kd.int .i64)) 36 (wr.putObj D (.deferred none)) w.heap.size (fun _ => True) (.slice (some ⟨g, 0, none⟩) l.length oc) rows :=
          Kd.S_mono (Kd.S_step (Kd.S_bound (Kd.S_lower hRS.out (by omega : w.heap.size ≤ nb + 1))) (fun k hk1 hk2 => hk.block k hk2 (by
            rintro rfl
            obtain ⟨_, _, _, _, _, cells, hc⟩ := hk1
            rw [hRS.md] at hc
            cases hc))) (fun _ _ => trivial)
        rw [hRO.fin] at hS
        refine ⟨.slice (some ⟨g, 0, none⟩) l.length oc, by simp [results, Try.f53, go_sem], _, key, rfl, fun y hy => ?_, hS, hRS.keep.low hk (fun q hq e => by omega)⟩
        have h1 := hkey.out y hy
        rw [hkd.out y] at h1
        exact ⟨h1.2.1, h1.2.2⟩
end Go.Proofs.Yteeapfmgdlcgfaa.A


namespace Go.Proofs.Yteeapfmgdlcgfaa.A
open Go.RowKit Go.Maps Go.Proofs.YteeapfmgdlcgfaaW.PrintWords Go.Proofs.YteeapfmgdlcgfaaW.PrintLast
set_option linter.unusedVariables false
set_option linter.unusedSimpArgs false
attribute [local go_sem] Oper.semAt_some

def termPairs (f : Int) (t : S55) : List (Int × Int) := if t.f0 = 3 then [(varI f t.f1, varI f 0)] else []
def bPairs (f : Int) (y : S57) : List (Int × Int) := y.f0.flatMap (pairsOf f) ++ termPairs f y.f1
def bCells (f : Int) (y : S57) : List S28 := y.f0.flatMap (cellsOf f)
def fPairs (fx : S52 × Nat) : List (Int × Int) := fx.1.f1.flatMap (bPairs fx.2)
def fCells (fx : S52 × Nat) : List S28 := fx.1.f1.flatMap (bCells fx.2)
def allPairs (l : List S52) : List (Int × Int) := l.zipIdx.flatMap fPairs
def allCells (l : List S52) : List S28 := l.zipIdx.flatMap fCells
/-- all variables -/
def vars (l : List S52) : List Int := (varRows l).flatten
def selfE (V : List Int) (x y : Int) : Prop := x = y ∧ x ∈ V
/-- what is named is there -/
structure Named (l : List S52) : Prop where
  op : ∀ (f : Nat) (x : S52), l[f]? = some x → ∀ y ∈ x.f1, ∀ o ∈ y.f0, (∀ ab ∈ pairsOf f o, ab.1 ∈ vars l ∧ ab.2 ∈ vars l) ∧ (∀ c ∈ cellsOf f o, c.f0 ∈ vars l ∧ c.f1 ∈ vars l)
  tm : ∀ (f : Nat) (x : S52), l[f]? = some x → ∀ y ∈ x.f1, ∀ ab ∈ termPairs f y.f1, ab.1 ∈ vars l ∧ ab.2 ∈ vars l
/-- few enough -/
structure Few (l : List S52) : Prop where
  len : l.length ≤ 100
  reg : ∀ x ∈ l, 0 ≤ regsI x.f0 x.f1 ∧ regsI x.f0 x.f1 ≤ 99
  cells : (allCells l).length ≤ 1000000
theorem snoc_zip {α β : Type} (l : List α) (i : Nat) {x : α} (h : l[i]? = some x) (g : α × Nat → List β) : (l.zipIdx.take (i + 1)).flatMap g = (l.zipIdx.take i).flatMap g ++ g (x, i) := by
  rw [List.take_add_one, List.getElem?_zipIdx, h]
  simp
theorem snoc_list {α β : Type} (l : List α) (i : Nat) {x : α} (h : l[i]? = some x) (g : α → List β) : (l.take (i + 1)).flatMap g = (l.take i).flatMap g ++ g x := by
  rw [List.take_add_one, h]
  simp
theorem take_pre {α β : Type} (l : List α) (g : α → List β) (k : Nat) : ∃ r, l.flatMap g = (l.take k).flatMap g ++ r := by
  refine ⟨(l.drop k).flatMap g, ?_⟩
  rw [← List.flatMap_append, List.take_append_drop]
theorem split_at {α β : Type} (l : List α) (g : α → List β) {i : Nat} {x : α} (h : l[i]? = some x) : ∃ r, l.flatMap g = ((l.take i).flatMap g ++ g x) ++ r := by
  obtain ⟨r, hr⟩ := take_pre l g (i + 1)
  exact ⟨r, by rw [hr, snoc_list l i h g]⟩
theorem cells_le {l : List S52} {i j k : Nat} {fn : S52} {y : S57} (hf : l[i]? = some fn) (hy : fn.f1[j]? = some y) :
    (((l.zipIdx.take i).flatMap fCells ++ (fn.f1.take j).flatMap (bCells i)) ++ (y.f0.take k).flatMap (cellsOf i)).length ≤ (allCells l).length := by
  obtain ⟨r1, h1⟩ := split_at l.zipIdx fCells (i := i) (x := (fn, i)) (by rw [List.getElem?_zipIdx, hf]; simp)
  obtain ⟨r2, h2⟩ := split_at fn.f1 (bCells i) hy
  obtain ⟨r3, h3⟩ := take_pre y.f0 (cellsOf i) k
  have e1 := congrArg List.length h1
  have e2 := congrArg List.length h2
  have e3 := congrArg List.length h3
  have e4 : (fCells (fn, i)).length = (fn.f1.flatMap (bCells i)).length := rfl
  have e5 : (bCells i y).length = (y.f0.flatMap (cellsOf i)).length := rfl
  unfold allCells
  simp only [List.length_append] at *
  omega
theorem met_full (l : List S52) : met l l.length 0 = vars l := by
  unfold met vars
  rw [List.take_of_length_le (by rw [varRows_len]; exact Nat.le_refl _)]
  simp [varRow]
theorem Few.met {l : List S52} (h : Few l) {i r B : Nat} (hB : B = 100) (hr : r ≤ B) : (met l i r).length ≤ l.length * B + B := met_len (fun x hx => by have := h.reg x hx; unfold regN; omega) hr
theorem few_b {n a B : Nat} (h : n ≤ a * B + B) (ha : a ≤ 100) (hB : B = 100) : n ≤ 10100 := by subst hB; omega

theorem FS.turn' {W W' : World} {q p bu bs base nu N : Nat} {E : Int → Int → Prop} {cs : List S28} (h : FS W q p bu bs base nu N E cs) {nu' N' : Nat} {E' : Int → Int → Prop} (hu : UN κI W' p bu bs nu' N' E') (hk : KeepsBut (UX bu bs) W W') : FS W' q p bu bs base nu' N' E' cs := by
  obtain ⟨v, h1, h2⟩ := h.ex
  have hX : ∀ k, k = q ∨ base ≤ k → ¬ UX bu bs k := by
    have := h.qu; have := h.qs; have := h.ul; have := h.sl
    rintro k hk (e | e) <;> omega
  refine ⟨hu, ⟨v, (hk.block q (Array.getElem?_eq_some_iff.1 h1).1 (hX q (.inl rfl))).trans h1, Kd.R_mono (Kd.R_step (Kd.R_bound h2) (fun k hk1 hk2 => hk.block k hk2 (hX k (.inr hk1.2.1)))) (fun _ _ => trivial)⟩, h.qp, h.qu, h.qs, h.ql, h.pl, h.ul, h.sl, Nat.le_trans h.sz hk.size⟩
/-- the finder in Of -/
structure OS (w : World) (q p bu bs base nu N : Nat) (E : Int → Int → Prop) (cs : List S28) (W : World) : Prop where
  fs : FS W q p bu bs base nu N E cs
  bl : Below w.heap.size w W
  lo : w.heap.size ≤ q ∧ w.heap.size ≤ bu ∧ w.heap.size ≤ bs
section
variable {w W W' : World} {q p bu bs base nu N : Nat} {E : Int → Int → Prop} {cs : List S28}
theorem OS.step (h : OS w q p bu bs base nu N E cs W) (hb : Below W.heap.size W W') : OS w q p bu bs base nu N E cs W' :=
  ⟨h.fs.step hb, h.bl.trans (hb.mono h.bl.size), h.lo⟩
theorem OS.turn (h : OS w q p bu bs base nu N E cs W) {nu' N' : Nat} {E' : Int → Int → Prop} (hu : UN κI W' p bu bs nu' N' E') (hk : KeepsBut (UX bu bs) W W') : OS w q p bu bs base nu' N' E' cs W' := by
  have h1 := h.lo
  have h2 := h.fs.ql
  exact ⟨h.fs.turn' hu hk, KF.below h.bl (KF.of_keeps (q := q) (base := base) hk) h.bl.size h1.1 h1.2.1 h1.2.2 (by omega), h1⟩
theorem OS.fsto (h : OS w q p bu bs base nu N E cs W) {N' : Nat} {E' : Int → Int → Prop} {cs' : List S28} (hf : FS W' q p bu bs base nu N' E' cs') (hk : KF q bu bs base W W') : OS w q p bu bs base nu N' E' cs' W' := by
  have h1 := h.lo
  have h2 := h.fs.ql
  exact ⟨hf, KF.below h.bl hk h.bl.size h1.1 h1.2.1 h1.2.2 (by omega), h1⟩
end
/-- a box with a block -/
structure TB (W : World) (b : Nat) (A : Option Addr) (n c : Nat) (t : S55) (q bu bs : Nat) : Prop where
  box : W.heap[b]? = some (.cells #[.slice A n c, .int .i64 t.f0, .int .i64 t.f1, .int .i64 t.f2, .int .i64 t.f3] 57)
  ne : b ≠ q ∧ b ≠ bu ∧ b ≠ bs
theorem TB.step {W W' : World} {b : Nat} {A : Option Addr} {n c : Nat} {t : S55} {q bu bs : Nat} (h : TB W b A n c t q bu bs) (hb : Below W.heap.size W W') : TB W' b A n c t q bu bs :=
  ⟨(hb.block b (Array.getElem?_eq_some_iff.1 h.box).1).trans h.box, h.ne⟩
theorem TB.kf {W W' : World} {b : Nat} {A : Option Addr} {n c : Nat} {t : S55} {q bu bs base : Nat} (h : TB W b A n c t q bu bs) (hk : KF q bu bs base W W') : TB W' b A n c t q bu bs :=
  ⟨(hk.block b (Array.getElem?_eq_some_iff.1 h.box).1 h.ne.1 h.ne.2.1 h.ne.2.2 (.inr fun cells hc => by rw [h.box] at hc; cases hc)).trans h.box, h.ne⟩
theorem TB.cell0 {W : World} {b : Nat} {A : Option Addr} {n c : Nat} {t : S55} {q bu bs : Nat} (h : TB W b A n c t q bu bs) : W.cell? ⟨b, 1, none⟩ = some (.int .i64 t.f0) := by simp [World.cell?, h.box]
theorem TB.cell1 {W : World} {b : Nat} {A : Option Addr} {n c : Nat} {t : S55} {q bu bs : Nat} (h : TB W b A n c t q bu bs) : W.cell? ⟨b, 2, none⟩ = some (.int .i64 t.f1) := by simp [World.cell?, h.box]
theorem TB.cells {W : World} {b : Nat} {A : Option Addr} {n c : Nat} {t : S55} {q bu bs : Nat} (h : TB W b A n c t q bu bs) : W.cell? ⟨b, 0, none⟩ = some (.slice A n c) := by simp [World.cell?, h.box]

/-- what Of answers -/
structure OfR (l : List S52) (w w' : World) (v : Value) (E : Int → Int → Prop) (key : Int → Int) : Prop where
  per : Per E
  base : ∀ x y, joinsE (selfE (vars l)) (allPairs l) x y → E x y
  closed : closedC E (allCells l)
  least : leastC (joinsE (selfE (vars l)) (allPairs l)) E (allCells l)
  least1 : ∀ y, E y y → E (key y) y ∧ ∀ z, E z y → key y ≤ z
  out : Kd.S (Kd.slice 3 (Kd.int .i64)) 36 w' w.heap.size (fun _ => True) v (numRows key l)
  bl : Below w.heap.size w w'
set_option maxRecDepth 100000 in
set_option maxHeartbeats 8000000 in
theorem of_no (A : Option Addr) (c : Nat) (l : List S52) (w : World) (hC : Kd.C k52 w A l.length l) (hz : Sz l) (hno : progB l = false) :
    Calls Try.prog 26 #[.slice A l.length c] w fun e w' => e = .returned (.slice none 0 0) ∧ Below w.heap.size w w' := by
  have h27 := prog_calls A c l w hC hz
  rw [hno] at h27
  clear hC hz
  go_enter Try.func26, Try.ntmps26
  go_wp2_with (go_at_call 27; refine h27.mono ?_; rintro e w1 ⟨rfl, hb1⟩)
  go_ret
  exact ⟨rfl, hb1⟩
set_option maxRecDepth 100000 in
set_option maxHeartbeats 8000000 in
theorem of_yes (A : Option Addr) (c : Nat) (l : List S52) (w : World) (hC : Kd.C k52 w A l.length l) (hz : Sz l) (hfew : Few l) (hnm : Named l) (hyes : progB l = true) :
    Calls Try.prog 26 #[.slice A l.length c] w fun e w' => ∃ v E key, e = .returned v ∧ OfR l w w' v E key := by
  have h27 := prog_calls A c l w hC hz
  rw [hyes] at h27
  have hmix : Try.prog.follows .mixedOrders = true := by kernel_rfl
  have hu96 := Try.underlying96
  have hu52 := Try.underlying52
  have hu57 := Try.underlying57
  have hu60 := Try.underlying60
  have hu55 := Try.underlying55
  have hC' := Aside0.mk hC
  have hz' := Aside0.mk hz
  have hfew' := Aside0.mk hfew
  have hnm' := Aside0.mk hnm
  have hlb := hfew.len
  clear hC hz hfew hnm hyes
  go_enter Try.func26, Try.ntmps26
  go_wp2_with (first
    | (go_at_call 27; refine h27.mono ?_; rintro e w1 ⟨rfl, hb1⟩)
    | (go_at_call 10; refine (new_un w1).mono ?_; rintro e w2 ⟨p, bu, bs, rfl, hp, hbu, hbs, hu2, hb2⟩))
  obtain ⟨q, hq⟩ : ∃ q, w2.heap.size = q := ⟨_, rfl⟩
  obtain ⟨w3, hw3⟩ : ∃ w3, w2.alloc (.cells #[.pointer (some ⟨p, 0, none⟩), .slice none 0 0] 96) = w3 := ⟨_, rfl⟩
  have hO0 : Aside0 (OS w q p bu bs (q + 1) 0 0 (fun _ _ => False) [] w3) := by
    have hl := hu2.lt
    have hs1 := hb1.size
    have hs2 := hb2.size
    have hba : Below w2.heap.size w2 w3 := by rw [← hw3]; exact below_alloc (Below.refl _ _) _
    have hbw2 : Below w.heap.size w w2 := hb1.trans (hb2.mono hs1)
    refine ⟨⟨⟨hu2.keep (keeps_below hba (fun _ => False)) id id id, ⟨.slice none 0 0, ?_, Kd.R_nil _ _ _ _ _⟩, by omega, by omega, by omega, by omega, by omega, by omega, by omega, by rw [← hw3]; simp [hq]⟩, hbw2.trans (hba.mono (by omega)), by omega, by omega, by omega⟩⟩
    rw [← hw3, ← hq]
    exact World.alloc_heap_new w2 _
  rw [hq, hw3]
  clear hw3 hb1 hb2 hu2 hp hbu hbs hq
  go_loopw [21] (fun v21 wr => ∃ (i : Nat), v21 = .int .i64 i ∧ i ≤ l.length ∧ Aside0 (∃ nu N E, nu ≤ (met l i 0).length ∧ N ≤ nu ∧ (∀ x y, E x y ↔ selfE (met l i 0) x y) ∧ OS w q p bu bs (q + 1) nu N E [] wr)) (fun v21 _ => l.length - (RowKit.intOf v21).toNat)
  case atStart => exact ⟨0, rfl, by omega, ⟨0, 0, _, Nat.zero_le _, Nat.le_refl _, fun x y => ⟨False.elim, fun h => by simp [selfE, met, varRow] at h⟩, hO0.out⟩⟩
  case round =>
    obtain ⟨i, rfl, hi, hrel⟩ := hrel
    clear hO0
    by_cases hil : i < l.length
    · have hltb : decide ((i : Int) < (l.length : Int)) = true := decide_eq_true (by omega)
      obtain ⟨nu, N, E, hnu, hNu, hE, hOS⟩ := hrel.out
      have hpm : (0 : Int) ≤ (i : Int) := by omega
      have hqm : (i : Int) < (l.length : Int) := by omega
      obtain ⟨ad0, A3, c3, e0, g0, g1, hc3, hCb⟩ := at_T52 (Kd.C_below hC'.out hOS.bl) (i : Int) hpm hqm
      subst e0
      rw [Int.toNat_natCast] at g0 g1
      have hy : Aside0 (l[i]? = some (rd_T52 l (i : Int))) := ⟨by unfold rd_T52; rw [List.getElem?_eq_getElem hil]; simp [List.getD_eq_getElem?_getD, hil]⟩
      generalize rd_T52 l (i : Int) = y at g0 g1 hy hCb hc3
      have hym := List.mem_of_getElem? hy.out
      obtain ⟨w2, hw2⟩ : ∃ w2, wr.alloc (.cells #[.int .i64 y.f0, .slice A3 y.f1.length c3] 52) = w2 := ⟨_, rfl⟩
      have hb2 : Below wr.heap.size wr w2 := by rw [← hw2]; exact below_alloc (Below.refl _ _) _
      have k0 : w2.cell? ⟨wr.heap.size, 0, none⟩ = some (.int .i64 y.f0) := by rw [← hw2]; simp [go_sem]
      have k1 : w2.cell? ⟨wr.heap.size, 1, none⟩ = some (.slice A3 y.f1.length c3) := by rw [← hw2]; simp [go_sem]
      have h31 := regs_calls y.f0 A3 c3 y.f1 w2 (Kd.C_below hCb hb2) (hz'.out.bl y hym) (hz'.out.op y hym) (hz'.out.ar y hym)
      have hry := hfew'.out.reg y hym
      obtain ⟨rg, hrg⟩ : ∃ rg, regsI y.f0 y.f1 = rg := ⟨_, rfl⟩
      rw [hrg] at h31 hry
      have hrn : Aside0 (regN y = rg.toNat + 1) := ⟨by unfold regN; rw [hrg]⟩
      obtain ⟨rn, hrn2⟩ : ∃ rn : Nat, Aside0 (rn = rg.toNat + 1) := ⟨_, ⟨rfl⟩⟩
      have hwr : wrap64 (rg + 1) = (rn : Int) := by rw [hrn2.out]; unfold wrap64; omega
      have hrb : rn ≤ 100 := by rw [hrn2.out]; omega
      have hst := Aside0.mk (show ∃ nu N E, nu ≤ (met l i 0).length ∧ N ≤ nu ∧ (∀ x y, E x y ↔ selfE (met l i 0) x y) ∧ OS w q p bu bs (q + 1) nu N E [] w2 from ⟨nu, N, E, hnu, hNu, hE, hOS.step hb2⟩)
      clear hnu hNu hE hOS hCb hc3 hym hry hrg hb2 hrel
      go_wp2_with (go_at_call 31; refine h31.mono ?_; rintro e w3 ⟨rfl, hb3⟩; have hst3 := Aside0.mk (show ∃ nu N E, nu ≤ (met l i 0).length ∧ N ≤ nu ∧ (∀ x y, E x y ↔ selfE (met l i 0) x y) ∧ OS w q p bu bs (q + 1) nu N E [] w3 from (by obtain ⟨nu, N, E, h1, h2, h3, h4⟩ := hst.out; exact ⟨nu, N, E, h1, h2, h3, h4.step hb3⟩)); clear hb3)
      rw [hwr]
      clear hwr h31 k0 k1 g0 g1 hw2
      go_loopw [29] (fun v29 wr => ∃ (r : Nat), v29 = .int .i64 r ∧ r ≤ rn ∧ Aside0 (∃ nu N E, nu ≤ (met l i r).length ∧ N ≤ nu ∧ (∀ x y, E x y ↔ selfE (met l i r) x y) ∧ OS w q p bu bs (q + 1) nu N E [] wr)) (fun v29 _ => rn - (RowKit.intOf v29).toNat)
      case atStart => exact ⟨0, rfl, by omega, hst3⟩
      case round =>
        obtain ⟨r, rfl, hr, hrel⟩ := hrel
        clear hst3 hst
        by_cases hrl : r < rn
        · have hltr : decide ((r : Int) < (rn : Int)) = true := decide_eq_true (by omega)
          obtain ⟨nu, N, E, hnu, hNu, hE, hOS⟩ := hrel.out
          have hO := Aside0.mk (hOS.step (drew_below wr))
          have g0 := hOS.fs.cellp
          have hinv := Aside0.mk (And.intro hnu (And.intro hNu hE))
          have hNb : Aside0 (nu ≤ 100000 ∧ N ≤ 100000) := by
            obtain ⟨B, hB⟩ : ∃ B : Nat, B = 100 := ⟨_, rfl⟩
            have h1 := few_b (hfew'.out.met hB (i := i) (r := r) (by rw [hB]; omega)) hlb hB
            exact ⟨by omega, by omega⟩
          clear hnu hNu hE hOS hrel
          go_wp2
          refine start_ (n := 8) #[false, false, false, false, false, false, false, false] (S := fun w' => w'.cell? ⟨q, 0, none⟩ = some (.pointer (some ⟨p, 0, none⟩))) (ds := [7]) hmix rfl rfl g0 (fun hHeld => ?_)
          refine pure_ (i := 0) (N := some 32) (v := ?_) (a' := ?_) #[true, false, false, false, false, false, false, false] rfl rfl (by kernel_rfl) (fun _ _ _ h => h) (Or.inl ⟨by rfl, ?_⟩) ?_ ?_
          rotate_left
          · intro w'
            go_simp
            try with_reducible rfl
          rotate_left
          · simp only [Act.put, List.setIfInBounds_toArray, List.set_cons_zero, List.set_cons_succ, i64_w, i32_w]
            rfl
          refine pure_ (i := 1) (N := some 33) (v := ?_) (a' := ?_) #[true, true, false, false, false, false, false, false] rfl rfl (by kernel_rfl) (fun _ _ _ h => h) (Or.inl ⟨by rfl, ?_⟩) ?_ ?_
          rotate_left
          · intro w'
            go_simp
            try with_reducible rfl
          rotate_left
          · simp only [Act.put, List.setIfInBounds_toArray, List.set_cons_zero, List.set_cons_succ, i64_w, i32_w]
            rfl
          refine pure_ (i := 2) (N := some 34) (v := ?_) (a' := ?_) #[true, true, true, false, false, false, false, false] rfl rfl (by kernel_rfl) (fun _ _ _ h => h) (Or.inl ⟨by rfl, ?_⟩) ?_ ?_
          rotate_left
          · intro w'
            go_simp
            try with_reducible rfl
          rotate_left
          · simp only [Act.put, List.setIfInBounds_toArray, List.set_cons_zero, List.set_cons_succ, i64_w, i32_w]
            rfl
          refine take_ (i := 3) (N := some 35) (v := ?_) (a' := ?_) #[true, true, true, true, false, false, false, false] rfl rfl (by kernel_rfl) (fun _ _ _ h => h) (Or.inl ⟨by rfl, ?_⟩) hHeld ?_ ?_
          rotate_left
          · rintro w' s0
            go_simp
            try with_reducible rfl
          rotate_left
          · simp only [Act.put, List.setIfInBounds_toArray, List.set_cons_zero, List.set_cons_succ, i64_w, i32_w]
            rfl
          refine pure_ (i := 4) (N := some 36) (v := ?_) (a' := ?_) #[true, true, true, true, true, false, false, false] rfl rfl (by kernel_rfl) (fun _ _ _ h => h) (Or.inl ⟨by rfl, ?_⟩) ?_ ?_
          rotate_left
          · intro w'
            go_simp
            try with_reducible rfl
          rotate_left
          · simp only [Act.put, List.setIfInBounds_toArray, List.set_cons_zero, List.set_cons_succ, i64_w, i32_w]
            rfl
          refine pure_ (i := 5) (N := some 37) (v := ?_) (a' := ?_) #[true, true, true, true, true, true, false, false] rfl rfl (by kernel_rfl) (fun _ _ _ h => h) (Or.inl ⟨by rfl, ?_⟩) ?_ ?_
          rotate_left
          · intro w'
            go_simp
            try with_reducible rfl
          rotate_left
          · simp only [Act.put, List.setIfInBounds_toArray, List.set_cons_zero, List.set_cons_succ, i64_w, i32_w]
            rfl
          refine one_ (i := 6) (N := some 38) #[true, true, true, true, true, true, true, false] rfl rfl (by kernel_rfl) (by decide) (fun K hK => ?_)
          refine call_ 50 _ (by rfl) rfl (by go_simp; rfl) ?_
          refine (var_calls (i : Int) (r : Int) _).mono ?_
          rintro e w9 ⟨rfl, hb9⟩
          refine ⟨_, rfl, ?_⟩
          replace hO := Aside0.mk (hO.out.step hb9)
          clear hb9
          refine hK.out _ _ hO.out.fs.cellp (fun hHeld => ?_)
          clear hK K
          refine norm_ (a' := ?_) ?_ ?_
          rotate_left
          · show Act.put _ (some 38) _ = _
            simp only [Act.put, List.setIfInBounds_toArray, List.set_cons_zero, List.set_cons_succ, i64_w, i32_w]
            rfl
          refine last_ (i := 7) (N := some 39) #[true, true, true, true, true, true, true, true] rfl rfl (by kernel_rfl) (by decide) (fun K hK => ?_)
          refine call_ 22 _ (by rfl) rfl (by go_simp; rfl) ?_
          refine (add_un (k := varI (i : Int) (r : Int)) w9 hO.out.fs.un (varI_wf _ _) hNb.out.1 hNb.out.2).mono ?_
          rintro e w9 ⟨r9, rfl, hr9, hu9, hk9⟩
          refine ⟨_, rfl, ?_⟩
          have hO9 := Aside0.mk (hO.out.turn hu9 hk9)
          clear hu9 hk9
          refine hK.out _ _ ?_
          clear hK K
          refine norm_ (a' := ?_) ?_ ?_
          rotate_left
          · show Act.put _ (some 39) _ = _
            simp only [Act.put, List.setIfInBounds_toArray, List.set_cons_zero, List.set_cons_succ, i64_w, i32_w]
            rfl
          refine done_ (by kernel_rfl) ?_
          go_wp2
          go_roundw
          case rel =>
            refine ⟨r + 1, by go_num, by omega, ⟨nu + r9.toNat, N + r9.toNat, _, ?_, ?_, ?_, hO9.out⟩⟩
            · obtain ⟨h1, h2, h3⟩ := hinv.out
              rw [met_succ, List.length_append, List.length_singleton]
              have : r9.toNat ≤ 1 := by cases r9 <;> decide
              omega
            · obtain ⟨h1, h2, h3⟩ := hinv.out
              omega
            · obtain ⟨h1, h2, h3⟩ := hinv.out
              intro a b
              unfold addE
              rw [h3, met_succ]
              unfold selfE
              constructor
              · rintro (⟨h, h'⟩ | ⟨rfl, rfl⟩)
                · exact ⟨h, List.mem_append_left _ h'⟩
                · exact ⟨rfl, by simp⟩
              · rintro ⟨rfl, h⟩
                rcases List.mem_append.1 h with h | h
                · exact .inl ⟨rfl, h⟩
                · exact .inr ⟨List.mem_singleton.1 h, List.mem_singleton.1 h⟩
          case measure => simp [RowKit.intOf]; omega
        · have hltr : decide ((r : Int) < (rn : Int)) = false := decide_eq_false (by omega)
          go_wp2
          go_roundw
          case rel =>
            refine ⟨i + 1, by go_num, by omega, ⟨?_⟩⟩
            have h0 := hrel.out
            have hr2 : r = regN y := by rw [hrn.out, ← hrn2.out]; omega
            rw [met_zero l i hy.out, ← hr2]
            exact h0
          case measure => simp [RowKit.intOf]; omega
    · have hltb : decide ((i : Int) < (l.length : Int)) = false := decide_eq_false (by omega)
      obtain ⟨nu, N, E, hnu, hNu, hE, hOS⟩ := hrel.out
      have hil2 : i = l.length := by omega
      subst hil2
      rw [met_full] at hE hnu
      have hNn : Aside0 (nu ≤ 100000 ∧ N ≤ 100000) := by
        obtain ⟨B, hB⟩ : ∃ B : Nat, B = 100 := ⟨_, rfl⟩
        have h1 := few_b (hfew'.out.met hB (i := l.length) (r := 0) (Nat.zero_le _)) hlb hB
        rw [met_full] at h1
        exact ⟨by omega, by omega⟩
      have hS0 := Aside0.mk (show OS w q p bu bs (q + 1) nu N (selfE (vars l)) [] wr from { hOS with fs := { hOS.fs with un := hOS.fs.un.congr hE } })
      clear hnu hNu hE hOS hrel
      go_wp2
      obtain ⟨E0, hE0⟩ : ∃ E0, Aside0 (selfE (vars l) = E0) := ⟨_, ⟨rfl⟩⟩
      rw [hE0.out] at hS0
      have hEv : Aside0 (∀ v ∈ vars l, E0 v v) := ⟨fun v hv => by rw [← hE0.out]; exact ⟨rfl, hv⟩⟩
      go_loopw [44] (fun v44 wr => ∃ (i : Nat), v44 = .int .i64 i ∧ i ≤ l.length ∧ Aside0 (∃ N', N' ≤ 100000 ∧ OS w q p bu bs (q + 1) nu N' (joinsE E0 ((l.zipIdx.take i).flatMap fPairs)) ((l.zipIdx.take i).flatMap fCells) wr)) (fun v44 _ => l.length - (RowKit.intOf v44).toNat)
      case atStart => exact ⟨0, rfl, by omega, ⟨N, hNn.out.2, hS0.out⟩⟩
      case round =>
        obtain ⟨i, rfl, hi, hrel⟩ := hrel
        clear hS0
        by_cases hil : i < l.length
        · have hltb : decide ((i : Int) < (l.length : Int)) = true := decide_eq_true (by omega)
          obtain ⟨N1, hN1, hOS⟩ := hrel.out
          have hpm : (0 : Int) ≤ (i : Int) := by omega
          have hqm : (i : Int) < (l.length : Int) := by omega
          obtain ⟨ad0, A3, c3, e0, g0, g1, hc3, _⟩ := at_T52 (Kd.C_below hC'.out hOS.bl) (i : Int) hpm hqm
          obtain ⟨ad1, A4, c4, e1, _, g3, _, hCb⟩ := at_T52 hC'.out (i : Int) hpm hqm
          subst e0
          obtain rfl := Option.some.inj e1
          obtain ⟨rfl, rfl⟩ : A4 = A3 ∧ c4 = c3 := by
            have := (hOS.bl.cell (World.block_lt_of_cell? _ _ g3)).trans g3
            rw [g1] at this
            injection this with this
            injection this with e1 _ e2
            exact ⟨e1.symm, e2.symm⟩
          rw [Int.toNat_natCast] at g0 g1
          have hy : Aside0 (l[i]? = some (rd_T52 l (i : Int))) := ⟨by unfold rd_T52; rw [List.getElem?_eq_getElem hil]; simp [List.getD_eq_getElem?_getD, hil]⟩
          have hCb' := Aside0.mk hCb
          clear hCb e1 g3
          generalize rd_T52 l (i : Int) = fn at g0 g1 hy hCb' hc3
          have hym := Aside0.mk (List.mem_of_getElem? hy.out)
          have hbl : fn.f1.length ≤ 1000000 := hz'.out.bl fn hym.out
          obtain ⟨P0, hP0⟩ : ∃ P0, Aside0 ((l.zipIdx.take i).flatMap fPairs = P0) := ⟨_, ⟨rfl⟩⟩
          obtain ⟨C0, hC0⟩ : ∃ C0, Aside0 ((l.zipIdx.take i).flatMap fCells = C0) := ⟨_, ⟨rfl⟩⟩
          rw [hP0.out, hC0.out] at hOS
          have hst := Aside0.mk (And.intro hN1 (hOS.step (below_alloc (Below.refl wr.heap.size wr) (.cells #[.int .i64 fn.f0, .slice A4 fn.f1.length c4] 52))))
          clear hN1 hOS hrel hc3
          go_wp2
          clear g0 g1
          go_loopw [52] (fun v52 wr => ∃ (j : Nat), v52 = .int .i64 j ∧ j ≤ fn.f1.length ∧ Aside0 (∃ N', N' ≤ 100000 ∧ OS w q p bu bs (q + 1) nu N' (joinsE E0 (P0 ++ (fn.f1.take j).flatMap (bPairs i))) (C0 ++ (fn.f1.take j).flatMap (bCells i)) wr)) (fun v52 _ => fn.f1.length - (RowKit.intOf v52).toNat)
          case atStart => exact ⟨0, rfl, by omega, ⟨_, hst.out.1, by rw [List.take_zero, List.flatMap_nil, List.flatMap_nil, List.append_nil, List.append_nil]; exact hst.out.2⟩⟩
          case round =>
            obtain ⟨j, rfl, hj, hrel⟩ := hrel
            clear hst
            by_cases hjl : j < fn.f1.length
            · have hltj : decide ((j : Int) < (fn.f1.length : Int)) = true := decide_eq_true (by omega)
              obtain ⟨N2, hN2, hOS⟩ := hrel.out
              have hpj : (0 : Int) ≤ (j : Int) := by omega
              have hqj : (j : Int) < (fn.f1.length : Int) := by omega
              obtain ⟨ab0, A5, c5, e0, b0, b1, b2, b3, b4, hc5, _⟩ := at_T57 (Kd.C_below hCb'.out hOS.bl) (j : Int) hpj hqj
              obtain ⟨ab1, A6, c6, e1, d0, _, _, _, _, _, hCo⟩ := at_T57 hCb'.out (j : Int) hpj hqj
              subst e0
              obtain rfl := Option.some.inj e1
              obtain ⟨rfl, rfl⟩ : A6 = A5 ∧ c6 = c5 := by
                have := (hOS.bl.cell (World.block_lt_of_cell? _ _ d0)).trans d0
                rw [b0] at this
                injection this with this
                injection this with e1 _ e2
                exact ⟨e1.symm, e2.symm⟩
              rw [Int.toNat_natCast] at b0 b1 b2 b3 b4
              have hyb : Aside0 (fn.f1[j]? = some (rd_T57 fn.f1 (j : Int))) := ⟨by unfold rd_T57; rw [List.getElem?_eq_getElem hjl]; simp [List.getD_eq_getElem?_getD, hjl]⟩
              have hCo' := Aside0.mk hCo
              clear hCo e1 d0
              generalize rd_T57 fn.f1 (j : Int) = y at b0 b1 b2 b3 b4 hyb hCo' hc5
              have hybm := Aside0.mk (List.mem_of_getElem? hyb.out)
              have hol : y.f0.length ≤ 1000000 := hz'.out.op fn hym.out y hybm.out
              obtain ⟨P1, hP1⟩ : ∃ P1, Aside0 (P0 ++ (fn.f1.take j).flatMap (bPairs i) = P1) := ⟨_, ⟨rfl⟩⟩
              obtain ⟨C1, hC1⟩ : ∃ C1, Aside0 (C0 ++ (fn.f1.take j).flatMap (bCells i) = C1) := ⟨_, ⟨rfl⟩⟩
              rw [hP1.out, hC1.out] at hOS
              obtain ⟨tb, htb⟩ : ∃ tb, wr.heap.size = tb := ⟨_, rfl⟩
              obtain ⟨w2, hw2⟩ : ∃ w2, wr.alloc (.cells #[.slice A6 y.f0.length c6, .int .i64 y.f1.f0, .int .i64 y.f1.f1, .int .i64 y.f1.f2, .int .i64 y.f1.f3] 57) = w2 := ⟨_, rfl⟩
              have hb2 : Below wr.heap.size wr w2 := by rw [← hw2]; exact below_alloc (Below.refl _ _) _
              have hT : TB w2 tb A6 y.f0.length c6 y.f1 q bu bs := by
                have h1 := hOS.fs.un.lt
                have h2 := hOS.fs.ql
                have h3 := hOS.fs.sz
                refine ⟨by rw [← hw2, ← htb]; exact World.alloc_heap_new wr _, by omega, by omega, by omega⟩
              have t0 := hT.cells
              have hst := Aside0.mk (show N2 ≤ 100000 ∧ OS w q p bu bs (q + 1) nu N2 (joinsE E0 P1) C1 w2 ∧ TB w2 tb A6 y.f0.length c6 y.f1 q bu bs from ⟨hN2, hOS.step hb2, hT⟩)
              clear hN2 hOS hrel hc5 hT hb2
              go_wp2
              clear b0 b1 b2 b3 b4 t0 hw2
              go_loopw [59] (fun v59 wr => ∃ (k : Nat), v59 = .int .i64 k ∧ k ≤ y.f0.length ∧ Aside0 (∃ N', N' ≤ 100000 ∧ OS w q p bu bs (q + 1) nu N' (joinsE E0 (P1 ++ (y.f0.take k).flatMap (pairsOf i))) (C1 ++ (y.f0.take k).flatMap (cellsOf i)) wr ∧ TB wr tb A6 y.f0.length c6 y.f1 q bu bs)) (fun v59 _ => y.f0.length - (RowKit.intOf v59).toNat)
              case atStart => exact ⟨0, rfl, by omega, ⟨_, hst.out.1, by rw [List.take_zero, List.flatMap_nil, List.flatMap_nil, List.append_nil, List.append_nil]; exact hst.out.2.1, hst.out.2.2⟩⟩
              case round =>
                obtain ⟨k, rfl, hk, hrel⟩ := hrel
                clear hst
                by_cases hkl : k < y.f0.length
                · have hltk : decide ((k : Int) < (y.f0.length : Int)) = true := decide_eq_true (by omega)
                  obtain ⟨N3, hN3, hOS, hT⟩ := hrel.out
                  have hpk : (0 : Int) ≤ (k : Int) := by omega
                  have hqk : (k : Int) < (y.f0.length : Int) := by omega
                  obtain ⟨ao0, A7, c7, e0, b0, b1, b2, b3, b4, b5, hc7, _⟩ := at_T60 (Kd.C_below hCo'.out hOS.bl) (k : Int) hpk hqk
                  obtain ⟨ao1, A8, c8, e1, _, _, _, _, _, d5, hc8, hCx⟩ := at_T60 hCo'.out (k : Int) hpk hqk
                  subst e0
                  obtain rfl := Option.some.inj e1
                  obtain ⟨rfl, rfl⟩ : A8 = A7 ∧ c8 = c7 := by
                    have := (hOS.bl.cell (World.block_lt_of_cell? _ _ d5)).trans d5
                    rw [b5] at this
                    injection this with this
                    injection this with e1 _ e2
                    exact ⟨e1.symm, e2.symm⟩
                  rw [Int.toNat_natCast] at b0 b1 b2 b3 b4 b5
                  have hxo : Aside0 (y.f0[k]? = some (rd_T60 y.f0 (k : Int))) := ⟨by unfold rd_T60; rw [List.getElem?_eq_getElem hkl]; simp [List.getD_eq_getElem?_getD, hkl]⟩
                  clear e1 d5 hc8 hc7
                  generalize rd_T60 y.f0 (k : Int) = x at b0 b1 b2 b3 b4 b5 hxo hCx
                  have hxm := List.mem_of_getElem? hxo.out
                  obtain ⟨w4, hw4⟩ : ∃ w4, wr.alloc (.cells #[.int .i64 x.f0, .int .i64 x.f1, .int .i64 x.f2, .int .i64 x.f3, .int .i64 x.f4, .slice A8 x.f5.length c8] 60) = w4 := ⟨_, rfl⟩
                  have hb4 : Below wr.heap.size wr w4 := by rw [← hw4]; exact below_alloc (Below.refl _ _) _
                  have hOS4 := hOS.step hb4
                  have hT4 := hT.step hb4
                  have hcl : (C1 ++ (y.f0.take k).flatMap (cellsOf i)).length ≤ 1000000 := by
                    rw [← hC1.out, ← hC0.out]
                    exact Nat.le_trans (cells_le hy.out hyb.out) hfew'.out.cells
                  have h51 := op_calls w4 w (i : Int) x A8 c8 q p bu bs (q + 1) nu N3 _ _ hOS4.fs hNn.out.1 hN3 hcl hOS4.bl hOS4.lo hCx (hz'.out.ar fn hym.out y hybm.out x hxm) (fun ab hab => by
                    have := (hnm'.out.op i fn hy.out y hybm.out x hxm).1 ab hab
                    exact ⟨joinsE_sub _ (hEv.out _ this.1), joinsE_sub _ (hEv.out _ this.2)⟩)
                  have z0 : w4.cell? ⟨wr.heap.size, 0, none⟩ = some (.int .i64 x.f0) := by rw [← hw4]; simp [go_sem]
                  have z1 : w4.cell? ⟨wr.heap.size, 1, none⟩ = some (.int .i64 x.f1) := by rw [← hw4]; simp [go_sem]
                  have z2 : w4.cell? ⟨wr.heap.size, 2, none⟩ = some (.int .i64 x.f2) := by rw [← hw4]; simp [go_sem]
                  have z3 : w4.cell? ⟨wr.heap.size, 3, none⟩ = some (.int .i64 x.f3) := by rw [← hw4]; simp [go_sem]
                  have z4 : w4.cell? ⟨wr.heap.size, 4, none⟩ = some (.int .i64 x.f4) := by rw [← hw4]; simp [go_sem]
                  have z5 : w4.cell? ⟨wr.heap.size, 5, none⟩ = some (.slice A8 x.f5.length c8) := by rw [← hw4]; simp [go_sem]
                  have hst4 := Aside0.mk (And.intro hN3 (And.intro hOS4 hT4))
                  clear hN3 hOS hT hCx hxm hb4 hOS4 hT4 hcl hrel
                  go_wp2_with (go_at_call 51; refine h51.mono ?_; rintro e w5 ⟨⟨v5, rfl⟩, N5, hN5, hF5, hK5⟩; have hst5 := Aside0.mk (And.intro (Nat.le_trans hN5 hst4.out.1) (And.intro (hst4.out.2.1.fsto hF5 hK5) (hst4.out.2.2.kf hK5))); clear hN5 hF5 hK5)
                  go_roundw
                  case rel =>
                    refine ⟨k + 1, by go_num, by omega, ⟨N5, hst5.out.1, ?_, hst5.out.2.2⟩⟩
                    rw [snoc_list _ k hxo.out, snoc_list _ k hxo.out, ← List.append_assoc, ← List.append_assoc, joinsE_append]
                    exact hst5.out.2.1
                  case measure => simp [RowKit.intOf]; omega
                · have hltk : decide ((k : Int) < (y.f0.length : Int)) = false := decide_eq_false (by omega)
                  obtain ⟨N3, hN3, hOS, hT⟩ := hrel.out
                  rw [List.take_of_length_le (l := y.f0) (i := k) (by omega)] at hOS
                  have t0 := hT.cell0
                  obtain ⟨P2, hP2⟩ : ∃ P2, Aside0 (P1 ++ y.f0.flatMap (pairsOf i) = P2) := ⟨_, ⟨rfl⟩⟩
                  rw [hP2.out] at hOS
                  have hfin : Aside0 (∀ N9 W9, N9 ≤ 100000 → OS w q p bu bs (q + 1) nu N9 (joinsE (joinsE E0 P2) (termPairs i y.f1)) (C1 ++ y.f0.flatMap (cellsOf i)) W9 → ∃ N', N' ≤ 100000 ∧ OS w q p bu bs (q + 1) nu N' (joinsE E0 (P0 ++ (fn.f1.take (j + 1)).flatMap (bPairs i))) (C0 ++ (fn.f1.take (j + 1)).flatMap (bCells i)) W9) := ⟨fun N9 W9 h9 h => ⟨N9, h9, by
                    rw [snoc_list _ j hyb.out, snoc_list _ j hyb.out, ← List.append_assoc, ← List.append_assoc, hP1.out, hC1.out]
                    have e : P1 ++ bPairs i y = P2 ++ termPairs i y.f1 := by rw [← hP2.out, List.append_assoc]; rfl
                    rw [e, joinsE_append]
                    exact h⟩⟩
                  by_cases h3 : y.f1.f0 = 3
                  · have h3b : (y.f1.f0 == 3) = true := by rw [h3]; rfl
                    have htp : termPairs i y.f1 = [(varI i y.f1.f1, varI i 0)] := if_pos h3
                    rw [htp] at hfin
                    have hin3 : Aside0 (joinsE E0 P2 (varI i y.f1.f1) (varI i y.f1.f1) ∧ joinsE E0 P2 (varI i 0) (varI i 0)) := by
                      have := hnm'.out.tm i fn hy.out y hybm.out (varI i y.f1.f1, varI i 0) (by rw [htp]; simp)
                      exact ⟨joinsE_sub _ (hEv.out _ this.1), joinsE_sub _ (hEv.out _ this.2)⟩
                    have g0 := hOS.fs.cellp
                    have t1 := hT.cell1
                    have hNn3 := Aside0.mk (And.intro hNn.out.1 hN3)
                    have hO := Aside0.mk (hOS.step (drew_below wr))
                    have hT := Aside0.mk (hT.step (drew_below wr))
                    clear hN3 hOS hrel htp h3
                    go_wp2
                    clear hNn
                    have hNn := hNn3
                    refine start_ (n := 12) #[false, false, false, false, false, false, false, false, false, false, false, false] (S := fun w' => w'.cell? ⟨q, 0, none⟩ = some (.pointer (some ⟨p, 0, none⟩)) ∧ w'.cell? ⟨tb, 2, none⟩ = some (.int .i64 y.f1.f1)) (ds := [11]) hmix rfl rfl ⟨g0, t1⟩ (fun hHeld => ?_)
                    refine pure_ (i := 0) (N := some 72) (v := ?_) (a' := ?_) #[true, false, false, false, false, false, false, false, false, false, false, false] rfl rfl (by kernel_rfl) (fun _ _ _ h => h) (Or.inl ⟨by rfl, ?_⟩) ?_ ?_
                    rotate_left
                    · intro w'
                      go_simp
                      try with_reducible rfl
                    rotate_left
                    · simp only [Act.put, List.setIfInBounds_toArray, List.set_cons_zero, List.set_cons_succ, i64_w, i32_w]
                      rfl
                    refine pure_ (i := 1) (N := some 73) (v := ?_) (a' := ?_) #[true, true, false, false, false, false, false, false, false, false, false, false] rfl rfl (by kernel_rfl) (fun _ _ _ h => h) (Or.inl ⟨by rfl, ?_⟩) ?_ ?_
                    rotate_left
                    · intro w'
                      go_simp
                      try with_reducible rfl
                    rotate_left
                    · simp only [Act.put, List.setIfInBounds_toArray, List.set_cons_zero, List.set_cons_succ, i64_w, i32_w]
                      rfl
                    refine pure_ (i := 2) (N := some 74) (v := ?_) (a' := ?_) #[true, true, true, false, false, false, false, false, false, false, false, false] rfl rfl (by kernel_rfl) (fun _ _ _ h => h) (Or.inl ⟨by rfl, ?_⟩) ?_ ?_
                    rotate_left
                    · intro w'
                      go_simp
                      try with_reducible rfl
                    rotate_left
                    · simp only [Act.put, List.setIfInBounds_toArray, List.set_cons_zero, List.set_cons_succ, i64_w, i32_w]
                      rfl
                    refine take_ (i := 3) (N := some 75) (v := ?_) (a' := ?_) #[true, true, true, true, false, false, false, false, false, false, false, false] rfl rfl (by kernel_rfl) (fun _ _ _ h => h) (Or.inl ⟨by rfl, ?_⟩) hHeld ?_ ?_
                    rotate_left
                    · rintro w' ⟨s0, s1⟩
                      go_simp
                      try with_reducible rfl
                    rotate_left
                    · simp only [Act.put, List.setIfInBounds_toArray, List.set_cons_zero, List.set_cons_succ, i64_w, i32_w]
                      rfl
                    refine pure_ (i := 4) (N := some 76) (v := ?_) (a' := ?_) #[true, true, true, true, true, false, false, false, false, false, false, false] rfl rfl (by kernel_rfl) (fun _ _ _ h => h) (Or.inl ⟨by rfl, ?_⟩) ?_ ?_
                    rotate_left
                    · intro w'
                      go_simp
                      try with_reducible rfl
                    rotate_left
                    · simp only [Act.put, List.setIfInBounds_toArray, List.set_cons_zero, List.set_cons_succ, i64_w, i32_w]
                      rfl
                    refine pure_ (i := 5) (N := some 77) (v := ?_) (a' := ?_) #[true, true, true, true, true, true, false, false, false, false, false, false] rfl rfl (by kernel_rfl) (fun _ _ _ h => h) (Or.inl ⟨by rfl, ?_⟩) ?_ ?_
                    rotate_left
                    · intro w'
                      go_simp
                      try with_reducible rfl
                    rotate_left
                    · simp only [Act.put, List.setIfInBounds_toArray, List.set_cons_zero, List.set_cons_succ, i64_w, i32_w]
                      rfl
                    refine pure_ (i := 6) (N := some 78) (v := ?_) (a' := ?_) #[true, true, true, true, true, true, true, false, false, false, false, false] rfl rfl (by kernel_rfl) (fun _ _ _ h => h) (Or.inl ⟨by rfl, ?_⟩) ?_ ?_
                    rotate_left
                    · intro w'
                      go_simp
                      try with_reducible rfl
                    rotate_left
                    · simp only [Act.put, List.setIfInBounds_toArray, List.set_cons_zero, List.set_cons_succ, i64_w, i32_w]
                      rfl
                    refine take_ (i := 7) (N := some 79) (v := ?_) (a' := ?_) #[true, true, true, true, true, true, true, true, false, false, false, false] rfl rfl (by kernel_rfl) (fun _ _ _ h => h) (Or.inl ⟨by rfl, ?_⟩) hHeld ?_ ?_
                    rotate_left
                    · rintro w' ⟨s0, s1⟩
                      go_simp
                      try with_reducible rfl
                    rotate_left
                    · simp only [Act.put, List.setIfInBounds_toArray, List.set_cons_zero, List.set_cons_succ, i64_w, i32_w]
                      rfl
                    refine pure_ (i := 9) (N := some 81) (v := ?_) (a' := ?_) #[true, true, true, true, true, true, true, true, false, true, false, false] rfl rfl (by kernel_rfl) (fun _ _ _ h => h) (Or.inl ⟨by rfl, ?_⟩) ?_ ?_
                    rotate_left
                    · intro w'
                      go_simp
                      try with_reducible rfl
                    rotate_left
                    · simp only [Act.put, List.setIfInBounds_toArray, List.set_cons_zero, List.set_cons_succ, i64_w, i32_w]
                      rfl
                    refine one_ (i := 8) (N := some 80) #[true, true, true, true, true, true, true, true, true, true, false, false] rfl rfl (by kernel_rfl) (by decide) (fun K hK => ?_)
                    refine call_ 50 _ (by rfl) rfl (by go_simp; rfl) ?_
                    refine (var_calls (i : Int) y.f1.f1 _).mono ?_
                    rintro e w9 ⟨rfl, hb9⟩
                    refine ⟨_, rfl, ?_⟩
                    replace hO := Aside0.mk (hO.out.step hb9)
                    replace hT := Aside0.mk (hT.out.step hb9)
                    clear hb9
                    refine hK.out _ _ ⟨hO.out.fs.cellp, hT.out.cell1⟩ (fun hHeld => ?_)
                    clear hK K
                    refine norm_ (a' := ?_) ?_ ?_
                    rotate_left
                    · show Act.put _ (some 80) _ = _
                      simp only [Act.put, List.setIfInBounds_toArray, List.set_cons_zero, List.set_cons_succ, i64_w, i32_w]
                      rfl
                    refine one_ (i := 10) (N := some 82) #[true, true, true, true, true, true, true, true, true, true, true, false] rfl rfl (by kernel_rfl) (by decide) (fun K hK => ?_)
                    refine call_ 50 _ (by rfl) rfl (by go_simp; rfl) ?_
                    refine (var_calls (i : Int) 0 _).mono ?_
                    rintro e w9 ⟨rfl, hb9⟩
                    refine ⟨_, rfl, ?_⟩
                    replace hO := Aside0.mk (hO.out.step hb9)
                    replace hT := Aside0.mk (hT.out.step hb9)
                    clear hb9
                    refine hK.out _ _ ⟨hO.out.fs.cellp, hT.out.cell1⟩ (fun hHeld => ?_)
                    clear hK K
                    refine norm_ (a' := ?_) ?_ ?_
                    rotate_left
                    · show Act.put _ (some 82) _ = _
                      simp only [Act.put, List.setIfInBounds_toArray, List.set_cons_zero, List.set_cons_succ, i64_w, i32_w]
                      rfl
                    refine last_ (i := 11) (N := some 83) #[true, true, true, true, true, true, true, true, true, true, true, true] rfl rfl (by kernel_rfl) (by decide) (fun K hK => ?_)
                    refine call_ 12 _ (by rfl) rfl (by go_simp; rfl) ?_
                    refine (join_fs _ hO.out.fs (varI_wf _ _) (varI_wf _ _) hin3.out.1 hin3.out.2 hNn.out.1 hNn.out.2).mono ?_
                    rintro e w9 ⟨r9, N9, rfl, hr9, hN9, hN9', hF9, hk9⟩
                    refine ⟨_, rfl, ?_⟩
                    have hO9 := Aside0.mk (hO.out.fsto hF9 (KF.of_keeps hk9))
                    have hN9s := Aside0.mk hN9
                    clear hr9 hN9' hF9 hk9 hN9
                    refine hK.out _ _ ?_
                    clear hK K
                    refine norm_ (a' := ?_) ?_ ?_
                    rotate_left
                    · show Act.put _ (some 83) _ = _
                      simp only [Act.put, List.setIfInBounds_toArray, List.set_cons_zero, List.set_cons_succ, i64_w, i32_w]
                      rfl
                    refine done_ (by kernel_rfl) ?_
                    go_wp2
                    go_roundw
                    case rel => exact ⟨j + 1, by go_num, by omega, ⟨hfin.out N9 _ (Nat.le_trans hN9s.out hNn.out.2) hO9.out⟩⟩
                    case measure => simp [RowKit.intOf]; omega
                  · have h3b : (y.f1.f0 == 3) = false := beq_false_of_ne h3
                    have htp : termPairs i y.f1 = [] := if_neg h3
                    rw [htp] at hfin
                    have hst9 := Aside0.mk (And.intro hN3 hOS)
                    clear hN3 hOS hT hrel htp h3
                    go_wp2
                    go_roundw
                    case rel => exact ⟨j + 1, by go_num, by omega, ⟨hfin.out N3 _ hst9.out.1 hst9.out.2⟩⟩
                    case measure => simp [RowKit.intOf]; omega
            · have hltj : decide ((j : Int) < (fn.f1.length : Int)) = false := decide_eq_false (by omega)
              go_wp2
              go_roundw
              case rel =>
                refine ⟨i + 1, by go_num, by omega, ⟨?_⟩⟩
                obtain ⟨N2, hN2, hOS⟩ := hrel.out
                rw [List.take_of_length_le (l := fn.f1) (i := j) (by omega)] at hOS
                rw [snoc_zip l i hy.out fPairs, snoc_zip l i hy.out fCells, hP0.out, hC0.out]
                exact ⟨N2, hN2, hOS⟩
              case measure => simp [RowKit.intOf]; omega
        · have hltb : decide ((i : Int) < (l.length : Int)) = false := decide_eq_false (by omega)
          obtain ⟨N3, hN3, hOS⟩ := hrel.out
          rw [List.take_of_length_le (l := l.zipIdx) (i := i) (by rw [List.length_zipIdx]; omega)] at hOS
          have hPA : l.zipIdx.flatMap fPairs = allPairs l := rfl
          have hCA : l.zipIdx.flatMap fCells = allCells l := rfl
          rw [hPA, hCA] at hOS
          have h52 := settle_calls wr q p bu bs (q + 1) nu N3 _ _ hOS.fs hNn.out.1 hN3 hfew'.out.cells
            (fun c hc => by
              obtain ⟨fx, hfx, hc⟩ := List.mem_flatMap.1 hc
              obtain ⟨y, hy, hc⟩ := List.mem_flatMap.1 hc
              obtain ⟨x, hx, hc⟩ := List.mem_flatMap.1 hc
              have := (hnm'.out.op fx.2 fx.1 (by have := List.mem_zipIdx_iff_getElem?.1 hfx; exact this) y hy x hx).2 c hc
              exact ⟨joinsE_sub _ (hEv.out _ this.1), joinsE_sub _ (hEv.out _ this.2)⟩)
            (fun c hc => by
              obtain ⟨fx, hfx, hc⟩ := List.mem_flatMap.1 hc
              obtain ⟨y, hy, hc⟩ := List.mem_flatMap.1 hc
              obtain ⟨x, hx, hc⟩ := List.mem_flatMap.1 hc
              unfold cellsOf at hc
              split at hc
              · rw [List.mem_singleton.1 hc]; exact ⟨varI_wf _ _, varI_wf _ _⟩
              · split at hc
                · rw [List.mem_singleton.1 hc]; exact ⟨varI_wf _ _, varI_wf _ _⟩
                · cases hc)
          have hOS' := Aside0.mk hOS
          have hN3' : N3 ≤ 100000 := hN3
          clear hN3 hOS hrel hPA hCA
          go_wp2_with (first
            | (go_at_call 52; refine h52.mono ?_; rintro e w6 ⟨⟨v6, rfl⟩, N6, E6, hNN6, hF6, hE6, hcl6, hle6, hK6⟩; have hO6 := Aside0.mk (hOS'.out.fsto hF6 hK6); have hE6' := Aside0.mk (And.intro hE6 (And.intro hcl6 hle6)); have hN6 : N6 ≤ 100000 := Nat.le_trans hNN6 hN3'; clear hF6 hE6 hcl6 hle6 hK6)
            | (go_at_call 53; refine (rows53_calls w6 w q p bu bs (q + 1) nu N6 E6 (allCells l) hO6.out.fs hNn.out.1 hN6 _ c l hO6.out.bl hO6.out.lo hC'.out hz'.out (fun x hx => by have := hfew'.out.reg x hx; omega) (by omega)).mono ?_; rintro e w7 ⟨v7, key, rfl, hk7, hS7, hB7⟩; have hR7 := Aside0.mk (And.intro hk7 (And.intro hS7 hB7)); clear hk7 hS7 hB7))
          go_ret
          refine ⟨v7, E6, key, rfl, ⟨⟨fun x y e => hO6.out.fs.un.symm e, fun x y z e e' => hO6.out.fs.un.trans e e'⟩, ?_, hE6'.out.2.1, ?_, hR7.out.1, Kd.S_lower hR7.out.2.1 hO6.out.bl.size, ?_⟩⟩
          · rw [hE0.out]; exact hE6'.out.1
          · rw [hE0.out]; exact hE6'.out.2.2
          · have h1 := hO6.out.lo
            exact hO6.out.bl.trans (hR7.out.2.2.below hO6.out.bl.size (fun k hk e => by rcases e with e | e <;> omega))
end Go.Proofs.Yteeapfmgdlcgfaa.A


namespace Go.Proofs.Yteeapfmgdlcgfaa.A
open Go.RowKit Go.Maps Go.Proofs.YteeapfmgdlcgfaaW.PrintWords
set_option linter.unusedVariables false
set_option linter.unusedSimpArgs false

theorem mx_l (a b : Int) : a ≤ mx a b := by unfold mx; split <;> omega
theorem mx_r (a b : Int) : b ≤ mx a b := by unfold mx; split <;> omega
theorem foldmx (l : List Int) : ∀ n : Int, n ≤ l.foldl mx n ∧ ∀ u ∈ l, u ≤ l.foldl mx n := by
  induction l with
  | nil => intro n; exact ⟨Int.le_refl _, fun u hu => by cases hu⟩
  | cons a tl ih =>
    intro n
    obtain ⟨h1, h2⟩ := ih (mx n a)
    refine ⟨Int.le_trans (mx_l n a) h1, fun u hu => ?_⟩
    rcases List.mem_cons.1 hu with rfl | hu
    · exact Int.le_trans (mx_r n u) h1
    · exact h2 u hu
theorem regsO_ge (l : List S60) : ∀ n : Int, n ≤ regsO n l ∧ ∀ x ∈ l, setsI x ≤ regsO n l ∧ ∀ u ∈ usesI x, u ≤ regsO n l := by
  induction l with
  | nil => intro n; exact ⟨Int.le_refl _, fun u hu => by cases hu⟩
  | cons a tl ih =>
    intro n
    obtain ⟨h1, h2⟩ := ih ((usesI a).foldl mx (mx n (setsI a)))
    obtain ⟨g1, g2⟩ := foldmx (usesI a) (mx n (setsI a))
    show n ≤ regsO ((usesI a).foldl mx (mx n (setsI a))) tl ∧ ∀ x ∈ a :: tl, setsI x ≤ regsO ((usesI a).foldl mx (mx n (setsI a))) tl ∧ ∀ u ∈ usesI x, u ≤ regsO ((usesI a).foldl mx (mx n (setsI a))) tl
    refine ⟨Int.le_trans (mx_l n (setsI a)) (Int.le_trans g1 h1), fun x hx => ?_⟩
    rcases List.mem_cons.1 hx with rfl | hx
    · exact ⟨Int.le_trans (mx_r n (setsI x)) (Int.le_trans g1 h1), fun u hu => Int.le_trans (g2 u hu) h1⟩
    · exact h2 x hx
theorem regsT_ge (l : List S57) : ∀ n : Int, n ≤ regsT n l ∧ ∀ y ∈ l, ∀ u ∈ tusesI y.f1, u ≤ regsT n l := by
  induction l with
  | nil => intro n; exact ⟨Int.le_refl _, fun u hu => by cases hu⟩
  | cons a tl ih =>
    intro n
    obtain ⟨h1, h2⟩ := ih ((tusesI a.f1).foldl mx n)
    obtain ⟨g1, g2⟩ := foldmx (tusesI a.f1) n
    show n ≤ regsT ((tusesI a.f1).foldl mx n) tl ∧ ∀ y ∈ a :: tl, ∀ u ∈ tusesI y.f1, u ≤ regsT ((tusesI a.f1).foldl mx n) tl
    refine ⟨Int.le_trans g1 h1, fun y hy => ?_⟩
    rcases List.mem_cons.1 hy with rfl | hy
    · exact fun u hu => Int.le_trans (g2 u hu) h1
    · exact h2 y hy
structure RegsGe (p : Int) (l : List S57) : Prop where
  zero : 0 ≤ regsI p l
  par : p ≤ regsI p l
  op : ∀ x ∈ opsOf l, setsI x ≤ regsI p l ∧ ∀ u ∈ usesI x, u ≤ regsI p l
  tm : ∀ y ∈ l, ∀ u ∈ tusesI y.f1, u ≤ regsI p l
theorem regsI_ge (p : Int) (l : List S57) : RegsGe p l := by
  obtain ⟨h1, h2⟩ := regsO_ge (opsOf l) (mx 0 p)
  obtain ⟨g1, g2⟩ := regsT_ge l (regsO (mx 0 p) (opsOf l))
  exact ⟨Int.le_trans (mx_l 0 p) (Int.le_trans h1 g1), Int.le_trans (mx_r 0 p) (Int.le_trans h1 g1), fun x hx => ⟨Int.le_trans (h2 x hx).1 g1, fun u hu => Int.le_trans ((h2 x hx).2 u hu) g1⟩, g2⟩
theorem in_vars {l : List S52} {i : Nat} {fn : S52} (h : l[i]? = some fn) {r : Int} (h0 : 0 ≤ r) (h1 : r ≤ regsI fn.f0 fn.f1) : varI i r ∈ vars l := by
  unfold vars
  refine List.mem_flatten.2 ⟨_, List.mem_of_getElem? (varRows_get h), ?_⟩
  unfold varRow
  refine List.mem_map.2 ⟨r.toNat, List.mem_range.2 ?_, ?_⟩
  · unfold regN; omega
  · rw [Int.toNat_of_nonneg h0]
theorem field_reg {a : Int} {b : Bool} (h : fieldB a b = true) (hb : b = true) : 1 ≤ a ∧ a ≤ 4096 := by
  subst hb
  unfold fieldB regB wthB at h
  split at h <;> simp at h <;> omega
theorem named_of {l : List S52} (h : progB l = true) (hl : l.length ≤ 1000000) : Named l := by
  unfold progB at h
  simp only [Bool.and_eq_true] at h
  have hall := fun x hx => List.all_eq_true.1 h.2 x hx
  have hfn : ∀ (f : Nat) (x : S52), l[f]? = some x → rightB x.f0 x.f1 l.length = true ∧ ∀ o ∈ opsOf x.f1, callOk l o = true := fun f x hx => by
    have := hall x (List.mem_of_getElem? hx)
    unfold fnB at this
    rw [Bool.and_eq_true] at this
    exact ⟨this.1, List.all_eq_true.1 this.2⟩
  constructor
  · intro f x hx y hy o ho
    obtain ⟨hr, hc⟩ := hfn f x hx
    have hoo : o ∈ opsOf x.f1 := List.mem_flatMap.2 ⟨y, hy, ho⟩
    have hge := regsI_ge x.f0 x.f1
    obtain ⟨hset, huse⟩ := hge.op o hoo
    have hrop : rightOpB o l.length = true := by
      have h2 := hr
      unfold rightB at h2
      simp only [Bool.and_eq_true] at h2
      exact List.all_eq_true.1 h2.2.2 o hoo
    have hro := hrop
    unfold rightOpB at hro
    simp only [Bool.and_eq_true] at hro
    obtain ⟨⟨⟨⟨⟨hk, hd⟩, ha⟩, hb⟩, himm⟩, hargs⟩ := hro
    have hD : (shp o.f0).1 = true → varI f o.f1 ∈ vars l := fun hs => in_vars hx (by have := (field_reg hd hs).1; omega) (by unfold setsI at hset; rw [if_pos hs] at hset; exact hset)
    have hA : (shp o.f0).2.1 = true → varI f o.f2 ∈ vars l := fun hs => in_vars hx (by have := (field_reg ha hs).1; omega) (huse _ (by unfold usesI; rw [if_pos hs]; simp))
    have hB : (shp o.f0).2.2.1 = true → varI f o.f3 ∈ vars l := fun hs => in_vars hx (by have := (field_reg hb hs).1; omega) (huse _ (by unfold usesI; rw [if_pos hs]; simp))
    constructor
    · intro ab hab
      unfold pairsOf at hab
      by_cases h3 : o.f0 = 3
      · rw [if_pos h3] at hab
        rw [List.mem_singleton.1 hab]
        rw [h3] at hD hA
        exact ⟨hD rfl, hA rfl⟩
      rw [if_neg h3] at hab
      by_cases h2 : o.f0 = 2
      · rw [if_pos h2] at hab
        rw [h2] at hD hA hB
        split at hab
        · rcases List.mem_cons.1 hab with rfl | hab
          · exact ⟨hD rfl, hA rfl⟩
          · rw [List.mem_singleton.1 hab]; exact ⟨hD rfl, hB rfl⟩
        · cases hab
      rw [if_neg h2] at hab
      by_cases h7 : o.f0 = 7
      · rw [if_pos h7] at hab
        obtain ⟨hi0, hi1⟩ := right_imm hr hoo h7 hl
        have hlt : o.f4.toNat < l.length := by omega
        obtain ⟨g, hg⟩ : ∃ g, l[o.f4.toNat]? = some g := ⟨_, List.getElem?_eq_getElem hlt⟩
        have hgv := regsI_ge g.f0 g.f1
        have hcast : ((o.f4.toNat : Nat) : Int) = o.f4 := Int.toNat_of_nonneg hi0
        have h0v : varI o.f4 0 ∈ vars l := by have := in_vars hg (r := 0) (by omega) hgv.zero; rwa [hcast] at this
        rcases List.mem_cons.1 hab with rfl | hab
        · rw [h7] at hD
          exact ⟨hD rfl, h0v⟩
        · obtain ⟨rk, hrk, rfl⟩ := List.mem_map.1 hab
          have hget : o.f5[rk.2]? = some rk.1 := List.mem_zipIdx_iff_getElem?.1 hrk
          have hmem : rk.1 ∈ o.f5 := List.mem_of_getElem? hget
          have hklt : rk.2 < o.f5.length := (List.getElem?_eq_some_iff.1 hget).1
          rw [if_pos h7] at hargs
          rw [Bool.and_eq_true] at hargs
          have hreg : regB rk.1 = true := by
            have := hargs.2
            rw [Bool.not_eq_true', List.any_eq_false] at this
            have := this rk.1 hmem
            simpa using this
          have hreg' : 1 ≤ rk.1 := by unfold regB wthB at hreg; simp at hreg; omega
          have hu : rk.1 ≤ regsI x.f0 x.f1 := huse _ (by unfold usesI; rw [if_pos h7]; exact List.mem_append_right _ hmem)
          have hco := hc o hoo
          unfold callOk at hco
          rw [if_pos h7] at hco
          have hco' := of_decide_eq_true hco
          have hrd : rd_T52 l o.f4 = g := by unfold rd_T52; rw [List.getD_eq_getElem?_getD, hg]; rfl
          rw [hrd] at hco'
          refine ⟨in_vars hx (by omega) hu, ?_⟩
          have := in_vars hg (r := (rk.2 : Int) + 1) (by omega) (by have := hgv.par; omega)
          rwa [hcast] at this
      · rw [if_neg h7] at hab
        cases hab
    · intro c hcc
      unfold cellsOf at hcc
      by_cases h4 : o.f0 = 4
      · rw [if_pos h4] at hcc
        rw [List.mem_singleton.1 hcc]
        rw [h4] at hD hA
        exact ⟨hA rfl, hD rfl⟩
      rw [if_neg h4] at hcc
      by_cases h5 : o.f0 = 5
      · rw [if_pos h5] at hcc
        rw [List.mem_singleton.1 hcc]
        rw [h5] at hA hB
        exact ⟨hA rfl, hB rfl⟩
      · rw [if_neg h5] at hcc
        cases hcc
  · intro f x hx y hy ab hab
    obtain ⟨hr, hc⟩ := hfn f x hx
    have hge := regsI_ge x.f0 x.f1
    unfold termPairs at hab
    by_cases h3 : y.f1.f0 = 3
    · rw [if_pos h3] at hab
      rw [List.mem_singleton.1 hab]
      have ht : rightTermB y.f1 x.f1.length = true := by
        have h2 := hr
        unfold rightB at h2
        simp only [Bool.and_eq_true] at h2
        have h3 := h2.1.2
        rw [Bool.not_eq_true', List.any_eq_false] at h3
        have := h3 y hy
        simpa using this
      have hA : 1 ≤ y.f1.f1 := by
        unfold rightTermB at ht
        rw [h3] at ht
        simp [regB, wthB] at ht
        omega
      exact ⟨in_vars hx (by omega) (hge.tm y hy _ (by unfold tusesI; rw [if_pos (.inr h3)]; simp)), in_vars hx (by omega) hge.zero⟩
    · rw [if_neg h3] at hab
      cases hab

theorem joinsE_least {E0 R : Int → Int → Prop} (hR : Per R) : ∀ (ps : List (Int × Int)) (E : Int → Int → Prop), (∀ x y, E x y → R x y) → (∀ ab ∈ ps, R ab.1 ab.2) → ∀ x y, joinsE E ps x y → R x y
  | [], E, h, _, x, y, e => h x y e
  | ab :: tl, E, h, hp, x, y, e => by
    refine joinsE_least (E0 := E0) hR tl (joinE E ab.1 ab.2) ?_ (fun q hq => hp q (List.mem_cons_of_mem _ hq)) x y e
    have g := hp ab (by simp)
    rintro a b (e | ⟨e1, e2⟩ | ⟨e1, e2⟩)
    · exact h _ _ e
    · exact hR.trans _ _ _ (h _ _ e1) (hR.trans _ _ _ g (hR.symm _ _ (h _ _ e2)))
    · exact hR.trans _ _ _ (h _ _ e1) (hR.trans _ _ _ (hR.symm _ _ g) (hR.symm _ _ (h _ _ e2)))
/-- joined is joined -/
theorem joinsE_pair {E : Int → Int → Prop} : ∀ (ps : List (Int × Int)) {ab : Int × Int}, ab ∈ ps → E ab.1 ab.1 → E ab.2 ab.2 → joinsE E ps ab.1 ab.2
  | [], _, h, _, _ => by cases h
  | p :: tl, ab, h, h1, h2 => by
    rcases List.mem_cons.1 h with rfl | h
    · exact joinsE_sub tl (.inr (.inl ⟨h1, h2⟩))
    · exact joinsE_pair tl h (.inl h1) (.inl h2)
theorem numRows_congr {k1 k2 : Int → Int} {l : List S52} (h : ∀ v ∈ vars l, k1 v = k2 v) : numRows k1 l = numRows k2 l := by
  have e : (varRows l).flatten.map k1 = (varRows l).flatten.map k2 := List.map_congr_left fun v hv => h v hv
  unfold numRows
  rw [e]
  refine List.map_congr_left fun row hrow => List.map_congr_left fun v hv => ?_
  rw [h v (List.mem_flatten.2 ⟨row, hrow, hv⟩)]
/-- what Of answers where the classes are known and there are no cells -/
structure Explicit (l : List S52) (cl : Int → Int) : Prop where
  pairs : ∀ ab ∈ allPairs l, cl ab.1 = cl ab.2
  inv : ∀ ab ∈ allPairs l, ab.1 ∈ vars l ∧ ab.2 ∈ vars l
  none : allCells l = []
  conn : ∀ v ∈ vars l, cl v ∈ vars l ∧ ∀ R, Per R → (∀ v ∈ vars l, R v v) → (∀ ab ∈ allPairs l, R ab.1 ab.2) → R (cl v) v
  least : ∀ v ∈ vars l, cl v ≤ v
theorem OfR.explicit {l : List S52} {w w' : World} {v : Value} {E : Int → Int → Prop} {key : Int → Int} (h : OfR l w w' v E key) {cl : Int → Int} (hx : Explicit l cl) : numRows key l = numRows cl l := by
  refine numRows_congr fun y hy => ?_
  have hbase : ∀ x ∈ vars l, E x x := fun x hx => h.base x x (joinsE_sub _ ⟨rfl, hx⟩)
  have hpair : ∀ ab ∈ allPairs l, E ab.1 ab.2 := fun ab hab => h.base _ _ (joinsE_pair _ hab ⟨rfl, (hx.inv ab hab).1⟩ ⟨rfl, (hx.inv ab hab).2⟩)
  obtain ⟨h1, h2⟩ := h.least1 y (hbase y hy)
  have hR : ∀ a b, E a b → cl a = cl b ∧ a ∈ vars l ∧ b ∈ vars l := by
    intro a b e
    refine h.least (fun a b => cl a = cl b ∧ a ∈ vars l ∧ b ∈ vars l) ⟨fun a b e => ⟨e.1.symm, e.2.2, e.2.1⟩, fun a b c e e' => ⟨e.1.trans e'.1, e.2.1, e'.2.2⟩⟩ ?_ ?_ a b e
    · refine joinsE_least (E0 := E) ⟨fun a b e => ⟨e.1.symm, e.2.2, e.2.1⟩, fun a b c e e' => ⟨e.1.trans e'.1, e.2.1, e'.2.2⟩⟩ _ _ ?_ ?_
      · rintro a b ⟨rfl, ha⟩; exact ⟨rfl, ha, ha⟩
      · intro ab hab; exact ⟨hx.pairs ab hab, hx.inv ab hab⟩
    · rw [hx.none]; intro a ha; cases ha
  have hconn : E (cl y) y := (hx.conn y hy).2 E h.per hbase hpair
  have h3 := h2 _ hconn
  have h4 := hR _ _ h1
  have h5 := hx.least _ h4.2.1
  have : cl (key y) = cl y := h4.1
  omega
end Go.Proofs.Yteeapfmgdlcgfaa.A


namespace Go.Proofs.Yteeapfmgdlcgfaa.A
open Go.RowKit Go.Proofs.YteeapfmgdlcgfaaW.PrintWords Go.Proofs.YteeapfmgdlcgfaaW.PrintLast Go.Proofs.YteeapfmgdlcgfaaW.PrintMore
attribute [local go_sem] max2_int min2_int max_two min_two max_three min_three max_four min_four   -- for this text's walks alone
set_option linter.unusedVariables false
set_option linter.unusedSimpArgs false

def swagelaw20_some.f  : Option ((List (S52))) := some (([(⟨0, (([(⟨(([(⟨6, 1, 0, 0, 0, ([] : List Int)⟩ : S60), (⟨3, 2, 1, 0, 0, ([] : List Int)⟩ : S60), (⟨6, 3, 0, 0, 0, ([] : List Int)⟩ : S60)] : List (S60))), (⟨3, 3, 0, 0⟩ : S55)⟩ : S57)] : List (S57)))⟩ : S52)] : List (S52)))
set_option maxHeartbeats 8000000 in
set_option maxRecDepth 100000 in
theorem swagelaw20_some.calls  (r : List (S52)) (w : World) (h : swagelaw20_some.f  = some r) :
    Calls Try.prog 46 #[] w fun e w' => ∃ v0_ : Value, e = .returned (v0_) ∧ Kd.N k52 52 w' w.heap.size (fun k_ => (w.heap.size ≤ k_)) v0_ r ∧ Below w.heap.size w w' := by
  have hu60 := Try.underlying60
  have hu55 := Try.underlying55
  have hu57 := Try.underlying57
  have hu52 := Try.underlying52
  have HB := Aside0.mk (Below.refl w.heap.size w)
  have H : (some (([(⟨0, (([(⟨(([(⟨6, 1, 0, 0, 0, ([] : List Int)⟩ : S60), (⟨3, 2, 1, 0, 0, ([] : List Int)⟩ : S60), (⟨6, 3, 0, 0, 0, ([] : List Int)⟩ : S60)] : List (S60))), (⟨3, 3, 0, 0⟩ : S55)⟩ : S57)] : List (S57)))⟩ : S52)] : List (S52)))) = some r := h
  clear h
  obtain ⟨y409, hy409⟩ : ∃ y_ : List (S60), y_ = (([(⟨6, 1, 0, 0, 0, ([] : List Int)⟩ : S60), (⟨3, 2, 1, 0, 0, ([] : List Int)⟩ : S60), (⟨6, 3, 0, 0, 0, ([] : List Int)⟩ : S60)] : List (S60))) := ⟨_, rfl⟩
  replace H : (some (([(⟨0, (([(⟨y409, (⟨3, 3, 0, 0⟩ : S55)⟩ : S57)] : List (S57)))⟩ : S52)] : List (S52)))) = some r := by first | (rw [hy409]; with_reducible exact H) | (have H2_ := (Option.bind_some _ _).symm.trans H; rw [hy409]; with_reducible exact H2_) | (have H2_ := (Option.bind_some _ _).symm.trans H; with_reducible exact H2_) | with_reducible exact H | (rw [hy409]; exact H) | exact H
  have Ny409 := Aside0.mk hy409
  clear hy409
  obtain ⟨y412, hy412⟩ : ∃ y_ : List (S57), y_ = (([(⟨y409, (⟨3, 3, 0, 0⟩ : S55)⟩ : S57)] : List (S57))) := ⟨_, rfl⟩
  replace H : (some (([(⟨0, y412⟩ : S52)] : List (S52)))) = some r := by first | (rw [hy412]; with_reducible exact H) | (have H2_ := (Option.bind_some _ _).symm.trans H; rw [hy412]; with_reducible exact H2_) | (have H2_ := (Option.bind_some _ _).symm.trans H; with_reducible exact H2_) | with_reducible exact H | (rw [hy412]; exact H) | exact H
  have Ny412 := Aside0.mk hy412
  clear hy412
  obtain ⟨y415, hy415⟩ : ∃ y_ : List (S52), y_ = (([(⟨0, y412⟩ : S52)] : List (S52))) := ⟨_, rfl⟩
  replace H : (some y415) = some r := by first | (rw [hy415]; with_reducible exact H) | (have H2_ := (Option.bind_some _ _).symm.trans H; rw [hy415]; with_reducible exact H2_) | (have H2_ := (Option.bind_some _ _).symm.trans H; with_reducible exact H2_) | with_reducible exact H | (rw [hy415]; exact H) | exact H
  have Ny415 := Aside0.mk hy415
  clear hy415
  obtain rfl := Option.some.inj H
  go_enter Try.func46, Try.ntmps46
  go_wp2_with (first | ((with_reducible refine gate_dst (N := 4) rfl ?_); refine Kd.N_lit k60 _ 60 ?hg (N' := 4) ?hd (xs := ([(⟨6, 1, 0, 0, 0, ([] : List Int)⟩ : S60), (⟨3, 2, 1, 0, 0, ([] : List Int)⟩ : S60), (⟨6, 3, 0, 0, 0, ([] : List Int)⟩ : S60)] : List (S60))) (inner := [.int .i64 6, .int .i64 1, .int .i64 0, .int .i64 0, .int .i64 0, .slice none 0 0, .int .i64 3, .int .i64 2, .int .i64 1, .int .i64 0, .int .i64 0, .slice none 0 0, .int .i64 6, .int .i64 3, .int .i64 0, .int .i64 0, .int .i64 0, .slice none 0 0]) (ok := (fun k_ => (w.heap.size ≤ k_))) (okp := (fun k_ => (w.heap.size ≤ k_))) ?hr ?hp (fun _ hk => hk) ((show ∀ k_, w.heap.size ≤ k_ → (fun k_ => (w.heap.size ≤ k_)) k_ from fun k_ hk => (Nat.le_trans (below_size (by repeat (first | (with_reducible first | exact HB.out | apply below_alloc | apply pw_below_drewN | apply below_drew1) | exact HB.out))) hk)) _ (Nat.le_refl _)) (Below.refl _ _) (Nat.le_refl _) (by simp) ?_; (case hd => rfl); (case hg => rfl); (case hr => first | (go_simp; done) | (go_simp; rfl)); (case hp => exact (Reps.c6 (show Kd.FK k60 _ _ (⟨6, 1, 0, 0, 0, ([] : List Int)⟩ : S60) [.int .i64 6, .int .i64 1, .int .i64 0, .int .i64 0, .int .i64 0, .slice none 0 0] from (k60_mkF _ _ (⟨6, 1, 0, 0, 0, ([] : List Int)⟩ : S60) (Nat.le_refl _) (Kd.F_nil _ _ _))) (Reps.c6 (show Kd.FK k60 _ _ (⟨3, 2, 1, 0, 0, ([] : List Int)⟩ : S60) [.int .i64 3, .int .i64 2, .int .i64 1, .int .i64 0, .int .i64 0, .slice none 0 0] from (k60_mkF _ _ (⟨3, 2, 1, 0, 0, ([] : List Int)⟩ : S60) (Nat.le_refl _) (Kd.F_nil _ _ _))) (Reps.c6 (show Kd.FK k60 _ _ (⟨6, 3, 0, 0, 0, ([] : List Int)⟩ : S60) [.int .i64 6, .int .i64 3, .int .i64 0, .int .i64 0, .int .i64 0, .slice none 0 0] from (k60_mkF _ _ (⟨6, 3, 0, 0, 0, ([] : List Int)⟩ : S60) (Nat.le_refl _) (Kd.F_nil _ _ _))) (Reps.none _ _))))); intro v410 w1 ho2 hb hg_ hnew_; clear hg_ hnew_; (first | rw [← Ny409.out] at ho2 | (simp only [Int.reduceToNat] at ho2; rw [← Ny409.out] at ho2)); have n0_ := Aside0.mk (Kd.N_lower ho2 (below_size (by repeat (first | (with_reducible first | exact HB.out | apply below_alloc | apply pw_below_drewN | apply below_drew1) | exact HB.out)))); have n1_ := Aside0.mk (below_step (by repeat (first | (with_reducible first | exact HB.out | apply below_alloc | apply pw_below_drewN | apply below_drew1) | exact HB.out)) hb); clear HB; have HO411 := n0_; have HB := n1_; clear n0_ n1_; clear hb ho2; obtain ⟨Ao3, co3, eo3⟩ := Kd.N_slice HO411.out; subst eo3) | ((with_reducible refine gate_dst (N := 7) rfl ?_); refine Kd.N_lit k57 _ 57 ?hg (N' := 7) ?hd (xs := ([(⟨y409, (⟨3, 3, 0, 0⟩ : S55)⟩ : S57)] : List (S57))) (inner := [.slice Ao3 y409.length co3, .int .i64 3, .int .i64 3, .int .i64 0, .int .i64 0]) (ok := (fun k_ => (w.heap.size ≤ k_))) (okp := (fun k_ => (w.heap.size ≤ k_))) ?hr ?hp (fun _ hk => hk) ((show ∀ k_, w1.heap.size ≤ k_ → (fun k_ => (w.heap.size ≤ k_)) k_ from fun k_ hk => (Nat.le_trans (below_size (by repeat (first | (with_reducible first | exact HB.out | apply below_alloc | apply pw_below_drewN | apply below_drew1) | exact HB.out))) hk)) _ (Nat.le_refl _)) (Below.refl _ _) (Nat.le_refl _) (by simp) ?_; (case hd => rfl); (case hg => rfl); (case hr => first | (go_simp; done) | (go_simp; rfl)); (case hp => exact (Reps.c5 (show Kd.FK k57 _ _ (⟨y409, (⟨3, 3, 0, 0⟩ : S55)⟩ : S57) [.slice Ao3 y409.length co3, .int .i64 3, .int .i64 3, .int .i64 0, .int .i64 0] from (k57_mkF _ _ (⟨y409, (⟨3, 3, 0, 0⟩ : S55)⟩ : S57) (Kd.N_reads' (Kd.N_mono (ok' := (fun k_ => (w.heap.size ≤ k_))) (HO411.out) (fun k_ hk => hk))).2.1 (Kd.N_F (Kd.N_mono (ok' := (fun k_ => (w.heap.size ≤ k_))) (HO411.out) (fun k_ hk => hk))))) (Reps.none _ _))); intro v413 w4 ho5 hb hg_ hnew_; clear hg_ hnew_; (first | rw [← Ny412.out] at ho5 | (simp only [Int.reduceToNat] at ho5; rw [← Ny412.out] at ho5)); have n0_ := Aside0.mk (Kd.N_lower ho5 (below_size (by repeat (first | (with_reducible first | exact HB.out | apply below_alloc | apply pw_below_drewN | apply below_drew1) | exact HB.out)))); have n1_ := Aside0.mk (below_step (by repeat (first | (with_reducible first | exact HB.out | apply below_alloc | apply pw_below_drewN | apply below_drew1) | exact HB.out)) hb); clear HB; clear HO411; have HO414 := n0_; have HB := n1_; clear n0_ n1_; clear hb ho5; obtain ⟨Ao6, co6, eo6⟩ := Kd.N_slice HO414.out; subst eo6) | ((with_reducible refine gate_dst (N := 9) rfl ?_); refine Kd.N_lit k52 _ 52 ?hg (N' := 9) ?hd (xs := ([(⟨0, y412⟩ : S52)] : List (S52))) (inner := [.int .i64 0, .slice Ao6 y412.length co6]) (ok := (fun k_ => (w.heap.size ≤ k_))) (okp := (fun k_ => (w.heap.size ≤ k_))) ?hr ?hp (fun _ hk => hk) ((show ∀ k_, w4.heap.size ≤ k_ → (fun k_ => (w.heap.size ≤ k_)) k_ from fun k_ hk => (Nat.le_trans (below_size (by repeat (first | (with_reducible first | exact HB.out | apply below_alloc | apply pw_below_drewN | apply below_drew1) | exact HB.out))) hk)) _ (Nat.le_refl _)) (Below.refl _ _) (Nat.le_refl _) (by simp) ?_; (case hd => rfl); (case hg => rfl); (case hr => first | (go_simp; done) | (go_simp; rfl)); (case hp => exact (Reps.c2 (show Kd.FK k52 _ _ (⟨0, y412⟩ : S52) [.int .i64 0, .slice Ao6 y412.length co6] from (k52_mkF _ _ (⟨0, y412⟩ : S52) (Kd.N_reads' (Kd.N_mono (ok' := (fun k_ => (w.heap.size ≤ k_))) (HO414.out) (fun k_ hk => hk))).2.1 (Kd.N_F (Kd.N_mono (ok' := (fun k_ => (w.heap.size ≤ k_))) (HO414.out) (fun k_ hk => hk))))) (Reps.none _ _))); intro v416 w7 ho8 hb hg_ hnew_; clear hg_ hnew_; (first | rw [← Ny415.out] at ho8 | (simp only [Int.reduceToNat] at ho8; rw [← Ny415.out] at ho8)); have n0_ := Aside0.mk (Kd.N_lower ho8 (below_size (by repeat (first | (with_reducible first | exact HB.out | apply below_alloc | apply pw_below_drewN | apply below_drew1) | exact HB.out)))); have n1_ := Aside0.mk (below_step (by repeat (first | (with_reducible first | exact HB.out | apply below_alloc | apply pw_below_drewN | apply below_drew1) | exact HB.out)) hb); clear HB; clear HO414; have HO417 := n0_; have HB := n1_; clear n0_ n1_; clear hb ho8))
  go_ret
  exact ⟨_, by first | rfl | (simp [errW_none, errW_some] <;> rfl) | (simp [*, errW_none, errW_some] <;> rfl), by (with_reducible repeat (first | apply Kd.N_alloc | apply Kd.N_drewN | apply Kd.N_drew)); exact HO417.out, by repeat (first | (with_reducible first | exact HB.out | apply below_alloc | apply pw_below_drewN | apply below_drew1) | exact HB.out)⟩

end Go.Proofs.Yteeapfmgdlcgfaa.A

