/- Parts of the proof, in the order in which they rest on one another. -/
import Derived.Test.YtphmlkbmnmicpaaMTells6
import Derived.Below
import Derived.Deep.Draws
import Derived.Deep.AppendLies
import Derived.Maps.AppendAt
import Derived.OwnWalk
import Derived.Laws.BytesArg
import Derived.Laws.MakeOwn
import Derived.Laws.OwnMore
import Derived.Deep.OwnRows
import Derived.Tactics
import Derived.Lib.ConvBytes
import Derived.Laws.Slices
import Derived.WalkKit
import Derived.KernelRfl
import Derived.RowKit3
import Derived.Deep.LoopGhost
import Derived.Deep.QuietTactic
import Derived.BigQuiet
import Derived.WideLaws
import Derived.Deep.DeepCutAuto
import Derived.Deep.CutBlock
import Derived.Deep.RegionHeld3
import Derived.Laws.Rows
import Derived.Lib.AppendStr
import Derived.ArgAppend
import Derived.Laws.IdiomCopy
import Derived.RowKit
import Derived.OrdersHeld
import Derived.Laws.BitsLemmas
import Derived.Laws.StructEq
import Derived.Test.YtphmlkbmnmicpaaProg
import Derived.Shelf.Abstract
import Derived.Lib.Walk
import Derived.RangeFuncBox
import Derived.RangeFuncLeaves
import Derived.RangeFuncNested
import Derived.RangeFuncBound
import Derived.OwnWalkIn
import Derived.TacticsInMore
import Derived.LoopNIn
import Derived.LoopIn
import Derived.Outline
import Derived.Lib.QuietBelowIn
import Derived.OrdersIn
import Derived.StillTail
import Derived.Lib.SliceRun
import Derived.Deep.Slices
import Derived.ChangeArms
set_option linter.unusedVariables false
set_option linter.unusedSimpArgs false
namespace Go.Proofs.Ytphmlkbmnmicpaa.A
open Go.RowKit Go.Proofs.YtphmlkbmnmicpaaW.PrintWords Go.Proofs.YtphmlkbmnmicpaaW.PrintLast Go.Shelf
theorem zBC {w w' : World} (h : Drawn0 w w') (b : Nat) : Below b w w' := by
 obtain ⟨nd, rfl⟩ := h
 exact zAA (Below.refl _ _) nd
def okAt (d : List (List Int)) (n : Nat) (o : List Int) (i : Nat) : Bool :=
 decide (0 ≤ rd o (i : Int)) && decide (rd o (i : Int) < (n : Int)) && decide (rd o (i : Int) ∉ o.take i) && (rd_L1 d (rd o (i : Int))).all fun a => decide (a ∈ o.take i)
theorem mayB_ok (d : List (List Int)) (n : Nat) (o : List Int) (hrow : ∀ i : Nat, i < n → ∀ a ∈ rd_L1 d (i : Int), 0 ≤ a ∧ a < (n : Int)) :
  ∀ (k i : Nat) (ps : List Bool), i + k = o.length → ps.length = n → (∀ m : Nat, m < n → ps.getD m false = decide ((m : Int) ∈ o.take i)) →
   mayB d n ps (o.drop i) = (List.range' i k).all (okAt d n o) := by
 intro k
 induction k with
 | zero =>
  intro i ps hi hl hp
  rw [List.drop_eq_nil_of_le (by omega)]
  simp [mayB]
 | succ k ih =>
  intro i ps hi hl hp
  have hil : i < o.length := by omega
  have hr : rd o (i : Int) = o[i] := by simp [rd, hil]
  rw [List.drop_eq_getElem_cons hil, List.range'_succ, List.all_cons]
  unfold mayB
  have hok : okAt d n o i = (decide (0 ≤ o[i]) && decide (o[i] < (n : Int)) && decide (o[i] ∉ o.take i) && (rd_L1 d o[i]).all fun a => decide (a ∈ o.take i)) := by unfold okAt; rw [hr]
  rw [hok]
  clear hok
  by_cases h0 : o[i] < 0
  ·rw [if_pos h0, decide_eq_false (by omega)]
   simp
  rw [if_neg h0, decide_eq_true (show 0 ≤ o[i] by omega)]
  by_cases h1 : (n : Int) ≤ o[i]
  ·rw [if_pos h1, decide_eq_false (show ¬ o[i] < (n : Int) by omega)]
   simp
  rw [if_neg h1, decide_eq_true (show o[i] < (n : Int) by omega)]
  obtain ⟨p, hpe⟩ : ∃ p : Nat, o[i] = (p : Int) := ⟨o[i].toNat, by omega⟩
  have hpn : p < n := by omega
  have htk : o.take (i + 1) = o.take i ++ [o[i]] := List.take_succ_eq_append_getElem hil
  rw [hpe] at htk
  rw [hpe, Int.toNat_natCast, hp p hpn]
  by_cases h2 : (p : Int) ∈ o.take i
  ·rw [if_pos (decide_eq_true h2), decide_eq_false (show ¬ (p : Int) ∉ o.take i by simpa using h2)]
   simp
  rw [if_neg (by simpa using h2), decide_eq_true h2]
  have hany : ((rd_L1 d (p : Int)).any fun a => !(ps.getD a.toNat false)) = !((rd_L1 d (p : Int)).all fun a => decide (a ∈ o.take i)) := by
   rw [List.not_all_eq_any_not]
   have : ∀ (row : List Int), (∀ a ∈ row, 0 ≤ a ∧ a < (n : Int)) → (row.any fun a => !(ps.getD a.toNat false)) = row.any fun a => !(decide (a ∈ o.take i)) := by
    intro row
    induction row with
    | nil => intro _; rfl
    | cons b row ih2 =>
     intro hb
     rw [List.any_cons, List.any_cons, ih2 (fun a ha => hb a (List.mem_cons_of_mem _ ha))]
     have hb0 := hb b List.mem_cons_self
     rw [hp b.toNat (by omega), Int.toNat_of_nonneg hb0.1]
   exact this _ (hrow p hpn)
  rw [hany]
  cases hall : (rd_L1 d (p : Int)).all fun a => decide (a ∈ o.take i)
  ·simp
  ·rw [if_neg (by simp)]
   rw [ih (i + 1) (ps.set p true) (by omega) (by rw [List.length_set, hl]) (fun m hm => ?_)]
   ·simp
   ·rw [htk]
    by_cases e : m = p
    ·subst e
     simp [List.getD_eq_getElem?_getD, hl, hm]
    ·have : (m : Int) ≠ (p : Int) := by omega
     have h3 := hp m hm
     simp only [List.getD_eq_getElem?_getD] at h3 ⊢
     rw [List.getElem?_set_ne (by omega), h3]
     simp [this]
theorem mayB_all (d : List (List Int)) (n : Nat) (o : List Int) (hrow : ∀ i : Nat, i < n → ∀ a ∈ rd_L1 d (i : Int), 0 ≤ a ∧ a < (n : Int)) :
  mayB d n (List.replicate n false) o = (List.range' 0 o.length).all (okAt d n o) := by
 have := mayB_ok d n o hrow o.length 0 (List.replicate n false) (by omega) (by simp) (fun m hm => by simp [List.getD_eq_getElem?_getD, hm])
 rwa [List.drop_zero] at this
theorem mayB_yes {d : List (List Int)} {n : Nat} {o : List Int} (hrow : ∀ i : Nat, i < n → ∀ a ∈ rd_L1 d (i : Int), 0 ≤ a ∧ a < (n : Int)) (h : ∀ j, j < o.length → okAt d n o j = true) : mayB d n (List.replicate n false) o = true := by
 rw [mayB_all d n o hrow, List.all_eq_true]
 intro x hx
 rw [List.mem_range'_1] at hx
 exact h x (by omega)
theorem mayB_no {d : List (List Int)} {n : Nat} {o : List Int} (hrow : ∀ i : Nat, i < n → ∀ a ∈ rd_L1 d (i : Int), 0 ≤ a ∧ a < (n : Int)) {i : Nat} (hi : i < o.length) (h : okAt d n o i = false) : mayB d n (List.replicate n false) o = false := by
 rw [mayB_all d n o hrow, List.all_eq_false]
 exact ⟨i, by rw [List.mem_range'_1]; omega, by rw [h]; simp⟩
set_option maxRecDepth 100000 in
set_option maxHeartbeats 8000000 in
theorem rmay_calls (l : List S37) (hlen : l.length ≤ 100) (hs : ∀ x ∈ l, x.f5.length ≤ 1000) (o : List Int) (A0 : Option Addr) (c0 : Nat) (A1 : Option Addr) (c1 : Nat) (w : World)
  (hr0 : Kd.C k37 w A0 l.length l) (hc0 : l.length ≤ c0) (hr1 : Kd.C (Kd.int .i64) w A1 o.length o) (hc1 : o.length ≤ c1) :
  Calls Try.prog 25 #[.slice A0 l.length c0, .slice A1 o.length c1] w fun e w' => e = .returned (.bool (decide (o.length = l.length) && mayB (zAX l) l.length (List.replicate l.length false) o)) ∧ Below w.heap.size w w' := by
 have hmix : Try.prog.follows .mixedOrders = true := by kernel_rfl
 obtain ⟨K1, hK1⟩ := (rdeps l (by omega) hs).rounds
 have hd := Aside0.mk (swageref27_Deps.calls K1 A0 c0 l _ w hr0 hc0 hK1)
 have hdl := zBF l
 have hrow : Aside0 (∀ i : Nat, i < l.length → (rd_L1 (zAX l) (i : Int)).length ≤ 100 ∧ ∀ a ∈ rd_L1 (zAX l) (i : Int), 0 ≤ a ∧ a < (l.length : Int)) := ⟨fun i hi => by
  refine ⟨?_, fun a ha => ?_⟩
  ·rw [zBZ l i hi]
   have := zBQ l i i
   omega
  ·obtain ⟨m, rfl, hm⟩ := zBU l i (by omega) a ha
   omega⟩
 have hin : Aside0 (∀ (A : Option Addr) (c : Nat) (xs : List Int) (m : Nat) (a : Int) (W : World), m = xs.length → xs.length ≤ 100 → Kd.C (Kd.int .i64) W A xs.length xs → xs.length ≤ c → Calls Try.prog 35 #[.slice A m c, .int .i64 a] W fun e w' => e = .returned (.bool (decide (a ∈ xs))) ∧ Drawn0 W w') := ⟨fun A c xs m a W hm hl h hc => by
  subst hm
  exact swageref27_in.calls 2001 A c xs a _ W h hc (rin xs a (by omega) 2001 (by omega))⟩
 generalize zAX l = d at hd hdl hrow ⊢
 obtain ⟨n, hn⟩ : ∃ n, l.length = n := ⟨_, rfl⟩
 rw [hn] at hd hdl hrow hlen hc0 ⊢
 obtain ⟨no, hno⟩ : ∃ no, o.length = no := ⟨_, rfl⟩
 have hno' := Aside0.mk hno
 have hr1' := Aside0.mk hr1
 rw [hno] at hc1 ⊢
 have h4096 : decide ((4096 : Int) < (n : Int)) = false := decide_eq_false (by omega)
 have h4096' : ¬ 4096 < n := by omega
 clear hr0 hn hK1 hs hr1 hno
 by_cases hlo : no = n
 case neg =>
  have h2 : ((no : Int) != (n : Int)) = true := by simp; omega
  rw [decide_eq_false hlo, Bool.false_and]
  clear hlo
  go_enter Try.func25, Try.ntmps25
  go_wp2_with fail
  refine hd.out.mono ?_
  rintro e w1 ⟨v, rfl, hv, B1⟩
  obtain ⟨Ad, cd, rfl, hcd, hCd⟩ := Kd.S_reads hv
  rw [hdl] at hcd hCd hv ⊢
  have B1' := Aside0.mk B1
  clear hd hv hCd B1
  go_wp2_with fail
  go_ret
  exact ⟨rfl, B1'.out⟩
 case pos =>
  subst hlo
  rw [decide_eq_true rfl, Bool.true_and]
  obtain ⟨R, hR⟩ : ∃ R, mayB d no (List.replicate no false) o = R := ⟨_, rfl⟩
  rw [hR]
  have hR' := Aside0.mk hR
  clear hR
  go_enter Try.func25, Try.ntmps25
  go_wp2_with fail
  refine hd.out.mono ?_
  rintro e w1 ⟨v, rfl, hv, B1⟩
  obtain ⟨Ad, cd, rfl, hcd, hCd⟩ := Kd.S_reads hv
  rw [hdl] at hcd hCd hv ⊢
  have B1' := Aside0.mk B1
  have hCd' := Aside0.mk hCd
  clear hd hv hCd B1
  go_wp2_with fail
  go_loopw [6] (fun s wr => ∃ i : Nat, s = .int .i64 i ∧ i ≤ no ∧ Aside0 (Below w1.heap.size w1 wr ∧ ∀ j, j < i → okAt d no o j = true)) (fun s _ => no - (RowKit.intOf s).toNat)
  case atStart => exact ⟨0, rfl, by omega, ⟨Below.refl _ _, fun j hj => by omega⟩⟩
  case round =>
   obtain ⟨i, rfl, hi, hrel⟩ := hrel
   by_cases hil : i < no
   ·have hib : decide ((i : Int) < (no : Int)) = true := decide_eq_true (by omega)
    have Bw := Aside0.mk hrel.out.1
    have hOk := Aside0.mk hrel.out.2
    clear hrel
    have hCo := Aside0.mk (Kd.C_below (Kd.C_below hr1'.out B1'.out) Bw.out)
    rw [hno'.out] at hCo
    obtain ⟨oa, rfl, ho⟩ := Kd.at_int hCo.out (i : Int) (by omega) (by omega)
    rw [Int.toNat_natCast] at ho
    obtain ⟨a, ha⟩ : ∃ a, rd o (i : Int) = a := ⟨_, rfl⟩
    rw [ha] at ho
    have ha' := Aside0.mk ha
    have hB' := Aside0.mk (zAL B1'.out Bw.out)
    have ht := Aside0.mk (show okAt d no o i = (decide (0 ≤ a) && decide (a < (no : Int)) && decide (a ∉ o.take i) && (rd_L1 d a).all fun b => decide (b ∈ o.take i)) by unfold okAt; rw [ha])
    have hnoo := Aside0.mk (fun h : okAt d no o i = false => hR'.out.symm.trans <| mayB_no (d := d) (n := no) (o := o) (fun i hi => (hrow.out i hi).2) (i := i) (by rw [hno'.out]; exact hil) h)
    clear ha
    by_cases hneg : a < 0
    ·have hf := hnoo.out (by rw [ht.out, decide_eq_false (show ¬ 0 ≤ a by omega)]; simp)
     have hf' := Aside0.mk hf
     clear hf ht hnoo
     go_wp2_with fail
     refine zCA (n := 24) (S := fun w' => w'.cell? (oa.add i) = some (.int .i64 a)) (ds := []) #[fF,fF,fF,fF,fF,fF,fF,fF,fF,fF,fF,fF,fF,fF,fF,fF,fF,fF,fF,fF,fF,fF,fF,fF] hmix rfl rfl ho (fun hHeld => ?_)
     have hB2 := Aside0.mk (show Below w.heap.size w wr.drew from zAL hB'.out (zAA (Below.refl _ _) 1))
     clear hB' Bw hCo hOk ho
     generalize wr.drew = W1 at hB2 hHeld ⊢
     refine pure_ (i := 0) (N := some 26) (v := ?_) (a' := ?_) #[tT,fF,fF,fF,fF,fF,fF,fF,fF,fF,fF,fF,fF,fF,fF,fF,fF,fF,fF,fF,fF,fF,fF,fF] rfl rfl (by kernel_rfl) (fun _ _ _ h => h) (Or.inl ⟨by rfl, ?_⟩) ?_ ?_
     rotate_left
     ·intro w'
      go_simp
      try with_reducible rfl
     rotate_left
     ·simp only [Act.put, List.setIfInBounds_toArray, List.set_cons_zero, List.set_cons_succ, i64_w, i32_w]
      rfl
     refine pure_ (i := 1) (N := some 27) (v := ?_) (a' := ?_) #[tT,tT,fF,fF,fF,fF,fF,fF,fF,fF,fF,fF,fF,fF,fF,fF,fF,fF,fF,fF,fF,fF,fF,fF] rfl rfl (by kernel_rfl) (fun _ _ _ h => h) (Or.inl ⟨by rfl, ?_⟩) ?_ ?_
     rotate_left
     ·intro w'
      go_simp
      try with_reducible rfl
     rotate_left
     ·simp only [Act.put, List.setIfInBounds_toArray, List.set_cons_zero, List.set_cons_succ, i64_w, i32_w]
      rfl
     refine pure_ (i := 2) (N := some 28) (v := ?_) (a' := ?_) #[tT,tT,tT,fF,fF,fF,fF,fF,fF,fF,fF,fF,fF,fF,fF,fF,fF,fF,fF,fF,fF,fF,fF,fF] rfl rfl (by kernel_rfl) (fun _ _ _ h => h) (Or.inl ⟨by rfl, ?_⟩) ?_ ?_
     rotate_left
     ·intro w'
      go_simp
      try with_reducible rfl
     rotate_left
     ·simp only [Act.put, List.setIfInBounds_toArray, List.set_cons_zero, List.set_cons_succ, i64_w, i32_w]
      rfl
     refine take_ (i := 3) (N := some 29) (v := ?_) (a' := ?_) #[tT,tT,tT,tT,fF,fF,fF,fF,fF,fF,fF,fF,fF,fF,fF,fF,fF,fF,fF,fF,fF,fF,fF,fF] rfl rfl (by kernel_rfl) (fun _ _ _ h => h) (Or.inl ⟨by rfl, ?_⟩) hHeld ?_ ?_
     rotate_left
     ·rintro w' s0
      go_simp
      try with_reducible rfl
     rotate_left
     ·simp only [Act.put, List.setIfInBounds_toArray, List.set_cons_zero, List.set_cons_succ, i64_w, i32_w]
      rfl
     refine pure_ (i := 4) (N := some 30) (v := .bool true) (a' := ?_) #[tT,tT,tT,tT,tT,fF,fF,fF,fF,fF,fF,fF,fF,fF,fF,fF,fF,fF,fF,fF,fF,fF,fF,fF] rfl rfl (by kernel_rfl) (fun _ _ _ h => h) (Or.inl ⟨by rfl, ?_⟩) ?_ ?_
     ·intro w'
      go_simp
      first | done | (with_reducible rfl) | (simp only [*, decide_true, decide_false, if_true, if_false]; done) | (simp [*]; done) | omega | (unfold wrap64; omega)
     rotate_left
     ·simp only [Act.put, List.setIfInBounds_toArray, List.set_cons_zero, List.set_cons_succ, i64_w, i32_w]
      rfl
     refine pure_ (i := 5) (N := some 31) (v := ?_) (a' := ?_) #[tT,tT,tT,tT,tT,tT,fF,fF,fF,fF,fF,fF,fF,fF,fF,fF,fF,fF,fF,fF,fF,fF,fF,fF] rfl rfl (by kernel_rfl) (fun _ _ _ h => h) (Or.inl ⟨by rfl, ?_⟩) ?_ ?_
     rotate_left
     ·intro w'
      go_simp
      try with_reducible rfl
     rotate_left
     ·simp only [Act.put, List.setIfInBounds_toArray, List.set_cons_zero, List.set_cons_succ, i64_w, i32_w]
      rfl
     refine pure_ (i := 6) (N := some 32) (v := undef) (a' := ?_) #[tT,tT,tT,tT,tT,tT,tT,fF,fF,fF,fF,fF,fF,fF,fF,fF,fF,fF,fF,fF,fF,fF,fF,fF] rfl rfl (by kernel_rfl) (fun _ _ _ h => h) (Or.inr ⟨by rfl, rfl⟩) ?_ ?_
     rotate_left
     ·simp only [Act.put, List.setIfInBounds_toArray, List.set_cons_zero, List.set_cons_succ, i64_w, i32_w]
      rfl
     refine pure_ (i := 7) (N := some 33) (v := undef) (a' := ?_) #[tT,tT,tT,tT,tT,tT,tT,tT,fF,fF,fF,fF,fF,fF,fF,fF,fF,fF,fF,fF,fF,fF,fF,fF] rfl rfl (by kernel_rfl) (fun _ _ _ h => h) (Or.inr ⟨by rfl, rfl⟩) ?_ ?_
     rotate_left
     ·simp only [Act.put, List.setIfInBounds_toArray, List.set_cons_zero, List.set_cons_succ, i64_w, i32_w]
      rfl
     refine pure_ (i := 8) (N := some 34) (v := undef) (a' := ?_) #[tT,tT,tT,tT,tT,tT,tT,tT,tT,fF,fF,fF,fF,fF,fF,fF,fF,fF,fF,fF,fF,fF,fF,fF] rfl rfl (by kernel_rfl) (fun _ _ _ h => h) (Or.inr ⟨by rfl, rfl⟩) ?_ ?_
     rotate_left
     ·simp only [Act.put, List.setIfInBounds_toArray, List.set_cons_zero, List.set_cons_succ, i64_w, i32_w]
      rfl
     refine pure_ (i := 9) (N := some 35) (v := undef) (a' := ?_) #[tT,tT,tT,tT,tT,tT,tT,tT,tT,tT,fF,fF,fF,fF,fF,fF,fF,fF,fF,fF,fF,fF,fF,fF] rfl rfl (by kernel_rfl) (fun _ _ _ h => h) (Or.inr ⟨by rfl, rfl⟩) ?_ ?_
     rotate_left
     ·simp only [Act.put, List.setIfInBounds_toArray, List.set_cons_zero, List.set_cons_succ, i64_w, i32_w]
      rfl
     refine pure_ (i := 10) (N := some 36) (v := undef) (a' := ?_) #[tT,tT,tT,tT,tT,tT,tT,tT,tT,tT,tT,fF,fF,fF,fF,fF,fF,fF,fF,fF,fF,fF,fF,fF] rfl rfl (by kernel_rfl) (fun _ _ _ h => h) (Or.inr ⟨by rfl, rfl⟩) ?_ ?_
     rotate_left
     ·simp only [Act.put, List.setIfInBounds_toArray, List.set_cons_zero, List.set_cons_succ, i64_w, i32_w]
      rfl
     refine pure_ (i := 11) (N := some 37) (v := undef) (a' := ?_) #[tT,tT,tT,tT,tT,tT,tT,tT,tT,tT,tT,tT,fF,fF,fF,fF,fF,fF,fF,fF,fF,fF,fF,fF] rfl rfl (by kernel_rfl) (fun _ _ _ h => h) (Or.inr ⟨by rfl, rfl⟩) ?_ ?_
     rotate_left
     ·simp only [Act.put, List.setIfInBounds_toArray, List.set_cons_zero, List.set_cons_succ, i64_w, i32_w]
      rfl
     refine pure_ (i := 12) (N := some 38) (v := undef) (a' := ?_) #[tT,tT,tT,tT,tT,tT,tT,tT,tT,tT,tT,tT,tT,fF,fF,fF,fF,fF,fF,fF,fF,fF,fF,fF] rfl rfl (by kernel_rfl) (fun _ _ _ h => h) (Or.inr ⟨by rfl, rfl⟩) ?_ ?_
     rotate_left
     ·simp only [Act.put, List.setIfInBounds_toArray, List.set_cons_zero, List.set_cons_succ, i64_w, i32_w]
      rfl
     refine pure_ (i := 13) (N := some 39) (v := .bool true) (a' := ?_) #[tT,tT,tT,tT,tT,tT,tT,tT,tT,tT,tT,tT,tT,tT,fF,fF,fF,fF,fF,fF,fF,fF,fF,fF] rfl rfl (by kernel_rfl) (fun _ _ _ h => h) (Or.inl ⟨by rfl, ?_⟩) ?_ ?_
     ·intro w'
      go_simp
      first | done | (with_reducible rfl) | (simp only [*, decide_true, decide_false, if_true, if_false]; done) | (simp [*]; done) | omega | (unfold wrap64; omega)
     rotate_left
     ·simp only [Act.put, List.setIfInBounds_toArray, List.set_cons_zero, List.set_cons_succ, i64_w, i32_w]
      rfl
     refine pure_ (i := 14) (N := some 40) (v := ?_) (a' := ?_) #[tT,tT,tT,tT,tT,tT,tT,tT,tT,tT,tT,tT,tT,tT,tT,fF,fF,fF,fF,fF,fF,fF,fF,fF] rfl rfl (by kernel_rfl) (fun _ _ _ h => h) (Or.inl ⟨by rfl, ?_⟩) ?_ ?_
     rotate_left
     ·intro w'
      go_simp
      try with_reducible rfl
     rotate_left
     ·simp only [Act.put, List.setIfInBounds_toArray, List.set_cons_zero, List.set_cons_succ, i64_w, i32_w]
      rfl
     refine pure_ (i := 15) (N := some 41) (v := undef) (a' := ?_) #[tT,tT,tT,tT,tT,tT,tT,tT,tT,tT,tT,tT,tT,tT,tT,tT,fF,fF,fF,fF,fF,fF,fF,fF] rfl rfl (by kernel_rfl) (fun _ _ _ h => h) (Or.inr ⟨by rfl, rfl⟩) ?_ ?_
     rotate_left
     ·simp only [Act.put, List.setIfInBounds_toArray, List.set_cons_zero, List.set_cons_succ, i64_w, i32_w]
      rfl
     refine pure_ (i := 16) (N := some 42) (v := undef) (a' := ?_) #[tT,tT,tT,tT,tT,tT,tT,tT,tT,tT,tT,tT,tT,tT,tT,tT,tT,fF,fF,fF,fF,fF,fF,fF] rfl rfl (by kernel_rfl) (fun _ _ _ h => h) (Or.inr ⟨by rfl, rfl⟩) ?_ ?_
     rotate_left
     ·simp only [Act.put, List.setIfInBounds_toArray, List.set_cons_zero, List.set_cons_succ, i64_w, i32_w]
      rfl
     refine pure_ (i := 17) (N := some 43) (v := undef) (a' := ?_) #[tT,tT,tT,tT,tT,tT,tT,tT,tT,tT,tT,tT,tT,tT,tT,tT,tT,tT,fF,fF,fF,fF,fF,fF] rfl rfl (by kernel_rfl) (fun _ _ _ h => h) (Or.inr ⟨by rfl, rfl⟩) ?_ ?_
     rotate_left
     ·simp only [Act.put, List.setIfInBounds_toArray, List.set_cons_zero, List.set_cons_succ, i64_w, i32_w]
      rfl
     refine pure_ (i := 18) (N := some 44) (v := undef) (a' := ?_) #[tT,tT,tT,tT,tT,tT,tT,tT,tT,tT,tT,tT,tT,tT,tT,tT,tT,tT,tT,fF,fF,fF,fF,fF] rfl rfl (by kernel_rfl) (fun _ _ _ h => h) (Or.inr ⟨by rfl, rfl⟩) ?_ ?_
     rotate_left
     ·simp only [Act.put, List.setIfInBounds_toArray, List.set_cons_zero, List.set_cons_succ, i64_w, i32_w]
      rfl
     refine pure_ (i := 19) (N := some 45) (v := undef) (a' := ?_) #[tT,tT,tT,tT,tT,tT,tT,tT,tT,tT,tT,tT,tT,tT,tT,tT,tT,tT,tT,tT,fF,fF,fF,fF] rfl rfl (by kernel_rfl) (fun _ _ _ h => h) (Or.inr ⟨by rfl, rfl⟩) ?_ ?_
     rotate_left
     ·simp only [Act.put, List.setIfInBounds_toArray, List.set_cons_zero, List.set_cons_succ, i64_w, i32_w]
      rfl
     refine pure_ (i := 20) (N := some 46) (v := undef) (a' := ?_) #[tT,tT,tT,tT,tT,tT,tT,tT,tT,tT,tT,tT,tT,tT,tT,tT,tT,tT,tT,tT,tT,fF,fF,fF] rfl rfl (by kernel_rfl) (fun _ _ _ h => h) (Or.inr ⟨by rfl, rfl⟩) ?_ ?_
     rotate_left
     ·simp only [Act.put, List.setIfInBounds_toArray, List.set_cons_zero, List.set_cons_succ, i64_w, i32_w]
      rfl
     refine pure_ (i := 21) (N := some 47) (v := undef) (a' := ?_) #[tT,tT,tT,tT,tT,tT,tT,tT,tT,tT,tT,tT,tT,tT,tT,tT,tT,tT,tT,tT,tT,tT,fF,fF] rfl rfl (by kernel_rfl) (fun _ _ _ h => h) (Or.inr ⟨by rfl, rfl⟩) ?_ ?_
     rotate_left
     ·simp only [Act.put, List.setIfInBounds_toArray, List.set_cons_zero, List.set_cons_succ, i64_w, i32_w]
      rfl
     refine pure_ (i := 22) (N := some 48) (v := undef) (a' := ?_) #[tT,tT,tT,tT,tT,tT,tT,tT,tT,tT,tT,tT,tT,tT,tT,tT,tT,tT,tT,tT,tT,tT,tT,fF] rfl rfl (by kernel_rfl) (fun _ _ _ h => h) (Or.inr ⟨by rfl, rfl⟩) ?_ ?_
     rotate_left
     ·simp only [Act.put, List.setIfInBounds_toArray, List.set_cons_zero, List.set_cons_succ, i64_w, i32_w]
      rfl
     refine pure_ (i := 23) (N := some 49) (v := .bool true) (a' := ?_) #[tT,tT,tT,tT,tT,tT,tT,tT,tT,tT,tT,tT,tT,tT,tT,tT,tT,tT,tT,tT,tT,tT,tT,tT] rfl rfl (by kernel_rfl) (fun _ _ _ h => h) (Or.inl ⟨by rfl, ?_⟩) ?_ ?_
     ·intro w'
      go_simp
      first | done | (with_reducible rfl) | (simp only [*, decide_true, decide_false, if_true, if_false]; done) | (simp [*]; done) | omega | (unfold wrap64; omega)
     rotate_left
     ·simp only [Act.put, List.setIfInBounds_toArray, List.set_cons_zero, List.set_cons_succ, i64_w, i32_w]
      rfl
     refine done_ (by kernel_rfl) ?_
     go_wp2_with fail
     go_ret
     exact ⟨by rw [hf'.out]; rfl, hB2.out⟩
    by_cases hbig : (no : Int) ≤ a
    ·have hf := hnoo.out (by rw [ht.out, decide_eq_false (show ¬ a < (no : Int) by omega)]; simp)
     have hf' := Aside0.mk hf
     clear hf ht hnoo
     go_wp2_with fail
     refine zCA (n := 24) (S := fun w' => w'.cell? (oa.add i) = some (.int .i64 a)) (ds := []) #[fF,fF,fF,fF,fF,fF,fF,fF,fF,fF,fF,fF,fF,fF,fF,fF,fF,fF,fF,fF,fF,fF,fF,fF] hmix rfl rfl ho (fun hHeld => ?_)
     have hB2 := Aside0.mk (show Below w.heap.size w wr.drew from zAL hB'.out (zAA (Below.refl _ _) 1))
     clear hB' Bw hCo hOk ho
     generalize wr.drew = W1 at hB2 hHeld ⊢
     refine pure_ (i := 0) (N := some 26) (v := ?_) (a' := ?_) #[tT,fF,fF,fF,fF,fF,fF,fF,fF,fF,fF,fF,fF,fF,fF,fF,fF,fF,fF,fF,fF,fF,fF,fF] rfl rfl (by kernel_rfl) (fun _ _ _ h => h) (Or.inl ⟨by rfl, ?_⟩) ?_ ?_
     rotate_left
     ·intro w'
      go_simp
      try with_reducible rfl
     rotate_left
     ·simp only [Act.put, List.setIfInBounds_toArray, List.set_cons_zero, List.set_cons_succ, i64_w, i32_w]
      rfl
     refine pure_ (i := 1) (N := some 27) (v := ?_) (a' := ?_) #[tT,tT,fF,fF,fF,fF,fF,fF,fF,fF,fF,fF,fF,fF,fF,fF,fF,fF,fF,fF,fF,fF,fF,fF] rfl rfl (by kernel_rfl) (fun _ _ _ h => h) (Or.inl ⟨by rfl, ?_⟩) ?_ ?_
     rotate_left
     ·intro w'
      go_simp
      try with_reducible rfl
     rotate_left
     ·simp only [Act.put, List.setIfInBounds_toArray, List.set_cons_zero, List.set_cons_succ, i64_w, i32_w]
      rfl
     refine pure_ (i := 2) (N := some 28) (v := ?_) (a' := ?_) #[tT,tT,tT,fF,fF,fF,fF,fF,fF,fF,fF,fF,fF,fF,fF,fF,fF,fF,fF,fF,fF,fF,fF,fF] rfl rfl (by kernel_rfl) (fun _ _ _ h => h) (Or.inl ⟨by rfl, ?_⟩) ?_ ?_
     rotate_left
     ·intro w'
      go_simp
      try with_reducible rfl
     rotate_left
     ·simp only [Act.put, List.setIfInBounds_toArray, List.set_cons_zero, List.set_cons_succ, i64_w, i32_w]
      rfl
     refine take_ (i := 3) (N := some 29) (v := ?_) (a' := ?_) #[tT,tT,tT,tT,fF,fF,fF,fF,fF,fF,fF,fF,fF,fF,fF,fF,fF,fF,fF,fF,fF,fF,fF,fF] rfl rfl (by kernel_rfl) (fun _ _ _ h => h) (Or.inl ⟨by rfl, ?_⟩) hHeld ?_ ?_
     rotate_left
     ·rintro w' s0
      go_simp
      try with_reducible rfl
     rotate_left
     ·simp only [Act.put, List.setIfInBounds_toArray, List.set_cons_zero, List.set_cons_succ, i64_w, i32_w]
      rfl
     refine pure_ (i := 4) (N := some 30) (v := .bool false) (a' := ?_) #[tT,tT,tT,tT,tT,fF,fF,fF,fF,fF,fF,fF,fF,fF,fF,fF,fF,fF,fF,fF,fF,fF,fF,fF] rfl rfl (by kernel_rfl) (fun _ _ _ h => h) (Or.inl ⟨by rfl, ?_⟩) ?_ ?_
     ·intro w'
      go_simp
      first | done | (with_reducible rfl) | (simp only [*, decide_true, decide_false, if_true, if_false]; done) | (simp [*]; done) | omega | (unfold wrap64; omega)
     rotate_left
     ·simp only [Act.put, List.setIfInBounds_toArray, List.set_cons_zero, List.set_cons_succ, i64_w, i32_w]
      rfl
     refine pure_ (i := 5) (N := some 31) (v := ?_) (a' := ?_) #[tT,tT,tT,tT,tT,tT,fF,fF,fF,fF,fF,fF,fF,fF,fF,fF,fF,fF,fF,fF,fF,fF,fF,fF] rfl rfl (by kernel_rfl) (fun _ _ _ h => h) (Or.inl ⟨by rfl, ?_⟩) ?_ ?_
     rotate_left
     ·intro w'
      go_simp
      try with_reducible rfl
     rotate_left
     ·simp only [Act.put, List.setIfInBounds_toArray, List.set_cons_zero, List.set_cons_succ, i64_w, i32_w]
      rfl
     refine pure_ (i := 6) (N := some 32) (v := ?_) (a' := ?_) #[tT,tT,tT,tT,tT,tT,tT,fF,fF,fF,fF,fF,fF,fF,fF,fF,fF,fF,fF,fF,fF,fF,fF,fF] rfl rfl (by kernel_rfl) (fun _ _ _ h => h) (Or.inl ⟨by rfl, ?_⟩) ?_ ?_
     rotate_left
     ·intro w'
      go_simp
      try with_reducible rfl
     rotate_left
     ·simp only [Act.put, List.setIfInBounds_toArray, List.set_cons_zero, List.set_cons_succ, i64_w, i32_w]
      rfl
     refine pure_ (i := 7) (N := some 33) (v := ?_) (a' := ?_) #[tT,tT,tT,tT,tT,tT,tT,tT,fF,fF,fF,fF,fF,fF,fF,fF,fF,fF,fF,fF,fF,fF,fF,fF] rfl rfl (by kernel_rfl) (fun _ _ _ h => h) (Or.inl ⟨by rfl, ?_⟩) ?_ ?_
     rotate_left
     ·intro w'
      go_simp
      try with_reducible rfl
     rotate_left
     ·simp only [Act.put, List.setIfInBounds_toArray, List.set_cons_zero, List.set_cons_succ, i64_w, i32_w]
      rfl
     refine pure_ (i := 8) (N := some 34) (v := ?_) (a' := ?_) #[tT,tT,tT,tT,tT,tT,tT,tT,tT,fF,fF,fF,fF,fF,fF,fF,fF,fF,fF,fF,fF,fF,fF,fF] rfl rfl (by kernel_rfl) (fun _ _ _ h => h) (Or.inl ⟨by rfl, ?_⟩) ?_ ?_
     rotate_left
     ·intro w'
      go_simp
      try with_reducible rfl
     rotate_left
     ·simp only [Act.put, List.setIfInBounds_toArray, List.set_cons_zero, List.set_cons_succ, i64_w, i32_w]
      rfl
     refine take_ (i := 9) (N := some 35) (v := ?_) (a' := ?_) #[tT,tT,tT,tT,tT,tT,tT,tT,tT,tT,fF,fF,fF,fF,fF,fF,fF,fF,fF,fF,fF,fF,fF,fF] rfl rfl (by kernel_rfl) (fun _ _ _ h => h) (Or.inl ⟨by rfl, ?_⟩) hHeld ?_ ?_
     rotate_left
     ·rintro w' s0
      go_simp
      try with_reducible rfl
     rotate_left
     ·simp only [Act.put, List.setIfInBounds_toArray, List.set_cons_zero, List.set_cons_succ, i64_w, i32_w]
      rfl
     refine pure_ (i := 10) (N := some 36) (v := ?_) (a' := ?_) #[tT,tT,tT,tT,tT,tT,tT,tT,tT,tT,tT,fF,fF,fF,fF,fF,fF,fF,fF,fF,fF,fF,fF,fF] rfl rfl (by kernel_rfl) (fun _ _ _ h => h) (Or.inl ⟨by rfl, ?_⟩) ?_ ?_
     rotate_left
     ·intro w'
      go_simp
      try with_reducible rfl
     rotate_left
     ·simp only [Act.put, List.setIfInBounds_toArray, List.set_cons_zero, List.set_cons_succ, i64_w, i32_w]
      rfl
     refine pure_ (i := 11) (N := some 37) (v := ?_) (a' := ?_) #[tT,tT,tT,tT,tT,tT,tT,tT,tT,tT,tT,tT,fF,fF,fF,fF,fF,fF,fF,fF,fF,fF,fF,fF] rfl rfl (by kernel_rfl) (fun _ _ _ h => h) (Or.inl ⟨by rfl, ?_⟩) ?_ ?_
     rotate_left
     ·intro w'
      go_simp
      try with_reducible rfl
     rotate_left
     ·simp only [Act.put, List.setIfInBounds_toArray, List.set_cons_zero, List.set_cons_succ, i64_w, i32_w]
      rfl
     refine pure_ (i := 12) (N := some 38) (v := .bool true) (a' := ?_) #[tT,tT,tT,tT,tT,tT,tT,tT,tT,tT,tT,tT,tT,fF,fF,fF,fF,fF,fF,fF,fF,fF,fF,fF] rfl rfl (by kernel_rfl) (fun _ _ _ h => h) (Or.inl ⟨by rfl, ?_⟩) ?_ ?_
     ·intro w'
      go_simp
      first | done | (with_reducible rfl) | (simp only [*, decide_true, decide_false, if_true, if_false]; done) | (simp [*]; done) | omega | (unfold wrap64; omega)
     rotate_left
     ·simp only [Act.put, List.setIfInBounds_toArray, List.set_cons_zero, List.set_cons_succ, i64_w, i32_w]
      rfl
     refine pure_ (i := 13) (N := some 39) (v := .bool true) (a' := ?_) #[tT,tT,tT,tT,tT,tT,tT,tT,tT,tT,tT,tT,tT,tT,fF,fF,fF,fF,fF,fF,fF,fF,fF,fF] rfl rfl (by kernel_rfl) (fun _ _ _ h => h) (Or.inl ⟨by rfl, ?_⟩) ?_ ?_
     ·intro w'
      go_simp
      first | done | (with_reducible rfl) | (simp only [*, decide_true, decide_false, if_true, if_false]; done) | (simp [*]; done) | omega | (unfold wrap64; omega)
     rotate_left
     ·simp only [Act.put, List.setIfInBounds_toArray, List.set_cons_zero, List.set_cons_succ, i64_w, i32_w]
      rfl
     refine pure_ (i := 14) (N := some 40) (v := ?_) (a' := ?_) #[tT,tT,tT,tT,tT,tT,tT,tT,tT,tT,tT,tT,tT,tT,tT,fF,fF,fF,fF,fF,fF,fF,fF,fF] rfl rfl (by kernel_rfl) (fun _ _ _ h => h) (Or.inl ⟨by rfl, ?_⟩) ?_ ?_
     rotate_left
     ·intro w'
      go_simp
      try with_reducible rfl
     rotate_left
     ·simp only [Act.put, List.setIfInBounds_toArray, List.set_cons_zero, List.set_cons_succ, i64_w, i32_w]
      rfl
     refine pure_ (i := 15) (N := some 41) (v := undef) (a' := ?_) #[tT,tT,tT,tT,tT,tT,tT,tT,tT,tT,tT,tT,tT,tT,tT,tT,fF,fF,fF,fF,fF,fF,fF,fF] rfl rfl (by kernel_rfl) (fun _ _ _ h => h) (Or.inr ⟨by rfl, rfl⟩) ?_ ?_
     rotate_left
     ·simp only [Act.put, List.setIfInBounds_toArray, List.set_cons_zero, List.set_cons_succ, i64_w, i32_w]
      rfl
     refine pure_ (i := 16) (N := some 42) (v := undef) (a' := ?_) #[tT,tT,tT,tT,tT,tT,tT,tT,tT,tT,tT,tT,tT,tT,tT,tT,tT,fF,fF,fF,fF,fF,fF,fF] rfl rfl (by kernel_rfl) (fun _ _ _ h => h) (Or.inr ⟨by rfl, rfl⟩) ?_ ?_
     rotate_left
     ·simp only [Act.put, List.setIfInBounds_toArray, List.set_cons_zero, List.set_cons_succ, i64_w, i32_w]
      rfl
     refine pure_ (i := 17) (N := some 43) (v := undef) (a' := ?_) #[tT,tT,tT,tT,tT,tT,tT,tT,tT,tT,tT,tT,tT,tT,tT,tT,tT,tT,fF,fF,fF,fF,fF,fF] rfl rfl (by kernel_rfl) (fun _ _ _ h => h) (Or.inr ⟨by rfl, rfl⟩) ?_ ?_
     rotate_left
     ·simp only [Act.put, List.setIfInBounds_toArray, List.set_cons_zero, List.set_cons_succ, i64_w, i32_w]
      rfl
     refine pure_ (i := 18) (N := some 44) (v := undef) (a' := ?_) #[tT,tT,tT,tT,tT,tT,tT,tT,tT,tT,tT,tT,tT,tT,tT,tT,tT,tT,tT,fF,fF,fF,fF,fF] rfl rfl (by kernel_rfl) (fun _ _ _ h => h) (Or.inr ⟨by rfl, rfl⟩) ?_ ?_
     rotate_left
     ·simp only [Act.put, List.setIfInBounds_toArray, List.set_cons_zero, List.set_cons_succ, i64_w, i32_w]
      rfl
     refine pure_ (i := 19) (N := some 45) (v := undef) (a' := ?_) #[tT,tT,tT,tT,tT,tT,tT,tT,tT,tT,tT,tT,tT,tT,tT,tT,tT,tT,tT,tT,fF,fF,fF,fF] rfl rfl (by kernel_rfl) (fun _ _ _ h => h) (Or.inr ⟨by rfl, rfl⟩) ?_ ?_
     rotate_left
     ·simp only [Act.put, List.setIfInBounds_toArray, List.set_cons_zero, List.set_cons_succ, i64_w, i32_w]
      rfl
     refine pure_ (i := 20) (N := some 46) (v := undef) (a' := ?_) #[tT,tT,tT,tT,tT,tT,tT,tT,tT,tT,tT,tT,tT,tT,tT,tT,tT,tT,tT,tT,tT,fF,fF,fF] rfl rfl (by kernel_rfl) (fun _ _ _ h => h) (Or.inr ⟨by rfl, rfl⟩) ?_ ?_
     rotate_left
     ·simp only [Act.put, List.setIfInBounds_toArray, List.set_cons_zero, List.set_cons_succ, i64_w, i32_w]
      rfl
     refine pure_ (i := 21) (N := some 47) (v := undef) (a' := ?_) #[tT,tT,tT,tT,tT,tT,tT,tT,tT,tT,tT,tT,tT,tT,tT,tT,tT,tT,tT,tT,tT,tT,fF,fF] rfl rfl (by kernel_rfl) (fun _ _ _ h => h) (Or.inr ⟨by rfl, rfl⟩) ?_ ?_
     rotate_left
     ·simp only [Act.put, List.setIfInBounds_toArray, List.set_cons_zero, List.set_cons_succ, i64_w, i32_w]
      rfl
     refine pure_ (i := 22) (N := some 48) (v := undef) (a' := ?_) #[tT,tT,tT,tT,tT,tT,tT,tT,tT,tT,tT,tT,tT,tT,tT,tT,tT,tT,tT,tT,tT,tT,tT,fF] rfl rfl (by kernel_rfl) (fun _ _ _ h => h) (Or.inr ⟨by rfl, rfl⟩) ?_ ?_
     rotate_left
     ·simp only [Act.put, List.setIfInBounds_toArray, List.set_cons_zero, List.set_cons_succ, i64_w, i32_w]
      rfl
     refine pure_ (i := 23) (N := some 49) (v := .bool true) (a' := ?_) #[tT,tT,tT,tT,tT,tT,tT,tT,tT,tT,tT,tT,tT,tT,tT,tT,tT,tT,tT,tT,tT,tT,tT,tT] rfl rfl (by kernel_rfl) (fun _ _ _ h => h) (Or.inl ⟨by rfl, ?_⟩) ?_ ?_
     ·intro w'
      go_simp
      first | done | (with_reducible rfl) | (simp only [*, decide_true, decide_false, if_true, if_false]; done) | (simp [*]; done) | omega | (unfold wrap64; omega)
     rotate_left
     ·simp only [Act.put, List.setIfInBounds_toArray, List.set_cons_zero, List.set_cons_succ, i64_w, i32_w]
      rfl
     refine done_ (by kernel_rfl) ?_
     go_wp2_with fail
     go_ret
     exact ⟨by rw [hf'.out]; rfl, hB2.out⟩
    obtain ⟨i016, hi016, _, hsz16, _⟩ := info_parts info3
    obtain ⟨hcut, hA16, hC16⟩ := print_take_of (P := Try.prog) (Value.int .i64) 0 23 3 .i64 Try.underlying23 hi016 hsz16 (some oa) c1 o (i : Int) (by omega) (by have := hno'.out; omega) (by have := hno'.out; omega)
    have htl : (o.take i).length = i := by rw [List.length_take]; have := hno'.out; omega
    rw [Int.toNat_natCast, htl, hno'.out] at hcut
    have hTk : Aside0 (∀ W, Below w.heap.size w W → Kd.C (Kd.int .i64) W (some oa) (o.take i).length (o.take i)) := ⟨fun W hW => Kd.C_below (Kd.C_of_reads (h1 := fun _ => rfl) (hA16 _ (Kd.reads_of_C hr1'.out))) hW⟩
    have htc : (o.take i).length ≤ c1 := by omega
    clear hi016 hsz16 hA16 hC16
    have hp1 : 0 ≤ a := by omega
    have hq1 : a < (no : Int) := by omega
    obtain ⟨da, Ar, cr, rfl, hd1, hd2, hd3⟩ := at_L1 hCd'.out a hp1 hq1
    have hrl : (rd_L1 d a).length ≤ 100 := by
     have := (hrow.out a.toNat (by omega)).1
     rwa [Int.toNat_of_nonneg hp1] at this
    obtain ⟨rl, hrl'⟩ : ∃ rl, (rd_L1 d a).length = rl := ⟨_, rfl⟩
    rw [hrl'] at hd1 hd2 hd3 hrl
    have hd1' := Aside0.mk hd1
    have hd3' := Aside0.mk hd3
    have hrl2 := Aside0.mk hrl'
    have hhit := Aside0.mk (show a ∉ o.take i → (∀ b ∈ rd_L1 d a, b ∈ o.take i) → okAt d no o i = true by
     intro h1 h2
     rw [ht.out, decide_eq_true hp1, decide_eq_true hq1, decide_eq_true h1]
     simpa using h2)
    have hmis := Aside0.mk (show ∀ b ∈ rd_L1 d a, b ∉ o.take i → okAt d no o i = false by
     intro b h1 h2
     rw [ht.out]
     have : ((rd_L1 d a).all fun b => decide (b ∈ o.take i)) = false := by
      rw [List.all_eq_false]
      exact ⟨b, h1, by simpa using h2⟩
     rw [this, Bool.and_false])
    have ho' := Aside0.mk (show ∀ W, Below w.heap.size w W → W.cell? (oa.add i) = some (.int .i64 a) from fun W hW => by
     have h1 := Kd.C_below hr1'.out hW
     rw [hno'.out] at h1
     obtain ⟨oa', e, h2⟩ := Kd.at_int h1 (i : Int) (by omega) (by omega)
     cases e
     rwa [Int.toNat_natCast, ha'.out] at h2)
    clear hd1 hd3 hrl'
    by_cases hmem : a ∈ o.take i
    ·have hf := hnoo.out (by rw [ht.out, decide_eq_false (show ¬ a ∉ o.take i by simpa using hmem)]; simp)
     have hf' := Aside0.mk hf
     have hm : decide (a ∈ o.take i) = true := decide_eq_true hmem
     clear hf ht hnoo hhit hmis
     go_wp2_with fail
     refine zCA (n := 24) (S := fun w' => w'.cell? (oa.add i) = some (.int .i64 a)) (ds := []) #[fF,fF,fF,fF,fF,fF,fF,fF,fF,fF,fF,fF,fF,fF,fF,fF,fF,fF,fF,fF,fF,fF,fF,fF] hmix rfl rfl ho (fun hHeld => ?_)
     have hB2 := Aside0.mk (show Below w.heap.size w wr.drew from zAL hB'.out (zAA (Below.refl _ _) 1))
     clear hB' Bw hCo hOk ho
     generalize wr.drew = W1 at hB2 hHeld ⊢
     refine pure_ (i := 0) (N := some 26) (v := ?_) (a' := ?_) #[tT,fF,fF,fF,fF,fF,fF,fF,fF,fF,fF,fF,fF,fF,fF,fF,fF,fF,fF,fF,fF,fF,fF,fF] rfl rfl (by kernel_rfl) (fun _ _ _ h => h) (Or.inl ⟨by rfl, ?_⟩) ?_ ?_
     rotate_left
     ·intro w'
      go_simp
      try with_reducible rfl
     rotate_left
     ·simp only [Act.put, List.setIfInBounds_toArray, List.set_cons_zero, List.set_cons_succ, i64_w, i32_w]
      rfl
     refine pure_ (i := 1) (N := some 27) (v := ?_) (a' := ?_) #[tT,tT,fF,fF,fF,fF,fF,fF,fF,fF,fF,fF,fF,fF,fF,fF,fF,fF,fF,fF,fF,fF,fF,fF] rfl rfl (by kernel_rfl) (fun _ _ _ h => h) (Or.inl ⟨by rfl, ?_⟩) ?_ ?_
     rotate_left
     ·intro w'
      go_simp
      try with_reducible rfl
     rotate_left
     ·simp only [Act.put, List.setIfInBounds_toArray, List.set_cons_zero, List.set_cons_succ, i64_w, i32_w]
      rfl
     refine pure_ (i := 2) (N := some 28) (v := ?_) (a' := ?_) #[tT,tT,tT,fF,fF,fF,fF,fF,fF,fF,fF,fF,fF,fF,fF,fF,fF,fF,fF,fF,fF,fF,fF,fF] rfl rfl (by kernel_rfl) (fun _ _ _ h => h) (Or.inl ⟨by rfl, ?_⟩) ?_ ?_
     rotate_left
     ·intro w'
      go_simp
      try with_reducible rfl
     rotate_left
     ·simp only [Act.put, List.setIfInBounds_toArray, List.set_cons_zero, List.set_cons_succ, i64_w, i32_w]
      rfl
     refine take_ (i := 3) (N := some 29) (v := ?_) (a' := ?_) #[tT,tT,tT,tT,fF,fF,fF,fF,fF,fF,fF,fF,fF,fF,fF,fF,fF,fF,fF,fF,fF,fF,fF,fF] rfl rfl (by kernel_rfl) (fun _ _ _ h => h) (Or.inl ⟨by rfl, ?_⟩) hHeld ?_ ?_
     rotate_left
     ·rintro w' s0
      go_simp
      try with_reducible rfl
     rotate_left
     ·simp only [Act.put, List.setIfInBounds_toArray, List.set_cons_zero, List.set_cons_succ, i64_w, i32_w]
      rfl
     refine pure_ (i := 4) (N := some 30) (v := .bool false) (a' := ?_) #[tT,tT,tT,tT,tT,fF,fF,fF,fF,fF,fF,fF,fF,fF,fF,fF,fF,fF,fF,fF,fF,fF,fF,fF] rfl rfl (by kernel_rfl) (fun _ _ _ h => h) (Or.inl ⟨by rfl, ?_⟩) ?_ ?_
     ·intro w'
      go_simp
      first | done | (with_reducible rfl) | (simp only [*, decide_true, decide_false, if_true, if_false]; done) | (simp [*]; done) | omega | (unfold wrap64; omega)
     rotate_left
     ·simp only [Act.put, List.setIfInBounds_toArray, List.set_cons_zero, List.set_cons_succ, i64_w, i32_w]
      rfl
     refine pure_ (i := 5) (N := some 31) (v := ?_) (a' := ?_) #[tT,tT,tT,tT,tT,tT,fF,fF,fF,fF,fF,fF,fF,fF,fF,fF,fF,fF,fF,fF,fF,fF,fF,fF] rfl rfl (by kernel_rfl) (fun _ _ _ h => h) (Or.inl ⟨by rfl, ?_⟩) ?_ ?_
     rotate_left
     ·intro w'
      go_simp
      try with_reducible rfl
     rotate_left
     ·simp only [Act.put, List.setIfInBounds_toArray, List.set_cons_zero, List.set_cons_succ, i64_w, i32_w]
      rfl
     refine pure_ (i := 6) (N := some 32) (v := ?_) (a' := ?_) #[tT,tT,tT,tT,tT,tT,tT,fF,fF,fF,fF,fF,fF,fF,fF,fF,fF,fF,fF,fF,fF,fF,fF,fF] rfl rfl (by kernel_rfl) (fun _ _ _ h => h) (Or.inl ⟨by rfl, ?_⟩) ?_ ?_
     rotate_left
     ·intro w'
      go_simp
      try with_reducible rfl
     rotate_left
     ·simp only [Act.put, List.setIfInBounds_toArray, List.set_cons_zero, List.set_cons_succ, i64_w, i32_w]
      rfl
     refine pure_ (i := 7) (N := some 33) (v := ?_) (a' := ?_) #[tT,tT,tT,tT,tT,tT,tT,tT,fF,fF,fF,fF,fF,fF,fF,fF,fF,fF,fF,fF,fF,fF,fF,fF] rfl rfl (by kernel_rfl) (fun _ _ _ h => h) (Or.inl ⟨by rfl, ?_⟩) ?_ ?_
     rotate_left
     ·intro w'
      go_simp
      try with_reducible rfl
     rotate_left
     ·simp only [Act.put, List.setIfInBounds_toArray, List.set_cons_zero, List.set_cons_succ, i64_w, i32_w]
      rfl
     refine pure_ (i := 8) (N := some 34) (v := ?_) (a' := ?_) #[tT,tT,tT,tT,tT,tT,tT,tT,tT,fF,fF,fF,fF,fF,fF,fF,fF,fF,fF,fF,fF,fF,fF,fF] rfl rfl (by kernel_rfl) (fun _ _ _ h => h) (Or.inl ⟨by rfl, ?_⟩) ?_ ?_
     rotate_left
     ·intro w'
      go_simp
      try with_reducible rfl
     rotate_left
     ·simp only [Act.put, List.setIfInBounds_toArray, List.set_cons_zero, List.set_cons_succ, i64_w, i32_w]
      rfl
     refine take_ (i := 9) (N := some 35) (v := ?_) (a' := ?_) #[tT,tT,tT,tT,tT,tT,tT,tT,tT,tT,fF,fF,fF,fF,fF,fF,fF,fF,fF,fF,fF,fF,fF,fF] rfl rfl (by kernel_rfl) (fun _ _ _ h => h) (Or.inl ⟨by rfl, ?_⟩) hHeld ?_ ?_
     rotate_left
     ·rintro w' s0
      go_simp
      try with_reducible rfl
     rotate_left
     ·simp only [Act.put, List.setIfInBounds_toArray, List.set_cons_zero, List.set_cons_succ, i64_w, i32_w]
      rfl
     refine pure_ (i := 10) (N := some 36) (v := ?_) (a' := ?_) #[tT,tT,tT,tT,tT,tT,tT,tT,tT,tT,tT,fF,fF,fF,fF,fF,fF,fF,fF,fF,fF,fF,fF,fF] rfl rfl (by kernel_rfl) (fun _ _ _ h => h) (Or.inl ⟨by rfl, ?_⟩) ?_ ?_
     rotate_left
     ·intro w'
      go_simp
      try with_reducible rfl
     rotate_left
     ·simp only [Act.put, List.setIfInBounds_toArray, List.set_cons_zero, List.set_cons_succ, i64_w, i32_w]
      rfl
     refine pure_ (i := 11) (N := some 37) (v := ?_) (a' := ?_) #[tT,tT,tT,tT,tT,tT,tT,tT,tT,tT,tT,tT,fF,fF,fF,fF,fF,fF,fF,fF,fF,fF,fF,fF] rfl rfl (by kernel_rfl) (fun _ _ _ h => h) (Or.inl ⟨by rfl, ?_⟩) ?_ ?_
     rotate_left
     ·intro w'
      go_simp
      try with_reducible rfl
     rotate_left
     ·simp only [Act.put, List.setIfInBounds_toArray, List.set_cons_zero, List.set_cons_succ, i64_w, i32_w]
      rfl
     refine pure_ (i := 12) (N := some 38) (v := .bool false) (a' := ?_) #[tT,tT,tT,tT,tT,tT,tT,tT,tT,tT,tT,tT,tT,fF,fF,fF,fF,fF,fF,fF,fF,fF,fF,fF] rfl rfl (by kernel_rfl) (fun _ _ _ h => h) (Or.inl ⟨by rfl, ?_⟩) ?_ ?_
     ·intro w'
      go_simp
      first | done | (with_reducible rfl) | (simp only [*, decide_true, decide_false, if_true, if_false]; done) | (simp [*]; done) | omega | (unfold wrap64; omega)
     rotate_left
     ·simp only [Act.put, List.setIfInBounds_toArray, List.set_cons_zero, List.set_cons_succ, i64_w, i32_w]
      rfl
     refine pure_ (i := 13) (N := some 39) (v := .bool false) (a' := ?_) #[tT,tT,tT,tT,tT,tT,tT,tT,tT,tT,tT,tT,tT,tT,fF,fF,fF,fF,fF,fF,fF,fF,fF,fF] rfl rfl (by kernel_rfl) (fun _ _ _ h => h) (Or.inl ⟨by rfl, ?_⟩) ?_ ?_
     ·intro w'
      go_simp
      first | done | (with_reducible rfl) | (simp only [*, decide_true, decide_false, if_true, if_false]; done) | (simp [*]; done) | omega | (unfold wrap64; omega)
     rotate_left
     ·simp only [Act.put, List.setIfInBounds_toArray, List.set_cons_zero, List.set_cons_succ, i64_w, i32_w]
      rfl
     refine pure_ (i := 14) (N := some 40) (v := ?_) (a' := ?_) #[tT,tT,tT,tT,tT,tT,tT,tT,tT,tT,tT,tT,tT,tT,tT,fF,fF,fF,fF,fF,fF,fF,fF,fF] rfl rfl (by kernel_rfl) (fun _ _ _ h => h) (Or.inl ⟨by rfl, ?_⟩) ?_ ?_
     rotate_left
     ·intro w'
      go_simp
      try with_reducible rfl
     rotate_left
     ·simp only [Act.put, List.setIfInBounds_toArray, List.set_cons_zero, List.set_cons_succ, i64_w, i32_w]
      rfl
     refine pure_ (i := 15) (N := some 41) (v := ?_) (a' := ?_) #[tT,tT,tT,tT,tT,tT,tT,tT,tT,tT,tT,tT,tT,tT,tT,tT,fF,fF,fF,fF,fF,fF,fF,fF] rfl rfl (by kernel_rfl) (fun _ _ _ h => h) (Or.inl ⟨by rfl, ?_⟩) ?_ ?_
     rotate_left
     ·intro w'
      go_simp
      try with_reducible rfl
     rotate_left
     ·simp only [Act.put, List.setIfInBounds_toArray, List.set_cons_zero, List.set_cons_succ, i64_w, i32_w]
      rfl
     refine pure_ (i := 16) (N := some 42) (v := ?_) (a' := ?_) #[tT,tT,tT,tT,tT,tT,tT,tT,tT,tT,tT,tT,tT,tT,tT,tT,tT,fF,fF,fF,fF,fF,fF,fF] rfl rfl (by kernel_rfl) (fun _ _ _ h => h) (Or.inl ⟨by rfl, ?_⟩) ?_ ?_
     rotate_left
     ·intro w'
      go_simp
      try with_reducible rfl
     rotate_left
     ·simp only [Act.put, List.setIfInBounds_toArray, List.set_cons_zero, List.set_cons_succ, i64_w, i32_w]
      rfl
     refine pure_ (i := 17) (N := some 43) (v := .slice (some oa) i c1) (a' := ?_) #[tT,tT,tT,tT,tT,tT,tT,tT,tT,tT,tT,tT,tT,tT,tT,tT,tT,tT,fF,fF,fF,fF,fF,fF] rfl rfl (by kernel_rfl) (fun _ _ _ h => h) (Or.inl ⟨by rfl, ?_⟩) ?_ ?_
     ·intro w'
      go_simp
      first | done | (with_reducible rfl) | (simp only [*, decide_true, decide_false, if_true, if_false]; done) | (simp [*]; done) | omega | (unfold wrap64; omega)
     rotate_left
     ·simp only [Act.put, List.setIfInBounds_toArray, List.set_cons_zero, List.set_cons_succ, i64_w, i32_w]
      rfl
     refine pure_ (i := 18) (N := some 44) (v := ?_) (a' := ?_) #[tT,tT,tT,tT,tT,tT,tT,tT,tT,tT,tT,tT,tT,tT,tT,tT,tT,tT,tT,fF,fF,fF,fF,fF] rfl rfl (by kernel_rfl) (fun _ _ _ h => h) (Or.inl ⟨by rfl, ?_⟩) ?_ ?_
     rotate_left
     ·intro w'
      go_simp
      try with_reducible rfl
     rotate_left
     ·simp only [Act.put, List.setIfInBounds_toArray, List.set_cons_zero, List.set_cons_succ, i64_w, i32_w]
      rfl
     refine pure_ (i := 19) (N := some 45) (v := ?_) (a' := ?_) #[tT,tT,tT,tT,tT,tT,tT,tT,tT,tT,tT,tT,tT,tT,tT,tT,tT,tT,tT,tT,fF,fF,fF,fF] rfl rfl (by kernel_rfl) (fun _ _ _ h => h) (Or.inl ⟨by rfl, ?_⟩) ?_ ?_
     rotate_left
     ·intro w'
      go_simp
      try with_reducible rfl
     rotate_left
     ·simp only [Act.put, List.setIfInBounds_toArray, List.set_cons_zero, List.set_cons_succ, i64_w, i32_w]
      rfl
     refine pure_ (i := 20) (N := some 46) (v := ?_) (a' := ?_) #[tT,tT,tT,tT,tT,tT,tT,tT,tT,tT,tT,tT,tT,tT,tT,tT,tT,tT,tT,tT,tT,fF,fF,fF] rfl rfl (by kernel_rfl) (fun _ _ _ h => h) (Or.inl ⟨by rfl, ?_⟩) ?_ ?_
     rotate_left
     ·intro w'
      go_simp
      try with_reducible rfl
     rotate_left
     ·simp only [Act.put, List.setIfInBounds_toArray, List.set_cons_zero, List.set_cons_succ, i64_w, i32_w]
      rfl
     refine take_ (i := 21) (N := some 47) (v := ?_) (a' := ?_) #[tT,tT,tT,tT,tT,tT,tT,tT,tT,tT,tT,tT,tT,tT,tT,tT,tT,tT,tT,tT,tT,tT,fF,fF] rfl rfl (by kernel_rfl) (fun _ _ _ h => h) (Or.inl ⟨by rfl, ?_⟩) hHeld ?_ ?_
     rotate_left
     ·rintro w' s0
      go_simp
      try with_reducible rfl
     rotate_left
     ·simp only [Act.put, List.setIfInBounds_toArray, List.set_cons_zero, List.set_cons_succ, i64_w, i32_w]
      rfl
     refine one_ (i := 22) (N := some 48) #[tT,tT,tT,tT,tT,tT,tT,tT,tT,tT,tT,tT,tT,tT,tT,tT,tT,tT,tT,tT,tT,tT,tT,fF] rfl rfl (by kernel_rfl) (by decide) (fun K hK => ?_)
     refine call_ 35 _ (by rfl) rfl (by go_simp; rfl) ?_
     refine (hin.out (some oa) c1 (o.take i) i a _ htl.symm (by omega) (hTk.out _ hB2.out) htc).mono ?_
     rintro e w9 ⟨rfl, hd9⟩
     rw [hm]
     refine ⟨_, rfl, ?_⟩
     have hB9 := Aside0.mk (zAL hB2.out (zBC hd9 _))
     refine hK.out _ _ (zAK (zBC hd9 _) hHeld) (fun hHeld => ?_)
     clear hd9
     clear hK K
     refine norm_ (a' := ?_) ?_ ?_
     rotate_left
     ·show Act.put _ (some 48) _ = _
      simp only [Act.put, List.setIfInBounds_toArray, List.set_cons_zero, List.set_cons_succ, i64_w, i32_w]
      rfl
     refine pure_ (i := 23) (N := some 49) (v := .bool true) (a' := ?_) #[tT,tT,tT,tT,tT,tT,tT,tT,tT,tT,tT,tT,tT,tT,tT,tT,tT,tT,tT,tT,tT,tT,tT,tT] rfl rfl (by kernel_rfl) (fun _ _ _ h => h) (Or.inl ⟨by rfl, ?_⟩) ?_ ?_
     ·intro w'
      go_simp
      first | done | (with_reducible rfl) | (simp only [*, decide_true, decide_false, if_true, if_false]; done) | (simp [*]; done) | omega | (unfold wrap64; omega)
     rotate_left
     ·simp only [Act.put, List.setIfInBounds_toArray, List.set_cons_zero, List.set_cons_succ, i64_w, i32_w]
      rfl
     refine done_ (by kernel_rfl) ?_
     go_wp2_with fail
     go_ret
     exact ⟨by rw [hf'.out]; rfl, hB9.out⟩
    have hm : decide (a ∈ o.take i) = false := decide_eq_false hmem
    have hhit' := Aside0.mk (hhit.out hmem)
    have hOk' := Aside0.mk hOk.out
    clear ht hhit
    go_wp2_with fail
    refine zCA (n := 24) (S := fun w' => w'.cell? (oa.add i) = some (.int .i64 a)) (ds := []) #[fF,fF,fF,fF,fF,fF,fF,fF,fF,fF,fF,fF,fF,fF,fF,fF,fF,fF,fF,fF,fF,fF,fF,fF] hmix rfl rfl ho (fun hHeld => ?_)
    have hB2 := Aside0.mk (show Below w.heap.size w wr.drew from zAL hB'.out (zAA (Below.refl _ _) 1))
    have Bw2 := Aside0.mk (show Below w1.heap.size w1 wr.drew from zAL Bw.out (zAA (Below.refl _ _) 1))
    clear hB' Bw hCo hOk ho
    generalize wr.drew = W1 at hB2 Bw2 hHeld ⊢
    refine pure_ (i := 0) (N := some 26) (v := ?_) (a' := ?_) #[tT,fF,fF,fF,fF,fF,fF,fF,fF,fF,fF,fF,fF,fF,fF,fF,fF,fF,fF,fF,fF,fF,fF,fF] rfl rfl (by kernel_rfl) (fun _ _ _ h => h) (Or.inl ⟨by rfl, ?_⟩) ?_ ?_
    rotate_left
    ·intro w'
     go_simp
     try with_reducible rfl
    rotate_left
    ·simp only [Act.put, List.setIfInBounds_toArray, List.set_cons_zero, List.set_cons_succ, i64_w, i32_w]
     rfl
    refine pure_ (i := 1) (N := some 27) (v := ?_) (a' := ?_) #[tT,tT,fF,fF,fF,fF,fF,fF,fF,fF,fF,fF,fF,fF,fF,fF,fF,fF,fF,fF,fF,fF,fF,fF] rfl rfl (by kernel_rfl) (fun _ _ _ h => h) (Or.inl ⟨by rfl, ?_⟩) ?_ ?_
    rotate_left
    ·intro w'
     go_simp
     try with_reducible rfl
    rotate_left
    ·simp only [Act.put, List.setIfInBounds_toArray, List.set_cons_zero, List.set_cons_succ, i64_w, i32_w]
     rfl
    refine pure_ (i := 2) (N := some 28) (v := ?_) (a' := ?_) #[tT,tT,tT,fF,fF,fF,fF,fF,fF,fF,fF,fF,fF,fF,fF,fF,fF,fF,fF,fF,fF,fF,fF,fF] rfl rfl (by kernel_rfl) (fun _ _ _ h => h) (Or.inl ⟨by rfl, ?_⟩) ?_ ?_
    rotate_left
    ·intro w'
     go_simp
     try with_reducible rfl
    rotate_left
    ·simp only [Act.put, List.setIfInBounds_toArray, List.set_cons_zero, List.set_cons_succ, i64_w, i32_w]
     rfl
    refine take_ (i := 3) (N := some 29) (v := ?_) (a' := ?_) #[tT,tT,tT,tT,fF,fF,fF,fF,fF,fF,fF,fF,fF,fF,fF,fF,fF,fF,fF,fF,fF,fF,fF,fF] rfl rfl (by kernel_rfl) (fun _ _ _ h => h) (Or.inl ⟨by rfl, ?_⟩) hHeld ?_ ?_
    rotate_left
    ·rintro w' s0
     go_simp
     try with_reducible rfl
    rotate_left
    ·simp only [Act.put, List.setIfInBounds_toArray, List.set_cons_zero, List.set_cons_succ, i64_w, i32_w]
     rfl
    refine pure_ (i := 4) (N := some 30) (v := .bool false) (a' := ?_) #[tT,tT,tT,tT,tT,fF,fF,fF,fF,fF,fF,fF,fF,fF,fF,fF,fF,fF,fF,fF,fF,fF,fF,fF] rfl rfl (by kernel_rfl) (fun _ _ _ h => h) (Or.inl ⟨by rfl, ?_⟩) ?_ ?_
    ·intro w'
     go_simp
     first | done | (with_reducible rfl) | (simp only [*, decide_true, decide_false, if_true, if_false]; done) | (simp [*]; done) | omega | (unfold wrap64; omega)
    rotate_left
    ·simp only [Act.put, List.setIfInBounds_toArray, List.set_cons_zero, List.set_cons_succ, i64_w, i32_w]
     rfl
    refine pure_ (i := 5) (N := some 31) (v := ?_) (a' := ?_) #[tT,tT,tT,tT,tT,tT,fF,fF,fF,fF,fF,fF,fF,fF,fF,fF,fF,fF,fF,fF,fF,fF,fF,fF] rfl rfl (by kernel_rfl) (fun _ _ _ h => h) (Or.inl ⟨by rfl, ?_⟩) ?_ ?_
    rotate_left
    ·intro w'
     go_simp
     try with_reducible rfl
    rotate_left
    ·simp only [Act.put, List.setIfInBounds_toArray, List.set_cons_zero, List.set_cons_succ, i64_w, i32_w]
     rfl
    refine pure_ (i := 6) (N := some 32) (v := ?_) (a' := ?_) #[tT,tT,tT,tT,tT,tT,tT,fF,fF,fF,fF,fF,fF,fF,fF,fF,fF,fF,fF,fF,fF,fF,fF,fF] rfl rfl (by kernel_rfl) (fun _ _ _ h => h) (Or.inl ⟨by rfl, ?_⟩) ?_ ?_
    rotate_left
    ·intro w'
     go_simp
     try with_reducible rfl
    rotate_left
    ·simp only [Act.put, List.setIfInBounds_toArray, List.set_cons_zero, List.set_cons_succ, i64_w, i32_w]
     rfl
    refine pure_ (i := 7) (N := some 33) (v := ?_) (a' := ?_) #[tT,tT,tT,tT,tT,tT,tT,tT,fF,fF,fF,fF,fF,fF,fF,fF,fF,fF,fF,fF,fF,fF,fF,fF] rfl rfl (by kernel_rfl) (fun _ _ _ h => h) (Or.inl ⟨by rfl, ?_⟩) ?_ ?_
    rotate_left
    ·intro w'
     go_simp
     try with_reducible rfl
    rotate_left
    ·simp only [Act.put, List.setIfInBounds_toArray, List.set_cons_zero, List.set_cons_succ, i64_w, i32_w]
     rfl
    refine pure_ (i := 8) (N := some 34) (v := ?_) (a' := ?_) #[tT,tT,tT,tT,tT,tT,tT,tT,tT,fF,fF,fF,fF,fF,fF,fF,fF,fF,fF,fF,fF,fF,fF,fF] rfl rfl (by kernel_rfl) (fun _ _ _ h => h) (Or.inl ⟨by rfl, ?_⟩) ?_ ?_
    rotate_left
    ·intro w'
     go_simp
     try with_reducible rfl
    rotate_left
    ·simp only [Act.put, List.setIfInBounds_toArray, List.set_cons_zero, List.set_cons_succ, i64_w, i32_w]
     rfl
    refine take_ (i := 9) (N := some 35) (v := ?_) (a' := ?_) #[tT,tT,tT,tT,tT,tT,tT,tT,tT,tT,fF,fF,fF,fF,fF,fF,fF,fF,fF,fF,fF,fF,fF,fF] rfl rfl (by kernel_rfl) (fun _ _ _ h => h) (Or.inl ⟨by rfl, ?_⟩) hHeld ?_ ?_
    rotate_left
    ·rintro w' s0
     go_simp
     try with_reducible rfl
    rotate_left
    ·simp only [Act.put, List.setIfInBounds_toArray, List.set_cons_zero, List.set_cons_succ, i64_w, i32_w]
     rfl
    refine pure_ (i := 10) (N := some 36) (v := ?_) (a' := ?_) #[tT,tT,tT,tT,tT,tT,tT,tT,tT,tT,tT,fF,fF,fF,fF,fF,fF,fF,fF,fF,fF,fF,fF,fF] rfl rfl (by kernel_rfl) (fun _ _ _ h => h) (Or.inl ⟨by rfl, ?_⟩) ?_ ?_
    rotate_left
    ·intro w'
     go_simp
     try with_reducible rfl
    rotate_left
    ·simp only [Act.put, List.setIfInBounds_toArray, List.set_cons_zero, List.set_cons_succ, i64_w, i32_w]
     rfl
    refine pure_ (i := 11) (N := some 37) (v := ?_) (a' := ?_) #[tT,tT,tT,tT,tT,tT,tT,tT,tT,tT,tT,tT,fF,fF,fF,fF,fF,fF,fF,fF,fF,fF,fF,fF] rfl rfl (by kernel_rfl) (fun _ _ _ h => h) (Or.inl ⟨by rfl, ?_⟩) ?_ ?_
    rotate_left
    ·intro w'
     go_simp
     try with_reducible rfl
    rotate_left
    ·simp only [Act.put, List.setIfInBounds_toArray, List.set_cons_zero, List.set_cons_succ, i64_w, i32_w]
     rfl
    refine pure_ (i := 12) (N := some 38) (v := .bool false) (a' := ?_) #[tT,tT,tT,tT,tT,tT,tT,tT,tT,tT,tT,tT,tT,fF,fF,fF,fF,fF,fF,fF,fF,fF,fF,fF] rfl rfl (by kernel_rfl) (fun _ _ _ h => h) (Or.inl ⟨by rfl, ?_⟩) ?_ ?_
    ·intro w'
     go_simp
     first | done | (with_reducible rfl) | (simp only [*, decide_true, decide_false, if_true, if_false]; done) | (simp [*]; done) | omega | (unfold wrap64; omega)
    rotate_left
    ·simp only [Act.put, List.setIfInBounds_toArray, List.set_cons_zero, List.set_cons_succ, i64_w, i32_w]
     rfl
    refine pure_ (i := 13) (N := some 39) (v := .bool false) (a' := ?_) #[tT,tT,tT,tT,tT,tT,tT,tT,tT,tT,tT,tT,tT,tT,fF,fF,fF,fF,fF,fF,fF,fF,fF,fF] rfl rfl (by kernel_rfl) (fun _ _ _ h => h) (Or.inl ⟨by rfl, ?_⟩) ?_ ?_
    ·intro w'
     go_simp
     first | done | (with_reducible rfl) | (simp only [*, decide_true, decide_false, if_true, if_false]; done) | (simp [*]; done) | omega | (unfold wrap64; omega)
    rotate_left
    ·simp only [Act.put, List.setIfInBounds_toArray, List.set_cons_zero, List.set_cons_succ, i64_w, i32_w]
     rfl
    refine pure_ (i := 14) (N := some 40) (v := ?_) (a' := ?_) #[tT,tT,tT,tT,tT,tT,tT,tT,tT,tT,tT,tT,tT,tT,tT,fF,fF,fF,fF,fF,fF,fF,fF,fF] rfl rfl (by kernel_rfl) (fun _ _ _ h => h) (Or.inl ⟨by rfl, ?_⟩) ?_ ?_
    rotate_left
    ·intro w'
     go_simp
     try with_reducible rfl
    rotate_left
    ·simp only [Act.put, List.setIfInBounds_toArray, List.set_cons_zero, List.set_cons_succ, i64_w, i32_w]
     rfl
    refine pure_ (i := 15) (N := some 41) (v := ?_) (a' := ?_) #[tT,tT,tT,tT,tT,tT,tT,tT,tT,tT,tT,tT,tT,tT,tT,tT,fF,fF,fF,fF,fF,fF,fF,fF] rfl rfl (by kernel_rfl) (fun _ _ _ h => h) (Or.inl ⟨by rfl, ?_⟩) ?_ ?_
    rotate_left
    ·intro w'
     go_simp
     try with_reducible rfl
    rotate_left
    ·simp only [Act.put, List.setIfInBounds_toArray, List.set_cons_zero, List.set_cons_succ, i64_w, i32_w]
     rfl
    refine pure_ (i := 16) (N := some 42) (v := ?_) (a' := ?_) #[tT,tT,tT,tT,tT,tT,tT,tT,tT,tT,tT,tT,tT,tT,tT,tT,tT,fF,fF,fF,fF,fF,fF,fF] rfl rfl (by kernel_rfl) (fun _ _ _ h => h) (Or.inl ⟨by rfl, ?_⟩) ?_ ?_
    rotate_left
    ·intro w'
     go_simp
     try with_reducible rfl
    rotate_left
    ·simp only [Act.put, List.setIfInBounds_toArray, List.set_cons_zero, List.set_cons_succ, i64_w, i32_w]
     rfl
    refine pure_ (i := 17) (N := some 43) (v := .slice (some oa) i c1) (a' := ?_) #[tT,tT,tT,tT,tT,tT,tT,tT,tT,tT,tT,tT,tT,tT,tT,tT,tT,tT,fF,fF,fF,fF,fF,fF] rfl rfl (by kernel_rfl) (fun _ _ _ h => h) (Or.inl ⟨by rfl, ?_⟩) ?_ ?_
    ·intro w'
     go_simp
     first | done | (with_reducible rfl) | (simp only [*, decide_true, decide_false, if_true, if_false]; done) | (simp [*]; done) | omega | (unfold wrap64; omega)
    rotate_left
    ·simp only [Act.put, List.setIfInBounds_toArray, List.set_cons_zero, List.set_cons_succ, i64_w, i32_w]
     rfl
    refine pure_ (i := 18) (N := some 44) (v := ?_) (a' := ?_) #[tT,tT,tT,tT,tT,tT,tT,tT,tT,tT,tT,tT,tT,tT,tT,tT,tT,tT,tT,fF,fF,fF,fF,fF] rfl rfl (by kernel_rfl) (fun _ _ _ h => h) (Or.inl ⟨by rfl, ?_⟩) ?_ ?_
    rotate_left
    ·intro w'
     go_simp
     try with_reducible rfl
    rotate_left
    ·simp only [Act.put, List.setIfInBounds_toArray, List.set_cons_zero, List.set_cons_succ, i64_w, i32_w]
     rfl
    refine pure_ (i := 19) (N := some 45) (v := ?_) (a' := ?_) #[tT,tT,tT,tT,tT,tT,tT,tT,tT,tT,tT,tT,tT,tT,tT,tT,tT,tT,tT,tT,fF,fF,fF,fF] rfl rfl (by kernel_rfl) (fun _ _ _ h => h) (Or.inl ⟨by rfl, ?_⟩) ?_ ?_
    rotate_left
    ·intro w'
     go_simp
     try with_reducible rfl
    rotate_left
    ·simp only [Act.put, List.setIfInBounds_toArray, List.set_cons_zero, List.set_cons_succ, i64_w, i32_w]
     rfl
    refine pure_ (i := 20) (N := some 46) (v := ?_) (a' := ?_) #[tT,tT,tT,tT,tT,tT,tT,tT,tT,tT,tT,tT,tT,tT,tT,tT,tT,tT,tT,tT,tT,fF,fF,fF] rfl rfl (by kernel_rfl) (fun _ _ _ h => h) (Or.inl ⟨by rfl, ?_⟩) ?_ ?_
    rotate_left
    ·intro w'
     go_simp
     try with_reducible rfl
    rotate_left
    ·simp only [Act.put, List.setIfInBounds_toArray, List.set_cons_zero, List.set_cons_succ, i64_w, i32_w]
     rfl
    refine take_ (i := 21) (N := some 47) (v := ?_) (a' := ?_) #[tT,tT,tT,tT,tT,tT,tT,tT,tT,tT,tT,tT,tT,tT,tT,tT,tT,tT,tT,tT,tT,tT,fF,fF] rfl rfl (by kernel_rfl) (fun _ _ _ h => h) (Or.inl ⟨by rfl, ?_⟩) hHeld ?_ ?_
    rotate_left
    ·rintro w' s0
     go_simp
     try with_reducible rfl
    rotate_left
    ·simp only [Act.put, List.setIfInBounds_toArray, List.set_cons_zero, List.set_cons_succ, i64_w, i32_w]
     rfl
    refine one_ (i := 22) (N := some 48) #[tT,tT,tT,tT,tT,tT,tT,tT,tT,tT,tT,tT,tT,tT,tT,tT,tT,tT,tT,tT,tT,tT,tT,fF] rfl rfl (by kernel_rfl) (by decide) (fun K hK => ?_)
    refine call_ 35 _ (by rfl) rfl (by go_simp; rfl) ?_
    refine (hin.out (some oa) c1 (o.take i) i a _ htl.symm (by omega) (hTk.out _ hB2.out) htc).mono ?_
    rintro e w9 ⟨rfl, hd9⟩
    rw [hm]
    refine ⟨_, rfl, ?_⟩
    have hB9 := Aside0.mk (zAL hB2.out (zBC hd9 _))
    have Bw9 := Aside0.mk (zAL Bw2.out (zBC hd9 _))
    refine hK.out _ _ (zAK (zBC hd9 _) hHeld) (fun hHeld => ?_)
    clear hd9
    clear hK K
    refine norm_ (a' := ?_) ?_ ?_
    rotate_left
    ·show Act.put _ (some 48) _ = _
     simp only [Act.put, List.setIfInBounds_toArray, List.set_cons_zero, List.set_cons_succ, i64_w, i32_w]
     rfl
    refine pure_ (i := 23) (N := some 49) (v := .bool false) (a' := ?_) #[tT,tT,tT,tT,tT,tT,tT,tT,tT,tT,tT,tT,tT,tT,tT,tT,tT,tT,tT,tT,tT,tT,tT,tT] rfl rfl (by kernel_rfl) (fun _ _ _ h => h) (Or.inl ⟨by rfl, ?_⟩) ?_ ?_
    ·intro w'
     go_simp
     first | done | (with_reducible rfl) | (simp only [*, decide_true, decide_false, if_true, if_false]; done) | (simp [*]; done) | omega | (unfold wrap64; omega)
    rotate_left
    ·simp only [Act.put, List.setIfInBounds_toArray, List.set_cons_zero, List.set_cons_succ, i64_w, i32_w]
     rfl
    refine done_ (by kernel_rfl) ?_
    clear hm hmem hHeld hB9
    have hst := Aside0.mk (show Below w1.heap.size w1 w9 ∧ ∀ b ∈ (rd_L1 d a).take 0, b ∈ o.take i from ⟨Bw9.out, by simp⟩)
    clear Bw9 Bw2 hB2
    go_wp2_with fail
    go_loopw [7] (fun s wr => ∃ j : Nat, s = .int .i64 j ∧ j ≤ rl ∧ Aside0 (Below w1.heap.size w1 wr ∧ ∀ b ∈ (rd_L1 d a).take j, b ∈ o.take i)) (fun s _ => rl - (RowKit.intOf s).toNat)
    case atStart => exact ⟨0, rfl, by omega, hst⟩
    case round =>
     clear hst
     obtain ⟨j, rfl, hj, hrel⟩ := hrel
     have Bw := Aside0.mk hrel.out.1
     have hIn := Aside0.mk hrel.out.2
     clear hrel
     have hB' := Aside0.mk (zAL B1'.out Bw.out)
     have ho := ho'.out wr hB'.out
     have hdc := zAK Bw.out hd1'.out
     by_cases hjl : j < rl
     ·have hjb : decide ((j : Int) < (rl : Int)) = true := decide_eq_true (by omega)
      obtain ⟨ra, hra, hbj⟩ := Kd.at_int (Kd.C_below hd3'.out Bw.out) (j : Int) (by omega) (by omega)
      subst hra
      rw [Int.toNat_natCast] at hbj
      have hjr : j < (rd_L1 d a).length := by have := hrl2.out; omega
      have hbe : rd (rd_L1 d a) (j : Int) = (rd_L1 d a)[j] := by simp [rd, hjr]
      have htk : (rd_L1 d a).take (j + 1) = (rd_L1 d a).take j ++ [(rd_L1 d a)[j]] := List.take_succ_eq_append_getElem hjr
      have hbm : (rd_L1 d a)[j] ∈ rd_L1 d a := List.getElem_mem hjr
      rw [hbe] at hbj
      have htk' := Aside0.mk htk
      have hbm' := Aside0.mk hbm
      clear hbe htk hbm
      generalize (rd_L1 d a)[j] = b at hbj htk' hbm'
      by_cases hmb : b ∈ o.take i
      ·have hm : decide (b ∈ o.take i) = true := decide_eq_true hmb
       go_wp2_with fail
       refine zCA (n := 15) (S := fun w' => w'.cell? (oa.add i) = some (.int .i64 a) ∧ w'.cell? (da.add a.toNat) = some (.slice (some ra) rl cr) ∧ w'.cell? (ra.add j) = some (.int .i64 b)) (ds := []) #[fF,fF,fF,fF,fF,fF,fF,fF,fF,fF,fF,fF,fF,fF,fF] hmix rfl rfl ⟨ho, hdc, hbj⟩ (fun hHeld => ?_)
       have hB2 := Aside0.mk (show Below w.heap.size w wr.drew from zAL hB'.out (zAA (Below.refl _ _) 1))
       have Bw2 := Aside0.mk (show Below w1.heap.size w1 wr.drew from zAL Bw.out (zAA (Below.refl _ _) 1))
       clear hB' Bw ho hdc hbj
       generalize wr.drew = W1 at hB2 Bw2 hHeld ⊢
       refine pure_ (i := 0) (N := some 62) (v := ?_) (a' := ?_) #[tT,fF,fF,fF,fF,fF,fF,fF,fF,fF,fF,fF,fF,fF,fF] rfl rfl (by kernel_rfl) (fun _ _ _ h => h) (Or.inl ⟨by rfl, ?_⟩) ?_ ?_
       rotate_left
       ·intro w'
        go_simp
        try with_reducible rfl
       rotate_left
       ·simp only [Act.put, List.setIfInBounds_toArray, List.set_cons_zero, List.set_cons_succ, i64_w, i32_w]
        rfl
       refine pure_ (i := 1) (N := some 63) (v := ?_) (a' := ?_) #[tT,tT,fF,fF,fF,fF,fF,fF,fF,fF,fF,fF,fF,fF,fF] rfl rfl (by kernel_rfl) (fun _ _ _ h => h) (Or.inl ⟨by rfl, ?_⟩) ?_ ?_
       rotate_left
       ·intro w'
        go_simp
        try with_reducible rfl
       rotate_left
       ·simp only [Act.put, List.setIfInBounds_toArray, List.set_cons_zero, List.set_cons_succ, i64_w, i32_w]
        rfl
       refine pure_ (i := 2) (N := some 64) (v := .slice (some oa) i c1) (a' := ?_) #[tT,tT,tT,fF,fF,fF,fF,fF,fF,fF,fF,fF,fF,fF,fF] rfl rfl (by kernel_rfl) (fun _ _ _ h => h) (Or.inl ⟨by rfl, ?_⟩) ?_ ?_
       ·intro w'
        go_simp
        first | done | (with_reducible rfl) | (simp only [*, decide_true, decide_false, if_true, if_false]; done) | (simp [*]; done) | omega | (unfold wrap64; omega)
       rotate_left
       ·simp only [Act.put, List.setIfInBounds_toArray, List.set_cons_zero, List.set_cons_succ, i64_w, i32_w]
        rfl
       refine pure_ (i := 3) (N := some 65) (v := ?_) (a' := ?_) #[tT,tT,tT,tT,fF,fF,fF,fF,fF,fF,fF,fF,fF,fF,fF] rfl rfl (by kernel_rfl) (fun _ _ _ h => h) (Or.inl ⟨by rfl, ?_⟩) ?_ ?_
       rotate_left
       ·intro w'
        go_simp
        try with_reducible rfl
       rotate_left
       ·simp only [Act.put, List.setIfInBounds_toArray, List.set_cons_zero, List.set_cons_succ, i64_w, i32_w]
        rfl
       refine pure_ (i := 4) (N := some 66) (v := ?_) (a' := ?_) #[tT,tT,tT,tT,tT,fF,fF,fF,fF,fF,fF,fF,fF,fF,fF] rfl rfl (by kernel_rfl) (fun _ _ _ h => h) (Or.inl ⟨by rfl, ?_⟩) ?_ ?_
       rotate_left
       ·intro w'
        go_simp
        try with_reducible rfl
       rotate_left
       ·simp only [Act.put, List.setIfInBounds_toArray, List.set_cons_zero, List.set_cons_succ, i64_w, i32_w]
        rfl
       refine pure_ (i := 5) (N := some 67) (v := ?_) (a' := ?_) #[tT,tT,tT,tT,tT,tT,fF,fF,fF,fF,fF,fF,fF,fF,fF] rfl rfl (by kernel_rfl) (fun _ _ _ h => h) (Or.inl ⟨by rfl, ?_⟩) ?_ ?_
       rotate_left
       ·intro w'
        go_simp
        try with_reducible rfl
       rotate_left
       ·simp only [Act.put, List.setIfInBounds_toArray, List.set_cons_zero, List.set_cons_succ, i64_w, i32_w]
        rfl
       refine pure_ (i := 6) (N := some 68) (v := ?_) (a' := ?_) #[tT,tT,tT,tT,tT,tT,tT,fF,fF,fF,fF,fF,fF,fF,fF] rfl rfl (by kernel_rfl) (fun _ _ _ h => h) (Or.inl ⟨by rfl, ?_⟩) ?_ ?_
       rotate_left
       ·intro w'
        go_simp
        try with_reducible rfl
       rotate_left
       ·simp only [Act.put, List.setIfInBounds_toArray, List.set_cons_zero, List.set_cons_succ, i64_w, i32_w]
        rfl
       refine take_ (i := 7) (N := some 69) (v := ?_) (a' := ?_) #[tT,tT,tT,tT,tT,tT,tT,tT,fF,fF,fF,fF,fF,fF,fF] rfl rfl (by kernel_rfl) (fun _ _ _ h => h) (Or.inl ⟨by rfl, ?_⟩) hHeld ?_ ?_
       rotate_left
       ·rintro w' ⟨s0, s1, s2⟩
        go_simp
        try with_reducible rfl
       rotate_left
       ·simp only [Act.put, List.setIfInBounds_toArray, List.set_cons_zero, List.set_cons_succ, i64_w, i32_w]
        rfl
       refine pure_ (i := 8) (N := some 70) (v := ?_) (a' := ?_) #[tT,tT,tT,tT,tT,tT,tT,tT,tT,fF,fF,fF,fF,fF,fF] rfl rfl (by kernel_rfl) (fun _ _ _ h => h) (Or.inl ⟨by rfl, ?_⟩) ?_ ?_
       rotate_left
       ·intro w'
        go_simp
        try with_reducible rfl
       rotate_left
       ·simp only [Act.put, List.setIfInBounds_toArray, List.set_cons_zero, List.set_cons_succ, i64_w, i32_w]
        rfl
       refine take_ (i := 9) (N := some 71) (v := ?_) (a' := ?_) #[tT,tT,tT,tT,tT,tT,tT,tT,tT,tT,fF,fF,fF,fF,fF] rfl rfl (by kernel_rfl) (fun _ _ _ h => h) (Or.inl ⟨by rfl, ?_⟩) hHeld ?_ ?_
       rotate_left
       ·rintro w' ⟨s0, s1, s2⟩
        go_simp
        try with_reducible rfl
       rotate_left
       ·simp only [Act.put, List.setIfInBounds_toArray, List.set_cons_zero, List.set_cons_succ, i64_w, i32_w]
        rfl
       refine pure_ (i := 10) (N := some 72) (v := ?_) (a' := ?_) #[tT,tT,tT,tT,tT,tT,tT,tT,tT,tT,tT,fF,fF,fF,fF] rfl rfl (by kernel_rfl) (fun _ _ _ h => h) (Or.inl ⟨by rfl, ?_⟩) ?_ ?_
       rotate_left
       ·intro w'
        go_simp
        try with_reducible rfl
       rotate_left
       ·simp only [Act.put, List.setIfInBounds_toArray, List.set_cons_zero, List.set_cons_succ, i64_w, i32_w]
        rfl
       refine pure_ (i := 11) (N := some 73) (v := ?_) (a' := ?_) #[tT,tT,tT,tT,tT,tT,tT,tT,tT,tT,tT,tT,fF,fF,fF] rfl rfl (by kernel_rfl) (fun _ _ _ h => h) (Or.inl ⟨by rfl, ?_⟩) ?_ ?_
       rotate_left
       ·intro w'
        go_simp
        try with_reducible rfl
       rotate_left
       ·simp only [Act.put, List.setIfInBounds_toArray, List.set_cons_zero, List.set_cons_succ, i64_w, i32_w]
        rfl
       refine take_ (i := 12) (N := some 74) (v := ?_) (a' := ?_) #[tT,tT,tT,tT,tT,tT,tT,tT,tT,tT,tT,tT,tT,fF,fF] rfl rfl (by kernel_rfl) (fun _ _ _ h => h) (Or.inl ⟨by rfl, ?_⟩) hHeld ?_ ?_
       rotate_left
       ·rintro w' ⟨s0, s1, s2⟩
        go_simp
        try with_reducible rfl
       rotate_left
       ·simp only [Act.put, List.setIfInBounds_toArray, List.set_cons_zero, List.set_cons_succ, i64_w, i32_w]
        rfl
       refine one_ (i := 13) (N := some 75) #[tT,tT,tT,tT,tT,tT,tT,tT,tT,tT,tT,tT,tT,tT,fF] rfl rfl (by kernel_rfl) (by decide) (fun K hK => ?_)
       refine call_ 35 _ (by rfl) rfl (by go_simp; rfl) ?_
       refine (hin.out (some oa) c1 (o.take i) i b _ htl.symm (by omega) (hTk.out _ hB2.out) htc).mono ?_
       rintro e w9 ⟨rfl, hd9⟩
       rw [hm]
       refine ⟨_, rfl, ?_⟩
       have hB9 := Aside0.mk (zAL hB2.out (zBC hd9 _))
       have Bw9 := Aside0.mk (zAL Bw2.out (zBC hd9 _))
       refine hK.out _ _ ⟨zAK (zBC hd9 _) hHeld.1, zAK (zBC hd9 _) hHeld.2.1, zAK (zBC hd9 _) hHeld.2.2⟩ (fun hHeld => ?_)
       clear hd9
       clear hK K
       refine norm_ (a' := ?_) ?_ ?_
       rotate_left
       ·show Act.put _ (some 75) _ = _
        simp only [Act.put, List.setIfInBounds_toArray, List.set_cons_zero, List.set_cons_succ, i64_w, i32_w]
        rfl
       refine pure_ (i := 14) (N := some 76) (v := .bool false) (a' := ?_) #[tT,tT,tT,tT,tT,tT,tT,tT,tT,tT,tT,tT,tT,tT,tT] rfl rfl (by kernel_rfl) (fun _ _ _ h => h) (Or.inl ⟨by rfl, ?_⟩) ?_ ?_
       ·intro w'
        go_simp
        first | done | (with_reducible rfl) | (simp only [*, decide_true, decide_false, if_true, if_false]; done) | (simp [*]; done) | omega | (unfold wrap64; omega)
       rotate_left
       ·simp only [Act.put, List.setIfInBounds_toArray, List.set_cons_zero, List.set_cons_succ, i64_w, i32_w]
        rfl
       refine done_ (by kernel_rfl) ?_
       go_wp2_with fail
       go_roundw
       case rel => exact ⟨j + 1, by go_num, by omega, ⟨Bw9.out, by
        rw [htk'.out]
        intro x hx
        rcases List.mem_append.1 hx with hx | hx
        ·exact hIn.out x hx
        ·rw [List.mem_singleton.1 hx]; exact hmb⟩⟩
       case measure => simp [RowKit.intOf]; omega
      ·have hf' := Aside0.mk (hnoo.out (hmis.out b hbm'.out hmb))
       have hm : decide (b ∈ o.take i) = false := decide_eq_false hmb
       go_wp2_with fail
       refine zCA (n := 15) (S := fun w' => w'.cell? (oa.add i) = some (.int .i64 a) ∧ w'.cell? (da.add a.toNat) = some (.slice (some ra) rl cr) ∧ w'.cell? (ra.add j) = some (.int .i64 b)) (ds := []) #[fF,fF,fF,fF,fF,fF,fF,fF,fF,fF,fF,fF,fF,fF,fF] hmix rfl rfl ⟨ho, hdc, hbj⟩ (fun hHeld => ?_)
       have hB2 := Aside0.mk (show Below w.heap.size w wr.drew from zAL hB'.out (zAA (Below.refl _ _) 1))
       have Bw2 := Aside0.mk (show Below w1.heap.size w1 wr.drew from zAL Bw.out (zAA (Below.refl _ _) 1))
       clear hB' Bw ho hdc hbj
       generalize wr.drew = W1 at hB2 Bw2 hHeld ⊢
       refine pure_ (i := 0) (N := some 62) (v := ?_) (a' := ?_) #[tT,fF,fF,fF,fF,fF,fF,fF,fF,fF,fF,fF,fF,fF,fF] rfl rfl (by kernel_rfl) (fun _ _ _ h => h) (Or.inl ⟨by rfl, ?_⟩) ?_ ?_
       rotate_left
       ·intro w'
        go_simp
        try with_reducible rfl
       rotate_left
       ·simp only [Act.put, List.setIfInBounds_toArray, List.set_cons_zero, List.set_cons_succ, i64_w, i32_w]
        rfl
       refine pure_ (i := 1) (N := some 63) (v := ?_) (a' := ?_) #[tT,tT,fF,fF,fF,fF,fF,fF,fF,fF,fF,fF,fF,fF,fF] rfl rfl (by kernel_rfl) (fun _ _ _ h => h) (Or.inl ⟨by rfl, ?_⟩) ?_ ?_
       rotate_left
       ·intro w'
        go_simp
        try with_reducible rfl
       rotate_left
       ·simp only [Act.put, List.setIfInBounds_toArray, List.set_cons_zero, List.set_cons_succ, i64_w, i32_w]
        rfl
       refine pure_ (i := 2) (N := some 64) (v := .slice (some oa) i c1) (a' := ?_) #[tT,tT,tT,fF,fF,fF,fF,fF,fF,fF,fF,fF,fF,fF,fF] rfl rfl (by kernel_rfl) (fun _ _ _ h => h) (Or.inl ⟨by rfl, ?_⟩) ?_ ?_
       ·intro w'
        go_simp
        first | done | (with_reducible rfl) | (simp only [*, decide_true, decide_false, if_true, if_false]; done) | (simp [*]; done) | omega | (unfold wrap64; omega)
       rotate_left
       ·simp only [Act.put, List.setIfInBounds_toArray, List.set_cons_zero, List.set_cons_succ, i64_w, i32_w]
        rfl
       refine pure_ (i := 3) (N := some 65) (v := ?_) (a' := ?_) #[tT,tT,tT,tT,fF,fF,fF,fF,fF,fF,fF,fF,fF,fF,fF] rfl rfl (by kernel_rfl) (fun _ _ _ h => h) (Or.inl ⟨by rfl, ?_⟩) ?_ ?_
       rotate_left
       ·intro w'
        go_simp
        try with_reducible rfl
       rotate_left
       ·simp only [Act.put, List.setIfInBounds_toArray, List.set_cons_zero, List.set_cons_succ, i64_w, i32_w]
        rfl
       refine pure_ (i := 4) (N := some 66) (v := ?_) (a' := ?_) #[tT,tT,tT,tT,tT,fF,fF,fF,fF,fF,fF,fF,fF,fF,fF] rfl rfl (by kernel_rfl) (fun _ _ _ h => h) (Or.inl ⟨by rfl, ?_⟩) ?_ ?_
       rotate_left
       ·intro w'
        go_simp
        try with_reducible rfl
       rotate_left
       ·simp only [Act.put, List.setIfInBounds_toArray, List.set_cons_zero, List.set_cons_succ, i64_w, i32_w]
        rfl
       refine pure_ (i := 5) (N := some 67) (v := ?_) (a' := ?_) #[tT,tT,tT,tT,tT,tT,fF,fF,fF,fF,fF,fF,fF,fF,fF] rfl rfl (by kernel_rfl) (fun _ _ _ h => h) (Or.inl ⟨by rfl, ?_⟩) ?_ ?_
       rotate_left
       ·intro w'
        go_simp
        try with_reducible rfl
       rotate_left
       ·simp only [Act.put, List.setIfInBounds_toArray, List.set_cons_zero, List.set_cons_succ, i64_w, i32_w]
        rfl
       refine pure_ (i := 6) (N := some 68) (v := ?_) (a' := ?_) #[tT,tT,tT,tT,tT,tT,tT,fF,fF,fF,fF,fF,fF,fF,fF] rfl rfl (by kernel_rfl) (fun _ _ _ h => h) (Or.inl ⟨by rfl, ?_⟩) ?_ ?_
       rotate_left
       ·intro w'
        go_simp
        try with_reducible rfl
       rotate_left
       ·simp only [Act.put, List.setIfInBounds_toArray, List.set_cons_zero, List.set_cons_succ, i64_w, i32_w]
        rfl
       refine take_ (i := 7) (N := some 69) (v := ?_) (a' := ?_) #[tT,tT,tT,tT,tT,tT,tT,tT,fF,fF,fF,fF,fF,fF,fF] rfl rfl (by kernel_rfl) (fun _ _ _ h => h) (Or.inl ⟨by rfl, ?_⟩) hHeld ?_ ?_
       rotate_left
       ·rintro w' ⟨s0, s1, s2⟩
        go_simp
        try with_reducible rfl
       rotate_left
       ·simp only [Act.put, List.setIfInBounds_toArray, List.set_cons_zero, List.set_cons_succ, i64_w, i32_w]
        rfl
       refine pure_ (i := 8) (N := some 70) (v := ?_) (a' := ?_) #[tT,tT,tT,tT,tT,tT,tT,tT,tT,fF,fF,fF,fF,fF,fF] rfl rfl (by kernel_rfl) (fun _ _ _ h => h) (Or.inl ⟨by rfl, ?_⟩) ?_ ?_
       rotate_left
       ·intro w'
        go_simp
        try with_reducible rfl
       rotate_left
       ·simp only [Act.put, List.setIfInBounds_toArray, List.set_cons_zero, List.set_cons_succ, i64_w, i32_w]
        rfl
       refine take_ (i := 9) (N := some 71) (v := ?_) (a' := ?_) #[tT,tT,tT,tT,tT,tT,tT,tT,tT,tT,fF,fF,fF,fF,fF] rfl rfl (by kernel_rfl) (fun _ _ _ h => h) (Or.inl ⟨by rfl, ?_⟩) hHeld ?_ ?_
       rotate_left
       ·rintro w' ⟨s0, s1, s2⟩
        go_simp
        try with_reducible rfl
       rotate_left
       ·simp only [Act.put, List.setIfInBounds_toArray, List.set_cons_zero, List.set_cons_succ, i64_w, i32_w]
        rfl
       refine pure_ (i := 10) (N := some 72) (v := ?_) (a' := ?_) #[tT,tT,tT,tT,tT,tT,tT,tT,tT,tT,tT,fF,fF,fF,fF] rfl rfl (by kernel_rfl) (fun _ _ _ h => h) (Or.inl ⟨by rfl, ?_⟩) ?_ ?_
       rotate_left
       ·intro w'
        go_simp
        try with_reducible rfl
       rotate_left
       ·simp only [Act.put, List.setIfInBounds_toArray, List.set_cons_zero, List.set_cons_succ, i64_w, i32_w]
        rfl
       refine pure_ (i := 11) (N := some 73) (v := ?_) (a' := ?_) #[tT,tT,tT,tT,tT,tT,tT,tT,tT,tT,tT,tT,fF,fF,fF] rfl rfl (by kernel_rfl) (fun _ _ _ h => h) (Or.inl ⟨by rfl, ?_⟩) ?_ ?_
       rotate_left
       ·intro w'
        go_simp
        try with_reducible rfl
       rotate_left
       ·simp only [Act.put, List.setIfInBounds_toArray, List.set_cons_zero, List.set_cons_succ, i64_w, i32_w]
        rfl
       refine take_ (i := 12) (N := some 74) (v := ?_) (a' := ?_) #[tT,tT,tT,tT,tT,tT,tT,tT,tT,tT,tT,tT,tT,fF,fF] rfl rfl (by kernel_rfl) (fun _ _ _ h => h) (Or.inl ⟨by rfl, ?_⟩) hHeld ?_ ?_
       rotate_left
       ·rintro w' ⟨s0, s1, s2⟩
        go_simp
        try with_reducible rfl
       rotate_left
       ·simp only [Act.put, List.setIfInBounds_toArray, List.set_cons_zero, List.set_cons_succ, i64_w, i32_w]
        rfl
       refine one_ (i := 13) (N := some 75) #[tT,tT,tT,tT,tT,tT,tT,tT,tT,tT,tT,tT,tT,tT,fF] rfl rfl (by kernel_rfl) (by decide) (fun K hK => ?_)
       refine call_ 35 _ (by rfl) rfl (by go_simp; rfl) ?_
       refine (hin.out (some oa) c1 (o.take i) i b _ htl.symm (by omega) (hTk.out _ hB2.out) htc).mono ?_
       rintro e w9 ⟨rfl, hd9⟩
       rw [hm]
       refine ⟨_, rfl, ?_⟩
       have hB9 := Aside0.mk (zAL hB2.out (zBC hd9 _))
       have Bw9 := Aside0.mk (zAL Bw2.out (zBC hd9 _))
       refine hK.out _ _ ⟨zAK (zBC hd9 _) hHeld.1, zAK (zBC hd9 _) hHeld.2.1, zAK (zBC hd9 _) hHeld.2.2⟩ (fun hHeld => ?_)
       clear hd9
       clear hK K
       refine norm_ (a' := ?_) ?_ ?_
       rotate_left
       ·show Act.put _ (some 75) _ = _
        simp only [Act.put, List.setIfInBounds_toArray, List.set_cons_zero, List.set_cons_succ, i64_w, i32_w]
        rfl
       refine pure_ (i := 14) (N := some 76) (v := .bool true) (a' := ?_) #[tT,tT,tT,tT,tT,tT,tT,tT,tT,tT,tT,tT,tT,tT,tT] rfl rfl (by kernel_rfl) (fun _ _ _ h => h) (Or.inl ⟨by rfl, ?_⟩) ?_ ?_
       ·intro w'
        go_simp
        first | done | (with_reducible rfl) | (simp only [*, decide_true, decide_false, if_true, if_false]; done) | (simp [*]; done) | omega | (unfold wrap64; omega)
       rotate_left
       ·simp only [Act.put, List.setIfInBounds_toArray, List.set_cons_zero, List.set_cons_succ, i64_w, i32_w]
        rfl
       refine done_ (by kernel_rfl) ?_
       go_wp2_with fail
       go_ret
       exact ⟨by rw [hf'.out]; rfl, hB9.out⟩
     ·have hjb : decide ((j : Int) < (rl : Int)) = false := decide_eq_false (by omega)
      have hend := Aside0.mk (show Below w1.heap.size w1 wr ∧ ∀ j, j < i + 1 → okAt d no o j = true from ⟨Bw.out, fun q hq => by
       by_cases e : q = i
       ·subst e
        refine hhit'.out (fun b hb => hIn.out b ?_)
        rw [List.take_of_length_le (by have := hrl2.out; omega)]
        exact hb
       ·exact hOk'.out q (by omega)⟩)
      clear Bw hIn hB'
      go_wp2_with fail
      go_roundw
      case rel => exact ⟨i + 1, by go_num, by omega, hend⟩
      case measure => simp [RowKit.intOf]; omega
   ·obtain rfl : i = no := by omega
    have hib : decide ((i : Int) < (i : Int)) = false := decide_eq_false (by omega)
    have hf' := Aside0.mk (hR'.out.symm.trans <| mayB_yes (fun i hi => (hrow.out i hi).2) (fun j hj => hrel.out.2 j (by rw [hno'.out] at hj; exact hj)))
    have hB2 := Aside0.mk (zAL B1'.out hrel.out.1)
    clear hrel
    go_wp2_with fail
    go_ret
    exact ⟨by rw [hf'.out]; rfl, hB2.out⟩
end Go.Proofs.Ytphmlkbmnmicpaa.A
namespace Go.Proofs.Ytphmlkbmnmicpaa.A
open Go.RowKit Go.Proofs.YtphmlkbmnmicpaaW.PrintWords Go.Proofs.YtphmlkbmnmicpaaW.PrintLast Go.Shelf
def Nums (base : Nat) (A : Option Addr) (n : Nat) (W : World) : Prop := 0 < n → ∃ g, A = some ⟨g, 0, none⟩ ∧ base ≤ g ∧ ∃ cs : Array Value, W.heap[g]? = some (.cells cs 3 (0, 0)) ∧ n ≤ cs.size
theorem nums_of_R {base : Nat} {A : Option Addr} {c : Nat} {ok : Nat → Prop} {W : World} {xs : List Int} (h : Kd.R (Kd.int .i64) 3 W base ok (.slice A xs.length c) xs) : Nums base A xs.length W := by
 intro hn
 obtain ⟨g, cap, e, hb, hlt, cs, hcs⟩ := Kd.R_form h hn
 injection e with e _ _
 refine ⟨g, e, hb, cs, hcs, ?_⟩
 subst e
 obtain ⟨ad, e2, hc⟩ := Kd.at_int (Kd.R_reads' h).2.2 ((xs.length - 1 : Nat) : Int) (by omega) (by omega)
 cases e2
 rw [Int.toNat_natCast, add_at, Nat.zero_add, zAE hcs] at hc
 have := (Array.getElem?_eq_some_iff.1 hc).1
 omega
structure Junk (base g10 gc : Nat) (Ac : Option Addr) (cc n : Nat) (ag : Nat → Option Addr × Nat × Nat) (W : World) : Prop where
 box : W.heap[g10]? = some (.cells #[.slice Ac n cc, .int .i64 3, .int .i64 1, .int .i64 0, .int .i64 0] 29 (0, 0))
 lo : base ≤ g10
 hd : 0 < n → Ac = some ⟨gc, 0, none⟩ ∧ base ≤ gc
 ops : 0 < n → ∃ cells : Array Value, W.heap[gc]? = some (.cells cells 37 (0, 0)) ∧ ∀ i, i < n → i * 6 < cells.size ∧ cells[i * 6 + 5]? = some (.slice (ag i).1 (ag i).2.1 (ag i).2.2)
 arg : ∀ i, i < n → (ag i).2.1 ≤ 20 ∧ Nums base (ag i).1 (ag i).2.1 W
section
variable {base g10 gc : Nat} {Ac : Option Addr} {cc n : Nat} {ag : Nat → Option Addr × Nat × Nat} {W W1 : World}
theorem Nums.below {A : Option Addr} (h : Nums base A n W) (hb : Below W.heap.size W W1) : Nums base A n W1 := fun hn => by
 obtain ⟨g, e, h1, cs, h2, h3⟩ := h hn
 exact ⟨g, e, h1, cs, zAP h2 hb, h3⟩
theorem Junk.below (h : Junk base g10 gc Ac cc n ag W) (hb : Below W.heap.size W W1) : Junk base g10 gc Ac cc n ag W1 :=
 ⟨zAP h.box hb, h.lo, h.hd, fun hn => by
  obtain ⟨cells, h1, h2⟩ := h.ops hn
  exact ⟨cells, zAP h1 hb, h2⟩, fun i hi => ⟨(h.arg i hi).1, (h.arg i hi).2.below hb⟩⟩
theorem Junk.setArg (h : Junk base g10 gc Ac cc n ag W) {i k : Nat} (hi : i < n) (hk : k < (ag i).2.1) {ai : Addr} (ha : (ag i).1 = some ai) (u : Value) :
  (∃ z, W.cell? (ai.add k) = some z) ∧ W.frozen? (ai.add k) = false ∧ Junk base g10 gc Ac cc n ag (W.setCell (ai.add k) u) ∧ (∀ w : World, Below base w W → Below base w (W.setCell (ai.add k) u)) := by
 obtain ⟨g, e, h1, cs, h2, h3⟩ := (h.arg i hi).2 (by omega)
 rw [ha] at e
 injection e with e
 subst e
 rw [add_at, Nat.zero_add]
 refine ⟨⟨cs[k]'(by omega), by rw [zAE h2]; exact Array.getElem?_eq_getElem (by omega)⟩, zAB h2 k, ⟨?_, h.lo, h.hd, fun hn => ?_, fun q hq => ⟨(h.arg q hq).1, fun hn => ?_⟩⟩, fun w hb => hb.setCell (p := ⟨g, k, none⟩) h1 _⟩
 ·exact zAS h.box (p := ⟨g, k, none⟩) (blk_ne h.box h2 (by decide)) _
 ·obtain ⟨cells, h5, h6⟩ := h.ops hn
  exact ⟨cells, zAS h5 (p := ⟨g, k, none⟩) (blk_ne h5 h2 (by decide)) _, h6⟩
 ·obtain ⟨g', e', h1', cs', h2', h3'⟩ := (h.arg q hq).2 hn
  by_cases eg : g' = g
  ·subst eg
   refine ⟨g', e', h1', _, blk_set h2' k u, by rw [Array.size_setIfInBounds]; exact h3'⟩
  ·exact ⟨g', e', h1', cs', zAS h2' (p := ⟨g, k, none⟩) eg _, h3'⟩
theorem Junk.setKind (h : Junk base g10 gc Ac cc n ag W) {i : Nat} (hi : i < n) {ac : Addr} (ha : Ac = some ac) (u : Value) :
  (∃ z, W.cell? (ac.add (i * 6)) = some z) ∧ W.frozen? (ac.add (i * 6)) = false ∧ Junk base g10 gc Ac cc n ag (W.setCell (ac.add (i * 6)) u) ∧ (∀ w : World, Below base w W → Below base w (W.setCell (ac.add (i * 6)) u)) := by
 obtain ⟨e, h1⟩ := h.hd (by omega)
 rw [ha] at e
 injection e with e
 subst e
 obtain ⟨cells, h2, h3⟩ := h.ops (by omega)
 rw [add_at, Nat.zero_add]
 have hs := (h3 i hi).1
 refine ⟨⟨cells[i * 6], by rw [zAE h2]; exact Array.getElem?_eq_getElem hs⟩, zAB h2 _, ⟨?_, h.lo, h.hd, fun hn => ?_, fun q hq => ⟨(h.arg q hq).1, fun hn => ?_⟩⟩, fun w hb => hb.setCell (p := ⟨gc, i * 6, none⟩) h1 _⟩
 ·exact zAS h.box (p := ⟨gc, i * 6, none⟩) (blk_ne h.box h2 (by decide)) _
 ·refine ⟨_, blk_set h2 (i * 6) u, fun q hq => ?_⟩
  obtain ⟨h5, h6⟩ := h3 q hq
  refine ⟨by rw [Array.size_setIfInBounds]; exact h5, ?_⟩
  rw [Array.getElem?_setIfInBounds_ne (by omega)]
  exact h6
 ·obtain ⟨g', e', h1', cs', h2', h3'⟩ := (h.arg q hq).2 hn
  exact ⟨g', e', h1', cs', zAS h2' (p := ⟨gc, i * 6, none⟩) (blk_ne h2' h2 (by decide)) _, h3'⟩
theorem Junk.row (h : Junk base g10 gc Ac cc n ag W) {i : Nat} (hi : i < n) {ac : Addr} (ha : Ac = some ac) :
  W.cell? ⟨(ac.add (i * 6)).block, (ac.add (i * 6)).off + 5, none⟩ = some (.slice (ag i).1 (ag i).2.1 (ag i).2.2) := by
 obtain ⟨e, h1⟩ := h.hd (by omega)
 rw [ha] at e
 injection e with e
 subst e
 obtain ⟨cells, h2, h3⟩ := h.ops (by omega)
 rw [← zBP _ _ 5 (by omega), add_at, Nat.zero_add, zAE h2]
 exact (h3 i hi).2
theorem Junk.cell (h : Junk base g10 gc Ac cc n ag W) : W.cell? ⟨g10, 0, none⟩ = some (.slice Ac n cc) := (zAE h.box 0).trans rfl
end
theorem Junk.start {base g10 : Nat} {A : Option Addr} {c : Nat} {W : World} {xs : List S37} (hS : Kd.S k37 37 W base (fun _ => True) (.slice A xs.length c) xs) (hx : ∀ x ∈ xs, x.f5.length ≤ 20)
  (hb : W.heap[g10]? = some (.cells #[.slice A xs.length c, .int .i64 3, .int .i64 1, .int .i64 0, .int .i64 0] 29 (0, 0))) (hlo : base ≤ g10) : ∃ gc ag, Junk base g10 gc A c xs.length ag W := by
 have hR := Kd.S_R hS
 by_cases hn : 0 < xs.length
 ·obtain ⟨gc, cap, e, h1, h2, cells, h3⟩ := Kd.R_form hR hn
  injection e with e _ _
  subst e
  have key : ∀ i, i < xs.length → ∃ a : Option Addr × Nat × Nat, (i * 6 < cells.size ∧ cells[i * 6 + 5]? = some (.slice a.1 a.2.1 a.2.2)) ∧ a.2.1 ≤ 20 ∧ Nums base a.1 a.2.1 W := by
   intro i hi
   obtain ⟨c8, hcl, hM, hc8⟩ := Kd.R_getA hR z37 (i : Int) (by omega) (by omega)
   obtain ⟨v5, rfl, h5⟩ := k37_openM hM
   obtain ⟨A5, c5, rfl⟩ := Kd.R_slice h5
   rw [Int.toNat_natCast] at hc8 h5
   have hc0 : W.cell? ((⟨gc, 0, none⟩ : Addr).add (i * 6 + 0)) = _ := hc8 0 _ rfl
   have hc5 : W.cell? ((⟨gc, 0, none⟩ : Addr).add (i * 6 + 5)) = _ := hc8 5 _ rfl
   rw [add_at, Nat.zero_add, zAE h3] at hc0 hc5
   refine ⟨(A5, _, c5), ⟨(Array.getElem?_eq_some_iff.1 hc0).1, hc5⟩, ?_, nums_of_R h5⟩
   exact hx _ (by rw [List.getD_eq_getElem?_getD, List.getElem?_eq_getElem hi]; exact List.getElem_mem hi)
  refine ⟨gc, fun i => if h : i < xs.length then (key i h).choose else (none, 0, 0), hb, hlo, fun _ => ⟨rfl, h1⟩, fun _ => ⟨cells, h3, fun i hi => ?_⟩, fun i hi => ?_⟩
  ·simp only [dif_pos hi]
   exact (key i hi).choose_spec.1
  ·simp only [dif_pos hi]
   exact (key i hi).choose_spec.2
 ·exact ⟨0, fun _ => (none, 0, 0), hb, hlo, fun h => absurd h hn, fun h => absurd h hn, fun i hi => by omega⟩
end Go.Proofs.Ytphmlkbmnmicpaa.A
namespace Go.Proofs.Ytphmlkbmnmicpaa.A
open Go.RowKit Go.Proofs.YtphmlkbmnmicpaaW.PrintWords Go.Proofs.YtphmlkbmnmicpaaW.PrintLast Go.Proofs.YtphmlkbmnmicpaaW.PrintMore
attribute [local go_sem] max2_int zBH max_two zBL zBB zBA zBI zBG   -- for this text's walks alone
theorem eqA27 (d : Nat) (w : World) (x0 y0 : Int) (x1 y1 : Int) (x2 y2 : Int) (x3 y3 : Int) :
  (Op.equalIn (d + 2) 27 (.agg #[.int .i64 x0, .int .i64 x1, .int .i64 x2, .int .i64 x3]) (.agg #[.int .i64 y0, .int .i64 y1, .int .i64 y2, .int .i64 y3])).run Try.prog w = .ok (x0 == y0 && (x1 == y1 && (x2 == y2 && (x3 == y3)))) w := by
 refine eqA_of Try.underlying27 (by kernel_rfl) ?_
 refine eqf_cons (by rfl) (by go_simp; rfl) (by go_simp; rfl) (by go_simp) ?_
 refine eqf_cons (by rfl) (by go_simp; rfl) (by go_simp; rfl) (by go_simp) ?_
 refine eqf_cons (by rfl) (by go_simp; rfl) (by go_simp; rfl) (by go_simp) ?_
 exact eqf_last (by rfl) (by go_simp; rfl) (by go_simp; rfl) (by go_simp)
end Go.Proofs.Ytphmlkbmnmicpaa.A
namespace Go.Proofs.Ytphmlkbmnmicpaa.A
open Go.RowKit Go.Proofs.YtphmlkbmnmicpaaW.PrintWords Go.Proofs.YtphmlkbmnmicpaaW.PrintLast Go.Shelf
attribute [local go_sem high] eqA27
set_option maxRecDepth 100000 in
set_option maxHeartbeats 8000000 in
theorem rsame_calls (ys : List S37) (t : S27) (hl : ys.length ≤ 4096) (hs : ∀ x ∈ ys, x.f5.length ≤ 1000) (n1 : Nat) (hn1 : n1 = 1) (A : Option Addr) (c : Nat) (B : Option Addr) (b : Nat) (w : World)
  (hA : Kd.C k29 w A n1 [(⟨ys, t⟩ : S29)]) (hc : n1 ≤ c) (hB : Kd.C k29 w B n1 [(⟨ys, t⟩ : S29)]) (hb : n1 ≤ b) :
  Calls Try.prog 12 #[.agg #[.int .i64 0, .slice A n1 c], .agg #[.int .i64 0, .slice B n1 b]] w fun e w' => e = .returned (.bool true) ∧ Below w.heap.size w w' := by
 have hmix : Try.prog.follows .mixedOrders = true := by kernel_rfl
 have hu29 := Try.underlying29
 have hu32 := Try.underlying32
 have hu27 := Try.underlying27
 have hu37 := Try.underlying37
 have hA' := Aside0.mk hA
 have hB' := Aside0.mk hB
 have hs' := Aside0.mk hs
 obtain ⟨n, hn⟩ : ∃ n, ys.length = n := ⟨_, rfl⟩
 have hn' := Aside0.mk hn
 have hl' : n ≤ 4096 := by omega
 have hn1' := Aside0.mk hn1
 have hn2 : n1 ≤ 1 := by omega
 clear hA hB hs hn hl hn1
 obtain ⟨wa, hwa⟩ : ∃ wa, w.alloc (.cells #[.int .i64 0, .slice A n1 c] 32) = wa := ⟨_, rfl⟩
 obtain ⟨wb, hwb⟩ : ∃ wb, wa.alloc (.cells #[.int .i64 0, .slice B n1 b] 32) = wb := ⟨_, rfl⟩
 have Ba := Aside0.mk (show Below w.heap.size w wa by rw [← hwa]; exact zAC (Below.refl _ _) _)
 have Bb := Aside0.mk (show Below wa.heap.size wa wb by rw [← hwb]; exact zAC (Below.refl _ _) _)
 have ba := Aside0.mk (show wa.heap[w.heap.size]? = some (.cells #[.int .i64 0, .slice A n1 c] 32 (0, 0)) by rw [← hwa]; exact zBV _ _)
 have bb := Aside0.mk (show wb.heap[wa.heap.size]? = some (.cells #[.int .i64 0, .slice B n1 b] 32 (0, 0)) by rw [← hwb]; exact zBV _ _)
 have bab := Aside0.mk (zAP ba.out Bb.out)
 have x0 : wb.cell? ⟨w.heap.size, 0, none⟩ = some (.int .i64 0) := (zAE bab.out 0).trans rfl
 have x1 : wb.cell? ⟨w.heap.size, 1, none⟩ = some (.slice A n1 c) := (zAE bab.out 1).trans rfl
 have y0 : wb.cell? ⟨wa.heap.size, 0, none⟩ = some (.int .i64 0) := (zAE bb.out 0).trans rfl
 have y1 : wb.cell? ⟨wa.heap.size, 1, none⟩ = some (.slice B n1 b) := (zAE bb.out 1).trans rfl
 have Hw := Aside0.mk (zAL Ba.out Bb.out)
 have X1 := Aside0.mk x1
 have Y1 := Aside0.mk y1
 go_enter Try.func12, Try.ntmps12
 go_wp2_with fail
 clear x0 x1 y0 y1 hwa hwb
 go_loopw [5] (fun s wr => ∃ i : Nat, s = .int .i64 i ∧ i ≤ n1 ∧ Aside0 (Below wb.heap.size wb wr)) (fun s _ => n1 - (RowKit.intOf s).toNat)
 case atStart => exact ⟨0, rfl, by omega, ⟨Below.refl _ _⟩⟩
 case round =>
  obtain ⟨i, rfl, hi, hBr⟩ := hrel
  have x1 := zAK hBr.out X1.out
  have y1 := zAK hBr.out Y1.out
  by_cases hil : i < n1
  ·have hib : decide ((i : Int) < (n1 : Int)) = true := decide_eq_true (by omega)
   have hrd : zAQ [(⟨ys, t⟩ : S29)] (i : Int) = ⟨ys, t⟩ := by
    obtain rfl : i = 0 := by omega
    rfl
   have HA := Kd.C_below hA'.out (zAL Hw.out hBr.out)
   have HB := Kd.C_below hB'.out (zAL Hw.out hBr.out)
   obtain ⟨ad, Al, cl, rfl, p0, p1, p2, p3, p4, hcl, hCl⟩ := at_T29 HA (i : Int) (by omega) (by omega)
   obtain ⟨bd, Bl, dl, rfl, r0, r1, r2, r3, r4, hdl, hDl⟩ := at_T29 HB (i : Int) (by omega) (by omega)
   rw [hrd, Int.toNat_natCast] at p0 p1 p2 p3 p4 r0 r1 r2 r3 r4
   rw [hrd] at hcl hCl hdl hDl
   have p0 : wr.cell? (ad.add (i * 5)) = some (.slice Al n cl) := by rw [← hn'.out]; exact p0
   have r0 : wr.cell? (bd.add (i * 5)) = some (.slice Bl n dl) := by rw [← hn'.out]; exact r0
   have p1 : wr.cell? ⟨(ad.add (i * 5)).block, (ad.add (i * 5)).off + 1, none⟩ = some (.int .i64 t.f0) := p1
   have p2 : wr.cell? ⟨(ad.add (i * 5)).block, (ad.add (i * 5)).off + 2, none⟩ = some (.int .i64 t.f1) := p2
   have p3 : wr.cell? ⟨(ad.add (i * 5)).block, (ad.add (i * 5)).off + 3, none⟩ = some (.int .i64 t.f2) := p3
   have p4 : wr.cell? ⟨(ad.add (i * 5)).block, (ad.add (i * 5)).off + 4, none⟩ = some (.int .i64 t.f3) := p4
   have r1 : wr.cell? ⟨(bd.add (i * 5)).block, (bd.add (i * 5)).off + 1, none⟩ = some (.int .i64 t.f0) := r1
   have r2 : wr.cell? ⟨(bd.add (i * 5)).block, (bd.add (i * 5)).off + 2, none⟩ = some (.int .i64 t.f1) := r2
   have r3 : wr.cell? ⟨(bd.add (i * 5)).block, (bd.add (i * 5)).off + 3, none⟩ = some (.int .i64 t.f2) := r3
   have r4 : wr.cell? ⟨(bd.add (i * 5)).block, (bd.add (i * 5)).off + 4, none⟩ = some (.int .i64 t.f3) := r4
   have hCl' := Aside0.mk hCl
   have hDl' := Aside0.mk hDl
   have hcl' : n ≤ cl := by rw [← hn'.out]; exact hcl
   have hdl' : n ≤ dl := by rw [← hn'.out]; exact hdl
   have hcells := Aside0.mk (show ∀ W, Below wr.heap.size wr W → W.cell? ⟨w.heap.size, 1, none⟩ = some (.slice (some ad) n1 c) ∧ W.cell? ⟨wa.heap.size, 1, none⟩ = some (.slice (some bd) n1 b) ∧ W.cell? (ad.add (i * 5)) = some (.slice Al n cl) ∧ W.cell? (bd.add (i * 5)) = some (.slice Bl n dl) from fun W hW => ⟨zAK hW x1, zAK hW y1, zAK hW p0, zAK hW r0⟩)
   clear hCl hDl HA HB hrd hcl hdl
   have hBr' := Aside0.mk (show ∀ W, Below wr.heap.size wr W → Below wb.heap.size wb W from fun W hW => zAL hBr.out hW)
   go_wp2_with fail
   refine zCA (n := 30) (S := fun w' => w'.cell? ⟨w.heap.size, 1, none⟩ = some (.slice (some ad) n1 c) ∧ w'.cell? ⟨wa.heap.size, 1, none⟩ = some (.slice (some bd) n1 b) ∧ w'.cell? (ad.add (i * 5)) = some (.slice Al n cl) ∧ w'.cell? (bd.add (i * 5)) = some (.slice Bl n dl) ∧ w'.cell? ⟨(ad.add (i * 5)).block, (ad.add (i * 5)).off + 1, none⟩ = some (.int .i64 t.f0) ∧ w'.cell? ⟨(ad.add (i * 5)).block, (ad.add (i * 5)).off + 2, none⟩ = some (.int .i64 t.f1) ∧ w'.cell? ⟨(ad.add (i * 5)).block, (ad.add (i * 5)).off + 3, none⟩ = some (.int .i64 t.f2) ∧ w'.cell? ⟨(ad.add (i * 5)).block, (ad.add (i * 5)).off + 4, none⟩ = some (.int .i64 t.f3) ∧ w'.cell? ⟨(bd.add (i * 5)).block, (bd.add (i * 5)).off + 1, none⟩ = some (.int .i64 t.f0) ∧ w'.cell? ⟨(bd.add (i * 5)).block, (bd.add (i * 5)).off + 2, none⟩ = some (.int .i64 t.f1) ∧ w'.cell? ⟨(bd.add (i * 5)).block, (bd.add (i * 5)).off + 3, none⟩ = some (.int .i64 t.f2) ∧ w'.cell? ⟨(bd.add (i * 5)).block, (bd.add (i * 5)).off + 4, none⟩ = some (.int .i64 t.f3)) (ds := []) #[fF,fF,fF,fF,fF,fF,fF,fF,fF,fF,fF,fF,fF,fF,fF,fF,fF,fF,fF,fF,fF,fF,fF,fF,fF,fF,fF,fF,fF,fF] hmix rfl rfl ⟨x1, y1, p0, r0, p1, p2, p3, p4, r1, r2, r3, r4⟩ (fun hHeld => ?_)
   have BW := Aside0.mk (show Below wr.heap.size wr wr.drew from zAA (Below.refl _ _) 1)
   clear x1 y1 p0 p1 p2 p3 p4 r0 r1 r2 r3 r4 hBr
   obtain ⟨w0, hw0⟩ : ∃ w0, wr = w0 := ⟨_, rfl⟩
   rw [hw0] at BW hHeld hcells hBr' hCl' hDl' ⊢
   clear hw0
   generalize w0.drew = W1 at BW hHeld ⊢
   refine pure_ (i := 0) (N := some 29) (v := ?_) (a' := ?_) #[tT,fF,fF,fF,fF,fF,fF,fF,fF,fF,fF,fF,fF,fF,fF,fF,fF,fF,fF,fF,fF,fF,fF,fF,fF,fF,fF,fF,fF,fF] rfl rfl (by kernel_rfl) (fun _ _ _ h => h) (Or.inl ⟨by rfl, ?_⟩) ?_ ?_
   rotate_left
   ·intro w'
    go_simp
    try with_reducible rfl
   rotate_left
   ·simp only [Act.put, List.setIfInBounds_toArray, List.set_cons_zero, List.set_cons_succ, i64_w, i32_w]
    rfl
   refine take_ (i := 1) (N := some 30) (v := ?_) (a' := ?_) #[tT,tT,fF,fF,fF,fF,fF,fF,fF,fF,fF,fF,fF,fF,fF,fF,fF,fF,fF,fF,fF,fF,fF,fF,fF,fF,fF,fF,fF,fF] rfl rfl (by kernel_rfl) (fun _ _ _ h => h) (Or.inl ⟨by rfl, ?_⟩) hHeld ?_ ?_
   rotate_left
   ·rintro w' ⟨s0, s1, s2, s3, s4, s5, s6, s7, s8, s9, s10, s11⟩
    go_simp
    try with_reducible rfl
   rotate_left
   ·simp only [Act.put, List.setIfInBounds_toArray, List.set_cons_zero, List.set_cons_succ, i64_w, i32_w]
    rfl
   refine pure_ (i := 2) (N := some 31) (v := ?_) (a' := ?_) #[tT,tT,tT,fF,fF,fF,fF,fF,fF,fF,fF,fF,fF,fF,fF,fF,fF,fF,fF,fF,fF,fF,fF,fF,fF,fF,fF,fF,fF,fF] rfl rfl (by kernel_rfl) (fun _ _ _ h => h) (Or.inl ⟨by rfl, ?_⟩) ?_ ?_
   rotate_left
   ·intro w'
    go_simp
    try with_reducible rfl
   rotate_left
   ·simp only [Act.put, List.setIfInBounds_toArray, List.set_cons_zero, List.set_cons_succ, i64_w, i32_w]
    rfl
   refine pure_ (i := 3) (N := some 32) (v := ?_) (a' := ?_) #[tT,tT,tT,tT,fF,fF,fF,fF,fF,fF,fF,fF,fF,fF,fF,fF,fF,fF,fF,fF,fF,fF,fF,fF,fF,fF,fF,fF,fF,fF] rfl rfl (by kernel_rfl) (fun _ _ _ h => h) (Or.inl ⟨by rfl, ?_⟩) ?_ ?_
   rotate_left
   ·intro w'
    go_simp
    try with_reducible rfl
   rotate_left
   ·simp only [Act.put, List.setIfInBounds_toArray, List.set_cons_zero, List.set_cons_succ, i64_w, i32_w]
    rfl
   refine pure_ (i := 4) (N := some 33) (v := ?_) (a' := ?_) #[tT,tT,tT,tT,tT,fF,fF,fF,fF,fF,fF,fF,fF,fF,fF,fF,fF,fF,fF,fF,fF,fF,fF,fF,fF,fF,fF,fF,fF,fF] rfl rfl (by kernel_rfl) (fun _ _ _ h => h) (Or.inl ⟨by rfl, ?_⟩) ?_ ?_
   rotate_left
   ·intro w'
    go_simp
    try with_reducible rfl
   rotate_left
   ·simp only [Act.put, List.setIfInBounds_toArray, List.set_cons_zero, List.set_cons_succ, i64_w, i32_w]
    rfl
   refine take_ (i := 5) (N := some 34) (v := ?_) (a' := ?_) #[tT,tT,tT,tT,tT,tT,fF,fF,fF,fF,fF,fF,fF,fF,fF,fF,fF,fF,fF,fF,fF,fF,fF,fF,fF,fF,fF,fF,fF,fF] rfl rfl (by kernel_rfl) (fun _ _ _ h => h) (Or.inl ⟨by rfl, ?_⟩) hHeld ?_ ?_
   rotate_left
   ·rintro w' ⟨s0, s1, s2, s3, s4, s5, s6, s7, s8, s9, s10, s11⟩
    go_simp
    try with_reducible rfl
   rotate_left
   ·simp only [Act.put, List.setIfInBounds_toArray, List.set_cons_zero, List.set_cons_succ, i64_w, i32_w]
    rfl
   refine pure_ (i := 6) (N := some 35) (v := ?_) (a' := ?_) #[tT,tT,tT,tT,tT,tT,tT,fF,fF,fF,fF,fF,fF,fF,fF,fF,fF,fF,fF,fF,fF,fF,fF,fF,fF,fF,fF,fF,fF,fF] rfl rfl (by kernel_rfl) (fun _ _ _ h => h) (Or.inl ⟨by rfl, ?_⟩) ?_ ?_
   rotate_left
   ·intro w'
    go_simp
    try with_reducible rfl
   rotate_left
   ·simp only [Act.put, List.setIfInBounds_toArray, List.set_cons_zero, List.set_cons_succ, i64_w, i32_w]
    rfl
   refine take_ (i := 7) (N := some 36) (v := ?_) (a' := ?_) #[tT,tT,tT,tT,tT,tT,tT,tT,fF,fF,fF,fF,fF,fF,fF,fF,fF,fF,fF,fF,fF,fF,fF,fF,fF,fF,fF,fF,fF,fF] rfl rfl (by kernel_rfl) (fun _ _ _ h => h) (Or.inl ⟨by rfl, ?_⟩) hHeld ?_ ?_
   rotate_left
   ·rintro w' ⟨s0, s1, s2, s3, s4, s5, s6, s7, s8, s9, s10, s11⟩
    go_simp
    try with_reducible rfl
   rotate_left
   ·simp only [Act.put, List.setIfInBounds_toArray, List.set_cons_zero, List.set_cons_succ, i64_w, i32_w]
    rfl
   refine pure_ (i := 8) (N := some 37) (v := ?_) (a' := ?_) #[tT,tT,tT,tT,tT,tT,tT,tT,tT,fF,fF,fF,fF,fF,fF,fF,fF,fF,fF,fF,fF,fF,fF,fF,fF,fF,fF,fF,fF,fF] rfl rfl (by kernel_rfl) (fun _ _ _ h => h) (Or.inl ⟨by rfl, ?_⟩) ?_ ?_
   rotate_left
   ·intro w'
    go_simp
    try with_reducible rfl
   rotate_left
   ·simp only [Act.put, List.setIfInBounds_toArray, List.set_cons_zero, List.set_cons_succ, i64_w, i32_w]
    rfl
   refine pure_ (i := 9) (N := some 38) (v := ?_) (a' := ?_) #[tT,tT,tT,tT,tT,tT,tT,tT,tT,tT,fF,fF,fF,fF,fF,fF,fF,fF,fF,fF,fF,fF,fF,fF,fF,fF,fF,fF,fF,fF] rfl rfl (by kernel_rfl) (fun _ _ _ h => h) (Or.inl ⟨by rfl, ?_⟩) ?_ ?_
   rotate_left
   ·intro w'
    go_simp
    try with_reducible rfl
   rotate_left
   ·simp only [Act.put, List.setIfInBounds_toArray, List.set_cons_zero, List.set_cons_succ, i64_w, i32_w]
    rfl
   refine pure_ (i := 10) (N := some 39) (v := ?_) (a' := ?_) #[tT,tT,tT,tT,tT,tT,tT,tT,tT,tT,tT,fF,fF,fF,fF,fF,fF,fF,fF,fF,fF,fF,fF,fF,fF,fF,fF,fF,fF,fF] rfl rfl (by kernel_rfl) (fun _ _ _ h => h) (Or.inl ⟨by rfl, ?_⟩) ?_ ?_
   rotate_left
   ·intro w'
    go_simp
    try with_reducible rfl
   rotate_left
   ·simp only [Act.put, List.setIfInBounds_toArray, List.set_cons_zero, List.set_cons_succ, i64_w, i32_w]
    rfl
   refine take_ (i := 11) (N := some 40) (v := ?_) (a' := ?_) #[tT,tT,tT,tT,tT,tT,tT,tT,tT,tT,tT,tT,fF,fF,fF,fF,fF,fF,fF,fF,fF,fF,fF,fF,fF,fF,fF,fF,fF,fF] rfl rfl (by kernel_rfl) (fun _ _ _ h => h) (Or.inl ⟨by rfl, ?_⟩) hHeld ?_ ?_
   rotate_left
   ·rintro w' ⟨s0, s1, s2, s3, s4, s5, s6, s7, s8, s9, s10, s11⟩
    go_simp
    try with_reducible rfl
   rotate_left
   ·simp only [Act.put, List.setIfInBounds_toArray, List.set_cons_zero, List.set_cons_succ, i64_w, i32_w]
    rfl
   refine pure_ (i := 12) (N := some 41) (v := .bool false) (a' := ?_) #[tT,tT,tT,tT,tT,tT,tT,tT,tT,tT,tT,tT,tT,fF,fF,fF,fF,fF,fF,fF,fF,fF,fF,fF,fF,fF,fF,fF,fF,fF] rfl rfl (by kernel_rfl) (fun _ _ _ h => h) (Or.inl ⟨by rfl, ?_⟩) ?_ ?_
   ·intro w'
    go_simp
    first | done | (with_reducible rfl) | (simp only [*, decide_true, decide_false, if_true, if_false]; done) | (simp [*]; done) | omega | (unfold wrap64; omega)
   rotate_left
   ·simp only [Act.put, List.setIfInBounds_toArray, List.set_cons_zero, List.set_cons_succ, i64_w, i32_w]
    rfl
   refine pure_ (i := 13) (N := some 42) (v := ?_) (a' := ?_) #[tT,tT,tT,tT,tT,tT,tT,tT,tT,tT,tT,tT,tT,tT,fF,fF,fF,fF,fF,fF,fF,fF,fF,fF,fF,fF,fF,fF,fF,fF] rfl rfl (by kernel_rfl) (fun _ _ _ h => h) (Or.inl ⟨by rfl, ?_⟩) ?_ ?_
   rotate_left
   ·intro w'
    go_simp
    try with_reducible rfl
   rotate_left
   ·simp only [Act.put, List.setIfInBounds_toArray, List.set_cons_zero, List.set_cons_succ, i64_w, i32_w]
    rfl
   refine pure_ (i := 14) (N := some 43) (v := ?_) (a' := ?_) #[tT,tT,tT,tT,tT,tT,tT,tT,tT,tT,tT,tT,tT,tT,tT,fF,fF,fF,fF,fF,fF,fF,fF,fF,fF,fF,fF,fF,fF,fF] rfl rfl (by kernel_rfl) (fun _ _ _ h => h) (Or.inl ⟨by rfl, ?_⟩) ?_ ?_
   rotate_left
   ·intro w'
    go_simp
    try with_reducible rfl
   rotate_left
   ·simp only [Act.put, List.setIfInBounds_toArray, List.set_cons_zero, List.set_cons_succ, i64_w, i32_w]
    rfl
   refine take_ (i := 15) (N := some 44) (v := ?_) (a' := ?_) #[tT,tT,tT,tT,tT,tT,tT,tT,tT,tT,tT,tT,tT,tT,tT,tT,fF,fF,fF,fF,fF,fF,fF,fF,fF,fF,fF,fF,fF,fF] rfl rfl (by kernel_rfl) (fun _ _ _ h => h) (Or.inl ⟨by rfl, ?_⟩) hHeld ?_ ?_
   rotate_left
   ·rintro w' ⟨s0, s1, s2, s3, s4, s5, s6, s7, s8, s9, s10, s11⟩
    go_simp
    try with_reducible rfl
   rotate_left
   ·simp only [Act.put, List.setIfInBounds_toArray, List.set_cons_zero, List.set_cons_succ, i64_w, i32_w]
    rfl
   refine pure_ (i := 16) (N := some 45) (v := ?_) (a' := ?_) #[tT,tT,tT,tT,tT,tT,tT,tT,tT,tT,tT,tT,tT,tT,tT,tT,tT,fF,fF,fF,fF,fF,fF,fF,fF,fF,fF,fF,fF,fF] rfl rfl (by kernel_rfl) (fun _ _ _ h => h) (Or.inl ⟨by rfl, ?_⟩) ?_ ?_
   rotate_left
   ·intro w'
    go_simp
    try with_reducible rfl
   rotate_left
   ·simp only [Act.put, List.setIfInBounds_toArray, List.set_cons_zero, List.set_cons_succ, i64_w, i32_w]
    rfl
   refine pure_ (i := 17) (N := some 46) (v := ?_) (a' := ?_) #[tT,tT,tT,tT,tT,tT,tT,tT,tT,tT,tT,tT,tT,tT,tT,tT,tT,tT,fF,fF,fF,fF,fF,fF,fF,fF,fF,fF,fF,fF] rfl rfl (by kernel_rfl) (fun _ _ _ h => h) (Or.inl ⟨by rfl, ?_⟩) ?_ ?_
   rotate_left
   ·intro w'
    go_simp
    try with_reducible rfl
   rotate_left
   ·simp only [Act.put, List.setIfInBounds_toArray, List.set_cons_zero, List.set_cons_succ, i64_w, i32_w]
    rfl
   refine pure_ (i := 18) (N := some 47) (v := ?_) (a' := ?_) #[tT,tT,tT,tT,tT,tT,tT,tT,tT,tT,tT,tT,tT,tT,tT,tT,tT,tT,tT,fF,fF,fF,fF,fF,fF,fF,fF,fF,fF,fF] rfl rfl (by kernel_rfl) (fun _ _ _ h => h) (Or.inl ⟨by rfl, ?_⟩) ?_ ?_
   rotate_left
   ·intro w'
    go_simp
    try with_reducible rfl
   rotate_left
   ·simp only [Act.put, List.setIfInBounds_toArray, List.set_cons_zero, List.set_cons_succ, i64_w, i32_w]
    rfl
   refine take_ (i := 19) (N := some 48) (v := ?_) (a' := ?_) #[tT,tT,tT,tT,tT,tT,tT,tT,tT,tT,tT,tT,tT,tT,tT,tT,tT,tT,tT,tT,fF,fF,fF,fF,fF,fF,fF,fF,fF,fF] rfl rfl (by kernel_rfl) (fun _ _ _ h => h) (Or.inl ⟨by rfl, ?_⟩) hHeld ?_ ?_
   rotate_left
   ·rintro w' ⟨s0, s1, s2, s3, s4, s5, s6, s7, s8, s9, s10, s11⟩
    go_simp
    try with_reducible rfl
   rotate_left
   ·simp only [Act.put, List.setIfInBounds_toArray, List.set_cons_zero, List.set_cons_succ, i64_w, i32_w]
    rfl
   refine pure_ (i := 20) (N := some 49) (v := ?_) (a' := ?_) #[tT,tT,tT,tT,tT,tT,tT,tT,tT,tT,tT,tT,tT,tT,tT,tT,tT,tT,tT,tT,tT,fF,fF,fF,fF,fF,fF,fF,fF,fF] rfl rfl (by kernel_rfl) (fun _ _ _ h => h) (Or.inl ⟨by rfl, ?_⟩) ?_ ?_
   rotate_left
   ·intro w'
    go_simp
    try with_reducible rfl
   rotate_left
   ·simp only [Act.put, List.setIfInBounds_toArray, List.set_cons_zero, List.set_cons_succ, i64_w, i32_w]
    rfl
   refine pure_ (i := 21) (N := some 50) (v := ?_) (a' := ?_) #[tT,tT,tT,tT,tT,tT,tT,tT,tT,tT,tT,tT,tT,tT,tT,tT,tT,tT,tT,tT,tT,tT,fF,fF,fF,fF,fF,fF,fF,fF] rfl rfl (by kernel_rfl) (fun _ _ _ h => h) (Or.inl ⟨by rfl, ?_⟩) ?_ ?_
   rotate_left
   ·intro w'
    go_simp
    try with_reducible rfl
   rotate_left
   ·simp only [Act.put, List.setIfInBounds_toArray, List.set_cons_zero, List.set_cons_succ, i64_w, i32_w]
    rfl
   refine take_ (i := 22) (N := some 51) (v := ?_) (a' := ?_) #[tT,tT,tT,tT,tT,tT,tT,tT,tT,tT,tT,tT,tT,tT,tT,tT,tT,tT,tT,tT,tT,tT,tT,fF,fF,fF,fF,fF,fF,fF] rfl rfl (by kernel_rfl) (fun _ _ _ h => h) (Or.inl ⟨by rfl, ?_⟩) hHeld ?_ ?_
   rotate_left
   ·rintro w' ⟨s0, s1, s2, s3, s4, s5, s6, s7, s8, s9, s10, s11⟩
    go_simp
    try with_reducible rfl
   rotate_left
   ·simp only [Act.put, List.setIfInBounds_toArray, List.set_cons_zero, List.set_cons_succ, i64_w, i32_w]
    rfl
   refine pure_ (i := 23) (N := some 52) (v := ?_) (a' := ?_) #[tT,tT,tT,tT,tT,tT,tT,tT,tT,tT,tT,tT,tT,tT,tT,tT,tT,tT,tT,tT,tT,tT,tT,tT,fF,fF,fF,fF,fF,fF] rfl rfl (by kernel_rfl) (fun _ _ _ h => h) (Or.inl ⟨by rfl, ?_⟩) ?_ ?_
   rotate_left
   ·intro w'
    go_simp
    try with_reducible rfl
   rotate_left
   ·simp only [Act.put, List.setIfInBounds_toArray, List.set_cons_zero, List.set_cons_succ, i64_w, i32_w]
    rfl
   refine pure_ (i := 24) (N := some 53) (v := ?_) (a' := ?_) #[tT,tT,tT,tT,tT,tT,tT,tT,tT,tT,tT,tT,tT,tT,tT,tT,tT,tT,tT,tT,tT,tT,tT,tT,tT,fF,fF,fF,fF,fF] rfl rfl (by kernel_rfl) (fun _ _ _ h => h) (Or.inl ⟨by rfl, ?_⟩) ?_ ?_
   rotate_left
   ·intro w'
    go_simp
    try with_reducible rfl
   rotate_left
   ·simp only [Act.put, List.setIfInBounds_toArray, List.set_cons_zero, List.set_cons_succ, i64_w, i32_w]
    rfl
   refine pure_ (i := 25) (N := some 54) (v := ?_) (a' := ?_) #[tT,tT,tT,tT,tT,tT,tT,tT,tT,tT,tT,tT,tT,tT,tT,tT,tT,tT,tT,tT,tT,tT,tT,tT,tT,tT,fF,fF,fF,fF] rfl rfl (by kernel_rfl) (fun _ _ _ h => h) (Or.inl ⟨by rfl, ?_⟩) ?_ ?_
   rotate_left
   ·intro w'
    go_simp
    try with_reducible rfl
   rotate_left
   ·simp only [Act.put, List.setIfInBounds_toArray, List.set_cons_zero, List.set_cons_succ, i64_w, i32_w]
    rfl
   refine take_ (i := 26) (N := some 55) (v := ?_) (a' := ?_) #[tT,tT,tT,tT,tT,tT,tT,tT,tT,tT,tT,tT,tT,tT,tT,tT,tT,tT,tT,tT,tT,tT,tT,tT,tT,tT,tT,fF,fF,fF] rfl rfl (by kernel_rfl) (fun _ _ _ h => h) (Or.inl ⟨by rfl, ?_⟩) hHeld ?_ ?_
   rotate_left
   ·rintro w' ⟨s0, s1, s2, s3, s4, s5, s6, s7, s8, s9, s10, s11⟩
    go_simp
    try with_reducible rfl
   rotate_left
   ·simp only [Act.put, List.setIfInBounds_toArray, List.set_cons_zero, List.set_cons_succ, i64_w, i32_w]
    rfl
   refine pure_ (i := 27) (N := some 56) (v := ?_) (a' := ?_) #[tT,tT,tT,tT,tT,tT,tT,tT,tT,tT,tT,tT,tT,tT,tT,tT,tT,tT,tT,tT,tT,tT,tT,tT,tT,tT,tT,tT,fF,fF] rfl rfl (by kernel_rfl) (fun _ _ _ h => h) (Or.inl ⟨by rfl, ?_⟩) ?_ ?_
   rotate_left
   ·intro w'
    go_simp
    try with_reducible rfl
   rotate_left
   ·simp only [Act.put, List.setIfInBounds_toArray, List.set_cons_zero, List.set_cons_succ, i64_w, i32_w]
    rfl
   refine pure_ (i := 28) (N := some 57) (v := .bool false) (a' := ?_) #[tT,tT,tT,tT,tT,tT,tT,tT,tT,tT,tT,tT,tT,tT,tT,tT,tT,tT,tT,tT,tT,tT,tT,tT,tT,tT,tT,tT,tT,fF] rfl rfl (by kernel_rfl) (fun _ _ _ h => h) (Or.inl ⟨by rfl, ?_⟩) ?_ ?_
   ·intro w'
    go_simp
    first | done | (with_reducible rfl) | (simp only [*, decide_true, decide_false, if_true, if_false]; done) | (simp [*]; done) | omega | (unfold wrap64; omega)
   rotate_left
   ·simp only [Act.put, List.setIfInBounds_toArray, List.set_cons_zero, List.set_cons_succ, i64_w, i32_w]
    rfl
   refine pure_ (i := 29) (N := some 58) (v := .bool false) (a' := ?_) #[tT,tT,tT,tT,tT,tT,tT,tT,tT,tT,tT,tT,tT,tT,tT,tT,tT,tT,tT,tT,tT,tT,tT,tT,tT,tT,tT,tT,tT,tT] rfl rfl (by kernel_rfl) (fun _ _ _ h => h) (Or.inl ⟨by rfl, ?_⟩) ?_ ?_
   ·intro w'
    go_simp
    first | done | (with_reducible rfl) | (simp only [*, decide_true, decide_false, if_true, if_false]; done) | (simp [*]; done) | omega | (unfold wrap64; omega)
   rotate_left
   ·simp only [Act.put, List.setIfInBounds_toArray, List.set_cons_zero, List.set_cons_succ, i64_w, i32_w]
    rfl
   refine done_ (by kernel_rfl) ?_
   clear hHeld
   go_wp2_with fail
   go_loopw [6, 7] (fun s _ wr => ∃ j : Nat, s = .int .i64 j ∧ j ≤ n ∧ Aside0 (Below w0.heap.size w0 wr)) (fun s _ _ => n - (RowKit.intOf s).toNat)
   case atStart => exact ⟨0, rfl, by omega, BW⟩
   case round =>
    clear BW
    obtain ⟨j, rfl, hj, hBw⟩ := hrel
    obtain ⟨x1, y1, p0, r0⟩ := hcells.out _ hBw.out
    by_cases hjl : j < n
    ·have hjb : decide ((j : Int) < (n : Int)) = true := decide_eq_true (by omega)
     obtain ⟨al, A5, c5, rfl, q0, q1, q2, q3, q4, q5, q6, q7⟩ := zBT (Kd.C_below hCl'.out hBw.out) (j : Int) (by omega) (by have := hn'.out; show (j : Int) < ys.length; omega)
     obtain ⟨bl, B5, d5, rfl, u0, u1, u2, u3, u4, u5, u6, u7⟩ := zBT (Kd.C_below hDl'.out hBw.out) (j : Int) (by omega) (by have := hn'.out; show (j : Int) < ys.length; omega)
     rw [Int.toNat_natCast] at q0 q1 q2 q3 q4 q5 u0 u1 u2 u3 u4 u5
     have hxs := Aside0.mk (hs'.out _ (rd37_mem ys j (by have := hn'.out; omega)))
     generalize zAF ys (j : Int) = x at q0 q1 q2 q3 q4 q5 q6 q7 u0 u1 u2 u3 u4 u5 u6 u7 hxs
     have q7' := Aside0.mk q7
     have u7' := Aside0.mk u7
     clear q7 u7
     go_wp2_with fail
     refine zCA (n := 20) (S := fun w' => w'.cell? ⟨w.heap.size, 1, none⟩ = some (.slice (some ad) n1 c) ∧ w'.cell? ⟨wa.heap.size, 1, none⟩ = some (.slice (some bd) n1 b) ∧ w'.cell? (ad.add (i * 5)) = some (.slice (some al) n cl) ∧ w'.cell? (bd.add (i * 5)) = some (.slice (some bl) n dl) ∧ w'.cell? (al.add (j * 6)) = some (.int .i64 x.f0) ∧ w'.cell? ⟨(al.add (j * 6)).block, (al.add (j * 6)).off + 1, none⟩ = some (.int .i64 x.f1) ∧ w'.cell? ⟨(al.add (j * 6)).block, (al.add (j * 6)).off + 2, none⟩ = some (.int .i64 x.f2) ∧ w'.cell? ⟨(al.add (j * 6)).block, (al.add (j * 6)).off + 3, none⟩ = some (.int .i64 x.f3) ∧ w'.cell? ⟨(al.add (j * 6)).block, (al.add (j * 6)).off + 4, none⟩ = some (.int .i64 x.f4) ∧ w'.cell? ⟨(al.add (j * 6)).block, (al.add (j * 6)).off + 5, none⟩ = some (.slice A5 x.f5.length c5) ∧ w'.cell? (bl.add (j * 6)) = some (.int .i64 x.f0) ∧ w'.cell? ⟨(bl.add (j * 6)).block, (bl.add (j * 6)).off + 1, none⟩ = some (.int .i64 x.f1) ∧ w'.cell? ⟨(bl.add (j * 6)).block, (bl.add (j * 6)).off + 2, none⟩ = some (.int .i64 x.f2) ∧ w'.cell? ⟨(bl.add (j * 6)).block, (bl.add (j * 6)).off + 3, none⟩ = some (.int .i64 x.f3) ∧ w'.cell? ⟨(bl.add (j * 6)).block, (bl.add (j * 6)).off + 4, none⟩ = some (.int .i64 x.f4) ∧ w'.cell? ⟨(bl.add (j * 6)).block, (bl.add (j * 6)).off + 5, none⟩ = some (.slice B5 x.f5.length d5)) (ds := []) #[fF,fF,fF,fF,fF,fF,fF,fF,fF,fF,fF,fF,fF,fF,fF,fF,fF,fF,fF,fF] hmix rfl rfl ⟨x1, y1, p0, r0, q0, q1, q2, q3, q4, q5, u0, u1, u2, u3, u4, u5⟩ (fun hHeld => ?_)
     have BW := Aside0.mk (show Below w0.heap.size w0 wr.drew from zAL hBw.out (zAA (Below.refl _ _) 1))
     have q8 := Aside0.mk (Kd.C_below q7'.out (show Below wr.heap.size wr wr.drew from zAA (Below.refl _ _) 1))
     have u8 := Aside0.mk (Kd.C_below u7'.out (show Below wr.heap.size wr wr.drew from zAA (Below.refl _ _) 1))
     clear x1 y1 p0 r0 q0 q1 q2 q3 q4 q5 u0 u1 u2 u3 u4 u5 q7' u7' hBw
     generalize wr.drew = W1 at BW q8 u8 hHeld ⊢
     refine pure_ (i := 0) (N := some 70) (v := ?_) (a' := ?_) #[tT,fF,fF,fF,fF,fF,fF,fF,fF,fF,fF,fF,fF,fF,fF,fF,fF,fF,fF,fF] rfl rfl (by kernel_rfl) (fun _ _ _ h => h) (Or.inl ⟨by rfl, ?_⟩) ?_ ?_
     rotate_left
     ·intro w'
      go_simp
      try with_reducible rfl
     rotate_left
     ·simp only [Act.put, List.setIfInBounds_toArray, List.set_cons_zero, List.set_cons_succ, i64_w, i32_w]
      rfl
     refine take_ (i := 1) (N := some 71) (v := ?_) (a' := ?_) #[tT,tT,fF,fF,fF,fF,fF,fF,fF,fF,fF,fF,fF,fF,fF,fF,fF,fF,fF,fF] rfl rfl (by kernel_rfl) (fun _ _ _ h => h) (Or.inl ⟨by rfl, ?_⟩) hHeld ?_ ?_
     rotate_left
     ·rintro w' ⟨s0, s1, s2, s3, s4, s5, s6, s7, s8, s9, s10, s11, s12, s13, s14, s15⟩
      go_simp
      try with_reducible rfl
     rotate_left
     ·simp only [Act.put, List.setIfInBounds_toArray, List.set_cons_zero, List.set_cons_succ, i64_w, i32_w]
      rfl
     refine pure_ (i := 2) (N := some 72) (v := ?_) (a' := ?_) #[tT,tT,tT,fF,fF,fF,fF,fF,fF,fF,fF,fF,fF,fF,fF,fF,fF,fF,fF,fF] rfl rfl (by kernel_rfl) (fun _ _ _ h => h) (Or.inl ⟨by rfl, ?_⟩) ?_ ?_
     rotate_left
     ·intro w'
      go_simp
      try with_reducible rfl
     rotate_left
     ·simp only [Act.put, List.setIfInBounds_toArray, List.set_cons_zero, List.set_cons_succ, i64_w, i32_w]
      rfl
     refine pure_ (i := 3) (N := some 73) (v := ?_) (a' := ?_) #[tT,tT,tT,tT,fF,fF,fF,fF,fF,fF,fF,fF,fF,fF,fF,fF,fF,fF,fF,fF] rfl rfl (by kernel_rfl) (fun _ _ _ h => h) (Or.inl ⟨by rfl, ?_⟩) ?_ ?_
     rotate_left
     ·intro w'
      go_simp
      try with_reducible rfl
     rotate_left
     ·simp only [Act.put, List.setIfInBounds_toArray, List.set_cons_zero, List.set_cons_succ, i64_w, i32_w]
      rfl
     refine pure_ (i := 4) (N := some 74) (v := ?_) (a' := ?_) #[tT,tT,tT,tT,tT,fF,fF,fF,fF,fF,fF,fF,fF,fF,fF,fF,fF,fF,fF,fF] rfl rfl (by kernel_rfl) (fun _ _ _ h => h) (Or.inl ⟨by rfl, ?_⟩) ?_ ?_
     rotate_left
     ·intro w'
      go_simp
      try with_reducible rfl
     rotate_left
     ·simp only [Act.put, List.setIfInBounds_toArray, List.set_cons_zero, List.set_cons_succ, i64_w, i32_w]
      rfl
     refine take_ (i := 5) (N := some 75) (v := ?_) (a' := ?_) #[tT,tT,tT,tT,tT,tT,fF,fF,fF,fF,fF,fF,fF,fF,fF,fF,fF,fF,fF,fF] rfl rfl (by kernel_rfl) (fun _ _ _ h => h) (Or.inl ⟨by rfl, ?_⟩) hHeld ?_ ?_
     rotate_left
     ·rintro w' ⟨s0, s1, s2, s3, s4, s5, s6, s7, s8, s9, s10, s11, s12, s13, s14, s15⟩
      go_simp
      try with_reducible rfl
     rotate_left
     ·simp only [Act.put, List.setIfInBounds_toArray, List.set_cons_zero, List.set_cons_succ, i64_w, i32_w]
      rfl
     refine pure_ (i := 6) (N := some 76) (v := ?_) (a' := ?_) #[tT,tT,tT,tT,tT,tT,tT,fF,fF,fF,fF,fF,fF,fF,fF,fF,fF,fF,fF,fF] rfl rfl (by kernel_rfl) (fun _ _ _ h => h) (Or.inl ⟨by rfl, ?_⟩) ?_ ?_
     rotate_left
     ·intro w'
      go_simp
      try with_reducible rfl
     rotate_left
     ·simp only [Act.put, List.setIfInBounds_toArray, List.set_cons_zero, List.set_cons_succ, i64_w, i32_w]
      rfl
     refine pure_ (i := 7) (N := some 77) (v := ?_) (a' := ?_) #[tT,tT,tT,tT,tT,tT,tT,tT,fF,fF,fF,fF,fF,fF,fF,fF,fF,fF,fF,fF] rfl rfl (by kernel_rfl) (fun _ _ _ h => h) (Or.inl ⟨by rfl, ?_⟩) ?_ ?_
     rotate_left
     ·intro w'
      go_simp
      try with_reducible rfl
     rotate_left
     ·simp only [Act.put, List.setIfInBounds_toArray, List.set_cons_zero, List.set_cons_succ, i64_w, i32_w]
      rfl
     refine take_ (i := 8) (N := some 78) (v := ?_) (a' := ?_) #[tT,tT,tT,tT,tT,tT,tT,tT,tT,fF,fF,fF,fF,fF,fF,fF,fF,fF,fF,fF] rfl rfl (by kernel_rfl) (fun _ _ _ h => h) (Or.inl ⟨by rfl, ?_⟩) hHeld ?_ ?_
     rotate_left
     ·rintro w' ⟨s0, s1, s2, s3, s4, s5, s6, s7, s8, s9, s10, s11, s12, s13, s14, s15⟩
      go_simp
      try with_reducible rfl
     rotate_left
     ·simp only [Act.put, List.setIfInBounds_toArray, List.set_cons_zero, List.set_cons_succ, i64_w, i32_w]
      rfl
     refine pure_ (i := 9) (N := some 79) (v := ?_) (a' := ?_) #[tT,tT,tT,tT,tT,tT,tT,tT,tT,tT,fF,fF,fF,fF,fF,fF,fF,fF,fF,fF] rfl rfl (by kernel_rfl) (fun _ _ _ h => h) (Or.inl ⟨by rfl, ?_⟩) ?_ ?_
     rotate_left
     ·intro w'
      go_simp
      try with_reducible rfl
     rotate_left
     ·simp only [Act.put, List.setIfInBounds_toArray, List.set_cons_zero, List.set_cons_succ, i64_w, i32_w]
      rfl
     refine take_ (i := 10) (N := some 80) (v := ?_) (a' := ?_) #[tT,tT,tT,tT,tT,tT,tT,tT,tT,tT,tT,fF,fF,fF,fF,fF,fF,fF,fF,fF] rfl rfl (by kernel_rfl) (fun _ _ _ h => h) (Or.inl ⟨by rfl, ?_⟩) hHeld ?_ ?_
     rotate_left
     ·rintro w' ⟨s0, s1, s2, s3, s4, s5, s6, s7, s8, s9, s10, s11, s12, s13, s14, s15⟩
      go_simp
      try with_reducible rfl
     rotate_left
     ·simp only [Act.put, List.setIfInBounds_toArray, List.set_cons_zero, List.set_cons_succ, i64_w, i32_w]
      rfl
     refine pure_ (i := 11) (N := some 81) (v := ?_) (a' := ?_) #[tT,tT,tT,tT,tT,tT,tT,tT,tT,tT,tT,tT,fF,fF,fF,fF,fF,fF,fF,fF] rfl rfl (by kernel_rfl) (fun _ _ _ h => h) (Or.inl ⟨by rfl, ?_⟩) ?_ ?_
     rotate_left
     ·intro w'
      go_simp
      try with_reducible rfl
     rotate_left
     ·simp only [Act.put, List.setIfInBounds_toArray, List.set_cons_zero, List.set_cons_succ, i64_w, i32_w]
      rfl
     refine pure_ (i := 12) (N := some 82) (v := ?_) (a' := ?_) #[tT,tT,tT,tT,tT,tT,tT,tT,tT,tT,tT,tT,tT,fF,fF,fF,fF,fF,fF,fF] rfl rfl (by kernel_rfl) (fun _ _ _ h => h) (Or.inl ⟨by rfl, ?_⟩) ?_ ?_
     rotate_left
     ·intro w'
      go_simp
      try with_reducible rfl
     rotate_left
     ·simp only [Act.put, List.setIfInBounds_toArray, List.set_cons_zero, List.set_cons_succ, i64_w, i32_w]
      rfl
     refine pure_ (i := 13) (N := some 83) (v := ?_) (a' := ?_) #[tT,tT,tT,tT,tT,tT,tT,tT,tT,tT,tT,tT,tT,tT,fF,fF,fF,fF,fF,fF] rfl rfl (by kernel_rfl) (fun _ _ _ h => h) (Or.inl ⟨by rfl, ?_⟩) ?_ ?_
     rotate_left
     ·intro w'
      go_simp
      try with_reducible rfl
     rotate_left
     ·simp only [Act.put, List.setIfInBounds_toArray, List.set_cons_zero, List.set_cons_succ, i64_w, i32_w]
      rfl
     refine take_ (i := 14) (N := some 84) (v := ?_) (a' := ?_) #[tT,tT,tT,tT,tT,tT,tT,tT,tT,tT,tT,tT,tT,tT,tT,fF,fF,fF,fF,fF] rfl rfl (by kernel_rfl) (fun _ _ _ h => h) (Or.inl ⟨by rfl, ?_⟩) hHeld ?_ ?_
     rotate_left
     ·rintro w' ⟨s0, s1, s2, s3, s4, s5, s6, s7, s8, s9, s10, s11, s12, s13, s14, s15⟩
      go_simp
      try with_reducible rfl
     rotate_left
     ·simp only [Act.put, List.setIfInBounds_toArray, List.set_cons_zero, List.set_cons_succ, i64_w, i32_w]
      rfl
     refine pure_ (i := 15) (N := some 85) (v := ?_) (a' := ?_) #[tT,tT,tT,tT,tT,tT,tT,tT,tT,tT,tT,tT,tT,tT,tT,tT,fF,fF,fF,fF] rfl rfl (by kernel_rfl) (fun _ _ _ h => h) (Or.inl ⟨by rfl, ?_⟩) ?_ ?_
     rotate_left
     ·intro w'
      go_simp
      try with_reducible rfl
     rotate_left
     ·simp only [Act.put, List.setIfInBounds_toArray, List.set_cons_zero, List.set_cons_succ, i64_w, i32_w]
      rfl
     refine pure_ (i := 16) (N := some 86) (v := ?_) (a' := ?_) #[tT,tT,tT,tT,tT,tT,tT,tT,tT,tT,tT,tT,tT,tT,tT,tT,tT,fF,fF,fF] rfl rfl (by kernel_rfl) (fun _ _ _ h => h) (Or.inl ⟨by rfl, ?_⟩) ?_ ?_
     rotate_left
     ·intro w'
      go_simp
      try with_reducible rfl
     rotate_left
     ·simp only [Act.put, List.setIfInBounds_toArray, List.set_cons_zero, List.set_cons_succ, i64_w, i32_w]
      rfl
     refine take_ (i := 17) (N := some 87) (v := ?_) (a' := ?_) #[tT,tT,tT,tT,tT,tT,tT,tT,tT,tT,tT,tT,tT,tT,tT,tT,tT,tT,fF,fF] rfl rfl (by kernel_rfl) (fun _ _ _ h => h) (Or.inl ⟨by rfl, ?_⟩) hHeld ?_ ?_
     rotate_left
     ·rintro w' ⟨s0, s1, s2, s3, s4, s5, s6, s7, s8, s9, s10, s11, s12, s13, s14, s15⟩
      go_simp
      try with_reducible rfl
     rotate_left
     ·simp only [Act.put, List.setIfInBounds_toArray, List.set_cons_zero, List.set_cons_succ, i64_w, i32_w]
      rfl
     refine one_ (i := 18) (N := some 88) #[tT,tT,tT,tT,tT,tT,tT,tT,tT,tT,tT,tT,tT,tT,tT,tT,tT,tT,tT,fF] rfl rfl (by kernel_rfl) (by decide) (fun K hK => ?_)
     refine call_ 29 _ (by rfl) rfl (by go_simp; rfl) ?_
     refine (same_calls' x A5 c5 B5 d5 _ q8.out q6 u8.out u6 hxs.out).mono ?_
     rintro e w9 ⟨rfl, HD⟩
     refine ⟨_, rfl, ?_⟩
     refine hK.out _ _ ⟨zAK HD hHeld.1, zAK HD hHeld.2.1, zAK HD hHeld.2.2.1, zAK HD hHeld.2.2.2.1, zAK HD hHeld.2.2.2.2.1, zAK HD hHeld.2.2.2.2.2.1, zAK HD hHeld.2.2.2.2.2.2.1, zAK HD hHeld.2.2.2.2.2.2.2.1, zAK HD hHeld.2.2.2.2.2.2.2.2.1, zAK HD hHeld.2.2.2.2.2.2.2.2.2.1, zAK HD hHeld.2.2.2.2.2.2.2.2.2.2.1, zAK HD hHeld.2.2.2.2.2.2.2.2.2.2.2.1, zAK HD hHeld.2.2.2.2.2.2.2.2.2.2.2.2.1, zAK HD hHeld.2.2.2.2.2.2.2.2.2.2.2.2.2.1, zAK HD hHeld.2.2.2.2.2.2.2.2.2.2.2.2.2.2.1, zAK HD hHeld.2.2.2.2.2.2.2.2.2.2.2.2.2.2.2⟩ (fun hHeld => ?_)
     replace BW := Aside0.mk (zAL BW.out HD)
     clear HD
     clear hK K
     refine norm_ (a' := ?_) ?_ ?_
     rotate_left
     ·show Act.put _ (some 88) _ = _
      simp only [Act.put, List.setIfInBounds_toArray, List.set_cons_zero, List.set_cons_succ, i64_w, i32_w]
      rfl
     refine pure_ (i := 19) (N := some 7) (v := ?_) (a' := ?_) #[tT,tT,tT,tT,tT,tT,tT,tT,tT,tT,tT,tT,tT,tT,tT,tT,tT,tT,tT,tT] rfl rfl (by kernel_rfl) (fun _ _ _ h => h) (Or.inl ⟨by rfl, ?_⟩) ?_ ?_
     rotate_left
     ·intro w'
      go_simp
      try with_reducible rfl
     rotate_left
     ·simp only [Act.put, List.setIfInBounds_toArray, List.set_cons_zero, List.set_cons_succ, i64_w, i32_w]
      rfl
     refine done_ (by kernel_rfl) ?_
     clear hHeld q8 u8
     go_wp2_with fail
     go_roundw
     case rel => exact ⟨j + 1, by go_num, by omega, BW⟩
     case measure => simp [RowKit.intOf]; omega
    ·have hjb : decide ((j : Int) < (n : Int)) = false := decide_eq_false (by omega)
     have hnx := Aside0.mk (hBr'.out _ hBw.out)
     clear hBw
     go_wp2_with fail
     go_roundw
     case rel => exact ⟨i + 1, by go_num, by omega, hnx⟩
     case measure => simp [RowKit.intOf]; omega
  ·have hib : decide ((i : Int) < (n1 : Int)) = false := decide_eq_false (by omega)
   have hBe := Aside0.mk (zAL Hw.out hBr.out)
   clear hBr
   go_wp2_with fail
   go_ret
   exact ⟨rfl, hBe.out⟩
end Go.Proofs.Ytphmlkbmnmicpaa.A
namespace Go.Proofs.Ytphmlkbmnmicpaa.A
open Go.RowKit Go.Proofs.YtphmlkbmnmicpaaW.PrintWords Go.Proofs.YtphmlkbmnmicpaaW.PrintLast Go.Shelf
theorem tells_heights (l : List S37) (hF : Few l) : ∃ k, sched_Heights.f k l = some (zBJ l) := by
 obtain ⟨k, hk⟩ := (deps_ev l hF.1 hF.2).rounds
 refine ⟨k, ?_⟩
 unfold sched_Heights.f
 rw [hk, Option.bind_some]
 unfold sched_heights.f
 rw [if_pos ⟨hF, rfl⟩]
 rfl
structure TC (w : World) (l : List S37) (o : List Int) (A0 : Option Addr) (c0 : Nat) (A1 : Option Addr) (c1 n no : Nat) (t : S27) (d : List (List Int)) (h O : List Int) (xs : List S37) (R : Bool) (c : Int) : Prop where
 k10 : ∀ (A : Option Addr) (c : Nat) (W : World), Kd.C k29 W A 1 [(⟨l, t⟩ : S29)] → 1 ≤ c → Calls Try.prog 10 #[.agg #[.int .i64 0, .slice A 1 c]] W fun e w' => ∃ v1_ : Value, e = .returned (.agg #[.int .i64 0, v1_]) ∧ Kd.R k29 29 w' W.heap.size (fun _ => True) v1_ [(⟨l, t⟩ : S29)] ∧ Below W.heap.size W w'
 k11 : ∀ W, Below w.heap.size w W → Calls Try.prog 11 #[.agg #[.slice A0 n c0, .int .i64 t.f0, .int .i64 t.f1, .int .i64 t.f2, .int .i64 t.f3]] W fun e w' => ∃ v0_ : Value, e = .returned (.agg #[v0_, .int .i64 t.f0, .int .i64 t.f1, .int .i64 t.f2, .int .i64 t.f3]) ∧ Kd.S k37 37 w' W.heap.size (fun _ => True) v0_ xs ∧ Below W.heap.size W w'
 k13 : ∀ W, Below w.heap.size w W → Calls Try.prog 13 #[.agg #[.slice A0 n c0, .int .i64 t.f0, .int .i64 t.f1, .int .i64 t.f2, .int .i64 t.f3]] W fun e w' => ∃ Av cv, e = .returned (.agg #[.slice Av n cv, .int .i64 t.f0, .int .i64 t.f1, .int .i64 t.f2, .int .i64 t.f3]) ∧ n ≤ cv ∧ Kd.C k37 w' Av n xs ∧ Below W.heap.size W w'
 k12 : ∀ (ys : List S37) (A : Option Addr) (c : Nat) (B : Option Addr) (b : Nat) (W : World), (ys = l ∨ ys = xs) → Kd.C k29 W A 1 [(⟨ys, t⟩ : S29)] → 1 ≤ c → Kd.C k29 W B 1 [(⟨ys, t⟩ : S29)] → 1 ≤ b → Calls Try.prog 12 #[.agg #[.int .i64 0, .slice A 1 c], .agg #[.int .i64 0, .slice B 1 b]] W fun e w' => e = .returned (.bool true) ∧ Below W.heap.size W w'
 k14 : ∀ (x : S37) (A : Option Addr) (c m : Nat) (W : World), x ∈ l → m = x.f5.length → Kd.C (Kd.int .i64) W A m x.f5 → m ≤ c → Calls Try.prog 14 #[.agg #[.int .i64 x.f0, .int .i64 x.f1, .int .i64 x.f2, .int .i64 x.f3, .int .i64 x.f4, .slice A m c]] W fun e w' => e = .returned (.int .i64 (latOf x)) ∧ Below W.heap.size W w'
 k15 : ∀ (x : S37) (A : Option Addr) (c m : Nat) (W : World), x ∈ l → m = x.f5.length → Kd.C (Kd.int .i64) W A m x.f5 → m ≤ c → Calls Try.prog 15 #[.agg #[.int .i64 x.f0, .int .i64 x.f1, .int .i64 x.f2, .int .i64 x.f3, .int .i64 x.f4, .slice A m c]] W fun e w' => e = .returned (.int .i64 (latOf x)) ∧ Below W.heap.size W w'
 k17 : ∀ W, Below w.heap.size w W → Calls Try.prog 17 #[.slice A0 n c0] W fun e w' => ∃ A c, e = .returned (.slice A n c) ∧ n ≤ c ∧ Kd.C (Kd.slice 3 (Kd.int .i64)) w' A n d ∧ Below W.heap.size W w'
 k18 : ∀ W, Below w.heap.size w W → Calls Try.prog 18 #[.slice A0 n c0] W fun e w' => ∃ A c, e = .returned (.slice A n c) ∧ n ≤ c ∧ Kd.C (Kd.slice 3 (Kd.int .i64)) w' A n d ∧ Below W.heap.size W w'
 k16 : ∀ (A : Option Addr) (c : Nat) (B : Option Addr) (b : Nat) (W : World), Kd.C (Kd.slice 3 (Kd.int .i64)) W A n d → n ≤ c → Kd.C (Kd.slice 3 (Kd.int .i64)) W B n d → n ≤ b → Calls Try.prog 16 #[.slice A n c, .slice B n b] W fun e w' => e = .returned (.bool true) ∧ Drawn0 W w'
 k20 : ∀ W, Below w.heap.size w W → Calls Try.prog 20 #[.slice A0 n c0] W fun e w' => ∃ A c, e = .returned (.slice A n c) ∧ n ≤ c ∧ Kd.C (Kd.int .i64) w' A n h ∧ Below W.heap.size W w'
 k21 : ∀ W, Below w.heap.size w W → Calls Try.prog 21 #[.slice A0 n c0] W fun e w' => ∃ A c, e = .returned (.slice A n c) ∧ n ≤ c ∧ Kd.C (Kd.int .i64) w' A n h ∧ Below W.heap.size W w'
 k22 : ∀ W, Below w.heap.size w W → Calls Try.prog 22 #[.slice A0 n c0] W fun e w' => ∃ A c, e = .returned (.slice A n c) ∧ n ≤ c ∧ Kd.C (Kd.int .i64) w' A n O ∧ Below W.heap.size W w'
 k23 : ∀ W, Below w.heap.size w W → Calls Try.prog 23 #[.slice A0 n c0] W fun e w' => ∃ A c, e = .returned (.slice A n c) ∧ n ≤ c ∧ Kd.C (Kd.int .i64) w' A n O ∧ Below W.heap.size W w'
 k19 : ∀ (ys : List Int) (A : Option Addr) (c : Nat) (B : Option Addr) (b : Nat) (W : World), (ys = h ∨ ys = O) → Kd.C (Kd.int .i64) W A n ys → n ≤ c → Kd.C (Kd.int .i64) W B n ys → n ≤ b → Calls Try.prog 19 #[.slice A n c, .slice B n b] W fun e w' => e = .returned (.bool true) ∧ Drawn0 W w'
 k24 : ∀ W, Below w.heap.size w W → Calls Try.prog 24 #[.slice A0 n c0, .slice A1 no c1] W fun e w' => e = .returned (.bool R) ∧ Below W.heap.size W w'
 k25 : ∀ W, Below w.heap.size w W → Calls Try.prog 25 #[.slice A0 n c0, .slice A1 no c1] W fun e w' => e = .returned (.bool R) ∧ Below W.heap.size W w'
 k26 : ∀ W, Below w.heap.size w W → Calls Try.prog 26 #[.slice A0 n c0] W fun e w' => e = .returned (.int .i64 c) ∧ Below W.heap.size W w'
 k27 : ∀ W, Below w.heap.size w W → Calls Try.prog 27 #[.slice A0 n c0] W fun e w' => e = .returned (.int .i64 c) ∧ Below W.heap.size W w'
set_option maxHeartbeats 400000 in
theorem tc_of {w : World} {l : List S37} {o : List Int} {A0 : Option Addr} {c0 : Nat} {A1 : Option Addr} {c1 : Nat} (hl : l.length ≤ 60) (hs : ∀ x ∈ l, x.f5.length ≤ 20) (t : S27)
  (hr0 : Kd.C k37 w A0 l.length l) (hc0 : l.length ≤ c0) (hr1 : Kd.C (Kd.int .i64) w A1 o.length o) (hc1 : o.length ≤ c1) :
  TC w l o A0 c0 A1 c1 l.length o.length t (zAX l) (zBJ l) (zCG l) (again l) (decide (o.length = l.length) && mayB (zAX l) l.length (List.replicate l.length false) o) (costOf l) := by
 have hs' : ∀ x ∈ l, x.f5.length ≤ 1000 := fun x hx => by have := hs x hx; omega
 have hF : Few l := ⟨by omega, hs'⟩
 have hdl := zBF l
 have hol := zCB l
 have hal := again_length l
 have hH := zCC l (by omega)
 have hax : ∀ x ∈ again l, x ∈ l := by
  intro x hx
  unfold again at hx
  obtain ⟨k, hk, rfl⟩ := List.mem_map.1 hx
  obtain ⟨h1, h2⟩ := orderOf_rng l k hk
  unfold zAF
  rw [List.getD_eq_getElem?_getD, List.getElem?_eq_getElem (show k.toNat < l.length by omega)]
  exact List.getElem_mem _
 obtain ⟨K10, h10⟩ := (rcopy l t (by omega) hs').rounds
 obtain ⟨K17, h17⟩ := (deps_ev l (by omega) hs').rounds
 obtain ⟨K18, h18⟩ := (rdeps l (by omega) hs').rounds
 obtain ⟨K16, h16⟩ := (rrows l (by omega)).rounds
 obtain ⟨K20, h20⟩ := tells_heights l hF
 obtain ⟨K21, h21⟩ := (rheights l (by omega) hs').rounds
 obtain ⟨K23, h23⟩ := (rorder l (by omega) hs').rounds
 obtain ⟨K26, h26⟩ := cost_rounds l (by omega) hs'
 obtain ⟨K27, h27⟩ := (rcost l (by omega) hs').rounds
 constructor
 case k10 => exact (fun A c W h hc => swageref14_Copy.calls K10 0 A c [(⟨l, t⟩ : S29)] 0 [(⟨l, t⟩ : S29)] W h hc h10)
 case k11 => exact (fun W hW => sched_Block.calls A0 c0 l t.f0 t.f1 t.f2 t.f3 (again l) t.f0 t.f1 t.f2 t.f3 W (Kd.C_below hr0 hW) hc0 (by unfold sched_Block.f; rw [if_pos hF]; rfl))
 case k13 => exact (fun W hW => by
   have := rblock_calls l t (by omega) hs' A0 c0 W (Kd.C_below hr0 hW) hc0
   rw [hal] at this
   exact this)
 case k12 => exact (fun ys A c B b W hy h1 hc h2 hb => by
   have hys : ys.length ≤ 4096 ∧ ∀ x ∈ ys, x.f5.length ≤ 1000 := by
    rcases hy with rfl | rfl
    ·exact ⟨by omega, hs'⟩
    ·exact ⟨by omega, fun x hx => hs' x (hax x hx)⟩
   exact rsame_calls ys t hys.1 hys.2 1 rfl A c B b W h1 hc h2 hb)
 case k14 => exact (fun x A c m W hx hm h hc => by
   subst hm
   exact sched_Latency.calls x.f0 x.f1 x.f2 x.f3 x.f4 A c x.f5 _ W h hc (lat_f x))
 case k15 => exact (fun x A c m W hx hm h hc => by
   subst hm
   exact swageref27_Latency.calls 1 x.f0 x.f1 x.f2 x.f3 x.f4 A c x.f5 _ W h hc (rlat x 1 (by omega)))
 case k17 => exact (fun W hW => (sched_Deps.calls K17 A0 c0 l _ W (Kd.C_below hr0 hW) hc0 h17).mono (by
   rintro e w' ⟨v, rfl, hv, hb⟩
   obtain ⟨A, c, rfl, h1, h2⟩ := Kd.S_reads hv
   rw [hdl] at h1 h2 ⊢
   exact ⟨A, c, rfl, h1, h2, hb⟩))
 case k18 => exact (fun W hW => (swageref27_Deps.calls K18 A0 c0 l _ W (Kd.C_below hr0 hW) hc0 h18).mono (by
   rintro e w' ⟨v, rfl, hv, hb⟩
   obtain ⟨A, c, rfl, h1, h2⟩ := Kd.S_reads hv
   rw [hdl] at h1 h2 ⊢
   exact ⟨A, c, rfl, h1, h2, hb⟩))
 case k16 => exact (fun A c B b W h1 hc h2 hb => by
   rw [← hdl] at h1 hc h2 hb ⊢
   exact swageref06_Rows.calls K16 A c _ B b _ true W h1 hc h2 hb h16)
 case k20 => exact (fun W hW => (sched_Heights.calls K20 A0 c0 l _ W (Kd.C_below hr0 hW) hc0 h20).mono (by
   rintro e w' ⟨v, rfl, hv, hb⟩
   obtain ⟨A, c, rfl, h1, h2⟩ := Kd.R_reads hv
   rw [hH.len] at h1 h2 ⊢
   exact ⟨A, c, rfl, h1, h2, hb⟩))
 case k21 => exact (fun W hW => (swageref27_Heights.calls K21 A0 c0 l _ W (Kd.C_below hr0 hW) hc0 h21).mono (by
   rintro e w' ⟨v, rfl, hv, hb⟩
   obtain ⟨A, c, rfl, h1, h2⟩ := Kd.R_reads hv
   rw [hH.len] at h1 h2 ⊢
   exact ⟨A, c, rfl, h1, h2, hb⟩))
 case k22 => exact (fun W hW => (order_calls l (by omega) hs' A0 c0 W (Kd.C_below hr0 hW) hc0).mono (by
   rintro e w' ⟨v, rfl, hv, hb⟩
   obtain ⟨A, c, rfl, h1, h2⟩ := Kd.R_reads hv
   rw [hol] at h1 h2 ⊢
   exact ⟨A, c, rfl, h1, h2, hb⟩))
 case k23 => exact (fun W hW => (swageref27_Order.calls K23 A0 c0 l _ W (Kd.C_below hr0 hW) hc0 h23).mono (by
   rintro e w' ⟨v, rfl, hv, hb⟩
   obtain ⟨A, c, rfl, h1, h2⟩ := Kd.R_reads hv
   rw [hol] at h1 h2 ⊢
   exact ⟨A, c, rfl, h1, h2, hb⟩))
 case k19 => exact (fun ys A c B b W hy h1 hc h2 hb => by
   have hyl : ys.length = l.length := by
    rcases hy with rfl | rfl
    ·exact hH.len
    ·exact hol
   obtain ⟨K, hK⟩ := (rints ys (by omega)).rounds
   rw [← hyl] at h1 hc h2 hb ⊢
   exact swageref02_Ints.calls K A c ys B b ys true W h1 hc h2 hb hK)
 case k24 => exact (fun W hW => sched_May.calls A0 c0 l A1 c1 o _ W (Kd.C_below hr0 hW) hc0 (Kd.C_below hr1 hW) hc1 (by unfold sched_May.f; rw [if_pos hF]))
 case k25 => exact (fun W hW => rmay_calls l (by omega) hs' o A0 c0 A1 c1 W (Kd.C_below hr0 hW) hc0 (Kd.C_below hr1 hW) hc1)
 case k26 => exact (fun W hW => sched_Cost.calls K26 A0 c0 l _ W (Kd.C_below hr0 hW) hc0 h26)
 case k27 => exact (fun W hW => swageref27_Cost.calls K27 A0 c0 l _ W (Kd.C_below hr0 hW) hc0 h27)
end Go.Proofs.Ytphmlkbmnmicpaa.A
namespace Go.Proofs.Ytphmlkbmnmicpaa.A
open Go.RowKit Go.Proofs.YtphmlkbmnmicpaaW.PrintWords Go.Proofs.YtphmlkbmnmicpaaW.PrintLast Go.Shelf
def t9 : S27 := ⟨3, 1, 0, 0⟩
theorem t9_0 : t9.f0 = 3 := rfl
theorem t9_1 : t9.f1 = 1 := rfl
theorem t9_2 : t9.f2 = 0 := rfl
theorem t9_3 : t9.f3 = 0 := rfl
set_option maxRecDepth 100000 in
set_option maxHeartbeats 8000000 in
theorem law_tells (A0 : Option Addr) (c0 : Nat) (l : List S37) (A1 : Option Addr) (c1 : Nat) (o : List Int) (w : World)
  (hr0 : Kd.C k37 w A0 l.length l) (hc0 : l.length ≤ c0) (hr1 : Kd.C (Kd.int .i64) w A1 o.length o) (hc1 : o.length ≤ c1) :
  Calls Try.prog 3 #[.slice A0 l.length c0, .slice A1 o.length c1] w fun e w' => e = .returned (.bool true) ∧ Below w.heap.size w w' := by
 have hmix : Try.prog.follows .mixedOrders = true := by kernel_rfl
 have hu29 := Try.underlying29
 have hu32 := Try.underlying32
 have hu27 := Try.underlying27
 have hu37 := Try.underlying37
 have hsm := small_calls w
 have h9 : Aside0 (∀ W, Below w.heap.size w W → Calls Try.prog 9 #[.slice A0 l.length c0] W fun e w' => e = .returned (.bool (fewB l)) ∧ Drawn0 W w') := ⟨fun W hW => few_calls A0 c0 l W (Kd.C_below hr0 hW) hc0⟩
 cases hf : fewB l with
 | false =>
  rw [hf] at h9
  clear hf hr0 hr1 hc0 hc1
  go_enter Try.func3, Try.ntmps3
  go_wp2_with fail
  refine hsm.mono ?_
  rintro e w1 ⟨rfl, hb1⟩
  have h9' := h9.out w1 hb1
  clear hsm h9
  go_wp2_with fail
  refine h9'.mono ?_
  rintro e w2 ⟨rfl, hd2⟩
  have hb2 := zAL hb1 (zBC hd2 _)
  clear h9' hd2 hb1
  go_wp2
  go_ret
  exact ⟨rfl, hb2⟩
 | true =>
 rw [hf] at h9
 by_cases hno : 100 < o.length
 ·have h100 : decide ((100 : Int) < (o.length : Int)) = true := decide_eq_true (by omega)
  obtain ⟨no, hno'⟩ : ∃ no, o.length = no := ⟨_, rfl⟩
  rw [hno'] at hno h100 ⊢
  clear hf hr0 hr1 hc0 hc1 hno'
  go_enter Try.func3, Try.ntmps3
  go_wp2_with fail
  refine hsm.mono ?_
  rintro e w1 ⟨rfl, hb1⟩
  have h9' := h9.out w1 hb1
  clear hsm h9
  go_wp2_with fail
  refine h9'.mono ?_
  rintro e w2 ⟨rfl, hd2⟩
  have hb2 := zAL hb1 (zBC hd2 _)
  clear h9' hd2 hb1
  go_wp2
  go_ret
  exact ⟨rfl, hb2⟩
 have h100 : decide ((100 : Int) < (o.length : Int)) = false := decide_eq_false (by omega)
 obtain ⟨hl60, hs20⟩ := fewB_true l hf
 have hTC := Aside0.mk (tc_of hl60 hs20 t9 hr0 hc0 hr1 hc1)
 have hr0' := Aside0.mk hr0
 have hal := again_length l
 have hax : Aside0 (∀ x ∈ again l, x.f5.length ≤ 20) := ⟨by
  intro x hx
  unfold again at hx
  obtain ⟨k, hk, rfl⟩ := List.mem_map.1 hx
  obtain ⟨h1, h2⟩ := orderOf_rng l k hk
  refine hs20 _ ?_
  unfold zAF
  rw [List.getD_eq_getElem?_getD, List.getElem?_eq_getElem (show k.toNat < l.length by omega)]
  exact List.getElem_mem _⟩
 generalize (decide (o.length = l.length) && mayB (zAX l) l.length (List.replicate l.length false) o) = R at hTC
 generalize zAX l = d at hTC
 generalize zBJ l = h at hTC
 generalize zCG l = O at hTC
 generalize costOf l = cst at hTC
 generalize again l = xs at hTC hal hax
 obtain ⟨no, hno'⟩ : ∃ no, o.length = no := ⟨_, rfl⟩
 obtain ⟨n, hn⟩ : ∃ n, l.length = n := ⟨_, rfl⟩
 have hn' := Aside0.mk hn
 rw [hno'] at hTC h100 hno ⊢
 rw [hn] at hTC h9 hl60 hal hc0 ⊢
 clear hf hr0 hr1 hc1 hno' hn hs20
 go_enter Try.func3, Try.ntmps3
 go_wp2_with fail
 refine hsm.mono ?_
 rintro e w1 ⟨rfl, hb1⟩
 have h9' := h9.out w1 hb1
 clear hsm h9
 go_wp2_with fail
 refine h9'.mono ?_
 rintro e w2 ⟨rfl, hd2⟩
 have B2 := Aside0.mk (zAL hb1 (zBC hd2 _))
 clear h9' hd2 hb1
 go_wp2_with fail
 obtain ⟨g, hg⟩ : ∃ g, w2.heap.size = g := ⟨_, rfl⟩
 rw [hg, show g + 1 + 1 = g + 2 from rfl]
 obtain ⟨wa, hwa⟩ : ∃ wa, w2.alloc (.cells #[.slice A0 n c0, .int .i64 3, .int .i64 1, .int .i64 0, .int .i64 0] 29) = wa := ⟨_, rfl⟩
 obtain ⟨wb, hwb⟩ : ∃ wb, wa.alloc (.cells #[.slice A0 n c0, .int .i64 3, .int .i64 1, .int .i64 0, .int .i64 0] 29) = wb := ⟨_, rfl⟩
 obtain ⟨wc, hwc⟩ : ∃ wc, wb.alloc (.cells #[.int .i64 0, .slice (some ⟨g + 1, 0, none⟩) 1 1] 32) = wc := ⟨_, rfl⟩
 have Ba := Aside0.mk (show Below w2.heap.size w2 wa by rw [← hwa]; exact zAC (Below.refl _ _) _)
 have Bb := Aside0.mk (show Below wa.heap.size wa wb by rw [← hwb]; exact zAC (Below.refl _ _) _)
 have Bc := Aside0.mk (show Below wb.heap.size wb wc by rw [← hwc]; exact zAC (Below.refl _ _) _)
 have s1 : wa.heap.size = g + 1 := by rw [← hwa]; simp [hg]
 have s2 : wb.heap.size = g + 2 := by rw [← hwb]; simp [s1]
 have s3 : wc.heap.size = g + 3 := by rw [← hwc]; simp [s2]
 have ba := Aside0.mk (show wa.heap[g]? = some (.cells #[.slice A0 n c0, .int .i64 3, .int .i64 1, .int .i64 0, .int .i64 0] 29 (0, 0)) by rw [← hwa, ← hg]; exact zBV _ _)
 have bb := Aside0.mk (show wb.heap[g + 1]? = some (.cells #[.slice A0 n c0, .int .i64 3, .int .i64 1, .int .i64 0, .int .i64 0] 29 (0, 0)) by rw [← hwb, ← s1]; exact zBV _ _)
 have bc := Aside0.mk (show wc.heap[g + 2]? = some (.cells #[.int .i64 0, .slice (some ⟨g + 1, 0, none⟩) 1 1] 32 (0, 0)) by rw [← hwc, ← s2]; exact zBV _ _)
 have Hwc := Aside0.mk (zAL (zAL (zAL B2.out Ba.out) Bb.out) Bc.out)
 have C30 : Aside0 (∀ W, Below wb.heap.size wb W → Kd.C k29 W (some ⟨g + 1, 0, none⟩) 1 [(⟨l, t9⟩ : S29)]) := ⟨fun W hW => C29_one (t := t9) (zAP bb.out hW) hn'.out.symm (Kd.C_below hr0'.out (zAL (zAL (zAL B2.out Ba.out) Bb.out) hW)) (by rw [hn'.out]; exact hc0)⟩
 rw [hwa, hwb, hwc]
 have hk10 := hTC.out.k10 _ 1 wc (C30.out wc Bc.out) (Nat.le_refl _)
 refine hk10.mono ?_
 rintro e w3 ⟨v1, rfl, hv1, B3⟩
 clear hk10 hwa hwb hwc
 obtain ⟨gb, cb, rfl, hgb1, hgb2, -⟩ := Kd.R_form hv1 (by simp)
 have hv1' : Aside0 (Kd.R k29 29 w3 wc.heap.size (fun _ => True) (.slice (some ⟨gb, 0, none⟩) 1 cb) [(⟨l, t9⟩ : S29)]) := ⟨hv1⟩
 rw [show [(⟨l, t9⟩ : S29)].length = 1 from rfl]
 clear hv1
 have s4 : wc.heap.size ≤ w3.heap.size := B3.size
 obtain ⟨wd, hwd⟩ : ∃ wd, w3.alloc (.cells #[.int .i64 0, .slice (some ⟨gb, 0, none⟩) 1 cb] 32) = wd := ⟨_, rfl⟩
 have Bd := Aside0.mk (show Below w3.heap.size w3 wd by rw [← hwd]; exact zAC (Below.refl _ _) _)
 have bd := Aside0.mk (show wd.heap[w3.heap.size]? = some (.cells #[.int .i64 0, .slice (some ⟨gb, 0, none⟩) 1 cb] 32 (0, 0)) by rw [← hwd]; exact zBV _ _)
 have s5 : w3.heap.size < wd.heap.size := by rw [← hwd]; simp
 have Bad : Aside0 (Below wa.heap.size wa wd) := ⟨zAL (zAL (zAL Bb.out Bc.out) B3) Bd.out⟩
 have Hwd := Aside0.mk (zAL (zAL Hwc.out B3) Bd.out)
 have x0 : wd.cell? ⟨g, 0, none⟩ = some (.slice A0 n c0) := (zAE (zAP ba.out Bad.out) 0).trans rfl
 have x1 : wd.cell? ⟨g, 1, none⟩ = some (.int .i64 3) := (zAE (zAP ba.out Bad.out) 1).trans rfl
 have x2 : wd.cell? ⟨g, 2, none⟩ = some (.int .i64 1) := (zAE (zAP ba.out Bad.out) 2).trans rfl
 have x3 : wd.cell? ⟨g, 3, none⟩ = some (.int .i64 0) := (zAE (zAP ba.out Bad.out) 3).trans rfl
 have x4 : wd.cell? ⟨g, 4, none⟩ = some (.int .i64 0) := (zAE (zAP ba.out Bad.out) 4).trans rfl
 go_wp2_with fail
 have hk11 := hTC.out.k11 wd Hwd.out
 refine hk11.mono ?_
 rintro e w4 ⟨v, rfl, hv, B4⟩
 rw [t9_0, t9_1, t9_2, t9_3]
 clear hk11 hwd x0 x1 x2 x3 x4
 obtain ⟨Ac, cc, rfl⟩ := Kd.S_slice hv
 have hv' := Aside0.mk hv
 rw [hal] at hv ⊢
 have s6 : wd.heap.size ≤ w4.heap.size := B4.size
 obtain ⟨base, hbase⟩ : ∃ base, wd.heap.size = base := ⟨_, rfl⟩
 obtain ⟨g10, hg10⟩ : ∃ g10, w4.heap.size = g10 := ⟨_, rfl⟩
 go_wp2_with fail
 try rw [hg10]
 obtain ⟨we, hwe⟩ : ∃ we, w4.alloc (.cells #[.slice Ac n cc, .int .i64 3, .int .i64 1, .int .i64 0, .int .i64 0] 29) = we := ⟨_, rfl⟩
 rw [hwe]
 have Be := Aside0.mk (show Below w4.heap.size w4 we by rw [← hwe]; exact zAC (Below.refl _ _) _)
 have be := Aside0.mk (show we.heap[g10]? = some (.cells #[.slice Ac n cc, .int .i64 3, .int .i64 1, .int .i64 0, .int .i64 0] 29 (0, 0)) by rw [← hwe, ← hg10]; exact zBV _ _)
 have s7 : w4.heap.size < we.heap.size := by rw [← hwe]; simp
 rw [hbase] at hv hv' B4 s6
 have Hwd' := Aside0.mk (show Below w.heap.size w wd ∧ w.heap.size ≤ base from ⟨Hwd.out, by rw [← hbase]; exact Hwd.out.size⟩)
 have Bde := Aside0.mk (show Below base wd we from B4.trans (Be.out.mono (by omega)))
 have hSe : Aside0 (Kd.S k37 37 we base (fun _ => True) (.slice Ac n cc) xs) := ⟨Kd.S_below hv Be.out⟩
 obtain ⟨gc, ag, hJ⟩ := Junk.start (g10 := g10) (base := base) (W := we) (c := cc) (xs := xs) (by rw [hal]; exact hSe.out) hax.out (by rw [hal]; exact be.out) (by omega)
 rw [hal] at hJ
 have hJ' := Aside0.mk hJ
 have ba' := Aside0.mk (zAP ba.out Bad.out)
 have bc' := Aside0.mk (zAP bc.out (zAL B3 Bd.out))
 have Bbd := Aside0.mk (zAL (zAL Bc.out B3) Bd.out)
 clear hJ hv hv' hwe B3 B4 Bad
 have x0 : we.cell? ⟨g, 0, none⟩ = some (.slice A0 n c0) := (zAE (zAP ba'.out (by rw [hbase]; exact Bde.out)) 0).trans rfl
 have x1 : we.cell? ⟨g, 1, none⟩ = some (.int .i64 3) := (zAE (zAP ba'.out (by rw [hbase]; exact Bde.out)) 1).trans rfl
 have x2 : we.cell? ⟨g, 2, none⟩ = some (.int .i64 1) := (zAE (zAP ba'.out (by rw [hbase]; exact Bde.out)) 2).trans rfl
 have x3 : we.cell? ⟨g, 3, none⟩ = some (.int .i64 0) := (zAE (zAP ba'.out (by rw [hbase]; exact Bde.out)) 3).trans rfl
 have x4 : we.cell? ⟨g, 4, none⟩ = some (.int .i64 0) := (zAE (zAP ba'.out (by rw [hbase]; exact Bde.out)) 4).trans rfl
 have y0 : we.cell? ⟨g10, 0, none⟩ = some (.slice Ac n cc) := (zAE be.out 0).trans rfl
 have y1 : we.cell? ⟨g10, 1, none⟩ = some (.int .i64 3) := (zAE be.out 1).trans rfl
 have y2 : we.cell? ⟨g10, 2, none⟩ = some (.int .i64 1) := (zAE be.out 2).trans rfl
 have y3 : we.cell? ⟨g10, 3, none⟩ = some (.int .i64 0) := (zAE be.out 3).trans rfl
 have y4 : we.cell? ⟨g10, 4, none⟩ = some (.int .i64 0) := (zAE be.out 4).trans rfl
 refine zCA (n := 9) (S := fun w' => w'.cell? ⟨g, 0, none⟩ = some (.slice A0 n c0) ∧ w'.cell? ⟨g, 1, none⟩ = some (.int .i64 3) ∧ w'.cell? ⟨g, 2, none⟩ = some (.int .i64 1) ∧ w'.cell? ⟨g, 3, none⟩ = some (.int .i64 0) ∧ w'.cell? ⟨g, 4, none⟩ = some (.int .i64 0) ∧ w'.cell? ⟨g10, 0, none⟩ = some (.slice Ac n cc) ∧ w'.cell? ⟨g10, 1, none⟩ = some (.int .i64 3) ∧ w'.cell? ⟨g10, 2, none⟩ = some (.int .i64 1) ∧ w'.cell? ⟨g10, 3, none⟩ = some (.int .i64 0) ∧ w'.cell? ⟨g10, 4, none⟩ = some (.int .i64 0)) (ds := [7]) #[fF,fF,fF,fF,fF,fF,fF,fF,fF] hmix rfl rfl ⟨x0, x1, x2, x3, x4, y0, y1, y2, y3, y4⟩ (fun hHeld => ?_)
 have HB1 := Aside0.mk (show Below we.heap.size we we.drew from zAA (Below.refl _ _) 1)
 clear x0 x1 x2 x3 x4 y0 y1 y2 y3 y4
 generalize we.drew = W1 at HB1 hHeld ⊢
 have BW := HB1
 have hcc : xs.length ≤ cc := by have := (Kd.S_reads' hSe.out).2.1; rw [hal]; exact this
 have hCx : Aside0 (∀ W, Below we.heap.size we W → Kd.C k37 W Ac xs.length xs) := ⟨fun W hW => (Kd.S_reads' (Kd.S_below hSe.out hW)).2.2⟩
 have Hwe := Aside0.mk (show ∀ W, Below we.heap.size we W → Below w.heap.size w W from fun W hW => zAL (zAL Hwd'.out.1 (by rw [hbase]; exact Bde.out)) hW)
 refine take_ (i := 0) (N := some 36) (v := ?_) (a' := ?_) #[tT,fF,fF,fF,fF,fF,fF,fF,fF] rfl rfl (by kernel_rfl) (fun _ _ _ h => h) (Or.inl ⟨by rfl, ?_⟩) hHeld ?_ ?_
 rotate_left
 ·rintro w' ⟨s0, s1, s2, s3, s4, s5, s6, s7, s8, s9⟩
  go_simp
  try with_reducible rfl
 rotate_left
 ·simp only [Act.put, List.setIfInBounds_toArray, List.set_cons_zero, List.set_cons_succ, i64_w, i32_w]
  rfl
 refine take_ (i := 3) (N := some 39) (v := ?_) (a' := ?_) #[tT,fF,fF,tT,fF,fF,fF,fF,fF] rfl rfl (by kernel_rfl) (fun _ _ _ h => h) (Or.inl ⟨by rfl, ?_⟩) hHeld ?_ ?_
 rotate_left
 ·rintro w' ⟨s0, s1, s2, s3, s4, s5, s6, s7, s8, s9⟩
  go_simp
  try with_reducible rfl
 rotate_left
 ·simp only [Act.put, List.setIfInBounds_toArray, List.set_cons_zero, List.set_cons_succ, i64_w, i32_w]
  rfl
 refine join_ (σ := Nat × Nat × Option Addr × Nat) 2 #[tT,tT,tT,tT,tT,tT,tT,fF,fF] (fun s => [(37, .slice (some ⟨s.1, 0, none⟩) 1 1), (38, .agg #[.int .i64 0, .slice (some ⟨s.1, 0, none⟩) 1 1]), (40, .agg #[.slice s.2.2.1 n s.2.2.2, .int .i64 3, .int .i64 1, .int .i64 0, .int .i64 0]), (41, .slice (some ⟨s.2.1, 0, none⟩) 1 1), (42, .agg #[.int .i64 0, .slice (some ⟨s.2.1, 0, none⟩) 1 1])]) (fun s w' => Below we.heap.size we w' ∧ Kd.C k29 w' (some ⟨s.1, 0, none⟩) [(⟨xs, t9⟩ : S29)].length [(⟨xs, t9⟩ : S29)] ∧ Kd.C k29 w' (some ⟨s.2.1, 0, none⟩) [(⟨xs, t9⟩ : S29)].length [(⟨xs, t9⟩ : S29)]) ?hcont ?h
 case h =>
  intro hC
  refine two_ (i := 1) (j := 4) (Ni := some 37) (Nj := some 40) #[tT,tT,fF,tT,fF,fF,fF,fF,fF] #[tT,fF,fF,tT,tT,fF,fF,fF,fF] rfl rfl rfl rfl (by kernel_rfl) (by decide) (by decide) (fun K hK => ?_) (fun K hK => ?_)
  ·obtain ⟨W2, hW2⟩ : ∃ W2, W1.alloc (.cells #[.slice Ac n cc, .int .i64 3, .int .i64 1, .int .i64 0, .int .i64 0] 29) = W2 := ⟨_, rfl⟩
   have HB := Aside0.mk (show Below W1.heap.size W1 W2 by rw [← hW2]; exact zAC (Below.refl _ _) _)
   have hb := Aside0.mk (show W2.heap[W1.heap.size]? = some (.cells #[.slice Ac n cc, .int .i64 3, .int .i64 1, .int .i64 0, .int .i64 0] 29 (0, 0)) by rw [← hW2]; exact zBV _ _)
   replace BW := Aside0.mk (zAL BW.out HB.out)
   have P37 := Aside0.mk (C29_one (t := t9) hb.out hal.symm (hCx.out _ BW.out) hcc)
   refine value_ (w1 := ?_) (v := ?_) (by rfl) rfl ?_ ?_
   rotate_left 2
   ·go_simp
    constructor
    ·rfl
    ·rfl
   refine hK.out _ _ ⟨zAK HB.out hHeld.1, zAK HB.out hHeld.2.1, zAK HB.out hHeld.2.2.1, zAK HB.out hHeld.2.2.2.1, zAK HB.out hHeld.2.2.2.2.1, zAK HB.out hHeld.2.2.2.2.2.1, zAK HB.out hHeld.2.2.2.2.2.2.1, zAK HB.out hHeld.2.2.2.2.2.2.2.1, zAK HB.out hHeld.2.2.2.2.2.2.2.2.1, zAK HB.out hHeld.2.2.2.2.2.2.2.2.2⟩ (fun hHeld => ?_)
   clear HB hb
   clear hK K
   refine norm_ (a' := ?_) ?_ ?_
   rotate_left
   ·show Act.put _ (some 37) _ = _
    simp only [Act.put, List.setIfInBounds_toArray, List.set_cons_zero, List.set_cons_succ, i64_w, i32_w]
    rfl
   refine pure_ (i := 2) (N := some 38) (v := ?_) (a' := ?_) #[tT,tT,tT,tT,fF,fF,fF,fF,fF] rfl rfl (by kernel_rfl) (fun _ _ _ h => h) (Or.inl ⟨by rfl, ?_⟩) ?_ ?_
   rotate_left
   ·intro w'
    go_simp
    try with_reducible rfl
   rotate_left
   ·simp only [Act.put, List.setIfInBounds_toArray, List.set_cons_zero, List.set_cons_succ, i64_w, i32_w]
    rfl
   refine one_ (i := 4) (N := some 40) #[tT,tT,tT,tT,tT,fF,fF,fF,fF] rfl rfl (by kernel_rfl) (by decide) (fun K hK => ?_)
   refine call_ 13 _ (by rfl) rfl (by go_simp; rfl) ?_
   refine (hTC.out.k13 W2 (Hwe.out _ BW.out)).mono ?_
   rintro e W3 ⟨Av, cv, rfl, hcv, hCv, HB⟩
   rw [t9_0, t9_1, t9_2, t9_3]
   refine ⟨_, rfl, ?_⟩
   refine hK.out _ _ ⟨zAK HB hHeld.1, zAK HB hHeld.2.1, zAK HB hHeld.2.2.1, zAK HB hHeld.2.2.2.1, zAK HB hHeld.2.2.2.2.1, zAK HB hHeld.2.2.2.2.2.1, zAK HB hHeld.2.2.2.2.2.2.1, zAK HB hHeld.2.2.2.2.2.2.2.1, zAK HB hHeld.2.2.2.2.2.2.2.2.1, zAK HB hHeld.2.2.2.2.2.2.2.2.2⟩ (fun hHeld => ?_)
   replace BW := Aside0.mk (zAL BW.out HB)
   have CV := Aside0.mk hCv
   replace P37 := Aside0.mk (Kd.C_below P37.out HB)
   clear hCv HB
   clear hK K
   refine norm_ (a' := ?_) ?_ ?_
   rotate_left
   ·show Act.put _ (some 40) _ = _
    simp only [Act.put, List.setIfInBounds_toArray, List.set_cons_zero, List.set_cons_succ, i64_w, i32_w]
    rfl
   refine one_ (i := 5) (N := some 41) #[tT,tT,tT,tT,tT,tT,fF,fF,fF] rfl rfl (by kernel_rfl) (by decide) (fun K hK => ?_)
   obtain ⟨W4, hW4⟩ : ∃ W4, W3.alloc (.cells #[.slice Av n cv, .int .i64 3, .int .i64 1, .int .i64 0, .int .i64 0] 29) = W4 := ⟨_, rfl⟩
   have HB := Aside0.mk (show Below W3.heap.size W3 W4 by rw [← hW4]; exact zAC (Below.refl _ _) _)
   have hb := Aside0.mk (show W4.heap[W3.heap.size]? = some (.cells #[.slice Av n cv, .int .i64 3, .int .i64 1, .int .i64 0, .int .i64 0] 29 (0, 0)) by rw [← hW4]; exact zBV _ _)
   replace BW := Aside0.mk (zAL BW.out HB.out)
   have P41 := Aside0.mk (C29_one (t := t9) hb.out hal.symm (by rw [hal]; exact Kd.C_below CV.out HB.out) (by rw [hal]; exact hcv))
   replace P37 := Aside0.mk (Kd.C_below P37.out HB.out)
   refine value_ (w1 := ?_) (v := ?_) (by rfl) rfl ?_ ?_
   rotate_left 2
   ·go_simp
    constructor
    ·rfl
    ·rfl
   refine hK.out _ _ ⟨zAK HB.out hHeld.1, zAK HB.out hHeld.2.1, zAK HB.out hHeld.2.2.1, zAK HB.out hHeld.2.2.2.1, zAK HB.out hHeld.2.2.2.2.1, zAK HB.out hHeld.2.2.2.2.2.1, zAK HB.out hHeld.2.2.2.2.2.2.1, zAK HB.out hHeld.2.2.2.2.2.2.2.1, zAK HB.out hHeld.2.2.2.2.2.2.2.2.1, zAK HB.out hHeld.2.2.2.2.2.2.2.2.2⟩ (fun hHeld => ?_)
   clear HB hb
   clear hK K
   refine norm_ (a' := ?_) ?_ ?_
   rotate_left
   ·show Act.put _ (some 41) _ = _
    simp only [Act.put, List.setIfInBounds_toArray, List.set_cons_zero, List.set_cons_succ, i64_w, i32_w]
    rfl
   refine pure_ (i := 6) (N := some 42) (v := ?_) (a' := ?_) #[tT,tT,tT,tT,tT,tT,tT,fF,fF] rfl rfl (by kernel_rfl) (fun _ _ _ h => h) (Or.inl ⟨by rfl, ?_⟩) ?_ ?_
   rotate_left
   ·intro w'
    go_simp
    try with_reducible rfl
   rotate_left
   ·simp only [Act.put, List.setIfInBounds_toArray, List.set_cons_zero, List.set_cons_succ, i64_w, i32_w]
    rfl
   refine norm_ ?_ (hC (W1.heap.size, W3.heap.size, Av, cv) W4 ⟨BW.out, P37.out, P41.out⟩)
   simp only [putAll, Act.put, List.setIfInBounds_toArray, List.set_cons_zero, List.set_cons_succ]
  ·refine call_ 13 _ (by rfl) rfl (by go_simp; rfl) ?_
   refine (hTC.out.k13 W1 (Hwe.out _ BW.out)).mono ?_
   rintro e W3 ⟨Av, cv, rfl, hcv, hCv, HB⟩
   rw [t9_0, t9_1, t9_2, t9_3]
   refine ⟨_, rfl, ?_⟩
   refine hK.out _ _ ⟨zAK HB hHeld.1, zAK HB hHeld.2.1, zAK HB hHeld.2.2.1, zAK HB hHeld.2.2.2.1, zAK HB hHeld.2.2.2.2.1, zAK HB hHeld.2.2.2.2.2.1, zAK HB hHeld.2.2.2.2.2.2.1, zAK HB hHeld.2.2.2.2.2.2.2.1, zAK HB hHeld.2.2.2.2.2.2.2.2.1, zAK HB hHeld.2.2.2.2.2.2.2.2.2⟩ (fun hHeld => ?_)
   replace BW := Aside0.mk (zAL BW.out HB)
   have CV := Aside0.mk hCv
   clear hCv HB
   clear hK K
   refine norm_ (a' := ?_) ?_ ?_
   rotate_left
   ·show Act.put _ (some 40) _ = _
    simp only [Act.put, List.setIfInBounds_toArray, List.set_cons_zero, List.set_cons_succ, i64_w, i32_w]
    rfl
   refine two_ (i := 1) (j := 5) (Ni := some 37) (Nj := some 41) #[tT,tT,fF,tT,tT,fF,fF,fF,fF] #[tT,fF,fF,tT,tT,tT,fF,fF,fF] rfl rfl rfl rfl (by kernel_rfl) (by decide) (by decide) (fun K hK => ?_) (fun K hK => ?_)
   ·obtain ⟨W4, hW4⟩ : ∃ W4, W3.alloc (.cells #[.slice Ac n cc, .int .i64 3, .int .i64 1, .int .i64 0, .int .i64 0] 29) = W4 := ⟨_, rfl⟩
    have HB := Aside0.mk (show Below W3.heap.size W3 W4 by rw [← hW4]; exact zAC (Below.refl _ _) _)
    have hb := Aside0.mk (show W4.heap[W3.heap.size]? = some (.cells #[.slice Ac n cc, .int .i64 3, .int .i64 1, .int .i64 0, .int .i64 0] 29 (0, 0)) by rw [← hW4]; exact zBV _ _)
    replace BW := Aside0.mk (zAL BW.out HB.out)
    have P37 := Aside0.mk (C29_one (t := t9) hb.out hal.symm (hCx.out _ BW.out) hcc)
    replace CV := Aside0.mk (Kd.C_below CV.out HB.out)
    refine value_ (w1 := ?_) (v := ?_) (by rfl) rfl ?_ ?_
    rotate_left 2
    ·go_simp
     constructor
     ·rfl
     ·rfl
    refine hK.out _ _ ⟨zAK HB.out hHeld.1, zAK HB.out hHeld.2.1, zAK HB.out hHeld.2.2.1, zAK HB.out hHeld.2.2.2.1, zAK HB.out hHeld.2.2.2.2.1, zAK HB.out hHeld.2.2.2.2.2.1, zAK HB.out hHeld.2.2.2.2.2.2.1, zAK HB.out hHeld.2.2.2.2.2.2.2.1, zAK HB.out hHeld.2.2.2.2.2.2.2.2.1, zAK HB.out hHeld.2.2.2.2.2.2.2.2.2⟩ (fun hHeld => ?_)
    clear HB hb
    clear hK K
    refine norm_ (a' := ?_) ?_ ?_
    rotate_left
    ·show Act.put _ (some 37) _ = _
     simp only [Act.put, List.setIfInBounds_toArray, List.set_cons_zero, List.set_cons_succ, i64_w, i32_w]
     rfl
    refine pure_ (i := 2) (N := some 38) (v := ?_) (a' := ?_) #[tT,tT,tT,tT,tT,fF,fF,fF,fF] rfl rfl (by kernel_rfl) (fun _ _ _ h => h) (Or.inl ⟨by rfl, ?_⟩) ?_ ?_
    rotate_left
    ·intro w'
     go_simp
     try with_reducible rfl
    rotate_left
    ·simp only [Act.put, List.setIfInBounds_toArray, List.set_cons_zero, List.set_cons_succ, i64_w, i32_w]
     rfl
    refine one_ (i := 5) (N := some 41) #[tT,tT,tT,tT,tT,tT,fF,fF,fF] rfl rfl (by kernel_rfl) (by decide) (fun K hK => ?_)
    obtain ⟨W5, hW5⟩ : ∃ W5, W4.alloc (.cells #[.slice Av n cv, .int .i64 3, .int .i64 1, .int .i64 0, .int .i64 0] 29) = W5 := ⟨_, rfl⟩
    have HB := Aside0.mk (show Below W4.heap.size W4 W5 by rw [← hW5]; exact zAC (Below.refl _ _) _)
    have hb := Aside0.mk (show W5.heap[W4.heap.size]? = some (.cells #[.slice Av n cv, .int .i64 3, .int .i64 1, .int .i64 0, .int .i64 0] 29 (0, 0)) by rw [← hW5]; exact zBV _ _)
    replace BW := Aside0.mk (zAL BW.out HB.out)
    have P41 := Aside0.mk (C29_one (t := t9) hb.out hal.symm (by rw [hal]; exact Kd.C_below CV.out HB.out) (by rw [hal]; exact hcv))
    replace P37 := Aside0.mk (Kd.C_below P37.out HB.out)
    refine value_ (w1 := ?_) (v := ?_) (by rfl) rfl ?_ ?_
    rotate_left 2
    ·go_simp
     constructor
     ·rfl
     ·rfl
    refine hK.out _ _ ⟨zAK HB.out hHeld.1, zAK HB.out hHeld.2.1, zAK HB.out hHeld.2.2.1, zAK HB.out hHeld.2.2.2.1, zAK HB.out hHeld.2.2.2.2.1, zAK HB.out hHeld.2.2.2.2.2.1, zAK HB.out hHeld.2.2.2.2.2.2.1, zAK HB.out hHeld.2.2.2.2.2.2.2.1, zAK HB.out hHeld.2.2.2.2.2.2.2.2.1, zAK HB.out hHeld.2.2.2.2.2.2.2.2.2⟩ (fun hHeld => ?_)
    clear HB hb
    clear hK K
    refine norm_ (a' := ?_) ?_ ?_
    rotate_left
    ·show Act.put _ (some 41) _ = _
     simp only [Act.put, List.setIfInBounds_toArray, List.set_cons_zero, List.set_cons_succ, i64_w, i32_w]
     rfl
    refine pure_ (i := 6) (N := some 42) (v := ?_) (a' := ?_) #[tT,tT,tT,tT,tT,tT,tT,fF,fF] rfl rfl (by kernel_rfl) (fun _ _ _ h => h) (Or.inl ⟨by rfl, ?_⟩) ?_ ?_
    rotate_left
    ·intro w'
     go_simp
     try with_reducible rfl
    rotate_left
    ·simp only [Act.put, List.setIfInBounds_toArray, List.set_cons_zero, List.set_cons_succ, i64_w, i32_w]
     rfl
    refine norm_ ?_ (hC (W3.heap.size, W4.heap.size, Av, cv) W5 ⟨BW.out, P37.out, P41.out⟩)
    simp only [putAll, Act.put, List.setIfInBounds_toArray, List.set_cons_zero, List.set_cons_succ]
   ·obtain ⟨W4, hW4⟩ : ∃ W4, W3.alloc (.cells #[.slice Av n cv, .int .i64 3, .int .i64 1, .int .i64 0, .int .i64 0] 29) = W4 := ⟨_, rfl⟩
    have HB := Aside0.mk (show Below W3.heap.size W3 W4 by rw [← hW4]; exact zAC (Below.refl _ _) _)
    have hb := Aside0.mk (show W4.heap[W3.heap.size]? = some (.cells #[.slice Av n cv, .int .i64 3, .int .i64 1, .int .i64 0, .int .i64 0] 29 (0, 0)) by rw [← hW4]; exact zBV _ _)
    replace BW := Aside0.mk (zAL BW.out HB.out)
    have P41 := Aside0.mk (C29_one (t := t9) hb.out hal.symm (by rw [hal]; exact Kd.C_below CV.out HB.out) (by rw [hal]; exact hcv))
    refine value_ (w1 := ?_) (v := ?_) (by rfl) rfl ?_ ?_
    rotate_left 2
    ·go_simp
     constructor
     ·rfl
     ·rfl
    refine hK.out _ _ ⟨zAK HB.out hHeld.1, zAK HB.out hHeld.2.1, zAK HB.out hHeld.2.2.1, zAK HB.out hHeld.2.2.2.1, zAK HB.out hHeld.2.2.2.2.1, zAK HB.out hHeld.2.2.2.2.2.1, zAK HB.out hHeld.2.2.2.2.2.2.1, zAK HB.out hHeld.2.2.2.2.2.2.2.1, zAK HB.out hHeld.2.2.2.2.2.2.2.2.1, zAK HB.out hHeld.2.2.2.2.2.2.2.2.2⟩ (fun hHeld => ?_)
    clear HB hb
    clear hK K
    refine norm_ (a' := ?_) ?_ ?_
    rotate_left
    ·show Act.put _ (some 41) _ = _
     simp only [Act.put, List.setIfInBounds_toArray, List.set_cons_zero, List.set_cons_succ, i64_w, i32_w]
     rfl
    refine pure_ (i := 6) (N := some 42) (v := ?_) (a' := ?_) #[tT,fF,fF,tT,tT,tT,tT,fF,fF] rfl rfl (by kernel_rfl) (fun _ _ _ h => h) (Or.inl ⟨by rfl, ?_⟩) ?_ ?_
    rotate_left
    ·intro w'
     go_simp
     try with_reducible rfl
    rotate_left
    ·simp only [Act.put, List.setIfInBounds_toArray, List.set_cons_zero, List.set_cons_succ, i64_w, i32_w]
     rfl
    refine one_ (i := 1) (N := some 37) #[tT,tT,fF,tT,tT,tT,tT,fF,fF] rfl rfl (by kernel_rfl) (by decide) (fun K hK => ?_)
    obtain ⟨W5, hW5⟩ : ∃ W5, W4.alloc (.cells #[.slice Ac n cc, .int .i64 3, .int .i64 1, .int .i64 0, .int .i64 0] 29) = W5 := ⟨_, rfl⟩
    have HB := Aside0.mk (show Below W4.heap.size W4 W5 by rw [← hW5]; exact zAC (Below.refl _ _) _)
    have hb := Aside0.mk (show W5.heap[W4.heap.size]? = some (.cells #[.slice Ac n cc, .int .i64 3, .int .i64 1, .int .i64 0, .int .i64 0] 29 (0, 0)) by rw [← hW5]; exact zBV _ _)
    replace BW := Aside0.mk (zAL BW.out HB.out)
    have P37 := Aside0.mk (C29_one (t := t9) hb.out hal.symm (hCx.out _ BW.out) hcc)
    replace P41 := Aside0.mk (Kd.C_below P41.out HB.out)
    refine value_ (w1 := ?_) (v := ?_) (by rfl) rfl ?_ ?_
    rotate_left 2
    ·go_simp
     constructor
     ·rfl
     ·rfl
    refine hK.out _ _ ⟨zAK HB.out hHeld.1, zAK HB.out hHeld.2.1, zAK HB.out hHeld.2.2.1, zAK HB.out hHeld.2.2.2.1, zAK HB.out hHeld.2.2.2.2.1, zAK HB.out hHeld.2.2.2.2.2.1, zAK HB.out hHeld.2.2.2.2.2.2.1, zAK HB.out hHeld.2.2.2.2.2.2.2.1, zAK HB.out hHeld.2.2.2.2.2.2.2.2.1, zAK HB.out hHeld.2.2.2.2.2.2.2.2.2⟩ (fun hHeld => ?_)
    clear HB hb
    clear hK K
    refine norm_ (a' := ?_) ?_ ?_
    rotate_left
    ·show Act.put _ (some 37) _ = _
     simp only [Act.put, List.setIfInBounds_toArray, List.set_cons_zero, List.set_cons_succ, i64_w, i32_w]
     rfl
    refine pure_ (i := 2) (N := some 38) (v := ?_) (a' := ?_) #[tT,tT,tT,tT,tT,tT,tT,fF,fF] rfl rfl (by kernel_rfl) (fun _ _ _ h => h) (Or.inl ⟨by rfl, ?_⟩) ?_ ?_
    rotate_left
    ·intro w'
     go_simp
     try with_reducible rfl
    rotate_left
    ·simp only [Act.put, List.setIfInBounds_toArray, List.set_cons_zero, List.set_cons_succ, i64_w, i32_w]
     rfl
    refine norm_ ?_ (hC (W4.heap.size, W3.heap.size, Av, cv) W5 ⟨BW.out, P37.out, P41.out⟩)
    simp only [putAll, Act.put, List.setIfInBounds_toArray, List.set_cons_zero, List.set_cons_succ]
 case hcont =>
  rintro ⟨p, q, Av, cv⟩ W6 ⟨BW6, P37, P41⟩
  refine norm_ (a' := ?_) ?_ ?_
  rotate_left
  ·simp only [putAll, Act.put, List.setIfInBounds_toArray, List.set_cons_zero, List.set_cons_succ]
   rfl
  refine last_ (i := 7) (N := some 43) #[tT,tT,tT,tT,tT,tT,tT,tT,fF] rfl rfl (by kernel_rfl) (by decide) (fun K hK => ?_)
  refine call_ 12 _ (by rfl) rfl (by go_simp; rfl) ?_
  refine (hTC.out.k12 xs _ 1 _ 1 W6 (.inr rfl) P37 (Nat.le_refl _) P41 (Nat.le_refl _)).mono ?_
  rintro e W7 ⟨rfl, HB⟩
  refine ⟨_, rfl, ?_⟩
  refine hK.out _ _ ?_
  have BW7 := Aside0.mk (zAL BW6 HB)
  clear hK K
  refine norm_ (a' := ?_) ?_ ?_
  rotate_left
  ·show Act.put _ (some 43) _ = _
   simp only [Act.put, List.setIfInBounds_toArray, List.set_cons_zero, List.set_cons_succ, i64_w, i32_w]
   rfl
  refine pure_ (i := 8) (N := some 11) (v := ?_) (a' := ?_) #[tT,tT,tT,tT,tT,tT,tT,tT,tT] rfl rfl (by kernel_rfl) (fun _ _ _ h => h) (Or.inl ⟨by rfl, ?_⟩) ?_ ?_
  rotate_left
  ·intro w'
   go_simp
   try with_reducible rfl
  rotate_left
  ·simp only [Act.put, List.setIfInBounds_toArray, List.set_cons_zero, List.set_cons_succ, i64_w, i32_w]
   rfl
  refine done_ (by kernel_rfl) ?_
  clear P37 P41 BW6 HB
  have BWd := Aside0.mk (show Below base wd W7 from Bde.out.trans (BW7.out.mono (by omega)))
  have hJ7 := Aside0.mk (hJ'.out.below BW7.out)
  clear hJ' BW7 hSe hCx hcc Bde
  go_wp2_with fail
  go_loopw [12] (fun s wr => ∃ i : Nat, s = .int .i64 i ∧ i ≤ n ∧ Aside0 (Below base wd wr ∧ Junk base g10 gc Ac cc n ag wr)) (fun s _ => n - (RowKit.intOf s).toNat)
  case atStart => exact ⟨0, rfl, by omega, ⟨BWd.out, hJ7.out⟩⟩
  case round =>
   clear BWd hJ7
   obtain ⟨i, rfl, hi, hrel⟩ := hrel
   have hJ := Aside0.mk hrel.out.2
   have hB := Aside0.mk hrel.out.1
   clear hrel
   have e0 := hJ.out.cell
   by_cases hil : i < n
   ·have hib : decide ((i : Int) < (n : Int)) = true := decide_eq_true (by omega)
    obtain ⟨ac, hac⟩ : ∃ ac, Ac = some ac := ⟨_, (hJ.out.hd (by omega)).1⟩
    subst hac
    have e5 := hJ.out.row hil rfl
    obtain ⟨ni, hni⟩ : ∃ ni, (ag i).2.1 = ni := ⟨_, rfl⟩
    have hni20 : ni ≤ 20 := by rw [← hni]; exact (hJ.out.arg i hil).1
    obtain ⟨Ai, hAi⟩ : ∃ Ai, (ag i).1 = Ai := ⟨_, rfl⟩
    obtain ⟨ci, hci⟩ : ∃ ci, (ag i).2.2 = ci := ⟨_, rfl⟩
    rw [hni, hAi, hci] at e5
    have hag := Aside0.mk (And.intro hni (And.intro hAi hci))
    clear hni hAi hci
    have hst := Aside0.mk (And.intro hB.out hJ.out)
    clear hB hJ
    go_wp2_with fail
    go_loopw [13] (fun s wr => ∃ k : Nat, s = .int .i64 k ∧ k ≤ ni ∧ Aside0 (Below base wd wr ∧ Junk base g10 gc (some ac) cc n ag wr)) (fun s _ => ni - (RowKit.intOf s).toNat)
    case atStart => exact ⟨0, rfl, by omega, hst⟩
    case round =>
     clear hst e0 e5
     obtain ⟨k, rfl, hk, hrel⟩ := hrel
     have hJ := Aside0.mk hrel.out.2
     have hB := Aside0.mk hrel.out.1
     clear hrel
     have e0 := hJ.out.cell
     have e5 := hJ.out.row hil rfl
     rw [hag.out.1, hag.out.2.1, hag.out.2.2] at e5
     by_cases hkl : k < ni
     ·have hkb : decide ((k : Int) < (ni : Int)) = true := decide_eq_true (by omega)
      obtain ⟨ai, hai⟩ : ∃ ai, Ai = some ai := by
       obtain ⟨g_, h_, _⟩ := (hJ.out.arg i hil).2 (by rw [hag.out.1]; omega)
       exact ⟨_, hag.out.2.1.symm.trans h_⟩
      subst hai
      obtain ⟨⟨z, e6⟩, e7, hJ2, hB2⟩ := hJ.out.setArg hil (by rw [hag.out.1]; exact hkl) hag.out.2.1 (.int .i64 (-7))
      have hnx := Aside0.mk (And.intro (hB2 wd hB.out) hJ2)
      clear hJ2 hB2 hB hJ
      go_wp2_with fail
      go_roundw
      case rel => exact ⟨k + 1, by go_num, by omega, hnx⟩
      case measure => simp [RowKit.intOf]; omega
     ·have hkb : decide ((k : Int) < (ni : Int)) = false := decide_eq_false (by omega)
      obtain ⟨⟨z, e6⟩, e7, hJ2, hB2⟩ := hJ.out.setKind hil rfl (.int .i64 (-7))
      have hnx := Aside0.mk (And.intro (hB2 wd hB.out) hJ2)
      clear hJ2 hB2 hB hJ
      go_wp2_with fail
      go_roundw
      case rel => exact ⟨i + 1, by go_num, by omega, hnx⟩
      case measure => simp [RowKit.intOf]; omega
   ·have hib : decide ((i : Int) < (n : Int)) = false := decide_eq_false (by omega)
    clear hJ
    go_wp2_with fail
    clear e0
    have hst := Aside0.mk hB.out
    clear hB
    go_loopw [11, 14] (fun v11 v14 wr => v11 = .bool true ∧ ∃ i : Nat, v14 = .int .i64 i ∧ i ≤ n ∧ Aside0 (Below base wd wr)) (fun _ v14 _ => n - (RowKit.intOf v14).toNat)
    case atStart => exact ⟨rfl, 0, rfl, by omega, hst⟩
    case round =>
     clear hst
     obtain ⟨rfl, i, rfl, hi, hB⟩ := hrel
     have HwF := Aside0.mk (show ∀ W, Below wr.heap.size wr W → Below w.heap.size w W from fun W hW => zAL (zAL Hwd'.out.1 (by rw [hbase]; exact hB.out)) hW)
     by_cases hil : i < n
     ·have hib : decide ((i : Int) < (n : Int)) = true := decide_eq_true (by omega)
      have hCl := Aside0.mk (HwF.out wr (Below.refl _ _))
      obtain ⟨ld, A5, c5, rfl, q0, q1, q2, q3, q4, q5, q6, q7⟩ := zBT (Kd.C_below hr0'.out hCl.out) (i : Int) (by omega) (by have := hn'.out; omega)
      have hxm : Aside0 (zAF l (i : Int) ∈ l) := ⟨rd37_mem l i (by have := hn'.out; omega)⟩
      rw [Int.toNat_natCast] at q0 q1 q2 q3 q4 q5
      generalize zAF l (i : Int) = x at q0 q1 q2 q3 q4 q5 q6 q7 hxm
      have q7' : Aside0 (∀ W, Below wr.heap.size wr W → Kd.C (Kd.int .i64) W A5 x.f5.length x.f5) := ⟨fun W hW => Kd.C_below q7 hW⟩
      clear q7 hCl
      go_wp2_with fail
      refine zCA (n := 15) (S := fun w' => w'.cell? (ld.add (i * 6)) = some (.int .i64 x.f0) ∧ w'.cell? ⟨(ld.add (i * 6)).block, (ld.add (i * 6)).off + 1, none⟩ = some (.int .i64 x.f1) ∧ w'.cell? ⟨(ld.add (i * 6)).block, (ld.add (i * 6)).off + 2, none⟩ = some (.int .i64 x.f2) ∧ w'.cell? ⟨(ld.add (i * 6)).block, (ld.add (i * 6)).off + 3, none⟩ = some (.int .i64 x.f3) ∧ w'.cell? ⟨(ld.add (i * 6)).block, (ld.add (i * 6)).off + 4, none⟩ = some (.int .i64 x.f4) ∧ w'.cell? ⟨(ld.add (i * 6)).block, (ld.add (i * 6)).off + 5, none⟩ = some (.slice A5 x.f5.length c5)) (ds := []) #[fF,fF,fF,fF,fF,fF,fF,fF,fF,fF,fF,fF,fF,fF,fF] hmix rfl rfl ⟨q0, q1, q2, q3, q4, q5⟩ (fun hHeld => ?_)
      have BW := Aside0.mk (show Below wr.heap.size wr wr.drew from zAA (Below.refl _ _) 1)
      clear q0 q1 q2 q3 q4 q5
      have hnx := Aside0.mk (show ∀ W, Below wr.heap.size wr W → Below base wd W from fun W hW => hB.out.trans (hW.mono (by have := hB.out.size; omega)))
      generalize wr.drew = W1 at BW hHeld ⊢
      refine pure_ (i := 0) (N := some 81) (v := ?_) (a' := ?_) #[tT,fF,fF,fF,fF,fF,fF,fF,fF,fF,fF,fF,fF,fF,fF] rfl rfl (by kernel_rfl) (fun _ _ _ h => h) (Or.inl ⟨by rfl, ?_⟩) ?_ ?_
      rotate_left
      ·intro w'
       go_simp
       try with_reducible rfl
      rotate_left
      ·simp only [Act.put, List.setIfInBounds_toArray, List.set_cons_zero, List.set_cons_succ, i64_w, i32_w]
       rfl
      refine pure_ (i := 1) (N := some 82) (v := ?_) (a' := ?_) #[tT,tT,fF,fF,fF,fF,fF,fF,fF,fF,fF,fF,fF,fF,fF] rfl rfl (by kernel_rfl) (fun _ _ _ h => h) (Or.inl ⟨by rfl, ?_⟩) ?_ ?_
      rotate_left
      ·intro w'
       go_simp
       try with_reducible rfl
      rotate_left
      ·simp only [Act.put, List.setIfInBounds_toArray, List.set_cons_zero, List.set_cons_succ, i64_w, i32_w]
       rfl
      refine pure_ (i := 2) (N := some 83) (v := ?_) (a' := ?_) #[tT,tT,tT,fF,fF,fF,fF,fF,fF,fF,fF,fF,fF,fF,fF] rfl rfl (by kernel_rfl) (fun _ _ _ h => h) (Or.inl ⟨by rfl, ?_⟩) ?_ ?_
      rotate_left
      ·intro w'
       go_simp
       try with_reducible rfl
      rotate_left
      ·simp only [Act.put, List.setIfInBounds_toArray, List.set_cons_zero, List.set_cons_succ, i64_w, i32_w]
       rfl
      refine pure_ (i := 3) (N := some 84) (v := ?_) (a' := ?_) #[tT,tT,tT,tT,fF,fF,fF,fF,fF,fF,fF,fF,fF,fF,fF] rfl rfl (by kernel_rfl) (fun _ _ _ h => h) (Or.inl ⟨by rfl, ?_⟩) ?_ ?_
      rotate_left
      ·intro w'
       go_simp
       try with_reducible rfl
      rotate_left
      ·simp only [Act.put, List.setIfInBounds_toArray, List.set_cons_zero, List.set_cons_succ, i64_w, i32_w]
       rfl
      refine pure_ (i := 4) (N := some 85) (v := ?_) (a' := ?_) #[tT,tT,tT,tT,tT,fF,fF,fF,fF,fF,fF,fF,fF,fF,fF] rfl rfl (by kernel_rfl) (fun _ _ _ h => h) (Or.inl ⟨by rfl, ?_⟩) ?_ ?_
      rotate_left
      ·intro w'
       go_simp
       try with_reducible rfl
      rotate_left
      ·simp only [Act.put, List.setIfInBounds_toArray, List.set_cons_zero, List.set_cons_succ, i64_w, i32_w]
       rfl
      refine take_ (i := 5) (N := some 86) (v := ?_) (a' := ?_) #[tT,tT,tT,tT,tT,tT,fF,fF,fF,fF,fF,fF,fF,fF,fF] rfl rfl (by kernel_rfl) (fun _ _ _ h => h) (Or.inl ⟨by rfl, ?_⟩) hHeld ?_ ?_
      rotate_left
      ·rintro w' ⟨s0, s1, s2, s3, s4, s5⟩
       go_simp
       try with_reducible rfl
      rotate_left
      ·simp only [Act.put, List.setIfInBounds_toArray, List.set_cons_zero, List.set_cons_succ, i64_w, i32_w]
       rfl
      refine pure_ (i := 7) (N := some 88) (v := ?_) (a' := ?_) #[tT,tT,tT,tT,tT,tT,fF,tT,fF,fF,fF,fF,fF,fF,fF] rfl rfl (by kernel_rfl) (fun _ _ _ h => h) (Or.inl ⟨by rfl, ?_⟩) ?_ ?_
      rotate_left
      ·intro w'
       go_simp
       try with_reducible rfl
      rotate_left
      ·simp only [Act.put, List.setIfInBounds_toArray, List.set_cons_zero, List.set_cons_succ, i64_w, i32_w]
       rfl
      refine pure_ (i := 8) (N := some 89) (v := ?_) (a' := ?_) #[tT,tT,tT,tT,tT,tT,fF,tT,tT,fF,fF,fF,fF,fF,fF] rfl rfl (by kernel_rfl) (fun _ _ _ h => h) (Or.inl ⟨by rfl, ?_⟩) ?_ ?_
      rotate_left
      ·intro w'
       go_simp
       try with_reducible rfl
      rotate_left
      ·simp only [Act.put, List.setIfInBounds_toArray, List.set_cons_zero, List.set_cons_succ, i64_w, i32_w]
       rfl
      refine pure_ (i := 9) (N := some 90) (v := ?_) (a' := ?_) #[tT,tT,tT,tT,tT,tT,fF,tT,tT,tT,fF,fF,fF,fF,fF] rfl rfl (by kernel_rfl) (fun _ _ _ h => h) (Or.inl ⟨by rfl, ?_⟩) ?_ ?_
      rotate_left
      ·intro w'
       go_simp
       try with_reducible rfl
      rotate_left
      ·simp only [Act.put, List.setIfInBounds_toArray, List.set_cons_zero, List.set_cons_succ, i64_w, i32_w]
       rfl
      refine take_ (i := 10) (N := some 91) (v := ?_) (a' := ?_) #[tT,tT,tT,tT,tT,tT,fF,tT,tT,tT,tT,fF,fF,fF,fF] rfl rfl (by kernel_rfl) (fun _ _ _ h => h) (Or.inl ⟨by rfl, ?_⟩) hHeld ?_ ?_
      rotate_left
      ·rintro w' ⟨s0, s1, s2, s3, s4, s5⟩
       go_simp
       try with_reducible rfl
      rotate_left
      ·simp only [Act.put, List.setIfInBounds_toArray, List.set_cons_zero, List.set_cons_succ, i64_w, i32_w]
       rfl
      refine one_ (i := 6) (N := some 87) #[tT,tT,tT,tT,tT,tT,tT,tT,tT,tT,tT,fF,fF,fF,fF] rfl rfl (by kernel_rfl) (by decide) (fun K hK => ?_)
      refine call_ 14 _ (by rfl) rfl (by go_simp; rfl) ?_
      refine (hTC.out.k14 x A5 c5 x.f5.length _ hxm.out rfl (q7'.out _ BW.out) q6).mono ?_
      rintro e w9 ⟨rfl, HB⟩
      refine ⟨_, rfl, ?_⟩
      refine hK.out _ _ ⟨zAK HB hHeld.1, zAK HB hHeld.2.1, zAK HB hHeld.2.2.1, zAK HB hHeld.2.2.2.1, zAK HB hHeld.2.2.2.2.1, zAK HB hHeld.2.2.2.2.2⟩ (fun hHeld => ?_)
      replace BW := Aside0.mk (zAL BW.out HB)
      clear HB
      clear hK K
      refine norm_ (a' := ?_) ?_ ?_
      rotate_left
      ·show Act.put _ (some 87) _ = _
       simp only [Act.put, List.setIfInBounds_toArray, List.set_cons_zero, List.set_cons_succ, i64_w, i32_w]
       rfl
      refine one_ (i := 11) (N := some 92) #[tT,tT,tT,tT,tT,tT,tT,tT,tT,tT,tT,tT,fF,fF,fF] rfl rfl (by kernel_rfl) (by decide) (fun K hK => ?_)
      refine call_ 15 _ (by rfl) rfl (by go_simp; rfl) ?_
      refine (hTC.out.k15 x A5 c5 x.f5.length _ hxm.out rfl (q7'.out _ BW.out) q6).mono ?_
      rintro e w9 ⟨rfl, HB⟩
      refine ⟨_, rfl, ?_⟩
      refine hK.out _ _ ⟨zAK HB hHeld.1, zAK HB hHeld.2.1, zAK HB hHeld.2.2.1, zAK HB hHeld.2.2.2.1, zAK HB hHeld.2.2.2.2.1, zAK HB hHeld.2.2.2.2.2⟩ (fun hHeld => ?_)
      replace BW := Aside0.mk (zAL BW.out HB)
      clear HB
      clear hK K
      refine norm_ (a' := ?_) ?_ ?_
      rotate_left
      ·show Act.put _ (some 92) _ = _
       simp only [Act.put, List.setIfInBounds_toArray, List.set_cons_zero, List.set_cons_succ, i64_w, i32_w]
       rfl
      refine pure_ (i := 12) (N := some 93) (v := .bool true) (a' := ?_) #[tT,tT,tT,tT,tT,tT,tT,tT,tT,tT,tT,tT,tT,fF,fF] rfl rfl (by kernel_rfl) (fun _ _ _ h => h) (Or.inl ⟨by rfl, ?_⟩) ?_ ?_
      ·intro w'
       go_simp
       first | done | (with_reducible rfl) | (simp only [*, decide_true, decide_false, if_true, if_false]; done) | (simp [*]; done) | omega | (unfold wrap64; omega)
      rotate_left
      ·simp only [Act.put, List.setIfInBounds_toArray, List.set_cons_zero, List.set_cons_succ, i64_w, i32_w]
       rfl
      refine pure_ (i := 13) (N := some 94) (v := .bool true) (a' := ?_) #[tT,tT,tT,tT,tT,tT,tT,tT,tT,tT,tT,tT,tT,tT,fF] rfl rfl (by kernel_rfl) (fun _ _ _ h => h) (Or.inl ⟨by rfl, ?_⟩) ?_ ?_
      ·intro w'
       go_simp
       first | done | (with_reducible rfl) | (simp only [*, decide_true, decide_false, if_true, if_false]; done) | (simp [*]; done) | omega | (unfold wrap64; omega)
      rotate_left
      ·simp only [Act.put, List.setIfInBounds_toArray, List.set_cons_zero, List.set_cons_succ, i64_w, i32_w]
       rfl
      refine pure_ (i := 14) (N := some 11) (v := ?_) (a' := ?_) #[tT,tT,tT,tT,tT,tT,tT,tT,tT,tT,tT,tT,tT,tT,tT] rfl rfl (by kernel_rfl) (fun _ _ _ h => h) (Or.inl ⟨by rfl, ?_⟩) ?_ ?_
      rotate_left
      ·intro w'
       go_simp
       try with_reducible rfl
      rotate_left
      ·simp only [Act.put, List.setIfInBounds_toArray, List.set_cons_zero, List.set_cons_succ, i64_w, i32_w]
       rfl
      refine done_ (by kernel_rfl) ?_
      have hB9 := Aside0.mk (hnx.out _ BW.out)
      clear BW hHeld hnx hB HwF
      go_wp2_with fail
      go_roundw
      case rel => exact ⟨rfl, i + 1, by go_num, by omega, hB9⟩
      case measure => simp [RowKit.intOf]; omega
     ·have hib : decide ((i : Int) < (n : Int)) = false := decide_eq_false (by omega)
      have BW := Aside0.mk (Below.refl wr.heap.size wr)
      have hB2 := Aside0.mk (show Below wd.heap.size wd wr by rw [hbase]; exact hB.out)
      have z0 : wr.cell? ⟨g + 2, 0, none⟩ = some (.int .i64 0) := (zAE (zAP bc'.out hB2.out) 0).trans rfl
      have z1 : wr.cell? ⟨g + 2, 1, none⟩ = some (.slice (some ⟨g + 1, 0, none⟩) 1 1) := (zAE (zAP bc'.out hB2.out) 1).trans rfl
      have z2 : wr.cell? ⟨w3.heap.size, 0, none⟩ = some (.int .i64 0) := (zAE (zAP bd.out hB2.out) 0).trans rfl
      have z3 : wr.cell? ⟨w3.heap.size, 1, none⟩ = some (.slice (some ⟨gb, 0, none⟩) 1 cb) := (zAE (zAP bd.out hB2.out) 1).trans rfl
      have hwas := Kd.R_reads' hv1'.out
      have hk12 : Aside0 (∀ W, Below wr.heap.size wr W → Calls Try.prog 12 #[.agg #[.int .i64 0, .slice (some ⟨g + 1, 0, none⟩) 1 1], .agg #[.int .i64 0, .slice (some ⟨gb, 0, none⟩) 1 cb]] W fun e w' => e = .returned (.bool true) ∧ Below W.heap.size W w') := ⟨fun W hW => hTC.out.k12 l _ 1 _ cb W (.inl rfl) (C30.out W (zAL (zAL Bbd.out hB2.out) hW)) (Nat.le_refl _) (Kd.C_below (Kd.C_below (Kd.C_below hwas.2.2 Bd.out) hB2.out) hW) hwas.2.1⟩
      have hk19a := Aside0.mk (fun A c B b W => hTC.out.k19 h A c B b W (.inl rfl))
      have hk19b := Aside0.mk (fun A c B b W => hTC.out.k19 O A c B b W (.inr rfl))
      clear hwas hB hB2
      go_wp2_with (first | (go_at_call 12; refine (hk12.out _ BW.out).mono ?_; rintro e w9 ⟨rfl, HB⟩; replace BW := Aside0.mk (zAL BW.out HB); clear HB) | (go_at_call 17; refine (hTC.out.k17 _ (HwF.out _ BW.out)).mono ?_; rintro e w9 ⟨A17, c17, rfl, h17c, h17, HB⟩; have P17 := Aside0.mk (And.intro h17c h17); replace BW := Aside0.mk (zAL BW.out HB); clear HB h17c h17) | (go_at_call 18; refine (hTC.out.k18 _ (HwF.out _ BW.out)).mono ?_; rintro e w9 ⟨A18, c18, rfl, h18c, h18, HB⟩; have P18 := Aside0.mk (And.intro h18c h18); replace P17 := Aside0.mk (And.intro P17.out.1 (Kd.C_below P17.out.2 HB)); replace BW := Aside0.mk (zAL BW.out HB); clear HB h18c h18) | (go_at_call 16; refine (hTC.out.k16 _ _ _ _ _ P17.out.2 P17.out.1 P18.out.2 P18.out.1).mono ?_; rintro e w9 ⟨rfl, HD⟩; replace BW := Aside0.mk (zAL BW.out (zBC HD _)); clear HD) | (go_at_call 20; refine (hTC.out.k20 _ (HwF.out _ BW.out)).mono ?_; rintro e w9 ⟨A20, c20, rfl, h20c, h20, HB⟩; have P20 := Aside0.mk (And.intro h20c h20); replace BW := Aside0.mk (zAL BW.out HB); clear HB h20c h20) | (go_at_call 21; refine (hTC.out.k21 _ (HwF.out _ BW.out)).mono ?_; rintro e w9 ⟨A21, c21, rfl, h21c, h21, HB⟩; have P21 := Aside0.mk (And.intro h21c h21); replace P20 := Aside0.mk (And.intro P20.out.1 (Kd.C_below P20.out.2 HB)); replace BW := Aside0.mk (zAL BW.out HB); clear HB h21c h21) | (go_at_call 19; refine (hk19a.out _ _ _ _ _ P20.out.2 P20.out.1 P21.out.2 P21.out.1).mono ?_; clear hk19a; rintro e w9 ⟨rfl, HD⟩; replace BW := Aside0.mk (zAL BW.out (zBC HD _)); clear HD) | (go_at_call 22; refine (hTC.out.k22 _ (HwF.out _ BW.out)).mono ?_; rintro e w9 ⟨A22, c22, rfl, h22c, h22, HB⟩; have P22 := Aside0.mk (And.intro h22c h22); replace BW := Aside0.mk (zAL BW.out HB); clear HB h22c h22) | (go_at_call 23; refine (hTC.out.k23 _ (HwF.out _ BW.out)).mono ?_; rintro e w9 ⟨A23, c23, rfl, h23c, h23, HB⟩; have P23 := Aside0.mk (And.intro h23c h23); replace P22 := Aside0.mk (And.intro P22.out.1 (Kd.C_below P22.out.2 HB)); replace BW := Aside0.mk (zAL BW.out HB); clear HB h23c h23) | (go_at_call 19; refine (hk19b.out _ _ _ _ _ P22.out.2 P22.out.1 P23.out.2 P23.out.1).mono ?_; clear hk19b; rintro e w9 ⟨rfl, HD⟩; replace BW := Aside0.mk (zAL BW.out (zBC HD _)); clear HD) | (go_at_call 24; refine (hTC.out.k24 _ (HwF.out _ BW.out)).mono ?_; rintro e w9 ⟨rfl, HB⟩; replace BW := Aside0.mk (zAL BW.out HB); clear HB) | (go_at_call 25; refine (hTC.out.k25 _ (HwF.out _ BW.out)).mono ?_; rintro e w9 ⟨rfl, HB⟩; replace BW := Aside0.mk (zAL BW.out HB); clear HB) | (go_at_call 26; refine (hTC.out.k26 _ (HwF.out _ BW.out)).mono ?_; rintro e w9 ⟨rfl, HB⟩; replace BW := Aside0.mk (zAL BW.out HB); clear HB) | (go_at_call 27; refine (hTC.out.k27 _ (HwF.out _ BW.out)).mono ?_; rintro e w9 ⟨rfl, HB⟩; replace BW := Aside0.mk (zAL BW.out HB); clear HB))
      go_ret
      exact ⟨rfl, HwF.out _ BW.out⟩
end Go.Proofs.Ytphmlkbmnmicpaa.A
namespace Go.Proofs.Ytphmlkbmnmicpaa.A
open Go.Deep Go.RowKit Go.Proofs.YtphmlkbmnmicpaaW.PrintWords Go.Proofs.YtphmlkbmnmicpaaW.PrintLast
section
variable {H : Type} {enc : TypeId × Value → H} {P : Program} {w : World} {base : Nat} {α : Type} [Inhabited α]
def Opens (enc : TypeId × Value → H) (P : Program) (w : World) (base : Nat) (t : TypeId) (d : Kd α) (p : α → Prop) : Prop :=
 ∀ fuel cs x, DataW.trod enc P w base (fun _ => true) true fuel t cs = some x → ∃ y, d.K w y cs ∧ p y
theorem opens_int {t : TypeId} {k : IntKind} (ht : P.underlying t = some (.int k)) : Opens enc P w base t (Kd.int k) (fun n => (Lit.int k n).wf = true) := by
 intro fuel cs x h
 obtain ⟨n, rfl, _, hw⟩ := DataW.trod_int ht h
 exact ⟨n, rfl, hw⟩
theorem opens_slice {t e : TypeId} {d : Kd α} {p : α → Prop} (ht : P.underlying t = some (.slice e)) (hc : P.cellsOf e = d.sz) (ho : Opens enc P w base e d p) : Opens enc P w base t (Kd.slice e d) (fun xs => ∀ x ∈ xs, p x) := by
 intro fuel cs x h
 rcases open_slice ht h with ⟨rfl, _⟩ | ⟨a, len, cap, m, n, D, Pl, rfl, hb, hl, hm, hmm, _, hx⟩
 ·exact ⟨[], ⟨none, 0, rfl, Nat.le_refl _, rfl, by simp, fun h => by simp at h⟩, fun x hx => by simp at hx⟩
 ·simp only [if_true] at hmm
  obtain ⟨Y, hY⟩ := choose_lt (α := α) (n := len) (p := fun i y => p y ∧ ∃ c, d.K w y c ∧ ∀ j u, c[j]? = some u → w.cell? (a.add (i * d.sz + j)) = some u) (fun i hi => by
   obtain ⟨cs', h1, h2⟩ := hx i (by omega)
   obtain ⟨y, hy, hp⟩ := ho _ _ _ h2
   obtain ⟨_, hlen, hcell⟩ := World.cells?_some h1
   refine ⟨y, hp, cs', hy, fun j u hj => ?_⟩
   have hj' : j < cs'.length := (List.getElem?_eq_some_iff.1 hj).1
   have := hcell j (by omega)
   rw [hj, hc] at this
   rwa [Addr.add_add] at this)
  have hlen : ((List.range len).map Y).length = len := by simp
  refine ⟨(List.range len).map Y, ⟨some a, cap, by rw [hlen], by rw [hlen]; exact hl, hlen.trans hlen.symm, by rw [hlen]; unfold maxLen at hm; omega, fun _ => ⟨a, rfl, fun j y hj => ?_⟩⟩, fun y hy => ?_⟩
  ·have hjl : j < len := by have := (List.getElem?_eq_some_iff.1 hj).1; omega
   rw [List.getElem?_map, List.getElem?_range hjl] at hj
   obtain rfl := Option.some.inj hj
   obtain ⟨_, c, hk, hcell⟩ := hY j hjl
   exact ⟨c, d.K_len hk, hk, hcell⟩
  ·obtain ⟨i, hi, rfl⟩ := List.mem_map.1 hy
   exact (hY i (List.mem_range.1 hi)).1
omit [Inhabited α] in
theorem opens_param {t e : TypeId} {d : Kd α} {p : List α → Prop} (ho : Opens enc P w base t (Kd.slice e d) p) {A : Option Addr} {len cap : Nat} {x : DataW H} {ps : List MemPlace} (h : DataW.Trod enc P w base (fun _ => true) true t (.slice A len cap) x ps) :
  ∃ xs : List α, len = xs.length ∧ xs.length ≤ cap ∧ d.C w A xs.length xs ∧ p xs := by
 obtain ⟨fuel, hf⟩ := h
 obtain ⟨xs, ⟨A', c', he, hl, hC⟩, hp⟩ := ho _ _ _ hf
 simp [Value.cells] at he
 obtain ⟨rfl, rfl, rfl⟩ := he
 exact ⟨xs, rfl, hl, hC, hp⟩
end
instance : Inhabited S37 := ⟨z37⟩
theorem opens_op {H : Type} {enc : TypeId × Value → H} {w : World} {base : Nat} : Opens enc Try.prog w base 37 k37 (fun _ => True) := by
 intro fuel cs x h
 obtain ⟨xs, n, _, _, hl, hlen, hf⟩ := DataW.trod_struct Try.underlying37 h
 have hl' : cs.length = 6 := hl.trans (by kernel_rfl)
 match cs, hl' with
 | [c0, c1, c2, c3, c4, c5], _ =>
  have int_ : ∀ (i : Nat) (c : Value), DataW.trod enc Try.prog w base (fun _ => true) true n 3 [c] = xs[i]? → i < 6 → ∃ m, c = .int .i64 m := by
   intro i c h hi
   have : i < xs.length := by rw [hlen]; exact hi
   rw [List.getElem?_eq_getElem this] at h
   obtain ⟨m, hm, _, _⟩ := DataW.trod_int Try.underlying3 h
   exact ⟨m, by simpa using hm⟩
  have h0 : DataW.trod enc Try.prog w base (fun _ => true) true n 3 (([c0, c1, c2, c3, c4, c5].drop 0).take (Try.prog.cellsOf 3)) = xs[0]? := hf 0 _ rfl
  have h1 : DataW.trod enc Try.prog w base (fun _ => true) true n 3 (([c0, c1, c2, c3, c4, c5].drop 1).take (Try.prog.cellsOf 3)) = xs[1]? := hf 1 _ rfl
  have h2 : DataW.trod enc Try.prog w base (fun _ => true) true n 3 (([c0, c1, c2, c3, c4, c5].drop 2).take (Try.prog.cellsOf 3)) = xs[2]? := hf 2 _ rfl
  have h3 : DataW.trod enc Try.prog w base (fun _ => true) true n 3 (([c0, c1, c2, c3, c4, c5].drop 3).take (Try.prog.cellsOf 3)) = xs[3]? := hf 3 _ rfl
  have h4 : DataW.trod enc Try.prog w base (fun _ => true) true n 3 (([c0, c1, c2, c3, c4, c5].drop 4).take (Try.prog.cellsOf 3)) = xs[4]? := hf 4 _ rfl
  have h5 : DataW.trod enc Try.prog w base (fun _ => true) true n 23 (([c0, c1, c2, c3, c4, c5].drop 5).take (Try.prog.cellsOf 23)) = xs[5]? := hf 5 _ rfl
  rw [show Try.prog.cellsOf 3 = 1 by kernel_rfl] at h0 h1 h2 h3 h4
  rw [show Try.prog.cellsOf 23 = 1 by kernel_rfl] at h5
  obtain ⟨m0, rfl⟩ := int_ 0 c0 h0 (by omega)
  obtain ⟨m1, rfl⟩ := int_ 1 c1 h1 (by omega)
  obtain ⟨m2, rfl⟩ := int_ 2 c2 h2 (by omega)
  obtain ⟨m3, rfl⟩ := int_ 3 c3 h3 (by omega)
  obtain ⟨m4, rfl⟩ := int_ 4 c4 h4 (by omega)
  have h5' : 5 < xs.length := by rw [hlen]; decide
  rw [List.getElem?_eq_getElem h5'] at h5
  obtain ⟨ys, ⟨A, c, he, hl5, hC⟩, _⟩ := opens_slice (d := Kd.int .i64) Try.underlying23 (by kernel_rfl) (opens_int Try.underlying3) _ _ _ h5
  have he' : c5 = .slice A ys.length c := by simpa using he
  subst he'
  exact ⟨⟨m0, m1, m2, m3, m4, ys⟩, k37_mk w ⟨m0, m1, m2, m3, m4, ys⟩ hl5 hC, trivial⟩
theorem opens_ops {H : Type} {enc : TypeId × Value → H} {w : World} {base : Nat} : Opens enc Try.prog w base 22 (Kd.slice 37 k37) (fun xs => ∀ x ∈ xs, True) := opens_slice Try.underlying22 (by kernel_rfl) opens_op
theorem opens_ints {H : Type} {enc : TypeId × Value → H} {w : World} {base : Nat} : Opens enc Try.prog w base 23 (Kd.slice 3 (Kd.int .i64)) (fun xs => ∀ x ∈ xs, (Lit.int .i64 x).wf = true) := opens_slice Try.underlying23 (by kernel_rfl) (opens_int Try.underlying3)
end Go.Proofs.Ytphmlkbmnmicpaa.A
namespace Go.Proofs.Ytphmlkbmnmicpaa.A
open Go.RowKit Go.Proofs.YtphmlkbmnmicpaaW.PrintWords
theorem law_tellsw (A0 : Option Addr) (c0 : Nat) (l : List S37) (A1 : Option Addr) (c1 : Nat) (o : List Int) (w : World) (hC0 : Kd.C k37 w A0 l.length l) (hc0 : l.length ≤ c0) (_ : ∀ x ∈ l, True) (hC1 : Kd.C (Kd.int .i64) w A1 o.length o) (hc1 : o.length ≤ c1) (_ : ∀ x ∈ o, (Lit.int .i64 x).wf = true) :
  Calls Try.prog 3 #[.slice A0 l.length c0, .slice A1 o.length c1] w fun e w' => e = .returned (.bool true) ∧ Below w.heap.size w w' := law_tells A0 c0 l A1 c1 o w hC0 hc0 hC1 hc1
end Go.Proofs.Ytphmlkbmnmicpaa.A
