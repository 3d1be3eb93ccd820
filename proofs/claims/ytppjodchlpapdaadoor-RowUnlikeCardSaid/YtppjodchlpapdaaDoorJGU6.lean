/- row.Peer and the reference's Peer give the same text, which row.ReadPeer reads back. Conditions: the numbers are of their kinds and there are at most 1000 rules. Where the row's listed variables read as listed and the world is shaped, the variables hold what the walks ask. No conditions beyond these. A value that can be read as data, within the form's reach, reads as a value of the print's kinds. No conditions beyond these. Hops and peers that can be read as data read as such. No conditions beyond these. -/
import Derived.Test.YtppjodchlpapdaaDoorJGU0
import Derived.Test.YtppjodchlpapdaaDoorJGU5
import Derived.Test.YtppjodchlpapdaaDoorJGU3
import Derived.Test.YtppjodchlpapdaaDoorJGU4
import Derived.Test.YtppjodchlpapdaaDoorRows
import Derived.WalkKit
import Derived.ProofKit
import Derived.Handy
import Derived.Lay
import Derived.SevenTiedAt
import Derived.HandedShaped
import Derived.Carry
import Derived.Lib.LaidTab
import Derived.Test.YtppjodchlpapdaaDoorWWords
import Derived.SliceStrings
import Derived.SizedLaws
-- By a program of this session (printx.py), out of Lean's own print of the translation. Not trusted: Lean checks it.
namespace Go.Proofs.YtppjodchlpapdaaDoor.PB
open Go.RowKit Go.Proofs.YtppjodchlpapdaaDoorW.PrintWords Go.Proofs.YtppjodchlpapdaaDoorW.PrintLast Go.Proofs.YtppjodchlpapdaaDoorW.PrintMore
attribute [local go_sem] max2_int min2_int max_two min_two max_three min_three max_four min_four   -- for this text's walks alone
set_option linter.unusedVariables false
set_option linter.unusedSimpArgs false

/-! ### interregnumref11_SamePeer: function 18 -/
def interregnumref11_SamePeer.f (k : Nat) (a0_0 : Int) (a0_1 : Int) (l0_2 : List (S72)) (l0_3 : List (S72)) (a1_0 : Int) (a1_1 : Int) (l1_2 : List (S72)) (l1_3 : List (S72)) : Option (Bool) := if (l0_2.length : Int) = (l1_2.length : Int) then ((interregnumref11_Peer.f k a0_0 a0_1 l0_2 l0_3).bind fun t299 => ((interregnumref11_Peer.f k a1_0 a1_1 l1_2 l1_3).bind fun t300 => (some (t299.toList == t300.toList)))) else (some false)
theorem interregnumref11_SamePeer.mono : ∀ a0 a1 a2 a3 a4 a5 a6 a7 k, LeO (interregnumref11_SamePeer.f k a0 a1 a2 a3 a4 a5 a6 a7) (interregnumref11_SamePeer.f (k + 1) a0 a1 a2 a3 a4 a5 a6 a7) := by
  intro a0 a1 a2 a3 a4 a5 a6 a7 k
  unfold interregnumref11_SamePeer.f
  repeat' first
      | (with_reducible exact interregnumref11_Peer.mono _ _ _ _ _)
      | (with_reducible exact LeO.refl _)
      | (with_reducible exact LeO.none _)
      | (with_reducible refine LeO.ite ?_ ?_)
      | (with_reducible refine LeO.bind ?_ (fun _ => ?_))
      | exact interregnumref11_Peer.mono _ _ _ _ _
      | exact LeO.none _
      | refine LeO.ite ?_ ?_
      | refine LeO.bind ?_ (fun _ => ?_)
def interregnumref11_SamePeer.T1 : Bool × List (List Nat × List Nat) := (true, [([], []), ([0], [0]), ([1], [1]), ([], []), ([3], [3]), ([4], [4]), ([2, 5], [2, 5]), ([6], [6]), ([7], [7]), ([8, 7, 7], [7, 8]), ([7], [7]), ([10, 9, 7], [7, 10]), ([9, 11, 7], [7, 9, 11]), ([7, 12], [7, 12]), ([13, 11, 0, 1, 2, 3, 4, 5, 6, 7, 8, 9, 10, 11, 12, 13], [13])])
def interregnumref11_SamePeer.B1 : List Nat := [0, 1, 3, 0, 8, 24, 63, 127, 255, 511, 255, 2047, 4095, 8191, 16383]
theorem interregnumref11_SamePeer.tab1 : rtab .any (opsOf Tryd.f18 1) = interregnumref11_SamePeer.T1 := by kernel_rfl
theorem interregnumref11_SamePeer.bits1 : waitsOk interregnumref11_SamePeer.T1.2 interregnumref11_SamePeer.B1 = true := by kernel_rfl
set_option maxHeartbeats 8000000 in
set_option maxRecDepth 100000 in
theorem interregnumref11_SamePeer.calls (k : Nat) (a0_0 : Int) (a0_1 : Int) (A0_2 : Option Addr) (c0_2 : Nat) (l0_2 : List (S72)) (A0_3 : Option Addr) (c0_3 : Nat) (l0_3 : List (S72)) (a1_0 : Int) (a1_1 : Int) (A1_2 : Option Addr) (c1_2 : Nat) (l1_2 : List (S72)) (A1_3 : Option Addr) (c1_3 : Nat) (l1_3 : List (S72)) (r : Bool) (w : World) (hr0_2 : Kd.C k72 w A0_2 l0_2.length l0_2) (hc0_2 : l0_2.length ≤ c0_2) (hr0_3 : Kd.C k72 w A0_3 l0_3.length l0_3) (hc0_3 : l0_3.length ≤ c0_3) (hr1_2 : Kd.C k72 w A1_2 l1_2.length l1_2) (hc1_2 : l1_2.length ≤ c1_2) (hr1_3 : Kd.C k72 w A1_3 l1_3.length l1_3) (hc1_3 : l1_3.length ≤ c1_3) (h : interregnumref11_SamePeer.f k a0_0 a0_1 l0_2 l0_3 a1_0 a1_1 l1_2 l1_3 = some r) :
    Calls Tryd.prog 18 #[.agg #[.int .i64 a0_0, .int .i64 a0_1, .slice A0_2 l0_2.length c0_2, .slice A0_3 l0_3.length c0_3], .agg #[.int .i64 a1_0, .int .i64 a1_1, .slice A1_2 l1_2.length c1_2, .slice A1_3 l1_3.length c1_3]] w fun e w' => e = .returned (.bool r) ∧ Below w.heap.size w w' := by
  have hu42 := Tryd.underlying42
  have HR0_2 := Aside0.mk hr0_2
  have HC0_2 := Aside0.mk hc0_2
  clear hr0_2 hc0_2
  have HR0_3 := Aside0.mk hr0_3
  have HC0_3 := Aside0.mk hc0_3
  clear hr0_3 hc0_3
  have HR1_2 := Aside0.mk hr1_2
  have HC1_2 := Aside0.mk hc1_2
  clear hr1_2 hc1_2
  have HR1_3 := Aside0.mk hr1_3
  have HC1_3 := Aside0.mk hc1_3
  clear hr1_3 hc1_3
  have HB := Aside0.mk (Below.refl w.heap.size w)
  have H : (if (l0_2.length : Int) = (l1_2.length : Int) then ((interregnumref11_Peer.f k a0_0 a0_1 l0_2 l0_3).bind fun t299 => ((interregnumref11_Peer.f k a1_0 a1_1 l1_2 l1_3).bind fun t300 => (some (t299.toList == t300.toList)))) else (some false)) = some r := h
  clear h
  by_cases c3 : (l0_2.length : Int) = (l1_2.length : Int)
  · rw [if_pos c3] at H
    have c3b0 : ((l0_2.length : Int) == (l1_2.length : Int)) = true := beq_iff_eq.mpr c3
    have c3b1 : ((l0_2.length : Int) != (l1_2.length : Int)) = false := bne_eq_false_iff_eq.mpr c3
    have c3b2 : (l0_2.length == l1_2.length) = true := by first | simpa using c3 | (simp at c3 ⊢; omega)
    clear c3
    replace H := Option.bind_eq_some_iff.mp H
    obtain ⟨t299, A40, H⟩ := H
    replace H : ((interregnumref11_Peer.f k a1_0 a1_1 l1_2 l1_3).bind fun t300 => (some (t299.toList == t300.toList))) = some r := H
    have A4 := Aside0.mk A40
    clear A40
    replace H := Option.bind_eq_some_iff.mp H
    obtain ⟨t300, A50, H⟩ := H
    replace H : (some (t299.toList == t300.toList)) = some r := H
    have A5 := Aside0.mk A50
    clear A50
    obtain rfl := Option.some.inj H
    go_enter Tryd.func18, Tryd.ntmps18
    try go_wp2_with (first | ((with_reducible refine gate_dst (N := 2) rfl ?_); refine box_event ?hg (N := 2) ?hd (cs := #[.int .i64 a0_0, .int .i64 a0_1, .slice A0_2 l0_2.length c0_2, .slice A0_3 l0_3.length c0_3]) (t := 42) ?hr ?_; (case hd => rfl); (case hg => rfl); (case hr => first | (go_simp; done) | (go_simp; rfl) | (go_simp; simp [IntKind.wrap_u8]; done)); intro gb297 hg w6 hbox hb; have n0_ := Aside0.mk (below_step (by repeat (first | (with_reducible first | exact HB.out | apply below_alloc | apply pw_below_drewN | apply below_drew1) | exact HB.out)) hb); have n1_ := Aside0.mk (hbox); have n2_ := Aside0.mk ((by rw [hg]; exact (below_size (by repeat (first | (with_reducible first | exact HB.out | apply below_alloc | apply pw_below_drewN | apply below_drew1) | exact HB.out))) : w.heap.size ≤ gb297)); have n3_ := Aside0.mk ((by rw [hg]; exact (below_size (by repeat (first | (with_reducible first | exact HB.out | apply below_alloc | apply pw_below_drewN | apply below_drew1) | exact HB.out))) : w.heap.size ≤ gb297)); clear HB; have HB := n0_; have BK297 := n1_; have GW297 := n2_; have GE297 := n3_; clear n0_ n1_ n2_ n3_; clear hb hbox hg) | ((with_reducible refine gate_dst (N := 3) rfl ?_); refine box_event ?hg (N := 3) ?hd (cs := #[.int .i64 a1_0, .int .i64 a1_1, .slice A1_2 l1_2.length c1_2, .slice A1_3 l1_3.length c1_3]) (t := 42) ?hr ?_; (case hd => rfl); (case hg => rfl); (case hr => first | (go_simp; done) | (go_simp; rfl) | (go_simp; simp [IntKind.wrap_u8]; done)); intro gb298 hg w7 hbox hb; have n0_ := Aside0.mk (blk_below (g := gb297) (o := .cells #[.int .i64 a0_0, .int .i64 a0_1, .slice A0_2 l0_2.length c0_2, .slice A0_3 l0_3.length c0_3] 42 (0, 0)) (by (with_reducible repeat (first | refine blk_drewN ?_ _ | refine blk_drew ?_ | refine blk_alloc ?_ _)); exact BK297.out) hb); have n1_ := Aside0.mk (below_step (by repeat (first | (with_reducible first | exact HB.out | apply below_alloc | apply pw_below_drewN | apply below_drew1 | refine below_set ?_ GE297.out) | exact HB.out)) hb); have n2_ := Aside0.mk (hbox); have n3_ := Aside0.mk ((by rw [hg]; exact (below_size (by repeat (first | (with_reducible first | exact HB.out | apply below_alloc | apply pw_below_drewN | apply below_drew1 | refine below_set ?_ GE297.out) | exact HB.out))) : w.heap.size ≤ gb298)); have n4_ := Aside0.mk ((by rw [hg]; exact (below_size (by repeat (first | (with_reducible first | exact HB.out | apply below_alloc | apply pw_below_drewN | apply below_drew1 | refine below_set ?_ GE297.out) | exact HB.out))) : w.heap.size ≤ gb298)); have n5_ := Aside0.mk ((by rw [hg]; exact Nat.ne_of_lt (blk_lt (g := gb297) (o := .cells #[.int .i64 a0_0, .int .i64 a0_1, .slice A0_2 l0_2.length c0_2, .slice A0_3 l0_3.length c0_3] 42 (0, 0)) (by (with_reducible repeat (first | refine blk_drewN ?_ _ | refine blk_drew ?_ | refine blk_alloc ?_ _)); exact BK297.out)) : gb297 ≠ gb298)); have n6_ := Aside0.mk ((by rw [hg]; exact Nat.ne_of_gt (blk_lt (g := gb297) (o := .cells #[.int .i64 a0_0, .int .i64 a0_1, .slice A0_2 l0_2.length c0_2, .slice A0_3 l0_3.length c0_3] 42 (0, 0)) (by (with_reducible repeat (first | refine blk_drewN ?_ _ | refine blk_drew ?_ | refine blk_alloc ?_ _)); exact BK297.out)) : gb298 ≠ gb297)); clear BK297; clear HB; have BK297 := n0_; have HB := n1_; have BK298 := n2_; have GW298 := n3_; have GE298 := n4_; have NB297_298 := n5_; have NB298_297 := n6_; clear n0_ n1_ n2_ n3_ n4_ n5_ n6_; clear hb hbox hg))
    have n0_ := Aside0.mk (blk_drew BK297.out)
    have n1_ := Aside0.mk (blk_drew BK298.out)
    have n2_ := Aside0.mk (below_drew1 HB.out)
    clear BK297
    clear BK298
    clear HB
    have BK297 := n0_
    have BK298 := n1_
    have HB := n2_
    clear n0_ n1_ n2_
    refine start_ (n := 15) (S := fun w' => w'.cell? ⟨gb297, 0, none⟩ = some (.int .i64 a0_0) ∧ w'.cell? ⟨gb297, 1, none⟩ = some (.int .i64 a0_1) ∧ w'.cell? ⟨gb297, 2, none⟩ = some (.slice A0_2 l0_2.length c0_2) ∧ w'.cell? ⟨gb297, 3, none⟩ = some (.slice A0_3 l0_3.length c0_3) ∧ w'.cell? ⟨gb298, 0, none⟩ = some (.int .i64 a1_0) ∧ w'.cell? ⟨gb298, 1, none⟩ = some (.int .i64 a1_1) ∧ w'.cell? ⟨gb298, 2, none⟩ = some (.slice A1_2 l1_2.length c1_2) ∧ w'.cell? ⟨gb298, 3, none⟩ = some (.slice A1_3 l1_3.length c1_3)) (ds := []) #[false, false, false, false, false, false, false, false, false, false, false, false, false, false, false] (by kernel_rfl) rfl rfl ⟨(blk_cell BK297.out 0).trans rfl, (blk_cell BK297.out 1).trans rfl, (blk_cell BK297.out 2).trans rfl, (blk_cell BK297.out 3).trans rfl, (blk_cell BK298.out 0).trans rfl, (blk_cell BK298.out 1).trans rfl, (blk_cell BK298.out 2).trans rfl, (blk_cell BK298.out 3).trans rfl⟩ (fun hHeld => ?_); refine with_tabW interregnumref11_SamePeer.tab1 interregnumref11_SamePeer.bits1 (fun HT_ HW_ => ?_)
    generalize w7.drew = w8 at BK297 BK298 HB hHeld ⊢
    refine pure_ (i := 0) (N := some 5) (v := ?_) (a' := ?_) #[true, false, false, false, false, false, false, false, false, false, false, false, false, false, false] rfl rfl (any_of HT_.out (by kernel_rfl)) (fun _ _ _ h => h) (Or.inl ⟨by rfl, ?_⟩) ?_ ?_
    rotate_left
    · intro w'
      go_simp
      with_reducible rfl
    rotate_left
    · simp only [Act.put, List.setIfInBounds_toArray, List.set_cons_zero, List.set_cons_succ, i64_w, i32_w]
      rfl
    refine pure_ (i := 3) (N := some 8) (v := ?_) (a' := ?_) #[true, false, false, true, false, false, false, false, false, false, false, false, false, false, false] rfl rfl (any_of HT_.out (by kernel_rfl)) (fun _ _ _ h => h) (Or.inl ⟨by rfl, ?_⟩) ?_ ?_
    rotate_left
    · intro w'
      go_simp
      with_reducible rfl
    rotate_left
    · simp only [Act.put, List.setIfInBounds_toArray, List.set_cons_zero, List.set_cons_succ, i64_w, i32_w]
      rfl
    refine take_ (i := 1) (N := some 6) (v := ?_) (a' := ?_) #[true, true, false, true, false, false, false, false, false, false, false, false, false, false, false] rfl rfl (take_ofW HT_.out HW_.out (by kernel_rfl)) (fun _ _ _ h => h) (Or.inl ⟨by rfl, ?_⟩) hHeld ?_ ?_
    rotate_left
    · rintro w' ⟨s0, s1, s2, s3, s4, s5, s6, s7⟩
      go_simp
      with_reducible rfl
    rotate_left
    · simp only [Act.put, List.setIfInBounds_toArray, List.set_cons_zero, List.set_cons_succ, i64_w, i32_w]
      rfl
    refine pure_ (i := 2) (N := some 7) (v := ?_) (a' := ?_) #[true, true, true, true, false, false, false, false, false, false, false, false, false, false, false] rfl rfl (any_of HT_.out (by kernel_rfl)) (fun _ _ _ h => h) (Or.inl ⟨by rfl, ?_⟩) ?_ ?_
    rotate_left
    · intro w'
      go_simp
      with_reducible rfl
    rotate_left
    · simp only [Act.put, List.setIfInBounds_toArray, List.set_cons_zero, List.set_cons_succ, i64_w, i32_w]
      rfl
    refine take_ (i := 4) (N := some 9) (v := ?_) (a' := ?_) #[true, true, true, true, true, false, false, false, false, false, false, false, false, false, false] rfl rfl (take_ofW HT_.out HW_.out (by kernel_rfl)) (fun _ _ _ h => h) (Or.inl ⟨by rfl, ?_⟩) hHeld ?_ ?_
    rotate_left
    · rintro w' ⟨s0, s1, s2, s3, s4, s5, s6, s7⟩
      go_simp
      with_reducible rfl
    rotate_left
    · simp only [Act.put, List.setIfInBounds_toArray, List.set_cons_zero, List.set_cons_succ, i64_w, i32_w]
      rfl
    refine pure_ (i := 5) (N := some 10) (v := ?_) (a' := ?_) #[true, true, true, true, true, true, false, false, false, false, false, false, false, false, false] rfl rfl (any_of HT_.out (by kernel_rfl)) (fun _ _ _ h => h) (Or.inl ⟨by rfl, ?_⟩) ?_ ?_
    rotate_left
    · intro w'
      go_simp
      with_reducible rfl
    rotate_left
    · simp only [Act.put, List.setIfInBounds_toArray, List.set_cons_zero, List.set_cons_succ, i64_w, i32_w]
      rfl
    refine pure_ (i := 6) (N := some 11) (v := ?_) (a' := ?_) #[true, true, true, true, true, true, true, false, false, false, false, false, false, false, false] rfl rfl (any_of HT_.out (by kernel_rfl)) (fun _ _ _ h => h) (Or.inl ⟨by rfl, ?_⟩) ?_ ?_
    rotate_left
    · intro w'
      go_simp
      with_reducible rfl
    rotate_left
    · simp only [Act.put, List.setIfInBounds_toArray, List.set_cons_zero, List.set_cons_succ, i64_w, i32_w]
      rfl
    refine pure_ (i := 7) (N := some 12) (v := ?_) (a' := ?_) #[true, true, true, true, true, true, true, true, false, false, false, false, false, false, false] rfl rfl (any_of HT_.out (by kernel_rfl)) (fun _ _ _ h => h) (Or.inl ⟨by rfl, ?_⟩) ?_ ?_
    rotate_left
    · intro w'
      go_simp
      with_reducible rfl
    rotate_left
    · simp only [Act.put, List.setIfInBounds_toArray, List.set_cons_zero, List.set_cons_succ, i64_w, i32_w]
      rfl
    refine take_ (i := 8) (N := some 13) (v := ?_) (a' := ?_) #[true, true, true, true, true, true, true, true, true, false, false, false, false, false, false] rfl rfl (take_ofW HT_.out HW_.out (by kernel_rfl)) (fun _ _ _ h => h) (Or.inl ⟨by rfl, ?_⟩) hHeld ?_ ?_
    rotate_left
    · rintro w' ⟨s0, s1, s2, s3, s4, s5, s6, s7⟩
      go_simp
      with_reducible rfl
    rotate_left
    · simp only [Act.put, List.setIfInBounds_toArray, List.set_cons_zero, List.set_cons_succ, i64_w, i32_w]
      rfl
    refine take_ (i := 10) (N := some 15) (v := ?_) (a' := ?_) #[true, true, true, true, true, true, true, true, true, false, true, false, false, false, false] rfl rfl (take_ofW HT_.out HW_.out (by kernel_rfl)) (fun _ _ _ h => h) (Or.inl ⟨by rfl, ?_⟩) hHeld ?_ ?_
    rotate_left
    · rintro w' ⟨s0, s1, s2, s3, s4, s5, s6, s7⟩
      go_simp
      with_reducible rfl
    rotate_left
    · simp only [Act.put, List.setIfInBounds_toArray, List.set_cons_zero, List.set_cons_succ, i64_w, i32_w]
      rfl
    refine one_ (i := 9) (N := some 14) #[true, true, true, true, true, true, true, true, true, true, true, false, false, false, false] rfl rfl (one_of HT_.out (by kernel_rfl)) (by decide) (fun K hK => ?_)
    refine goes_ Tryd.func20 (by kernel_rfl) rfl #[.agg #[.int .i64 a0_0, .int .i64 a0_1, .slice A0_2 l0_2.length c0_2, .slice A0_3 l0_3.length c0_3]] (by rfl) rfl rfl (by (try simp only [List.map_toArray, List.map_cons, List.map_nil]); first | done | rfl | (simp only [List.length_drop, List.length_take]; rfl)) ?_
    with_reducible refine (interregnumref11_Peer.calls k a0_0 a0_1 _ _ l0_2 _ _ l0_3 t299 _ ?side1 ?side2 ?side3 ?side4 A4.out).mono ?_
    (case side1 => repeat (first | exact (Kd.C_below HR0_2.out HB.out) | (with_reducible refine Kd.C_alloc ?_ _) | (with_reducible refine Kd.C_drewN ?_ _) | (with_reducible refine Kd.C_drew ?_)))
    (case side2 => exact HC0_2.out)
    (case side3 => repeat (first | exact (Kd.C_below HR0_3.out HB.out) | (with_reducible refine Kd.C_alloc ?_ _) | (with_reducible refine Kd.C_drewN ?_ _) | (with_reducible refine Kd.C_drew ?_)))
    (case side4 => exact HC0_3.out)
    rintro e w9 ⟨rfl, hb⟩
    refine ⟨_, rfl, ?_⟩
    have n0_ := Aside0.mk (blk_below (g := gb297) (o := .cells #[.int .i64 a0_0, .int .i64 a0_1, .slice A0_2 l0_2.length c0_2, .slice A0_3 l0_3.length c0_3] 42 (0, 0)) (by (with_reducible repeat (first | refine blk_drewN ?_ _ | refine blk_drew ?_ | refine blk_alloc ?_ _)); exact BK297.out) hb)
    have n1_ := Aside0.mk (blk_below (g := gb298) (o := .cells #[.int .i64 a1_0, .int .i64 a1_1, .slice A1_2 l1_2.length c1_2, .slice A1_3 l1_3.length c1_3] 42 (0, 0)) (by (with_reducible repeat (first | refine blk_drewN ?_ _ | refine blk_drew ?_ | refine blk_alloc ?_ _)); exact BK298.out) hb)
    have n2_ := Aside0.mk (below_step (by repeat (first | (with_reducible first | exact HB.out | apply below_alloc | apply pw_below_drewN | apply below_drew1 | refine below_set ?_ GE297.out | refine below_set ?_ GE298.out) | exact HB.out)) hb)
    clear BK297
    clear BK298
    clear HB
    have BK297 := n0_
    have BK298 := n1_
    have HB := n2_
    clear n0_ n1_ n2_
    (try clear hb)
    (try clear hb2)
    (try clear hk)
    (try clear hi)
    refine hK.out _ _ ⟨(blk_cell BK297.out 0).trans rfl, (blk_cell BK297.out 1).trans rfl, (blk_cell BK297.out 2).trans rfl, (blk_cell BK297.out 3).trans rfl, (blk_cell BK298.out 0).trans rfl, (blk_cell BK298.out 1).trans rfl, (blk_cell BK298.out 2).trans rfl, (blk_cell BK298.out 3).trans rfl⟩ (fun hHeld => ?_)
    clear hK K
    refine norm_ (a' := ?_) ?_ ?_
    rotate_left
    · show Act.put _ (some 14) _ = _
      simp only [Act.put, List.setIfInBounds_toArray, List.set_cons_zero, List.set_cons_succ, i64_w, i32_w]
      rfl
    refine one_ (i := 11) (N := some 16) #[true, true, true, true, true, true, true, true, true, true, true, true, false, false, false] rfl rfl (one_of HT_.out (by kernel_rfl)) (by decide) (fun K hK => ?_)
    refine goes_ Tryd.func20 (by kernel_rfl) rfl #[.agg #[.int .i64 a1_0, .int .i64 a1_1, .slice A1_2 l1_2.length c1_2, .slice A1_3 l1_3.length c1_3]] (by rfl) rfl rfl (by (try simp only [List.map_toArray, List.map_cons, List.map_nil]); first | done | rfl | (simp only [List.length_drop, List.length_take]; rfl)) ?_
    with_reducible refine (interregnumref11_Peer.calls k a1_0 a1_1 _ _ l1_2 _ _ l1_3 t300 _ ?side1 ?side2 ?side3 ?side4 A5.out).mono ?_
    (case side1 => repeat (first | exact (Kd.C_below HR1_2.out HB.out) | (with_reducible refine Kd.C_alloc ?_ _) | (with_reducible refine Kd.C_drewN ?_ _) | (with_reducible refine Kd.C_drew ?_)))
    (case side2 => exact HC1_2.out)
    (case side3 => repeat (first | exact (Kd.C_below HR1_3.out HB.out) | (with_reducible refine Kd.C_alloc ?_ _) | (with_reducible refine Kd.C_drewN ?_ _) | (with_reducible refine Kd.C_drew ?_)))
    (case side4 => exact HC1_3.out)
    rintro e w10 ⟨rfl, hb⟩
    refine ⟨_, rfl, ?_⟩
    have n0_ := Aside0.mk (blk_below (g := gb297) (o := .cells #[.int .i64 a0_0, .int .i64 a0_1, .slice A0_2 l0_2.length c0_2, .slice A0_3 l0_3.length c0_3] 42 (0, 0)) (by (with_reducible repeat (first | refine blk_drewN ?_ _ | refine blk_drew ?_ | refine blk_alloc ?_ _)); exact BK297.out) hb)
    have n1_ := Aside0.mk (blk_below (g := gb298) (o := .cells #[.int .i64 a1_0, .int .i64 a1_1, .slice A1_2 l1_2.length c1_2, .slice A1_3 l1_3.length c1_3] 42 (0, 0)) (by (with_reducible repeat (first | refine blk_drewN ?_ _ | refine blk_drew ?_ | refine blk_alloc ?_ _)); exact BK298.out) hb)
    have n2_ := Aside0.mk (below_step (by repeat (first | (with_reducible first | exact HB.out | apply below_alloc | apply pw_below_drewN | apply below_drew1 | refine below_set ?_ GE297.out | refine below_set ?_ GE298.out) | exact HB.out)) hb)
    clear BK297
    clear BK298
    clear HB
    have BK297 := n0_
    have BK298 := n1_
    have HB := n2_
    clear n0_ n1_ n2_
    (try clear hb)
    (try clear hb2)
    (try clear hk)
    (try clear hi)
    refine hK.out _ _ ⟨(blk_cell BK297.out 0).trans rfl, (blk_cell BK297.out 1).trans rfl, (blk_cell BK297.out 2).trans rfl, (blk_cell BK297.out 3).trans rfl, (blk_cell BK298.out 0).trans rfl, (blk_cell BK298.out 1).trans rfl, (blk_cell BK298.out 2).trans rfl, (blk_cell BK298.out 3).trans rfl⟩ (fun hHeld => ?_)
    clear hK K
    refine norm_ (a' := ?_) ?_ ?_
    rotate_left
    · show Act.put _ (some 16) _ = _
      simp only [Act.put, List.setIfInBounds_toArray, List.set_cons_zero, List.set_cons_succ, i64_w, i32_w]
      rfl
    refine pure_ (i := 12) (N := some 17) (v := ?_) (a' := ?_) #[true, true, true, true, true, true, true, true, true, true, true, true, true, false, false] rfl rfl (any_of HT_.out (by kernel_rfl)) (fun _ _ _ h => h) (Or.inl ⟨by rfl, ?_⟩) ?_ ?_
    rotate_left
    · intro w'
      go_simp
      with_reducible rfl
    rotate_left
    · simp only [Act.put, List.setIfInBounds_toArray, List.set_cons_zero, List.set_cons_succ, i64_w, i32_w]
      rfl
    refine pure_ (i := 13) (N := some 18) (v := ?_) (a' := ?_) #[true, true, true, true, true, true, true, true, true, true, true, true, true, true, false] rfl rfl (any_of HT_.out (by kernel_rfl)) (fun _ _ _ h => h) (Or.inl ⟨by rfl, ?_⟩) ?_ ?_
    rotate_left
    · intro w'
      go_simp
      with_reducible rfl
    rotate_left
    · simp only [Act.put, List.setIfInBounds_toArray, List.set_cons_zero, List.set_cons_succ, i64_w, i32_w]
      rfl
    refine pure_ (i := 14) (N := some 4) (v := ?_) (a' := ?_) #[true, true, true, true, true, true, true, true, true, true, true, true, true, true, true] rfl rfl (any_of HT_.out (by kernel_rfl)) (fun _ _ _ h => h) (Or.inl ⟨by rfl, ?_⟩) ?_ ?_
    rotate_left
    · intro w'
      go_simp
      with_reducible rfl
    rotate_left
    · simp only [Act.put, List.setIfInBounds_toArray, List.set_cons_zero, List.set_cons_succ, i64_w, i32_w]
      rfl
    refine done_ (done_of HT_.out (by kernel_rfl)) ?_
    try go_wp2
    go_ret
    exact ⟨by first | rfl | (simp [errW_none, errW_some] <;> rfl) | (simp [*, errW_none, errW_some] <;> rfl), by repeat (first | (with_reducible first | exact HB.out | apply below_alloc | apply pw_below_drewN | apply below_drew1 | refine below_set ?_ GE297.out | refine below_set ?_ GE298.out) | exact HB.out)⟩
  · rw [if_neg c3] at H
    have c3b0 : ((l0_2.length : Int) == (l1_2.length : Int)) = false := beq_eq_false_iff_ne.mpr c3
    have c3b1 : ((l0_2.length : Int) != (l1_2.length : Int)) = true := bne_iff_ne.mpr c3
    have c3b2 : (l0_2.length == l1_2.length) = false := by first | simpa using c3 | (simp at c3 ⊢; omega)
    obtain rfl := Option.some.inj H
    go_enter Tryd.func18, Tryd.ntmps18
    try go_wp2_with (first | ((with_reducible refine gate_dst (N := 2) rfl ?_); refine box_event ?hg (N := 2) ?hd (cs := #[.int .i64 a0_0, .int .i64 a0_1, .slice A0_2 l0_2.length c0_2, .slice A0_3 l0_3.length c0_3]) (t := 42) ?hr ?_; (case hd => rfl); (case hg => rfl); (case hr => first | (go_simp; done) | (go_simp; rfl) | (go_simp; simp [IntKind.wrap_u8]; done)); intro gb297 hg w11 hbox hb; have n0_ := Aside0.mk (below_step (by repeat (first | (with_reducible first | exact HB.out | apply below_alloc | apply pw_below_drewN | apply below_drew1) | exact HB.out)) hb); have n1_ := Aside0.mk (hbox); have n2_ := Aside0.mk ((by rw [hg]; exact (below_size (by repeat (first | (with_reducible first | exact HB.out | apply below_alloc | apply pw_below_drewN | apply below_drew1) | exact HB.out))) : w.heap.size ≤ gb297)); have n3_ := Aside0.mk ((by rw [hg]; exact (below_size (by repeat (first | (with_reducible first | exact HB.out | apply below_alloc | apply pw_below_drewN | apply below_drew1) | exact HB.out))) : w.heap.size ≤ gb297)); clear HB; have HB := n0_; have BK297 := n1_; have GW297 := n2_; have GE297 := n3_; clear n0_ n1_ n2_ n3_; clear hb hbox hg) | ((with_reducible refine gate_dst (N := 3) rfl ?_); refine box_event ?hg (N := 3) ?hd (cs := #[.int .i64 a1_0, .int .i64 a1_1, .slice A1_2 l1_2.length c1_2, .slice A1_3 l1_3.length c1_3]) (t := 42) ?hr ?_; (case hd => rfl); (case hg => rfl); (case hr => first | (go_simp; done) | (go_simp; rfl) | (go_simp; simp [IntKind.wrap_u8]; done)); intro gb298 hg w12 hbox hb; have n0_ := Aside0.mk (blk_below (g := gb297) (o := .cells #[.int .i64 a0_0, .int .i64 a0_1, .slice A0_2 l0_2.length c0_2, .slice A0_3 l0_3.length c0_3] 42 (0, 0)) (by (with_reducible repeat (first | refine blk_drewN ?_ _ | refine blk_drew ?_ | refine blk_alloc ?_ _)); exact BK297.out) hb); have n1_ := Aside0.mk (below_step (by repeat (first | (with_reducible first | exact HB.out | apply below_alloc | apply pw_below_drewN | apply below_drew1 | refine below_set ?_ GE297.out) | exact HB.out)) hb); have n2_ := Aside0.mk (hbox); have n3_ := Aside0.mk ((by rw [hg]; exact (below_size (by repeat (first | (with_reducible first | exact HB.out | apply below_alloc | apply pw_below_drewN | apply below_drew1 | refine below_set ?_ GE297.out) | exact HB.out))) : w.heap.size ≤ gb298)); have n4_ := Aside0.mk ((by rw [hg]; exact (below_size (by repeat (first | (with_reducible first | exact HB.out | apply below_alloc | apply pw_below_drewN | apply below_drew1 | refine below_set ?_ GE297.out) | exact HB.out))) : w.heap.size ≤ gb298)); have n5_ := Aside0.mk ((by rw [hg]; exact Nat.ne_of_lt (blk_lt (g := gb297) (o := .cells #[.int .i64 a0_0, .int .i64 a0_1, .slice A0_2 l0_2.length c0_2, .slice A0_3 l0_3.length c0_3] 42 (0, 0)) (by (with_reducible repeat (first | refine blk_drewN ?_ _ | refine blk_drew ?_ | refine blk_alloc ?_ _)); exact BK297.out)) : gb297 ≠ gb298)); have n6_ := Aside0.mk ((by rw [hg]; exact Nat.ne_of_gt (blk_lt (g := gb297) (o := .cells #[.int .i64 a0_0, .int .i64 a0_1, .slice A0_2 l0_2.length c0_2, .slice A0_3 l0_3.length c0_3] 42 (0, 0)) (by (with_reducible repeat (first | refine blk_drewN ?_ _ | refine blk_drew ?_ | refine blk_alloc ?_ _)); exact BK297.out)) : gb298 ≠ gb297)); clear BK297; clear HB; have BK297 := n0_; have HB := n1_; have BK298 := n2_; have GW298 := n3_; have GE298 := n4_; have NB297_298 := n5_; have NB298_297 := n6_; clear n0_ n1_ n2_ n3_ n4_ n5_ n6_; clear hb hbox hg))
    have n0_ := Aside0.mk (blk_drew BK297.out)
    have n1_ := Aside0.mk (blk_drew BK298.out)
    have n2_ := Aside0.mk (below_drew1 HB.out)
    clear BK297
    clear BK298
    clear HB
    have BK297 := n0_
    have BK298 := n1_
    have HB := n2_
    clear n0_ n1_ n2_
    refine start_ (n := 15) (S := fun w' => w'.cell? ⟨gb297, 0, none⟩ = some (.int .i64 a0_0) ∧ w'.cell? ⟨gb297, 1, none⟩ = some (.int .i64 a0_1) ∧ w'.cell? ⟨gb297, 2, none⟩ = some (.slice A0_2 l0_2.length c0_2) ∧ w'.cell? ⟨gb297, 3, none⟩ = some (.slice A0_3 l0_3.length c0_3) ∧ w'.cell? ⟨gb298, 0, none⟩ = some (.int .i64 a1_0) ∧ w'.cell? ⟨gb298, 1, none⟩ = some (.int .i64 a1_1) ∧ w'.cell? ⟨gb298, 2, none⟩ = some (.slice A1_2 l1_2.length c1_2) ∧ w'.cell? ⟨gb298, 3, none⟩ = some (.slice A1_3 l1_3.length c1_3)) (ds := []) #[false, false, false, false, false, false, false, false, false, false, false, false, false, false, false] (by kernel_rfl) rfl rfl ⟨(blk_cell BK297.out 0).trans rfl, (blk_cell BK297.out 1).trans rfl, (blk_cell BK297.out 2).trans rfl, (blk_cell BK297.out 3).trans rfl, (blk_cell BK298.out 0).trans rfl, (blk_cell BK298.out 1).trans rfl, (blk_cell BK298.out 2).trans rfl, (blk_cell BK298.out 3).trans rfl⟩ (fun hHeld => ?_); refine with_tabW interregnumref11_SamePeer.tab1 interregnumref11_SamePeer.bits1 (fun HT_ HW_ => ?_)
    generalize w12.drew = w13 at BK297 BK298 HB hHeld ⊢
    refine pure_ (i := 0) (N := some 5) (v := ?_) (a' := ?_) #[true, false, false, false, false, false, false, false, false, false, false, false, false, false, false] rfl rfl (any_of HT_.out (by kernel_rfl)) (fun _ _ _ h => h) (Or.inl ⟨by rfl, ?_⟩) ?_ ?_
    rotate_left
    · intro w'
      go_simp
      with_reducible rfl
    rotate_left
    · simp only [Act.put, List.setIfInBounds_toArray, List.set_cons_zero, List.set_cons_succ, i64_w, i32_w]
      rfl
    refine pure_ (i := 3) (N := some 8) (v := ?_) (a' := ?_) #[true, false, false, true, false, false, false, false, false, false, false, false, false, false, false] rfl rfl (any_of HT_.out (by kernel_rfl)) (fun _ _ _ h => h) (Or.inl ⟨by rfl, ?_⟩) ?_ ?_
    rotate_left
    · intro w'
      go_simp
      with_reducible rfl
    rotate_left
    · simp only [Act.put, List.setIfInBounds_toArray, List.set_cons_zero, List.set_cons_succ, i64_w, i32_w]
      rfl
    refine take_ (i := 1) (N := some 6) (v := ?_) (a' := ?_) #[true, true, false, true, false, false, false, false, false, false, false, false, false, false, false] rfl rfl (take_ofW HT_.out HW_.out (by kernel_rfl)) (fun _ _ _ h => h) (Or.inl ⟨by rfl, ?_⟩) hHeld ?_ ?_
    rotate_left
    · rintro w' ⟨s0, s1, s2, s3, s4, s5, s6, s7⟩
      go_simp
      with_reducible rfl
    rotate_left
    · simp only [Act.put, List.setIfInBounds_toArray, List.set_cons_zero, List.set_cons_succ, i64_w, i32_w]
      rfl
    refine pure_ (i := 2) (N := some 7) (v := ?_) (a' := ?_) #[true, true, true, true, false, false, false, false, false, false, false, false, false, false, false] rfl rfl (any_of HT_.out (by kernel_rfl)) (fun _ _ _ h => h) (Or.inl ⟨by rfl, ?_⟩) ?_ ?_
    rotate_left
    · intro w'
      go_simp
      with_reducible rfl
    rotate_left
    · simp only [Act.put, List.setIfInBounds_toArray, List.set_cons_zero, List.set_cons_succ, i64_w, i32_w]
      rfl
    refine take_ (i := 4) (N := some 9) (v := ?_) (a' := ?_) #[true, true, true, true, true, false, false, false, false, false, false, false, false, false, false] rfl rfl (take_ofW HT_.out HW_.out (by kernel_rfl)) (fun _ _ _ h => h) (Or.inl ⟨by rfl, ?_⟩) hHeld ?_ ?_
    rotate_left
    · rintro w' ⟨s0, s1, s2, s3, s4, s5, s6, s7⟩
      go_simp
      with_reducible rfl
    rotate_left
    · simp only [Act.put, List.setIfInBounds_toArray, List.set_cons_zero, List.set_cons_succ, i64_w, i32_w]
      rfl
    refine pure_ (i := 5) (N := some 10) (v := ?_) (a' := ?_) #[true, true, true, true, true, true, false, false, false, false, false, false, false, false, false] rfl rfl (any_of HT_.out (by kernel_rfl)) (fun _ _ _ h => h) (Or.inl ⟨by rfl, ?_⟩) ?_ ?_
    rotate_left
    · intro w'
      go_simp
      with_reducible rfl
    rotate_left
    · simp only [Act.put, List.setIfInBounds_toArray, List.set_cons_zero, List.set_cons_succ, i64_w, i32_w]
      rfl
    refine pure_ (i := 6) (N := some 11) (v := ?_) (a' := ?_) #[true, true, true, true, true, true, true, false, false, false, false, false, false, false, false] rfl rfl (any_of HT_.out (by kernel_rfl)) (fun _ _ _ h => h) (Or.inl ⟨by rfl, ?_⟩) ?_ ?_
    rotate_left
    · intro w'
      go_simp
      with_reducible rfl
    rotate_left
    · simp only [Act.put, List.setIfInBounds_toArray, List.set_cons_zero, List.set_cons_succ, i64_w, i32_w]
      rfl
    refine pure_ (i := 7) (N := some 12) (v := ?_) (a' := ?_) #[true, true, true, true, true, true, true, true, false, false, false, false, false, false, false] rfl rfl (any_of HT_.out (by kernel_rfl)) (fun _ _ _ h => h) (Or.inl ⟨by rfl, ?_⟩) ?_ ?_
    rotate_left
    · intro w'
      go_simp
      with_reducible rfl
    rotate_left
    · simp only [Act.put, List.setIfInBounds_toArray, List.set_cons_zero, List.set_cons_succ, i64_w, i32_w]
      rfl
    refine pure_ (i := 8) (N := some 13) (v := undef) (a' := ?_) #[true, true, true, true, true, true, true, true, true, false, false, false, false, false, false] rfl rfl (any_of HT_.out (by kernel_rfl)) (fun _ _ _ h => h) (Or.inr ⟨by rfl, rfl⟩) ?_ ?_
    rotate_left
    · simp only [Act.put, List.setIfInBounds_toArray, List.set_cons_zero, List.set_cons_succ, i64_w, i32_w]
      rfl
    refine pure_ (i := 9) (N := some 14) (v := undef) (a' := ?_) #[true, true, true, true, true, true, true, true, true, true, false, false, false, false, false] rfl rfl (any_of HT_.out (by kernel_rfl)) (fun _ _ _ h => h) (Or.inr ⟨by rfl, rfl⟩) ?_ ?_
    rotate_left
    · simp only [Act.put, List.setIfInBounds_toArray, List.set_cons_zero, List.set_cons_succ, i64_w, i32_w]
      rfl
    refine pure_ (i := 10) (N := some 15) (v := undef) (a' := ?_) #[true, true, true, true, true, true, true, true, true, true, true, false, false, false, false] rfl rfl (any_of HT_.out (by kernel_rfl)) (fun _ _ _ h => h) (Or.inr ⟨by rfl, rfl⟩) ?_ ?_
    rotate_left
    · simp only [Act.put, List.setIfInBounds_toArray, List.set_cons_zero, List.set_cons_succ, i64_w, i32_w]
      rfl
    refine pure_ (i := 11) (N := some 16) (v := undef) (a' := ?_) #[true, true, true, true, true, true, true, true, true, true, true, true, false, false, false] rfl rfl (any_of HT_.out (by kernel_rfl)) (fun _ _ _ h => h) (Or.inr ⟨by rfl, rfl⟩) ?_ ?_
    rotate_left
    · simp only [Act.put, List.setIfInBounds_toArray, List.set_cons_zero, List.set_cons_succ, i64_w, i32_w]
      rfl
    refine pure_ (i := 12) (N := some 17) (v := undef) (a' := ?_) #[true, true, true, true, true, true, true, true, true, true, true, true, true, false, false] rfl rfl (any_of HT_.out (by kernel_rfl)) (fun _ _ _ h => h) (Or.inr ⟨by rfl, rfl⟩) ?_ ?_
    rotate_left
    · simp only [Act.put, List.setIfInBounds_toArray, List.set_cons_zero, List.set_cons_succ, i64_w, i32_w]
      rfl
    refine pure_ (i := 13) (N := some 18) (v := ?_) (a' := ?_) #[true, true, true, true, true, true, true, true, true, true, true, true, true, true, false] rfl rfl (any_of HT_.out (by kernel_rfl)) (fun _ _ _ h => h) (Or.inl ⟨by rfl, ?_⟩) ?_ ?_
    rotate_left
    · intro w'
      go_simp
      with_reducible rfl
    rotate_left
    · simp only [Act.put, List.setIfInBounds_toArray, List.set_cons_zero, List.set_cons_succ, i64_w, i32_w]
      rfl
    refine pure_ (i := 14) (N := some 4) (v := ?_) (a' := ?_) #[true, true, true, true, true, true, true, true, true, true, true, true, true, true, true] rfl rfl (any_of HT_.out (by kernel_rfl)) (fun _ _ _ h => h) (Or.inl ⟨by rfl, ?_⟩) ?_ ?_
    rotate_left
    · intro w'
      go_simp
      with_reducible rfl
    rotate_left
    · simp only [Act.put, List.setIfInBounds_toArray, List.set_cons_zero, List.set_cons_succ, i64_w, i32_w]
      rfl
    refine done_ (done_of HT_.out (by kernel_rfl)) ?_
    try go_wp2
    go_ret
    exact ⟨by first | rfl | (simp [errW_none, errW_some] <;> rfl) | (simp [*, errW_none, errW_some] <;> rfl), by repeat (first | (with_reducible first | exact HB.out | apply below_alloc | apply pw_below_drewN | apply below_drew1 | refine below_set ?_ GE297.out | refine below_set ?_ GE298.out) | exact HB.out)⟩

end Go.Proofs.YtppjodchlpapdaaDoor.PB

namespace Go.Proofs.YtppjodchlpapdaaDoor.PB
open Go.RowKit Go.Sort Go.Lib Go.Proofs Go.Proofs.YtppjodchlpapdaaDoor Go.Proofs.YtppjodchlpapdaaDoorW.PrintWords
set_option linter.unusedVariables false
set_option linter.unusedSimpArgs false

def denyB (b : Bool) : ByteArray := if b = true then ⟨#[49]⟩ else ⟨#[48]⟩
theorem denyB_size (b : Bool) : (denyB b).size ≤ 21 := by cases b <;> decide
theorem denyB_toList (b : Bool) : ((denyB b).toList == ([49] : List UInt8)) = b := by
  cases b
  · rw [show denyB false = (⟨#[48]⟩ : ByteArray) from rfl, Lib.toList_data]; rfl
  · rw [show denyB true = (⟨#[49]⟩ : ByteArray) from rfl, Lib.toList_data]; rfl

def ruleT (r : Ru) : List ByteArray := [itoaB r.f0.f0, itoaB r.f0.f1, itoaB r.f1, itoaB r.f2, denyB r.f3, itoaB r.f4]
def rulesT (l : List Ru) : List ByteArray := l.flatMap ruleT
theorem rulesT_nil : rulesT [] = [] := rfl
theorem rulesT_cons (r : Ru) (l : List Ru) : rulesT (r :: l) = ruleT r ++ rulesT l := by simp [rulesT]
theorem rulesT_length (l : List Ru) : (rulesT l).length = 6 * l.length := by
  induction l with
  | nil => rfl
  | cons r l ih => rw [rulesT_cons, List.length_append, ih, List.length_cons]; simp [ruleT]; omega
def GoodRule (r : Ru) : Prop := U32 r.f0.f0 ∧ I64 r.f0.f1 ∧ I64 r.f1 ∧ I64 r.f2 ∧ I64 r.f4
def GoodRules (l : List Ru) : Prop := ∀ r ∈ l, GoodRule r
theorem GoodRules.tail {r : Ru} {l : List Ru} (h : GoodRules (r :: l)) : GoodRules l := fun x hx => h x (List.mem_cons_of_mem _ hx)

theorem rd_at {l : List Ru} {i : Nat} {r : Ru} {t : List Ru} (h : l.drop i = r :: t) : rd_T72 l (i : Int) = r ∧ i < l.length ∧ l.drop (i + 1) = t := by
  have h1 : i < l.length := by
    rcases Nat.lt_or_ge i l.length with h' | h'
    · exact h'
    · rw [List.drop_eq_nil_of_le h'] at h; cases h
  have h2 := List.drop_eq_getElem_cons h1
  rw [h] at h2
  injection h2 with h3 h4
  refine ⟨?_, h1, h4.symm⟩
  rw [h3]
  simp [rd_T72, h1]

theorem rules_go (l : List Ru) (hl : l.length ≤ 1000) (hg : GoodRules l) : ∀ (d i k : Nat) (out : List ByteArray), l.length - i = d → i ≤ l.length → 2 * d + 1 ≤ k → out.length ≤ 6 * i → row_rules.l0 k out l (l.length : Int) (i : Int) = some (out ++ rulesT (l.drop i)) := by
  intro d
  induction d with
  | zero =>
    intro i k out hd hi hk ho
    obtain ⟨k, rfl⟩ : ∃ m, k = m + 1 := ⟨k - 1, by omega⟩
    have e : l.drop i = [] := List.drop_eq_nil_of_le (by omega)
    simp only [row_rules.l0]
    rw [if_neg (by omega), e, rulesT_nil, List.append_nil]
  | succ d ih =>
    intro i k out hd hi hk ho
    obtain ⟨k, rfl⟩ : ∃ m, k = m + 1 + 1 := ⟨k - 2, by omega⟩
    have h1 : i < l.length := by omega
    obtain ⟨r, t, hr⟩ : ∃ r t, l.drop i = r :: t := ⟨_, _, List.drop_eq_getElem_cons h1⟩
    obtain ⟨hrd, _, hnx⟩ := rd_at hr
    obtain ⟨g1, g2, g3, g4, g5⟩ := hg r (List.mem_of_mem_drop (by rw [hr]; exact List.mem_cons_self))
    have e2 : wrap64 ((i : Int) + 1) = ((i + 1 : Nat) : Int) := by unfold wrap64; omega
    have hstep : ∀ x6 : ByteArray, x6 = denyB r.f3 → row_rules.j1 (k + 1) out x6 l (l.length : Int) (i : Int) r.f0.f0 r.f0.f1 r.f1 r.f2 r.f3 r.f4 = some (out ++ rulesT (l.drop i)) := by
      intro x6 hx6
      simp only [row_rules.j1]
      rw [row_addr_eq _ g1, row_num_eq _ g2, row_num_eq _ g3, row_num_eq _ g4, row_num_eq _ g5]
      simp only [Option.bind_some]
      rw [if_pos (by simp; omega), e2, ih (i + 1) k _ (by omega) (by omega) (by omega) (by simp; omega), hnx, hr, rulesT_cons, hx6, List.append_assoc]
      rfl
    simp only [row_rules.l0]
    rw [if_pos (by omega), if_pos (by omega), if_pos (by omega), hrd]
    cases hf : r.f3 with
    | true => rw [if_pos rfl, ← hf]; exact hstep _ (by rw [hf]; rfl)
    | false => rw [if_neg (by decide), ← hf]; exact hstep _ (by rw [hf]; rfl)

theorem rules_eq (l : List Ru) (hl : l.length ≤ 1000) (hg : GoodRules l) (k : Nat) (hk : 2 * l.length + 1 ≤ k) : row_rules.f k l = some (rulesT l) := by
  have h := rules_go l hl hg l.length 0 k [] (by omega) (by omega) hk (by simp)
  rw [List.drop_zero, List.nil_append] at h
  exact h

def peerT (num asn : Int) (a b : List Ru) : List ByteArray := [itoaB num, itoaB asn, itoaB (a.length : Int)] ++ rulesT a ++ rulesT b
def peerB (num asn : Int) (a b : List Ru) : ByteArray := ⟨(textsL (peerT num asn a b)).toArray⟩
theorem texts_le (l : List ByteArray) (h : ∀ x ∈ l, x.size ≤ 21) : (textsL l).length ≤ 43 * l.length := by
  induction l with
  | nil => rw [textsL_nil]; simp
  | cons a l ih =>
    have h1 := ih (fun x hx => h x (List.mem_cons_of_mem _ hx))
    have h2 := piece_le a (h a List.mem_cons_self)
    rw [textsL_cons, List.length_append, List.length_cons]
    omega
theorem rulesT_sizes (l : List Ru) (hg : GoodRules l) : ∀ x ∈ rulesT l, x.size ≤ 21 := by
  intro x hx
  obtain ⟨r, hr, hx⟩ := List.mem_flatMap.1 hx
  obtain ⟨g1, g2, g3, g4, g5⟩ := hg r hr
  simp only [ruleT, List.mem_cons, List.not_mem_nil, or_false] at hx
  rcases hx with rfl | rfl | rfl | rfl | rfl | rfl
  · exact itoaB_size _ g1.i64
  · exact itoaB_size _ g2
  · exact itoaB_size _ g3
  · exact itoaB_size _ g4
  · exact denyB_size _
  · exact itoaB_size _ g5
theorem len_i64 (a : List Ru) (h : a.length ≤ 1000) : I64 (a.length : Int) := ⟨by omega, by omega⟩

structure GoodPeer (num asn : Int) (a b : List Ru) : Prop where
  n : I64 num
  s : I64 asn
  la : a.length ≤ 1000
  lb : b.length ≤ 1000
  ga : GoodRules a
  gb : GoodRules b

theorem peerT_len {num asn : Int} {a b : List Ru} (h : GoodPeer num asn a b) : (textsL (peerT num asn a b)).length ≤ 1000000 := by
  have h1 := texts_le (peerT num asn a b) (by
    intro x hx
    unfold peerT at hx
    simp only [List.mem_append, List.mem_cons, List.not_mem_nil, or_false] at hx
    rcases hx with ((rfl | rfl | rfl) | hx) | hx
    · exact itoaB_size _ h.n
    · exact itoaB_size _ h.s
    · exact itoaB_size _ (len_i64 a h.la)
    · exact rulesT_sizes a h.ga x hx
    · exact rulesT_sizes b h.gb x hx)
  have h2 : (peerT num asn a b).length = 3 + 6 * a.length + 6 * b.length := by
    unfold peerT
    rw [List.length_append, List.length_append, rulesT_length, rulesT_length]
    rfl
  have := h.la
  have := h.lb
  omega

theorem row_Peer_eq {num asn : Int} {a b : List Ru} (h : GoodPeer num asn a b) (k : Nat) (hk : 2 * (a.length + b.length) + 1 ≤ k) : row_Peer.f k num asn a b = some (peerB num asn a b) := by
  have hl := peerT_len h
  have ha := h.la
  have hb := h.lb
  unfold row_Peer.f
  rw [row_num_eq _ h.n, row_num_eq _ h.s, row_num_eq _ (len_i64 a h.la), rules_eq a h.la h.ga k (by omega), rules_eq b h.lb h.gb k (by omega)]
  simp only [Option.bind_some]
  rw [if_pos (by simp [rulesT_length]; omega), if_pos (by simp [rulesT_length]; omega)]
  unfold row_Texts.f
  have e : ([itoaB num, itoaB asn, itoaB (a.length : Int)] ++ rulesT a ++ rulesT b : List ByteArray) = peerT num asn a b := rfl
  rw [e, if_pos (Nat.le_trans hl (by decide))]
  rfl

/-! What is read back. -/
theorem headV_cons (x : ByteArray) (l : List ByteArray) : headV (x :: l) = x := rfl
theorem badNum_good (n : Int) (h : I64 n) (l : List ByteArray) : badNum (itoaB n :: l) false = false := by
  unfold badNum
  rw [headV_cons, numV_eq n h]
  rfl
theorem badAddr_good (n : Int) (h : U32 n) (l : List ByteArray) : badAddr (itoaB n :: l) false = false := by
  unfold badAddr
  rw [headV_cons, addrV_eq n h]
  rfl

theorem ruleBad_good (r : Ru) (h : GoodRule r) (l : List ByteArray) : ruleBad (ruleT r ++ l) false = false := by
  obtain ⟨g1, g2, g3, g4, g5⟩ := h
  have e0 : badAddr (ruleT r ++ l) false = false := badAddr_good _ g1 _
  have e1 : ruleBad2 (ruleT r ++ l) false = false := by unfold ruleBad2; rw [e0]; exact badNum_good _ g2 _
  have e2 : ruleBad3 (ruleT r ++ l) false = false := by unfold ruleBad3; rw [e1]; exact badNum_good _ g3 _
  have e3 : ruleBad4 (ruleT r ++ l) false = false := by unfold ruleBad4; rw [e2]; exact badNum_good _ g4 _
  have e4 : ruleBad5 (ruleT r ++ l) false = false := by unfold ruleBad5; rw [e3]; rfl
  unfold ruleBad
  rw [e4]
  exact badNum_good _ g5 _
theorem ruleOf_good (r : Ru) (h : GoodRule r) (l : List ByteArray) : ruleOf (ruleT r ++ l) = r := by
  obtain ⟨g1, g2, g3, g4, g5⟩ := h
  have e0 : addrV (headV (ruleT r ++ l)) = some r.f0.f0 := addrV_eq _ g1
  have e1 : numV (headV (t1 (ruleT r ++ l))) = some r.f0.f1 := numV_eq _ g2
  have e2 : numV (headV (t2 (ruleT r ++ l))) = some r.f1 := numV_eq _ g3
  have e3 : numV (headV (t3 (ruleT r ++ l))) = some r.f2 := numV_eq _ g4
  have e4 : ((headV (t4 (ruleT r ++ l))).toList == ([49] : List UInt8)) = r.f3 := denyB_toList r.f3
  have e5 : numV (headV (t5 (ruleT r ++ l))) = some r.f4 := numV_eq _ g5
  unfold ruleOf
  rw [e0, e1, e2, e3, e4, e5]
  rfl
theorem t6_good (r : Ru) (l : List ByteArray) : t6 (ruleT r ++ l) = l := rfl

theorem inGo_good : ∀ (a : List Ru) (rest : List ByteArray) (acc : List Ru) (g : Nat), a.length ≤ 1000 → GoodRules a → a.length < g → inGo g (a.length : Int) (rulesT a ++ rest) false acc = (rest, false, acc ++ a)
  | [], rest, acc, g, hl, hg, hk => by
    rw [inGo_stop _ _ _ _ _ (by simp), rulesT_nil, List.nil_append, List.append_nil]
  | r :: a, rest, acc, 0, hl, hg, hk => by omega
  | r :: a, rest, acc, g + 1, hl, hg, hk => by
    have hr := hg r List.mem_cons_self
    rw [List.length_cons] at hl hk
    have e : wrap64 (((a.length + 1 : Nat) : Int) - 1) = (a.length : Int) := by unfold wrap64; omega
    rw [List.length_cons, rulesT_cons, List.append_assoc, inGo_go _ _ _ _ (by omega), e, t6_good, ruleBad_good r hr, ruleOf_good r hr, inGo_good a rest _ g (by omega) hg.tail (by omega), List.append_assoc]
    rfl
theorem outGo_good : ∀ (a : List Ru) (acc : List Ru) (g : Nat), GoodRules a → a.length < g → outGo g (rulesT a) false acc = ([], false, acc ++ a)
  | [], acc, g, hg, hk => by
    rw [outGo_stop _ _ _ _ (by simp [rulesT_nil]), rulesT_nil, List.append_nil]
  | r :: a, acc, 0, hg, hk => by omega
  | r :: a, acc, g + 1, hg, hk => by
    have hr := hg r List.mem_cons_self
    rw [List.length_cons] at hk
    rw [rulesT_cons, outGo_go _ _ _ (by simp [ruleT]), t6_good, ruleBad_good r hr, ruleOf_good r hr, outGo_good a _ g hg.tail (by omega), List.append_assoc]
    rfl

theorem split_peerB {num asn : Int} {a b : List Ru} (h : GoodPeer num asn a b) : splitGo (peerB num asn a b).size (peerB num asn a b) [] = (peerT num asn a b, true) := by
  have hl := peerT_len h
  unfold peerB
  rw [split_texts (peerT num asn a b) _ [] (by rw [ba_size]; exact textsL_count _) (by omega)]
  rfl

theorem ReadPeer_eq {num asn : Int} {a b : List Ru} (h : GoodPeer num asn a b) : row_ReadPeer.f (peerB num asn a b) = some (num, asn, a, b, true) := by
  have hl := peerT_len h
  have hsz : (peerB num asn a b).size < 4294967281 := by unfold peerB; rw [ba_size]; omega
  have ha := h.la
  have hb := h.lb
  unfold row_ReadPeer.f
  rw [if_pos hsz, split_peerB h]
  simp only
  have ho : openBad true (peerT num asn a b).length 0 = false := by simp [openBad]
  rw [ho]
  have ep : peerT num asn a b = itoaB num :: itoaB asn :: itoaB (a.length : Int) :: (rulesT a ++ rulesT b) := rfl
  have hbad : rpBad (peerT num asn a b) false = false := by
    have b1 : badNum (peerT num asn a b) false = false := badNum_good _ h.n _
    have b2 : badNum (t1 (peerT num asn a b)) false = false := badNum_good _ h.s _
    have b3 : badNum (t2 (peerT num asn a b)) false = false := badNum_good _ (len_i64 a h.la) _
    unfold rpBad
    rw [b1, b2, b3]
  have hn0 : numV (headV (peerT num asn a b)) = some num := numV_eq _ h.n
  have hn1 : numV (headV (t1 (peerT num asn a b))) = some asn := numV_eq _ h.s
  have hn2 : numV (headV (t2 (peerT num asn a b))) = some (a.length : Int) := numV_eq _ (len_i64 a h.la)
  have hlen : (peerT num asn a b).length = 3 + 6 * a.length + 6 * b.length := by
    rw [ep]; simp [rulesT_length]; omega
  have hin : rpIn (peerT num asn a b) false = (rulesT b, false, a) := by
    unfold rpIn
    rw [hbad, hn2, Option.getD_some, hlen]
    have e3 : t3 (peerT num asn a b) = rulesT a ++ rulesT b := rfl
    rw [e3, inGo_good a (rulesT b) [] _ h.la h.ga (by omega), List.nil_append]
  have hout : rpOut (rulesT b, false, a) = ([], false, b) := by
    unfold rpOut
    rw [outGo_good b [] _ h.gb (by simp only [rulesT_length]; omega), List.nil_append]
  rw [hin, hout]
  unfold rpEnd
  rw [if_neg (fun h => by cases h), hn0, hn1]
  simp only [Option.getD_some]
  rw [row_Peer_eq h _ (by unfold peerFuel; omega), Option.bind_some, if_pos rfl]

/-! The reference's Peer. -/
theorem dec_k (n : Int) (h : I64 n) (k : Nat) (hk : 20 ≤ k) : interregnumref11_Dec.f k n = some (itoaB n) :=
  at_rounds (g := fun k => interregnumref11_Dec.f k n) (interregnumref11_Dec.mono n) hk (dec20 n h)
theorem U32.wrap {n : Int} (h : U32 n) : wrap64 n = n := by have h1 := h.1; have h2 := h.2; unfold wrap64; omega

theorem ref_peer_go (l : List Ru) (hl : l.length ≤ 2000) (hg : GoodRules l) : ∀ (d i k : Nat) (out : List ByteArray), l.length - i = d → i ≤ l.length → 2 * d + 1 + 20 ≤ k → out.length ≤ 3 + 6 * i → (textsL (out ++ rulesT (l.drop i))).length ≤ 140737488355328 →
    interregnumref11_Peer.l0 k out l (i : Int) = some ⟨(textsL (out ++ rulesT (l.drop i))).toArray⟩ := by
  intro d
  induction d with
  | zero =>
    intro i k out hd hi hk ho hb
    obtain ⟨k, rfl⟩ : ∃ m, k = m + 1 := ⟨k - 1, by omega⟩
    have e : l.drop i = [] := List.drop_eq_nil_of_le (by omega)
    rw [e, rulesT_nil, List.append_nil] at hb ⊢
    simp only [interregnumref11_Peer.l0]
    rw [if_neg (by omega)]
    unfold interregnumref11_Texts.f
    rw [if_pos hb]
    rfl
  | succ d ih =>
    intro i k out hd hi hk ho hb
    obtain ⟨k, rfl⟩ : ∃ m, k = m + 1 + 1 := ⟨k - 2, by omega⟩
    have h1 : i < l.length := by omega
    obtain ⟨r, t, hr⟩ : ∃ r t, l.drop i = r :: t := ⟨_, _, List.drop_eq_getElem_cons h1⟩
    obtain ⟨hrd, _, hnx⟩ := rd_at hr
    obtain ⟨g1, g2, g3, g4, g5⟩ := hg r (List.mem_of_mem_drop (by rw [hr]; exact List.mem_cons_self))
    have e2 : wrap64 ((i : Int) + 1) = ((i + 1 : Nat) : Int) := by unfold wrap64; omega
    have eo : (out ++ ruleT r) ++ rulesT (l.drop (i + 1)) = out ++ rulesT (l.drop i) := by rw [hnx, hr, rulesT_cons, List.append_assoc]
    have hstep : ∀ x6 : ByteArray, x6 = denyB r.f3 → interregnumref11_Peer.j1 (k + 1) out l (i : Int) x6 = some ⟨(textsL (out ++ rulesT (l.drop i))).toArray⟩ := by
      intro x6 hx6
      simp only [interregnumref11_Peer.j1]
      rw [if_pos (by omega), if_pos (by omega), hrd, g1.wrap, dec_k _ g1.i64 k (by omega), dec_k _ g2 k (by omega), dec_k _ g3 k (by omega), dec_k _ g4 k (by omega), dec_k _ g5 k (by omega)]
      simp only [Option.bind_some]
      have e6 : ([itoaB r.f0.f0, itoaB r.f0.f1, itoaB r.f1, itoaB r.f2, x6, itoaB r.f4] : List ByteArray) = ruleT r := by rw [hx6]; rfl
      rw [e6, if_pos (by simp [ruleT]; omega), e2, ih (i + 1) k _ (by omega) (by omega) (by omega) (by simp [ruleT]; omega) (by rw [eo]; exact hb), eo]
    simp only [interregnumref11_Peer.l0]
    rw [if_pos (by omega), if_pos (by omega), hrd]
    cases hf : r.f3 with
    | true => rw [if_pos rfl]; exact hstep _ (by rw [hf]; rfl)
    | false => rw [if_neg (by decide)]; exact hstep _ (by rw [hf]; rfl)

theorem ref_Peer_eq {num asn : Int} {a b : List Ru} (h : GoodPeer num asn a b) (k : Nat) (hk : 2 * (a.length + b.length) + 30 ≤ k) : interregnumref11_Peer.f k num asn a b = some (peerB num asn a b) := by
  have hl := peerT_len h
  have ha := h.la
  have hb := h.lb
  unfold interregnumref11_Peer.f
  rw [dec_k _ h.n k (by omega), dec_k _ h.s k (by omega), dec_k _ (len_i64 a h.la) k (by omega)]
  simp only [Option.bind_some, List.nil_append, List.length_nil, Nat.zero_add]
  rw [if_pos (by omega), if_pos (by omega)]
  have hgo := ref_peer_go (a ++ b) (by rw [List.length_append]; omega) (fun r hr => (List.mem_append.1 hr).elim (h.ga r) (h.gb r)) (a ++ b).length 0 k [itoaB num, itoaB asn, itoaB (a.length : Int)] (by omega) (by omega) (by rw [List.length_append]; omega) (by simp)
  have e : [itoaB num, itoaB asn, itoaB (a.length : Int)] ++ rulesT ((a ++ b).drop 0) = peerT num asn a b := by
    unfold peerT rulesT
    rw [List.drop_zero, List.flatMap_append, List.append_assoc]
  rw [e] at hgo
  exact hgo (by omega)

theorem SamePeer_eq {n s : Int} {a b : List Ru} {n' s' : Int} {a' b' : List Ru} (h : GoodPeer n s a b) (h' : GoodPeer n' s' a' b') (k : Nat) (hk : 2 * (a.length + b.length) + 30 ≤ k) (hk' : 2 * (a'.length + b'.length) + 30 ≤ k) :
    interregnumref11_SamePeer.f k n s a b n' s' a' b' = some (decide (a.length = a'.length) && ((peerB n s a b).toList == (peerB n' s' a' b').toList)) := by
  unfold interregnumref11_SamePeer.f
  rw [ref_Peer_eq h k hk, ref_Peer_eq h' k hk']
  simp only [Option.bind_some]
  by_cases e : a.length = a'.length
  · rw [if_pos (by omega), decide_eq_true e]; rfl
  · rw [if_neg (by omega), decide_eq_false e]; rfl
end Go.Proofs.YtppjodchlpapdaaDoor.PB

namespace Go.Proofs.YtppjodchlpapdaaDoor.PB
open Go.RowKit Go.ChangeShapes Go.WideShapes Go.ChangeAt Go.Proofs Go.Proofs.YtppjodchlpapdaaDoor
set_option linter.unusedVariables false

section
variable {H : Type} {enc : TypeId × Value → H}
/-- The wrap with a condition of the row's own (X) AND the world's shape. -/
theorem handed_and_shaped {a : Assume} {C : Checked} {os : Os} {f : FuncId} {fn : Func} {s : ChangeSpec} {conds : List PathCond} {apart fresh handsOn again : Bool} {X : World → Array Value → Prop}
    (hX : ∀ (w w' : World) (args : Array Value), w.heap = w'.heap → X w args → X w' args)
    (own : ownKnob C.prog.godebug = none) (started : os.Started) (noInit : C.prog.inits.idxOf? f = none) (hfn : C.prog.funcs[f]? = some fn)
    (witness : ∃ (w : World) (tape : Tape) (i : Input), w.os = os ∧ (w.forCall tape i).Shaped C.prog ∧ i.vars = [] ∧ Input.okWide C.prog (w.forCall tape i) .any w.heap.size f i ∧
      ((s.pre enc C.prog fn conds apart (w.forCall tape i).memory i.args ∧ X (w.forCall tape i).memory i.args) ∧ sizedMet enc C.prog fn (OpenSpec.ofChange s) apart (w.forCall tape i).memory i.args) ∧ a.holds C.prog (lone (Frame.enter C.prog f i.args .normal) [] (w.forCall tape i)))
    (contract : ∀ (W : World) (base : Nat) (args : Array Value) (ds gs : List (DataW H)) (before : List MemPlace),
      (∀ (j : Nat) t v, fn.params[j]? = some t → args[j]? = some v → Value.okWide C.prog W .any base t v) →
      DataW.Whole enc C.prog fn.params.toList s.vars apart W args.toList ds gs before →
      (DataW.weightsEach C.prog (fn.params.toList ++ s.plain.varTypes C.prog) (ds ++ gs)).all (· ≤ reachBytes) = true → X W args →
      W.ShapedOpen C.prog →
      Calls C.prog f args W fun e W' => ∃ v, e = .returned v ∧ s.post enc C.prog fn apart fresh handsOn again W args v W') :
    ReturnsInHanded a C os f .any (fun w args => (s.pre enc C.prog fn conds apart w args ∧ X w args) ∧ sizedMet enc C.prog fn (OpenSpec.ofChange s) apart w args) (s.post enc C.prog fn apart fresh handsOn again) := by
  refine returnsInHanded_of_calls own started noInit witness ?_
  intro w tape i _ hsh _ hok hpre hholds
  obtain ⟨_, _, _, fn', hfn', _, _, _, _, hval⟩ := hok
  have e : fn' = fn := Option.some.inj (hfn'.symm.trans hfn)
  subst e
  obtain ⟨⟨⟨ds, gs, before, hw, hc⟩, hx⟩, hz⟩ := hpre
  have hw' := DataW.Whole.of_heap (w' := w.forCall tape i) (by rfl) hw
  refine (contract (w.forCall tape i) w.heap.size i.args ds gs before hval hw' (hz.weights hw) (hX _ _ _ (by rfl) hx) hsh).mono fun e W' ⟨v, he, hp⟩ => ?_
  subst he
  exact ChangeSpec.post_blind hp
end

theorem tPow : (Tryd.prog.globals[3]?).map (·.type) = some 106 := by kernel_rfl
theorem tRng : (Tryd.prog.globals[2]?).map (·.type) = some 54 := by kernel_rfl
theorem tSyn : (Tryd.prog.globals[1]?).map (·.type) = some 54 := by kernel_rfl

theorem vars_of_laid {W : World} (h : laidMet Tryd.prog Rows.rowHopsRow.laid W) (hsh : W.ShapedOpen Tryd.prog) : VarsOk W := by
  obtain ⟨ps, ⟨g0, t0, cs0, f0, p0, q0, -, -, -, -, ⟨g1, t1, cs1, f1, p1, q1, -, -, -, -, ⟨g2, t2, cs2, f2, p2, q2, hg2, ht2, hv2, hd2, ⟨g3, t3, cs3, f3, p3, q3, hg3, ht3, hv3, hd3, ⟨g4, t4, cs4, f4, p4, q4, hg4, ht4, hv4, hd4, -, -⟩, -⟩, -⟩, -⟩, -⟩, -, -⟩ := h
  obtain rfl := Option.some.inj (gPow.symm.trans hg2)
  obtain rfl := Option.some.inj (gRng.symm.trans hg3)
  obtain rfl := Option.some.inj (gSyn.symm.trans hg4)
  obtain rfl := Option.some.inj (tPow.symm.trans ht2)
  obtain rfl := Option.some.inj (tRng.symm.trans ht3)
  obtain rfl := Option.some.inj (tSyn.symm.trans ht4)
  refine ⟨?_, ?_, ?_, Tryd.laysM145.s1_3 W hsh⟩
  · unfold Lib.TabIs
    rw [hv2]
    have e := Lib.cells_of_tab (zs := Lib.pow10Tab) (k := .u64) Tryd.underlying106 Tryd.underlying77 (by kernel_rfl) (by kernel_rfl) hd2
    rw [← e]
  · obtain ⟨_, u, v, e, _, _⟩ := iface_of_trod Tryd.underlying54 hd4
    refine ⟨u, v, ?_⟩
    rw [hv4]
    obtain ⟨l⟩ := cs4
    simp only at e
    rw [e]
  · obtain ⟨_, u, v, e, _, _⟩ := iface_of_trod Tryd.underlying54 hd3
    refine ⟨u, v, ?_⟩
    rw [hv3]
    obtain ⟨l⟩ := cs3
    simp only at e
    rw [e]

theorem cell_int {P : Program} {W : World} {base : Nat} {t : TypeId} {k : IntKind} {v : Value} (ht : P.underlying t = some (.int k)) (h : Cell.okWide P W .any base t v) : ∃ x, v = .int k x ∧ k.has x := by
  unfold Cell.okWide at h
  rw [ht] at h
  cases v <;> simp [Cell.ok, ht] at h
  obtain ⟨rfl, h2⟩ := h
  exact ⟨_, rfl, h2⟩
theorem cell_bool {P : Program} {W : World} {base : Nat} {t : TypeId} {v : Value} (ht : P.underlying t = some .bool) (h : Cell.okWide P W .any base t v) : ∃ x, v = .bool x := by
  unfold Cell.okWide at h
  rw [ht] at h
  cases v <;> simp [Cell.ok, ht] at h
  exact ⟨_, rfl⟩

theorem laidOut : laidOutB Tryd.prog = true := by kernel_rfl
theorem ownNone : ownKnob Tryd.prog.godebug = none := by kernel_rfl

end Go.Proofs.YtppjodchlpapdaaDoor.PB

namespace Go.Proofs.YtppjodchlpapdaaDoor.PB
open Go.RowKit Go.ChangeShapes Go.WideShapes Go.ChangeAt Go.Proofs Go.Proofs.YtppjodchlpapdaaDoor Go.Proofs.YtppjodchlpapdaaDoorW.PrintWords
set_option linter.unusedVariables false
set_option linter.unusedSimpArgs false

/-! Opening arguments: what a value that can be read as data says in the print's kinds. -/

theorem weightsAll_mem {H : Type} {P : Program} {e : TypeId} : ∀ {l : List (DataW H)} {d : DataW H}, d ∈ l → ∀ n ∈ d.weights P e, n ∈ DataW.weightsAll P e l
  | d' :: r, d, hd, n, hn => by
    simp only [DataW.weightsAll, List.mem_append]
    rcases List.mem_cons.1 hd with rfl | h
    · exact Or.inl hn
    · exact Or.inr (weightsAll_mem h n hn)

section
variable {H : Type} {enc : TypeId × Value → H} {P : Program} {W : World} {base : Nat} {sp : Nat → Bool} {held : Bool}

/-- Cells read as a value x of the kind k, wherever its weights are within the reach. -/
def Opens {α : Type} (enc : TypeId × Value → H) (P : Program) (W : World) (base : Nat) (sp : Nat → Bool) (held : Bool) (k : Kd α) (t : TypeId) (Good : α → Prop) : Prop :=
  ∀ (n : Nat) (cs : List Value) (x : DataW H × List MemPlace), DataW.trod enc P W base sp held n t cs = some x → (∀ u ∈ x.1.weights P t, u ≤ reachBytes) → ∃ y, k.K W y cs ∧ Good y

theorem opens_string {t : TypeId} (ht : P.underlying t = some .string) : Opens enc P W base sp held Kd.string t (fun s => s.size ≤ 140737488351232) := by
  intro n cs x h hw
  obtain ⟨s, rfl, rfl, hs⟩ := DataW.trod_string ht h
  refine ⟨s, rfl, ?_⟩
  have := hw s.data.toList.length (by simp [DataW.weights])
  have e : s.data.toList.length = s.size := Array.length_toList
  have : reachBytes = 140737488351232 := rfl
  omega

/-- A slice's elements, kind by kind. -/
theorem opens_slice {α : Type} {k : Kd α} {t e : TypeId} {Good : α → Prop} (ht : P.underlying t = some (.slice e)) (hc : P.cellsOf e = k.sz) (hk : Opens enc P W base sp held k e Good) :
    Opens enc P W base sp held (Kd.slice e k) t (fun l => l.length * P.bytesOf e ≤ 140737488351232 ∧ ∀ y ∈ l, Good y) := by
  intro n cs x h hw
  rcases DataW.trod_slice ht h with ⟨rfl, rfl⟩ | ⟨a, len, cap, elems, rest, m, _, rfl, rfl, hb, hl, hm, hlen, hel, hsp, hns⟩
  · refine ⟨[], ⟨none, 0, rfl, Nat.le_refl _, ⟨rfl, Nat.zero_le _, fun h => absurd h (Nat.lt_irrefl _)⟩⟩, ?_, fun y hy => by cases hy⟩
    simp
  · have hwl : (elems.map (·.1)).length * P.bytesOf e ≤ reachBytes := by
      have h1 := hw (((elems.map (·.1)).length + (rest.map (·.1)).length) * P.bytesOf e) (by simp [DataW.weights, ht])
      exact Nat.le_trans (Nat.mul_le_mul_right _ (Nat.le_add_right _ _)) h1
    have each : ∀ i (hi : i < len), ∃ y cs', W.cells? base (a.add (i * P.cellsOf e)) (P.cellsOf e) = some cs' ∧ k.K W y cs' ∧ Good y := by
      intro i hi
      have hi2 : i < elems.length := by omega
      have h1 := hel i hi
      rw [List.getElem?_eq_getElem hi2, Option.bind_eq_some_iff] at h1
      obtain ⟨cs', h2, h3⟩ := h1
      obtain ⟨y, hy, hg⟩ := hk m cs' _ h3 (fun u hu => hw u (by
        simp only [DataW.weights, ht, List.mem_cons, List.mem_append]
        exact Or.inr (Or.inl (weightsAll_mem (List.mem_map.2 ⟨_, List.getElem_mem hi2, rfl⟩) u hu))))
      exact ⟨y, cs', h2, hy, hg⟩
    have hall : ∃ ys : List α, ys.length = len ∧ ∀ i (hi : i < len) (y : α), ys[i]? = some y → ∃ cs', W.cells? base (a.add (i * P.cellsOf e)) (P.cellsOf e) = some cs' ∧ k.K W y cs' ∧ Good y := by
      clear hel hlen hl hw hwl hsp h
      induction len with
      | zero => exact ⟨[], rfl, fun i hi => absurd hi (Nat.not_lt_zero _)⟩
      | succ len ih =>
        obtain ⟨ys, h1, h2⟩ := ih (fun i hi => each i (by omega))
        obtain ⟨y, cs', h3, h4, h5⟩ := each len (by omega)
        refine ⟨ys ++ [y], by simp [h1], fun i hi z hz => ?_⟩
        by_cases h6 : i < len
        · rw [List.getElem?_append_left (by omega)] at hz
          exact h2 i h6 z hz
        · obtain rfl : i = len := by omega
          rw [List.getElem?_append_right (by omega), h1, Nat.sub_self] at hz
          simp only [List.getElem?_cons_zero, Option.some.injEq] at hz
          subst hz
          exact ⟨cs', h3, h4, h5⟩
    obtain ⟨ys, h1, h2⟩ := hall
    refine ⟨ys, ⟨some a, cap, by rw [h1], by omega, rfl, ?_, fun hp => ⟨a, rfl, fun j z hz => ?_⟩⟩, ?_, fun y hy => ?_⟩
    · have : maxLen = 9223372036854775807 := by decide
      omega
    · have hj : j < len := by have := (List.getElem?_eq_some_iff.1 hz).1; omega
      obtain ⟨cs', h3, h4, _⟩ := h2 j hj z hz
      rw [hc] at h3
      refine ⟨cs', k.K_len h4, h4, fun i u hu => ?_⟩
      have h6 := (World.cells?_some h3).2
      have hi : i < k.sz := by rw [← k.K_len h4]; exact (List.getElem?_eq_some_iff.1 hu).1
      rw [← Addr.add_add, h6.2 i hi, hu]
    · have : (elems.map (·.1)).length = ys.length := by simp; omega
      rw [this] at hwl
      exact hwl
    · obtain ⟨i, hi, rfl⟩ := List.getElem_of_mem hy
      obtain ⟨_, _, _, h3⟩ := h2 i (by omega) _ (List.getElem?_eq_getElem hi)
      exact h3

theorem opens_int {i : IntKind} {t : TypeId} (ht : P.underlying t = some (.int i)) : Opens enc P W base sp held (Kd.int i) t (fun n => (Lit.int i n).wf = true) := by
  intro n cs x h hw
  obtain ⟨z, rfl, rfl, hz⟩ := DataW.trod_int ht h
  exact ⟨z, rfl, hz⟩

theorem opens_bool {t : TypeId} (ht : P.underlying t = some .bool) : Opens enc P W base sp held Kd.bool t (fun _ => True) := by
  intro n cs x h hw
  obtain ⟨b, rfl, rfl⟩ := DataW.trod_bool ht h
  exact ⟨b, rfl, trivial⟩

theorem opens_iso {α β : Type} {k : Kd α} {t : TypeId} {Good : α → Prop} (f : β → α) (g : α → β) (hfg : ∀ a, f (g a) = a) (h : Opens enc P W base sp held k t Good) : Opens enc P W base sp held (Kd.iso k f) t (fun y => Good (f y)) := by
  intro n cs x h1 hw
  obtain ⟨y, hy, hg⟩ := h n cs x h1 hw
  refine ⟨g y, ?_, ?_⟩
  · show k.K W (f (g y)) cs
    rw [hfg]; exact hy
  · show Good (f (g y))
    rw [hfg]; exact hg

/-- Fields in line, from cell o on. -/
def OpensF {α : Type} (enc : TypeId × Value → H) (P : Program) (W : World) (base : Nat) (sp : Nat → Bool) (held : Bool) (l : List (Nat × TypeId)) (o : Nat) (k : Kd α) (Good : α → Prop) : Prop :=
  ∀ (m : Nat) (cs : List Value) (xs : List (DataW H × List MemPlace)), cs.length = o + k.sz → xs.length = l.length →
    (∀ (i : Nat) (f : Nat × TypeId), l[i]? = some f → DataW.trod enc P W base sp held m f.2 ((cs.drop f.1).take (P.cellsOf f.2)) = xs[i]?) →
    (∀ u ∈ DataW.weightsEach P (l.map (·.2)) (xs.map (·.1)), u ≤ reachBytes) → ∃ y, k.K W y (cs.drop o) ∧ Good y

theorem opensF_one {α : Type} {k : Kd α} {t : TypeId} {Good : α → Prop} (o : Nat) (h : Opens enc P W base sp held k t Good) (hc : P.cellsOf t = k.sz) : OpensF enc P W base sp held [(o, t)] o k Good := by
  intro m cs xs hl hx hf hw
  match xs, hx with
  | [x], _ =>
    have h0 := hf 0 (o, t) rfl
    simp only [List.getElem?_cons_zero] at h0
    rw [hc, List.take_of_length_le (by rw [List.length_drop]; omega)] at h0
    exact h m _ x h0 (fun u hu => hw u (by simpa [DataW.weightsEach] using hu))

theorem opensF_cons {α β : Type} {k : Kd α} {k' : Kd β} {t : TypeId} {Good : α → Prop} {Good' : β → Prop} {l : List (Nat × TypeId)} (o : Nat) (h : Opens enc P W base sp held k t Good) (hc : P.cellsOf t = k.sz)
    (h' : OpensF enc P W base sp held l (o + k.sz) k' Good') : OpensF enc P W base sp held ((o, t) :: l) o (Kd.pair k k') (fun y => Good y.1 ∧ Good' y.2) := by
  intro m cs xs hl hx hf hw
  match xs, hx with
  | x :: xs', hx' =>
    have h0 := hf 0 (o, t) rfl
    simp only [List.getElem?_cons_zero] at h0
    rw [hc] at h0
    have hl' : cs.length = o + (k.sz + k'.sz) := hl
    obtain ⟨y, hy, hg⟩ := h m _ x h0 (fun u hu => hw u (by simp only [List.map_cons, DataW.weightsEach, List.mem_append]; exact Or.inl hu))
    obtain ⟨y', hy', hg'⟩ := h' m cs xs' (by omega) (by simpa using hx') (fun i f hi => by simpa using hf (i + 1) f (by simpa using hi)) (fun u hu => hw u (by simp only [List.map_cons, DataW.weightsEach, List.mem_append]; exact Or.inr hu))
    refine ⟨(y, y'), ⟨(cs.drop o).take k.sz, cs.drop (o + k.sz), ?_, hy, hy'⟩, hg, hg'⟩
    rw [← List.drop_drop, List.take_append_drop]

theorem opens_struct {α : Type} {k : Kd α} {t : TypeId} {fs : Array Field} {l : List (Nat × TypeId)} {Good : α → Prop} (ht : P.underlying t = some (.struct fs)) (hl : fs.toList.map (fun f => (f.offset, f.type)) = l) (hc : P.cellsOf t = k.sz)
    (h : OpensF enc P W base sp held l 0 k Good) : Opens enc P W base sp held k t Good := by
  intro n cs x h1 hw
  obtain ⟨xs, m, rfl, rfl, h2, h3, h4⟩ := DataW.trod_struct ht h1
  have h5 := h m cs xs (by omega) (by rw [← hl]; simpa using h3) (fun i f hi => by
    rw [← hl, List.getElem?_map, Option.map_eq_some_iff] at hi
    obtain ⟨g, hg, rfl⟩ := hi
    exact h4 i g (by simpa using hg)) (fun u hu => hw u (by
      have e : l.map (·.2) = fs.toList.map (·.type) := by rw [← hl, List.map_map]; rfl
      rw [e] at hu
      simpa only [DataW.weights, ht] using hu))
  simpa using h5

theorem opens_arg {α : Type} {k : Kd α} {t : TypeId} {Good : α → Prop} {ts : List TypeId} {ds : List (DataW H)} {v : Value} {d : DataW H} {ps : List MemPlace} {j : Nat} (hk : Opens enc P W base sp held k t Good) (hd : DataW.Trod enc P W base sp held t v d ps)
    (hw : (DataW.weightsEach P ts ds).all (· ≤ reachBytes) = true) (ht : ts[j]? = some t) (hj : ds[j]? = some d) : ∃ y, k.K W y v.cells.toList ∧ Good y := by
  obtain ⟨fuel, hf⟩ := hd
  exact hk fuel _ (d, ps) hf (fun u hu => by simpa using List.all_eq_true.1 hw u (DataW.weights_mem_each ht hj u hu))

end
end Go.Proofs.YtppjodchlpapdaaDoor.PB

namespace Go.Proofs.YtppjodchlpapdaaDoor.PB
open Go.RowKit Go.ChangeShapes Go.WideShapes Go.ChangeAt Go.Proofs Go.Proofs.YtppjodchlpapdaaDoor Go.Proofs.YtppjodchlpapdaaDoorW.PrintWords
set_option linter.unusedVariables false
set_option linter.unusedSimpArgs false
set_option maxRecDepth 100000

theorem u32_wf {x : Int} (h : (Lit.int .u32 x).wf = true) : U32 x := by
  simp [Lit.wf, IntKind.min, IntKind.max, IntKind.signed, IntKind.bits] at h
  exact ⟨by omega, by omega⟩
theorem i64_wf {x : Int} (h : (Lit.int .i64 x).wf = true) : I64 x := by
  simp [Lit.wf, IntKind.min, IntKind.max, IntKind.signed, IntKind.bits] at h
  exact ⟨by omega, by omega⟩

section
variable {H : Type} {enc : TypeId × Value → H} {W : World} {base : Nat} {sp : Nat → Bool} {held : Bool}

theorem opens_mono {P : Program} {α : Type} {k : Kd α} {t : TypeId} {G G' : α → Prop} (h : Opens enc P W base sp held k t G) (hg : ∀ y, G y → G' y) : Opens enc P W base sp held k t G' := by
  intro n cs x h1 hw
  obtain ⟨y, hy, hgy⟩ := h n cs x h1 hw
  exact ⟨y, hy, hg y hgy⟩

theorem opens_prefix : Opens enc Tryd.prog W base sp held k33 33 (fun x => U32 x.f0 ∧ I64 x.f1) :=
  opens_mono (opens_iso (fun x : S33 => (x.f0, x.f1)) (fun p => ⟨p.1, p.2⟩) (fun _ => rfl) (opens_struct Tryd.underlying33 (l := [(0, 31), (1, 3)]) rfl (by kernel_rfl)
    (opensF_cons 0 (opens_int Tryd.underlying31) (by kernel_rfl) (opensF_one 1 (opens_int Tryd.underlying3) (by kernel_rfl)))))
    (fun y h => ⟨u32_wf h.1, i64_wf h.2⟩)

theorem opens_rule : Opens enc Tryd.prog W base sp held kRu 72 GoodRule :=
  opens_mono (opens_iso (fun x : Ru => (x.f0, x.f1, x.f2, x.f3, x.f4)) (fun p => ⟨p.1, p.2.1, p.2.2.1, p.2.2.2.1, p.2.2.2.2⟩) (fun _ => rfl) (opens_struct Tryd.underlying72 (l := [(0, 33), (2, 3), (3, 3), (4, 4), (5, 3)]) rfl (by kernel_rfl)
    (opensF_cons 0 opens_prefix (by kernel_rfl) (opensF_cons 2 (opens_int Tryd.underlying3) (by kernel_rfl) (opensF_cons 3 (opens_int Tryd.underlying3) (by kernel_rfl) (opensF_cons 4 (opens_bool Tryd.underlying4) (by kernel_rfl) (opensF_one 5 (opens_int Tryd.underlying3) (by kernel_rfl))))))))
    (fun y h => ⟨h.1.1, h.1.2, i64_wf h.2.1, i64_wf h.2.2.1, i64_wf h.2.2.2.2⟩)

def PeerIs (x : S42) : Prop := I64 x.f0 ∧ I64 x.f1 ∧ (x.f2.length ≤ 140737488355328 ∧ GoodRules x.f2) ∧ (x.f3.length ≤ 140737488355328 ∧ GoodRules x.f3)
theorem bytes_rule : Tryd.prog.bytesOf 72 = 48 := by kernel_rfl
theorem opens_rules : Opens enc Tryd.prog W base sp held (Kd.slice 72 kRu) 40 (fun l => l.length ≤ 140737488355328 ∧ GoodRules l) :=
  opens_mono (opens_slice Tryd.underlying40 (by kernel_rfl) opens_rule) (fun y h => ⟨by have := h.1; rw [bytes_rule] at this; omega, h.2⟩)
theorem opens_peer : Opens enc Tryd.prog W base sp held k42 42 PeerIs :=
  opens_mono (opens_iso (fun x : S42 => (x.f0, x.f1, x.f2, x.f3)) (fun p => ⟨p.1, p.2.1, p.2.2.1, p.2.2.2⟩) (fun _ => rfl) (opens_struct Tryd.underlying42 (l := [(0, 3), (1, 3), (2, 40), (3, 40)]) rfl (by kernel_rfl)
    (opensF_cons 0 (opens_int Tryd.underlying3) (by kernel_rfl) (opensF_cons 1 (opens_int Tryd.underlying3) (by kernel_rfl) (opensF_cons 2 opens_rules (by kernel_rfl) (opensF_one 3 opens_rules (by kernel_rfl)))))))
    (fun y h => ⟨i64_wf h.1, i64_wf h.2.1, h.2.2.1, h.2.2.2⟩)

/-- A peer by value. -/
theorem peer_arg {v : Value} {d : DataW H} {ps : List MemPlace} {ts : List TypeId} {ds : List (DataW H)} {j : Nat} (hd : DataW.Trod enc Tryd.prog W base sp held 42 v d ps) (hw : (DataW.weightsEach Tryd.prog ts ds).all (· ≤ reachBytes) = true) (ht : ts[j]? = some 42) (hj : ds[j]? = some d)
    {r : Reach} {b0 : Nat} (hval : Value.okWide Tryd.prog W r b0 42 v) : ∃ (x : S42) (A2 : Option Addr) (c2 : Nat) (A3 : Option Addr) (c3 : Nat), v = .agg #[.int .i64 x.f0, .int .i64 x.f1, .slice A2 x.f2.length c2, .slice A3 x.f3.length c3] ∧ x.f2.length ≤ c2 ∧ kRu.C W A2 x.f2.length x.f2 ∧ x.f3.length ≤ c3 ∧ kRu.C W A3 x.f3.length x.f3 ∧ PeerIs x := by
  obtain ⟨x, hK, hG⟩ := opens_arg opens_peer hd hw ht hj
  obtain ⟨cs, rfl, hcs⟩ := okWide_struct Tryd.underlying42 hval
  obtain ⟨A2, c2, A3, c3, e, h1, h2, h3, h4⟩ := k42_open hK
  refine ⟨x, A2, c2, A3, c3, ?_, h1, h2, h3, h4, hG⟩
  have e2 : cs.toList = [.int .i64 x.f0, .int .i64 x.f1, .slice A2 x.f2.length c2, .slice A3 x.f3.length c3] := e
  obtain ⟨l⟩ := cs
  simp only at e2
  rw [e2]

/-- A hop by value. -/
theorem hop_arg {v : Value} {d : DataW H} {ps : List MemPlace} (hd : DataW.Trod enc Tryd.prog W base sp held 35 v d ps) {ts : List TypeId} {ds : List (DataW H)} {j : Nat} (hw : (DataW.weightsEach Tryd.prog ts ds).all (· ≤ reachBytes) = true) (ht : ts[j]? = some 35) (hj : ds[j]? = some d)
    {r : Reach} {b0 : Nat} (hval : Value.okWide Tryd.prog W r b0 35 v) : ∃ a b c d e, v = .agg #[.int .u32 a, .int .i64 b, .int .u32 c, .int .i64 d, .int .i64 e] ∧ U32 a ∧ I64 b ∧ U32 c ∧ I64 d ∧ I64 e := by
  have ho : Opens enc Tryd.prog W base sp held (Kd.pair k33 (Kd.pair (Kd.int .u32) (Kd.pair (Kd.int .i64) (Kd.int .i64)))) 35 _ :=
    opens_struct Tryd.underlying35 (l := [(0, 33), (2, 31), (3, 3), (4, 3)]) rfl (by kernel_rfl)
      (opensF_cons 0 opens_prefix (by kernel_rfl) (opensF_cons 2 (opens_int Tryd.underlying31) (by kernel_rfl) (opensF_cons 3 (opens_int Tryd.underlying3) (by kernel_rfl) (opensF_one 4 (opens_int Tryd.underlying3) (by kernel_rfl)))))
  obtain ⟨x, hK, hG⟩ := opens_arg ho hd hw ht hj
  obtain ⟨cs, rfl, hcs⟩ := okWide_struct Tryd.underlying35 hval
  obtain ⟨c0, c1, e, h0, d0, d1, rfl, h1, e0, e1, rfl, h2, h3⟩ := hK
  have h0' := k33_open h0
  refine ⟨x.1.f0, x.1.f1, x.2.1, x.2.2.1, x.2.2.2, ?_, hG.1.1, hG.1.2, u32_wf hG.2.1, i64_wf hG.2.2.1, i64_wf hG.2.2.2⟩
  have e2 : cs.toList = c0 ++ (d0 ++ (e0 ++ e1)) := e
  obtain rfl : d0 = [.int .u32 x.2.1] := h1
  obtain rfl : e0 = [.int .i64 x.2.2.1] := h2
  obtain rfl : e1 = [.int .i64 x.2.2.2] := h3
  rw [h0'] at e2
  obtain ⟨l⟩ := cs
  simp only at e2
  rw [e2]
  rfl
end
end Go.Proofs.YtppjodchlpapdaaDoor.PB

-- By a program of this session (printx.py), out of Lean's own print of the translation. Not trusted: Lean checks it.
namespace Go.Proofs.YtppjodchlpapdaaDoor.PB
open Go.RowKit Go.Proofs.YtppjodchlpapdaaDoorW.PrintWords Go.Proofs.YtppjodchlpapdaaDoorW.PrintLast Go.Proofs.YtppjodchlpapdaaDoorW.PrintMore
attribute [local go_sem] max2_int min2_int max_two min_two max_three min_three max_four min_four   -- for this text's walks alone
set_option linter.unusedVariables false
set_option linter.unusedSimpArgs false

theorem eqA33 (d : Nat) (w : World) (x0 y0 : Int) (x1 y1 : Int) :
    (Op.equalIn (d + 2) 33 (.agg #[.int .u32 x0, .int .i64 x1]) (.agg #[.int .u32 y0, .int .i64 y1])).run Tryd.prog w = .ok (x0 == y0 && (x1 == y1)) w := by
  refine eqA_of Tryd.underlying33 (by kernel_rfl) ?_
  refine eqf_cons (by rfl) (by go_simp; rfl) (by go_simp; rfl) (by go_simp) ?_
  exact eqf_last (by rfl) (by go_simp; rfl) (by go_simp; rfl) (by go_simp)
theorem eqA35 (d : Nat) (w : World) (x0 y0 : Int) (x1 y1 : Int) (x2 y2 : Int) (x3 y3 : Int) (x4 y4 : Int) :
    (Op.equalIn (d + 3) 35 (.agg #[.int .u32 x0, .int .i64 x1, .int .u32 x2, .int .i64 x3, .int .i64 x4]) (.agg #[.int .u32 y0, .int .i64 y1, .int .u32 y2, .int .i64 y3, .int .i64 y4])).run Tryd.prog w = .ok ((x0 == y0 && (x1 == y1)) && (x2 == y2 && (x3 == y3 && (x4 == y4)))) w := by
  refine eqA_of Tryd.underlying35 (by kernel_rfl) ?_
  refine eqf_cons (by rfl) (by go_simp) (by go_simp) (eqA33 (d + 0) w _ _ _ _) ?_
  refine eqf_cons (by rfl) (by go_simp; rfl) (by go_simp; rfl) (by go_simp) ?_
  refine eqf_cons (by rfl) (by go_simp; rfl) (by go_simp; rfl) (by go_simp) ?_
  exact eqf_last (by rfl) (by go_simp; rfl) (by go_simp; rfl) (by go_simp)
end Go.Proofs.YtppjodchlpapdaaDoor.PB
