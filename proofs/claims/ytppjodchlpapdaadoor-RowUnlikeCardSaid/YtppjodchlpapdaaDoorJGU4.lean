/- The method rule of row's reader takes the next six texts. Conditions: the reader is one of the call's own. What the two loops of row.ReadPeer read, as functions on lists, and what stands in memory meanwhile. No conditions. row.ReadPeer answers as row_ReadPeer.f says. Conditions: row_ReadPeer.f has an answer. -/
import Derived.Test.YtppjodchlpapdaaDoorJGU0
import Derived.Test.YtppjodchlpapdaaDoorJGU3
import Derived.Test.YtppjodchlpapdaaDoorJGU1
import Derived.Deep.DeepCutAuto
import Derived.Deep.CutBlock
import Derived.Deep.LoopGhost
import Derived.Deep.RegionHeld3
import Derived.Deep.RegionLaw
-- By a program of this session (printx.py), out of Lean's own print of the translation. Not trusted: Lean checks it.
namespace Go.Proofs.YtppjodchlpapdaaDoor.PB
open Go.RowKit Go.Proofs.YtppjodchlpapdaaDoorW.PrintWords Go.Proofs.YtppjodchlpapdaaDoorW.PrintLast Go.Proofs.YtppjodchlpapdaaDoorW.PrintMore
attribute [local go_sem] max2_int min2_int max_two min_two max_three min_three max_four min_four   -- for this text's walks alone
set_option linter.unusedVariables false
set_option linter.unusedSimpArgs false

/-! ### row_Peer: function 17 -/
def row_Peer.f (k : Nat) (a0_0 : Int) (a0_1 : Int) (l0_2 : List (S72)) (l0_3 : List (S72)) : Option (ByteArray) := (row_num.f a0_0).bind fun t244 => ((row_num.f a0_1).bind fun t245 => ((row_num.f (l0_2.length : Int)).bind fun t246 => ((some (([t244, t245, t246] : List ByteArray) : List ByteArray)).bind fun y247 => ((row_rules.f k l0_2).bind fun t250 => (if y247.length + t250.length < 8796093022208 then ((some (y247 ++ t250 : List ByteArray)).bind fun y253 => ((row_rules.f k l0_3).bind fun t256 => (if y253.length + t256.length < 8796093022208 then ((row_Texts.f (y253 ++ t256)).bind fun t262 => (some t262)) else (none)))) else (none))))))
theorem row_Peer.mono : ∀ a0 a1 a2 a3 k, LeO (row_Peer.f k a0 a1 a2 a3) (row_Peer.f (k + 1) a0 a1 a2 a3) := by
  intro a0 a1 a2 a3 k
  unfold row_Peer.f
  repeat' first
      | (with_reducible exact row_rules.mono _ _)
      | (with_reducible exact LeO.refl _)
      | (with_reducible exact LeO.none _)
      | (with_reducible refine LeO.ite ?_ ?_)
      | (with_reducible refine LeO.bind ?_ (fun _ => ?_))
      | exact row_rules.mono _ _
      | exact LeO.none _
      | refine LeO.ite ?_ ?_
      | refine LeO.bind ?_ (fun _ => ?_)
def row_Peer.T1 : Bool × List (List Nat × List Nat) := (true, [([], []), ([0], [0]), ([1], [1]), ([], []), ([3], [3]), ([4, 2], [4]), ([], []), ([6], [6]), ([7], [7]), ([8, 5], [8]), ([2, 5, 9], [2, 5, 9]), ([10, 9, 0, 1, 2, 3, 4, 5, 6, 7, 8, 9, 10], [10])])
def row_Peer.B1 : List Nat := [0, 1, 3, 0, 8, 31, 0, 64, 192, 511, 1023, 2047]
theorem row_Peer.tab1 : rtab .any (opsOf Tryd.f17 1) = row_Peer.T1 := by kernel_rfl
theorem row_Peer.bits1 : waitsOk row_Peer.T1.2 row_Peer.B1 = true := by kernel_rfl
def row_Peer.T2 : Bool × List (List Nat × List Nat) := (true, [([], []), ([], []), ([1], [1]), ([2], [2]), ([0, 3, 3], [0, 3]), ([], []), ([5], [5]), ([6, 4], [6]), ([4, 7, 7], [4, 7]), ([8, 8], [8]), ([9, 9, 0, 1, 2, 3, 4, 5, 6, 7, 8, 9], [9])])
def row_Peer.B2 : List Nat := [0, 0, 2, 6, 15, 0, 32, 127, 255, 511, 1023]
theorem row_Peer.tab2 : rtab .any (opsOf Tryd.f17 2) = row_Peer.T2 := by kernel_rfl
theorem row_Peer.bits2 : waitsOk row_Peer.T2.2 row_Peer.B2 = true := by kernel_rfl
set_option maxHeartbeats 8000000 in
set_option maxRecDepth 100000 in
theorem row_Peer.calls (k : Nat) (a0_0 : Int) (a0_1 : Int) (A0_2 : Option Addr) (c0_2 : Nat) (l0_2 : List (S72)) (A0_3 : Option Addr) (c0_3 : Nat) (l0_3 : List (S72)) (r : ByteArray) (w : World) (hV : VarsOk w) (hr0_2 : Kd.C k72 w A0_2 l0_2.length l0_2) (hc0_2 : l0_2.length ≤ c0_2) (hr0_3 : Kd.C k72 w A0_3 l0_3.length l0_3) (hc0_3 : l0_3.length ≤ c0_3) (h : row_Peer.f k a0_0 a0_1 l0_2 l0_3 = some r) :
    Calls Tryd.prog 17 #[.agg #[.int .i64 a0_0, .int .i64 a0_1, .slice A0_2 l0_2.length c0_2, .slice A0_3 l0_3.length c0_3]] w fun e w' => e = .returned (.string r) ∧ Below w.heap.size w w' := by
  have hu42 := Tryd.underlying42
  have HV := Aside0.mk hV
  clear hV
  have HR0_2 := Aside0.mk hr0_2
  have HC0_2 := Aside0.mk hc0_2
  clear hr0_2 hc0_2
  have HR0_3 := Aside0.mk hr0_3
  have HC0_3 := Aside0.mk hc0_3
  clear hr0_3 hc0_3
  have HB := Aside0.mk (Below.refl w.heap.size w)
  have H : ((row_num.f a0_0).bind fun t244 => ((row_num.f a0_1).bind fun t245 => ((row_num.f (l0_2.length : Int)).bind fun t246 => ((some (([t244, t245, t246] : List ByteArray) : List ByteArray)).bind fun y247 => ((row_rules.f k l0_2).bind fun t250 => (if y247.length + t250.length < 8796093022208 then ((some (y247 ++ t250 : List ByteArray)).bind fun y253 => ((row_rules.f k l0_3).bind fun t256 => (if y253.length + t256.length < 8796093022208 then ((row_Texts.f (y253 ++ t256)).bind fun t262 => (some t262)) else (none)))) else (none))))))) = some r := h
  clear h
  replace H := Option.bind_eq_some_iff.mp H
  obtain ⟨t244, A20, H⟩ := H
  replace H : ((row_num.f a0_1).bind fun t245 => ((row_num.f (l0_2.length : Int)).bind fun t246 => ((some (([t244, t245, t246] : List ByteArray) : List ByteArray)).bind fun y247 => ((row_rules.f k l0_2).bind fun t250 => (if y247.length + t250.length < 8796093022208 then ((some (y247 ++ t250 : List ByteArray)).bind fun y253 => ((row_rules.f k l0_3).bind fun t256 => (if y253.length + t256.length < 8796093022208 then ((row_Texts.f (y253 ++ t256)).bind fun t262 => (some t262)) else (none)))) else (none)))))) = some r := H
  have A2 := Aside0.mk A20
  clear A20
  replace H := Option.bind_eq_some_iff.mp H
  obtain ⟨t245, A30, H⟩ := H
  replace H : ((row_num.f (l0_2.length : Int)).bind fun t246 => ((some (([t244, t245, t246] : List ByteArray) : List ByteArray)).bind fun y247 => ((row_rules.f k l0_2).bind fun t250 => (if y247.length + t250.length < 8796093022208 then ((some (y247 ++ t250 : List ByteArray)).bind fun y253 => ((row_rules.f k l0_3).bind fun t256 => (if y253.length + t256.length < 8796093022208 then ((row_Texts.f (y253 ++ t256)).bind fun t262 => (some t262)) else (none)))) else (none))))) = some r := H
  have A3 := Aside0.mk A30
  clear A30
  replace H := Option.bind_eq_some_iff.mp H
  obtain ⟨t246, A40, H⟩ := H
  replace H : ((some (([t244, t245, t246] : List ByteArray) : List ByteArray)).bind fun y247 => ((row_rules.f k l0_2).bind fun t250 => (if y247.length + t250.length < 8796093022208 then ((some (y247 ++ t250 : List ByteArray)).bind fun y253 => ((row_rules.f k l0_3).bind fun t256 => (if y253.length + t256.length < 8796093022208 then ((row_Texts.f (y253 ++ t256)).bind fun t262 => (some t262)) else (none)))) else (none)))) = some r := H
  have A4 := Aside0.mk A40
  clear A40
  obtain ⟨y247, hy247⟩ : ∃ y_ : List ByteArray, y_ = (([t244, t245, t246] : List ByteArray)) := ⟨_, rfl⟩
  replace H : ((row_rules.f k l0_2).bind fun t250 => (if y247.length + t250.length < 8796093022208 then ((some (y247 ++ t250 : List ByteArray)).bind fun y253 => ((row_rules.f k l0_3).bind fun t256 => (if y253.length + t256.length < 8796093022208 then ((row_Texts.f (y253 ++ t256)).bind fun t262 => (some t262)) else (none)))) else (none))) = some r := by first | (rw [hy247]; with_reducible exact H) | (have H2_ := (Option.bind_some _ _).symm.trans H; rw [hy247]; with_reducible exact H2_) | (have H2_ := (Option.bind_some _ _).symm.trans H; with_reducible exact H2_) | with_reducible exact H | (rw [hy247]; exact H) | exact H
  have Ny247 := Aside0.mk hy247
  clear hy247
  replace H := Option.bind_eq_some_iff.mp H
  obtain ⟨t250, A50, H⟩ := H
  replace H : (if y247.length + t250.length < 8796093022208 then ((some (y247 ++ t250 : List ByteArray)).bind fun y253 => ((row_rules.f k l0_3).bind fun t256 => (if y253.length + t256.length < 8796093022208 then ((row_Texts.f (y253 ++ t256)).bind fun t262 => (some t262)) else (none)))) else (none)) = some r := H
  have A5 := Aside0.mk A50
  clear A50
  by_cases c6 : y247.length + t250.length < 8796093022208
  · rw [if_pos c6] at H
    have LMc6 := Aside0.mk c6
    clear c6
    obtain ⟨y253, hy253⟩ : ∃ y_ : List ByteArray, y_ = (y247 ++ t250) := ⟨_, rfl⟩
    replace H : ((row_rules.f k l0_3).bind fun t256 => (if y253.length + t256.length < 8796093022208 then ((row_Texts.f (y253 ++ t256)).bind fun t262 => (some t262)) else (none))) = some r := by first | (rw [hy253]; with_reducible exact H) | (have H2_ := (Option.bind_some _ _).symm.trans H; rw [hy253]; with_reducible exact H2_) | (have H2_ := (Option.bind_some _ _).symm.trans H; with_reducible exact H2_) | with_reducible exact H | (rw [hy253]; exact H) | exact H
    have Ny253 := Aside0.mk hy253
    clear hy253
    replace H := Option.bind_eq_some_iff.mp H
    obtain ⟨t256, A70, H⟩ := H
    replace H : (if y253.length + t256.length < 8796093022208 then ((row_Texts.f (y253 ++ t256)).bind fun t262 => (some t262)) else (none)) = some r := H
    have A7 := Aside0.mk A70
    clear A70
    by_cases c8 : y253.length + t256.length < 8796093022208
    · rw [if_pos c8] at H
      have LMc8 := Aside0.mk c8
      clear c8
      obtain ⟨y259, hy259⟩ : ∃ y_ : List ByteArray, y_ = (y253 ++ t256) := ⟨_, rfl⟩
      replace H : ((row_Texts.f y259).bind fun t262 => (some t262)) = some r := by first | (rw [hy259]; with_reducible exact H) | (have H2_ := (Option.bind_some _ _).symm.trans H; rw [hy259]; with_reducible exact H2_) | (have H2_ := (Option.bind_some _ _).symm.trans H; with_reducible exact H2_) | with_reducible exact H | (rw [hy259]; exact H) | exact H
      have Ny259 := Aside0.mk hy259
      clear hy259
      replace H := Option.bind_eq_some_iff.mp H
      obtain ⟨t262, A90, H⟩ := H
      replace H : (some t262) = some r := H
      have A9 := Aside0.mk A90
      clear A90
      obtain rfl := Option.some.inj H
      go_enter Tryd.func17, Tryd.ntmps17
      try go_wp2_with (first | ((with_reducible refine gate_dst (N := 1) rfl ?_); refine box_event ?hg (N := 1) ?hd (cs := #[.int .i64 a0_0, .int .i64 a0_1, .slice A0_2 l0_2.length c0_2, .slice A0_3 l0_3.length c0_3]) (t := 42) ?hr ?_; (case hd => rfl); (case hg => rfl); (case hr => first | (go_simp; done) | (go_simp; rfl) | (go_simp; simp [IntKind.wrap_u8]; done)); intro gb243 hg w10 hbox hb; have n0_ := Aside0.mk (below_step (by repeat (first | (with_reducible first | exact HB.out | apply below_alloc | apply pw_below_drewN | apply below_drew1) | exact HB.out)) hb); have n1_ := Aside0.mk (hbox); have n2_ := Aside0.mk ((by rw [hg]; exact (below_size (by repeat (first | (with_reducible first | exact HB.out | apply below_alloc | apply pw_below_drewN | apply below_drew1) | exact HB.out))) : w.heap.size ≤ gb243)); have n3_ := Aside0.mk ((by rw [hg]; exact (below_size (by repeat (first | (with_reducible first | exact HB.out | apply below_alloc | apply pw_below_drewN | apply below_drew1) | exact HB.out))) : w.heap.size ≤ gb243)); clear HB; have HB := n0_; have BK243 := n1_; have GW243 := n2_; have GE243 := n3_; clear n0_ n1_ n2_ n3_; clear hb hbox hg))
      have n0_ := Aside0.mk (blk_drew BK243.out)
      have n1_ := Aside0.mk (below_drew1 HB.out)
      clear BK243
      clear HB
      have BK243 := n0_
      have HB := n1_
      clear n0_ n1_
      refine start_ (n := 12) (S := fun w' => w'.cell? ⟨gb243, 0, none⟩ = some (.int .i64 a0_0) ∧ w'.cell? ⟨gb243, 1, none⟩ = some (.int .i64 a0_1) ∧ w'.cell? ⟨gb243, 2, none⟩ = some (.slice A0_2 l0_2.length c0_2) ∧ w'.cell? ⟨gb243, 3, none⟩ = some (.slice A0_3 l0_3.length c0_3)) (ds := []) #[false, false, false, false, false, false, false, false, false, false, false, false] (by kernel_rfl) rfl rfl ⟨(blk_cell BK243.out 0).trans rfl, (blk_cell BK243.out 1).trans rfl, (blk_cell BK243.out 2).trans rfl, (blk_cell BK243.out 3).trans rfl⟩ (fun hHeld => ?_); refine with_tabW row_Peer.tab1 row_Peer.bits1 (fun HT_ HW_ => ?_)
      generalize w10.drew = w11 at BK243 HB hHeld ⊢
      refine pure_ (i := 0) (N := some 4) (v := ?_) (a' := ?_) #[true, false, false, false, false, false, false, false, false, false, false, false] rfl rfl (any_of HT_.out (by kernel_rfl)) (fun _ _ _ h => h) (Or.inl ⟨by rfl, ?_⟩) ?_ ?_
      rotate_left
      · intro w'
        go_simp
        with_reducible rfl
      rotate_left
      · simp only [Act.put, List.setIfInBounds_toArray, List.set_cons_zero, List.set_cons_succ, i64_w, i32_w]
        rfl
      refine pure_ (i := 3) (N := some 7) (v := ?_) (a' := ?_) #[true, false, false, true, false, false, false, false, false, false, false, false] rfl rfl (any_of HT_.out (by kernel_rfl)) (fun _ _ _ h => h) (Or.inl ⟨by rfl, ?_⟩) ?_ ?_
      rotate_left
      · intro w'
        go_simp
        with_reducible rfl
      rotate_left
      · simp only [Act.put, List.setIfInBounds_toArray, List.set_cons_zero, List.set_cons_succ, i64_w, i32_w]
        rfl
      refine pure_ (i := 6) (N := some 10) (v := ?_) (a' := ?_) #[true, false, false, true, false, false, true, false, false, false, false, false] rfl rfl (any_of HT_.out (by kernel_rfl)) (fun _ _ _ h => h) (Or.inl ⟨by rfl, ?_⟩) ?_ ?_
      rotate_left
      · intro w'
        go_simp
        with_reducible rfl
      rotate_left
      · simp only [Act.put, List.setIfInBounds_toArray, List.set_cons_zero, List.set_cons_succ, i64_w, i32_w]
        rfl
      refine take_ (i := 1) (N := some 5) (v := ?_) (a' := ?_) #[true, true, false, true, false, false, true, false, false, false, false, false] rfl rfl (take_ofW HT_.out HW_.out (by kernel_rfl)) (fun _ _ _ h => h) (Or.inl ⟨by rfl, ?_⟩) hHeld ?_ ?_
      rotate_left
      · rintro w' ⟨s0, s1, s2, s3⟩
        go_simp
        with_reducible rfl
      rotate_left
      · simp only [Act.put, List.setIfInBounds_toArray, List.set_cons_zero, List.set_cons_succ, i64_w, i32_w]
        rfl
      refine take_ (i := 4) (N := some 8) (v := ?_) (a' := ?_) #[true, true, false, true, true, false, true, false, false, false, false, false] rfl rfl (take_ofW HT_.out HW_.out (by kernel_rfl)) (fun _ _ _ h => h) (Or.inl ⟨by rfl, ?_⟩) hHeld ?_ ?_
      rotate_left
      · rintro w' ⟨s0, s1, s2, s3⟩
        go_simp
        with_reducible rfl
      rotate_left
      · simp only [Act.put, List.setIfInBounds_toArray, List.set_cons_zero, List.set_cons_succ, i64_w, i32_w]
        rfl
      refine take_ (i := 7) (N := some 11) (v := ?_) (a' := ?_) #[true, true, false, true, true, false, true, true, false, false, false, false] rfl rfl (take_ofW HT_.out HW_.out (by kernel_rfl)) (fun _ _ _ h => h) (Or.inl ⟨by rfl, ?_⟩) hHeld ?_ ?_
      rotate_left
      · rintro w' ⟨s0, s1, s2, s3⟩
        go_simp
        with_reducible rfl
      rotate_left
      · simp only [Act.put, List.setIfInBounds_toArray, List.set_cons_zero, List.set_cons_succ, i64_w, i32_w]
        rfl
      refine pure_ (i := 8) (N := some 12) (v := ?_) (a' := ?_) #[true, true, false, true, true, false, true, true, true, false, false, false] rfl rfl (any_of HT_.out (by kernel_rfl)) (fun _ _ _ h => h) (Or.inl ⟨by rfl, ?_⟩) ?_ ?_
      rotate_left
      · intro w'
        go_simp
        with_reducible rfl
      rotate_left
      · simp only [Act.put, List.setIfInBounds_toArray, List.set_cons_zero, List.set_cons_succ, i64_w, i32_w]
        rfl
      refine one_ (i := 2) (N := some 6) #[true, true, true, true, true, false, true, true, true, false, false, false] rfl rfl (one_of HT_.out (by kernel_rfl)) (by decide) (fun K hK => ?_)
      refine goes_ Tryd.func29 (by kernel_rfl) rfl #[.int .i64 a0_0] (by rfl) rfl rfl (by (try simp only [List.map_toArray, List.map_cons, List.map_nil]); first | done | rfl | (simp only [List.length_drop, List.length_take]; rfl)) ?_
      with_reducible refine (row_num.calls a0_0 t244 _ ?side1 A2.out).mono ?_
      (case side1 => exact VarsOk.below HV.out (by repeat (first | (with_reducible first | exact HB.out | apply below_alloc | apply pw_below_drewN | apply below_drew1 | refine below_set ?_ GE243.out) | exact HB.out)))
      rintro e w12 ⟨rfl, hb⟩
      refine ⟨_, rfl, ?_⟩
      have n0_ := Aside0.mk (blk_below (g := gb243) (o := .cells #[.int .i64 a0_0, .int .i64 a0_1, .slice A0_2 l0_2.length c0_2, .slice A0_3 l0_3.length c0_3] 42 (0, 0)) (by (with_reducible repeat (first | refine blk_drewN ?_ _ | refine blk_drew ?_ | refine blk_alloc ?_ _)); exact BK243.out) hb)
      have n1_ := Aside0.mk (below_step (by repeat (first | (with_reducible first | exact HB.out | apply below_alloc | apply pw_below_drewN | apply below_drew1 | refine below_set ?_ GE243.out) | exact HB.out)) hb)
      clear BK243
      clear HB
      have BK243 := n0_
      have HB := n1_
      clear n0_ n1_
      (try clear hb)
      (try clear hb2)
      (try clear hk)
      (try clear hi)
      refine hK.out _ _ ⟨(blk_cell BK243.out 0).trans rfl, (blk_cell BK243.out 1).trans rfl, (blk_cell BK243.out 2).trans rfl, (blk_cell BK243.out 3).trans rfl⟩ (fun hHeld => ?_)
      clear hK K
      refine norm_ (a' := ?_) ?_ ?_
      rotate_left
      · show Act.put _ (some 6) _ = _
        simp only [Act.put, List.setIfInBounds_toArray, List.set_cons_zero, List.set_cons_succ, i64_w, i32_w]
        rfl
      refine one_ (i := 5) (N := some 9) #[true, true, true, true, true, true, true, true, true, false, false, false] rfl rfl (one_of HT_.out (by kernel_rfl)) (by decide) (fun K hK => ?_)
      refine goes_ Tryd.func29 (by kernel_rfl) rfl #[.int .i64 a0_1] (by rfl) rfl rfl (by (try simp only [List.map_toArray, List.map_cons, List.map_nil]); first | done | rfl | (simp only [List.length_drop, List.length_take]; rfl)) ?_
      with_reducible refine (row_num.calls a0_1 t245 _ ?side1 A3.out).mono ?_
      (case side1 => exact VarsOk.below HV.out (by repeat (first | (with_reducible first | exact HB.out | apply below_alloc | apply pw_below_drewN | apply below_drew1 | refine below_set ?_ GE243.out) | exact HB.out)))
      rintro e w13 ⟨rfl, hb⟩
      refine ⟨_, rfl, ?_⟩
      have n0_ := Aside0.mk (blk_below (g := gb243) (o := .cells #[.int .i64 a0_0, .int .i64 a0_1, .slice A0_2 l0_2.length c0_2, .slice A0_3 l0_3.length c0_3] 42 (0, 0)) (by (with_reducible repeat (first | refine blk_drewN ?_ _ | refine blk_drew ?_ | refine blk_alloc ?_ _)); exact BK243.out) hb)
      have n1_ := Aside0.mk (below_step (by repeat (first | (with_reducible first | exact HB.out | apply below_alloc | apply pw_below_drewN | apply below_drew1 | refine below_set ?_ GE243.out) | exact HB.out)) hb)
      clear BK243
      clear HB
      have BK243 := n0_
      have HB := n1_
      clear n0_ n1_
      (try clear hb)
      (try clear hb2)
      (try clear hk)
      (try clear hi)
      refine hK.out _ _ ⟨(blk_cell BK243.out 0).trans rfl, (blk_cell BK243.out 1).trans rfl, (blk_cell BK243.out 2).trans rfl, (blk_cell BK243.out 3).trans rfl⟩ (fun hHeld => ?_)
      clear hK K
      refine norm_ (a' := ?_) ?_ ?_
      rotate_left
      · show Act.put _ (some 9) _ = _
        simp only [Act.put, List.setIfInBounds_toArray, List.set_cons_zero, List.set_cons_succ, i64_w, i32_w]
        rfl
      refine one_ (i := 9) (N := some 13) #[true, true, true, true, true, true, true, true, true, true, false, false] rfl rfl (one_of HT_.out (by kernel_rfl)) (by decide) (fun K hK => ?_)
      refine goes_ Tryd.func29 (by kernel_rfl) rfl #[.int .i64 (l0_2.length : Int)] (by rfl) rfl rfl (by (try simp only [List.map_toArray, List.map_cons, List.map_nil]); first | done | rfl | (simp only [List.length_drop, List.length_take]; rfl)) ?_
      with_reducible refine (row_num.calls (l0_2.length : Int) t246 _ ?side1 A4.out).mono ?_
      (case side1 => exact VarsOk.below HV.out (by repeat (first | (with_reducible first | exact HB.out | apply below_alloc | apply pw_below_drewN | apply below_drew1 | refine below_set ?_ GE243.out) | exact HB.out)))
      rintro e w14 ⟨rfl, hb⟩
      refine ⟨_, rfl, ?_⟩
      have n0_ := Aside0.mk (blk_below (g := gb243) (o := .cells #[.int .i64 a0_0, .int .i64 a0_1, .slice A0_2 l0_2.length c0_2, .slice A0_3 l0_3.length c0_3] 42 (0, 0)) (by (with_reducible repeat (first | refine blk_drewN ?_ _ | refine blk_drew ?_ | refine blk_alloc ?_ _)); exact BK243.out) hb)
      have n1_ := Aside0.mk (below_step (by repeat (first | (with_reducible first | exact HB.out | apply below_alloc | apply pw_below_drewN | apply below_drew1 | refine below_set ?_ GE243.out) | exact HB.out)) hb)
      clear BK243
      clear HB
      have BK243 := n0_
      have HB := n1_
      clear n0_ n1_
      (try clear hb)
      (try clear hb2)
      (try clear hk)
      (try clear hi)
      refine hK.out _ _ ⟨(blk_cell BK243.out 0).trans rfl, (blk_cell BK243.out 1).trans rfl, (blk_cell BK243.out 2).trans rfl, (blk_cell BK243.out 3).trans rfl⟩ (fun hHeld => ?_)
      clear hK K
      refine norm_ (a' := ?_) ?_ ?_
      rotate_left
      · show Act.put _ (some 13) _ = _
        simp only [Act.put, List.setIfInBounds_toArray, List.set_cons_zero, List.set_cons_succ, i64_w, i32_w]
        rfl
      refine one_ (i := 10) (N := some 14) #[true, true, true, true, true, true, true, true, true, true, true, false] rfl rfl (one_of HT_.out (by kernel_rfl)) (by decide) (fun K hK => ?_)
      refine Kd.R_lit_step Kd.string _ 9 ?hg (N := 14) ?hd (xs := ([t244, t245, t246] : List ByteArray)) (inner := [.string t244, .string t245, .string t246]) (ok := fun _ => True) (okp := fun _ => True) ?hr ?hp (fun _ hk => hk) trivial (Below.refl _ _) (Nat.le_refl _) (by simp) ?_; (case hd => rfl); (case hg => rfl); (case hr => first | (go_simp; done) | (go_simp; rfl) | (go_simp; simp [IntKind.wrap_u8]; done)); (case hp => exact (Reps.one (show Kd.M Kd.string _ _ _ t244 [.string t244] from rfl) (Reps.one (show Kd.M Kd.string _ _ _ t245 [.string t245] from rfl) (Reps.one (show Kd.M Kd.string _ _ _ t246 [.string t246] from rfl) (Reps.none _ _)))))
      intro v248 w15 ho16 hb hg_ hnew_
      clear hg_ hnew_
      (first | rw [← Ny247.out] at ho16 | (simp only [Int.reduceToNat] at ho16; rw [← Ny247.out] at ho16))
      have n0_ := Aside0.mk (Kd.R_lower ho16 (below_size (by repeat (first | (with_reducible first | exact HB.out | apply below_alloc | apply pw_below_drewN | apply below_drew1 | refine below_set ?_ GE243.out) | exact HB.out))))
      have n1_ := Aside0.mk (blk_below (g := gb243) (o := .cells #[.int .i64 a0_0, .int .i64 a0_1, .slice A0_2 l0_2.length c0_2, .slice A0_3 l0_3.length c0_3] 42 (0, 0)) (by (with_reducible repeat (first | refine blk_drewN ?_ _ | refine blk_drew ?_ | refine blk_alloc ?_ _)); exact BK243.out) hb)
      have n2_ := Aside0.mk (below_step (by repeat (first | (with_reducible first | exact HB.out | apply below_alloc | apply pw_below_drewN | apply below_drew1 | refine below_set ?_ GE243.out) | exact HB.out)) hb)
      clear BK243
      clear HB
      have HO249 := n0_
      have BK243 := n1_
      have HB := n2_
      clear n0_ n1_ n2_
      clear hb ho16
      refine hK.out _ _ ⟨(blk_cell BK243.out 0).trans rfl, (blk_cell BK243.out 1).trans rfl, (blk_cell BK243.out 2).trans rfl, (blk_cell BK243.out 3).trans rfl⟩ (fun hHeld => ?_)
      clear hK K
      refine norm_ (a' := ?_) ?_ ?_
      rotate_left
      · show Act.put _ (some 14) _ = _
        simp only [Act.put, List.setIfInBounds_toArray, List.set_cons_zero, List.set_cons_succ, i64_w, i32_w]
        rfl
      refine pure_ (i := 11) (N := some 3) (v := ?_) (a' := ?_) #[true, true, true, true, true, true, true, true, true, true, true, true] rfl rfl (any_of HT_.out (by kernel_rfl)) (fun _ _ _ h => h) (Or.inl ⟨by rfl, ?_⟩) ?_ ?_
      rotate_left
      · intro w'
        go_simp
        with_reducible rfl
      rotate_left
      · simp only [Act.put, List.setIfInBounds_toArray, List.set_cons_zero, List.set_cons_succ, i64_w, i32_w]
        rfl
      refine done_ (done_of HT_.out (by kernel_rfl)) ?_
      try go_wp2
      have n0_ := Aside0.mk (Kd.R_drew HO249.out)
      have n1_ := Aside0.mk (blk_drew BK243.out)
      have n2_ := Aside0.mk (below_drew1 HB.out)
      clear HO249
      clear BK243
      clear HB
      have HO249 := n0_
      have BK243 := n1_
      have HB := n2_
      clear n0_ n1_ n2_
      refine start_ (n := 11) (S := fun w' => w'.cell? ⟨gb243, 0, none⟩ = some (.int .i64 a0_0) ∧ w'.cell? ⟨gb243, 1, none⟩ = some (.int .i64 a0_1) ∧ w'.cell? ⟨gb243, 2, none⟩ = some (.slice A0_2 l0_2.length c0_2) ∧ w'.cell? ⟨gb243, 3, none⟩ = some (.slice A0_3 l0_3.length c0_3)) (ds := []) #[false, false, false, false, false, false, false, false, false, false, false] (by kernel_rfl) rfl rfl ⟨(blk_cell BK243.out 0).trans rfl, (blk_cell BK243.out 1).trans rfl, (blk_cell BK243.out 2).trans rfl, (blk_cell BK243.out 3).trans rfl⟩ (fun hHeld => ?_); refine with_tabW row_Peer.tab2 row_Peer.bits2 (fun HT_ HW_ => ?_)
      generalize w15.drew = w17 at HO249 BK243 HB hHeld ⊢
      refine pure_ (i := 0) (N := some 15) (v := ?_) (a' := ?_) #[true, false, false, false, false, false, false, false, false, false, false] rfl rfl (any_of HT_.out (by kernel_rfl)) (fun _ _ _ h => h) (Or.inl ⟨by rfl, ?_⟩) ?_ ?_
      rotate_left
      · intro w'
        go_simp
        with_reducible rfl
      rotate_left
      · simp only [Act.put, List.setIfInBounds_toArray, List.set_cons_zero, List.set_cons_succ, i64_w, i32_w]
        rfl
      refine pure_ (i := 1) (N := some 16) (v := ?_) (a' := ?_) #[true, true, false, false, false, false, false, false, false, false, false] rfl rfl (any_of HT_.out (by kernel_rfl)) (fun _ _ _ h => h) (Or.inl ⟨by rfl, ?_⟩) ?_ ?_
      rotate_left
      · intro w'
        go_simp
        with_reducible rfl
      rotate_left
      · simp only [Act.put, List.setIfInBounds_toArray, List.set_cons_zero, List.set_cons_succ, i64_w, i32_w]
        rfl
      refine pure_ (i := 5) (N := some 20) (v := ?_) (a' := ?_) #[true, true, false, false, false, true, false, false, false, false, false] rfl rfl (any_of HT_.out (by kernel_rfl)) (fun _ _ _ h => h) (Or.inl ⟨by rfl, ?_⟩) ?_ ?_
      rotate_left
      · intro w'
        go_simp
        with_reducible rfl
      rotate_left
      · simp only [Act.put, List.setIfInBounds_toArray, List.set_cons_zero, List.set_cons_succ, i64_w, i32_w]
        rfl
      refine take_ (i := 2) (N := some 17) (v := ?_) (a' := ?_) #[true, true, true, false, false, true, false, false, false, false, false] rfl rfl (take_ofW HT_.out HW_.out (by kernel_rfl)) (fun _ _ _ h => h) (Or.inl ⟨by rfl, ?_⟩) hHeld ?_ ?_
      rotate_left
      · rintro w' ⟨s0, s1, s2, s3⟩
        go_simp
        with_reducible rfl
      rotate_left
      · simp only [Act.put, List.setIfInBounds_toArray, List.set_cons_zero, List.set_cons_succ, i64_w, i32_w]
        rfl
      refine take_ (i := 6) (N := some 21) (v := ?_) (a' := ?_) #[true, true, true, false, false, true, true, false, false, false, false] rfl rfl (take_ofW HT_.out HW_.out (by kernel_rfl)) (fun _ _ _ h => h) (Or.inl ⟨by rfl, ?_⟩) hHeld ?_ ?_
      rotate_left
      · rintro w' ⟨s0, s1, s2, s3⟩
        go_simp
        with_reducible rfl
      rotate_left
      · simp only [Act.put, List.setIfInBounds_toArray, List.set_cons_zero, List.set_cons_succ, i64_w, i32_w]
        rfl
      refine one_ (i := 3) (N := some 18) #[true, true, true, true, false, true, true, false, false, false, false] rfl rfl (one_of HT_.out (by kernel_rfl)) (by decide) (fun K hK => ?_)
      refine goes_ Tryd.func34 (by kernel_rfl) rfl #[.slice A0_2 l0_2.length c0_2] (by rfl) rfl rfl (by (try simp only [List.map_toArray, List.map_cons, List.map_nil]); first | done | rfl | (simp only [List.length_drop, List.length_take]; rfl)) ?_
      with_reducible refine (row_rules.calls k _ _ l0_2 t250 _ ?side1 ?side2 ?side3 A5.out).mono ?_
      (case side1 => exact VarsOk.below HV.out (by repeat (first | (with_reducible first | exact HB.out | apply below_alloc | apply pw_below_drewN | apply below_drew1 | refine below_set ?_ GE243.out) | exact HB.out)))
      (case side2 => repeat (first | exact (Kd.C_below HR0_2.out HB.out) | (with_reducible refine Kd.C_alloc ?_ _) | (with_reducible refine Kd.C_drewN ?_ _) | (with_reducible refine Kd.C_drew ?_)))
      (case side3 => exact HC0_2.out)
      rintro e w18 ⟨v251, rfl, ho0, hb⟩
      refine ⟨_, rfl, ?_⟩
      have n0_ := Aside0.mk (Kd.R_elder' (by (with_reducible repeat (first | apply Kd.R_alloc | apply Kd.R_drewN | apply Kd.R_drew)); exact HO249.out) (Kd.R_base ho0) hb)
      have n1_ := Aside0.mk (Kd.R_lower (Kd.R_new' ho0 (Kd.R_lt (by (with_reducible repeat (first | apply Kd.R_alloc | apply Kd.R_drewN | apply Kd.R_drew)); exact HO249.out))) (below_size (by repeat (first | (with_reducible first | exact HB.out | apply below_alloc | apply pw_below_drewN | apply below_drew1 | refine below_set ?_ GE243.out) | exact HB.out))))
      have n2_ := Aside0.mk (blk_below (g := gb243) (o := .cells #[.int .i64 a0_0, .int .i64 a0_1, .slice A0_2 l0_2.length c0_2, .slice A0_3 l0_3.length c0_3] 42 (0, 0)) (by (with_reducible repeat (first | refine blk_drewN ?_ _ | refine blk_drew ?_ | refine blk_alloc ?_ _)); exact BK243.out) hb)
      have n3_ := Aside0.mk (below_step (by repeat (first | (with_reducible first | exact HB.out | apply below_alloc | apply pw_below_drewN | apply below_drew1 | refine below_set ?_ GE243.out) | exact HB.out)) hb)
      clear HO249
      clear BK243
      clear HB
      have HO249 := n0_
      have HO252 := n1_
      have BK243 := n2_
      have HB := n3_
      clear n0_ n1_ n2_ n3_
      (try clear hb)
      (try clear hb2)
      (try clear hk)
      (try clear hi)
      (try clear ho0)
      obtain ⟨Ao20, co20, eo20⟩ := Kd.R_slice HO252.out
      (first | subst eo20 | (injection eo20 with f1_ f2_ f3_; have f4_ := f1_.symm; have f5_ := f3_.symm; clear f1_ f2_ f3_; subst f4_; subst f5_))
      refine hK.out _ _ ⟨(blk_cell BK243.out 0).trans rfl, (blk_cell BK243.out 1).trans rfl, (blk_cell BK243.out 2).trans rfl, (blk_cell BK243.out 3).trans rfl⟩ (fun hHeld => ?_)
      clear hK K
      refine norm_ (a' := ?_) ?_ ?_
      rotate_left
      · show Act.put _ (some 18) _ = _
        simp only [Act.put, List.setIfInBounds_toArray, List.set_cons_zero, List.set_cons_succ, i64_w, i32_w]
        rfl
      refine one_ (i := 4) (N := some 19) #[true, true, true, true, true, true, true, false, false, false, false] rfl rfl (one_of HT_.out (by kernel_rfl)) (by decide) (fun K hK => ?_)
      refine Kd.R_append_rows_step Kd.string (w0 := w) w.heap.size (by rfl) (.tmp 15) (.tmp 18) 22 9 (.string ⟨#[]⟩) 16 rfl Tryd.underlying22 info9 rfl (by decide) (by omega) v248 y247 t250 _ _ _ (fun k_ => some k_ ≠ (.slice Ao20 t250.length co20 : Value).ownBlock) (fun _ => False) rfl rfl ?aO ?aR (fun _ _ h => h) (fun _ h => h.elim) ?aF ?aB ?aS ?aL ?_
      (case aR => repeat (first | exact (Kd.R_reads' HO252.out).2.2 | (with_reducible refine Kd.C_alloc ?_ _) | (with_reducible refine Kd.C_drewN ?_ _) | (with_reducible refine Kd.C_drew ?_)))
      (case aB => exact (by repeat (first | (with_reducible first | exact HB.out | apply below_alloc | apply pw_below_drewN | apply below_drew1 | refine below_set ?_ GE243.out) | exact HB.out)))
      (case aF => exact (fun k_ hk => Kd.fresh' (Kd.R_lt (by (with_reducible repeat (first | apply Kd.R_alloc | apply Kd.R_drewN | apply Kd.R_drew)); exact HO252.out)) k_ hk))
      (case aO => exact (by (with_reducible repeat (first | apply Kd.R_alloc | apply Kd.R_drewN | apply Kd.R_drew)); exact Kd.R_mono HO249.out (fun _ hk => hk.2)))
      (case aS => exact (below_size (by repeat (first | (with_reducible first | exact HB.out | apply below_alloc | apply pw_below_drewN | apply below_drew1 | refine below_set ?_ GE243.out) | exact HB.out))))
      (case aL => have := LMc6.out; omega)
      intro v254 w19 ho hb hg hat
      rw [← Ny253.out] at ho
      have n0_ := Aside0.mk (blk_grown (g := gb243) (o := .cells #[.int .i64 a0_0, .int .i64 a0_1, .slice A0_2 l0_2.length c0_2, .slice A0_3 l0_3.length c0_3] 42 (0, 0)) (by (with_reducible repeat (first | refine blk_drewN ?_ _ | refine blk_drew ?_ | refine blk_alloc ?_ _)); exact BK243.out) hg (Kd.R_ne HO249.out BK243.out (by decide)))
      have n1_ := Aside0.mk (Kd.R_after (ok := (fun _ => True)) (by (with_reducible repeat (first | apply Kd.R_alloc | apply Kd.R_drewN | apply Kd.R_drew)); exact HO252.out) hg hat)
      have n2_ := Aside0.mk (hb)
      have n3_ := Aside0.mk (ho)
      clear BK243
      clear HO252
      clear HB
      clear HO249
      have BK243 := n0_
      have HO252 := n1_
      have HB := n2_
      have HO255 := n3_
      clear n0_ n1_ n2_ n3_
      clear ho hb hg hat
      refine hK.out _ _ ⟨(blk_cell BK243.out 0).trans rfl, (blk_cell BK243.out 1).trans rfl, (blk_cell BK243.out 2).trans rfl, (blk_cell BK243.out 3).trans rfl⟩ (fun hHeld => ?_)
      clear hK K
      refine norm_ (a' := ?_) ?_ ?_
      rotate_left
      · show Act.put _ (some 19) _ = _
        simp only [Act.put, List.setIfInBounds_toArray, List.set_cons_zero, List.set_cons_succ, i64_w, i32_w]
        rfl
      refine one_ (i := 7) (N := some 22) #[true, true, true, true, true, true, true, true, false, false, false] rfl rfl (one_of HT_.out (by kernel_rfl)) (by decide) (fun K hK => ?_)
      refine goes_ Tryd.func34 (by kernel_rfl) rfl #[.slice A0_3 l0_3.length c0_3] (by rfl) rfl rfl (by (try simp only [List.map_toArray, List.map_cons, List.map_nil]); first | done | rfl | (simp only [List.length_drop, List.length_take]; rfl)) ?_
      with_reducible refine (row_rules.calls k _ _ l0_3 t256 _ ?side1 ?side2 ?side3 A7.out).mono ?_
      (case side1 => exact VarsOk.below HV.out (by repeat (first | (with_reducible first | exact HB.out | apply below_alloc | apply pw_below_drewN | apply below_drew1 | refine below_set ?_ GE243.out) | exact HB.out)))
      (case side2 => repeat (first | exact (Kd.C_below HR0_3.out HB.out) | (with_reducible refine Kd.C_alloc ?_ _) | (with_reducible refine Kd.C_drewN ?_ _) | (with_reducible refine Kd.C_drew ?_)))
      (case side3 => exact HC0_3.out)
      rintro e w21 ⟨v257, rfl, ho0, hb⟩
      refine ⟨_, rfl, ?_⟩
      have n0_ := Aside0.mk (Kd.R_elder' (by (with_reducible repeat (first | apply Kd.R_alloc | apply Kd.R_drewN | apply Kd.R_drew)); exact HO252.out) (Kd.R_base ho0) hb)
      have n1_ := Aside0.mk (Kd.R_elder' (by (with_reducible repeat (first | apply Kd.R_alloc | apply Kd.R_drewN | apply Kd.R_drew)); exact HO255.out) (Kd.R_base ho0) hb)
      have n2_ := Aside0.mk (Kd.R_lower (Kd.R_new' (Kd.R_new' ho0 (Kd.R_lt (by (with_reducible repeat (first | apply Kd.R_alloc | apply Kd.R_drewN | apply Kd.R_drew)); exact HO252.out))) (Kd.R_lt (by (with_reducible repeat (first | apply Kd.R_alloc | apply Kd.R_drewN | apply Kd.R_drew)); exact HO255.out))) (below_size (by repeat (first | (with_reducible first | exact HB.out | apply below_alloc | apply pw_below_drewN | apply below_drew1 | refine below_set ?_ GE243.out) | exact HB.out))))
      have n3_ := Aside0.mk (blk_below (g := gb243) (o := .cells #[.int .i64 a0_0, .int .i64 a0_1, .slice A0_2 l0_2.length c0_2, .slice A0_3 l0_3.length c0_3] 42 (0, 0)) (by (with_reducible repeat (first | refine blk_drewN ?_ _ | refine blk_drew ?_ | refine blk_alloc ?_ _)); exact BK243.out) hb)
      have n4_ := Aside0.mk (below_step (by repeat (first | (with_reducible first | exact HB.out | apply below_alloc | apply pw_below_drewN | apply below_drew1 | refine below_set ?_ GE243.out) | exact HB.out)) hb)
      clear HO252
      clear HO255
      clear BK243
      clear HB
      have HO252 := n0_
      have HO255 := n1_
      have HO258 := n2_
      have BK243 := n3_
      have HB := n4_
      clear n0_ n1_ n2_ n3_ n4_
      (try clear hb)
      (try clear hb2)
      (try clear hk)
      (try clear hi)
      (try clear ho0)
      obtain ⟨Ao23, co23, eo23⟩ := Kd.R_slice HO258.out
      (first | subst eo23 | (injection eo23 with f1_ f2_ f3_; have f4_ := f1_.symm; have f5_ := f3_.symm; clear f1_ f2_ f3_; subst f4_; subst f5_))
      refine hK.out _ _ ⟨(blk_cell BK243.out 0).trans rfl, (blk_cell BK243.out 1).trans rfl, (blk_cell BK243.out 2).trans rfl, (blk_cell BK243.out 3).trans rfl⟩ (fun hHeld => ?_)
      clear hK K
      refine norm_ (a' := ?_) ?_ ?_
      rotate_left
      · show Act.put _ (some 22) _ = _
        simp only [Act.put, List.setIfInBounds_toArray, List.set_cons_zero, List.set_cons_succ, i64_w, i32_w]
        rfl
      refine one_ (i := 8) (N := some 23) #[true, true, true, true, true, true, true, true, true, false, false] rfl rfl (one_of HT_.out (by kernel_rfl)) (by decide) (fun K hK => ?_)
      refine Kd.R_append_rows_step Kd.string (w0 := w) w.heap.size (by rfl) (.tmp 19) (.tmp 22) 22 9 (.string ⟨#[]⟩) 16 rfl Tryd.underlying22 info9 rfl (by decide) (by omega) v254 y253 t256 _ _ _ (fun k_ => some k_ ≠ (.slice Ao20 t250.length co20 : Value).ownBlock ∧ some k_ ≠ (.slice Ao23 t256.length co23 : Value).ownBlock) (fun _ => False) rfl rfl ?aO ?aR (fun _ _ h => h) (fun _ h => h.elim) ?aF ?aB ?aS ?aL ?_
      (case aR => repeat (first | exact (Kd.R_reads' HO258.out).2.2 | (with_reducible refine Kd.C_alloc ?_ _) | (with_reducible refine Kd.C_drewN ?_ _) | (with_reducible refine Kd.C_drew ?_)))
      (case aB => exact (by repeat (first | (with_reducible first | exact HB.out | apply below_alloc | apply pw_below_drewN | apply below_drew1 | refine below_set ?_ GE243.out) | exact HB.out)))
      (case aF => exact (fun k_ hk => ⟨Kd.fresh' (Kd.R_lt (by (with_reducible repeat (first | apply Kd.R_alloc | apply Kd.R_drewN | apply Kd.R_drew)); exact HO252.out)) k_ hk, Kd.fresh' (Kd.R_lt (by (with_reducible repeat (first | apply Kd.R_alloc | apply Kd.R_drewN | apply Kd.R_drew)); exact HO258.out)) k_ hk⟩))
      (case aO => exact (by (with_reducible repeat (first | apply Kd.R_alloc | apply Kd.R_drewN | apply Kd.R_drew)); exact HO255.out))
      (case aS => exact (below_size (by repeat (first | (with_reducible first | exact HB.out | apply below_alloc | apply pw_below_drewN | apply below_drew1 | refine below_set ?_ GE243.out) | exact HB.out))))
      (case aL => have := LMc8.out; omega)
      intro v260 w22 ho hb hg hat
      rw [← Ny259.out] at ho
      have n0_ := Aside0.mk (blk_grown (g := gb243) (o := .cells #[.int .i64 a0_0, .int .i64 a0_1, .slice A0_2 l0_2.length c0_2, .slice A0_3 l0_3.length c0_3] 42 (0, 0)) (by (with_reducible repeat (first | refine blk_drewN ?_ _ | refine blk_drew ?_ | refine blk_alloc ?_ _)); exact BK243.out) hg (Kd.R_ne HO255.out BK243.out (by decide)))
      have n1_ := Aside0.mk (Kd.R_after (ok := (fun k_ => some k_ ≠ (.slice Ao23 t256.length co23 : Value).ownBlock)) (by (with_reducible repeat (first | apply Kd.R_alloc | apply Kd.R_drewN | apply Kd.R_drew)); exact Kd.R_mono HO252.out (fun _ hk => ⟨hk.2, hk.1.2⟩)) hg hat)
      have n2_ := Aside0.mk (Kd.R_after (ok := (fun k_ => some k_ ≠ (.slice Ao20 t250.length co20 : Value).ownBlock)) (by (with_reducible repeat (first | apply Kd.R_alloc | apply Kd.R_drewN | apply Kd.R_drew)); exact Kd.R_mono HO258.out (fun _ hk => ⟨hk.1.2, hk.2⟩)) hg hat)
      have n3_ := Aside0.mk (hb)
      have n4_ := Aside0.mk (ho)
      clear BK243
      clear HO252
      clear HO258
      clear HB
      clear HO255
      have BK243 := n0_
      have HO252 := n1_
      have HO258 := n2_
      have HB := n3_
      have HO261 := n4_
      clear n0_ n1_ n2_ n3_ n4_
      clear ho hb hg hat
      obtain ⟨Ao24, co24, eo24⟩ := Kd.R_slice HO261.out
      (first | subst eo24 | (injection eo24 with f1_ f2_ f3_; have f4_ := f1_.symm; have f5_ := f3_.symm; clear f1_ f2_ f3_; subst f4_; subst f5_))
      refine hK.out _ _ ⟨(blk_cell BK243.out 0).trans rfl, (blk_cell BK243.out 1).trans rfl, (blk_cell BK243.out 2).trans rfl, (blk_cell BK243.out 3).trans rfl⟩ (fun hHeld => ?_)
      clear hK K
      refine norm_ (a' := ?_) ?_ ?_
      rotate_left
      · show Act.put _ (some 23) _ = _
        simp only [Act.put, List.setIfInBounds_toArray, List.set_cons_zero, List.set_cons_succ, i64_w, i32_w]
        rfl
      refine one_ (i := 9) (N := some 24) #[true, true, true, true, true, true, true, true, true, true, false] rfl rfl (one_of HT_.out (by kernel_rfl)) (by decide) (fun K hK => ?_)
      refine goes_ Tryd.func9 (by kernel_rfl) rfl #[.slice Ao24 y259.length co24] (by rfl) rfl rfl (by (try simp only [List.map_toArray, List.map_cons, List.map_nil]); first | done | rfl | (simp only [List.length_drop, List.length_take]; rfl)) ?_
      with_reducible refine (row_Texts.calls _ _ y259 t262 _ ?side1 ?side2 ?side3 A9.out).mono ?_
      (case side1 => exact VarsOk.below HV.out (by repeat (first | (with_reducible first | exact HB.out | apply below_alloc | apply pw_below_drewN | apply below_drew1 | refine below_set ?_ GE243.out) | exact HB.out)))
      (case side2 => repeat (first | exact (Kd.R_reads' HO261.out).2.2 | (with_reducible refine Kd.C_alloc ?_ _) | (with_reducible refine Kd.C_drewN ?_ _) | (with_reducible refine Kd.C_drew ?_)))
      (case side3 => exact (Kd.R_reads' HO261.out).2.1)
      rintro e w25 ⟨rfl, hb⟩
      refine ⟨_, rfl, ?_⟩
      have n0_ := Aside0.mk (Kd.R_below (by (with_reducible repeat (first | apply Kd.R_alloc | apply Kd.R_drewN | apply Kd.R_drew)); exact HO252.out) hb)
      have n1_ := Aside0.mk (Kd.R_below (by (with_reducible repeat (first | apply Kd.R_alloc | apply Kd.R_drewN | apply Kd.R_drew)); exact HO258.out) hb)
      have n2_ := Aside0.mk (Kd.R_below (by (with_reducible repeat (first | apply Kd.R_alloc | apply Kd.R_drewN | apply Kd.R_drew)); exact HO261.out) hb)
      have n3_ := Aside0.mk (blk_below (g := gb243) (o := .cells #[.int .i64 a0_0, .int .i64 a0_1, .slice A0_2 l0_2.length c0_2, .slice A0_3 l0_3.length c0_3] 42 (0, 0)) (by (with_reducible repeat (first | refine blk_drewN ?_ _ | refine blk_drew ?_ | refine blk_alloc ?_ _)); exact BK243.out) hb)
      have n4_ := Aside0.mk (below_step (by repeat (first | (with_reducible first | exact HB.out | apply below_alloc | apply pw_below_drewN | apply below_drew1 | refine below_set ?_ GE243.out) | exact HB.out)) hb)
      clear HO252
      clear HO258
      clear HO261
      clear BK243
      clear HB
      have HO252 := n0_
      have HO258 := n1_
      have HO261 := n2_
      have BK243 := n3_
      have HB := n4_
      clear n0_ n1_ n2_ n3_ n4_
      (try clear hb)
      (try clear hb2)
      (try clear hk)
      (try clear hi)
      refine hK.out _ _ ⟨(blk_cell BK243.out 0).trans rfl, (blk_cell BK243.out 1).trans rfl, (blk_cell BK243.out 2).trans rfl, (blk_cell BK243.out 3).trans rfl⟩ (fun hHeld => ?_)
      clear hK K
      refine norm_ (a' := ?_) ?_ ?_
      rotate_left
      · show Act.put _ (some 24) _ = _
        simp only [Act.put, List.setIfInBounds_toArray, List.set_cons_zero, List.set_cons_succ, i64_w, i32_w]
        rfl
      refine pure_ (i := 10) (N := some 2) (v := ?_) (a' := ?_) #[true, true, true, true, true, true, true, true, true, true, true] rfl rfl (any_of HT_.out (by kernel_rfl)) (fun _ _ _ h => h) (Or.inl ⟨by rfl, ?_⟩) ?_ ?_
      rotate_left
      · intro w'
        go_simp
        with_reducible rfl
      rotate_left
      · simp only [Act.put, List.setIfInBounds_toArray, List.set_cons_zero, List.set_cons_succ, i64_w, i32_w]
        rfl
      refine done_ (done_of HT_.out (by kernel_rfl)) ?_
      try go_wp2
      go_ret
      exact ⟨by first | rfl | (simp [errW_none, errW_some] <;> rfl) | (simp [*, errW_none, errW_some] <;> rfl), by repeat (first | (with_reducible first | exact HB.out | apply below_alloc | apply pw_below_drewN | apply below_drew1 | refine below_set ?_ GE243.out) | exact HB.out)⟩
    · rw [if_neg c8] at H
      exact absurd H (by simp)
  · rw [if_neg c6] at H
    exact absurd H (by simp)

end Go.Proofs.YtppjodchlpapdaaDoor.PB

namespace Go.Proofs.YtppjodchlpapdaaDoor.PB
open Go.RowKit Go.Sort Go.Lib Go.Proofs Go.Proofs.YtppjodchlpapdaaDoor Go.Proofs.YtppjodchlpapdaaDoorW.PrintWords
set_option linter.unusedVariables false
set_option linter.unusedSimpArgs false

def t1 (l : List ByteArray) := l.tail
def t2 (l : List ByteArray) := l.tail.tail
def t3 (l : List ByteArray) := l.tail.tail.tail
def t4 (l : List ByteArray) := l.tail.tail.tail.tail
def t5 (l : List ByteArray) := l.tail.tail.tail.tail.tail
def t6 (l : List ByteArray) := l.tail.tail.tail.tail.tail.tail
theorem t6_length (l : List ByteArray) : (t6 l).length = l.length - 6 := by simp [t6]; omega

def ruleBad2 (l : List ByteArray) (bad : Bool) : Bool := badNum (t1 l) (badAddr l bad)
def ruleBad3 (l : List ByteArray) (bad : Bool) : Bool := badNum (t2 l) (ruleBad2 l bad)
def ruleBad4 (l : List ByteArray) (bad : Bool) : Bool := badNum (t3 l) (ruleBad3 l bad)
def ruleBad5 (l : List ByteArray) (bad : Bool) : Bool := ruleBad4 l bad || (t4 l).isEmpty
def ruleBad (l : List ByteArray) (bad : Bool) : Bool := badNum (t5 l) (ruleBad5 l bad)
def ruleOf (l : List ByteArray) : S72 :=
  ⟨⟨(addrV (headV l)).getD 0, (numV (headV (t1 l))).getD 0⟩, (numV (headV (t2 l))).getD 0, (numV (headV (t3 l))).getD 0, ((headV (t4 l)).toList == ([49] : List UInt8)), (numV (headV (t5 l))).getD 0⟩

theorem or_false_left {a b : Bool} (h : (a || b) = false) : a = false := by cases a <;> simp_all
theorem or_false_right {a b : Bool} (h : (a || b) = false) : b = false := by cases a <;> simp_all
theorem badNum_ne {l : List ByteArray} {b : Bool} (h : badNum l b = false) : l.isEmpty = false := by
  unfold badNum at h
  exact or_false_right (or_false_left h)
theorem badAddr_ne {l : List ByteArray} {b : Bool} (h : badAddr l b = false) : l.isEmpty = false := by
  unfold badAddr at h
  exact or_false_right (or_false_left h)

theorem ruleBad_false {l : List ByteArray} {b : Bool} (h : ruleBad l b = false) :
    b = false ∧ 6 ≤ l.length ∧ ruleBad2 l b = false ∧ ruleBad3 l b = false ∧ ruleBad4 l b = false ∧ ruleBad5 l b = false ∧ badAddr l b = false := by
  have h5 : ruleBad5 l b = false := badNum_false h
  have h4 : ruleBad4 l b = false := or_false_left h5
  have h3 : ruleBad3 l b = false := badNum_false h4
  have h2 : ruleBad2 l b = false := badNum_false h3
  have h1 : badAddr l b = false := badNum_false h2
  refine ⟨badAddr_false h1, ?_, h2, h3, h4, h5, h1⟩
  have h6 := badNum_ne h
  unfold t5 at h6
  cases hl : l.tail.tail.tail.tail.tail with
  | nil => rw [hl] at h6; cases h6
  | cons x r =>
    have := congrArg List.length hl
    simp at this
    omega

set_option maxHeartbeats 4000000 in
set_option maxRecDepth 100000 in
theorem rule_calls (w0 w : World) (hV : VarsOk w0) (N rb : Nat) (left : List ByteArray) (bad : Bool) (hs : ∀ s ∈ left, s.size ≤ 281474976710656) (h : RdAt w0.heap.size N rb left bad w) (hb : Below w0.heap.size w0 w) :
    Calls Tryd.prog 35 #[.pointer (some ⟨rb, 0, none⟩)] w fun e w' => ∃ x : S72, e = .returned (.agg #[.int .u32 x.f0.f0, .int .i64 x.f0.f1, .int .i64 x.f1, .int .i64 x.f2, .bool x.f3, .int .i64 x.f4]) ∧ (ruleBad left bad = false → x = ruleOf left) ∧ RdAt w0.heap.size N rb (t6 left) (ruleBad left bad) w' ∧ Below w0.heap.size w0 w' ∧ Only rb w w' := by
  have hh : ∀ l : List ByteArray, (∀ s ∈ l, s.size ≤ 281474976710656) → (headV l).size ≤ 281474976710656 := fun l hl => by
    cases l with
    | nil => exact Nat.zero_le _
    | cons a l => exact hl a (List.mem_cons_self)
  have ht : ∀ l : List ByteArray, (∀ s ∈ l, s.size ≤ 281474976710656) → (∀ s ∈ l.tail, s.size ≤ 281474976710656) := fun l hl s hs' => hl s (List.mem_of_mem_tail hs')
  have hs2 := hh _ (ht _ (ht _ hs))
  have hs3 := hh _ (ht _ (ht _ (ht _ hs)))
  have hs5 := hh _ (ht _ (ht _ (ht _ (ht _ (ht _ hs)))))
  have hbt := h.1
  have hp : Aside0 (∀ W, RdAt w0.heap.size N rb left bad W → Below w0.heap.size w0 W → _) := Aside0.mk (fun W => prefix_calls w0 W hV N rb left bad hs)
  have hq2 : Aside0 (∀ W, RdAt w0.heap.size N rb (t2 left) (ruleBad2 left bad) W → Below w0.heap.size w0 W → _) := Aside0.mk (fun W => num_calls w0 W hV N rb (t2 left) (ruleBad2 left bad) hs2)
  have hq3 : Aside0 (∀ W, RdAt w0.heap.size N rb (t3 left) (ruleBad3 left bad) W → Below w0.heap.size w0 W → _) := Aside0.mk (fun W => num_calls w0 W hV N rb (t3 left) (ruleBad3 left bad) hs3)
  have hq4 : Aside0 (∀ W, RdAt w0.heap.size N rb (t4 left) (ruleBad4 left bad) W → Below w0.heap.size w0 W → _) := Aside0.mk (fun W => text_calls w0 W N rb (t4 left) (ruleBad4 left bad))
  have hq5 : Aside0 (∀ W, RdAt w0.heap.size N rb (t5 left) (ruleBad5 left bad) W → Below w0.heap.size w0 W → _) := Aside0.mk (fun W => num_calls w0 W hV N rb (t5 left) (ruleBad5 left bad) hs5)
  have hsz : w0.heap.size ≤ w.heap.size := hb.size
  have hN := h.2.2.1
  have hrb : rb < w.heap.size := Nat.lt_of_lt_of_le h.2.1 hN
  obtain ⟨s, hsx⟩ : ∃ s, s = headV (t4 left) := ⟨_, rfl⟩
  have hs4 : (t4 left).headD ⟨#[]⟩ = s := hsx.symm
  rw [hs4] at hq4
  obtain ⟨dn, hdn⟩ : ∃ dn, (s.toList == ([49] : List UInt8)) = dn := ⟨_, rfl⟩
  have Hdn := Aside0.mk (show dn = ((headV (t4 left)).toList == ([49] : List UInt8)) by rw [← hsx, hdn])
  clear hh ht hs hs2 hs3 hs5 hs4 hsx
  go_enter Tryd.func35, Tryd.ntmps35
  go_wp2_with (go_at_call 31; refine (hp.out _ (h.below (below_alloc (Below.refl _ _) _)) (below_alloc hb _)).mono ?_)
  rintro e w1 ⟨v, u, rfl, hv1, hr1, hbw1, ho1⟩
  have Hv1 := Aside0.mk hv1
  clear hv1
  go_wp2_with (go_at_call 33; refine (hq2.out _ hr1 hbw1).mono ?_)
  rintro e w2 ⟨mn, rfl, hv2, hr2, hbw2, ho2⟩
  have Hv2 := Aside0.mk hv2
  clear hv2
  go_wp2_with (go_at_call 33; refine (hq3.out _ hr2 hbw2).mono ?_)
  rintro e w3 ⟨mx, rfl, hv3, hr3, hbw3, ho3⟩
  have Hv3 := Aside0.mk hv3
  clear hv3
  go_wp2_with (go_at_call 44; refine (hq4.out _ hr3 hbw3).mono ?_)
  rintro e w4 ⟨rfl, hr4, hbw4, ho4⟩
  go_wp2_with (go_at_call 33; refine (hq5.out _ hr4 hbw4).mono ?_)
  rintro e w5 ⟨pf, rfl, hv5, hr5, hbw5, ho5⟩
  have Hv5 := Aside0.mk hv5
  clear hv5
  have ho := (((ho1.trans ho2).trans ho3).trans ho4).trans ho5
  have hbk : w5.heap[w.heap.size]? = some (.cells #[.int .u32 0, .int .i64 0, .int .i64 0, .int .i64 0, .bool false, .int .i64 0] 72 (0, 0)) := by
    rw [ho.2 w.heap.size (by simp) (by omega)]
    exact blk_new w _
  have c0 := (blk_cell hbk 0).trans rfl
  have c1 := (blk_cell hbk 1).trans rfl
  have c2 := (blk_cell hbk 2).trans rfl
  have c3 := (blk_cell hbk 3).trans rfl
  have c4 := (blk_cell hbk 4).trans rfl
  have c5 := (blk_cell hbk 5).trans rfl
  have f0 := blk_frozen hbk 0
  have f1 := blk_frozen hbk 1
  have f2 := blk_frozen hbk 2
  have f3 := blk_frozen hbk 3
  have f4 := blk_frozen hbk 4
  have f5 := blk_frozen hbk 5
  have Hr5 := Aside0.mk hr5
  have Hbw := Aside0.mk hbw5
  have Ho := Aside0.mk ho
  have Hbk := Aside0.mk hbk
  clear hr1 hbw1 ho1 hr2 hbw2 ho2 hr3 hbw3 ho3 hr4 hbw4 ho4 hr5 hbw5 ho5 ho hbk hp hq2 hq3 hq4 hq5
  go_wp2
  refine bodyPost_ret (results_cell_row rfl _ _ w.heap.size 72 #[.int .u32 v, .int .i64 u, .int .i64 mn, .int .i64 mx, .bool dn, .int .i64 pf] (0, 0) _ rfl (blk_put (cs := #[.int .u32 v, .int .i64 u, .int .i64 mn, .int .i64 mx, .bool dn, .int .i64 0]) (blk_put (cs := #[.int .u32 v, .int .i64 u, .int .i64 mn, .int .i64 mx, .bool false, .int .i64 0]) (blk_put (cs := #[.int .u32 v, .int .i64 u, .int .i64 mn, .int .i64 0, .bool false, .int .i64 0]) (blk_put (cs := #[.int .u32 v, .int .i64 u, .int .i64 0, .int .i64 0, .bool false, .int .i64 0]) (blk_put (cs := #[.int .u32 v, .int .i64 0, .int .i64 0, .int .i64 0, .bool false, .int .i64 0]) (blk_put (cs := #[.int .u32 0, .int .i64 0, .int .i64 0, .int .i64 0, .bool false, .int .i64 0]) Hbk.out 0 _ rfl) 1 _ rfl) 2 _ rfl) 3 _ rfl) 4 _ rfl) 5 _ rfl) Tryd.underlying72 rfl (by kernel_rfl)) rfl ?_
  refine ⟨⟨⟨v, u⟩, mn, mx, dn, pf⟩, rfl, fun hb0 => ?_, ((((((Hr5.out.far _ 0 _ hN).far _ 1 _ hN).far _ 2 _ hN).far _ 3 _ hN).far _ 4 _ hN).far _ 5 _ hN), ((((((Hbw.out.setCell (p := ⟨w.heap.size, 0, none⟩) hsz _).setCell (p := ⟨w.heap.size, 1, none⟩) hsz _).setCell (p := ⟨w.heap.size, 2, none⟩) hsz _).setCell (p := ⟨w.heap.size, 3, none⟩) hsz _).setCell (p := ⟨w.heap.size, 4, none⟩) hsz _).setCell (p := ⟨w.heap.size, 5, none⟩) hsz _), ?_⟩
  · obtain ⟨_, _, e2, e3, e4, e5, _⟩ := ruleBad_false hb0
    obtain ⟨x1, x2⟩ := Hv1.out e2
    have x3 := Hv2.out e3
    have x4 := Hv3.out e4
    have x5 := Hv5.out hb0
    have x2' : numV (headV (t1 left)) = some u := x2
    unfold ruleOf
    rw [x1, x2', x3, x4, x5, ← Hdn.out]
    rfl
  · refine ⟨by have := Ho.out.1; simp [World.setCell]; simp at this; omega, fun k hk hn => ?_⟩
    have hkw : k ≠ w.heap.size := by omega
    rw [Below.heap_setCell _ _ _ _ hkw, Below.heap_setCell _ _ _ _ hkw, Below.heap_setCell _ _ _ _ hkw, Below.heap_setCell _ _ _ _ hkw, Below.heap_setCell _ _ _ _ hkw, Below.heap_setCell _ _ _ _ hkw, Ho.out.2 k (by simp; omega) hn]
    exact Below.heap_alloc _ _ _ hk
end Go.Proofs.YtppjodchlpapdaaDoor.PB

namespace Go.Proofs.YtppjodchlpapdaaDoor.PB
open Go.RowKit Go.Sort Go.Lib Go.Proofs Go.Proofs.YtppjodchlpapdaaDoor Go.Proofs.YtppjodchlpapdaaDoorW.PrintWords
set_option linter.unusedVariables false
set_option linter.unusedSimpArgs false

abbrev Ru := S72
abbrev kRu : Kd Ru := k72

/-- The rules that a reader reads while a count lasts. -/
def inGo : Nat → Int → List ByteArray → Bool → List Ru → List ByteArray × Bool × List Ru
  | 0, _, l, b, out => (l, b, out)
  | g + 1, n, l, b, out => if 0 < n ∧ b = false then inGo g (wrap64 (n - 1)) (t6 l) (ruleBad l b) (out ++ [ruleOf l]) else (l, b, out)
/-- The rules that a reader reads while six texts are left. -/
def outGo : Nat → List ByteArray → Bool → List Ru → List ByteArray × Bool × List Ru
  | 0, l, b, out => (l, b, out)
  | g + 1, l, b, out => if 6 ≤ l.length ∧ b = false then outGo g (t6 l) (ruleBad l b) (out ++ [ruleOf l]) else (l, b, out)

def fuelOk (g : Nat) (l : List ByteArray) (b : Bool) : Prop := 1 ≤ g ∧ (b = false → l.length + 2 ≤ g)
def roomOk (L0 : Nat) (l : List ByteArray) (b : Bool) (out : List Ru) : Prop := out.length ≤ L0 + 1 ∧ (b = false → out.length + l.length ≤ L0)
def sizesOk (l : List ByteArray) : Prop := ∀ s ∈ l, s.size ≤ 281474976710656
theorem sizesOk_t6 {l : List ByteArray} (h : sizesOk l) : sizesOk (t6 l) := fun s hs => h s (List.mem_of_mem_tail (List.mem_of_mem_tail (List.mem_of_mem_tail (List.mem_of_mem_tail (List.mem_of_mem_tail (List.mem_of_mem_tail hs))))))

theorem fuelOk_step {g : Nat} {l : List ByteArray} (h : fuelOk (g + 1) l false) : fuelOk g (t6 l) (ruleBad l false) := by
  have h1 := h.2 rfl
  refine ⟨by omega, fun hb => ?_⟩
  have := (ruleBad_false hb).2.1
  rw [t6_length]; omega
theorem roomOk_step {L0 : Nat} {l : List ByteArray} {out : List Ru} (x : Ru) (h : roomOk L0 l false out) : roomOk L0 (t6 l) (ruleBad l false) (out ++ [x]) := by
  have h1 := h.2 rfl
  refine ⟨by rw [List.length_append, List.length_singleton]; omega, fun hb => ?_⟩
  have := (ruleBad_false hb).2.1
  rw [t6_length, List.length_append, List.length_singleton]; omega

theorem C_belowN {w w' : World} {A : Option Addr} {n N : Nat} {xs : List ByteArray} (h : Kd.string.C w A n xs) (hb : Below N w w') (hne : ∀ ad, A = some ad → 0 < n → ad.block < N) : Kd.string.C w' A n xs := by
  refine ⟨h.1, h.2.1, fun hp => ?_⟩
  obtain ⟨ad, e, hc⟩ := h.2.2 hp
  refine ⟨ad, e, fun j q hj => ?_⟩
  obtain ⟨c, h1, h2, h3⟩ := hc j q hj
  refine ⟨c, h1, h2, fun i u' hu => ?_⟩
  rw [hb.cell (show (ad.add _).block < N by rw [add_block]; exact hne ad e hp)]
  exact h3 i u' hu

theorem RdAt.belowN {B N rb : Nat} {left : List ByteArray} {bad : Bool} {w w' : World} (h : RdAt B N rb left bad w) (hb : Below N w w') : RdAt B N rb left bad w' := by
  obtain ⟨hB, hrN, hN, A, c, hh, hc, hC, hne⟩ := h
  exact ⟨hB, hrN, Nat.le_trans hN hb.size, A, c, (hb.block rb hrN).trans hh, hc, C_belowN hC hb (fun ad h1 h2 => (hne ad h1 h2).2), hne⟩

theorem R_only {α : Type} {d : Kd α} {e : Nat} {w w' : World} {N rb : Nat} {ok : Nat → Prop} {v : Value} {xs : List α} (h : d.R e w N ok v xs) (ho : Only rb w w') (hr : rb < N) : d.R e w' N ok v xs :=
  Kd.R_mono (Kd.R_move (Kd.R_bound h) (fun k hk => ho.2 k hk.2.2.1 (by have := hk.2.1; omega))) (fun _ hk => hk.1)
theorem R_belowN {α : Type} {d : Kd α} {e : Nat} {w w' : World} {N N2 : Nat} {ok : Nat → Prop} {v : Value} {xs : List α} (h : d.R e w N ok v xs) (hb : Below N2 w w') (hok : ∀ k, ok k → k < N2) : d.R e w' N ok v xs :=
  Kd.R_move h (fun k hk => hb.block k (hok k hk))

/-- What stands while the first rules are read. -/
def Mid1 (W0 : World) (N rb pb L0 : Nat) (num asn : Int) (l : List ByteArray) (b : Bool) (vIn : Value) (out : List Ru) (wx : World) : Prop :=
  ∃ out', RdAt W0.heap.size N rb l b wx ∧ Below W0.heap.size W0 wx ∧ wx.heap[pb]? = some (.cells #[.int .i64 num, .int .i64 asn, vIn, .slice none 0 0] 42 (0, 0)) ∧ N ≤ pb ∧
    kRu.R 72 wx N (fun _ => True) vIn out' ∧ (b = false → out' = out) ∧ roomOk L0 l b out' ∧ sizesOk l
/-- What stands while the rules behind are read. -/
def Mid2 (W0 : World) (N N2 rb pb L0 : Nat) (num asn : Int) (b1 : Bool) (vIn : Value) (inL : List Ru) (l : List ByteArray) (b : Bool) (vOut : Value) (out : List Ru) (wx : World) : Prop :=
  ∃ inL' out', RdAt W0.heap.size N rb l b wx ∧ Below W0.heap.size W0 wx ∧ wx.heap[pb]? = some (.cells #[.int .i64 num, .int .i64 asn, vIn, vOut] 42 (0, 0)) ∧ N ≤ pb ∧ N ≤ N2 ∧ N2 ≤ wx.heap.size ∧ pb < N2 ∧
    kRu.R 72 wx N (fun k => k < N2) vIn inL' ∧ (b1 = false → inL' = inL) ∧ (b = false → b1 = false) ∧ kRu.R 72 wx N2 (fun _ => True) vOut out' ∧ (b = false → out' = out) ∧ roomOk L0 l b out' ∧ sizesOk l

theorem infoRule : (Tryd.prog.info? 72).map (fun i => (i.zero, i.size, i.bytes)) = some (some (.agg #[.int .u32 0, .int .i64 0, .int .i64 0, .int .i64 0, .bool false, .int .i64 0]), 6, 48) := by kernel_rfl

theorem splitGo_len : ∀ (g : Nat) (X : ByteArray) (out : List ByteArray), (splitGo g X out).1.length ≤ out.length + g
  | 0, X, out => by simp [splitGo]
  | g + 1, X, out => by
    unfold splitGo
    split
    · exact Nat.le_add_right _ _
    · split
      · exact Nat.zero_le _
      · rename_i n hn
        have := splitGo_len g ((tailOf X).extract n (tailOf X).size) (out ++ [(tailOf X).extract 0 n])
        rw [List.length_append, List.length_singleton] at this
        omega

theorem rdat_bad {B N rb : Nat} {left : List ByteArray} {bad : Bool} {w : World} (h : RdAt B N rb left bad w) : w.cell? ⟨rb, 1, none⟩ = some (.bool bad) ∧ w.frozen? ⟨rb, 1, none⟩ = false := by
  obtain ⟨hB, hrN, hN, A, c, hh, hc, hC, hne⟩ := h
  exact ⟨(blk_cell hh 1).trans rfl, blk_frozen hh 1⟩
theorem rdat_len {B N rb : Nat} {left : List ByteArray} {bad : Bool} {w : World} (h : RdAt B N rb left bad w) : ∃ A c, w.cell? ⟨rb, 0, none⟩ = some (.slice A left.length c) ∧ w.frozen? ⟨rb, 0, none⟩ = false := by
  obtain ⟨hB, hrN, hN, A, c, hh, hc, hC, hne⟩ := h
  exact ⟨A, c, (blk_cell hh 0).trans rfl, blk_frozen hh 0⟩
theorem inGo_stop (g : Nat) (n : Int) (l : List ByteArray) (b : Bool) (out : List Ru) (h : ¬ (0 < n ∧ b = false)) : inGo g n l b out = (l, b, out) := by
  cases g with
  | zero => rfl
  | succ g => unfold inGo; rw [if_neg h]
theorem inGo_go (g : Nat) (n : Int) (l : List ByteArray) (out : List Ru) (h : 0 < n) : inGo (g + 1) n l false out = inGo g (wrap64 (n - 1)) (t6 l) (ruleBad l false) (out ++ [ruleOf l]) := by
  conv => lhs; unfold inGo
  rw [if_pos ⟨h, rfl⟩]
theorem outGo_stop (g : Nat) (l : List ByteArray) (b : Bool) (out : List Ru) (h : ¬ (6 ≤ l.length ∧ b = false)) : outGo g l b out = (l, b, out) := by
  cases g with
  | zero => rfl
  | succ g => unfold outGo; rw [if_neg h]
theorem outGo_go (g : Nat) (l : List ByteArray) (out : List Ru) (h : 6 ≤ l.length) : outGo (g + 1) l false out = outGo g (t6 l) (ruleBad l false) (out ++ [ruleOf l]) := by
  conv => lhs; unfold outGo
  rw [if_pos ⟨h, rfl⟩]

theorem inGo_len : ∀ (g : Nat) (n : Int) (l : List ByteArray) (b : Bool) (out : List Ru), (inGo g n l b out).1.length ≤ l.length
  | 0, n, l, b, out => Nat.le_refl _
  | g + 1, n, l, b, out => by
    unfold inGo
    split
    · have := inGo_len g (wrap64 (n - 1)) (t6 l) (ruleBad l b) (out ++ [ruleOf l])
      rw [t6_length] at this
      omega
    · exact Nat.le_refl _

theorem R_set4 {α : Type} {d : Kd α} {e : Nat} {w : World} {base : Nat} {ok : Nat → Prop} {v : Value} {xs : List α} (h : d.R e w base ok v xs) {g t : Nat} {cells : Array Value} (hb : w.heap[g]? = some (.cells cells t (0, 0))) (ht : ∀ q, q ∈ e :: d.E → q ≠ t) (u0 u1 u2 u3 : Value) :
    d.R e ((((w.setCell ⟨g, 0, none⟩ u0).setCell ⟨g, 1, none⟩ u1).setCell ⟨g, 2, none⟩ u2).setCell ⟨g, 3, none⟩ u3) base ok v xs :=
  Kd.R_mono (Kd.R_far (p := ⟨g, 3, none⟩) (Kd.R_far (p := ⟨g, 2, none⟩) (Kd.R_far (p := ⟨g, 1, none⟩) (Kd.R_far (p := ⟨g, 0, none⟩) (Kd.R_types h hb ht) (fun _ hk => hk.2) u0) (fun _ hk => hk.2) u1) (fun _ hk => hk.2) u2) (fun _ hk => hk.2) u3) (fun _ hk => hk.1)

theorem below_drewR (w : World) : Below w.heap.size w w.drew := below_drew1 (Below.refl _ _)

end Go.Proofs.YtppjodchlpapdaaDoor.PB

namespace Go.Proofs.YtppjodchlpapdaaDoor.PB
open Go.RowKit Go.Sort Go.Lib Go.Proofs Go.Proofs.YtppjodchlpapdaaDoor Go.Proofs.YtppjodchlpapdaaDoorW.PrintWords
set_option linter.unusedVariables false
set_option linter.unusedSimpArgs false
def peerFuel (a b : List Ru) : Nat := 2 * (a.length + b.length) + 4
def rpBad (l0 : List ByteArray) (bad : Bool) : Bool := badNum (t2 l0) (badNum (t1 l0) (badNum l0 bad))
def rpIn (l0 : List ByteArray) (bad : Bool) : List ByteArray × Bool × List Ru := inGo (l0.length + 2) ((numV (headV (t2 l0))).getD 0) (t3 l0) (rpBad l0 bad) []
def rpOut (R : List ByteArray × Bool × List Ru) : List ByteArray × Bool × List Ru := outGo (R.1.length + 2) R.1 R.2.1 []
def rpEnd (a0 : ByteArray) (l0 : List ByteArray) (A B : List ByteArray × Bool × List Ru) : Option (Int × Int × List Ru × List Ru × Bool) :=
  if B.2.1 = true then some (0, 0, [], [], false)
  else (row_Peer.f (peerFuel A.2.2 B.2.2) ((numV (headV l0)).getD 0) ((numV (headV (t1 l0))).getD 0) A.2.2 B.2.2).bind fun t =>
    if t = a0 then some ((numV (headV l0)).getD 0, (numV (headV (t1 l0))).getD 0, A.2.2, B.2.2, true) else some (0, 0, [], [], false)
def row_ReadPeer.f (a0 : ByteArray) : Option (Int × Int × List Ru × List Ru × Bool) :=
  if a0.size < 4294967281 then
    rpEnd a0 (splitGo a0.size a0 []).1 (rpIn (splitGo a0.size a0 []).1 (openBad (splitGo a0.size a0 []).2 (splitGo a0.size a0 []).1.length 0)) (rpOut (rpIn (splitGo a0.size a0 []).1 (openBad (splitGo a0.size a0 []).2 (splitGo a0.size a0 []).1.length 0)))
  else none

theorem inGo_bad : ∀ (g : Nat) (n : Int) (l : List ByteArray) (b : Bool) (out : List Ru), (inGo g n l b out).2.1 = false → b = false
  | 0, n, l, b, out, h => h
  | g + 1, n, l, b, out, h => by
    cases b with
    | false => rfl
    | true => rw [inGo_stop _ _ _ _ _ (by simp)] at h; exact h

set_option maxHeartbeats 4000000 in
set_option maxRecDepth 100000 in
theorem row_ReadPeer.calls (a0 : ByteArray) (r1 r2 : Int) (r3 r4 : List Ru) (r5 : Bool) (w : World) (hV : VarsOk w) (h : row_ReadPeer.f a0 = some (r1, r2, r3, r4, r5)) :
    Calls Tryd.prog 19 #[.string a0] w fun e w' => ∃ v0_ v1_ : Value, e = .returned (.tuple #[.agg #[.int .i64 r1, .int .i64 r2, v0_, v1_], .bool r5]) ∧ kRu.R 72 w' w.heap.size (fun _ => True) v0_ r3 ∧ kRu.R 72 w' w.heap.size (fun _ => True) v1_ r4 ∧ Below w.heap.size w w' := by
  unfold row_ReadPeer.f at h
  by_cases hs : a0.size < 4294967281
  case neg => rw [if_neg hs] at h; cases h
  rw [if_pos hs] at h
  obtain ⟨l0, hl⟩ : ∃ l0, (splitGo a0.size a0 []).1 = l0 := ⟨_, rfl⟩
  obtain ⟨bad, hbad⟩ : ∃ b, openBad (splitGo a0.size a0 []).2 (splitGo a0.size a0 []).1.length 0 = b := ⟨_, rfl⟩
  rw [hbad, hl] at h
  have H := Aside0.mk h
  clear h
  have hop := fun (W : World) (hW : VarsOk W) => open_calls a0 0 hs W hW
  have hms : sizesOk l0 := by
    rw [← hl]
    exact splitGo_sizes _ _ _ _ (by omega) (by simp)
  rw [hbad] at hop
  rw [hl] at hop
  obtain ⟨W0, hW0⟩ : ∃ W0, W0 = w.alloc (.cells #[.int .i64 0, .int .i64 0, .slice none 0 0, .slice none 0 0] 42 (0, 0)) := ⟨_, rfl⟩
  have hV0 : VarsOk W0 := by rw [hW0]; exact hV.below (below_alloc (Below.refl _ _) _)
  have hbW : Below w.heap.size w W0 := by rw [hW0]; exact below_alloc (Below.refl _ _) _
  have hbk0 : W0.heap[w.heap.size]? = some (.cells #[.int .i64 0, .int .i64 0, .slice none 0 0, .slice none 0 0] 42 (0, 0)) := by rw [hW0]; exact blk_new w _
  have HW0 := Aside0.mk hW0
  have hop' := hop _ hV0
  rw [hW0] at hop'
  have Hop := Aside0.mk hop'
  have hh : ∀ l : List ByteArray, sizesOk l → (headV l).size ≤ 281474976710656 := fun l hl => by
    cases l with
    | nil => exact Nat.zero_le _
    | cons a l => exact hl a (List.mem_cons_self)
  have ht : ∀ l : List ByteArray, sizesOk l → sizesOk l.tail := fun l hl s hs' => hl s (List.mem_of_mem_tail hs')
  have Hq1 := Aside0.mk (fun (W : World) (N rb : Nat) => num_calls W0 W hV0 N rb l0 bad (hh _ hms))
  have Hq2 := Aside0.mk (fun (W : World) (N rb : Nat) => num_calls W0 W hV0 N rb (t1 l0) (badNum l0 bad) (hh _ (ht _ hms)))
  have Hq3 := Aside0.mk (fun (W : World) (N rb : Nat) => num_calls W0 W hV0 N rb (t2 l0) (badNum (t1 l0) (badNum l0 bad)) (hh _ (ht _ (ht _ hms))))
  have Hms3 := Aside0.mk (ht _ (ht _ (ht _ hms)))
  have Hbw := Aside0.mk hbW
  have Hbk0 := Aside0.mk hbk0
  have hl0 : l0.length ≤ 4294967281 := by
    rw [← hl]
    have := splitGo_len a0.size a0 []
    rw [List.length_nil] at this
    omega
  clear hop hop' hms hh ht hbW hbk0 hl hbad hW0
  go_enter Tryd.func19, Tryd.ntmps19
  go_wp2_with (go_at_call 30; refine Hop.out.mono ?_)
  rintro e w1 ⟨rb, rfl, ⟨N, hr1⟩, hb1⟩
  rw [← HW0.out] at hr1 hb1
  go_wp2_with (go_at_call 33; refine (Hq1.out _ N rb hr1 hb1).mono ?_)
  rintro e w2 ⟨num, rfl, hv1, hr2, hb2, ho2⟩
  have Hv1 := Aside0.mk hv1
  clear hv1 hr1 hb1 ho2
  go_wp2_with (go_at_call 33; refine (Hq2.out _ N rb hr2 hb2).mono ?_)
  rintro e w3 ⟨asn, rfl, hv2, hr3, hb3, ho3⟩
  have Hv2 := Aside0.mk hv2
  clear hv2 hr2 hb2 ho3
  have hN3 : N ≤ w3.heap.size := hr3.2.2.1
  have hrN : rb < N := hr3.2.1
  have hWN : W0.heap.size ≤ N := by have := hr3.1; omega
  go_wp2_with (go_at_call 33; refine (Hq3.out _ N rb (hr3.below (below_alloc (Below.refl _ _) _)) (below_alloc hb3 _)).mono ?_)
  rintro e w4 ⟨n, rfl, hv3, hr4, hb4, ho4⟩
  have hbk4 : w4.heap[w3.heap.size]? = some (.cells #[.int .i64 num, .int .i64 asn, .slice none 0 0, .slice none 0 0] 42 (0, 0)) := by
    rw [ho4.2 w3.heap.size (by simp) (by omega)]
    exact blk_new w3 _
  obtain ⟨pb, hpb⟩ : ∃ pb, w3.heap.size = pb := ⟨_, rfl⟩
  rw [hpb] at hbk4 hN3
  obtain ⟨b3, hb3x⟩ : ∃ b3, badNum (t2 l0) (badNum (t1 l0) (badNum l0 bad)) = b3 := ⟨_, rfl⟩
  have hr4' : RdAt W0.heap.size N rb (t3 l0) b3 w4 := by rw [← hb3x]; exact hr4
  have Hb3 := Aside0.mk hb3x
  have Hv3 := Aside0.mk hv3
  have Hmid : Aside0 (Mid1 W0 N rb pb l0.length num asn (t3 l0) b3 (.slice none 0 0) [] w4) :=
    ⟨⟨[], hr4', hb4, hbk4, hN3, Kd.R_nil _ _ _ _ _, fun _ => rfl, ⟨Nat.zero_le _, fun _ => by simp [t3]; omega⟩, Hms3.out⟩⟩
  have hfu : fuelOk (l0.length + 2) (t3 l0) b3 := ⟨by omega, fun _ => by simp [t3]; omega⟩
  have Hfu := Aside0.mk hfu
  obtain ⟨R1, hR1x⟩ : ∃ R1, rpIn l0 bad = R1 := ⟨_, rfl⟩
  have hR1 : inGo (l0.length + 2) n (t3 l0) b3 [] = R1 := by
    rw [← hR1x]
    unfold rpIn rpBad
    rw [hb3x]
    cases b3 with
    | true => rw [inGo_stop _ _ _ _ _ (by simp), inGo_stop _ _ _ _ _ (by simp)]
    | false => rw [hv3 hb3x]; rfl
  have HR1x := Aside0.mk hR1x
  have HR1 := Aside0.mk hR1
  clear hR1x
  clear hr4 hr4' hb4 hbk4 hr3 hb3 ho4 hfu hR1 hb3x hv3
  go_upto_block 0 with fail
  have Hpb := Aside0.mk hpb
  clear hpb
  go_cut [6] (fun s6 wc => ∃ (vIn : Value), Aside0 (Mid1 W0 N rb pb l0.length num asn R1.1 R1.2.1 vIn R1.2.2 wc))
  case first =>
    go_wp2_with fail
    go_loopg [6] (l0.length + 2) (fun g s6 wx => ∃ (n' : Int) (l : List ByteArray) (b : Bool) (vIn : Value) (out : List Ru), s6 = .int .i64 n' ∧ Aside0 (inGo g n' l b out = R1) ∧ Aside0 (fuelOk g l b) ∧ Aside0 (Mid1 W0 N rb pb l0.length num asn l b vIn out wx))
    case atStart => exact ⟨n, t3 l0, b3, .slice none 0 0, [], rfl, HR1, Hfu, Hmid⟩
    case round =>
      clear Hmid HR1 Hfu
      obtain ⟨n', l, b, vIn, out, rfl, HG, HF, HM⟩ := hrel
      obtain ⟨out', hr, hb, hpk, hNp, hR, hoo, hroom, hsz⟩ := HM.out
      obtain ⟨hcb, hfb⟩ := rdat_bad hr
      cases b with
      | true =>
        by_cases hn : 0 < n'
        all_goals
          go_wp2
          go_meet
          case rel => exact ⟨vIn, by rw [← HG.out, inGo_stop _ _ _ _ _ (by simp)]; exact HM⟩

      | false =>
        by_cases hn : 0 < n'
        · obtain ⟨g, rfl⟩ : ∃ g, gk = g + 1 := ⟨gk - 1, by have := HF.out.1; omega⟩
          have hout : out' = out := hoo rfl
          have HG2 := Aside0.mk ((inGo_go g n' l out hn).symm.trans HG.out)
          have HF2 := Aside0.mk (fuelOk_step HF.out)
          have Hsz2 := Aside0.mk (sizesOk_t6 hsz)
          have Hrule := Aside0.mk (fun W (h1 : RdAt W0.heap.size N rb l false W) (h2 : Below W0.heap.size W0 W) => rule_calls W0 W hV0 N rb l false hsz h1 h2)
          have c2 : wr.cell? ⟨pb, 2, none⟩ = some vIn := (blk_cell hpk 2).trans rfl
          have f2 : wr.frozen? ⟨pb, 2, none⟩ = false := blk_frozen hpk 2
          have hplt : pb < wr.heap.size := blk_lt hpk
          have hNw : N ≤ wr.heap.size := hr.2.2.1
          have hlen48 : (out'.length + 1) * 48 ≤ 140737488355328 := by have := hroom.1; omega
          have Hroom := Aside0.mk hroom
          have Hsz := Aside0.mk hsz
          have Hpk := Aside0.mk hpk
          have HR := Aside0.mk hR
          have Hr := Aside0.mk hr
          have Hb := Aside0.mk hb
          have Hout := Aside0.mk hout
          have HNp := Aside0.mk hNp
          clear HG HF HM hoo hroom hsz hpk hR hr hb hout hNp
          go_wp2
          go_region_law (first
            | (go_simp
               go_at_call 35
               refine (Hrule.out _ (Hr.out.below (below_drewR _)) (below_step Hb.out (below_drewR _))).mono ?_
               rintro e w5 ⟨x, rfl, hx, hr5, hb5, ho5⟩
               have hpk5 : w5.heap[pb]? = some (.cells #[.int .i64 num, .int .i64 asn, vIn, .slice none 0 0] 42 (0, 0)) := (ho5.2 pb hplt (by omega)).trans Hpk.out
               have hca0 : w5.cell? ⟨pb, 2, none⟩ = some vIn := (blk_cell hpk5 2).trans rfl
               have hfa0 : w5.frozen? ⟨pb, 2, none⟩ = false := blk_frozen hpk5 2
               have hca : ∀ o, (w5.alloc o).cell? ⟨pb, 2, none⟩ = some vIn := fun o => (blk_cell (blk_alloc hpk5 o) 2).trans rfl
               have hfa : ∀ o, (w5.alloc o).frozen? ⟨pb, 2, none⟩ = false := fun o => blk_frozen (blk_alloc hpk5 o) 2
               have hR5 : kRu.R 72 w5 N (fun _ => True) vIn out' := R_only HR.out ho5 hrN
               have Hpk5 := Aside0.mk hpk5
               have Hr5 := Aside0.mk hr5
               have Hb5 := Aside0.mk hb5
               have Hx := Aside0.mk hx
               have hN5 : N ≤ w5.heap.size := hr5.2.2.1
               clear hpk5 hr5 hb5 hx ho5
               (try dsimp only))
            | (refine Kd.R_append_step kRu (w0 := w5) N (by rfl) _ _ _ _ (.agg #[.int .u32 0, .int .i64 0, .int .i64 0, .int .i64 0, .bool false, .int .i64 0]) 48 rfl Tryd.underlying40 infoRule rfl (by decide) (by decide) vIn out' x [.int .u32 x.f0.f0, .int .i64 x.f0.f1, .int .i64 x.f1, .int .i64 x.f2, .bool x.f3, .int .i64 x.f4] (fun _ => True) (fun _ => False) (by rfl) (by rfl) (k72_mkM _ _ _ x) (fun _ hk => hk.elim) (fun _ _ => trivial) hR5 (Below.refl _ _) hN5 hlen48 ?_
               intro v6 w6 hR6 hb6 hg6 hat6
               obtain ⟨A6, c6, rfl⟩ := Kd.R_slice hR6
               have hpk6 : w6.heap[pb]? = some (.cells #[.int .i64 num, .int .i64 asn, vIn, .slice none 0 0] 42 (0, 0)) := blk_grown Hpk5.out hg6 (Kd.R_ne hR5 Hpk5.out (by decide))
               have hca6 : w6.cell? ⟨pb, 2, none⟩ = some vIn := (blk_cell hpk6 2).trans rfl
               have hfa6 : w6.frozen? ⟨pb, 2, none⟩ = false := blk_frozen hpk6 2
               have Hpk6 := Aside0.mk hpk6
               have HR6 := Aside0.mk hR6
               have Hb6 := Aside0.mk hb6
               clear hpk6 hR6 hb6 hg6 hat6))
          all_goals
            go_wp2
            go_roundg g
            case measure => omega
            case rel =>
              refine ⟨wrap64 (n' - 1), t6 l, ruleBad l false, .slice A6 (out'.length + 1) c6, out ++ [ruleOf l], by first | rfl | (simp; done) | (simp [wrap64]; done), HG2, HF2, ⟨⟨out' ++ [x], (Hr5.out.belowN Hb6.out).far pb 2 _ HNp.out, (Hb5.out.trans (Hb6.out.mono (by omega))).setCell (p := ⟨pb, 2, none⟩) (show W0.heap.size ≤ pb from Nat.le_trans (by omega) HNp.out) _, blk_put Hpk6.out 2 _ rfl, HNp.out, ?_, fun hb => by rw [Hx.out hb, Hout.out], roomOk_step x Hroom.out, Hsz2.out⟩⟩⟩
              have h := Kd.R_set HR6.out Hpk6.out (by decide) 2 (.slice A6 (out'.length + 1) c6)
              simpa using h
        · go_wp2
          go_meet
          case rel => exact ⟨vIn, by rw [← HG.out, inGo_stop _ _ _ _ _ (by simp [hn])]; exact HM⟩
  case rest =>
    clear Hmid Hfu
    obtain ⟨vIn, HM1⟩ := hcut
    obtain ⟨l1, hl1⟩ : ∃ l1, R1.1 = l1 := ⟨_, rfl⟩
    obtain ⟨b1, hb1⟩ : ∃ b1, R1.2.1 = b1 := ⟨_, rfl⟩
    obtain ⟨inL, hinL⟩ : ∃ inL, R1.2.2 = inL := ⟨_, rfl⟩
    have HR1' := Aside0.mk (show R1 = (l1, b1, inL) by rw [← hl1, ← hb1, ← hinL])
    rw [hl1, hb1, hinL] at HM1
    have hl1len : l1.length ≤ l0.length := by rw [← hl1, ← HR1.out]; exact Nat.le_trans (inGo_len _ _ _ _ _) (by simp [t3]; omega)
    clear hl1 hb1 hinL
    obtain ⟨N2, hN2x⟩ : ∃ N2, wc.heap.size = N2 := ⟨_, rfl⟩
    have Hmid2 : Aside0 (Mid2 W0 N N2 rb pb (l0.length + 1 + l1.length) num asn b1 vIn inL l1 b1 (.slice none 0 0) [] wc) := by
      obtain ⟨in', hr, hb, hpk, hNp, hR, hoo, hroom, hsz⟩ := HM1.out
      rw [← hN2x]
      exact ⟨⟨in', [], hr, hb, hpk, hNp, hr.2.2.1, Nat.le_refl _, blk_lt hpk, Kd.R_mono (Kd.R_bound hR) (fun k hk => hk.2.2.1), hoo, fun h => h, Kd.R_nil _ _ _ _ _, fun _ => rfl, ⟨Nat.zero_le _, fun _ => by simp⟩, hsz⟩⟩
    have hfu2 : fuelOk (l1.length + 2) l1 b1 := ⟨by omega, fun _ => Nat.le_refl _⟩
    have Hfu2 := Aside0.mk hfu2
    obtain ⟨R2, hR2⟩ : ∃ R2, outGo (l1.length + 2) l1 b1 [] = R2 := ⟨_, rfl⟩
    have HR2 := Aside0.mk hR2
    clear hN2x hfu2 hR2
    go_upto_block 2 with fail
    go_cut [] (fun wc2 => ∃ (vOut : Value), Aside0 (Mid2 W0 N N2 rb pb (l0.length + 1 + l1.length) num asn b1 vIn inL R2.1 R2.2.1 vOut R2.2.2 wc2))
    case first =>
      go_wp2_with fail
      go_loopg [] (l1.length + 2) (fun g wx => ∃ (l : List ByteArray) (b : Bool) (vOut : Value) (out : List Ru), Aside0 (outGo g l b out = R2) ∧ Aside0 (fuelOk g l b) ∧ Aside0 (Mid2 W0 N N2 rb pb (l0.length + 1 + l1.length) num asn b1 vIn inL l b vOut out wx))
      case atStart => exact ⟨l1, b1, .slice none 0 0, [], HR2, Hfu2, Hmid2⟩
      case round =>
        clear Hmid2 HR2 Hfu2
        obtain ⟨l, b, vOut, out, HG, HF, HM⟩ := hrel
        obtain ⟨in', out', hr, hb, hpk, hNp, hN2, hN2w, hpN2, hRi, hii, hbb, hR, hoo, hroom, hsz⟩ := HM.out
        obtain ⟨hcb, hfb⟩ := rdat_bad hr
        obtain ⟨Al, cl, hcl, hfl⟩ := rdat_len hr
        cases b with
        | true =>
          by_cases h6 : 6 ≤ l.length
          all_goals
            have h6i : (6 ≤ l.length) = _ := rfl
            clear h6i
            go_wp2
            go_meet
            case rel => exact ⟨vOut, by rw [← HG.out, outGo_stop _ _ _ _ (by simp)]; exact HM⟩
        | false =>
          by_cases h6 : 6 ≤ l.length
          · obtain ⟨g, rfl⟩ : ∃ g, gk = g + 1 := ⟨gk - 1, by have := HF.out.1; omega⟩
            have hout : out' = out := hoo rfl
            have HG2 := Aside0.mk ((outGo_go g l out h6).symm.trans HG.out)
            have HF2 := Aside0.mk (fuelOk_step HF.out)
            have Hsz2 := Aside0.mk (sizesOk_t6 hsz)
            have Hrule := Aside0.mk (fun W (h1 : RdAt W0.heap.size N rb l false W) (h2 : Below W0.heap.size W0 W) => rule_calls W0 W hV0 N rb l false hsz h1 h2)
            have c2 : wr.cell? ⟨pb, 3, none⟩ = some vOut := (blk_cell hpk 3).trans rfl
            have f2 : wr.frozen? ⟨pb, 3, none⟩ = false := blk_frozen hpk 3
            have hplt : pb < wr.heap.size := blk_lt hpk
            have hNw : N ≤ wr.heap.size := hr.2.2.1
            have hlen48 : (out'.length + 1) * 48 ≤ 140737488355328 := by have := hroom.1; omega
            have Hroom := Aside0.mk hroom
            have Hsz := Aside0.mk hsz
            have Hpk := Aside0.mk hpk
            have HR := Aside0.mk hR
            have HRi := Aside0.mk hRi
            have Hii := Aside0.mk hii
            have Hbb := Aside0.mk hbb
            have Hr := Aside0.mk hr
            have Hb := Aside0.mk hb
            have Hout := Aside0.mk hout
            have HNp := Aside0.mk hNp
            clear HG HF HM hoo hroom hsz hpk hR hRi hii hbb hr hb hout hNp
            go_wp2
            go_region_law (first
              | (go_simp
                 go_at_call 35
                 refine (Hrule.out _ (Hr.out.below (below_drewR _)) (below_step Hb.out (below_drewR _))).mono ?_
                 rintro e w5 ⟨x, rfl, hx, hr5, hb5, ho5⟩
                 have hpk5 : w5.heap[pb]? = some (.cells #[.int .i64 num, .int .i64 asn, vIn, vOut] 42 (0, 0)) := (ho5.2 pb hplt (by omega)).trans Hpk.out
                 have hca0 : w5.cell? ⟨pb, 3, none⟩ = some vOut := (blk_cell hpk5 3).trans rfl
                 have hfa0 : w5.frozen? ⟨pb, 3, none⟩ = false := blk_frozen hpk5 3
                 have hca : ∀ o, (w5.alloc o).cell? ⟨pb, 3, none⟩ = some vOut := fun o => (blk_cell (blk_alloc hpk5 o) 3).trans rfl
                 have hfa : ∀ o, (w5.alloc o).frozen? ⟨pb, 3, none⟩ = false := fun o => blk_frozen (blk_alloc hpk5 o) 3
                 have hR5 : kRu.R 72 w5 N2 (fun _ => True) vOut out' := R_only HR.out ho5 (by omega)
                 have hRi5 : kRu.R 72 w5 N (fun k => k < N2) vIn in' := R_only HRi.out ho5 hrN
                 have Hpk5 := Aside0.mk hpk5
                 have Hr5 := Aside0.mk hr5
                 have Hb5 := Aside0.mk hb5
                 have Hx := Aside0.mk hx
                 have HRi5 := Aside0.mk hRi5
                 have hN25 : N2 ≤ w5.heap.size := Nat.le_trans hN2w ho5.1
                 clear hpk5 hr5 hb5 hx ho5 hRi5
                 (try dsimp only))
              | (refine Kd.R_append_step kRu (w0 := w5) N2 (by rfl) _ _ _ _ (.agg #[.int .u32 0, .int .i64 0, .int .i64 0, .int .i64 0, .bool false, .int .i64 0]) 48 rfl Tryd.underlying40 infoRule rfl (by decide) (by decide) vOut out' x [.int .u32 x.f0.f0, .int .i64 x.f0.f1, .int .i64 x.f1, .int .i64 x.f2, .bool x.f3, .int .i64 x.f4] (fun _ => True) (fun _ => False) (by rfl) (by rfl) (k72_mkM _ _ _ x) (fun _ hk => hk.elim) (fun _ _ => trivial) hR5 (Below.refl _ _) hN25 hlen48 ?_
                 intro v6 w6 hR6 hb6 hg6 hat6
                 obtain ⟨A6, c6, rfl⟩ := Kd.R_slice hR6
                 have hpk6 : w6.heap[pb]? = some (.cells #[.int .i64 num, .int .i64 asn, vIn, vOut] 42 (0, 0)) := blk_grown Hpk5.out hg6 (Kd.R_ne hR5 Hpk5.out (by decide))
                 have hca6 : w6.cell? ⟨pb, 3, none⟩ = some vOut := (blk_cell hpk6 3).trans rfl
                 have hfa6 : w6.frozen? ⟨pb, 3, none⟩ = false := blk_frozen hpk6 3
                 have Hpk6 := Aside0.mk hpk6
                 have HR6 := Aside0.mk hR6
                 have Hb6 := Aside0.mk hb6
                 clear hpk6 hR6 hb6 hg6 hat6))
            all_goals
              go_wp2
              go_roundg g
              case measure => omega
              case rel =>
                have h := Kd.R_set HR6.out Hpk6.out (by decide) 3 (.slice A6 (out'.length + 1) c6)
                have hi := Kd.R_set (R_belowN HRi5.out Hb6.out (fun _ hk => hk)) Hpk6.out (by decide) 3 (.slice A6 (out'.length + 1) c6)
                have hw6 : w5.heap.size ≤ w6.heap.size := Hb6.out.size
                refine ⟨t6 l, ruleBad l false, .slice A6 (out'.length + 1) c6, out ++ [ruleOf l], HG2, HF2, ⟨⟨in', out' ++ [x], (Hr5.out.belowN (Hb6.out.mono hN2)).far pb 3 _ HNp.out, (Hb5.out.trans (Hb6.out.mono (by omega))).setCell (p := ⟨pb, 3, none⟩) (show W0.heap.size ≤ pb from Nat.le_trans (by omega) HNp.out) _, blk_put Hpk6.out 3 _ rfl, HNp.out, hN2, by simp [World.setCell]; omega, hpN2, by simpa using hi, Hii.out, fun _ => Hbb.out (by first | rfl | trivial), by simpa using h, fun hb => by rw [Hx.out hb, Hout.out], roomOk_step x Hroom.out, Hsz2.out⟩⟩⟩
          · go_wp2
            go_meet
            case rel => exact ⟨vOut, by rw [← HG.out, outGo_stop _ _ _ _ (by simp [h6])]; exact HM⟩
    case rest =>
      clear Hmid2 Hfu2
      obtain ⟨vOut, HM2⟩ := hcut
      obtain ⟨l2, hl2⟩ : ∃ l2, R2.1 = l2 := ⟨_, rfl⟩
      obtain ⟨b2, hb2⟩ : ∃ b2, R2.2.1 = b2 := ⟨_, rfl⟩
      obtain ⟨outL, houtL⟩ : ∃ outL, R2.2.2 = outL := ⟨_, rfl⟩
      rw [hl2, hb2, houtL] at HM2
      have HE : Aside0 (rpEnd a0 l0 (l1, b1, inL) (l2, b2, outL) = some (r1, r2, r3, r4, r5)) := ⟨by
        have h := H.out
        have e2 : R2 = (l2, b2, outL) := by rw [← hl2, ← hb2, ← houtL]
        have e3 : rpOut R1 = R2 := by rw [← HR2.out, HR1'.out]; rfl
        rw [HR1x.out, e3, HR1'.out, e2] at h
        exact h⟩
      clear hl2 hb2 houtL
      obtain ⟨in', out', hr, hb, hpk, hNp, hN2, hN2w, hpN2, hRi, hii, hbb, hR, hoo, hroom, hsz⟩ := HM2.out
      obtain ⟨hcb, hfb⟩ := rdat_bad hr
      have hbk := (hb.block w.heap.size (blk_lt Hbk0.out)).trans Hbk0.out
      have hWs : w.heap.size < W0.heap.size := blk_lt Hbk0.out
      have hf0 := blk_frozen hbk 0
      have hf1 := blk_frozen hbk 1
      have hf2 := blk_frozen hbk 2
      have hf3 := blk_frozen hbk 3
      have ha0 := (blk_cell hbk 0).trans rfl
      have ha1 := (blk_cell hbk 1).trans rfl
      have ha2 := (blk_cell hbk 2).trans rfl
      have ha3 := (blk_cell hbk 3).trans rfl
      have Hbk := Aside0.mk hbk
      have HbW := Aside0.mk (below_step Hbw.out (hb.mono (Nat.le_refl _)))
      clear hbk
      cases b2 with
      | true =>
        have Hr := Aside0.mk (show (0, 0, [], [], false) = (r1, r2, r3, r4, r5) from by
          have h := HE.out
          unfold rpEnd at h
          rw [if_pos rfl] at h
          exact Option.some.inj h)
        clear hii hbb hoo hroom hsz hpk hRi hR
        go_wp2
        refine bodyPost_ret (results_ct rfl _ _ w.heap.size 42 #[.int .i64 0, .int .i64 0, .slice none 0 0, .slice none 0 0] (0, 0) _ rfl (blk_put (cs := #[.int .i64 0, .int .i64 0, .slice none 0 0, .slice none 0 0]) (blk_put (cs := #[.int .i64 0, .int .i64 0, .slice none 0 0, .slice none 0 0]) (blk_put (cs := #[.int .i64 0, .int .i64 0, .slice none 0 0, .slice none 0 0]) (blk_put (cs := #[.int .i64 0, .int .i64 0, .slice none 0 0, .slice none 0 0]) Hbk.out 0 _ rfl) 1 _ rfl) 2 _ rfl) 3 _ rfl) Tryd.underlying42 rfl (by kernel_rfl)) rfl ?_
        injection Hr.out with q1 q
        injection q with q2 q
        injection q with q3 q
        injection q with q4 q5
        subst q1 q2 q3 q4 q5
        exact ⟨.slice none 0 0, .slice none 0 0, rfl, Kd.R_nil _ _ _ _ _, Kd.R_nil _ _ _ _ _, (((HbW.out.setCell (p := ⟨w.heap.size, 0, none⟩) (Nat.le_refl _) _).setCell (p := ⟨w.heap.size, 1, none⟩) (Nat.le_refl _) _).setCell (p := ⟨w.heap.size, 2, none⟩) (Nat.le_refl _) _).setCell (p := ⟨w.heap.size, 3, none⟩) (Nat.le_refl _) _⟩
      | false =>
        have hb1f : b1 = false := hbb rfl
        have hin : in' = inL := hii hb1f
        have hout : out' = outL := hoo rfl
        subst hin hout hb1f
        have hb3f : rpBad l0 bad = false := by
          have h := HR1.out
          rw [HR1'.out] at h
          have h2 : b3 = false := inGo_bad (l0.length + 2) n (t3 l0) b3 [] (by rw [h])
          unfold rpBad
          rw [Hb3.out, h2]
        have hq2 : badNum (t1 l0) (badNum l0 bad) = false := badNum_false hb3f
        have hn1 := Hv1.out (badNum_false hq2)
        have hn2 := Hv2.out hq2
        obtain ⟨A2, c2, rfl, hc2, hC2⟩ := Kd.R_reads hRi
        obtain ⟨A3, c3, rfl, hc3, hC3⟩ := Kd.R_reads hR
        have h1 := HE.out
        unfold rpEnd at h1
        rw [if_neg (show ¬ ((l2, false, out') : List ByteArray × Bool × List Ru).2.1 = true from fun h => by cases h), hn1, hn2] at h1
        simp only [Option.getD_some] at h1
        obtain ⟨t, A1, h2⟩ := Option.bind_eq_some_iff.1 h1
        have hwv : VarsOk wc := hV0.below hb
        have hpc := Aside0.mk (row_Peer.calls _ num asn _ c2 in' _ c3 out' t wc hwv hC2 hc2 hC3 hc3 A1)
        have p0 := (blk_cell hpk 0).trans rfl
        have p1 := (blk_cell hpk 1).trans rfl
        have p2 := (blk_cell hpk 2).trans rfl
        have p3 := (blk_cell hpk 3).trans rfl
        have H2 := Aside0.mk h2
        have Hpk := Aside0.mk hpk
        have HRi := Aside0.mk (Kd.R_lower (base' := w.heap.size) (Kd.R_mono hRi (ok' := fun _ => True) (fun _ _ => trivial)) (by omega))
        have HRo := Aside0.mk (Kd.R_lower (base' := w.heap.size) hR (by omega))
        clear h1 h2 A1 hn1 hn2 hq2 hb3f hwv hii hbb hoo hroom hsz hpk hRi hR hC2 hC3 hc2 hc3
        go_wp2_with (go_at_call 17; refine hpc.out.mono ?_)
        rintro e w6 ⟨rfl, hb6⟩
        have hold := blk_below Hbk.out hb6
        have hpk6 := blk_below Hpk.out hb6
        have o0' := (blk_cell hold 0).trans rfl
        have o1' := (blk_cell hold 1).trans rfl
        have o2' := (blk_cell hold 2).trans rfl
        have o3' := (blk_cell hold 3).trans rfl
        have k0 := blk_frozen hold 0
        have k1 := blk_frozen hold 1
        have k2 := blk_frozen hold 2
        have k3 := blk_frozen hold 3
        have n0' := (blk_cell hpk6 0).trans rfl
        have n1' := (blk_cell hpk6 1).trans rfl
        have n2' := (blk_cell hpk6 2).trans rfl
        have n3' := (blk_cell hpk6 3).trans rfl
        have Hbk6 := Aside0.mk hold
        have Hb6 := Aside0.mk (below_step HbW.out hb6)
        have HRi6 := Aside0.mk (Kd.R_below HRi.out hb6)
        have HRo6 := Aside0.mk (Kd.R_below HRo.out hb6)
        clear hold hpk6 hb6 hpc p0 p1 p2 p3 ha0 ha1 ha2 ha3 hf0 hf1 hf2 hf3 hcb hfb
        obtain ⟨bb, hbbx⟩ : ∃ bb, (t.toList == a0.toList) = bb := ⟨_, rfl⟩
        have hbi : bb = true ↔ t = a0 := by rw [← hbbx]; exact Lib.bytes_beq_iff t a0
        have Hbi := Aside0.mk hbi
        clear hbi
        have hnq : (t.toList != a0.toList) = !bb := by rw [← hbbx]; rfl
        cases bb with
        | false =>
          have Hr := Aside0.mk (show (0, 0, [], [], false) = (r1, r2, r3, r4, r5) from by
            have h1 := H2.out
            rw [if_neg (fun e => absurd (Hbi.out.2 e) (by decide))] at h1
            exact Option.some.inj h1)
          go_wp2
          refine bodyPost_ret (results_ct rfl _ _ w.heap.size 42 #[.int .i64 0, .int .i64 0, .slice none 0 0, .slice none 0 0] (0, 0) _ rfl (blk_put (cs := #[.int .i64 0, .int .i64 0, .slice none 0 0, .slice none 0 0]) (blk_put (cs := #[.int .i64 0, .int .i64 0, .slice none 0 0, .slice none 0 0]) (blk_put (cs := #[.int .i64 0, .int .i64 0, .slice none 0 0, .slice none 0 0]) (blk_put (cs := #[.int .i64 0, .int .i64 0, .slice none 0 0, .slice none 0 0]) Hbk6.out 0 _ rfl) 1 _ rfl) 2 _ rfl) 3 _ rfl) Tryd.underlying42 rfl (by kernel_rfl)) rfl ?_
          injection Hr.out with q1 q
          injection q with q2 q
          injection q with q3 q
          injection q with q4 q5
          subst q1 q2 q3 q4 q5
          exact ⟨.slice none 0 0, .slice none 0 0, rfl, Kd.R_nil _ _ _ _ _, Kd.R_nil _ _ _ _ _, (((Hb6.out.setCell (p := ⟨w.heap.size, 0, none⟩) (Nat.le_refl _) _).setCell (p := ⟨w.heap.size, 1, none⟩) (Nat.le_refl _) _).setCell (p := ⟨w.heap.size, 2, none⟩) (Nat.le_refl _) _).setCell (p := ⟨w.heap.size, 3, none⟩) (Nat.le_refl _) _⟩
        | true =>
          have Hr := Aside0.mk (show (num, asn, in', out', true) = (r1, r2, r3, r4, r5) from by
            have h1 := H2.out
            rw [if_pos (Hbi.out.1 rfl)] at h1
            exact Option.some.inj h1)
          go_wp2
          refine bodyPost_ret (results_ct rfl _ _ w.heap.size 42 #[.int .i64 num, .int .i64 asn, .slice A2 in'.length c2, .slice A3 out'.length c3] (0, 0) _ rfl (blk_put (cs := #[.int .i64 num, .int .i64 asn, .slice A2 in'.length c2, .slice none 0 0]) (blk_put (cs := #[.int .i64 num, .int .i64 asn, .slice none 0 0, .slice none 0 0]) (blk_put (cs := #[.int .i64 num, .int .i64 0, .slice none 0 0, .slice none 0 0]) (blk_put (cs := #[.int .i64 0, .int .i64 0, .slice none 0 0, .slice none 0 0]) Hbk6.out 0 _ rfl) 1 _ rfl) 2 _ rfl) 3 _ rfl) Tryd.underlying42 rfl (by kernel_rfl)) rfl ?_
          injection Hr.out with q1 q
          injection q with q2 q
          injection q with q3 q
          injection q with q4 q5
          subst q1 q2 q3 q4 q5
          exact ⟨_, _, rfl, R_set4 HRi6.out Hbk6.out (by decide) _ _ _ _, R_set4 HRo6.out Hbk6.out (by decide) _ _ _ _, (((Hb6.out.setCell (p := ⟨w.heap.size, 0, none⟩) (Nat.le_refl _) _).setCell (p := ⟨w.heap.size, 1, none⟩) (Nat.le_refl _) _).setCell (p := ⟨w.heap.size, 2, none⟩) (Nat.le_refl _) _).setCell (p := ⟨w.heap.size, 3, none⟩) (Nat.le_refl _) _⟩
end Go.Proofs.YtppjodchlpapdaaDoor.PB
