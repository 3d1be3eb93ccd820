/- row.ReadHop answers as row_ReadHop.f says. Conditions: row_ReadHop.f has an answer. The reference's Dec gives the decimal numeral, and its Texts what row.Texts gives. Conditions: sizes stay below 2^47. row.Split of row.Texts gives the texts again; a numeral is read as its number. Conditions: sizes stay in bounds. -/
import Derived.Test.YtppjodchlpapdaaDoorJGU0
import Derived.Lib.SlicesS
import Derived.Lib.ParseIntBCases
import Derived.Lib.ItoaLen
-- By a program of this session (printx.py), out of Lean's own print of the translation. Not trusted: Lean checks it.
namespace Go.Proofs.YtppjodchlpapdaaDoor.PB
open Go.RowKit Go.Proofs.YtppjodchlpapdaaDoorW.PrintWords Go.Proofs.YtppjodchlpapdaaDoorW.PrintLast Go.Proofs.YtppjodchlpapdaaDoorW.PrintMore
attribute [local go_sem] max2_int min2_int max_two min_two max_three min_three max_four min_four   -- for this text's walks alone
set_option linter.unusedVariables false
set_option linter.unusedSimpArgs false

/-! ### row_Hop: function 14 -/
def row_Hop.f (a0_0 : Int) (a0_1 : Int) (a0_2 : Int) (a0_3 : Int) (a0_4 : Int) : Option (ByteArray) := (row_addr.f a0_0).bind fun t141 => ((row_num.f a0_1).bind fun t142 => ((row_addr.f a0_2).bind fun t143 => ((row_num.f a0_3).bind fun t144 => ((row_num.f a0_4).bind fun t145 => ((row_Texts.f (([t141, t142, t143, t144, t145] : List ByteArray))).bind fun t149 => (some t149))))))
def row_Hop.T1 : Bool × List (List Nat × List Nat) := (true, [([], []), ([0], [0]), ([1], [1]), ([2], [2]), ([], []), ([4], [4]), ([5], [5]), ([6, 3], [6]), ([], []), ([8], [8]), ([9, 7], [9]), ([], []), ([11], [11]), ([12, 10], [12]), ([], []), ([14], [14]), ([15, 13], [15]), ([3, 7, 10, 13, 16], [3, 7, 10, 13, 16]), ([17, 16], [17]), ([18, 18, 0, 1, 2, 3, 4, 5, 6, 7, 8, 9, 10, 11, 12, 13, 14, 15, 16, 17, 18], [18])])
def row_Hop.B1 : List Nat := [0, 1, 3, 7, 0, 16, 48, 127, 0, 256, 1023, 0, 2048, 8191, 0, 16384, 65535, 131071, 262143, 524287]
theorem row_Hop.tab1 : rtab .any (opsOf Tryd.f14 1) = row_Hop.T1 := by kernel_rfl
theorem row_Hop.bits1 : waitsOk row_Hop.T1.2 row_Hop.B1 = true := by kernel_rfl
set_option maxHeartbeats 8000000 in
set_option maxRecDepth 100000 in
theorem row_Hop.calls (a0_0 : Int) (a0_1 : Int) (a0_2 : Int) (a0_3 : Int) (a0_4 : Int) (r : ByteArray) (w : World) (hV : VarsOk w) (h : row_Hop.f a0_0 a0_1 a0_2 a0_3 a0_4 = some r) :
    Calls Tryd.prog 14 #[.agg #[.int .u32 a0_0, .int .i64 a0_1, .int .u32 a0_2, .int .i64 a0_3, .int .i64 a0_4]] w fun e w' => e = .returned (.string r) ∧ Below w.heap.size w w' := by
  have hu35 := Tryd.underlying35
  have HV := Aside0.mk hV
  clear hV
  have HB := Aside0.mk (Below.refl w.heap.size w)
  have H : ((row_addr.f a0_0).bind fun t141 => ((row_num.f a0_1).bind fun t142 => ((row_addr.f a0_2).bind fun t143 => ((row_num.f a0_3).bind fun t144 => ((row_num.f a0_4).bind fun t145 => ((row_Texts.f (([t141, t142, t143, t144, t145] : List ByteArray))).bind fun t149 => (some t149))))))) = some r := h
  clear h
  replace H := Option.bind_eq_some_iff.mp H
  obtain ⟨t141, A20, H⟩ := H
  replace H : ((row_num.f a0_1).bind fun t142 => ((row_addr.f a0_2).bind fun t143 => ((row_num.f a0_3).bind fun t144 => ((row_num.f a0_4).bind fun t145 => ((row_Texts.f (([t141, t142, t143, t144, t145] : List ByteArray))).bind fun t149 => (some t149)))))) = some r := H
  have A2 := Aside0.mk A20
  clear A20
  replace H := Option.bind_eq_some_iff.mp H
  obtain ⟨t142, A30, H⟩ := H
  replace H : ((row_addr.f a0_2).bind fun t143 => ((row_num.f a0_3).bind fun t144 => ((row_num.f a0_4).bind fun t145 => ((row_Texts.f (([t141, t142, t143, t144, t145] : List ByteArray))).bind fun t149 => (some t149))))) = some r := H
  have A3 := Aside0.mk A30
  clear A30
  replace H := Option.bind_eq_some_iff.mp H
  obtain ⟨t143, A40, H⟩ := H
  replace H : ((row_num.f a0_3).bind fun t144 => ((row_num.f a0_4).bind fun t145 => ((row_Texts.f (([t141, t142, t143, t144, t145] : List ByteArray))).bind fun t149 => (some t149)))) = some r := H
  have A4 := Aside0.mk A40
  clear A40
  replace H := Option.bind_eq_some_iff.mp H
  obtain ⟨t144, A50, H⟩ := H
  replace H : ((row_num.f a0_4).bind fun t145 => ((row_Texts.f (([t141, t142, t143, t144, t145] : List ByteArray))).bind fun t149 => (some t149))) = some r := H
  have A5 := Aside0.mk A50
  clear A50
  replace H := Option.bind_eq_some_iff.mp H
  obtain ⟨t145, A60, H⟩ := H
  replace H : ((row_Texts.f (([t141, t142, t143, t144, t145] : List ByteArray))).bind fun t149 => (some t149)) = some r := H
  have A6 := Aside0.mk A60
  clear A60
  obtain ⟨y146, hy146⟩ : ∃ y_ : List ByteArray, y_ = (([t141, t142, t143, t144, t145] : List ByteArray)) := ⟨_, rfl⟩
  replace H : ((row_Texts.f y146).bind fun t149 => (some t149)) = some r := by first | (rw [hy146]; with_reducible exact H) | (have H2_ := (Option.bind_some _ _).symm.trans H; rw [hy146]; with_reducible exact H2_) | (have H2_ := (Option.bind_some _ _).symm.trans H; with_reducible exact H2_) | with_reducible exact H | (rw [hy146]; exact H) | exact H
  have Ny146 := Aside0.mk hy146
  clear hy146
  replace H := Option.bind_eq_some_iff.mp H
  obtain ⟨t149, A70, H⟩ := H
  replace H : (some t149) = some r := H
  have A7 := Aside0.mk A70
  clear A70
  obtain rfl := Option.some.inj H
  go_enter Tryd.func14, Tryd.ntmps14
  try go_wp2_with (first | ((with_reducible refine gate_dst (N := 1) rfl ?_); refine box_event ?hg (N := 1) ?hd (cs := #[.int .u32 a0_0, .int .i64 a0_1, .int .u32 a0_2, .int .i64 a0_3, .int .i64 a0_4]) (t := 35) ?hr ?_; (case hd => rfl); (case hg => rfl); (case hr => first | (go_simp; done) | (go_simp; rfl) | (go_simp; simp [IntKind.wrap_u8]; done)); intro gb140 hg w8 hbox hb; have n0_ := Aside0.mk (below_step (by repeat (first | (with_reducible first | exact HB.out | apply below_alloc | apply pw_below_drewN | apply below_drew1) | exact HB.out)) hb); have n1_ := Aside0.mk (hbox); have n2_ := Aside0.mk ((by rw [hg]; exact (below_size (by repeat (first | (with_reducible first | exact HB.out | apply below_alloc | apply pw_below_drewN | apply below_drew1) | exact HB.out))) : w.heap.size ≤ gb140)); have n3_ := Aside0.mk ((by rw [hg]; exact (below_size (by repeat (first | (with_reducible first | exact HB.out | apply below_alloc | apply pw_below_drewN | apply below_drew1) | exact HB.out))) : w.heap.size ≤ gb140)); clear HB; have HB := n0_; have BK140 := n1_; have GW140 := n2_; have GE140 := n3_; clear n0_ n1_ n2_ n3_; clear hb hbox hg))
  have n0_ := Aside0.mk (blk_drew BK140.out)
  have n1_ := Aside0.mk (below_drew1 HB.out)
  clear BK140
  clear HB
  have BK140 := n0_
  have HB := n1_
  clear n0_ n1_
  refine start_ (n := 20) (S := fun w' => w'.cell? ⟨gb140, 0, none⟩ = some (.int .u32 a0_0) ∧ w'.cell? ⟨gb140, 1, none⟩ = some (.int .i64 a0_1) ∧ w'.cell? ⟨gb140, 2, none⟩ = some (.int .u32 a0_2) ∧ w'.cell? ⟨gb140, 3, none⟩ = some (.int .i64 a0_3) ∧ w'.cell? ⟨gb140, 4, none⟩ = some (.int .i64 a0_4)) (ds := []) #[false, false, false, false, false, false, false, false, false, false, false, false, false, false, false, false, false, false, false, false] (by kernel_rfl) rfl rfl ⟨(blk_cell BK140.out 0).trans rfl, (blk_cell BK140.out 1).trans rfl, (blk_cell BK140.out 2).trans rfl, (blk_cell BK140.out 3).trans rfl, (blk_cell BK140.out 4).trans rfl⟩ (fun hHeld => ?_); refine with_tabW row_Hop.tab1 row_Hop.bits1 (fun HT_ HW_ => ?_)
  generalize w8.drew = w9 at BK140 HB hHeld ⊢
  refine pure_ (i := 0) (N := some 3) (v := ?_) (a' := ?_) #[true, false, false, false, false, false, false, false, false, false, false, false, false, false, false, false, false, false, false, false] rfl rfl (any_of HT_.out (by kernel_rfl)) (fun _ _ _ h => h) (Or.inl ⟨by rfl, ?_⟩) ?_ ?_
  rotate_left
  · intro w'
    go_simp
    with_reducible rfl
  rotate_left
  · simp only [Act.put, List.setIfInBounds_toArray, List.set_cons_zero, List.set_cons_succ, i64_w, i32_w]
    rfl
  refine pure_ (i := 1) (N := some 4) (v := ?_) (a' := ?_) #[true, true, false, false, false, false, false, false, false, false, false, false, false, false, false, false, false, false, false, false] rfl rfl (any_of HT_.out (by kernel_rfl)) (fun _ _ _ h => h) (Or.inl ⟨by rfl, ?_⟩) ?_ ?_
  rotate_left
  · intro w'
    go_simp
    with_reducible rfl
  rotate_left
  · simp only [Act.put, List.setIfInBounds_toArray, List.set_cons_zero, List.set_cons_succ, i64_w, i32_w]
    rfl
  refine pure_ (i := 4) (N := some 7) (v := ?_) (a' := ?_) #[true, true, false, false, true, false, false, false, false, false, false, false, false, false, false, false, false, false, false, false] rfl rfl (any_of HT_.out (by kernel_rfl)) (fun _ _ _ h => h) (Or.inl ⟨by rfl, ?_⟩) ?_ ?_
  rotate_left
  · intro w'
    go_simp
    with_reducible rfl
  rotate_left
  · simp only [Act.put, List.setIfInBounds_toArray, List.set_cons_zero, List.set_cons_succ, i64_w, i32_w]
    rfl
  refine pure_ (i := 5) (N := some 8) (v := ?_) (a' := ?_) #[true, true, false, false, true, true, false, false, false, false, false, false, false, false, false, false, false, false, false, false] rfl rfl (any_of HT_.out (by kernel_rfl)) (fun _ _ _ h => h) (Or.inl ⟨by rfl, ?_⟩) ?_ ?_
  rotate_left
  · intro w'
    go_simp
    with_reducible rfl
  rotate_left
  · simp only [Act.put, List.setIfInBounds_toArray, List.set_cons_zero, List.set_cons_succ, i64_w, i32_w]
    rfl
  refine pure_ (i := 8) (N := some 11) (v := ?_) (a' := ?_) #[true, true, false, false, true, true, false, false, true, false, false, false, false, false, false, false, false, false, false, false] rfl rfl (any_of HT_.out (by kernel_rfl)) (fun _ _ _ h => h) (Or.inl ⟨by rfl, ?_⟩) ?_ ?_
  rotate_left
  · intro w'
    go_simp
    with_reducible rfl
  rotate_left
  · simp only [Act.put, List.setIfInBounds_toArray, List.set_cons_zero, List.set_cons_succ, i64_w, i32_w]
    rfl
  refine pure_ (i := 11) (N := some 14) (v := ?_) (a' := ?_) #[true, true, false, false, true, true, false, false, true, false, false, true, false, false, false, false, false, false, false, false] rfl rfl (any_of HT_.out (by kernel_rfl)) (fun _ _ _ h => h) (Or.inl ⟨by rfl, ?_⟩) ?_ ?_
  rotate_left
  · intro w'
    go_simp
    with_reducible rfl
  rotate_left
  · simp only [Act.put, List.setIfInBounds_toArray, List.set_cons_zero, List.set_cons_succ, i64_w, i32_w]
    rfl
  refine pure_ (i := 14) (N := some 17) (v := ?_) (a' := ?_) #[true, true, false, false, true, true, false, false, true, false, false, true, false, false, true, false, false, false, false, false] rfl rfl (any_of HT_.out (by kernel_rfl)) (fun _ _ _ h => h) (Or.inl ⟨by rfl, ?_⟩) ?_ ?_
  rotate_left
  · intro w'
    go_simp
    with_reducible rfl
  rotate_left
  · simp only [Act.put, List.setIfInBounds_toArray, List.set_cons_zero, List.set_cons_succ, i64_w, i32_w]
    rfl
  refine take_ (i := 2) (N := some 5) (v := ?_) (a' := ?_) #[true, true, true, false, true, true, false, false, true, false, false, true, false, false, true, false, false, false, false, false] rfl rfl (take_ofW HT_.out HW_.out (by kernel_rfl)) (fun _ _ _ h => h) (Or.inl ⟨by rfl, ?_⟩) hHeld ?_ ?_
  rotate_left
  · rintro w' ⟨s0, s1, s2, s3, s4⟩
    go_simp
    with_reducible rfl
  rotate_left
  · simp only [Act.put, List.setIfInBounds_toArray, List.set_cons_zero, List.set_cons_succ, i64_w, i32_w]
    rfl
  refine take_ (i := 6) (N := some 9) (v := ?_) (a' := ?_) #[true, true, true, false, true, true, true, false, true, false, false, true, false, false, true, false, false, false, false, false] rfl rfl (take_ofW HT_.out HW_.out (by kernel_rfl)) (fun _ _ _ h => h) (Or.inl ⟨by rfl, ?_⟩) hHeld ?_ ?_
  rotate_left
  · rintro w' ⟨s0, s1, s2, s3, s4⟩
    go_simp
    with_reducible rfl
  rotate_left
  · simp only [Act.put, List.setIfInBounds_toArray, List.set_cons_zero, List.set_cons_succ, i64_w, i32_w]
    rfl
  refine take_ (i := 9) (N := some 12) (v := ?_) (a' := ?_) #[true, true, true, false, true, true, true, false, true, true, false, true, false, false, true, false, false, false, false, false] rfl rfl (take_ofW HT_.out HW_.out (by kernel_rfl)) (fun _ _ _ h => h) (Or.inl ⟨by rfl, ?_⟩) hHeld ?_ ?_
  rotate_left
  · rintro w' ⟨s0, s1, s2, s3, s4⟩
    go_simp
    with_reducible rfl
  rotate_left
  · simp only [Act.put, List.setIfInBounds_toArray, List.set_cons_zero, List.set_cons_succ, i64_w, i32_w]
    rfl
  refine take_ (i := 12) (N := some 15) (v := ?_) (a' := ?_) #[true, true, true, false, true, true, true, false, true, true, false, true, true, false, true, false, false, false, false, false] rfl rfl (take_ofW HT_.out HW_.out (by kernel_rfl)) (fun _ _ _ h => h) (Or.inl ⟨by rfl, ?_⟩) hHeld ?_ ?_
  rotate_left
  · rintro w' ⟨s0, s1, s2, s3, s4⟩
    go_simp
    with_reducible rfl
  rotate_left
  · simp only [Act.put, List.setIfInBounds_toArray, List.set_cons_zero, List.set_cons_succ, i64_w, i32_w]
    rfl
  refine take_ (i := 15) (N := some 18) (v := ?_) (a' := ?_) #[true, true, true, false, true, true, true, false, true, true, false, true, true, false, true, true, false, false, false, false] rfl rfl (take_ofW HT_.out HW_.out (by kernel_rfl)) (fun _ _ _ h => h) (Or.inl ⟨by rfl, ?_⟩) hHeld ?_ ?_
  rotate_left
  · rintro w' ⟨s0, s1, s2, s3, s4⟩
    go_simp
    with_reducible rfl
  rotate_left
  · simp only [Act.put, List.setIfInBounds_toArray, List.set_cons_zero, List.set_cons_succ, i64_w, i32_w]
    rfl
  refine one_ (i := 3) (N := some 6) #[true, true, true, true, true, true, true, false, true, true, false, true, true, false, true, true, false, false, false, false] rfl rfl (one_of HT_.out (by kernel_rfl)) (by decide) (fun K hK => ?_)
  refine goes_ Tryd.func28 (by kernel_rfl) rfl #[.int .u32 a0_0] (by rfl) rfl rfl (by (try simp only [List.map_toArray, List.map_cons, List.map_nil]); first | done | rfl | (simp only [List.length_drop, List.length_take]; rfl)) ?_
  with_reducible refine (row_addr.calls a0_0 t141 _ ?side1 A2.out).mono ?_
  (case side1 => exact VarsOk.below HV.out (by repeat (first | (with_reducible first | exact HB.out | apply below_alloc | apply pw_below_drewN | apply below_drew1 | refine below_set ?_ GE140.out) | exact HB.out)))
  rintro e w10 ⟨rfl, hb⟩
  refine ⟨_, rfl, ?_⟩
  have n0_ := Aside0.mk (blk_below (g := gb140) (o := .cells #[.int .u32 a0_0, .int .i64 a0_1, .int .u32 a0_2, .int .i64 a0_3, .int .i64 a0_4] 35 (0, 0)) (by (with_reducible repeat (first | refine blk_drewN ?_ _ | refine blk_drew ?_ | refine blk_alloc ?_ _)); exact BK140.out) hb)
  have n1_ := Aside0.mk (below_step (by repeat (first | (with_reducible first | exact HB.out | apply below_alloc | apply pw_below_drewN | apply below_drew1 | refine below_set ?_ GE140.out) | exact HB.out)) hb)
  clear BK140
  clear HB
  have BK140 := n0_
  have HB := n1_
  clear n0_ n1_
  (try clear hb)
  (try clear hb2)
  (try clear hk)
  (try clear hi)
  refine hK.out _ _ ⟨(blk_cell BK140.out 0).trans rfl, (blk_cell BK140.out 1).trans rfl, (blk_cell BK140.out 2).trans rfl, (blk_cell BK140.out 3).trans rfl, (blk_cell BK140.out 4).trans rfl⟩ (fun hHeld => ?_)
  clear hK K
  refine norm_ (a' := ?_) ?_ ?_
  rotate_left
  · show Act.put _ (some 6) _ = _
    simp only [Act.put, List.setIfInBounds_toArray, List.set_cons_zero, List.set_cons_succ, i64_w, i32_w]
    rfl
  refine one_ (i := 7) (N := some 10) #[true, true, true, true, true, true, true, true, true, true, false, true, true, false, true, true, false, false, false, false] rfl rfl (one_of HT_.out (by kernel_rfl)) (by decide) (fun K hK => ?_)
  refine goes_ Tryd.func29 (by kernel_rfl) rfl #[.int .i64 a0_1] (by rfl) rfl rfl (by (try simp only [List.map_toArray, List.map_cons, List.map_nil]); first | done | rfl | (simp only [List.length_drop, List.length_take]; rfl)) ?_
  with_reducible refine (row_num.calls a0_1 t142 _ ?side1 A3.out).mono ?_
  (case side1 => exact VarsOk.below HV.out (by repeat (first | (with_reducible first | exact HB.out | apply below_alloc | apply pw_below_drewN | apply below_drew1 | refine below_set ?_ GE140.out) | exact HB.out)))
  rintro e w11 ⟨rfl, hb⟩
  refine ⟨_, rfl, ?_⟩
  have n0_ := Aside0.mk (blk_below (g := gb140) (o := .cells #[.int .u32 a0_0, .int .i64 a0_1, .int .u32 a0_2, .int .i64 a0_3, .int .i64 a0_4] 35 (0, 0)) (by (with_reducible repeat (first | refine blk_drewN ?_ _ | refine blk_drew ?_ | refine blk_alloc ?_ _)); exact BK140.out) hb)
  have n1_ := Aside0.mk (below_step (by repeat (first | (with_reducible first | exact HB.out | apply below_alloc | apply pw_below_drewN | apply below_drew1 | refine below_set ?_ GE140.out) | exact HB.out)) hb)
  clear BK140
  clear HB
  have BK140 := n0_
  have HB := n1_
  clear n0_ n1_
  (try clear hb)
  (try clear hb2)
  (try clear hk)
  (try clear hi)
  refine hK.out _ _ ⟨(blk_cell BK140.out 0).trans rfl, (blk_cell BK140.out 1).trans rfl, (blk_cell BK140.out 2).trans rfl, (blk_cell BK140.out 3).trans rfl, (blk_cell BK140.out 4).trans rfl⟩ (fun hHeld => ?_)
  clear hK K
  refine norm_ (a' := ?_) ?_ ?_
  rotate_left
  · show Act.put _ (some 10) _ = _
    simp only [Act.put, List.setIfInBounds_toArray, List.set_cons_zero, List.set_cons_succ, i64_w, i32_w]
    rfl
  refine one_ (i := 10) (N := some 13) #[true, true, true, true, true, true, true, true, true, true, true, true, true, false, true, true, false, false, false, false] rfl rfl (one_of HT_.out (by kernel_rfl)) (by decide) (fun K hK => ?_)
  refine goes_ Tryd.func28 (by kernel_rfl) rfl #[.int .u32 a0_2] (by rfl) rfl rfl (by (try simp only [List.map_toArray, List.map_cons, List.map_nil]); first | done | rfl | (simp only [List.length_drop, List.length_take]; rfl)) ?_
  with_reducible refine (row_addr.calls a0_2 t143 _ ?side1 A4.out).mono ?_
  (case side1 => exact VarsOk.below HV.out (by repeat (first | (with_reducible first | exact HB.out | apply below_alloc | apply pw_below_drewN | apply below_drew1 | refine below_set ?_ GE140.out) | exact HB.out)))
  rintro e w12 ⟨rfl, hb⟩
  refine ⟨_, rfl, ?_⟩
  have n0_ := Aside0.mk (blk_below (g := gb140) (o := .cells #[.int .u32 a0_0, .int .i64 a0_1, .int .u32 a0_2, .int .i64 a0_3, .int .i64 a0_4] 35 (0, 0)) (by (with_reducible repeat (first | refine blk_drewN ?_ _ | refine blk_drew ?_ | refine blk_alloc ?_ _)); exact BK140.out) hb)
  have n1_ := Aside0.mk (below_step (by repeat (first | (with_reducible first | exact HB.out | apply below_alloc | apply pw_below_drewN | apply below_drew1 | refine below_set ?_ GE140.out) | exact HB.out)) hb)
  clear BK140
  clear HB
  have BK140 := n0_
  have HB := n1_
  clear n0_ n1_
  (try clear hb)
  (try clear hb2)
  (try clear hk)
  (try clear hi)
  refine hK.out _ _ ⟨(blk_cell BK140.out 0).trans rfl, (blk_cell BK140.out 1).trans rfl, (blk_cell BK140.out 2).trans rfl, (blk_cell BK140.out 3).trans rfl, (blk_cell BK140.out 4).trans rfl⟩ (fun hHeld => ?_)
  clear hK K
  refine norm_ (a' := ?_) ?_ ?_
  rotate_left
  · show Act.put _ (some 13) _ = _
    simp only [Act.put, List.setIfInBounds_toArray, List.set_cons_zero, List.set_cons_succ, i64_w, i32_w]
    rfl
  refine one_ (i := 13) (N := some 16) #[true, true, true, true, true, true, true, true, true, true, true, true, true, true, true, true, false, false, false, false] rfl rfl (one_of HT_.out (by kernel_rfl)) (by decide) (fun K hK => ?_)
  refine goes_ Tryd.func29 (by kernel_rfl) rfl #[.int .i64 a0_3] (by rfl) rfl rfl (by (try simp only [List.map_toArray, List.map_cons, List.map_nil]); first | done | rfl | (simp only [List.length_drop, List.length_take]; rfl)) ?_
  with_reducible refine (row_num.calls a0_3 t144 _ ?side1 A5.out).mono ?_
  (case side1 => exact VarsOk.below HV.out (by repeat (first | (with_reducible first | exact HB.out | apply below_alloc | apply pw_below_drewN | apply below_drew1 | refine below_set ?_ GE140.out) | exact HB.out)))
  rintro e w13 ⟨rfl, hb⟩
  refine ⟨_, rfl, ?_⟩
  have n0_ := Aside0.mk (blk_below (g := gb140) (o := .cells #[.int .u32 a0_0, .int .i64 a0_1, .int .u32 a0_2, .int .i64 a0_3, .int .i64 a0_4] 35 (0, 0)) (by (with_reducible repeat (first | refine blk_drewN ?_ _ | refine blk_drew ?_ | refine blk_alloc ?_ _)); exact BK140.out) hb)
  have n1_ := Aside0.mk (below_step (by repeat (first | (with_reducible first | exact HB.out | apply below_alloc | apply pw_below_drewN | apply below_drew1 | refine below_set ?_ GE140.out) | exact HB.out)) hb)
  clear BK140
  clear HB
  have BK140 := n0_
  have HB := n1_
  clear n0_ n1_
  (try clear hb)
  (try clear hb2)
  (try clear hk)
  (try clear hi)
  refine hK.out _ _ ⟨(blk_cell BK140.out 0).trans rfl, (blk_cell BK140.out 1).trans rfl, (blk_cell BK140.out 2).trans rfl, (blk_cell BK140.out 3).trans rfl, (blk_cell BK140.out 4).trans rfl⟩ (fun hHeld => ?_)
  clear hK K
  refine norm_ (a' := ?_) ?_ ?_
  rotate_left
  · show Act.put _ (some 16) _ = _
    simp only [Act.put, List.setIfInBounds_toArray, List.set_cons_zero, List.set_cons_succ, i64_w, i32_w]
    rfl
  refine one_ (i := 16) (N := some 19) #[true, true, true, true, true, true, true, true, true, true, true, true, true, true, true, true, true, false, false, false] rfl rfl (one_of HT_.out (by kernel_rfl)) (by decide) (fun K hK => ?_)
  refine goes_ Tryd.func29 (by kernel_rfl) rfl #[.int .i64 a0_4] (by rfl) rfl rfl (by (try simp only [List.map_toArray, List.map_cons, List.map_nil]); first | done | rfl | (simp only [List.length_drop, List.length_take]; rfl)) ?_
  with_reducible refine (row_num.calls a0_4 t145 _ ?side1 A6.out).mono ?_
  (case side1 => exact VarsOk.below HV.out (by repeat (first | (with_reducible first | exact HB.out | apply below_alloc | apply pw_below_drewN | apply below_drew1 | refine below_set ?_ GE140.out) | exact HB.out)))
  rintro e w14 ⟨rfl, hb⟩
  refine ⟨_, rfl, ?_⟩
  have n0_ := Aside0.mk (blk_below (g := gb140) (o := .cells #[.int .u32 a0_0, .int .i64 a0_1, .int .u32 a0_2, .int .i64 a0_3, .int .i64 a0_4] 35 (0, 0)) (by (with_reducible repeat (first | refine blk_drewN ?_ _ | refine blk_drew ?_ | refine blk_alloc ?_ _)); exact BK140.out) hb)
  have n1_ := Aside0.mk (below_step (by repeat (first | (with_reducible first | exact HB.out | apply below_alloc | apply pw_below_drewN | apply below_drew1 | refine below_set ?_ GE140.out) | exact HB.out)) hb)
  clear BK140
  clear HB
  have BK140 := n0_
  have HB := n1_
  clear n0_ n1_
  (try clear hb)
  (try clear hb2)
  (try clear hk)
  (try clear hi)
  refine hK.out _ _ ⟨(blk_cell BK140.out 0).trans rfl, (blk_cell BK140.out 1).trans rfl, (blk_cell BK140.out 2).trans rfl, (blk_cell BK140.out 3).trans rfl, (blk_cell BK140.out 4).trans rfl⟩ (fun hHeld => ?_)
  clear hK K
  refine norm_ (a' := ?_) ?_ ?_
  rotate_left
  · show Act.put _ (some 19) _ = _
    simp only [Act.put, List.setIfInBounds_toArray, List.set_cons_zero, List.set_cons_succ, i64_w, i32_w]
    rfl
  refine one_ (i := 17) (N := some 20) #[true, true, true, true, true, true, true, true, true, true, true, true, true, true, true, true, true, true, false, false] rfl rfl (one_of HT_.out (by kernel_rfl)) (by decide) (fun K hK => ?_)
  refine Kd.R_lit_step Kd.string _ 9 ?hg (N := 20) ?hd (xs := ([t141, t142, t143, t144, t145] : List ByteArray)) (inner := [.string t141, .string t142, .string t143, .string t144, .string t145]) (ok := fun _ => True) (okp := fun _ => True) ?hr ?hp (fun _ hk => hk) trivial (Below.refl _ _) (Nat.le_refl _) (by simp) ?_; (case hd => rfl); (case hg => rfl); (case hr => first | (go_simp; done) | (go_simp; rfl) | (go_simp; simp [IntKind.wrap_u8]; done)); (case hp => exact (Reps.one (show Kd.M Kd.string _ _ _ t141 [.string t141] from rfl) (Reps.one (show Kd.M Kd.string _ _ _ t142 [.string t142] from rfl) (Reps.one (show Kd.M Kd.string _ _ _ t143 [.string t143] from rfl) (Reps.one (show Kd.M Kd.string _ _ _ t144 [.string t144] from rfl) (Reps.one (show Kd.M Kd.string _ _ _ t145 [.string t145] from rfl) (Reps.none _ _)))))))
  intro v147 w15 ho16 hb hg_ hnew_
  clear hg_ hnew_
  (first | rw [← Ny146.out] at ho16 | (simp only [Int.reduceToNat] at ho16; rw [← Ny146.out] at ho16))
  have n0_ := Aside0.mk (Kd.R_lower ho16 (below_size (by repeat (first | (with_reducible first | exact HB.out | apply below_alloc | apply pw_below_drewN | apply below_drew1 | refine below_set ?_ GE140.out) | exact HB.out))))
  have n1_ := Aside0.mk (blk_below (g := gb140) (o := .cells #[.int .u32 a0_0, .int .i64 a0_1, .int .u32 a0_2, .int .i64 a0_3, .int .i64 a0_4] 35 (0, 0)) (by (with_reducible repeat (first | refine blk_drewN ?_ _ | refine blk_drew ?_ | refine blk_alloc ?_ _)); exact BK140.out) hb)
  have n2_ := Aside0.mk (below_step (by repeat (first | (with_reducible first | exact HB.out | apply below_alloc | apply pw_below_drewN | apply below_drew1 | refine below_set ?_ GE140.out) | exact HB.out)) hb)
  clear BK140
  clear HB
  have HO148 := n0_
  have BK140 := n1_
  have HB := n2_
  clear n0_ n1_ n2_
  clear hb ho16
  obtain ⟨Ao17, co17, eo17⟩ := Kd.R_slice HO148.out
  (first | subst eo17 | (injection eo17 with f1_ f2_ f3_; have f4_ := f1_.symm; have f5_ := f3_.symm; clear f1_ f2_ f3_; subst f4_; subst f5_))
  refine hK.out _ _ ⟨(blk_cell BK140.out 0).trans rfl, (blk_cell BK140.out 1).trans rfl, (blk_cell BK140.out 2).trans rfl, (blk_cell BK140.out 3).trans rfl, (blk_cell BK140.out 4).trans rfl⟩ (fun hHeld => ?_)
  clear hK K
  refine norm_ (a' := ?_) ?_ ?_
  rotate_left
  · show Act.put _ (some 20) _ = _
    simp only [Act.put, List.setIfInBounds_toArray, List.set_cons_zero, List.set_cons_succ, i64_w, i32_w]
    rfl
  refine one_ (i := 18) (N := some 21) #[true, true, true, true, true, true, true, true, true, true, true, true, true, true, true, true, true, true, true, false] rfl rfl (one_of HT_.out (by kernel_rfl)) (by decide) (fun K hK => ?_)
  refine goes_ Tryd.func9 (by kernel_rfl) rfl #[.slice Ao17 y146.length co17] (by rfl) rfl rfl (by (try simp only [List.map_toArray, List.map_cons, List.map_nil]); first | done | rfl | (simp only [List.length_drop, List.length_take]; rfl)) ?_
  with_reducible refine (row_Texts.calls _ _ y146 t149 _ ?side1 ?side2 ?side3 A7.out).mono ?_
  (case side1 => exact VarsOk.below HV.out (by repeat (first | (with_reducible first | exact HB.out | apply below_alloc | apply pw_below_drewN | apply below_drew1 | refine below_set ?_ GE140.out) | exact HB.out)))
  (case side2 => repeat (first | exact (Kd.R_reads' HO148.out).2.2 | (with_reducible refine Kd.C_alloc ?_ _) | (with_reducible refine Kd.C_drewN ?_ _) | (with_reducible refine Kd.C_drew ?_)))
  (case side3 => exact (Kd.R_reads' HO148.out).2.1)
  rintro e w18 ⟨rfl, hb⟩
  refine ⟨_, rfl, ?_⟩
  have n0_ := Aside0.mk (Kd.R_below (by (with_reducible repeat (first | apply Kd.R_alloc | apply Kd.R_drewN | apply Kd.R_drew)); exact HO148.out) hb)
  have n1_ := Aside0.mk (blk_below (g := gb140) (o := .cells #[.int .u32 a0_0, .int .i64 a0_1, .int .u32 a0_2, .int .i64 a0_3, .int .i64 a0_4] 35 (0, 0)) (by (with_reducible repeat (first | refine blk_drewN ?_ _ | refine blk_drew ?_ | refine blk_alloc ?_ _)); exact BK140.out) hb)
  have n2_ := Aside0.mk (below_step (by repeat (first | (with_reducible first | exact HB.out | apply below_alloc | apply pw_below_drewN | apply below_drew1 | refine below_set ?_ GE140.out) | exact HB.out)) hb)
  clear HO148
  clear BK140
  clear HB
  have HO148 := n0_
  have BK140 := n1_
  have HB := n2_
  clear n0_ n1_ n2_
  (try clear hb)
  (try clear hb2)
  (try clear hk)
  (try clear hi)
  refine hK.out _ _ ⟨(blk_cell BK140.out 0).trans rfl, (blk_cell BK140.out 1).trans rfl, (blk_cell BK140.out 2).trans rfl, (blk_cell BK140.out 3).trans rfl, (blk_cell BK140.out 4).trans rfl⟩ (fun hHeld => ?_)
  clear hK K
  refine norm_ (a' := ?_) ?_ ?_
  rotate_left
  · show Act.put _ (some 21) _ = _
    simp only [Act.put, List.setIfInBounds_toArray, List.set_cons_zero, List.set_cons_succ, i64_w, i32_w]
    rfl
  refine pure_ (i := 19) (N := some 2) (v := ?_) (a' := ?_) #[true, true, true, true, true, true, true, true, true, true, true, true, true, true, true, true, true, true, true, true] rfl rfl (any_of HT_.out (by kernel_rfl)) (fun _ _ _ h => h) (Or.inl ⟨by rfl, ?_⟩) ?_ ?_
  rotate_left
  · intro w'
    go_simp
    with_reducible rfl
  rotate_left
  · simp only [Act.put, List.setIfInBounds_toArray, List.set_cons_zero, List.set_cons_succ, i64_w, i32_w]
    rfl
  refine done_ (done_of HT_.out (by kernel_rfl)) ?_
  try go_wp2
  go_ret
  exact ⟨by first | rfl | (simp [errW_none, errW_some] <;> rfl) | (simp [*, errW_none, errW_some] <;> rfl), by repeat (first | (with_reducible first | exact HB.out | apply below_alloc | apply pw_below_drewN | apply below_drew1 | refine below_set ?_ GE140.out) | exact HB.out)⟩

end Go.Proofs.YtppjodchlpapdaaDoor.PB

namespace Go.Proofs.YtppjodchlpapdaaDoor.PB
open Go.RowKit Go.Sort Go.Lib Go.Proofs Go.Proofs.YtppjodchlpapdaaDoor Go.Proofs.YtppjodchlpapdaaDoorW.PrintWords
set_option linter.unusedVariables false
set_option linter.unusedSimpArgs false

theorem splitGo_sizes : ∀ (g : Nat) (rest : ByteArray) (out : List ByteArray) (M : Nat), rest.size ≤ M → (∀ x ∈ out, x.size ≤ M) → ∀ x ∈ (splitGo g rest out).1, x.size ≤ M
  | 0, rest, out, M, h, ho, x, hx => ho x hx
  | g + 1, rest, out, M, h, ho, x, hx => by
    unfold splitGo at hx
    split at hx
    · exact ho x hx
    · split at hx
      · cases hx
      · rename_i n hn
        have ht := tail_size rest
        refine splitGo_sizes g _ _ M ?_ ?_ x hx
        · rw [ByteArray.size_extract]; omega
        · intro y hy
          rcases List.mem_append.1 hy with hy | hy
          · exact ho y hy
          · rw [List.mem_singleton.1 hy, ByteArray.size_extract]; omega

def hopBad (l : List ByteArray) (bad : Bool) : Bool :=
  badNum l.tail.tail.tail.tail (badNum l.tail.tail.tail (badAddr l.tail.tail (badNum l.tail (badAddr l bad))))

def row_ReadHop.f (a0 : ByteArray) : Option (Int × Int × Int × Int × Int × Bool) :=
  if a0.size < 4294967281 then
    if hopBad (splitGo a0.size a0 []).1 (openBad (splitGo a0.size a0 []).2 (splitGo a0.size a0 []).1.length 5) then some (0, 0, 0, 0, 0, false)
    else (row_Hop.f ((addrV (headV (splitGo a0.size a0 []).1)).getD 0) ((numV (headV (splitGo a0.size a0 []).1.tail)).getD 0) ((addrV (headV (splitGo a0.size a0 []).1.tail.tail)).getD 0) ((numV (headV (splitGo a0.size a0 []).1.tail.tail.tail)).getD 0) ((numV (headV (splitGo a0.size a0 []).1.tail.tail.tail.tail)).getD 0)).bind fun t =>
      if t = a0 then some ((addrV (headV (splitGo a0.size a0 []).1)).getD 0, (numV (headV (splitGo a0.size a0 []).1.tail)).getD 0, (addrV (headV (splitGo a0.size a0 []).1.tail.tail)).getD 0, (numV (headV (splitGo a0.size a0 []).1.tail.tail.tail)).getD 0, (numV (headV (splitGo a0.size a0 []).1.tail.tail.tail.tail)).getD 0, true)
      else some (0, 0, 0, 0, 0, false)
  else none

theorem badAddr_false {l : List ByteArray} {b : Bool} (h : badAddr l b = false) : b = false := by
  cases b with
  | false => rfl
  | true => simp [badAddr] at h
theorem badNum_false {l : List ByteArray} {b : Bool} (h : badNum l b = false) : b = false := by
  cases b with
  | false => rfl
  | true => simp [badNum] at h

set_option maxHeartbeats 4000000 in
set_option maxRecDepth 100000 in
theorem row_ReadHop.calls (a0 : ByteArray) (r1 r2 r3 r4 r5 : Int) (r6 : Bool) (w : World) (hV : VarsOk w) (h : row_ReadHop.f a0 = some (r1, r2, r3, r4, r5, r6)) :
    Calls Tryd.prog 15 #[.string a0] w fun e w' => e = .returned (.tuple #[.agg #[.int .u32 r1, .int .i64 r2, .int .u32 r3, .int .i64 r4, .int .i64 r5], .bool r6]) ∧ Below w.heap.size w w' := by
  unfold row_ReadHop.f at h
  split at h
  · rename_i hs
    obtain ⟨l, hl⟩ : ∃ l, (splitGo a0.size a0 []).1 = l := ⟨_, rfl⟩
    obtain ⟨bad, hbad⟩ : ∃ b, openBad (splitGo a0.size a0 []).2 (splitGo a0.size a0 []).1.length 5 = b := ⟨_, rfl⟩
    have hms : ∀ x ∈ l, x.size ≤ 281474976710656 := by
      rw [← hl]
      exact splitGo_sizes _ _ _ _ (by omega) (by simp)
    have hop := fun (W : World) (hW : VarsOk W) => open_calls a0 5 hs W hW
    rw [hbad, hl] at h
    rw [hbad] at hop
    rw [hl] at hop
    have hh : ∀ l : List ByteArray, (∀ s ∈ l, s.size ≤ 281474976710656) → (headV l).size ≤ 281474976710656 := fun l hl => by
      cases l with
      | nil => exact Nat.zero_le _
      | cons a l => exact hl a (List.mem_cons_self)
    have ht : ∀ l : List ByteArray, (∀ s ∈ l, s.size ≤ 281474976710656) → (∀ s ∈ l.tail, s.size ≤ 281474976710656) := fun l hl s hs' => hl s (List.mem_of_mem_tail hs')
    have hm2 := ht _ (ht _ hms)
    have hm3 := ht _ hm2
    have hm4 := ht _ hm3
    clear hl hbad
    obtain ⟨W0, hW0⟩ : ∃ W0, W0 = w.alloc (.cells #[.int .u32 0, .int .i64 0, .int .u32 0, .int .i64 0, .int .i64 0] 35 (0, 0)) := ⟨_, rfl⟩
    have hV0 : VarsOk W0 := by rw [hW0]; exact hV.below (below_alloc (Below.refl _ _) _)
    have hbW : Below w.heap.size w W0 := by rw [hW0]; exact below_alloc (Below.refl _ _) _
    have hbk0 : W0.heap[w.heap.size]? = some (.cells #[.int .u32 0, .int .i64 0, .int .u32 0, .int .i64 0, .int .i64 0] 35 (0, 0)) := by rw [hW0]; exact blk_new w _
    have HbW := Aside0.mk hbW
    have Hbk0 := Aside0.mk hbk0
    have hlt0 : w.heap.size < W0.heap.size := (Array.getElem?_eq_some_iff.1 hbk0).1
    have hop0 := Aside0.mk (hop W0 hV0)
    have P1 := Aside0.mk (fun W N rb => prefix_calls W0 W hV0 N rb l bad hms)
    have P2 := Aside0.mk (fun W N rb => addr_calls W0 W hV0 N rb l.tail.tail (badNum l.tail (badAddr l bad)) (hh _ hm2))
    have P3 := Aside0.mk (fun W N rb => num_calls W0 W hV0 N rb l.tail.tail.tail (badAddr l.tail.tail (badNum l.tail (badAddr l bad))) (hh _ hm3))
    have P4 := Aside0.mk (fun W N rb => num_calls W0 W hV0 N rb l.tail.tail.tail.tail (badNum l.tail.tail.tail (badAddr l.tail.tail (badNum l.tail (badAddr l bad)))) (hh _ hm4))
    have H := Aside0.mk h
    clear hop hbW hbk0 hms hh ht hm2 hm3 hm4 h
    go_enter Tryd.func15, Tryd.ntmps15
    go_wp2_with (go_at_call 30; rw [← hW0]; refine hop0.out.mono ?_)
    rintro e w1 ⟨rb, rfl, ⟨N, hr1⟩, hb1⟩
    clear hop0
    go_wp2_with (go_at_call 31; refine (P1.out _ _ _ hr1 hb1).mono ?_)
    rintro e w2 ⟨v1, v2, rfl, hv12, hr2, hb2, -⟩
    have Hv12 := Aside0.mk hv12
    clear P1 hr1 hb1 hv12
    go_wp2_with (go_at_call 32; refine (P2.out _ _ _ hr2 hb2).mono ?_)
    rintro e w3 ⟨v3, rfl, hv3, hr3, hb3, -⟩
    have Hv3 := Aside0.mk hv3
    clear P2 hr2 hb2 hv3
    go_wp2_with (go_at_call 33; refine (P3.out _ _ _ hr3 hb3).mono ?_)
    rintro e w4 ⟨v4, rfl, hv4, hr4, hb4, -⟩
    have Hv4 := Aside0.mk hv4
    clear P3 hr3 hb3 hv4
    go_wp2_with (go_at_call 33; refine (P4.out _ _ _ hr4 hb4).mono ?_)
    rintro e w5 ⟨v5, rfl, hv5, hr5, hb5, -⟩
    have Hv5 := Aside0.mk hv5
    clear P4 hr4 hb4 hv5
    have hE := hb5.block _ hlt0
    have hbk5 := hE.trans Hbk0.out
    clear hE
    obtain ⟨hB, hrN, hN, A, c, hh5, -⟩ := hr5
    have hneb : w.heap.size ≠ rb := by omega
    have cb : w5.cell? ⟨rb, 1, none⟩ = some (.bool (hopBad l bad)) := (blk_cell hh5 1).trans rfl
    have a0' := (blk_cell hbk5 0).trans rfl
    have a1' := (blk_cell hbk5 1).trans rfl
    have a2' := (blk_cell hbk5 2).trans rfl
    have a3' := (blk_cell hbk5 3).trans rfl
    have a4' := (blk_cell hbk5 4).trans rfl
    have g0 := blk_frozen hbk5 0
    have g1 := blk_frozen hbk5 1
    have g2 := blk_frozen hbk5 2
    have g3 := blk_frozen hbk5 3
    have g4 := blk_frozen hbk5 4
    have hw5 : w.heap.size < w5.heap.size := Nat.lt_of_lt_of_le hlt0 hb5.size
    have hr5 : rb < w5.heap.size := Nat.lt_of_lt_of_le hrN hN
    have Hbk5 := Aside0.mk hbk5
    have Hb5 := Aside0.mk hb5
    clear hbk5 hb5 hh5 hN hrN
    obtain ⟨hbd, hhb⟩ : ∃ b, hopBad l bad = b := ⟨_, rfl⟩
    rw [hhb] at cb
    have Hhb := Aside0.mk hhb
    clear hhb
    cases hbd with
    | true =>
      have Hr := Aside0.mk (show (0, 0, 0, 0, 0, false) = (r1, r2, r3, r4, r5, r6) from by
        have h1 := H.out
        rw [if_pos Hhb.out] at h1
        exact Option.some.inj h1)
      go_wp2
      refine bodyPost_ret (results_ct rfl _ _ w.heap.size 35 #[.int .u32 0, .int .i64 0, .int .u32 0, .int .i64 0, .int .i64 0] (0, 0) _ rfl (blk_alloc (blk_put (cs := #[.int .u32 0, .int .i64 0, .int .u32 0, .int .i64 0, .int .i64 0]) (blk_put (cs := #[.int .u32 0, .int .i64 0, .int .u32 0, .int .i64 0, .int .i64 0]) (blk_put (cs := #[.int .u32 0, .int .i64 0, .int .u32 0, .int .i64 0, .int .i64 0]) (blk_put (cs := #[.int .u32 0, .int .i64 0, .int .u32 0, .int .i64 0, .int .i64 0]) (blk_put (cs := #[.int .u32 0, .int .i64 0, .int .u32 0, .int .i64 0, .int .i64 0]) Hbk5.out 0 _ rfl) 1 _ rfl) 2 _ rfl) 3 _ rfl) 4 _ rfl) _) Tryd.underlying35 rfl (by kernel_rfl)) rfl ?_
      injection Hr.out with q1 q
      injection q with q2 q
      injection q with q3 q
      injection q with q4 q
      injection q with q5 q6
      subst q1 q2 q3 q4 q5 q6
      exact ⟨rfl, below_alloc ((((((below_step HbW.out Hb5.out).setCell (p := ⟨w.heap.size, 0, none⟩) (Nat.le_refl _) _).setCell (p := ⟨w.heap.size, 1, none⟩) (Nat.le_refl _) _).setCell (p := ⟨w.heap.size, 2, none⟩) (Nat.le_refl _) _).setCell (p := ⟨w.heap.size, 3, none⟩) (Nat.le_refl _) _).setCell (p := ⟨w.heap.size, 4, none⟩) (Nat.le_refl _) _) _⟩
    | false =>
      have e5 : badNum l.tail.tail.tail.tail (badNum l.tail.tail.tail (badAddr l.tail.tail (badNum l.tail (badAddr l bad)))) = false := Hhb.out
      have e4 := badNum_false e5
      have e3 := badNum_false e4
      have e2 := badAddr_false e3
      have x5 := Hv5.out e5
      have x4 := Hv4.out e4
      have x3 := Hv3.out e3
      obtain ⟨x1, x2⟩ := Hv12.out e2
      have h1 := H.out
      rw [if_neg (by rw [Hhb.out]; decide), x1, x2, x3, x4, x5] at h1
      simp only [Option.getD_some] at h1
      obtain ⟨t, A1, h2⟩ := Option.bind_eq_some_iff.1 h1
      have hop := Aside0.mk (fun W (hW : VarsOk W) => row_Hop.calls v1 v2 v3 v4 v5 t W hW A1)
      have hwv : VarsOk (w5.alloc (.cells #[.int .u32 v1, .int .i64 v2, .int .u32 v3, .int .i64 v4, .int .i64 v5] 35 (0, 0))) := hV.below (below_alloc (below_step HbW.out Hb5.out) _)
      have Hwv := Aside0.mk hwv
      have H2 := Aside0.mk h2
      clear e5 e4 e3 e2 x5 x4 x3 x1 x2 h1 A1 h2 hwv
      go_wp2_with (go_at_call 14; refine (hop.out _ Hwv.out).mono ?_)
      rintro e w6 ⟨rfl, hb6⟩
      have hnew := blk_below (blk_new w5 _) hb6
      have hold := blk_below (blk_alloc Hbk5.out _) hb6
      have n0' := (blk_cell hnew 0).trans rfl
      have n1' := (blk_cell hnew 1).trans rfl
      have n2' := (blk_cell hnew 2).trans rfl
      have n3' := (blk_cell hnew 3).trans rfl
      have n4' := (blk_cell hnew 4).trans rfl
      have o0' := (blk_cell hold 0).trans rfl
      have o1' := (blk_cell hold 1).trans rfl
      have o2' := (blk_cell hold 2).trans rfl
      have o3' := (blk_cell hold 3).trans rfl
      have o4' := (blk_cell hold 4).trans rfl
      have k0 := blk_frozen hold 0
      have k1 := blk_frozen hold 1
      have k2 := blk_frozen hold 2
      have k3 := blk_frozen hold 3
      have k4 := blk_frozen hold 4
      have Hbk6 := Aside0.mk hold
      have Hb6 := Aside0.mk (below_step (below_alloc (below_step HbW.out Hb5.out) _) hb6)
      clear hnew hold hb6 hop g0 g1 g2 g3 g4 a0' a1' a2' a3' a4' cb
      obtain ⟨b, hb⟩ : ∃ b, (t.toList == a0.toList) = b := ⟨_, rfl⟩
      have hbi : b = true ↔ t = a0 := by rw [← hb]; exact Lib.bytes_beq_iff t a0
      have Hbi := Aside0.mk hbi
      clear hbi
      cases b with
      | false =>
        have Hr := Aside0.mk (show (0, 0, 0, 0, 0, false) = (r1, r2, r3, r4, r5, r6) from by
          have h1 := H2.out
          rw [if_neg (fun e => absurd (Hbi.out.2 e) (by decide))] at h1
          exact Option.some.inj h1)
        go_wp2
        refine bodyPost_ret (results_ct rfl _ _ w.heap.size 35 #[.int .u32 0, .int .i64 0, .int .u32 0, .int .i64 0, .int .i64 0] (0, 0) _ rfl (blk_put (cs := #[.int .u32 0, .int .i64 0, .int .u32 0, .int .i64 0, .int .i64 0]) (blk_put (cs := #[.int .u32 0, .int .i64 0, .int .u32 0, .int .i64 0, .int .i64 0]) (blk_put (cs := #[.int .u32 0, .int .i64 0, .int .u32 0, .int .i64 0, .int .i64 0]) (blk_put (cs := #[.int .u32 0, .int .i64 0, .int .u32 0, .int .i64 0, .int .i64 0]) (blk_put (cs := #[.int .u32 0, .int .i64 0, .int .u32 0, .int .i64 0, .int .i64 0]) Hbk6.out 0 _ rfl) 1 _ rfl) 2 _ rfl) 3 _ rfl) 4 _ rfl) Tryd.underlying35 rfl (by kernel_rfl)) rfl ?_
        injection Hr.out with q1 q
        injection q with q2 q
        injection q with q3 q
        injection q with q4 q
        injection q with q5 q6
        subst q1 q2 q3 q4 q5 q6
        exact ⟨rfl, ((((Hb6.out.setCell (p := ⟨w.heap.size, 0, none⟩) (Nat.le_refl _) _).setCell (p := ⟨w.heap.size, 1, none⟩) (Nat.le_refl _) _).setCell (p := ⟨w.heap.size, 2, none⟩) (Nat.le_refl _) _).setCell (p := ⟨w.heap.size, 3, none⟩) (Nat.le_refl _) _).setCell (p := ⟨w.heap.size, 4, none⟩) (Nat.le_refl _) _⟩
      | true =>
        have Hr := Aside0.mk (show (v1, v2, v3, v4, v5, true) = (r1, r2, r3, r4, r5, r6) from by
          have h1 := H2.out
          rw [if_pos (Hbi.out.1 rfl)] at h1
          exact Option.some.inj h1)
        go_wp2
        refine bodyPost_ret (results_ct rfl _ _ w.heap.size 35 #[.int .u32 v1, .int .i64 v2, .int .u32 v3, .int .i64 v4, .int .i64 v5] (0, 0) _ rfl (blk_put (cs := #[.int .u32 v1, .int .i64 v2, .int .u32 v3, .int .i64 v4, .int .i64 0]) (blk_put (cs := #[.int .u32 v1, .int .i64 v2, .int .u32 v3, .int .i64 0, .int .i64 0]) (blk_put (cs := #[.int .u32 v1, .int .i64 v2, .int .u32 0, .int .i64 0, .int .i64 0]) (blk_put (cs := #[.int .u32 v1, .int .i64 0, .int .u32 0, .int .i64 0, .int .i64 0]) (blk_put (cs := #[.int .u32 0, .int .i64 0, .int .u32 0, .int .i64 0, .int .i64 0]) Hbk6.out 0 _ rfl) 1 _ rfl) 2 _ rfl) 3 _ rfl) 4 _ rfl) Tryd.underlying35 rfl (by kernel_rfl)) rfl ?_
        injection Hr.out with q1 q
        injection q with q2 q
        injection q with q3 q
        injection q with q4 q
        injection q with q5 q6
        subst q1 q2 q3 q4 q5 q6
        exact ⟨rfl, ((((Hb6.out.setCell (p := ⟨w.heap.size, 0, none⟩) (Nat.le_refl _) _).setCell (p := ⟨w.heap.size, 1, none⟩) (Nat.le_refl _) _).setCell (p := ⟨w.heap.size, 2, none⟩) (Nat.le_refl _) _).setCell (p := ⟨w.heap.size, 3, none⟩) (Nat.le_refl _) _).setCell (p := ⟨w.heap.size, 4, none⟩) (Nat.le_refl _) _⟩
  · cases h

end Go.Proofs.YtppjodchlpapdaaDoor.PB

-- By a program of this session (printx.py), out of Lean's own print of the translation. Not trusted: Lean checks it.
namespace Go.Proofs.YtppjodchlpapdaaDoor.PB
open Go.RowKit Go.Proofs.YtppjodchlpapdaaDoorW.PrintWords Go.Proofs.YtppjodchlpapdaaDoorW.PrintLast Go.Proofs.YtppjodchlpapdaaDoorW.PrintMore
attribute [local go_sem] max2_int min2_int max_two min_two max_three min_three max_four min_four   -- for this text's walks alone
set_option linter.unusedVariables false
set_option linter.unusedSimpArgs false

/-! ### interregnumref11_dec: function 41 -/
def interregnumref11_dec.f : Nat → Int → Option (ByteArray)
  | 0, _ => none
  | k + 1, a0 => if a0 < 10 then (some (strOfNums (([(48 + ((a0) % 256)) % 256] : List Int)))) else ((interregnumref11_dec.f k (IntKind.u64.wrap (Int.tdiv a0 10))).bind fun t182 => ((some (([(48 + ((Int.tmod a0 10) % 256)) % 256] : List Int) : List Int)).bind fun y183 => (if t182.size + (strOfNums y183).size ≤ 9223372036854775807 then (some (t182 ++ (strOfNums y183))) else (none))))
theorem interregnumref11_dec.mono_l : ∀ k, (∀ y0, LeO (interregnumref11_dec.f k y0) (interregnumref11_dec.f (k + 1) y0))
  | 0 => fun _ r h => by simp [interregnumref11_dec.f] at h
  | k + 1 => by
    have ih0 := interregnumref11_dec.mono_l k
    · intro y0
      unfold interregnumref11_dec.f
      repeat' first
      | (with_reducible exact ih0 _)
      | (with_reducible exact LeO.refl _)
      | (with_reducible exact LeO.none _)
      | (with_reducible refine LeO.ite ?_ ?_)
      | (with_reducible refine LeO.bind ?_ (fun _ => ?_))
      | exact ih0 _
      | exact LeO.none _
      | refine LeO.ite ?_ ?_
      | refine LeO.bind ?_ (fun _ => ?_)
theorem interregnumref11_dec.mono : ∀ a0 k, LeO (interregnumref11_dec.f k a0) (interregnumref11_dec.f (k + 1) a0) := by
  intro a0 k
  have ih0 := interregnumref11_dec.mono_l k
  exact ih0 a0
def interregnumref11_dec.T3 : Bool × List (List Nat × List Nat) := (true, [([], []), ([0], [0]), ([1], [1]), ([], []), ([3], [3]), ([4], [4]), ([5], [5]), ([6], [6]), ([7], [7]), ([2, 8], [2, 8]), ([9, 2, 0, 1, 2, 3, 4, 5, 6, 7, 8, 9], [9])])
def interregnumref11_dec.B3 : List Nat := [0, 1, 3, 0, 8, 24, 56, 120, 248, 511, 1023]
theorem interregnumref11_dec.tab3 : rtab .any (opsOf Tryd.f41 3) = interregnumref11_dec.T3 := by kernel_rfl
theorem interregnumref11_dec.bits3 : waitsOk interregnumref11_dec.T3.2 interregnumref11_dec.B3 = true := by kernel_rfl
set_option maxHeartbeats 8000000 in
set_option maxRecDepth 100000 in
theorem interregnumref11_dec.calls (k : Nat) : ∀ (a0 : Int) (r : ByteArray) (w : World) (h : interregnumref11_dec.f k a0 = some r),
    Calls Tryd.prog 41 #[.int .u64 a0] w fun e w' => e = .returned (.string r) ∧ Below w.heap.size w w' := by
  induction k using Nat.strongRecOn with
  | _ k ih =>
  intro a0 r w h
  cases k with
  | zero => exact absurd h (by simp [interregnumref11_dec.f])
  | succ k =>
  simp only [interregnumref11_dec.f] at h
  have HB := Aside0.mk (Below.refl w.heap.size w)
  have H : (if a0 < 10 then (some (strOfNums (([(48 + ((a0) % 256)) % 256] : List Int)))) else ((interregnumref11_dec.f k (IntKind.u64.wrap (Int.tdiv a0 10))).bind fun t182 => ((some (([(48 + ((Int.tmod a0 10) % 256)) % 256] : List Int) : List Int)).bind fun y183 => (if t182.size + (strOfNums y183).size ≤ 9223372036854775807 then (some (t182 ++ (strOfNums y183))) else (none))))) = some r := h
  clear h
  by_cases c2 : a0 < 10
  · rw [if_pos c2] at H
    have c2b0 : decide (a0 < 10) = true := decide_eq_true c2
    clear c2
    obtain ⟨y179, hy179⟩ : ∃ y_ : List Int, y_ = (([(48 + ((a0) % 256)) % 256] : List Int)) := ⟨_, rfl⟩
    replace H : (some (strOfNums y179)) = some r := by first | (rw [hy179]; with_reducible exact H) | (have H2_ := (Option.bind_some _ _).symm.trans H; rw [hy179]; with_reducible exact H2_) | (have H2_ := (Option.bind_some _ _).symm.trans H; with_reducible exact H2_) | with_reducible exact H | (rw [hy179]; exact H) | exact H
    have Ny179 := Aside0.mk hy179
    clear hy179
    obtain rfl := Option.some.inj H
    go_enter Tryd.func41, Tryd.ntmps41
    go_wp2_with (first | ((with_reducible refine gate_dst (N := 8) rfl ?_); refine Kd.R_lit (Kd.int .u8) _ 5 ?hg (N := 8) ?hd (xs := ([(48 + ((a0) % 256)) % 256] : List Int)) (inner := [.int .u8 ((48 + ((a0) % 256)) % 256)]) (ok := fun _ => True) (okp := fun _ => True) ?hr ?hp (fun _ hk => hk) trivial (Below.refl _ _) (Nat.le_refl _) (by simp) ?_; (case hd => rfl); (case hg => rfl); (case hr => first | (go_simp; done) | (go_simp; rfl) | (go_simp; simp [IntKind.wrap_u8]; done)); (case hp => exact (Reps.one (show Kd.M (Kd.int .u8) _ _ _ ((48 + ((a0) % 256)) % 256) [.int .u8 ((48 + ((a0) % 256)) % 256)] from rfl) (Reps.none _ _))); intro v180 w3 ho4 hb hg_ hnew_; clear hg_ hnew_; (first | rw [← Ny179.out] at ho4 | (simp only [Int.reduceToNat] at ho4; rw [← Ny179.out] at ho4)); have n0_ := Aside0.mk (Kd.R_lower ho4 (below_size (by repeat (first | (with_reducible first | exact HB.out | apply below_alloc | apply pw_below_drewN | apply below_drew1) | exact HB.out)))); have n1_ := Aside0.mk (below_step (by repeat (first | (with_reducible first | exact HB.out | apply below_alloc | apply pw_below_drewN | apply below_drew1) | exact HB.out)) hb); clear HB; have HO181 := n0_; have HB := n1_; clear n0_ n1_; clear hb ho4; have hcv5 := own_string (P := Tryd.prog) Tryd.underlying50 Tryd.underlying5 Tryd.underlying9 (Kd.own_of_R HO181.out)))
    go_ret
    exact ⟨by first | rfl | (simp [errW_none, errW_some] <;> rfl) | (simp [*, errW_none, errW_some] <;> rfl), by repeat (first | (with_reducible first | exact HB.out | apply below_alloc | apply pw_below_drewN | apply below_drew1) | exact HB.out)⟩
  · rw [if_neg c2] at H
    have c2b0 : decide (a0 < 10) = false := decide_eq_false c2
    clear c2
    replace H := Option.bind_eq_some_iff.mp H
    obtain ⟨t182, A60, H⟩ := H
    replace H : ((some (([(48 + ((Int.tmod a0 10) % 256)) % 256] : List Int) : List Int)).bind fun y183 => (if t182.size + (strOfNums y183).size ≤ 9223372036854775807 then (some (t182 ++ (strOfNums y183))) else (none))) = some r := H
    have A6 := Aside0.mk A60
    clear A60
    obtain ⟨y183, hy183⟩ : ∃ y_ : List Int, y_ = (([(48 + ((Int.tmod a0 10) % 256)) % 256] : List Int)) := ⟨_, rfl⟩
    replace H : (if t182.size + (strOfNums y183).size ≤ 9223372036854775807 then (some (t182 ++ (strOfNums y183))) else (none)) = some r := by first | (rw [hy183]; with_reducible exact H) | (have H2_ := (Option.bind_some _ _).symm.trans H; rw [hy183]; with_reducible exact H2_) | (have H2_ := (Option.bind_some _ _).symm.trans H; with_reducible exact H2_) | with_reducible exact H | (rw [hy183]; exact H) | exact H
    have Ny183 := Aside0.mk hy183
    clear hy183
    by_cases c7 : t182.size + (strOfNums y183).size ≤ 9223372036854775807
    · rw [if_pos c7] at H
      have c7b0 := eq_true c7
      have c7b1 : decide (t182.size + (strOfNums y183).size ≤ 9223372036854775807) = true := decide_eq_true c7
      try have c7b2 : (9223372036854775807 < t182.size + (strOfNums y183).size) = False := eq_false (Nat.not_lt.2 c7)
      obtain rfl := Option.some.inj H
      go_enter Tryd.func41, Tryd.ntmps41
      try go_wp2
      have n0_ := Aside0.mk (below_drew1 HB.out)
      clear HB
      have HB := n0_
      clear n0_
      refine start_ (n := 11) (S := fun w' => True) (ds := []) #[false, false, false, false, false, false, false, false, false, false, false] (by kernel_rfl) rfl rfl trivial (fun hHeld => ?_); refine with_tabW interregnumref11_dec.tab3 interregnumref11_dec.bits3 (fun HT_ HW_ => ?_)
      generalize w.drew = w8 at HB hHeld ⊢
      refine pure_ (i := 0) (N := some 10) (v := ?_) (a' := ?_) #[true, false, false, false, false, false, false, false, false, false, false] rfl rfl (any_of HT_.out (by kernel_rfl)) (fun _ _ _ h => h) (Or.inl ⟨by rfl, ?_⟩) ?_ ?_
      rotate_left
      · intro w'
        go_simp
        with_reducible rfl
      rotate_left
      · simp only [Act.put, List.setIfInBounds_toArray, List.set_cons_zero, List.set_cons_succ, i64_w, i32_w]
        rfl
      refine pure_ (i := 1) (N := some 11) (v := ?_) (a' := ?_) #[true, true, false, false, false, false, false, false, false, false, false] rfl rfl (any_of HT_.out (by kernel_rfl)) (fun _ _ _ h => h) (Or.inl ⟨by rfl, ?_⟩) ?_ ?_
      rotate_left
      · intro w'
        go_simp
        with_reducible rfl
      rotate_left
      · simp only [Act.put, List.setIfInBounds_toArray, List.set_cons_zero, List.set_cons_succ, i64_w, i32_w]
        rfl
      refine pure_ (i := 3) (N := some 13) (v := ?_) (a' := ?_) #[true, true, false, true, false, false, false, false, false, false, false] rfl rfl (any_of HT_.out (by kernel_rfl)) (fun _ _ _ h => h) (Or.inl ⟨by rfl, ?_⟩) ?_ ?_
      rotate_left
      · intro w'
        go_simp
        with_reducible rfl
      rotate_left
      · simp only [Act.put, List.setIfInBounds_toArray, List.set_cons_zero, List.set_cons_succ, i64_w, i32_w]
        rfl
      refine pure_ (i := 4) (N := some 14) (v := ?_) (a' := ?_) #[true, true, false, true, true, false, false, false, false, false, false] rfl rfl (any_of HT_.out (by kernel_rfl)) (fun _ _ _ h => h) (Or.inl ⟨by rfl, ?_⟩) ?_ ?_
      rotate_left
      · intro w'
        go_simp
        with_reducible rfl
      rotate_left
      · simp only [Act.put, List.setIfInBounds_toArray, List.set_cons_zero, List.set_cons_succ, i64_w, i32_w]
        rfl
      refine pure_ (i := 5) (N := some 15) (v := ?_) (a' := ?_) #[true, true, false, true, true, true, false, false, false, false, false] rfl rfl (any_of HT_.out (by kernel_rfl)) (fun _ _ _ h => h) (Or.inl ⟨by rfl, ?_⟩) ?_ ?_
      rotate_left
      · intro w'
        go_simp
        with_reducible rfl
      rotate_left
      · simp only [Act.put, List.setIfInBounds_toArray, List.set_cons_zero, List.set_cons_succ, i64_w, i32_w]
        rfl
      refine pure_ (i := 6) (N := some 16) (v := ?_) (a' := ?_) #[true, true, false, true, true, true, true, false, false, false, false] rfl rfl (any_of HT_.out (by kernel_rfl)) (fun _ _ _ h => h) (Or.inl ⟨by rfl, ?_⟩) ?_ ?_
      rotate_left
      · intro w'
        go_simp
        with_reducible rfl
      rotate_left
      · simp only [Act.put, List.setIfInBounds_toArray, List.set_cons_zero, List.set_cons_succ, i64_w, i32_w]
        rfl
      refine join_ (σ := Value) 2 #[true, true, true, true, true, true, true, true, true, false, false] (fun s_ => [(12, .string t182), (17, s_), (18, .string (strOfNums y183))]) (fun s_ w' => (Kd.R (Kd.int .u8) 5 w' w.heap.size (fun _ => True) s_ y183) ∧ (Below w.heap.size w w')) ?_ ?_
      rotate_left
      · intro hCont
        refine two_ (i := 2) (j := 7) (Ni := some 12) (Nj := some 17) #[true, true, true, true, true, true, true, false, false, false, false] #[true, true, false, true, true, true, true, true, false, false, false] rfl rfl rfl rfl (two_of HT_.out (by kernel_rfl)) (by decide) (by decide) (fun K hK => ?_) (fun K hK => ?_)
        · skip
          refine goes_ Tryd.func41 (by kernel_rfl) rfl #[.int .u64 (IntKind.u64.wrap (Int.tdiv a0 10))] (by rfl) rfl rfl (by (try simp only [List.map_toArray, List.map_cons, List.map_nil]); first | done | rfl | (simp only [List.length_drop, List.length_take]; rfl)) ?_
          with_reducible refine (ih k (by omega) (IntKind.u64.wrap (Int.tdiv a0 10)) t182 _ A6.out).mono ?_
          rintro e w9 ⟨rfl, hb⟩
          refine ⟨_, rfl, ?_⟩
          have n0_ := Aside0.mk (below_step (by repeat (first | (with_reducible first | exact HB.out | apply below_alloc | apply pw_below_drewN | apply below_drew1) | exact HB.out)) hb)
          clear HB
          have HB := n0_
          clear n0_
          (try clear hb)
          (try clear hb2)
          (try clear hk)
          (try clear hi)
          refine hK.out _ _ trivial (fun hHeld => ?_)
          clear hK K
          refine norm_ (a' := ?_) ?_ ?_
          rotate_left
          · show Act.put _ (some 12) _ = _
            simp only [Act.put, List.setIfInBounds_toArray, List.set_cons_zero, List.set_cons_succ, i64_w, i32_w]
            rfl
          refine one_ (i := 7) (N := some 17) #[true, true, true, true, true, true, true, true, false, false, false] rfl rfl (one_of HT_.out (by kernel_rfl)) (by decide) (fun K hK => ?_)
          refine Kd.R_lit_step (Kd.int .u8) _ 5 ?hg (N := 17) ?hd (xs := ([(48 + ((Int.tmod a0 10) % 256)) % 256] : List Int)) (inner := [.int .u8 ((48 + ((Int.tmod a0 10) % 256)) % 256)]) (ok := fun _ => True) (okp := fun _ => True) ?hr ?hp (fun _ hk => hk) trivial (Below.refl _ _) (Nat.le_refl _) (by simp) ?_; (case hd => rfl); (case hg => rfl); (case hr => first | (go_simp; done) | (go_simp; rfl) | (go_simp; simp [IntKind.wrap_u8]; done)); (case hp => exact (Reps.one (show Kd.M (Kd.int .u8) _ _ _ ((48 + ((Int.tmod a0 10) % 256)) % 256) [.int .u8 ((48 + ((Int.tmod a0 10) % 256)) % 256)] from rfl) (Reps.none _ _)))
          intro v184 w10 ho11 hb hg_ hnew_
          clear hg_ hnew_
          (first | rw [← Ny183.out] at ho11 | (simp only [Int.reduceToNat] at ho11; rw [← Ny183.out] at ho11))
          have n0_ := Aside0.mk (Kd.R_lower ho11 (below_size (by repeat (first | (with_reducible first | exact HB.out | apply below_alloc | apply pw_below_drewN | apply below_drew1) | exact HB.out))))
          have n1_ := Aside0.mk (below_step (by repeat (first | (with_reducible first | exact HB.out | apply below_alloc | apply pw_below_drewN | apply below_drew1) | exact HB.out)) hb)
          clear HB
          have HO185 := n0_
          have HB := n1_
          clear n0_ n1_
          clear hb ho11
          refine hK.out _ _ trivial (fun hHeld => ?_)
          clear hK K
          refine norm_ (a' := ?_) ?_ ?_
          rotate_left
          · show Act.put _ (some 17) _ = _
            simp only [Act.put, List.setIfInBounds_toArray, List.set_cons_zero, List.set_cons_succ, i64_w, i32_w]
            rfl
          refine one_ (i := 8) (N := some 18) #[true, true, true, true, true, true, true, true, true, false, false] rfl rfl (one_of HT_.out (by kernel_rfl)) (by decide) (fun K hK => ?_)
          have hcv12 := own_string (P := Tryd.prog) Tryd.underlying50 Tryd.underlying5 Tryd.underlying9 (Kd.own_of_R HO185.out)
          refine value_ (w1 := ?_) (v := ?_) (by rfl) rfl ?_ ?_
          rotate_left 2
          · go_simp
            constructor
            · rfl
            · rfl
          clear hcv12
          refine hK.out _ _ trivial (fun hHeld => ?_)
          clear hK K
          refine norm_ (a' := ?_) ?_ ?_
          rotate_left
          · show Act.put _ (some 18) _ = _
            simp only [Act.put, List.setIfInBounds_toArray, List.set_cons_zero, List.set_cons_succ, i64_w, i32_w]
            rfl
          exact norm_ (by simp only [putAll, Act.put, List.setIfInBounds_toArray, List.set_cons_zero, List.set_cons_succ]) (hCont (v184) _ ⟨(by (with_reducible repeat (first | apply Kd.R_alloc | apply Kd.R_drewN | apply Kd.R_drew)); exact HO185.out), (by repeat (first | (with_reducible first | exact HB.out | apply below_alloc | apply pw_below_drewN | apply below_drew1) | exact HB.out))⟩)
        · skip
          refine Kd.R_lit_step (Kd.int .u8) _ 5 ?hg (N := 17) ?hd (xs := ([(48 + ((Int.tmod a0 10) % 256)) % 256] : List Int)) (inner := [.int .u8 ((48 + ((Int.tmod a0 10) % 256)) % 256)]) (ok := fun _ => True) (okp := fun _ => True) ?hr ?hp (fun _ hk => hk) trivial (Below.refl _ _) (Nat.le_refl _) (by simp) ?_; (case hd => rfl); (case hg => rfl); (case hr => first | (go_simp; done) | (go_simp; rfl) | (go_simp; simp [IntKind.wrap_u8]; done)); (case hp => exact (Reps.one (show Kd.M (Kd.int .u8) _ _ _ ((48 + ((Int.tmod a0 10) % 256)) % 256) [.int .u8 ((48 + ((Int.tmod a0 10) % 256)) % 256)] from rfl) (Reps.none _ _)))
          intro v184 w9 ho10 hb hg_ hnew_
          clear hg_ hnew_
          (first | rw [← Ny183.out] at ho10 | (simp only [Int.reduceToNat] at ho10; rw [← Ny183.out] at ho10))
          have n0_ := Aside0.mk (Kd.R_lower ho10 (below_size (by repeat (first | (with_reducible first | exact HB.out | apply below_alloc | apply pw_below_drewN | apply below_drew1) | exact HB.out))))
          have n1_ := Aside0.mk (below_step (by repeat (first | (with_reducible first | exact HB.out | apply below_alloc | apply pw_below_drewN | apply below_drew1) | exact HB.out)) hb)
          clear HB
          have HO185 := n0_
          have HB := n1_
          clear n0_ n1_
          clear hb ho10
          refine hK.out _ _ trivial (fun hHeld => ?_)
          clear hK K
          refine norm_ (a' := ?_) ?_ ?_
          rotate_left
          · show Act.put _ (some 17) _ = _
            simp only [Act.put, List.setIfInBounds_toArray, List.set_cons_zero, List.set_cons_succ, i64_w, i32_w]
            rfl
          refine two_ (i := 2) (j := 8) (Ni := some 12) (Nj := some 18) #[true, true, true, true, true, true, true, true, false, false, false] #[true, true, false, true, true, true, true, true, true, false, false] rfl rfl rfl rfl (two_of HT_.out (by kernel_rfl)) (by decide) (by decide) (fun K hK => ?_) (fun K hK => ?_)
          · skip
            refine goes_ Tryd.func41 (by kernel_rfl) rfl #[.int .u64 (IntKind.u64.wrap (Int.tdiv a0 10))] (by rfl) rfl rfl (by (try simp only [List.map_toArray, List.map_cons, List.map_nil]); first | done | rfl | (simp only [List.length_drop, List.length_take]; rfl)) ?_
            with_reducible refine (ih k (by omega) (IntKind.u64.wrap (Int.tdiv a0 10)) t182 _ A6.out).mono ?_
            rintro e w11 ⟨rfl, hb⟩
            refine ⟨_, rfl, ?_⟩
            have n0_ := Aside0.mk (Kd.R_below (by (with_reducible repeat (first | apply Kd.R_alloc | apply Kd.R_drewN | apply Kd.R_drew)); exact HO185.out) hb)
            have n1_ := Aside0.mk (below_step (by repeat (first | (with_reducible first | exact HB.out | apply below_alloc | apply pw_below_drewN | apply below_drew1) | exact HB.out)) hb)
            clear HO185
            clear HB
            have HO185 := n0_
            have HB := n1_
            clear n0_ n1_
            (try clear hb)
            (try clear hb2)
            (try clear hk)
            (try clear hi)
            refine hK.out _ _ trivial (fun hHeld => ?_)
            clear hK K
            refine norm_ (a' := ?_) ?_ ?_
            rotate_left
            · show Act.put _ (some 12) _ = _
              simp only [Act.put, List.setIfInBounds_toArray, List.set_cons_zero, List.set_cons_succ, i64_w, i32_w]
              rfl
            refine one_ (i := 8) (N := some 18) #[true, true, true, true, true, true, true, true, true, false, false] rfl rfl (one_of HT_.out (by kernel_rfl)) (by decide) (fun K hK => ?_)
            have hcv12 := own_string (P := Tryd.prog) Tryd.underlying50 Tryd.underlying5 Tryd.underlying9 (Kd.own_of_R HO185.out)
            refine value_ (w1 := ?_) (v := ?_) (by rfl) rfl ?_ ?_
            rotate_left 2
            · go_simp
              constructor
              · rfl
              · rfl
            clear hcv12
            refine hK.out _ _ trivial (fun hHeld => ?_)
            clear hK K
            refine norm_ (a' := ?_) ?_ ?_
            rotate_left
            · show Act.put _ (some 18) _ = _
              simp only [Act.put, List.setIfInBounds_toArray, List.set_cons_zero, List.set_cons_succ, i64_w, i32_w]
              rfl
            exact norm_ (by simp only [putAll, Act.put, List.setIfInBounds_toArray, List.set_cons_zero, List.set_cons_succ]) (hCont (v184) _ ⟨(by (with_reducible repeat (first | apply Kd.R_alloc | apply Kd.R_drewN | apply Kd.R_drew)); exact HO185.out), (by repeat (first | (with_reducible first | exact HB.out | apply below_alloc | apply pw_below_drewN | apply below_drew1) | exact HB.out))⟩)
          · skip
            have hcv11 := own_string (P := Tryd.prog) Tryd.underlying50 Tryd.underlying5 Tryd.underlying9 (Kd.own_of_R HO185.out)
            refine value_ (w1 := ?_) (v := ?_) (by rfl) rfl ?_ ?_
            rotate_left 2
            · go_simp
              constructor
              · rfl
              · rfl
            clear hcv11
            refine hK.out _ _ trivial (fun hHeld => ?_)
            clear hK K
            refine norm_ (a' := ?_) ?_ ?_
            rotate_left
            · show Act.put _ (some 18) _ = _
              simp only [Act.put, List.setIfInBounds_toArray, List.set_cons_zero, List.set_cons_succ, i64_w, i32_w]
              rfl
            refine one_ (i := 2) (N := some 12) #[true, true, true, true, true, true, true, true, true, false, false] rfl rfl (one_of HT_.out (by kernel_rfl)) (by decide) (fun K hK => ?_)
            refine goes_ Tryd.func41 (by kernel_rfl) rfl #[.int .u64 (IntKind.u64.wrap (Int.tdiv a0 10))] (by rfl) rfl rfl (by (try simp only [List.map_toArray, List.map_cons, List.map_nil]); first | done | rfl | (simp only [List.length_drop, List.length_take]; rfl)) ?_
            with_reducible refine (ih k (by omega) (IntKind.u64.wrap (Int.tdiv a0 10)) t182 _ A6.out).mono ?_
            rintro e w12 ⟨rfl, hb⟩
            refine ⟨_, rfl, ?_⟩
            have n0_ := Aside0.mk (Kd.R_below (by (with_reducible repeat (first | apply Kd.R_alloc | apply Kd.R_drewN | apply Kd.R_drew)); exact HO185.out) hb)
            have n1_ := Aside0.mk (below_step (by repeat (first | (with_reducible first | exact HB.out | apply below_alloc | apply pw_below_drewN | apply below_drew1) | exact HB.out)) hb)
            clear HO185
            clear HB
            have HO185 := n0_
            have HB := n1_
            clear n0_ n1_
            (try clear hb)
            (try clear hb2)
            (try clear hk)
            (try clear hi)
            refine hK.out _ _ trivial (fun hHeld => ?_)
            clear hK K
            refine norm_ (a' := ?_) ?_ ?_
            rotate_left
            · show Act.put _ (some 12) _ = _
              simp only [Act.put, List.setIfInBounds_toArray, List.set_cons_zero, List.set_cons_succ, i64_w, i32_w]
              rfl
            exact norm_ (by simp only [putAll, Act.put, List.setIfInBounds_toArray, List.set_cons_zero, List.set_cons_succ]) (hCont (v184) _ ⟨(by (with_reducible repeat (first | apply Kd.R_alloc | apply Kd.R_drewN | apply Kd.R_drew)); exact HO185.out), (by repeat (first | (with_reducible first | exact HB.out | apply below_alloc | apply pw_below_drewN | apply below_drew1) | exact HB.out))⟩)
      rintro v184 w13 ⟨h0_, h1_⟩
      have n0_ : Aside0 (Kd.R (Kd.int .u8) 5 w13 w.heap.size (fun _ => True) v184 y183) := ⟨h0_⟩
      have n1_ : Aside0 (Below w.heap.size w w13) := ⟨h1_⟩
      clear HB
      clear h0_ h1_
      have HO185 := n0_
      have HB := n1_
      clear n0_ n1_
      have hHeld := trivial
      refine norm_ (a' := ?_) ?_ ?_
      rotate_left
      · simp only [putAll, Act.put, List.setIfInBounds_toArray, List.set_cons_zero, List.set_cons_succ]
        rfl
      refine pure_ (i := 9) (N := some 19) (v := ?_) (a' := ?_) #[true, true, true, true, true, true, true, true, true, true, false] rfl rfl (any_of HT_.out (by kernel_rfl)) (fun _ _ _ h => h) (Or.inl ⟨by rfl, ?_⟩) ?_ ?_
      rotate_left
      · intro w'
        go_simp
        with_reducible rfl
      rotate_left
      · simp only [Act.put, List.setIfInBounds_toArray, List.set_cons_zero, List.set_cons_succ, i64_w, i32_w]
        rfl
      refine pure_ (i := 10) (N := some 2) (v := ?_) (a' := ?_) #[true, true, true, true, true, true, true, true, true, true, true] rfl rfl (any_of HT_.out (by kernel_rfl)) (fun _ _ _ h => h) (Or.inl ⟨by rfl, ?_⟩) ?_ ?_
      rotate_left
      · intro w'
        go_simp
        with_reducible rfl
      rotate_left
      · simp only [Act.put, List.setIfInBounds_toArray, List.set_cons_zero, List.set_cons_succ, i64_w, i32_w]
        rfl
      refine done_ (done_of HT_.out (by kernel_rfl)) ?_
      try go_wp2
      go_ret
      exact ⟨by first | rfl | (simp [errW_none, errW_some] <;> rfl) | (simp [*, errW_none, errW_some] <;> rfl), by repeat (first | (with_reducible first | exact HB.out | apply below_alloc | apply pw_below_drewN | apply below_drew1) | exact HB.out)⟩
    · rw [if_neg c7] at H
      exact absurd H (by simp)

end Go.Proofs.YtppjodchlpapdaaDoor.PB

-- By a program of this session (printx.py), out of Lean's own print of the translation. Not trusted: Lean checks it.
namespace Go.Proofs.YtppjodchlpapdaaDoor.PB
open Go.RowKit Go.Proofs.YtppjodchlpapdaaDoorW.PrintWords Go.Proofs.YtppjodchlpapdaaDoorW.PrintLast Go.Proofs.YtppjodchlpapdaaDoorW.PrintMore
attribute [local go_sem] max2_int min2_int max_two min_two max_three min_three max_four min_four   -- for this text's walks alone
set_option linter.unusedVariables false
set_option linter.unusedSimpArgs false

/-! ### interregnumref11_Dec: function 27 -/
def interregnumref11_Dec.f (k : Nat) (a0 : Int) : Option (ByteArray) := if a0 < 0 then ((interregnumref11_dec.f k (IntKind.u64.wrap ((IntKind.u64.wrap (wrap64 (-(wrap64 (a0 + 1))))) + 1))).bind fun t186 => (if 1 + t186.size ≤ 9223372036854775807 then (some ((⟨#[45]⟩ : ByteArray) ++ t186)) else (none))) else ((interregnumref11_dec.f k (IntKind.u64.wrap (a0))).bind fun t187 => (some t187))
theorem interregnumref11_Dec.mono : ∀ a0 k, LeO (interregnumref11_Dec.f k a0) (interregnumref11_Dec.f (k + 1) a0) := by
  intro a0 k
  unfold interregnumref11_Dec.f
  repeat' first
      | (with_reducible exact interregnumref11_dec.mono _ _)
      | (with_reducible exact LeO.refl _)
      | (with_reducible exact LeO.none _)
      | (with_reducible refine LeO.ite ?_ ?_)
      | (with_reducible refine LeO.bind ?_ (fun _ => ?_))
      | exact interregnumref11_dec.mono _ _
      | exact LeO.none _
      | refine LeO.ite ?_ ?_
      | refine LeO.bind ?_ (fun _ => ?_)
set_option maxHeartbeats 8000000 in
set_option maxRecDepth 100000 in
theorem interregnumref11_Dec.calls (k : Nat) (a0 : Int) (r : ByteArray) (w : World) (h : interregnumref11_Dec.f k a0 = some r) :
    Calls Tryd.prog 27 #[.int .i64 a0] w fun e w' => e = .returned (.string r) ∧ Below w.heap.size w w' := by
  have HB := Aside0.mk (Below.refl w.heap.size w)
  have H : (if a0 < 0 then ((interregnumref11_dec.f k (IntKind.u64.wrap ((IntKind.u64.wrap (wrap64 (-(wrap64 (a0 + 1))))) + 1))).bind fun t186 => (if 1 + t186.size ≤ 9223372036854775807 then (some ((⟨#[45]⟩ : ByteArray) ++ t186)) else (none))) else ((interregnumref11_dec.f k (IntKind.u64.wrap (a0))).bind fun t187 => (some t187))) = some r := h
  clear h
  by_cases c2 : a0 < 0
  · rw [if_pos c2] at H
    have c2b0 : decide (a0 < 0) = true := decide_eq_true c2
    clear c2
    replace H := Option.bind_eq_some_iff.mp H
    obtain ⟨t186, A30, H⟩ := H
    replace H : (if 1 + t186.size ≤ 9223372036854775807 then (some ((⟨#[45]⟩ : ByteArray) ++ t186)) else (none)) = some r := H
    have A3 := Aside0.mk A30
    clear A30
    by_cases c4 : 1 + t186.size ≤ 9223372036854775807
    · rw [if_pos c4] at H
      have c4b0 := eq_true c4
      have c4b1 : decide (1 + t186.size ≤ 9223372036854775807) = true := decide_eq_true c4
      try have c4b2 : (9223372036854775807 < 1 + t186.size) = False := eq_false (Nat.not_lt.2 c4)
      obtain rfl := Option.some.inj H
      go_enter Tryd.func27, Tryd.ntmps27
      go_wp2_with (first | ((with_reducible refine gate_callee (f := 41) rfl ?_); refine goesL_ (some 10) rfl rfl Tryd.func41 (by kernel_rfl) rfl #[.int .u64 (IntKind.u64.wrap ((IntKind.u64.wrap (wrap64 (-(wrap64 (a0 + 1))))) + 1))] rfl (by (try simp only [List.map_toArray, List.map_cons, List.map_nil]); first | done | rfl | (simp only [List.length_drop, List.length_take]; rfl)) ?_; (with_reducible refine (interregnumref11_dec.calls k (IntKind.u64.wrap ((IntKind.u64.wrap (wrap64 (-(wrap64 (a0 + 1))))) + 1)) t186 _ A3.out).mono ?_); rintro e w5 ⟨rfl, hb⟩; refine ⟨_, rfl, ?_⟩; have n0_ := Aside0.mk (below_step (by repeat (first | (with_reducible first | exact HB.out | apply below_alloc | apply pw_below_drewN | apply below_drew1) | exact HB.out)) hb); clear HB; have HB := n0_; clear n0_; (try clear hb); (try clear hb2); (try clear hk); (try clear hi)))
      go_ret
      exact ⟨by first | rfl | (simp [errW_none, errW_some] <;> rfl) | (simp [*, errW_none, errW_some] <;> rfl), by repeat (first | (with_reducible first | exact HB.out | apply below_alloc | apply pw_below_drewN | apply below_drew1) | exact HB.out)⟩
    · rw [if_neg c4] at H
      exact absurd H (by simp)
  · rw [if_neg c2] at H
    have c2b0 : decide (a0 < 0) = false := decide_eq_false c2
    clear c2
    replace H := Option.bind_eq_some_iff.mp H
    obtain ⟨t187, A60, H⟩ := H
    replace H : (some t187) = some r := H
    have A6 := Aside0.mk A60
    clear A60
    obtain rfl := Option.some.inj H
    go_enter Tryd.func27, Tryd.ntmps27
    go_wp2_with (first | ((with_reducible refine gate_callee (f := 41) rfl ?_); refine goesL_ (some 14) rfl rfl Tryd.func41 (by kernel_rfl) rfl #[.int .u64 (IntKind.u64.wrap (a0))] rfl (by (try simp only [List.map_toArray, List.map_cons, List.map_nil]); first | done | rfl | (simp only [List.length_drop, List.length_take]; rfl)) ?_; (with_reducible refine (interregnumref11_dec.calls k (IntKind.u64.wrap (a0)) t187 _ A6.out).mono ?_); rintro e w7 ⟨rfl, hb⟩; refine ⟨_, rfl, ?_⟩; have n0_ := Aside0.mk (below_step (by repeat (first | (with_reducible first | exact HB.out | apply below_alloc | apply pw_below_drewN | apply below_drew1) | exact HB.out)) hb); clear HB; have HB := n0_; clear n0_; (try clear hb); (try clear hb2); (try clear hk); (try clear hi)))
    go_ret
    exact ⟨by first | rfl | (simp [errW_none, errW_some] <;> rfl) | (simp [*, errW_none, errW_some] <;> rfl), by repeat (first | (with_reducible first | exact HB.out | apply below_alloc | apply pw_below_drewN | apply below_drew1) | exact HB.out)⟩

end Go.Proofs.YtppjodchlpapdaaDoor.PB

namespace Go.Proofs.YtppjodchlpapdaaDoor.PB
open Go.RowKit Go.Sort Go.Lib Go.Proofs Go.Proofs.YtppjodchlpapdaaDoor Go.Proofs.YtppjodchlpapdaaDoorW.PrintWords Go.Proofs.YtppjodchlpapdaaDoorW.PrintLast Go.Proofs.YtppjodchlpapdaaDoorW.PrintMore
set_option linter.unusedVariables false
set_option linter.unusedSimpArgs false

theorem digit_str (d : Nat) (h : d < 10) : strOfNums [((48 + d : Nat) : Int)] = ⟨#[UInt8.ofNat (48 + d)]⟩ := by
  match d, h with
  | 0, _ => rfl
  | 1, _ => rfl
  | 2, _ => rfl
  | 3, _ => rfl
  | 4, _ => rfl
  | 5, _ => rfl
  | 6, _ => rfl
  | 7, _ => rfl
  | 8, _ => rfl
  | 9, _ => rfl
theorem append_toArray (a b : List UInt8) : (⟨a.toArray⟩ : ByteArray) ++ ⟨b.toArray⟩ = ⟨(a ++ b).toArray⟩ := by
  exact congrArg ByteArray.mk (by simp)

theorem ref11_dec_eq : ∀ (k u : Nat), u < 10 ^ (k + 1) → u < 18446744073709551616 → interregnumref11_dec.f (k + 1) (u : Int) = some ⟨(Lib.decDigits u).toArray⟩ := by
  intro k
  induction k with
  | zero =>
    intro u h1 h2
    have h3 : u < 10 := by simpa using h1
    unfold interregnumref11_dec.f
    rw [if_pos (by omega), Lib.decDigits_one h3, show (48 + (u : Int) % 256) % 256 = ((48 + u : Nat) : Int) by omega, digit_str u h3]
  | succ k ih =>
    intro u h1 h2
    unfold interregnumref11_dec.f
    by_cases h3 : u < 10
    · rw [if_pos (by omega), Lib.decDigits_one h3, show (48 + (u : Int) % 256) % 256 = ((48 + u : Nat) : Int) by omega, digit_str u h3]
    · rw [if_neg (by omega)]
      have e1 : Int.tdiv (u : Int) 10 = ((u / 10 : Nat) : Int) := rfl
      have e2 : Int.tmod (u : Int) 10 = ((u % 10 : Nat) : Int) := rfl
      have e3 : IntKind.u64.wrap ((u / 10 : Nat) : Int) = ((u / 10 : Nat) : Int) := by rw [IntKind.wrap_u64]; omega
      rw [e1, e2, e3, ih (u / 10) (by rw [Nat.pow_succ] at h1; omega) (by omega), show (48 + ((u % 10 : Nat) : Int) % 256) % 256 = ((48 + u % 10 : Nat) : Int) by omega]
      simp only [Option.bind_some]
      rw [digit_str (u % 10) (Nat.mod_lt _ (by decide))]
      have hl : (Lib.decDigits (u / 10)).length ≤ 20 := by
        rw [Lib.decDigits_length]
        have := Lib.numDigits_eq (u / 10) (by omega) (by omega)
        split at this <;> omega
      rw [if_pos (by rw [ba_size]; show _ + 1 ≤ _; omega)]
      rw [show (⟨#[UInt8.ofNat (48 + u % 10)]⟩ : ByteArray) = ⟨[UInt8.ofNat (48 + u % 10)].toArray⟩ from rfl, append_toArray]
      conv => rhs; rw [Lib.decDigits, dif_neg h3]

theorem ref11_Dec_eq (k u : Nat) (hk : u < 10 ^ (k + 1)) (h : u < 9223372036854775808) : interregnumref11_Dec.f (k + 1) (u : Int) = some ⟨(Lib.itoa (u : Int)).toArray⟩ := by
  unfold interregnumref11_Dec.f
  rw [if_neg (by omega), show IntKind.u64.wrap (u : Int) = (u : Int) by rw [IntKind.wrap_u64]; omega, ref11_dec_eq k u hk (by omega), Lib.itoa_nonneg]
  rfl

def interregnumref11_Texts.f (l0 : List ByteArray) : Option ByteArray :=
  if (textsL l0).length ≤ 140737488355328 then some ⟨(textsL l0).toArray⟩ else none

set_option maxHeartbeats 4000000 in
set_option maxRecDepth 100000 in
theorem interregnumref11_Texts.calls (A0 : Option Addr) (c0 : Nat) (l0 : List ByteArray) (r : ByteArray) (w : World) (hr0 : Kd.C Kd.string w A0 l0.length l0) (hc0 : l0.length ≤ c0) (h : interregnumref11_Texts.f l0 = some r) :
    Calls Tryd.prog 12 #[.slice A0 l0.length c0] w fun e w' => e = .returned (.string r) ∧ Below w.heap.size w w' := by
  unfold interregnumref11_Texts.f at h
  split at h
  · rename_i hc
    cases h
    have hn := textsL_count l0
    have hn2 : l0.length ≤ 140737488355328 := by omega
    go_enter Tryd.func12, Tryd.ntmps12
    go_wp2
    go_loopg [3, 4] (l0.length) (fun g s3 s4 wx => ∃ i : Nat, i + g = l0.length ∧ s3 = .string ⟨(textsL (l0.take i)).toArray⟩ ∧ s4 = .int .i64 i ∧ Below w.heap.size w wx)
    case atStart => exact ⟨0, by omega, rfl, rfl, Below.refl _ _⟩
    case round =>
      obtain ⟨i, hi, rfl, rfl, hbw⟩ := hrel
      by_cases hlt : i < l0.length
      · obtain ⟨ad, eA, hcell⟩ := Kd.at_string hr0 i (by omega) (by omega)
        have hrd : rdOf ByteArray.empty l0 (i : Int) = l0[i] := by simp [rdOf, hlt]
        rw [hrd] at hcell
        cases eA
        have hcell' := (hbw.cell (World.block_lt_of_cell? w _ hcell)).trans hcell
        have hle := textsL_le l0 (i + 1)
        rw [textsL_take l0 i hlt, List.length_append, pieceL_length] at hle
        have hsz : l0[i].size ≤ 140737488355328 := by omega
        have hdec := Aside0.mk (fun W => interregnumref11_Dec.calls 20 (l0[i].size : Int) _ W (ref11_Dec_eq 19 l0[i].size (by omega) (by omega)))
        have hlt' : (i : Int) < (l0.length : Int) := by omega
        have h0 : 0 ≤ (i : Int) := by omega
        simp only [Int.toNat_natCast] at hcell'
        have Hle := Aside0.mk hle
        have Htk := Aside0.mk (textsL_take l0 i hlt)
        obtain ⟨x, hx⟩ : ∃ x, x = l0[i] := ⟨_, rfl⟩
        rw [← hx] at hcell' hdec hsz
        obtain ⟨acc, hacc⟩ : ∃ acc, acc = (⟨(textsL (l0.take i)).toArray⟩ : ByteArray) := ⟨_, rfl⟩
        rw [← hacc]
        have Hx := Aside0.mk hx
        have Hacc := Aside0.mk hacc
        have q1 : acc.size + (⟨(Lib.itoa (x.size : Int)).toArray⟩ : ByteArray).size + 1 + x.size ≤ 140737488355328 := by
          have := Hle.out
          rw [hacc, hx, ba_size, ba_size]; omega
        obtain ⟨t, ht⟩ : ∃ t, t = (⟨(Lib.itoa (x.size : Int)).toArray⟩ : ByteArray) := ⟨_, rfl⟩
        rw [← ht] at hdec q1
        have Ht := Aside0.mk ht
        have z1 : (acc ++ t).size = acc.size + t.size := ByteArray.size_append
        have z2 : ((acc ++ t) ++ (⟨#[58]⟩ : ByteArray)).size = acc.size + t.size + 1 := by rw [ByteArray.size_append, z1]; rfl
        have c5 : acc.size + t.size ≤ 9223372036854775807 := by omega
        have c6 : (acc ++ t).size + 1 ≤ 9223372036854775807 := by omega
        have c7 : ((acc ++ t) ++ (⟨#[58]⟩ : ByteArray)).size + x.size ≤ 9223372036854775807 := by omega
        have c5b1 : decide (acc.size + t.size ≤ 9223372036854775807) = true := decide_eq_true c5
        have c6b1 : decide ((acc ++ t).size + 1 ≤ 9223372036854775807) = true := decide_eq_true c6
        have c7b1 : decide (((acc ++ t) ++ (⟨#[58]⟩ : ByteArray)).size + x.size ≤ 9223372036854775807) = true := decide_eq_true c7
        have c5b2 : (9223372036854775807 < acc.size + t.size) = False := eq_false (Nat.not_lt.2 c5)
        have c6b2 : (9223372036854775807 < (acc ++ t).size + 1) = False := eq_false (Nat.not_lt.2 c6)
        have c7b2 : (9223372036854775807 < ((acc ++ t) ++ (⟨#[58]⟩ : ByteArray)).size + x.size) = False := eq_false (Nat.not_lt.2 c7)
        have zz : (⟨#[58]⟩ : ByteArray).size = 1 := rfl
        have d6 : (acc ++ t).size + (⟨#[58]⟩ : ByteArray).size ≤ 9223372036854775807 := by omega
        have d6b2 : (9223372036854775807 < (acc ++ t).size + (⟨#[58]⟩ : ByteArray).size) = False := eq_false (Nat.not_lt.2 d6)
        have e6 : acc.size + t.size + 1 ≤ 9223372036854775807 := by omega
        have e6b2 : (9223372036854775807 < acc.size + t.size + 1) = False := eq_false (Nat.not_lt.2 e6)
        have e7 : acc.size + t.size + 1 + x.size ≤ 9223372036854775807 := by omega
        have e7b2 : (9223372036854775807 < acc.size + t.size + 1 + x.size) = False := eq_false (Nat.not_lt.2 e7)
        have e6b1 : decide (acc.size + t.size + 1 ≤ 9223372036854775807) = true := decide_eq_true e6
        have e7b1 : decide (acc.size + t.size + 1 + x.size ≤ 9223372036854775807) = true := decide_eq_true e7
        clear hle hx hacc hcell hrd hn ht q1
        go_wp2
        have hcell'' : wr.cell? (ad.add i) = some (.string x) := hcell'
        go_region_held3 (fun w' => w'.cell? (ad.add i) = some (.string x) ∧ Below w.heap.size w w') (exact ⟨by first | assumption | (simp [*]; done), by first | assumption | exact below_drew1 (by assumption)⟩) (first | (go_at_call 27; refine (hdec.out _).mono ?_; rintro e w3 ⟨rfl, hb3⟩; have hc3 : w3.cell? (ad.add i) = some (.string x) := (by rw [hb3.cell (World.block_lt_of_cell? _ _ (by assumption))]; assumption); have hB3 : Below w.heap.size w w3 := below_step (by first | assumption | exact below_drew1 (by assumption)) hb3; clear hb3))
        go_wp2
        go_roundg (gk - 1)
        case measure => omega
        case rel =>
          refine ⟨i + 1, by omega, ?_, by first | (simp; done) | (simp; unfold wrap64; omega), by assumption⟩
          rw [Htk.out, Hacc.out, Ht.out, Hx.out, append_toArray, show (⟨#[58]⟩ : ByteArray) = ⟨[(58 : UInt8)].toArray⟩ from rfl, append_toArray]
          rw [show l0[i] = (⟨l0[i].data.toList.toArray⟩ : ByteArray) by simp, append_toArray]
          simp [pieceL]
      · have hge : ¬ ((i : Int) < (l0.length : Int)) := by omega
        have ei : i = l0.length := by omega
        rw [ei, List.take_length]
        go_wp2
        go_ret
        exact ⟨rfl, hbw⟩
  · cases h
end Go.Proofs.YtppjodchlpapdaaDoor.PB

namespace Go.Proofs.YtppjodchlpapdaaDoor.PB
open Go.RowKit Go.Sort Go.Lib Go.Proofs Go.Proofs.YtppjodchlpapdaaDoor Go.Proofs.YtppjodchlpapdaaDoorW.PrintWords
set_option linter.unusedVariables false
set_option linter.unusedSimpArgs false

theorem parseM_snoc (M : Nat) (d : Nat) (hd : d < 10) : ∀ (l : List UInt8) (acc v : Nat), parseUintM M acc l = .ok v → v * 10 + d ≤ M → v < 1844674407370955162 → parseUintM M acc (l ++ [UInt8.ofNat (48 + d)]) = .ok (v * 10 + d)
  | [], acc, v, h, h1, h2 => by
    simp only [parseUintM] at h
    injection h with h
    subst h
    have e : (UInt8.ofNat (48 + d)).toNat = 48 + d := by simp; omega
    simp only [List.nil_append, parseUintM, e]
    rw [if_pos (by omega), if_neg (by omega), if_neg (by omega)]
    congr 1; omega
  | c :: r, acc, v, h, h1, h2 => by
    simp only [parseUintM, List.cons_append] at h ⊢
    split at h
    · rename_i hc
      rw [if_pos hc]
      split at h
      · cases h
      · rename_i h3
        rw [if_neg h3]
        split at h
        · cases h
        · rename_i h4
          rw [if_neg h4]
          exact parseM_snoc M d hd r _ v h h1 h2
    · cases h

theorem parseM_dec (M : Nat) (hM : M ≤ 18446744073709551615) (u : Nat) (hu : u ≤ M) : parseUintM M 0 (decDigits u) = .ok u := by
  induction u using Nat.strongRecOn with
  | _ u ih =>
    rw [decDigits]
    split
    · rename_i h
      have := parseM_snoc M u h [] 0 0 rfl (by omega) (by omega)
      simpa using this
    · rename_i h
      have := parseM_snoc M (u % 10) (Nat.mod_lt _ (by decide)) _ 0 (u / 10) (ih (u / 10) (by omega) (by omega)) (by omega) (by omega)
      rw [this]
      congr 1; omega

theorem dec_ne (u : Nat) : decDigits u ≠ [] := by
  intro h
  have := decDigits_length u
  rw [h] at this
  rw [decDigits] at h
  split at h <;> simp at h

theorem dec_digits (u : Nat) : ∀ c ∈ decDigits u, 48 ≤ c.toNat ∧ c.toNat ≤ 57 := by
  induction u using Nat.strongRecOn with
  | _ u ih =>
    rw [decDigits]
    split
    · rename_i h
      intro c hc
      rw [List.mem_singleton.1 hc]
      have e : (UInt8.ofNat (48 + u)).toNat = 48 + u := by simp; omega
      omega
    · rename_i h
      intro c hc
      rcases List.mem_append.1 hc with hc | hc
      · exact ih (u / 10) (by omega) c hc
      · rw [List.mem_singleton.1 hc]
        have e : (UInt8.ofNat (48 + u % 10)).toNat = 48 + u % 10 := by simp; omega
        omega

theorem addrV_dec (u : Nat) (hu : u < 4294967296) : addrV ⟨(decDigits u).toArray⟩ = some (u : Int) := by
  have h : parseUintB 32 (decDigits u) = .ok u := by
    unfold parseUintB
    rw [if_neg (dec_ne u)]
    exact parseM_dec _ (by decide) u (by have : (2 ^ 32 - 1 : Nat) = 4294967295 := by decide
                                         omega)
  unfold addrV
  show (match parseUintB 32 (decDigits u).toArray.toList with | .ok v => some (v : Int) | _ => none) = _
  rw [List.toList_toArray, h]

theorem mag_dec (u : Nat) (hu : u < 18446744073709551616) : parseMag (decDigits u) = .ok u := by
  rw [← parseUintB_64, parseUintB, if_neg (dec_ne u)]
  exact parseM_dec _ (by decide) u (by have : (2 ^ 64 - 1 : Nat) = 18446744073709551615 := by decide
                                       omega)

theorem atoiAll_itoa (n : Int) (h0 : -9223372036854775808 ≤ n) (h1 : n ≤ 9223372036854775807) : atoiAll (itoa n) = .ok n := by
  by_cases hn : 0 ≤ n
  · obtain ⟨u, rfl⟩ : ∃ u : Nat, n = u := ⟨n.toNat, by omega⟩
    rw [itoa_nonneg]
    have hm := mag_dec u (by omega)
    have hd := dec_digits u
    cases hl : decDigits u with
    | nil => exact absurd hl (dec_ne u)
    | cons c r =>
      rw [hl] at hm hd
      have hc := hd c List.mem_cons_self
      unfold atoiAll
      simp only
      rw [if_neg (by omega), hm]
      simp only
      rw [if_neg (by omega), if_neg (by omega), if_neg (by omega)]
  · obtain ⟨u, rfl⟩ : ∃ u : Nat, n = -(u : Int) := ⟨n.natAbs, by omega⟩
    rw [itoa_neg u (by omega)]
    have hm := mag_dec u (by omega)
    unfold atoiAll
    simp only [show (45 : UInt8).toNat = 45 from rfl]
    rw [if_pos (Or.inr trivial), hm]
    simp only
    rw [if_neg (fun h => h.1 trivial), if_neg (fun h => by have := h.2; omega), if_pos trivial]

theorem numV_itoa (n : Int) (h0 : -9223372036854775808 ≤ n) (h1 : n ≤ 9223372036854775807) : numV ⟨(itoa n).toArray⟩ = some n := by
  unfold numV
  show (match atoiAll (itoa n).toArray.toList with | .ok v => some v | _ => none) = _
  rw [List.toList_toArray, atoiAll_itoa n h0 h1]

/-- The first ':' behind digits. -/
theorem cut_dec (u : Nat) (rest : List UInt8) : Lib.cut (decDigits u ++ 58 :: rest) [58] = (decDigits u, rest, true) := by
  have hi : Lib.index (decDigits u ++ 58 :: rest) [58] = ((decDigits u).length : Int) := by
    refine Lib.index_first (i := (decDigits u).length) (by simp) ?_ ?_
    · simp [Lib.occAt]
    · intro j hj
      have hd := dec_digits u (decDigits u)[j] (List.getElem_mem hj)
      have h3 : (decDigits u)[j] ≠ 58 := by
        intro e
        rw [e] at hd
        revert hd; decide
      unfold Lib.occAt
      rw [List.drop_append_of_le_length (by omega), List.drop_eq_getElem_cons hj]
      simp only [List.cons_append, List.isPrefixOf, Bool.and_eq_false_imp, beq_iff_eq]
      exact fun e => absurd e.symm h3
  unfold Lib.cut
  rw [hi, if_pos (by omega)]
  simp

theorem toL (l : List UInt8) : (⟨l.toArray⟩ : ByteArray).data.toList = l := List.toList_toArray
theorem ofL (s : ByteArray) : (⟨s.data.toList.toArray⟩ : ByteArray) = s := by simp
theorem ext_ba (a : ByteArray) (i j : Nat) (l : List UInt8) (h : (a.data.toList.drop i).take (j - i) = l) : a.extract i j = ⟨l.toArray⟩ := by
  rw [← ofL (a.extract i j), ← h, Lib.extract_data]

/-- What row.Texts lays before a text, row.Split reads off. -/
theorem head_piece (x : ByteArray) (rest : List UInt8) (hx : x.size ≤ 140737488355328) :
    okOf ⟨(pieceL x ++ rest).toArray⟩ = true ∧ tailOf ⟨(pieceL x ++ rest).toArray⟩ = ⟨(x.data.toList ++ rest).toArray⟩ ∧ headOf ⟨(pieceL x ++ rest).toArray⟩ = some x.size := by
  have hc : Lib.cut (⟨(pieceL x ++ rest).toArray⟩ : ByteArray).data.toList [58] = (decDigits x.size, x.data.toList ++ rest, true) := by
    rw [toL, pieceL, itoa_nonneg, List.append_assoc]
    exact cut_dec x.size _
  have h1 : okOf ⟨(pieceL x ++ rest).toArray⟩ = true := by unfold okOf; rw [hc]
  have h2 : tailOf ⟨(pieceL x ++ rest).toArray⟩ = ⟨(x.data.toList ++ rest).toArray⟩ := by unfold tailOf; rw [hc]
  have h3 : numOf ⟨(pieceL x ++ rest).toArray⟩ = ⟨(decDigits x.size).toArray⟩ := by unfold numOf; rw [hc]
  refine ⟨h1, h2, ?_⟩
  unfold headOf
  rw [h1, if_pos rfl, h3, toL, ← itoa_nonneg, atoiAll_itoa _ (by omega) (by omega)]
  simp only
  rw [if_pos, Int.toNat_natCast]
  have : x.data.toList.length = x.size := Array.length_toList
  have hz : (⟨(x.data.toList ++ rest).toArray⟩ : ByteArray).size = x.size + rest.length := by rw [ba_size (x.data.toList ++ rest), List.length_append, this]
  refine ⟨by omega, ?_, trivial⟩
  rw [h2, hz]
  omega

theorem split_texts : ∀ (l : List ByteArray) (g : Nat) (out : List ByteArray), l.length ≤ g → (textsL l).length ≤ 140737488355328 → splitGo g ⟨(textsL l).toArray⟩ out = (out ++ l, true)
  | [], 0, out, _, _ => by simp [splitGo]
  | [], g + 1, out, _, _ => by
    unfold splitGo
    rw [if_pos (by rw [ba_size]; rfl)]
    simp
  | x :: l, 0, out, h, _ => by simp at h
  | x :: l, g + 1, out, h, hb => by
    rw [textsL_cons] at hb ⊢
    rw [List.length_append, pieceL_length] at hb
    obtain ⟨h1, h2, h3⟩ := head_piece x (textsL l) (by omega)
    unfold splitGo
    rw [if_neg (by rw [ba_size, List.length_append, pieceL_length]; omega), h3]
    simp only
    rw [h2]
    have hxl : x.data.toList.length = x.size := Array.length_toList
    rw [ext_ba _ 0 x.size x.data.toList (by rw [toL, List.drop_zero, Nat.sub_zero, ← hxl]; exact List.take_left), ofL, ext_ba _ x.size _ (textsL l) (by rw [toL, ← hxl, List.drop_left]; exact List.take_of_length_le (by rw [ba_size (x.data.toList ++ textsL l), List.length_append]; omega))]
    rw [split_texts l g (out ++ [x]) (by simp at h; omega) (by omega)]
    simp

theorem Split_Texts (l : List ByteArray) (t : ByteArray) (h : row_Texts.f l = some t) (hs : t.size < 4294967281) : row_Split.f t = some (l, true) := by
  unfold row_Texts.f at h
  split at h
  · rename_i hb
    cases h
    unfold row_Split.f
    rw [if_pos hs, split_texts l _ [] (by rw [ba_size]; exact textsL_count l) hb]
    rfl
  · cases h

end Go.Proofs.YtppjodchlpapdaaDoor.PB
