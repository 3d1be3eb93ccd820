/- Contracts of functions of the given program, as printed by a program of this session. Conditions: the printed function has an answer. -/
import Derived.Test.YtppjodchlpapdaaDoorJGU0
import Derived.Test.YtppjodchlpapdaaDoorJGU1
-- By a program of this session (printx.py), out of Lean's own print of the translation. Not trusted: Lean checks it.
namespace Go.Proofs.YtppjodchlpapdaaDoor.PB
open Go.RowKit Go.Proofs.YtppjodchlpapdaaDoorW.PrintWords Go.Proofs.YtppjodchlpapdaaDoorW.PrintLast Go.Proofs.YtppjodchlpapdaaDoorW.PrintMore
attribute [local go_sem] max2_int min2_int max_two min_two max_three min_three max_four min_four   -- for this text's walks alone
set_option linter.unusedVariables false
set_option linter.unusedSimpArgs false

/-! ### interregnumlaw21_answers: function 8 -/
def interregnumlaw21_answers.f  : Option (Bool) := (row_Split.f (⟨#[50, 58, 97, 98, 48, 58]⟩ : ByteArray)).bind fun bt159 => ((row_Hop.f 0 0 7 0 0).bind fun t163 => ((row_ReadHop.f t163).bind fun bt164 => (if bt159.2 = true then (if (bt159.1.length : Int) = 2 then (if 0 < (bt159.1.length : Int) then (if (rdOf ByteArray.empty bt159.1 0).toList = ([97, 98] : List UInt8) then ((row_Texts.f (([(⟨#[97, 98]⟩ : ByteArray), (⟨#[]⟩ : ByteArray)] : List ByteArray))).bind fun t175 => (if t175.toList = ([50, 58, 97, 98, 48, 58] : List UInt8) then (if bt164.2.2.2.2.2 = true then (some (bt164.2.2.1 == 7)) else (some false)) else (some false))) else (some false)) else (none)) else (some false)) else (some false))))
set_option maxHeartbeats 8000000 in
set_option maxRecDepth 100000 in
theorem interregnumlaw21_answers.calls  (r : Bool) (w : World) (hV : VarsOk w) (h : interregnumlaw21_answers.f  = some r) :
    Calls Tryd.prog 8 #[] w fun e w' => e = .returned (.bool r) ∧ Below w.heap.size w w' := by
  have hu35 := Tryd.underlying35
  have HV := Aside0.mk hV
  clear hV
  have HB := Aside0.mk (Below.refl w.heap.size w)
  have H : ((row_Split.f (⟨#[50, 58, 97, 98, 48, 58]⟩ : ByteArray)).bind fun bt159 => ((row_Hop.f 0 0 7 0 0).bind fun t163 => ((row_ReadHop.f t163).bind fun bt164 => (if bt159.2 = true then (if (bt159.1.length : Int) = 2 then (if 0 < (bt159.1.length : Int) then (if (rdOf ByteArray.empty bt159.1 0).toList = ([97, 98] : List UInt8) then ((row_Texts.f (([(⟨#[97, 98]⟩ : ByteArray), (⟨#[]⟩ : ByteArray)] : List ByteArray))).bind fun t175 => (if t175.toList = ([50, 58, 97, 98, 48, 58] : List UInt8) then (if bt164.2.2.2.2.2 = true then (some (bt164.2.2.1 == 7)) else (some false)) else (some false))) else (some false)) else (none)) else (some false)) else (some false))))) = some r := h
  clear h
  replace H := Option.bind_eq_some_iff.mp H
  obtain ⟨⟨t159, t160⟩, A10, H⟩ := H
  replace H : ((row_Hop.f 0 0 7 0 0).bind fun t163 => ((row_ReadHop.f t163).bind fun bt164 => (if t160 = true then (if (t159.length : Int) = 2 then (if 0 < (t159.length : Int) then (if (rdOf ByteArray.empty t159 0).toList = ([97, 98] : List UInt8) then ((row_Texts.f (([(⟨#[97, 98]⟩ : ByteArray), (⟨#[]⟩ : ByteArray)] : List ByteArray))).bind fun t175 => (if t175.toList = ([50, 58, 97, 98, 48, 58] : List UInt8) then (if bt164.2.2.2.2.2 = true then (some (bt164.2.2.1 == 7)) else (some false)) else (some false))) else (some false)) else (none)) else (some false)) else (some false)))) = some r := H
  have A1 := Aside0.mk A10
  clear A10
  replace H := Option.bind_eq_some_iff.mp H
  obtain ⟨t163, A20, H⟩ := H
  replace H : ((row_ReadHop.f t163).bind fun bt164 => (if t160 = true then (if (t159.length : Int) = 2 then (if 0 < (t159.length : Int) then (if (rdOf ByteArray.empty t159 0).toList = ([97, 98] : List UInt8) then ((row_Texts.f (([(⟨#[97, 98]⟩ : ByteArray), (⟨#[]⟩ : ByteArray)] : List ByteArray))).bind fun t175 => (if t175.toList = ([50, 58, 97, 98, 48, 58] : List UInt8) then (if bt164.2.2.2.2.2 = true then (some (bt164.2.2.1 == 7)) else (some false)) else (some false))) else (some false)) else (none)) else (some false)) else (some false))) = some r := H
  have A2 := Aside0.mk A20
  clear A20
  replace H := Option.bind_eq_some_iff.mp H
  obtain ⟨⟨t164, t165, t166, t167, t168, t169⟩, A30, H⟩ := H
  replace H : (if t160 = true then (if (t159.length : Int) = 2 then (if 0 < (t159.length : Int) then (if (rdOf ByteArray.empty t159 0).toList = ([97, 98] : List UInt8) then ((row_Texts.f (([(⟨#[97, 98]⟩ : ByteArray), (⟨#[]⟩ : ByteArray)] : List ByteArray))).bind fun t175 => (if t175.toList = ([50, 58, 97, 98, 48, 58] : List UInt8) then (if t169 = true then (some (t166 == 7)) else (some false)) else (some false))) else (some false)) else (none)) else (some false)) else (some false)) = some r := H
  have A3 := Aside0.mk A30
  clear A30
  by_cases c4 : t160 = true
  · subst c4
    have H1 : (if (t159.length : Int) = 2 then (if 0 < (t159.length : Int) then (if (rdOf ByteArray.empty t159 0).toList = ([97, 98] : List UInt8) then ((row_Texts.f (([(⟨#[97, 98]⟩ : ByteArray), (⟨#[]⟩ : ByteArray)] : List ByteArray))).bind fun t175 => (if t175.toList = ([50, 58, 97, 98, 48, 58] : List UInt8) then (if t169 = true then (some (t166 == 7)) else (some false)) else (some false))) else (some false)) else (none)) else (some false)) = some r := by rw [if_pos rfl] at H; exact H
    clear H
    have H := H1
    clear H1
    by_cases c5 : (t159.length : Int) = 2
    · rw [if_pos c5] at H
      have c5b0 : ((t159.length : Int) == 2) = true := beq_iff_eq.mpr c5
      have c5b1 : ((t159.length : Int) != 2) = false := bne_eq_false_iff_eq.mpr c5
      clear c5
      by_cases c6 : 0 < (t159.length : Int)
      · rw [if_pos c6] at H
        have c6b0 : decide (0 < (t159.length : Int)) = true := decide_eq_true c6
        have c6b1 : decide (0 < t159.length) = true := decide_eq_true (by omega)
        clear c6
        by_cases c7 : (rdOf ByteArray.empty t159 0).toList = ([97, 98] : List UInt8)
        · rw [if_pos c7] at H
          have c7b0 : ((rdOf ByteArray.empty t159 0).toList == ([97, 98] : List UInt8)) = true := beq_iff_eq.mpr c7
          have c7b1 : ((rdOf ByteArray.empty t159 0).toList != ([97, 98] : List UInt8)) = false := bne_eq_false_iff_eq.mpr c7
          clear c7
          obtain ⟨y172, hy172⟩ : ∃ y_ : List ByteArray, y_ = (([(⟨#[97, 98]⟩ : ByteArray), (⟨#[]⟩ : ByteArray)] : List ByteArray)) := ⟨_, rfl⟩
          replace H : ((row_Texts.f y172).bind fun t175 => (if t175.toList = ([50, 58, 97, 98, 48, 58] : List UInt8) then (if t169 = true then (some (t166 == 7)) else (some false)) else (some false))) = some r := by first | (rw [hy172]; with_reducible exact H) | (have H2_ := (Option.bind_some _ _).symm.trans H; rw [hy172]; with_reducible exact H2_) | (have H2_ := (Option.bind_some _ _).symm.trans H; with_reducible exact H2_) | with_reducible exact H | (rw [hy172]; exact H) | exact H
          have Ny172 := Aside0.mk hy172
          clear hy172
          replace H := Option.bind_eq_some_iff.mp H
          obtain ⟨t175, A80, H⟩ := H
          replace H : (if t175.toList = ([50, 58, 97, 98, 48, 58] : List UInt8) then (if t169 = true then (some (t166 == 7)) else (some false)) else (some false)) = some r := H
          have A8 := Aside0.mk A80
          clear A80
          by_cases c9 : t175.toList = ([50, 58, 97, 98, 48, 58] : List UInt8)
          · rw [if_pos c9] at H
            have c9b0 : (t175.toList == ([50, 58, 97, 98, 48, 58] : List UInt8)) = true := beq_iff_eq.mpr c9
            have c9b1 : (t175.toList != ([50, 58, 97, 98, 48, 58] : List UInt8)) = false := bne_eq_false_iff_eq.mpr c9
            clear c9
            by_cases c10 : t169 = true
            · subst c10
              have H1 : (some (t166 == 7)) = some r := by rw [if_pos rfl] at H; exact H
              clear H
              have H := H1
              clear H1
              obtain rfl := Option.some.inj H
              go_enter Tryd.func8, Tryd.ntmps8
              go_wp2_with (first | ((with_reducible refine gate_callee (f := 10) rfl ?_); refine goesL_ (some 6) rfl rfl Tryd.func10 (by kernel_rfl) rfl #[.string (⟨#[50, 58, 97, 98, 48, 58]⟩ : ByteArray)] rfl (by (try simp only [List.map_toArray, List.map_cons, List.map_nil]); first | done | rfl | (simp only [List.length_drop, List.length_take]; rfl)) ?_; (with_reducible refine (row_Split.calls (⟨#[50, 58, 97, 98, 48, 58]⟩ : ByteArray) t159 true _ ?side1 A1.out).mono ?_); (case side1 => exact VarsOk.below HV.out (by repeat (first | (with_reducible first | exact HB.out | apply below_alloc | apply pw_below_drewN | apply below_drew1) | exact HB.out))); rintro e w11 ⟨v161, rfl, ho0, hb⟩; refine ⟨_, rfl, ?_⟩; have n0_ := Aside0.mk (Kd.R_lower ho0 (below_size (by repeat (first | (with_reducible first | exact HB.out | apply below_alloc | apply pw_below_drewN | apply below_drew1) | exact HB.out)))); have n1_ := Aside0.mk (below_step (by repeat (first | (with_reducible first | exact HB.out | apply below_alloc | apply pw_below_drewN | apply below_drew1) | exact HB.out)) hb); clear HB; have HO162 := n0_; have HB := n1_; clear n0_ n1_; (try clear hb); (try clear hb2); (try clear hk); (try clear hi); (try clear ho0)) | ((with_reducible refine gate_callee (f := 14) rfl ?_); refine goesL_ (some 11) rfl rfl Tryd.func14 (by kernel_rfl) rfl #[.agg #[.int .u32 0, .int .i64 0, .int .u32 7, .int .i64 0, .int .i64 0]] rfl (by (try simp only [List.map_toArray, List.map_cons, List.map_nil]); first | done | rfl | (simp only [List.length_drop, List.length_take]; rfl)) ?_; (with_reducible refine (row_Hop.calls 0 0 7 0 0 t163 _ ?side1 A2.out).mono ?_); (case side1 => exact VarsOk.below HV.out (by repeat (first | (with_reducible first | exact HB.out | apply below_alloc | apply pw_below_drewN | apply below_drew1) | exact HB.out))); rintro e w12 ⟨rfl, hb⟩; refine ⟨_, rfl, ?_⟩; have n0_ := Aside0.mk (Kd.R_below (by (with_reducible repeat (first | apply Kd.R_alloc | apply Kd.R_drewN | apply Kd.R_drew)); exact HO162.out) hb); have n1_ := Aside0.mk (below_step (by repeat (first | (with_reducible first | exact HB.out | apply below_alloc | apply pw_below_drewN | apply below_drew1) | exact HB.out)) hb); clear HO162; clear HB; have HO162 := n0_; have HB := n1_; clear n0_ n1_; (try clear hb); (try clear hb2); (try clear hk); (try clear hi)) | ((with_reducible refine gate_callee (f := 15) rfl ?_); refine goesL_ (some 12) rfl rfl Tryd.func15 (by kernel_rfl) rfl #[.string t163] rfl (by (try simp only [List.map_toArray, List.map_cons, List.map_nil]); first | done | rfl | (simp only [List.length_drop, List.length_take]; rfl)) ?_; (with_reducible refine (row_ReadHop.calls t163 t164 t165 t166 t167 t168 true _ ?side1 A3.out).mono ?_); (case side1 => exact VarsOk.below HV.out (by repeat (first | (with_reducible first | exact HB.out | apply below_alloc | apply pw_below_drewN | apply below_drew1) | exact HB.out))); rintro e w13 ⟨rfl, hb⟩; refine ⟨_, rfl, ?_⟩; have n0_ := Aside0.mk (Kd.R_below (by (with_reducible repeat (first | apply Kd.R_alloc | apply Kd.R_drewN | apply Kd.R_drew)); exact HO162.out) hb); have n1_ := Aside0.mk (below_step (by repeat (first | (with_reducible first | exact HB.out | apply below_alloc | apply pw_below_drewN | apply below_drew1) | exact HB.out)) hb); clear HO162; clear HB; have HO162 := n0_; have HB := n1_; clear n0_ n1_; (try clear hb); (try clear hb2); (try clear hk); (try clear hi)) | ((with_reducible refine gate_dst (N := 3) rfl ?_); (try (refine gate_guard (by rfl) ?_; dsimp only)); refine box_event ?hg (N := 3) ?hd (cs := #[.int .u32 0, .int .i64 0, .int .u32 0, .int .i64 0, .int .i64 0]) (t := 35) ?hr ?_; (case hd => rfl); (case hg => rfl); (case hr => first | (go_simp; done) | (go_simp; rfl) | (go_simp; simp [IntKind.wrap_u8]; done)); intro gb170 hg w14 hbox hb; have n0_ := Aside0.mk (Kd.R_below (by (with_reducible repeat (first | apply Kd.R_alloc | apply Kd.R_drewN | apply Kd.R_drew)); exact HO162.out) hb); have n1_ := Aside0.mk (below_step (by repeat (first | (with_reducible first | exact HB.out | apply below_alloc | apply pw_below_drewN | apply below_drew1) | exact HB.out)) hb); have n2_ := Aside0.mk (hbox); have n3_ := Aside0.mk ((by rw [hg]; exact (below_size (by repeat (first | (with_reducible first | exact HB.out | apply below_alloc | apply pw_below_drewN | apply below_drew1) | exact HB.out))) : w.heap.size ≤ gb170)); have n4_ := Aside0.mk ((by rw [hg]; exact (below_size (by repeat (first | (with_reducible first | exact HB.out | apply below_alloc | apply pw_below_drewN | apply below_drew1) | exact HB.out))) : w.heap.size ≤ gb170)); clear HO162; clear HB; have HO162 := n0_; have HB := n1_; have BK170 := n2_; have GW170 := n3_; have GE170 := n4_; clear n0_ n1_ n2_ n3_ n4_; clear hb hbox hg; have hcz15_0 : w14.cell? ⟨gb170, 0, none⟩ = some (.int .u32 0) := (blk_cell BK170.out 0).trans rfl; have hcz15_1 : w14.cell? ⟨gb170, 1, none⟩ = some (.int .i64 0) := (blk_cell BK170.out 1).trans rfl; have hcz15_2 : w14.cell? ⟨gb170, 2, none⟩ = some (.int .u32 0) := (blk_cell BK170.out 2).trans rfl; have hcz15_3 : w14.cell? ⟨gb170, 3, none⟩ = some (.int .i64 0) := (blk_cell BK170.out 3).trans rfl; have hcz15_4 : w14.cell? ⟨gb170, 4, none⟩ = some (.int .i64 0) := (blk_cell BK170.out 4).trans rfl; have hfz15_0 := blk_frozen BK170.out 0; have hfz15_1 := blk_frozen BK170.out 1; have hfz15_2 := blk_frozen BK170.out 2; have hfz15_3 := blk_frozen BK170.out 3; have hfz15_4 := blk_frozen BK170.out 4; obtain ⟨Ao16, co16, eo16⟩ := Kd.R_slice HO162.out; subst eo16; have p171 : 0 ≤ (0 : Int) := (by omega); have q171 : 0 < (t159.length : Int) := of_decide_eq_true (by first | (with_reducible assumption) | assumption); obtain ⟨ad171, e171, hx171_0⟩ := Kd.at_string (Kd.R_reads' HO162.out).2.2 0 p171 q171; cases e171; have qi171 : (0 < t159.length) = True := eq_true (by omega); (try rw [show ((0 : Int)).toNat = 0 from rfl] at hx171_0); (try rw [Addr.add_zero'] at hx171_0); have hn171_0 : ad171.block ≠ gb170 := Kd.own_blk (Kd.R_ne HO162.out BK170.out (by decide)); have hn171_1 : ad171.block ≠ gb170 := Kd.own_blk (Kd.R_ne HO162.out BK170.out (by decide)); have hn171_2 : ad171.block ≠ gb170 := Kd.own_blk (Kd.R_ne HO162.out BK170.out (by decide)); have hn171_3 : ad171.block ≠ gb170 := Kd.own_blk (Kd.R_ne HO162.out BK170.out (by decide)); have hn171_4 : ad171.block ≠ gb170 := Kd.own_blk (Kd.R_ne HO162.out BK170.out (by decide)); replace hx171_0 := (cell_far (p := ⟨gb170, 0, none⟩) (by first | (rw [add_block]; exact hn171_0) | (show (Addr.add _ _).block ≠ _; rw [add_block]; exact hn171_0) | exact hn171_0) (.int .u32 t164)).trans hx171_0; replace hx171_0 := (cell_far (p := ⟨gb170, 1, none⟩) (by first | (rw [add_block]; exact hn171_1) | (show (Addr.add _ _).block ≠ _; rw [add_block]; exact hn171_1) | exact hn171_1) (.int .i64 t165)).trans hx171_0; replace hx171_0 := (cell_far (p := ⟨gb170, 2, none⟩) (by first | (rw [add_block]; exact hn171_2) | (show (Addr.add _ _).block ≠ _; rw [add_block]; exact hn171_2) | exact hn171_2) (.int .u32 t166)).trans hx171_0; replace hx171_0 := (cell_far (p := ⟨gb170, 3, none⟩) (by first | (rw [add_block]; exact hn171_3) | (show (Addr.add _ _).block ≠ _; rw [add_block]; exact hn171_3) | exact hn171_3) (.int .i64 t167)).trans hx171_0; replace hx171_0 := (cell_far (p := ⟨gb170, 4, none⟩) (by first | (rw [add_block]; exact hn171_4) | (show (Addr.add _ _).block ≠ _; rw [add_block]; exact hn171_4) | exact hn171_4) (.int .i64 t168)).trans hx171_0; clear hn171_0; clear hn171_1; clear hn171_2; clear hn171_3; clear hn171_4; replace p171 := eq_true p171; replace q171 := eq_true q171) | ((with_reducible refine gate_dst (N := 28) rfl ?_); (try (refine gate_guard (by rfl) ?_; dsimp only)); refine Kd.R_lit Kd.string _ 9 ?hg (N := 28) ?hd (xs := ([(⟨#[97, 98]⟩ : ByteArray), (⟨#[]⟩ : ByteArray)] : List ByteArray)) (inner := [.string (⟨#[97, 98]⟩ : ByteArray), .string (⟨#[]⟩ : ByteArray)]) (ok := fun _ => True) (okp := fun _ => True) ?hr ?hp (fun _ hk => hk) trivial (Below.refl _ _) (Nat.le_refl _) (by simp) ?_; (case hd => rfl); (case hg => rfl); (case hr => first | (go_simp; done) | (go_simp; rfl) | (go_simp; simp [IntKind.wrap_u8]; done)); (case hp => exact (Reps.one (show Kd.M Kd.string _ _ _ (⟨#[97, 98]⟩ : ByteArray) [.string (⟨#[97, 98]⟩ : ByteArray)] from rfl) (Reps.one (show Kd.M Kd.string _ _ _ (⟨#[]⟩ : ByteArray) [.string (⟨#[]⟩ : ByteArray)] from rfl) (Reps.none _ _)))); intro v173 w17 ho18 hb hg_ hnew_; clear hg_ hnew_; (first | rw [← Ny172.out] at ho18 | (simp only [Int.reduceToNat] at ho18; rw [← Ny172.out] at ho18)); have n0_ := Aside0.mk (Kd.R_elder' (by (with_reducible repeat (first | apply Kd.R_alloc | apply Kd.R_drewN | apply Kd.R_drew)); exact (Kd.R_mono (Kd.R_far (p := ⟨gb170, 4, none⟩) (Kd.R_far (p := ⟨gb170, 3, none⟩) (Kd.R_far (p := ⟨gb170, 2, none⟩) (Kd.R_far (p := ⟨gb170, 1, none⟩) (Kd.R_far (p := ⟨gb170, 0, none⟩) (Kd.R_types HO162.out BK170.out (by decide)) (fun _ hk => hk.2) (.int .u32 t164)) (fun _ hk => hk.2) (.int .i64 t165)) (fun _ hk => hk.2) (.int .u32 t166)) (fun _ hk => hk.2) (.int .i64 t167)) (fun _ hk => hk.2) (.int .i64 t168)) (fun _ h_ => h_.1))) (Kd.R_base ho18) hb); have n1_ := Aside0.mk (Kd.R_lower (Kd.R_new' ho18 (Kd.R_lt (by (with_reducible repeat (first | apply Kd.R_alloc | apply Kd.R_drewN | apply Kd.R_drew)); exact (Kd.R_mono (Kd.R_far (p := ⟨gb170, 4, none⟩) (Kd.R_far (p := ⟨gb170, 3, none⟩) (Kd.R_far (p := ⟨gb170, 2, none⟩) (Kd.R_far (p := ⟨gb170, 1, none⟩) (Kd.R_far (p := ⟨gb170, 0, none⟩) (Kd.R_types HO162.out BK170.out (by decide)) (fun _ hk => hk.2) (.int .u32 t164)) (fun _ hk => hk.2) (.int .i64 t165)) (fun _ hk => hk.2) (.int .u32 t166)) (fun _ hk => hk.2) (.int .i64 t167)) (fun _ hk => hk.2) (.int .i64 t168)) (fun _ h_ => h_.1))))) (below_size (by repeat (first | (with_reducible first | exact HB.out | apply below_alloc | apply pw_below_drewN | apply below_drew1 | refine below_set ?_ GE170.out) | exact HB.out)))); have n2_ := Aside0.mk (blk_below (g := gb170) (o := .cells #[.int .u32 t164, .int .i64 t165, .int .u32 t166, .int .i64 t167, .int .i64 t168] 35 (0, 0)) (by (with_reducible repeat (first | refine blk_drewN ?_ _ | refine blk_drew ?_ | refine blk_alloc ?_ _)); refine blk_put (cs := #[.int .u32 t164, .int .i64 t165, .int .u32 t166, .int .i64 t167, .int .i64 0]) ?_ 4 _ rfl; (with_reducible repeat (first | refine blk_drewN ?_ _ | refine blk_drew ?_ | refine blk_alloc ?_ _)); refine blk_put (cs := #[.int .u32 t164, .int .i64 t165, .int .u32 t166, .int .i64 0, .int .i64 0]) ?_ 3 _ rfl; (with_reducible repeat (first | refine blk_drewN ?_ _ | refine blk_drew ?_ | refine blk_alloc ?_ _)); refine blk_put (cs := #[.int .u32 t164, .int .i64 t165, .int .u32 0, .int .i64 0, .int .i64 0]) ?_ 2 _ rfl; (with_reducible repeat (first | refine blk_drewN ?_ _ | refine blk_drew ?_ | refine blk_alloc ?_ _)); refine blk_put (cs := #[.int .u32 t164, .int .i64 0, .int .u32 0, .int .i64 0, .int .i64 0]) ?_ 1 _ rfl; (with_reducible repeat (first | refine blk_drewN ?_ _ | refine blk_drew ?_ | refine blk_alloc ?_ _)); refine blk_put (cs := #[.int .u32 0, .int .i64 0, .int .u32 0, .int .i64 0, .int .i64 0]) ?_ 0 _ rfl; (with_reducible repeat (first | refine blk_drewN ?_ _ | refine blk_drew ?_ | refine blk_alloc ?_ _)); exact BK170.out) hb); have n3_ := Aside0.mk (below_step (by repeat (first | (with_reducible first | exact HB.out | apply below_alloc | apply pw_below_drewN | apply below_drew1 | refine below_set ?_ GE170.out) | exact HB.out)) hb); clear HO162; clear BK170; clear HB; have HO162 := n0_; have HO174 := n1_; have BK170 := n2_; have HB := n3_; clear n0_ n1_ n2_ n3_; clear hb ho18; obtain ⟨Ao19, co19, eo19⟩ := Kd.R_slice HO174.out; subst eo19) | (go_at_call 9; (with_reducible refine (row_Texts.calls _ _ y172 t175 _ ?side1 ?side2 ?side3 A8.out).mono ?_); (case side1 => exact VarsOk.below HV.out (by repeat (first | (with_reducible first | exact HB.out | apply below_alloc | apply pw_below_drewN | apply below_drew1 | refine below_set ?_ GE170.out) | exact HB.out))); (case side2 => repeat (first | exact (Kd.R_reads' HO174.out).2.2 | (with_reducible refine Kd.C_alloc ?_ _) | (with_reducible refine Kd.C_drewN ?_ _) | (with_reducible refine Kd.C_drew ?_))); (case side3 => exact (Kd.R_reads' HO174.out).2.1); rintro e w20 ⟨rfl, hb⟩; have n0_ := Aside0.mk (Kd.R_below (by (with_reducible repeat (first | apply Kd.R_alloc | apply Kd.R_drewN | apply Kd.R_drew)); exact HO162.out) hb); have n1_ := Aside0.mk (Kd.R_below (by (with_reducible repeat (first | apply Kd.R_alloc | apply Kd.R_drewN | apply Kd.R_drew)); exact HO174.out) hb); have n2_ := Aside0.mk (blk_below (g := gb170) (o := .cells #[.int .u32 t164, .int .i64 t165, .int .u32 t166, .int .i64 t167, .int .i64 t168] 35 (0, 0)) (by (with_reducible repeat (first | refine blk_drewN ?_ _ | refine blk_drew ?_ | refine blk_alloc ?_ _)); exact BK170.out) hb); have n3_ := Aside0.mk (below_step (by repeat (first | (with_reducible first | exact HB.out | apply below_alloc | apply pw_below_drewN | apply below_drew1 | refine below_set ?_ GE170.out) | exact HB.out)) hb); clear HO162; clear HO174; clear BK170; clear HB; have HO162 := n0_; have HO174 := n1_; have BK170 := n2_; have HB := n3_; clear n0_ n1_ n2_ n3_; (try clear hb); (try clear hb2); (try clear hk); (try clear hi); have hcz21_0 : w20.cell? ⟨gb170, 0, none⟩ = some (.int .u32 t164) := (blk_cell BK170.out 0).trans rfl; have hcz21_1 : w20.cell? ⟨gb170, 1, none⟩ = some (.int .i64 t165) := (blk_cell BK170.out 1).trans rfl; have hcz21_2 : w20.cell? ⟨gb170, 2, none⟩ = some (.int .u32 t166) := (blk_cell BK170.out 2).trans rfl; have hcz21_3 : w20.cell? ⟨gb170, 3, none⟩ = some (.int .i64 t167) := (blk_cell BK170.out 3).trans rfl; have hcz21_4 : w20.cell? ⟨gb170, 4, none⟩ = some (.int .i64 t168) := (blk_cell BK170.out 4).trans rfl; have hfz21_0 := blk_frozen BK170.out 0; have hfz21_1 := blk_frozen BK170.out 1; have hfz21_2 := blk_frozen BK170.out 2; have hfz21_3 := blk_frozen BK170.out 3; have hfz21_4 := blk_frozen BK170.out 4))
              go_ret
              exact ⟨by first | rfl | (simp [errW_none, errW_some] <;> rfl) | (simp [*, errW_none, errW_some] <;> rfl), by repeat (first | (with_reducible first | exact HB.out | apply below_alloc | apply pw_below_drewN | apply below_drew1 | refine below_set ?_ GE170.out) | exact HB.out)⟩
            · replace c10 := Bool.eq_false_iff.mpr c10
              subst c10
              have H1 : (some false) = some r := by rw [if_neg (show ¬ (false = true) by decide)] at H; exact H
              clear H
              have H := H1
              clear H1
              obtain rfl := Option.some.inj H
              go_enter Tryd.func8, Tryd.ntmps8
              go_wp2_with (first | ((with_reducible refine gate_callee (f := 10) rfl ?_); refine goesL_ (some 6) rfl rfl Tryd.func10 (by kernel_rfl) rfl #[.string (⟨#[50, 58, 97, 98, 48, 58]⟩ : ByteArray)] rfl (by (try simp only [List.map_toArray, List.map_cons, List.map_nil]); first | done | rfl | (simp only [List.length_drop, List.length_take]; rfl)) ?_; (with_reducible refine (row_Split.calls (⟨#[50, 58, 97, 98, 48, 58]⟩ : ByteArray) t159 true _ ?side1 A1.out).mono ?_); (case side1 => exact VarsOk.below HV.out (by repeat (first | (with_reducible first | exact HB.out | apply below_alloc | apply pw_below_drewN | apply below_drew1) | exact HB.out))); rintro e w22 ⟨v161, rfl, ho0, hb⟩; refine ⟨_, rfl, ?_⟩; have n0_ := Aside0.mk (Kd.R_lower ho0 (below_size (by repeat (first | (with_reducible first | exact HB.out | apply below_alloc | apply pw_below_drewN | apply below_drew1) | exact HB.out)))); have n1_ := Aside0.mk (below_step (by repeat (first | (with_reducible first | exact HB.out | apply below_alloc | apply pw_below_drewN | apply below_drew1) | exact HB.out)) hb); clear HB; have HO162 := n0_; have HB := n1_; clear n0_ n1_; (try clear hb); (try clear hb2); (try clear hk); (try clear hi); (try clear ho0)) | ((with_reducible refine gate_callee (f := 14) rfl ?_); refine goesL_ (some 11) rfl rfl Tryd.func14 (by kernel_rfl) rfl #[.agg #[.int .u32 0, .int .i64 0, .int .u32 7, .int .i64 0, .int .i64 0]] rfl (by (try simp only [List.map_toArray, List.map_cons, List.map_nil]); first | done | rfl | (simp only [List.length_drop, List.length_take]; rfl)) ?_; (with_reducible refine (row_Hop.calls 0 0 7 0 0 t163 _ ?side1 A2.out).mono ?_); (case side1 => exact VarsOk.below HV.out (by repeat (first | (with_reducible first | exact HB.out | apply below_alloc | apply pw_below_drewN | apply below_drew1) | exact HB.out))); rintro e w23 ⟨rfl, hb⟩; refine ⟨_, rfl, ?_⟩; have n0_ := Aside0.mk (Kd.R_below (by (with_reducible repeat (first | apply Kd.R_alloc | apply Kd.R_drewN | apply Kd.R_drew)); exact HO162.out) hb); have n1_ := Aside0.mk (below_step (by repeat (first | (with_reducible first | exact HB.out | apply below_alloc | apply pw_below_drewN | apply below_drew1) | exact HB.out)) hb); clear HO162; clear HB; have HO162 := n0_; have HB := n1_; clear n0_ n1_; (try clear hb); (try clear hb2); (try clear hk); (try clear hi)) | ((with_reducible refine gate_callee (f := 15) rfl ?_); refine goesL_ (some 12) rfl rfl Tryd.func15 (by kernel_rfl) rfl #[.string t163] rfl (by (try simp only [List.map_toArray, List.map_cons, List.map_nil]); first | done | rfl | (simp only [List.length_drop, List.length_take]; rfl)) ?_; (with_reducible refine (row_ReadHop.calls t163 t164 t165 t166 t167 t168 false _ ?side1 A3.out).mono ?_); (case side1 => exact VarsOk.below HV.out (by repeat (first | (with_reducible first | exact HB.out | apply below_alloc | apply pw_below_drewN | apply below_drew1) | exact HB.out))); rintro e w24 ⟨rfl, hb⟩; refine ⟨_, rfl, ?_⟩; have n0_ := Aside0.mk (Kd.R_below (by (with_reducible repeat (first | apply Kd.R_alloc | apply Kd.R_drewN | apply Kd.R_drew)); exact HO162.out) hb); have n1_ := Aside0.mk (below_step (by repeat (first | (with_reducible first | exact HB.out | apply below_alloc | apply pw_below_drewN | apply below_drew1) | exact HB.out)) hb); clear HO162; clear HB; have HO162 := n0_; have HB := n1_; clear n0_ n1_; (try clear hb); (try clear hb2); (try clear hk); (try clear hi)) | ((with_reducible refine gate_dst (N := 3) rfl ?_); (try (refine gate_guard (by rfl) ?_; dsimp only)); refine box_event ?hg (N := 3) ?hd (cs := #[.int .u32 0, .int .i64 0, .int .u32 0, .int .i64 0, .int .i64 0]) (t := 35) ?hr ?_; (case hd => rfl); (case hg => rfl); (case hr => first | (go_simp; done) | (go_simp; rfl) | (go_simp; simp [IntKind.wrap_u8]; done)); intro gb170 hg w25 hbox hb; have n0_ := Aside0.mk (Kd.R_below (by (with_reducible repeat (first | apply Kd.R_alloc | apply Kd.R_drewN | apply Kd.R_drew)); exact HO162.out) hb); have n1_ := Aside0.mk (below_step (by repeat (first | (with_reducible first | exact HB.out | apply below_alloc | apply pw_below_drewN | apply below_drew1) | exact HB.out)) hb); have n2_ := Aside0.mk (hbox); have n3_ := Aside0.mk ((by rw [hg]; exact (below_size (by repeat (first | (with_reducible first | exact HB.out | apply below_alloc | apply pw_below_drewN | apply below_drew1) | exact HB.out))) : w.heap.size ≤ gb170)); have n4_ := Aside0.mk ((by rw [hg]; exact (below_size (by repeat (first | (with_reducible first | exact HB.out | apply below_alloc | apply pw_below_drewN | apply below_drew1) | exact HB.out))) : w.heap.size ≤ gb170)); clear HO162; clear HB; have HO162 := n0_; have HB := n1_; have BK170 := n2_; have GW170 := n3_; have GE170 := n4_; clear n0_ n1_ n2_ n3_ n4_; clear hb hbox hg; have hcz26_0 : w25.cell? ⟨gb170, 0, none⟩ = some (.int .u32 0) := (blk_cell BK170.out 0).trans rfl; have hcz26_1 : w25.cell? ⟨gb170, 1, none⟩ = some (.int .i64 0) := (blk_cell BK170.out 1).trans rfl; have hcz26_2 : w25.cell? ⟨gb170, 2, none⟩ = some (.int .u32 0) := (blk_cell BK170.out 2).trans rfl; have hcz26_3 : w25.cell? ⟨gb170, 3, none⟩ = some (.int .i64 0) := (blk_cell BK170.out 3).trans rfl; have hcz26_4 : w25.cell? ⟨gb170, 4, none⟩ = some (.int .i64 0) := (blk_cell BK170.out 4).trans rfl; have hfz26_0 := blk_frozen BK170.out 0; have hfz26_1 := blk_frozen BK170.out 1; have hfz26_2 := blk_frozen BK170.out 2; have hfz26_3 := blk_frozen BK170.out 3; have hfz26_4 := blk_frozen BK170.out 4; obtain ⟨Ao27, co27, eo27⟩ := Kd.R_slice HO162.out; subst eo27; have p171 : 0 ≤ (0 : Int) := (by omega); have q171 : 0 < (t159.length : Int) := of_decide_eq_true (by first | (with_reducible assumption) | assumption); obtain ⟨ad171, e171, hx171_0⟩ := Kd.at_string (Kd.R_reads' HO162.out).2.2 0 p171 q171; cases e171; have qi171 : (0 < t159.length) = True := eq_true (by omega); (try rw [show ((0 : Int)).toNat = 0 from rfl] at hx171_0); (try rw [Addr.add_zero'] at hx171_0); have hn171_0 : ad171.block ≠ gb170 := Kd.own_blk (Kd.R_ne HO162.out BK170.out (by decide)); have hn171_1 : ad171.block ≠ gb170 := Kd.own_blk (Kd.R_ne HO162.out BK170.out (by decide)); have hn171_2 : ad171.block ≠ gb170 := Kd.own_blk (Kd.R_ne HO162.out BK170.out (by decide)); have hn171_3 : ad171.block ≠ gb170 := Kd.own_blk (Kd.R_ne HO162.out BK170.out (by decide)); have hn171_4 : ad171.block ≠ gb170 := Kd.own_blk (Kd.R_ne HO162.out BK170.out (by decide)); replace hx171_0 := (cell_far (p := ⟨gb170, 0, none⟩) (by first | (rw [add_block]; exact hn171_0) | (show (Addr.add _ _).block ≠ _; rw [add_block]; exact hn171_0) | exact hn171_0) (.int .u32 t164)).trans hx171_0; replace hx171_0 := (cell_far (p := ⟨gb170, 1, none⟩) (by first | (rw [add_block]; exact hn171_1) | (show (Addr.add _ _).block ≠ _; rw [add_block]; exact hn171_1) | exact hn171_1) (.int .i64 t165)).trans hx171_0; replace hx171_0 := (cell_far (p := ⟨gb170, 2, none⟩) (by first | (rw [add_block]; exact hn171_2) | (show (Addr.add _ _).block ≠ _; rw [add_block]; exact hn171_2) | exact hn171_2) (.int .u32 t166)).trans hx171_0; replace hx171_0 := (cell_far (p := ⟨gb170, 3, none⟩) (by first | (rw [add_block]; exact hn171_3) | (show (Addr.add _ _).block ≠ _; rw [add_block]; exact hn171_3) | exact hn171_3) (.int .i64 t167)).trans hx171_0; replace hx171_0 := (cell_far (p := ⟨gb170, 4, none⟩) (by first | (rw [add_block]; exact hn171_4) | (show (Addr.add _ _).block ≠ _; rw [add_block]; exact hn171_4) | exact hn171_4) (.int .i64 t168)).trans hx171_0; clear hn171_0; clear hn171_1; clear hn171_2; clear hn171_3; clear hn171_4; replace p171 := eq_true p171; replace q171 := eq_true q171) | ((with_reducible refine gate_dst (N := 28) rfl ?_); (try (refine gate_guard (by rfl) ?_; dsimp only)); refine Kd.R_lit Kd.string _ 9 ?hg (N := 28) ?hd (xs := ([(⟨#[97, 98]⟩ : ByteArray), (⟨#[]⟩ : ByteArray)] : List ByteArray)) (inner := [.string (⟨#[97, 98]⟩ : ByteArray), .string (⟨#[]⟩ : ByteArray)]) (ok := fun _ => True) (okp := fun _ => True) ?hr ?hp (fun _ hk => hk) trivial (Below.refl _ _) (Nat.le_refl _) (by simp) ?_; (case hd => rfl); (case hg => rfl); (case hr => first | (go_simp; done) | (go_simp; rfl) | (go_simp; simp [IntKind.wrap_u8]; done)); (case hp => exact (Reps.one (show Kd.M Kd.string _ _ _ (⟨#[97, 98]⟩ : ByteArray) [.string (⟨#[97, 98]⟩ : ByteArray)] from rfl) (Reps.one (show Kd.M Kd.string _ _ _ (⟨#[]⟩ : ByteArray) [.string (⟨#[]⟩ : ByteArray)] from rfl) (Reps.none _ _)))); intro v173 w28 ho29 hb hg_ hnew_; clear hg_ hnew_; (first | rw [← Ny172.out] at ho29 | (simp only [Int.reduceToNat] at ho29; rw [← Ny172.out] at ho29)); have n0_ := Aside0.mk (Kd.R_elder' (by (with_reducible repeat (first | apply Kd.R_alloc | apply Kd.R_drewN | apply Kd.R_drew)); exact (Kd.R_mono (Kd.R_far (p := ⟨gb170, 4, none⟩) (Kd.R_far (p := ⟨gb170, 3, none⟩) (Kd.R_far (p := ⟨gb170, 2, none⟩) (Kd.R_far (p := ⟨gb170, 1, none⟩) (Kd.R_far (p := ⟨gb170, 0, none⟩) (Kd.R_types HO162.out BK170.out (by decide)) (fun _ hk => hk.2) (.int .u32 t164)) (fun _ hk => hk.2) (.int .i64 t165)) (fun _ hk => hk.2) (.int .u32 t166)) (fun _ hk => hk.2) (.int .i64 t167)) (fun _ hk => hk.2) (.int .i64 t168)) (fun _ h_ => h_.1))) (Kd.R_base ho29) hb); have n1_ := Aside0.mk (Kd.R_lower (Kd.R_new' ho29 (Kd.R_lt (by (with_reducible repeat (first | apply Kd.R_alloc | apply Kd.R_drewN | apply Kd.R_drew)); exact (Kd.R_mono (Kd.R_far (p := ⟨gb170, 4, none⟩) (Kd.R_far (p := ⟨gb170, 3, none⟩) (Kd.R_far (p := ⟨gb170, 2, none⟩) (Kd.R_far (p := ⟨gb170, 1, none⟩) (Kd.R_far (p := ⟨gb170, 0, none⟩) (Kd.R_types HO162.out BK170.out (by decide)) (fun _ hk => hk.2) (.int .u32 t164)) (fun _ hk => hk.2) (.int .i64 t165)) (fun _ hk => hk.2) (.int .u32 t166)) (fun _ hk => hk.2) (.int .i64 t167)) (fun _ hk => hk.2) (.int .i64 t168)) (fun _ h_ => h_.1))))) (below_size (by repeat (first | (with_reducible first | exact HB.out | apply below_alloc | apply pw_below_drewN | apply below_drew1 | refine below_set ?_ GE170.out) | exact HB.out)))); have n2_ := Aside0.mk (blk_below (g := gb170) (o := .cells #[.int .u32 t164, .int .i64 t165, .int .u32 t166, .int .i64 t167, .int .i64 t168] 35 (0, 0)) (by (with_reducible repeat (first | refine blk_drewN ?_ _ | refine blk_drew ?_ | refine blk_alloc ?_ _)); refine blk_put (cs := #[.int .u32 t164, .int .i64 t165, .int .u32 t166, .int .i64 t167, .int .i64 0]) ?_ 4 _ rfl; (with_reducible repeat (first | refine blk_drewN ?_ _ | refine blk_drew ?_ | refine blk_alloc ?_ _)); refine blk_put (cs := #[.int .u32 t164, .int .i64 t165, .int .u32 t166, .int .i64 0, .int .i64 0]) ?_ 3 _ rfl; (with_reducible repeat (first | refine blk_drewN ?_ _ | refine blk_drew ?_ | refine blk_alloc ?_ _)); refine blk_put (cs := #[.int .u32 t164, .int .i64 t165, .int .u32 0, .int .i64 0, .int .i64 0]) ?_ 2 _ rfl; (with_reducible repeat (first | refine blk_drewN ?_ _ | refine blk_drew ?_ | refine blk_alloc ?_ _)); refine blk_put (cs := #[.int .u32 t164, .int .i64 0, .int .u32 0, .int .i64 0, .int .i64 0]) ?_ 1 _ rfl; (with_reducible repeat (first | refine blk_drewN ?_ _ | refine blk_drew ?_ | refine blk_alloc ?_ _)); refine blk_put (cs := #[.int .u32 0, .int .i64 0, .int .u32 0, .int .i64 0, .int .i64 0]) ?_ 0 _ rfl; (with_reducible repeat (first | refine blk_drewN ?_ _ | refine blk_drew ?_ | refine blk_alloc ?_ _)); exact BK170.out) hb); have n3_ := Aside0.mk (below_step (by repeat (first | (with_reducible first | exact HB.out | apply below_alloc | apply pw_below_drewN | apply below_drew1 | refine below_set ?_ GE170.out) | exact HB.out)) hb); clear HO162; clear BK170; clear HB; have HO162 := n0_; have HO174 := n1_; have BK170 := n2_; have HB := n3_; clear n0_ n1_ n2_ n3_; clear hb ho29; obtain ⟨Ao30, co30, eo30⟩ := Kd.R_slice HO174.out; subst eo30) | (go_at_call 9; (with_reducible refine (row_Texts.calls _ _ y172 t175 _ ?side1 ?side2 ?side3 A8.out).mono ?_); (case side1 => exact VarsOk.below HV.out (by repeat (first | (with_reducible first | exact HB.out | apply below_alloc | apply pw_below_drewN | apply below_drew1 | refine below_set ?_ GE170.out) | exact HB.out))); (case side2 => repeat (first | exact (Kd.R_reads' HO174.out).2.2 | (with_reducible refine Kd.C_alloc ?_ _) | (with_reducible refine Kd.C_drewN ?_ _) | (with_reducible refine Kd.C_drew ?_))); (case side3 => exact (Kd.R_reads' HO174.out).2.1); rintro e w31 ⟨rfl, hb⟩; have n0_ := Aside0.mk (Kd.R_below (by (with_reducible repeat (first | apply Kd.R_alloc | apply Kd.R_drewN | apply Kd.R_drew)); exact HO162.out) hb); have n1_ := Aside0.mk (Kd.R_below (by (with_reducible repeat (first | apply Kd.R_alloc | apply Kd.R_drewN | apply Kd.R_drew)); exact HO174.out) hb); have n2_ := Aside0.mk (blk_below (g := gb170) (o := .cells #[.int .u32 t164, .int .i64 t165, .int .u32 t166, .int .i64 t167, .int .i64 t168] 35 (0, 0)) (by (with_reducible repeat (first | refine blk_drewN ?_ _ | refine blk_drew ?_ | refine blk_alloc ?_ _)); exact BK170.out) hb); have n3_ := Aside0.mk (below_step (by repeat (first | (with_reducible first | exact HB.out | apply below_alloc | apply pw_below_drewN | apply below_drew1 | refine below_set ?_ GE170.out) | exact HB.out)) hb); clear HO162; clear HO174; clear BK170; clear HB; have HO162 := n0_; have HO174 := n1_; have BK170 := n2_; have HB := n3_; clear n0_ n1_ n2_ n3_; (try clear hb); (try clear hb2); (try clear hk); (try clear hi)))
              go_ret
              exact ⟨by first | rfl | (simp [errW_none, errW_some] <;> rfl) | (simp [*, errW_none, errW_some] <;> rfl), by repeat (first | (with_reducible first | exact HB.out | apply below_alloc | apply pw_below_drewN | apply below_drew1 | refine below_set ?_ GE170.out) | exact HB.out)⟩
          · rw [if_neg c9] at H
            have c9b0 : (t175.toList == ([50, 58, 97, 98, 48, 58] : List UInt8)) = false := beq_eq_false_iff_ne.mpr c9
            have c9b1 : (t175.toList != ([50, 58, 97, 98, 48, 58] : List UInt8)) = true := bne_iff_ne.mpr c9
            obtain rfl := Option.some.inj H
            go_enter Tryd.func8, Tryd.ntmps8
            go_wp2_with (first | ((with_reducible refine gate_callee (f := 10) rfl ?_); refine goesL_ (some 6) rfl rfl Tryd.func10 (by kernel_rfl) rfl #[.string (⟨#[50, 58, 97, 98, 48, 58]⟩ : ByteArray)] rfl (by (try simp only [List.map_toArray, List.map_cons, List.map_nil]); first | done | rfl | (simp only [List.length_drop, List.length_take]; rfl)) ?_; (with_reducible refine (row_Split.calls (⟨#[50, 58, 97, 98, 48, 58]⟩ : ByteArray) t159 true _ ?side1 A1.out).mono ?_); (case side1 => exact VarsOk.below HV.out (by repeat (first | (with_reducible first | exact HB.out | apply below_alloc | apply pw_below_drewN | apply below_drew1) | exact HB.out))); rintro e w32 ⟨v161, rfl, ho0, hb⟩; refine ⟨_, rfl, ?_⟩; have n0_ := Aside0.mk (Kd.R_lower ho0 (below_size (by repeat (first | (with_reducible first | exact HB.out | apply below_alloc | apply pw_below_drewN | apply below_drew1) | exact HB.out)))); have n1_ := Aside0.mk (below_step (by repeat (first | (with_reducible first | exact HB.out | apply below_alloc | apply pw_below_drewN | apply below_drew1) | exact HB.out)) hb); clear HB; have HO162 := n0_; have HB := n1_; clear n0_ n1_; (try clear hb); (try clear hb2); (try clear hk); (try clear hi); (try clear ho0)) | ((with_reducible refine gate_callee (f := 14) rfl ?_); refine goesL_ (some 11) rfl rfl Tryd.func14 (by kernel_rfl) rfl #[.agg #[.int .u32 0, .int .i64 0, .int .u32 7, .int .i64 0, .int .i64 0]] rfl (by (try simp only [List.map_toArray, List.map_cons, List.map_nil]); first | done | rfl | (simp only [List.length_drop, List.length_take]; rfl)) ?_; (with_reducible refine (row_Hop.calls 0 0 7 0 0 t163 _ ?side1 A2.out).mono ?_); (case side1 => exact VarsOk.below HV.out (by repeat (first | (with_reducible first | exact HB.out | apply below_alloc | apply pw_below_drewN | apply below_drew1) | exact HB.out))); rintro e w33 ⟨rfl, hb⟩; refine ⟨_, rfl, ?_⟩; have n0_ := Aside0.mk (Kd.R_below (by (with_reducible repeat (first | apply Kd.R_alloc | apply Kd.R_drewN | apply Kd.R_drew)); exact HO162.out) hb); have n1_ := Aside0.mk (below_step (by repeat (first | (with_reducible first | exact HB.out | apply below_alloc | apply pw_below_drewN | apply below_drew1) | exact HB.out)) hb); clear HO162; clear HB; have HO162 := n0_; have HB := n1_; clear n0_ n1_; (try clear hb); (try clear hb2); (try clear hk); (try clear hi)) | ((with_reducible refine gate_callee (f := 15) rfl ?_); refine goesL_ (some 12) rfl rfl Tryd.func15 (by kernel_rfl) rfl #[.string t163] rfl (by (try simp only [List.map_toArray, List.map_cons, List.map_nil]); first | done | rfl | (simp only [List.length_drop, List.length_take]; rfl)) ?_; (with_reducible refine (row_ReadHop.calls t163 t164 t165 t166 t167 t168 t169 _ ?side1 A3.out).mono ?_); (case side1 => exact VarsOk.below HV.out (by repeat (first | (with_reducible first | exact HB.out | apply below_alloc | apply pw_below_drewN | apply below_drew1) | exact HB.out))); rintro e w34 ⟨rfl, hb⟩; refine ⟨_, rfl, ?_⟩; have n0_ := Aside0.mk (Kd.R_below (by (with_reducible repeat (first | apply Kd.R_alloc | apply Kd.R_drewN | apply Kd.R_drew)); exact HO162.out) hb); have n1_ := Aside0.mk (below_step (by repeat (first | (with_reducible first | exact HB.out | apply below_alloc | apply pw_below_drewN | apply below_drew1) | exact HB.out)) hb); clear HO162; clear HB; have HO162 := n0_; have HB := n1_; clear n0_ n1_; (try clear hb); (try clear hb2); (try clear hk); (try clear hi)) | ((with_reducible refine gate_dst (N := 3) rfl ?_); (try (refine gate_guard (by rfl) ?_; dsimp only)); refine box_event ?hg (N := 3) ?hd (cs := #[.int .u32 0, .int .i64 0, .int .u32 0, .int .i64 0, .int .i64 0]) (t := 35) ?hr ?_; (case hd => rfl); (case hg => rfl); (case hr => first | (go_simp; done) | (go_simp; rfl) | (go_simp; simp [IntKind.wrap_u8]; done)); intro gb170 hg w35 hbox hb; have n0_ := Aside0.mk (Kd.R_below (by (with_reducible repeat (first | apply Kd.R_alloc | apply Kd.R_drewN | apply Kd.R_drew)); exact HO162.out) hb); have n1_ := Aside0.mk (below_step (by repeat (first | (with_reducible first | exact HB.out | apply below_alloc | apply pw_below_drewN | apply below_drew1) | exact HB.out)) hb); have n2_ := Aside0.mk (hbox); have n3_ := Aside0.mk ((by rw [hg]; exact (below_size (by repeat (first | (with_reducible first | exact HB.out | apply below_alloc | apply pw_below_drewN | apply below_drew1) | exact HB.out))) : w.heap.size ≤ gb170)); have n4_ := Aside0.mk ((by rw [hg]; exact (below_size (by repeat (first | (with_reducible first | exact HB.out | apply below_alloc | apply pw_below_drewN | apply below_drew1) | exact HB.out))) : w.heap.size ≤ gb170)); clear HO162; clear HB; have HO162 := n0_; have HB := n1_; have BK170 := n2_; have GW170 := n3_; have GE170 := n4_; clear n0_ n1_ n2_ n3_ n4_; clear hb hbox hg; have hcz36_0 : w35.cell? ⟨gb170, 0, none⟩ = some (.int .u32 0) := (blk_cell BK170.out 0).trans rfl; have hcz36_1 : w35.cell? ⟨gb170, 1, none⟩ = some (.int .i64 0) := (blk_cell BK170.out 1).trans rfl; have hcz36_2 : w35.cell? ⟨gb170, 2, none⟩ = some (.int .u32 0) := (blk_cell BK170.out 2).trans rfl; have hcz36_3 : w35.cell? ⟨gb170, 3, none⟩ = some (.int .i64 0) := (blk_cell BK170.out 3).trans rfl; have hcz36_4 : w35.cell? ⟨gb170, 4, none⟩ = some (.int .i64 0) := (blk_cell BK170.out 4).trans rfl; have hfz36_0 := blk_frozen BK170.out 0; have hfz36_1 := blk_frozen BK170.out 1; have hfz36_2 := blk_frozen BK170.out 2; have hfz36_3 := blk_frozen BK170.out 3; have hfz36_4 := blk_frozen BK170.out 4; obtain ⟨Ao37, co37, eo37⟩ := Kd.R_slice HO162.out; subst eo37; have p171 : 0 ≤ (0 : Int) := (by omega); have q171 : 0 < (t159.length : Int) := of_decide_eq_true (by first | (with_reducible assumption) | assumption); obtain ⟨ad171, e171, hx171_0⟩ := Kd.at_string (Kd.R_reads' HO162.out).2.2 0 p171 q171; cases e171; have qi171 : (0 < t159.length) = True := eq_true (by omega); (try rw [show ((0 : Int)).toNat = 0 from rfl] at hx171_0); (try rw [Addr.add_zero'] at hx171_0); have hn171_0 : ad171.block ≠ gb170 := Kd.own_blk (Kd.R_ne HO162.out BK170.out (by decide)); have hn171_1 : ad171.block ≠ gb170 := Kd.own_blk (Kd.R_ne HO162.out BK170.out (by decide)); have hn171_2 : ad171.block ≠ gb170 := Kd.own_blk (Kd.R_ne HO162.out BK170.out (by decide)); have hn171_3 : ad171.block ≠ gb170 := Kd.own_blk (Kd.R_ne HO162.out BK170.out (by decide)); have hn171_4 : ad171.block ≠ gb170 := Kd.own_blk (Kd.R_ne HO162.out BK170.out (by decide)); replace hx171_0 := (cell_far (p := ⟨gb170, 0, none⟩) (by first | (rw [add_block]; exact hn171_0) | (show (Addr.add _ _).block ≠ _; rw [add_block]; exact hn171_0) | exact hn171_0) (.int .u32 t164)).trans hx171_0; replace hx171_0 := (cell_far (p := ⟨gb170, 1, none⟩) (by first | (rw [add_block]; exact hn171_1) | (show (Addr.add _ _).block ≠ _; rw [add_block]; exact hn171_1) | exact hn171_1) (.int .i64 t165)).trans hx171_0; replace hx171_0 := (cell_far (p := ⟨gb170, 2, none⟩) (by first | (rw [add_block]; exact hn171_2) | (show (Addr.add _ _).block ≠ _; rw [add_block]; exact hn171_2) | exact hn171_2) (.int .u32 t166)).trans hx171_0; replace hx171_0 := (cell_far (p := ⟨gb170, 3, none⟩) (by first | (rw [add_block]; exact hn171_3) | (show (Addr.add _ _).block ≠ _; rw [add_block]; exact hn171_3) | exact hn171_3) (.int .i64 t167)).trans hx171_0; replace hx171_0 := (cell_far (p := ⟨gb170, 4, none⟩) (by first | (rw [add_block]; exact hn171_4) | (show (Addr.add _ _).block ≠ _; rw [add_block]; exact hn171_4) | exact hn171_4) (.int .i64 t168)).trans hx171_0; clear hn171_0; clear hn171_1; clear hn171_2; clear hn171_3; clear hn171_4; replace p171 := eq_true p171; replace q171 := eq_true q171) | ((with_reducible refine gate_dst (N := 28) rfl ?_); (try (refine gate_guard (by rfl) ?_; dsimp only)); refine Kd.R_lit Kd.string _ 9 ?hg (N := 28) ?hd (xs := ([(⟨#[97, 98]⟩ : ByteArray), (⟨#[]⟩ : ByteArray)] : List ByteArray)) (inner := [.string (⟨#[97, 98]⟩ : ByteArray), .string (⟨#[]⟩ : ByteArray)]) (ok := fun _ => True) (okp := fun _ => True) ?hr ?hp (fun _ hk => hk) trivial (Below.refl _ _) (Nat.le_refl _) (by simp) ?_; (case hd => rfl); (case hg => rfl); (case hr => first | (go_simp; done) | (go_simp; rfl) | (go_simp; simp [IntKind.wrap_u8]; done)); (case hp => exact (Reps.one (show Kd.M Kd.string _ _ _ (⟨#[97, 98]⟩ : ByteArray) [.string (⟨#[97, 98]⟩ : ByteArray)] from rfl) (Reps.one (show Kd.M Kd.string _ _ _ (⟨#[]⟩ : ByteArray) [.string (⟨#[]⟩ : ByteArray)] from rfl) (Reps.none _ _)))); intro v173 w38 ho39 hb hg_ hnew_; clear hg_ hnew_; (first | rw [← Ny172.out] at ho39 | (simp only [Int.reduceToNat] at ho39; rw [← Ny172.out] at ho39)); have n0_ := Aside0.mk (Kd.R_elder' (by (with_reducible repeat (first | apply Kd.R_alloc | apply Kd.R_drewN | apply Kd.R_drew)); exact (Kd.R_mono (Kd.R_far (p := ⟨gb170, 4, none⟩) (Kd.R_far (p := ⟨gb170, 3, none⟩) (Kd.R_far (p := ⟨gb170, 2, none⟩) (Kd.R_far (p := ⟨gb170, 1, none⟩) (Kd.R_far (p := ⟨gb170, 0, none⟩) (Kd.R_types HO162.out BK170.out (by decide)) (fun _ hk => hk.2) (.int .u32 t164)) (fun _ hk => hk.2) (.int .i64 t165)) (fun _ hk => hk.2) (.int .u32 t166)) (fun _ hk => hk.2) (.int .i64 t167)) (fun _ hk => hk.2) (.int .i64 t168)) (fun _ h_ => h_.1))) (Kd.R_base ho39) hb); have n1_ := Aside0.mk (Kd.R_lower (Kd.R_new' ho39 (Kd.R_lt (by (with_reducible repeat (first | apply Kd.R_alloc | apply Kd.R_drewN | apply Kd.R_drew)); exact (Kd.R_mono (Kd.R_far (p := ⟨gb170, 4, none⟩) (Kd.R_far (p := ⟨gb170, 3, none⟩) (Kd.R_far (p := ⟨gb170, 2, none⟩) (Kd.R_far (p := ⟨gb170, 1, none⟩) (Kd.R_far (p := ⟨gb170, 0, none⟩) (Kd.R_types HO162.out BK170.out (by decide)) (fun _ hk => hk.2) (.int .u32 t164)) (fun _ hk => hk.2) (.int .i64 t165)) (fun _ hk => hk.2) (.int .u32 t166)) (fun _ hk => hk.2) (.int .i64 t167)) (fun _ hk => hk.2) (.int .i64 t168)) (fun _ h_ => h_.1))))) (below_size (by repeat (first | (with_reducible first | exact HB.out | apply below_alloc | apply pw_below_drewN | apply below_drew1 | refine below_set ?_ GE170.out) | exact HB.out)))); have n2_ := Aside0.mk (blk_below (g := gb170) (o := .cells #[.int .u32 t164, .int .i64 t165, .int .u32 t166, .int .i64 t167, .int .i64 t168] 35 (0, 0)) (by (with_reducible repeat (first | refine blk_drewN ?_ _ | refine blk_drew ?_ | refine blk_alloc ?_ _)); refine blk_put (cs := #[.int .u32 t164, .int .i64 t165, .int .u32 t166, .int .i64 t167, .int .i64 0]) ?_ 4 _ rfl; (with_reducible repeat (first | refine blk_drewN ?_ _ | refine blk_drew ?_ | refine blk_alloc ?_ _)); refine blk_put (cs := #[.int .u32 t164, .int .i64 t165, .int .u32 t166, .int .i64 0, .int .i64 0]) ?_ 3 _ rfl; (with_reducible repeat (first | refine blk_drewN ?_ _ | refine blk_drew ?_ | refine blk_alloc ?_ _)); refine blk_put (cs := #[.int .u32 t164, .int .i64 t165, .int .u32 0, .int .i64 0, .int .i64 0]) ?_ 2 _ rfl; (with_reducible repeat (first | refine blk_drewN ?_ _ | refine blk_drew ?_ | refine blk_alloc ?_ _)); refine blk_put (cs := #[.int .u32 t164, .int .i64 0, .int .u32 0, .int .i64 0, .int .i64 0]) ?_ 1 _ rfl; (with_reducible repeat (first | refine blk_drewN ?_ _ | refine blk_drew ?_ | refine blk_alloc ?_ _)); refine blk_put (cs := #[.int .u32 0, .int .i64 0, .int .u32 0, .int .i64 0, .int .i64 0]) ?_ 0 _ rfl; (with_reducible repeat (first | refine blk_drewN ?_ _ | refine blk_drew ?_ | refine blk_alloc ?_ _)); exact BK170.out) hb); have n3_ := Aside0.mk (below_step (by repeat (first | (with_reducible first | exact HB.out | apply below_alloc | apply pw_below_drewN | apply below_drew1 | refine below_set ?_ GE170.out) | exact HB.out)) hb); clear HO162; clear BK170; clear HB; have HO162 := n0_; have HO174 := n1_; have BK170 := n2_; have HB := n3_; clear n0_ n1_ n2_ n3_; clear hb ho39; obtain ⟨Ao40, co40, eo40⟩ := Kd.R_slice HO174.out; subst eo40) | (go_at_call 9; (with_reducible refine (row_Texts.calls _ _ y172 t175 _ ?side1 ?side2 ?side3 A8.out).mono ?_); (case side1 => exact VarsOk.below HV.out (by repeat (first | (with_reducible first | exact HB.out | apply below_alloc | apply pw_below_drewN | apply below_drew1 | refine below_set ?_ GE170.out) | exact HB.out))); (case side2 => repeat (first | exact (Kd.R_reads' HO174.out).2.2 | (with_reducible refine Kd.C_alloc ?_ _) | (with_reducible refine Kd.C_drewN ?_ _) | (with_reducible refine Kd.C_drew ?_))); (case side3 => exact (Kd.R_reads' HO174.out).2.1); rintro e w41 ⟨rfl, hb⟩; have n0_ := Aside0.mk (Kd.R_below (by (with_reducible repeat (first | apply Kd.R_alloc | apply Kd.R_drewN | apply Kd.R_drew)); exact HO162.out) hb); have n1_ := Aside0.mk (Kd.R_below (by (with_reducible repeat (first | apply Kd.R_alloc | apply Kd.R_drewN | apply Kd.R_drew)); exact HO174.out) hb); have n2_ := Aside0.mk (blk_below (g := gb170) (o := .cells #[.int .u32 t164, .int .i64 t165, .int .u32 t166, .int .i64 t167, .int .i64 t168] 35 (0, 0)) (by (with_reducible repeat (first | refine blk_drewN ?_ _ | refine blk_drew ?_ | refine blk_alloc ?_ _)); exact BK170.out) hb); have n3_ := Aside0.mk (below_step (by repeat (first | (with_reducible first | exact HB.out | apply below_alloc | apply pw_below_drewN | apply below_drew1 | refine below_set ?_ GE170.out) | exact HB.out)) hb); clear HO162; clear HO174; clear BK170; clear HB; have HO162 := n0_; have HO174 := n1_; have BK170 := n2_; have HB := n3_; clear n0_ n1_ n2_ n3_; (try clear hb); (try clear hb2); (try clear hk); (try clear hi)))
            go_ret
            exact ⟨by first | rfl | (simp [errW_none, errW_some] <;> rfl) | (simp [*, errW_none, errW_some] <;> rfl), by repeat (first | (with_reducible first | exact HB.out | apply below_alloc | apply pw_below_drewN | apply below_drew1 | refine below_set ?_ GE170.out) | exact HB.out)⟩
        · rw [if_neg c7] at H
          have c7b0 : ((rdOf ByteArray.empty t159 0).toList == ([97, 98] : List UInt8)) = false := beq_eq_false_iff_ne.mpr c7
          have c7b1 : ((rdOf ByteArray.empty t159 0).toList != ([97, 98] : List UInt8)) = true := bne_iff_ne.mpr c7
          obtain rfl := Option.some.inj H
          go_enter Tryd.func8, Tryd.ntmps8
          go_wp2_with (first | ((with_reducible refine gate_callee (f := 10) rfl ?_); refine goesL_ (some 6) rfl rfl Tryd.func10 (by kernel_rfl) rfl #[.string (⟨#[50, 58, 97, 98, 48, 58]⟩ : ByteArray)] rfl (by (try simp only [List.map_toArray, List.map_cons, List.map_nil]); first | done | rfl | (simp only [List.length_drop, List.length_take]; rfl)) ?_; (with_reducible refine (row_Split.calls (⟨#[50, 58, 97, 98, 48, 58]⟩ : ByteArray) t159 true _ ?side1 A1.out).mono ?_); (case side1 => exact VarsOk.below HV.out (by repeat (first | (with_reducible first | exact HB.out | apply below_alloc | apply pw_below_drewN | apply below_drew1) | exact HB.out))); rintro e w42 ⟨v161, rfl, ho0, hb⟩; refine ⟨_, rfl, ?_⟩; have n0_ := Aside0.mk (Kd.R_lower ho0 (below_size (by repeat (first | (with_reducible first | exact HB.out | apply below_alloc | apply pw_below_drewN | apply below_drew1) | exact HB.out)))); have n1_ := Aside0.mk (below_step (by repeat (first | (with_reducible first | exact HB.out | apply below_alloc | apply pw_below_drewN | apply below_drew1) | exact HB.out)) hb); clear HB; have HO162 := n0_; have HB := n1_; clear n0_ n1_; (try clear hb); (try clear hb2); (try clear hk); (try clear hi); (try clear ho0)) | ((with_reducible refine gate_callee (f := 14) rfl ?_); refine goesL_ (some 11) rfl rfl Tryd.func14 (by kernel_rfl) rfl #[.agg #[.int .u32 0, .int .i64 0, .int .u32 7, .int .i64 0, .int .i64 0]] rfl (by (try simp only [List.map_toArray, List.map_cons, List.map_nil]); first | done | rfl | (simp only [List.length_drop, List.length_take]; rfl)) ?_; (with_reducible refine (row_Hop.calls 0 0 7 0 0 t163 _ ?side1 A2.out).mono ?_); (case side1 => exact VarsOk.below HV.out (by repeat (first | (with_reducible first | exact HB.out | apply below_alloc | apply pw_below_drewN | apply below_drew1) | exact HB.out))); rintro e w43 ⟨rfl, hb⟩; refine ⟨_, rfl, ?_⟩; have n0_ := Aside0.mk (Kd.R_below (by (with_reducible repeat (first | apply Kd.R_alloc | apply Kd.R_drewN | apply Kd.R_drew)); exact HO162.out) hb); have n1_ := Aside0.mk (below_step (by repeat (first | (with_reducible first | exact HB.out | apply below_alloc | apply pw_below_drewN | apply below_drew1) | exact HB.out)) hb); clear HO162; clear HB; have HO162 := n0_; have HB := n1_; clear n0_ n1_; (try clear hb); (try clear hb2); (try clear hk); (try clear hi)) | ((with_reducible refine gate_callee (f := 15) rfl ?_); refine goesL_ (some 12) rfl rfl Tryd.func15 (by kernel_rfl) rfl #[.string t163] rfl (by (try simp only [List.map_toArray, List.map_cons, List.map_nil]); first | done | rfl | (simp only [List.length_drop, List.length_take]; rfl)) ?_; (with_reducible refine (row_ReadHop.calls t163 t164 t165 t166 t167 t168 t169 _ ?side1 A3.out).mono ?_); (case side1 => exact VarsOk.below HV.out (by repeat (first | (with_reducible first | exact HB.out | apply below_alloc | apply pw_below_drewN | apply below_drew1) | exact HB.out))); rintro e w44 ⟨rfl, hb⟩; refine ⟨_, rfl, ?_⟩; have n0_ := Aside0.mk (Kd.R_below (by (with_reducible repeat (first | apply Kd.R_alloc | apply Kd.R_drewN | apply Kd.R_drew)); exact HO162.out) hb); have n1_ := Aside0.mk (below_step (by repeat (first | (with_reducible first | exact HB.out | apply below_alloc | apply pw_below_drewN | apply below_drew1) | exact HB.out)) hb); clear HO162; clear HB; have HO162 := n0_; have HB := n1_; clear n0_ n1_; (try clear hb); (try clear hb2); (try clear hk); (try clear hi)) | ((with_reducible refine gate_dst (N := 3) rfl ?_); (try (refine gate_guard (by rfl) ?_; dsimp only)); refine box_event ?hg (N := 3) ?hd (cs := #[.int .u32 0, .int .i64 0, .int .u32 0, .int .i64 0, .int .i64 0]) (t := 35) ?hr ?_; (case hd => rfl); (case hg => rfl); (case hr => first | (go_simp; done) | (go_simp; rfl) | (go_simp; simp [IntKind.wrap_u8]; done)); intro gb170 hg w45 hbox hb; have n0_ := Aside0.mk (Kd.R_below (by (with_reducible repeat (first | apply Kd.R_alloc | apply Kd.R_drewN | apply Kd.R_drew)); exact HO162.out) hb); have n1_ := Aside0.mk (below_step (by repeat (first | (with_reducible first | exact HB.out | apply below_alloc | apply pw_below_drewN | apply below_drew1) | exact HB.out)) hb); have n2_ := Aside0.mk (hbox); have n3_ := Aside0.mk ((by rw [hg]; exact (below_size (by repeat (first | (with_reducible first | exact HB.out | apply below_alloc | apply pw_below_drewN | apply below_drew1) | exact HB.out))) : w.heap.size ≤ gb170)); have n4_ := Aside0.mk ((by rw [hg]; exact (below_size (by repeat (first | (with_reducible first | exact HB.out | apply below_alloc | apply pw_below_drewN | apply below_drew1) | exact HB.out))) : w.heap.size ≤ gb170)); clear HO162; clear HB; have HO162 := n0_; have HB := n1_; have BK170 := n2_; have GW170 := n3_; have GE170 := n4_; clear n0_ n1_ n2_ n3_ n4_; clear hb hbox hg; have hcz46_0 : w45.cell? ⟨gb170, 0, none⟩ = some (.int .u32 0) := (blk_cell BK170.out 0).trans rfl; have hcz46_1 : w45.cell? ⟨gb170, 1, none⟩ = some (.int .i64 0) := (blk_cell BK170.out 1).trans rfl; have hcz46_2 : w45.cell? ⟨gb170, 2, none⟩ = some (.int .u32 0) := (blk_cell BK170.out 2).trans rfl; have hcz46_3 : w45.cell? ⟨gb170, 3, none⟩ = some (.int .i64 0) := (blk_cell BK170.out 3).trans rfl; have hcz46_4 : w45.cell? ⟨gb170, 4, none⟩ = some (.int .i64 0) := (blk_cell BK170.out 4).trans rfl; have hfz46_0 := blk_frozen BK170.out 0; have hfz46_1 := blk_frozen BK170.out 1; have hfz46_2 := blk_frozen BK170.out 2; have hfz46_3 := blk_frozen BK170.out 3; have hfz46_4 := blk_frozen BK170.out 4; obtain ⟨Ao47, co47, eo47⟩ := Kd.R_slice HO162.out; subst eo47; have p171 : 0 ≤ (0 : Int) := (by omega); have q171 : 0 < (t159.length : Int) := of_decide_eq_true (by first | (with_reducible assumption) | assumption); obtain ⟨ad171, e171, hx171_0⟩ := Kd.at_string (Kd.R_reads' HO162.out).2.2 0 p171 q171; cases e171; have qi171 : (0 < t159.length) = True := eq_true (by omega); (try rw [show ((0 : Int)).toNat = 0 from rfl] at hx171_0); (try rw [Addr.add_zero'] at hx171_0); have hn171_0 : ad171.block ≠ gb170 := Kd.own_blk (Kd.R_ne HO162.out BK170.out (by decide)); have hn171_1 : ad171.block ≠ gb170 := Kd.own_blk (Kd.R_ne HO162.out BK170.out (by decide)); have hn171_2 : ad171.block ≠ gb170 := Kd.own_blk (Kd.R_ne HO162.out BK170.out (by decide)); have hn171_3 : ad171.block ≠ gb170 := Kd.own_blk (Kd.R_ne HO162.out BK170.out (by decide)); have hn171_4 : ad171.block ≠ gb170 := Kd.own_blk (Kd.R_ne HO162.out BK170.out (by decide)); replace hx171_0 := (cell_far (p := ⟨gb170, 0, none⟩) (by first | (rw [add_block]; exact hn171_0) | (show (Addr.add _ _).block ≠ _; rw [add_block]; exact hn171_0) | exact hn171_0) (.int .u32 t164)).trans hx171_0; replace hx171_0 := (cell_far (p := ⟨gb170, 1, none⟩) (by first | (rw [add_block]; exact hn171_1) | (show (Addr.add _ _).block ≠ _; rw [add_block]; exact hn171_1) | exact hn171_1) (.int .i64 t165)).trans hx171_0; replace hx171_0 := (cell_far (p := ⟨gb170, 2, none⟩) (by first | (rw [add_block]; exact hn171_2) | (show (Addr.add _ _).block ≠ _; rw [add_block]; exact hn171_2) | exact hn171_2) (.int .u32 t166)).trans hx171_0; replace hx171_0 := (cell_far (p := ⟨gb170, 3, none⟩) (by first | (rw [add_block]; exact hn171_3) | (show (Addr.add _ _).block ≠ _; rw [add_block]; exact hn171_3) | exact hn171_3) (.int .i64 t167)).trans hx171_0; replace hx171_0 := (cell_far (p := ⟨gb170, 4, none⟩) (by first | (rw [add_block]; exact hn171_4) | (show (Addr.add _ _).block ≠ _; rw [add_block]; exact hn171_4) | exact hn171_4) (.int .i64 t168)).trans hx171_0; clear hn171_0; clear hn171_1; clear hn171_2; clear hn171_3; clear hn171_4; replace p171 := eq_true p171; replace q171 := eq_true q171))
          go_ret
          exact ⟨by first | rfl | (simp [errW_none, errW_some] <;> rfl) | (simp [*, errW_none, errW_some] <;> rfl), by repeat (first | (with_reducible first | exact HB.out | apply below_alloc | apply pw_below_drewN | apply below_drew1 | refine below_set ?_ GE170.out) | exact HB.out)⟩
      · rw [if_neg c6] at H
        exact absurd H (by simp)
    · rw [if_neg c5] at H
      have c5b0 : ((t159.length : Int) == 2) = false := beq_eq_false_iff_ne.mpr c5
      have c5b1 : ((t159.length : Int) != 2) = true := bne_iff_ne.mpr c5
      obtain rfl := Option.some.inj H
      go_enter Tryd.func8, Tryd.ntmps8
      go_wp2_with (first | ((with_reducible refine gate_callee (f := 10) rfl ?_); refine goesL_ (some 6) rfl rfl Tryd.func10 (by kernel_rfl) rfl #[.string (⟨#[50, 58, 97, 98, 48, 58]⟩ : ByteArray)] rfl (by (try simp only [List.map_toArray, List.map_cons, List.map_nil]); first | done | rfl | (simp only [List.length_drop, List.length_take]; rfl)) ?_; (with_reducible refine (row_Split.calls (⟨#[50, 58, 97, 98, 48, 58]⟩ : ByteArray) t159 true _ ?side1 A1.out).mono ?_); (case side1 => exact VarsOk.below HV.out (by repeat (first | (with_reducible first | exact HB.out | apply below_alloc | apply pw_below_drewN | apply below_drew1) | exact HB.out))); rintro e w48 ⟨v161, rfl, ho0, hb⟩; refine ⟨_, rfl, ?_⟩; have n0_ := Aside0.mk (Kd.R_lower ho0 (below_size (by repeat (first | (with_reducible first | exact HB.out | apply below_alloc | apply pw_below_drewN | apply below_drew1) | exact HB.out)))); have n1_ := Aside0.mk (below_step (by repeat (first | (with_reducible first | exact HB.out | apply below_alloc | apply pw_below_drewN | apply below_drew1) | exact HB.out)) hb); clear HB; have HO162 := n0_; have HB := n1_; clear n0_ n1_; (try clear hb); (try clear hb2); (try clear hk); (try clear hi); (try clear ho0)) | ((with_reducible refine gate_callee (f := 14) rfl ?_); refine goesL_ (some 11) rfl rfl Tryd.func14 (by kernel_rfl) rfl #[.agg #[.int .u32 0, .int .i64 0, .int .u32 7, .int .i64 0, .int .i64 0]] rfl (by (try simp only [List.map_toArray, List.map_cons, List.map_nil]); first | done | rfl | (simp only [List.length_drop, List.length_take]; rfl)) ?_; (with_reducible refine (row_Hop.calls 0 0 7 0 0 t163 _ ?side1 A2.out).mono ?_); (case side1 => exact VarsOk.below HV.out (by repeat (first | (with_reducible first | exact HB.out | apply below_alloc | apply pw_below_drewN | apply below_drew1) | exact HB.out))); rintro e w49 ⟨rfl, hb⟩; refine ⟨_, rfl, ?_⟩; have n0_ := Aside0.mk (Kd.R_below (by (with_reducible repeat (first | apply Kd.R_alloc | apply Kd.R_drewN | apply Kd.R_drew)); exact HO162.out) hb); have n1_ := Aside0.mk (below_step (by repeat (first | (with_reducible first | exact HB.out | apply below_alloc | apply pw_below_drewN | apply below_drew1) | exact HB.out)) hb); clear HO162; clear HB; have HO162 := n0_; have HB := n1_; clear n0_ n1_; (try clear hb); (try clear hb2); (try clear hk); (try clear hi)) | ((with_reducible refine gate_callee (f := 15) rfl ?_); refine goesL_ (some 12) rfl rfl Tryd.func15 (by kernel_rfl) rfl #[.string t163] rfl (by (try simp only [List.map_toArray, List.map_cons, List.map_nil]); first | done | rfl | (simp only [List.length_drop, List.length_take]; rfl)) ?_; (with_reducible refine (row_ReadHop.calls t163 t164 t165 t166 t167 t168 t169 _ ?side1 A3.out).mono ?_); (case side1 => exact VarsOk.below HV.out (by repeat (first | (with_reducible first | exact HB.out | apply below_alloc | apply pw_below_drewN | apply below_drew1) | exact HB.out))); rintro e w50 ⟨rfl, hb⟩; refine ⟨_, rfl, ?_⟩; have n0_ := Aside0.mk (Kd.R_below (by (with_reducible repeat (first | apply Kd.R_alloc | apply Kd.R_drewN | apply Kd.R_drew)); exact HO162.out) hb); have n1_ := Aside0.mk (below_step (by repeat (first | (with_reducible first | exact HB.out | apply below_alloc | apply pw_below_drewN | apply below_drew1) | exact HB.out)) hb); clear HO162; clear HB; have HO162 := n0_; have HB := n1_; clear n0_ n1_; (try clear hb); (try clear hb2); (try clear hk); (try clear hi)) | ((with_reducible refine gate_dst (N := 3) rfl ?_); (try (refine gate_guard (by rfl) ?_; dsimp only)); refine box_event ?hg (N := 3) ?hd (cs := #[.int .u32 0, .int .i64 0, .int .u32 0, .int .i64 0, .int .i64 0]) (t := 35) ?hr ?_; (case hd => rfl); (case hg => rfl); (case hr => first | (go_simp; done) | (go_simp; rfl) | (go_simp; simp [IntKind.wrap_u8]; done)); intro gb170 hg w51 hbox hb; have n0_ := Aside0.mk (Kd.R_below (by (with_reducible repeat (first | apply Kd.R_alloc | apply Kd.R_drewN | apply Kd.R_drew)); exact HO162.out) hb); have n1_ := Aside0.mk (below_step (by repeat (first | (with_reducible first | exact HB.out | apply below_alloc | apply pw_below_drewN | apply below_drew1) | exact HB.out)) hb); have n2_ := Aside0.mk (hbox); have n3_ := Aside0.mk ((by rw [hg]; exact (below_size (by repeat (first | (with_reducible first | exact HB.out | apply below_alloc | apply pw_below_drewN | apply below_drew1) | exact HB.out))) : w.heap.size ≤ gb170)); have n4_ := Aside0.mk ((by rw [hg]; exact (below_size (by repeat (first | (with_reducible first | exact HB.out | apply below_alloc | apply pw_below_drewN | apply below_drew1) | exact HB.out))) : w.heap.size ≤ gb170)); clear HO162; clear HB; have HO162 := n0_; have HB := n1_; have BK170 := n2_; have GW170 := n3_; have GE170 := n4_; clear n0_ n1_ n2_ n3_ n4_; clear hb hbox hg; have hcz52_0 : w51.cell? ⟨gb170, 0, none⟩ = some (.int .u32 0) := (blk_cell BK170.out 0).trans rfl; have hcz52_1 : w51.cell? ⟨gb170, 1, none⟩ = some (.int .i64 0) := (blk_cell BK170.out 1).trans rfl; have hcz52_2 : w51.cell? ⟨gb170, 2, none⟩ = some (.int .u32 0) := (blk_cell BK170.out 2).trans rfl; have hcz52_3 : w51.cell? ⟨gb170, 3, none⟩ = some (.int .i64 0) := (blk_cell BK170.out 3).trans rfl; have hcz52_4 : w51.cell? ⟨gb170, 4, none⟩ = some (.int .i64 0) := (blk_cell BK170.out 4).trans rfl; have hfz52_0 := blk_frozen BK170.out 0; have hfz52_1 := blk_frozen BK170.out 1; have hfz52_2 := blk_frozen BK170.out 2; have hfz52_3 := blk_frozen BK170.out 3; have hfz52_4 := blk_frozen BK170.out 4; obtain ⟨Ao53, co53, eo53⟩ := Kd.R_slice HO162.out; subst eo53))
      go_ret
      exact ⟨by first | rfl | (simp [errW_none, errW_some] <;> rfl) | (simp [*, errW_none, errW_some] <;> rfl), by repeat (first | (with_reducible first | exact HB.out | apply below_alloc | apply pw_below_drewN | apply below_drew1 | refine below_set ?_ GE170.out) | exact HB.out)⟩
  · replace c4 := Bool.eq_false_iff.mpr c4
    subst c4
    have H1 : (some false) = some r := by rw [if_neg (show ¬ (false = true) by decide)] at H; exact H
    clear H
    have H := H1
    clear H1
    obtain rfl := Option.some.inj H
    go_enter Tryd.func8, Tryd.ntmps8
    go_wp2_with (first | ((with_reducible refine gate_callee (f := 10) rfl ?_); refine goesL_ (some 6) rfl rfl Tryd.func10 (by kernel_rfl) rfl #[.string (⟨#[50, 58, 97, 98, 48, 58]⟩ : ByteArray)] rfl (by (try simp only [List.map_toArray, List.map_cons, List.map_nil]); first | done | rfl | (simp only [List.length_drop, List.length_take]; rfl)) ?_; (with_reducible refine (row_Split.calls (⟨#[50, 58, 97, 98, 48, 58]⟩ : ByteArray) t159 false _ ?side1 A1.out).mono ?_); (case side1 => exact VarsOk.below HV.out (by repeat (first | (with_reducible first | exact HB.out | apply below_alloc | apply pw_below_drewN | apply below_drew1) | exact HB.out))); rintro e w54 ⟨v161, rfl, ho0, hb⟩; refine ⟨_, rfl, ?_⟩; have n0_ := Aside0.mk (Kd.R_lower ho0 (below_size (by repeat (first | (with_reducible first | exact HB.out | apply below_alloc | apply pw_below_drewN | apply below_drew1) | exact HB.out)))); have n1_ := Aside0.mk (below_step (by repeat (first | (with_reducible first | exact HB.out | apply below_alloc | apply pw_below_drewN | apply below_drew1) | exact HB.out)) hb); clear HB; have HO162 := n0_; have HB := n1_; clear n0_ n1_; (try clear hb); (try clear hb2); (try clear hk); (try clear hi); (try clear ho0)) | ((with_reducible refine gate_callee (f := 14) rfl ?_); refine goesL_ (some 11) rfl rfl Tryd.func14 (by kernel_rfl) rfl #[.agg #[.int .u32 0, .int .i64 0, .int .u32 7, .int .i64 0, .int .i64 0]] rfl (by (try simp only [List.map_toArray, List.map_cons, List.map_nil]); first | done | rfl | (simp only [List.length_drop, List.length_take]; rfl)) ?_; (with_reducible refine (row_Hop.calls 0 0 7 0 0 t163 _ ?side1 A2.out).mono ?_); (case side1 => exact VarsOk.below HV.out (by repeat (first | (with_reducible first | exact HB.out | apply below_alloc | apply pw_below_drewN | apply below_drew1) | exact HB.out))); rintro e w55 ⟨rfl, hb⟩; refine ⟨_, rfl, ?_⟩; have n0_ := Aside0.mk (Kd.R_below (by (with_reducible repeat (first | apply Kd.R_alloc | apply Kd.R_drewN | apply Kd.R_drew)); exact HO162.out) hb); have n1_ := Aside0.mk (below_step (by repeat (first | (with_reducible first | exact HB.out | apply below_alloc | apply pw_below_drewN | apply below_drew1) | exact HB.out)) hb); clear HO162; clear HB; have HO162 := n0_; have HB := n1_; clear n0_ n1_; (try clear hb); (try clear hb2); (try clear hk); (try clear hi)) | ((with_reducible refine gate_callee (f := 15) rfl ?_); refine goesL_ (some 12) rfl rfl Tryd.func15 (by kernel_rfl) rfl #[.string t163] rfl (by (try simp only [List.map_toArray, List.map_cons, List.map_nil]); first | done | rfl | (simp only [List.length_drop, List.length_take]; rfl)) ?_; (with_reducible refine (row_ReadHop.calls t163 t164 t165 t166 t167 t168 t169 _ ?side1 A3.out).mono ?_); (case side1 => exact VarsOk.below HV.out (by repeat (first | (with_reducible first | exact HB.out | apply below_alloc | apply pw_below_drewN | apply below_drew1) | exact HB.out))); rintro e w56 ⟨rfl, hb⟩; refine ⟨_, rfl, ?_⟩; have n0_ := Aside0.mk (Kd.R_below (by (with_reducible repeat (first | apply Kd.R_alloc | apply Kd.R_drewN | apply Kd.R_drew)); exact HO162.out) hb); have n1_ := Aside0.mk (below_step (by repeat (first | (with_reducible first | exact HB.out | apply below_alloc | apply pw_below_drewN | apply below_drew1) | exact HB.out)) hb); clear HO162; clear HB; have HO162 := n0_; have HB := n1_; clear n0_ n1_; (try clear hb); (try clear hb2); (try clear hk); (try clear hi)) | ((with_reducible refine gate_dst (N := 3) rfl ?_); (try (refine gate_guard (by rfl) ?_; dsimp only)); refine box_event ?hg (N := 3) ?hd (cs := #[.int .u32 0, .int .i64 0, .int .u32 0, .int .i64 0, .int .i64 0]) (t := 35) ?hr ?_; (case hd => rfl); (case hg => rfl); (case hr => first | (go_simp; done) | (go_simp; rfl) | (go_simp; simp [IntKind.wrap_u8]; done)); intro gb170 hg w57 hbox hb; have n0_ := Aside0.mk (Kd.R_below (by (with_reducible repeat (first | apply Kd.R_alloc | apply Kd.R_drewN | apply Kd.R_drew)); exact HO162.out) hb); have n1_ := Aside0.mk (below_step (by repeat (first | (with_reducible first | exact HB.out | apply below_alloc | apply pw_below_drewN | apply below_drew1) | exact HB.out)) hb); have n2_ := Aside0.mk (hbox); have n3_ := Aside0.mk ((by rw [hg]; exact (below_size (by repeat (first | (with_reducible first | exact HB.out | apply below_alloc | apply pw_below_drewN | apply below_drew1) | exact HB.out))) : w.heap.size ≤ gb170)); have n4_ := Aside0.mk ((by rw [hg]; exact (below_size (by repeat (first | (with_reducible first | exact HB.out | apply below_alloc | apply pw_below_drewN | apply below_drew1) | exact HB.out))) : w.heap.size ≤ gb170)); clear HO162; clear HB; have HO162 := n0_; have HB := n1_; have BK170 := n2_; have GW170 := n3_; have GE170 := n4_; clear n0_ n1_ n2_ n3_ n4_; clear hb hbox hg; have hcz58_0 : w57.cell? ⟨gb170, 0, none⟩ = some (.int .u32 0) := (blk_cell BK170.out 0).trans rfl; have hcz58_1 : w57.cell? ⟨gb170, 1, none⟩ = some (.int .i64 0) := (blk_cell BK170.out 1).trans rfl; have hcz58_2 : w57.cell? ⟨gb170, 2, none⟩ = some (.int .u32 0) := (blk_cell BK170.out 2).trans rfl; have hcz58_3 : w57.cell? ⟨gb170, 3, none⟩ = some (.int .i64 0) := (blk_cell BK170.out 3).trans rfl; have hcz58_4 : w57.cell? ⟨gb170, 4, none⟩ = some (.int .i64 0) := (blk_cell BK170.out 4).trans rfl; have hfz58_0 := blk_frozen BK170.out 0; have hfz58_1 := blk_frozen BK170.out 1; have hfz58_2 := blk_frozen BK170.out 2; have hfz58_3 := blk_frozen BK170.out 3; have hfz58_4 := blk_frozen BK170.out 4))
    go_ret
    exact ⟨by first | rfl | (simp [errW_none, errW_some] <;> rfl) | (simp [*, errW_none, errW_some] <;> rfl), by repeat (first | (with_reducible first | exact HB.out | apply below_alloc | apply pw_below_drewN | apply below_drew1 | refine below_set ?_ GE170.out) | exact HB.out)⟩

end Go.Proofs.YtppjodchlpapdaaDoor.PB

-- By a program of this session (printx.py), out of Lean's own print of the translation. Not trusted: Lean checks it.
namespace Go.Proofs.YtppjodchlpapdaaDoor.PB
open Go.RowKit Go.Proofs.YtppjodchlpapdaaDoorW.PrintWords Go.Proofs.YtppjodchlpapdaaDoorW.PrintLast Go.Proofs.YtppjodchlpapdaaDoorW.PrintMore
attribute [local go_sem] max2_int min2_int max_two min_two max_three min_three max_four min_four   -- for this text's walks alone
set_option linter.unusedVariables false
set_option linter.unusedSimpArgs false

/-! ### interregnumref11_Hop: function 16 -/
def interregnumref11_Hop.f (k : Nat) (a0_0 : Int) (a0_1 : Int) (a0_2 : Int) (a0_3 : Int) (a0_4 : Int) : Option (ByteArray) := (interregnumref11_Dec.f k (wrap64 (a0_0))).bind fun t210 => ((interregnumref11_Dec.f k a0_1).bind fun t211 => ((interregnumref11_Dec.f k (wrap64 (a0_2))).bind fun t212 => ((interregnumref11_Dec.f k a0_3).bind fun t213 => ((interregnumref11_Dec.f k a0_4).bind fun t214 => ((interregnumref11_Texts.f (([t210, t211, t212, t213, t214] : List ByteArray))).bind fun t218 => (some t218))))))
theorem interregnumref11_Hop.mono : ∀ a0 a1 a2 a3 a4 k, LeO (interregnumref11_Hop.f k a0 a1 a2 a3 a4) (interregnumref11_Hop.f (k + 1) a0 a1 a2 a3 a4) := by
  intro a0 a1 a2 a3 a4 k
  unfold interregnumref11_Hop.f
  repeat' first
      | (with_reducible exact interregnumref11_Dec.mono _ _)
      | (with_reducible exact LeO.refl _)
      | (with_reducible exact LeO.none _)
      | (with_reducible refine LeO.ite ?_ ?_)
      | (with_reducible refine LeO.bind ?_ (fun _ => ?_))
      | exact interregnumref11_Dec.mono _ _
      | exact LeO.none _
      | refine LeO.ite ?_ ?_
      | refine LeO.bind ?_ (fun _ => ?_)
def interregnumref11_Hop.T1 : Bool × List (List Nat × List Nat) := (true, [([], []), ([0], [0]), ([1], [1]), ([2], [2]), ([3], [3]), ([], []), ([5], [5]), ([6], [6]), ([7, 4], [7]), ([], []), ([9], [9]), ([10], [10]), ([11, 8], [11]), ([], []), ([13], [13]), ([14, 12], [14]), ([], []), ([16], [16]), ([17, 15], [17]), ([4, 8, 12, 15, 18], [4, 8, 12, 15, 18]), ([19, 18], [19]), ([20, 20, 0, 1, 2, 3, 4, 5, 6, 7, 8, 9, 10, 11, 12, 13, 14, 15, 16, 17, 18, 19, 20], [20])])
def interregnumref11_Hop.B1 : List Nat := [0, 1, 3, 7, 15, 0, 32, 96, 255, 0, 512, 1536, 4095, 0, 8192, 32767, 0, 65536, 262143, 524287, 1048575, 2097151]
theorem interregnumref11_Hop.tab1 : rtab .any (opsOf Tryd.f16 1) = interregnumref11_Hop.T1 := by kernel_rfl
theorem interregnumref11_Hop.bits1 : waitsOk interregnumref11_Hop.T1.2 interregnumref11_Hop.B1 = true := by kernel_rfl
set_option maxHeartbeats 8000000 in
set_option maxRecDepth 100000 in
theorem interregnumref11_Hop.calls (k : Nat) (a0_0 : Int) (a0_1 : Int) (a0_2 : Int) (a0_3 : Int) (a0_4 : Int) (r : ByteArray) (w : World) (h : interregnumref11_Hop.f k a0_0 a0_1 a0_2 a0_3 a0_4 = some r) :
    Calls Tryd.prog 16 #[.agg #[.int .u32 a0_0, .int .i64 a0_1, .int .u32 a0_2, .int .i64 a0_3, .int .i64 a0_4]] w fun e w' => e = .returned (.string r) ∧ Below w.heap.size w w' := by
  have hu35 := Tryd.underlying35
  have HB := Aside0.mk (Below.refl w.heap.size w)
  have H : ((interregnumref11_Dec.f k (wrap64 (a0_0))).bind fun t210 => ((interregnumref11_Dec.f k a0_1).bind fun t211 => ((interregnumref11_Dec.f k (wrap64 (a0_2))).bind fun t212 => ((interregnumref11_Dec.f k a0_3).bind fun t213 => ((interregnumref11_Dec.f k a0_4).bind fun t214 => ((interregnumref11_Texts.f (([t210, t211, t212, t213, t214] : List ByteArray))).bind fun t218 => (some t218))))))) = some r := h
  clear h
  replace H := Option.bind_eq_some_iff.mp H
  obtain ⟨t210, A20, H⟩ := H
  replace H : ((interregnumref11_Dec.f k a0_1).bind fun t211 => ((interregnumref11_Dec.f k (wrap64 (a0_2))).bind fun t212 => ((interregnumref11_Dec.f k a0_3).bind fun t213 => ((interregnumref11_Dec.f k a0_4).bind fun t214 => ((interregnumref11_Texts.f (([t210, t211, t212, t213, t214] : List ByteArray))).bind fun t218 => (some t218)))))) = some r := H
  have A2 := Aside0.mk A20
  clear A20
  replace H := Option.bind_eq_some_iff.mp H
  obtain ⟨t211, A30, H⟩ := H
  replace H : ((interregnumref11_Dec.f k (wrap64 (a0_2))).bind fun t212 => ((interregnumref11_Dec.f k a0_3).bind fun t213 => ((interregnumref11_Dec.f k a0_4).bind fun t214 => ((interregnumref11_Texts.f (([t210, t211, t212, t213, t214] : List ByteArray))).bind fun t218 => (some t218))))) = some r := H
  have A3 := Aside0.mk A30
  clear A30
  replace H := Option.bind_eq_some_iff.mp H
  obtain ⟨t212, A40, H⟩ := H
  replace H : ((interregnumref11_Dec.f k a0_3).bind fun t213 => ((interregnumref11_Dec.f k a0_4).bind fun t214 => ((interregnumref11_Texts.f (([t210, t211, t212, t213, t214] : List ByteArray))).bind fun t218 => (some t218)))) = some r := H
  have A4 := Aside0.mk A40
  clear A40
  replace H := Option.bind_eq_some_iff.mp H
  obtain ⟨t213, A50, H⟩ := H
  replace H : ((interregnumref11_Dec.f k a0_4).bind fun t214 => ((interregnumref11_Texts.f (([t210, t211, t212, t213, t214] : List ByteArray))).bind fun t218 => (some t218))) = some r := H
  have A5 := Aside0.mk A50
  clear A50
  replace H := Option.bind_eq_some_iff.mp H
  obtain ⟨t214, A60, H⟩ := H
  replace H : ((interregnumref11_Texts.f (([t210, t211, t212, t213, t214] : List ByteArray))).bind fun t218 => (some t218)) = some r := H
  have A6 := Aside0.mk A60
  clear A60
  obtain ⟨y215, hy215⟩ : ∃ y_ : List ByteArray, y_ = (([t210, t211, t212, t213, t214] : List ByteArray)) := ⟨_, rfl⟩
  replace H : ((interregnumref11_Texts.f y215).bind fun t218 => (some t218)) = some r := by first | (rw [hy215]; with_reducible exact H) | (have H2_ := (Option.bind_some _ _).symm.trans H; rw [hy215]; with_reducible exact H2_) | (have H2_ := (Option.bind_some _ _).symm.trans H; with_reducible exact H2_) | with_reducible exact H | (rw [hy215]; exact H) | exact H
  have Ny215 := Aside0.mk hy215
  clear hy215
  replace H := Option.bind_eq_some_iff.mp H
  obtain ⟨t218, A70, H⟩ := H
  replace H : (some t218) = some r := H
  have A7 := Aside0.mk A70
  clear A70
  obtain rfl := Option.some.inj H
  go_enter Tryd.func16, Tryd.ntmps16
  try go_wp2_with (first | ((with_reducible refine gate_dst (N := 1) rfl ?_); refine box_event ?hg (N := 1) ?hd (cs := #[.int .u32 a0_0, .int .i64 a0_1, .int .u32 a0_2, .int .i64 a0_3, .int .i64 a0_4]) (t := 35) ?hr ?_; (case hd => rfl); (case hg => rfl); (case hr => first | (go_simp; done) | (go_simp; rfl) | (go_simp; simp [IntKind.wrap_u8]; done)); intro gb209 hg w8 hbox hb; have n0_ := Aside0.mk (below_step (by repeat (first | (with_reducible first | exact HB.out | apply below_alloc | apply pw_below_drewN | apply below_drew1) | exact HB.out)) hb); have n1_ := Aside0.mk (hbox); have n2_ := Aside0.mk ((by rw [hg]; exact (below_size (by repeat (first | (with_reducible first | exact HB.out | apply below_alloc | apply pw_below_drewN | apply below_drew1) | exact HB.out))) : w.heap.size ≤ gb209)); have n3_ := Aside0.mk ((by rw [hg]; exact (below_size (by repeat (first | (with_reducible first | exact HB.out | apply below_alloc | apply pw_below_drewN | apply below_drew1) | exact HB.out))) : w.heap.size ≤ gb209)); clear HB; have HB := n0_; have BK209 := n1_; have GW209 := n2_; have GE209 := n3_; clear n0_ n1_ n2_ n3_; clear hb hbox hg))
  have n0_ := Aside0.mk (blk_drew BK209.out)
  have n1_ := Aside0.mk (below_drew1 HB.out)
  clear BK209
  clear HB
  have BK209 := n0_
  have HB := n1_
  clear n0_ n1_
  refine start_ (n := 22) (S := fun w' => w'.cell? ⟨gb209, 0, none⟩ = some (.int .u32 a0_0) ∧ w'.cell? ⟨gb209, 1, none⟩ = some (.int .i64 a0_1) ∧ w'.cell? ⟨gb209, 2, none⟩ = some (.int .u32 a0_2) ∧ w'.cell? ⟨gb209, 3, none⟩ = some (.int .i64 a0_3) ∧ w'.cell? ⟨gb209, 4, none⟩ = some (.int .i64 a0_4)) (ds := []) #[false, false, false, false, false, false, false, false, false, false, false, false, false, false, false, false, false, false, false, false, false, false] (by kernel_rfl) rfl rfl ⟨(blk_cell BK209.out 0).trans rfl, (blk_cell BK209.out 1).trans rfl, (blk_cell BK209.out 2).trans rfl, (blk_cell BK209.out 3).trans rfl, (blk_cell BK209.out 4).trans rfl⟩ (fun hHeld => ?_); refine with_tabW interregnumref11_Hop.tab1 interregnumref11_Hop.bits1 (fun HT_ HW_ => ?_)
  generalize w8.drew = w9 at BK209 HB hHeld ⊢
  refine pure_ (i := 0) (N := some 3) (v := ?_) (a' := ?_) #[true, false, false, false, false, false, false, false, false, false, false, false, false, false, false, false, false, false, false, false, false, false] rfl rfl (any_of HT_.out (by kernel_rfl)) (fun _ _ _ h => h) (Or.inl ⟨by rfl, ?_⟩) ?_ ?_
  rotate_left
  · intro w'
    go_simp
    with_reducible rfl
  rotate_left
  · simp only [Act.put, List.setIfInBounds_toArray, List.set_cons_zero, List.set_cons_succ, i64_w, i32_w]
    rfl
  refine pure_ (i := 1) (N := some 4) (v := ?_) (a' := ?_) #[true, true, false, false, false, false, false, false, false, false, false, false, false, false, false, false, false, false, false, false, false, false] rfl rfl (any_of HT_.out (by kernel_rfl)) (fun _ _ _ h => h) (Or.inl ⟨by rfl, ?_⟩) ?_ ?_
  rotate_left
  · intro w'
    go_simp
    with_reducible rfl
  rotate_left
  · simp only [Act.put, List.setIfInBounds_toArray, List.set_cons_zero, List.set_cons_succ, i64_w, i32_w]
    rfl
  refine pure_ (i := 5) (N := some 8) (v := ?_) (a' := ?_) #[true, true, false, false, false, true, false, false, false, false, false, false, false, false, false, false, false, false, false, false, false, false] rfl rfl (any_of HT_.out (by kernel_rfl)) (fun _ _ _ h => h) (Or.inl ⟨by rfl, ?_⟩) ?_ ?_
  rotate_left
  · intro w'
    go_simp
    with_reducible rfl
  rotate_left
  · simp only [Act.put, List.setIfInBounds_toArray, List.set_cons_zero, List.set_cons_succ, i64_w, i32_w]
    rfl
  refine pure_ (i := 6) (N := some 9) (v := ?_) (a' := ?_) #[true, true, false, false, false, true, true, false, false, false, false, false, false, false, false, false, false, false, false, false, false, false] rfl rfl (any_of HT_.out (by kernel_rfl)) (fun _ _ _ h => h) (Or.inl ⟨by rfl, ?_⟩) ?_ ?_
  rotate_left
  · intro w'
    go_simp
    with_reducible rfl
  rotate_left
  · simp only [Act.put, List.setIfInBounds_toArray, List.set_cons_zero, List.set_cons_succ, i64_w, i32_w]
    rfl
  refine pure_ (i := 9) (N := some 12) (v := ?_) (a' := ?_) #[true, true, false, false, false, true, true, false, false, true, false, false, false, false, false, false, false, false, false, false, false, false] rfl rfl (any_of HT_.out (by kernel_rfl)) (fun _ _ _ h => h) (Or.inl ⟨by rfl, ?_⟩) ?_ ?_
  rotate_left
  · intro w'
    go_simp
    with_reducible rfl
  rotate_left
  · simp only [Act.put, List.setIfInBounds_toArray, List.set_cons_zero, List.set_cons_succ, i64_w, i32_w]
    rfl
  refine pure_ (i := 13) (N := some 16) (v := ?_) (a' := ?_) #[true, true, false, false, false, true, true, false, false, true, false, false, false, true, false, false, false, false, false, false, false, false] rfl rfl (any_of HT_.out (by kernel_rfl)) (fun _ _ _ h => h) (Or.inl ⟨by rfl, ?_⟩) ?_ ?_
  rotate_left
  · intro w'
    go_simp
    with_reducible rfl
  rotate_left
  · simp only [Act.put, List.setIfInBounds_toArray, List.set_cons_zero, List.set_cons_succ, i64_w, i32_w]
    rfl
  refine pure_ (i := 16) (N := some 19) (v := ?_) (a' := ?_) #[true, true, false, false, false, true, true, false, false, true, false, false, false, true, false, false, true, false, false, false, false, false] rfl rfl (any_of HT_.out (by kernel_rfl)) (fun _ _ _ h => h) (Or.inl ⟨by rfl, ?_⟩) ?_ ?_
  rotate_left
  · intro w'
    go_simp
    with_reducible rfl
  rotate_left
  · simp only [Act.put, List.setIfInBounds_toArray, List.set_cons_zero, List.set_cons_succ, i64_w, i32_w]
    rfl
  refine take_ (i := 2) (N := some 5) (v := ?_) (a' := ?_) #[true, true, true, false, false, true, true, false, false, true, false, false, false, true, false, false, true, false, false, false, false, false] rfl rfl (take_ofW HT_.out HW_.out (by kernel_rfl)) (fun _ _ _ h => h) (Or.inl ⟨by rfl, ?_⟩) hHeld ?_ ?_
  rotate_left
  · rintro w' ⟨s0, s1, s2, s3, s4⟩
    go_simp
    with_reducible rfl
  rotate_left
  · simp only [Act.put, List.setIfInBounds_toArray, List.set_cons_zero, List.set_cons_succ, i64_w, i32_w]
    rfl
  refine pure_ (i := 3) (N := some 6) (v := ?_) (a' := ?_) #[true, true, true, true, false, true, true, false, false, true, false, false, false, true, false, false, true, false, false, false, false, false] rfl rfl (any_of HT_.out (by kernel_rfl)) (fun _ _ _ h => h) (Or.inl ⟨by rfl, ?_⟩) ?_ ?_
  rotate_left
  · intro w'
    go_simp
    with_reducible rfl
  rotate_left
  · simp only [Act.put, List.setIfInBounds_toArray, List.set_cons_zero, List.set_cons_succ, i64_w, i32_w]
    rfl
  refine take_ (i := 7) (N := some 10) (v := ?_) (a' := ?_) #[true, true, true, true, false, true, true, true, false, true, false, false, false, true, false, false, true, false, false, false, false, false] rfl rfl (take_ofW HT_.out HW_.out (by kernel_rfl)) (fun _ _ _ h => h) (Or.inl ⟨by rfl, ?_⟩) hHeld ?_ ?_
  rotate_left
  · rintro w' ⟨s0, s1, s2, s3, s4⟩
    go_simp
    with_reducible rfl
  rotate_left
  · simp only [Act.put, List.setIfInBounds_toArray, List.set_cons_zero, List.set_cons_succ, i64_w, i32_w]
    rfl
  refine take_ (i := 10) (N := some 13) (v := ?_) (a' := ?_) #[true, true, true, true, false, true, true, true, false, true, true, false, false, true, false, false, true, false, false, false, false, false] rfl rfl (take_ofW HT_.out HW_.out (by kernel_rfl)) (fun _ _ _ h => h) (Or.inl ⟨by rfl, ?_⟩) hHeld ?_ ?_
  rotate_left
  · rintro w' ⟨s0, s1, s2, s3, s4⟩
    go_simp
    with_reducible rfl
  rotate_left
  · simp only [Act.put, List.setIfInBounds_toArray, List.set_cons_zero, List.set_cons_succ, i64_w, i32_w]
    rfl
  refine pure_ (i := 11) (N := some 14) (v := ?_) (a' := ?_) #[true, true, true, true, false, true, true, true, false, true, true, true, false, true, false, false, true, false, false, false, false, false] rfl rfl (any_of HT_.out (by kernel_rfl)) (fun _ _ _ h => h) (Or.inl ⟨by rfl, ?_⟩) ?_ ?_
  rotate_left
  · intro w'
    go_simp
    with_reducible rfl
  rotate_left
  · simp only [Act.put, List.setIfInBounds_toArray, List.set_cons_zero, List.set_cons_succ, i64_w, i32_w]
    rfl
  refine take_ (i := 14) (N := some 17) (v := ?_) (a' := ?_) #[true, true, true, true, false, true, true, true, false, true, true, true, false, true, true, false, true, false, false, false, false, false] rfl rfl (take_ofW HT_.out HW_.out (by kernel_rfl)) (fun _ _ _ h => h) (Or.inl ⟨by rfl, ?_⟩) hHeld ?_ ?_
  rotate_left
  · rintro w' ⟨s0, s1, s2, s3, s4⟩
    go_simp
    with_reducible rfl
  rotate_left
  · simp only [Act.put, List.setIfInBounds_toArray, List.set_cons_zero, List.set_cons_succ, i64_w, i32_w]
    rfl
  refine take_ (i := 17) (N := some 20) (v := ?_) (a' := ?_) #[true, true, true, true, false, true, true, true, false, true, true, true, false, true, true, false, true, true, false, false, false, false] rfl rfl (take_ofW HT_.out HW_.out (by kernel_rfl)) (fun _ _ _ h => h) (Or.inl ⟨by rfl, ?_⟩) hHeld ?_ ?_
  rotate_left
  · rintro w' ⟨s0, s1, s2, s3, s4⟩
    go_simp
    with_reducible rfl
  rotate_left
  · simp only [Act.put, List.setIfInBounds_toArray, List.set_cons_zero, List.set_cons_succ, i64_w, i32_w]
    rfl
  refine one_ (i := 4) (N := some 7) #[true, true, true, true, true, true, true, true, false, true, true, true, false, true, true, false, true, true, false, false, false, false] rfl rfl (one_of HT_.out (by kernel_rfl)) (by decide) (fun K hK => ?_)
  refine goes_ Tryd.func27 (by kernel_rfl) rfl #[.int .i64 (wrap64 (a0_0))] (by rfl) rfl rfl (by (try simp only [List.map_toArray, List.map_cons, List.map_nil]); first | done | rfl | (simp only [List.length_drop, List.length_take]; rfl)) ?_
  with_reducible refine (interregnumref11_Dec.calls k (wrap64 (a0_0)) t210 _ A2.out).mono ?_
  rintro e w10 ⟨rfl, hb⟩
  refine ⟨_, rfl, ?_⟩
  have n0_ := Aside0.mk (blk_below (g := gb209) (o := .cells #[.int .u32 a0_0, .int .i64 a0_1, .int .u32 a0_2, .int .i64 a0_3, .int .i64 a0_4] 35 (0, 0)) (by (with_reducible repeat (first | refine blk_drewN ?_ _ | refine blk_drew ?_ | refine blk_alloc ?_ _)); exact BK209.out) hb)
  have n1_ := Aside0.mk (below_step (by repeat (first | (with_reducible first | exact HB.out | apply below_alloc | apply pw_below_drewN | apply below_drew1 | refine below_set ?_ GE209.out) | exact HB.out)) hb)
  clear BK209
  clear HB
  have BK209 := n0_
  have HB := n1_
  clear n0_ n1_
  (try clear hb)
  (try clear hb2)
  (try clear hk)
  (try clear hi)
  refine hK.out _ _ ⟨(blk_cell BK209.out 0).trans rfl, (blk_cell BK209.out 1).trans rfl, (blk_cell BK209.out 2).trans rfl, (blk_cell BK209.out 3).trans rfl, (blk_cell BK209.out 4).trans rfl⟩ (fun hHeld => ?_)
  clear hK K
  refine norm_ (a' := ?_) ?_ ?_
  rotate_left
  · show Act.put _ (some 7) _ = _
    simp only [Act.put, List.setIfInBounds_toArray, List.set_cons_zero, List.set_cons_succ, i64_w, i32_w]
    rfl
  refine one_ (i := 8) (N := some 11) #[true, true, true, true, true, true, true, true, true, true, true, true, false, true, true, false, true, true, false, false, false, false] rfl rfl (one_of HT_.out (by kernel_rfl)) (by decide) (fun K hK => ?_)
  refine goes_ Tryd.func27 (by kernel_rfl) rfl #[.int .i64 a0_1] (by rfl) rfl rfl (by (try simp only [List.map_toArray, List.map_cons, List.map_nil]); first | done | rfl | (simp only [List.length_drop, List.length_take]; rfl)) ?_
  with_reducible refine (interregnumref11_Dec.calls k a0_1 t211 _ A3.out).mono ?_
  rintro e w11 ⟨rfl, hb⟩
  refine ⟨_, rfl, ?_⟩
  have n0_ := Aside0.mk (blk_below (g := gb209) (o := .cells #[.int .u32 a0_0, .int .i64 a0_1, .int .u32 a0_2, .int .i64 a0_3, .int .i64 a0_4] 35 (0, 0)) (by (with_reducible repeat (first | refine blk_drewN ?_ _ | refine blk_drew ?_ | refine blk_alloc ?_ _)); exact BK209.out) hb)
  have n1_ := Aside0.mk (below_step (by repeat (first | (with_reducible first | exact HB.out | apply below_alloc | apply pw_below_drewN | apply below_drew1 | refine below_set ?_ GE209.out) | exact HB.out)) hb)
  clear BK209
  clear HB
  have BK209 := n0_
  have HB := n1_
  clear n0_ n1_
  (try clear hb)
  (try clear hb2)
  (try clear hk)
  (try clear hi)
  refine hK.out _ _ ⟨(blk_cell BK209.out 0).trans rfl, (blk_cell BK209.out 1).trans rfl, (blk_cell BK209.out 2).trans rfl, (blk_cell BK209.out 3).trans rfl, (blk_cell BK209.out 4).trans rfl⟩ (fun hHeld => ?_)
  clear hK K
  refine norm_ (a' := ?_) ?_ ?_
  rotate_left
  · show Act.put _ (some 11) _ = _
    simp only [Act.put, List.setIfInBounds_toArray, List.set_cons_zero, List.set_cons_succ, i64_w, i32_w]
    rfl
  refine one_ (i := 12) (N := some 15) #[true, true, true, true, true, true, true, true, true, true, true, true, true, true, true, false, true, true, false, false, false, false] rfl rfl (one_of HT_.out (by kernel_rfl)) (by decide) (fun K hK => ?_)
  refine goes_ Tryd.func27 (by kernel_rfl) rfl #[.int .i64 (wrap64 (a0_2))] (by rfl) rfl rfl (by (try simp only [List.map_toArray, List.map_cons, List.map_nil]); first | done | rfl | (simp only [List.length_drop, List.length_take]; rfl)) ?_
  with_reducible refine (interregnumref11_Dec.calls k (wrap64 (a0_2)) t212 _ A4.out).mono ?_
  rintro e w12 ⟨rfl, hb⟩
  refine ⟨_, rfl, ?_⟩
  have n0_ := Aside0.mk (blk_below (g := gb209) (o := .cells #[.int .u32 a0_0, .int .i64 a0_1, .int .u32 a0_2, .int .i64 a0_3, .int .i64 a0_4] 35 (0, 0)) (by (with_reducible repeat (first | refine blk_drewN ?_ _ | refine blk_drew ?_ | refine blk_alloc ?_ _)); exact BK209.out) hb)
  have n1_ := Aside0.mk (below_step (by repeat (first | (with_reducible first | exact HB.out | apply below_alloc | apply pw_below_drewN | apply below_drew1 | refine below_set ?_ GE209.out) | exact HB.out)) hb)
  clear BK209
  clear HB
  have BK209 := n0_
  have HB := n1_
  clear n0_ n1_
  (try clear hb)
  (try clear hb2)
  (try clear hk)
  (try clear hi)
  refine hK.out _ _ ⟨(blk_cell BK209.out 0).trans rfl, (blk_cell BK209.out 1).trans rfl, (blk_cell BK209.out 2).trans rfl, (blk_cell BK209.out 3).trans rfl, (blk_cell BK209.out 4).trans rfl⟩ (fun hHeld => ?_)
  clear hK K
  refine norm_ (a' := ?_) ?_ ?_
  rotate_left
  · show Act.put _ (some 15) _ = _
    simp only [Act.put, List.setIfInBounds_toArray, List.set_cons_zero, List.set_cons_succ, i64_w, i32_w]
    rfl
  refine one_ (i := 15) (N := some 18) #[true, true, true, true, true, true, true, true, true, true, true, true, true, true, true, true, true, true, false, false, false, false] rfl rfl (one_of HT_.out (by kernel_rfl)) (by decide) (fun K hK => ?_)
  refine goes_ Tryd.func27 (by kernel_rfl) rfl #[.int .i64 a0_3] (by rfl) rfl rfl (by (try simp only [List.map_toArray, List.map_cons, List.map_nil]); first | done | rfl | (simp only [List.length_drop, List.length_take]; rfl)) ?_
  with_reducible refine (interregnumref11_Dec.calls k a0_3 t213 _ A5.out).mono ?_
  rintro e w13 ⟨rfl, hb⟩
  refine ⟨_, rfl, ?_⟩
  have n0_ := Aside0.mk (blk_below (g := gb209) (o := .cells #[.int .u32 a0_0, .int .i64 a0_1, .int .u32 a0_2, .int .i64 a0_3, .int .i64 a0_4] 35 (0, 0)) (by (with_reducible repeat (first | refine blk_drewN ?_ _ | refine blk_drew ?_ | refine blk_alloc ?_ _)); exact BK209.out) hb)
  have n1_ := Aside0.mk (below_step (by repeat (first | (with_reducible first | exact HB.out | apply below_alloc | apply pw_below_drewN | apply below_drew1 | refine below_set ?_ GE209.out) | exact HB.out)) hb)
  clear BK209
  clear HB
  have BK209 := n0_
  have HB := n1_
  clear n0_ n1_
  (try clear hb)
  (try clear hb2)
  (try clear hk)
  (try clear hi)
  refine hK.out _ _ ⟨(blk_cell BK209.out 0).trans rfl, (blk_cell BK209.out 1).trans rfl, (blk_cell BK209.out 2).trans rfl, (blk_cell BK209.out 3).trans rfl, (blk_cell BK209.out 4).trans rfl⟩ (fun hHeld => ?_)
  clear hK K
  refine norm_ (a' := ?_) ?_ ?_
  rotate_left
  · show Act.put _ (some 18) _ = _
    simp only [Act.put, List.setIfInBounds_toArray, List.set_cons_zero, List.set_cons_succ, i64_w, i32_w]
    rfl
  refine one_ (i := 18) (N := some 21) #[true, true, true, true, true, true, true, true, true, true, true, true, true, true, true, true, true, true, true, false, false, false] rfl rfl (one_of HT_.out (by kernel_rfl)) (by decide) (fun K hK => ?_)
  refine goes_ Tryd.func27 (by kernel_rfl) rfl #[.int .i64 a0_4] (by rfl) rfl rfl (by (try simp only [List.map_toArray, List.map_cons, List.map_nil]); first | done | rfl | (simp only [List.length_drop, List.length_take]; rfl)) ?_
  with_reducible refine (interregnumref11_Dec.calls k a0_4 t214 _ A6.out).mono ?_
  rintro e w14 ⟨rfl, hb⟩
  refine ⟨_, rfl, ?_⟩
  have n0_ := Aside0.mk (blk_below (g := gb209) (o := .cells #[.int .u32 a0_0, .int .i64 a0_1, .int .u32 a0_2, .int .i64 a0_3, .int .i64 a0_4] 35 (0, 0)) (by (with_reducible repeat (first | refine blk_drewN ?_ _ | refine blk_drew ?_ | refine blk_alloc ?_ _)); exact BK209.out) hb)
  have n1_ := Aside0.mk (below_step (by repeat (first | (with_reducible first | exact HB.out | apply below_alloc | apply pw_below_drewN | apply below_drew1 | refine below_set ?_ GE209.out) | exact HB.out)) hb)
  clear BK209
  clear HB
  have BK209 := n0_
  have HB := n1_
  clear n0_ n1_
  (try clear hb)
  (try clear hb2)
  (try clear hk)
  (try clear hi)
  refine hK.out _ _ ⟨(blk_cell BK209.out 0).trans rfl, (blk_cell BK209.out 1).trans rfl, (blk_cell BK209.out 2).trans rfl, (blk_cell BK209.out 3).trans rfl, (blk_cell BK209.out 4).trans rfl⟩ (fun hHeld => ?_)
  clear hK K
  refine norm_ (a' := ?_) ?_ ?_
  rotate_left
  · show Act.put _ (some 21) _ = _
    simp only [Act.put, List.setIfInBounds_toArray, List.set_cons_zero, List.set_cons_succ, i64_w, i32_w]
    rfl
  refine one_ (i := 19) (N := some 22) #[true, true, true, true, true, true, true, true, true, true, true, true, true, true, true, true, true, true, true, true, false, false] rfl rfl (one_of HT_.out (by kernel_rfl)) (by decide) (fun K hK => ?_)
  refine Kd.R_lit_step Kd.string _ 9 ?hg (N := 22) ?hd (xs := ([t210, t211, t212, t213, t214] : List ByteArray)) (inner := [.string t210, .string t211, .string t212, .string t213, .string t214]) (ok := fun _ => True) (okp := fun _ => True) ?hr ?hp (fun _ hk => hk) trivial (Below.refl _ _) (Nat.le_refl _) (by simp) ?_; (case hd => rfl); (case hg => rfl); (case hr => first | (go_simp; done) | (go_simp; rfl) | (go_simp; simp [IntKind.wrap_u8]; done)); (case hp => exact (Reps.one (show Kd.M Kd.string _ _ _ t210 [.string t210] from rfl) (Reps.one (show Kd.M Kd.string _ _ _ t211 [.string t211] from rfl) (Reps.one (show Kd.M Kd.string _ _ _ t212 [.string t212] from rfl) (Reps.one (show Kd.M Kd.string _ _ _ t213 [.string t213] from rfl) (Reps.one (show Kd.M Kd.string _ _ _ t214 [.string t214] from rfl) (Reps.none _ _)))))))
  intro v216 w15 ho16 hb hg_ hnew_
  clear hg_ hnew_
  (first | rw [← Ny215.out] at ho16 | (simp only [Int.reduceToNat] at ho16; rw [← Ny215.out] at ho16))
  have n0_ := Aside0.mk (Kd.R_lower ho16 (below_size (by repeat (first | (with_reducible first | exact HB.out | apply below_alloc | apply pw_below_drewN | apply below_drew1 | refine below_set ?_ GE209.out) | exact HB.out))))
  have n1_ := Aside0.mk (blk_below (g := gb209) (o := .cells #[.int .u32 a0_0, .int .i64 a0_1, .int .u32 a0_2, .int .i64 a0_3, .int .i64 a0_4] 35 (0, 0)) (by (with_reducible repeat (first | refine blk_drewN ?_ _ | refine blk_drew ?_ | refine blk_alloc ?_ _)); exact BK209.out) hb)
  have n2_ := Aside0.mk (below_step (by repeat (first | (with_reducible first | exact HB.out | apply below_alloc | apply pw_below_drewN | apply below_drew1 | refine below_set ?_ GE209.out) | exact HB.out)) hb)
  clear BK209
  clear HB
  have HO217 := n0_
  have BK209 := n1_
  have HB := n2_
  clear n0_ n1_ n2_
  clear hb ho16
  obtain ⟨Ao17, co17, eo17⟩ := Kd.R_slice HO217.out
  (first | subst eo17 | (injection eo17 with f1_ f2_ f3_; have f4_ := f1_.symm; have f5_ := f3_.symm; clear f1_ f2_ f3_; subst f4_; subst f5_))
  refine hK.out _ _ ⟨(blk_cell BK209.out 0).trans rfl, (blk_cell BK209.out 1).trans rfl, (blk_cell BK209.out 2).trans rfl, (blk_cell BK209.out 3).trans rfl, (blk_cell BK209.out 4).trans rfl⟩ (fun hHeld => ?_)
  clear hK K
  refine norm_ (a' := ?_) ?_ ?_
  rotate_left
  · show Act.put _ (some 22) _ = _
    simp only [Act.put, List.setIfInBounds_toArray, List.set_cons_zero, List.set_cons_succ, i64_w, i32_w]
    rfl
  refine one_ (i := 20) (N := some 23) #[true, true, true, true, true, true, true, true, true, true, true, true, true, true, true, true, true, true, true, true, true, false] rfl rfl (one_of HT_.out (by kernel_rfl)) (by decide) (fun K hK => ?_)
  refine goes_ Tryd.func12 (by kernel_rfl) rfl #[.slice Ao17 y215.length co17] (by rfl) rfl rfl (by (try simp only [List.map_toArray, List.map_cons, List.map_nil]); first | done | rfl | (simp only [List.length_drop, List.length_take]; rfl)) ?_
  with_reducible refine (interregnumref11_Texts.calls _ _ y215 t218 _ ?side1 ?side2 A7.out).mono ?_
  (case side1 => repeat (first | exact (Kd.R_reads' HO217.out).2.2 | (with_reducible refine Kd.C_alloc ?_ _) | (with_reducible refine Kd.C_drewN ?_ _) | (with_reducible refine Kd.C_drew ?_)))
  (case side2 => exact (Kd.R_reads' HO217.out).2.1)
  rintro e w18 ⟨rfl, hb⟩
  refine ⟨_, rfl, ?_⟩
  have n0_ := Aside0.mk (Kd.R_below (by (with_reducible repeat (first | apply Kd.R_alloc | apply Kd.R_drewN | apply Kd.R_drew)); exact HO217.out) hb)
  have n1_ := Aside0.mk (blk_below (g := gb209) (o := .cells #[.int .u32 a0_0, .int .i64 a0_1, .int .u32 a0_2, .int .i64 a0_3, .int .i64 a0_4] 35 (0, 0)) (by (with_reducible repeat (first | refine blk_drewN ?_ _ | refine blk_drew ?_ | refine blk_alloc ?_ _)); exact BK209.out) hb)
  have n2_ := Aside0.mk (below_step (by repeat (first | (with_reducible first | exact HB.out | apply below_alloc | apply pw_below_drewN | apply below_drew1 | refine below_set ?_ GE209.out) | exact HB.out)) hb)
  clear HO217
  clear BK209
  clear HB
  have HO217 := n0_
  have BK209 := n1_
  have HB := n2_
  clear n0_ n1_ n2_
  (try clear hb)
  (try clear hb2)
  (try clear hk)
  (try clear hi)
  refine hK.out _ _ ⟨(blk_cell BK209.out 0).trans rfl, (blk_cell BK209.out 1).trans rfl, (blk_cell BK209.out 2).trans rfl, (blk_cell BK209.out 3).trans rfl, (blk_cell BK209.out 4).trans rfl⟩ (fun hHeld => ?_)
  clear hK K
  refine norm_ (a' := ?_) ?_ ?_
  rotate_left
  · show Act.put _ (some 23) _ = _
    simp only [Act.put, List.setIfInBounds_toArray, List.set_cons_zero, List.set_cons_succ, i64_w, i32_w]
    rfl
  refine pure_ (i := 21) (N := some 2) (v := ?_) (a' := ?_) #[true, true, true, true, true, true, true, true, true, true, true, true, true, true, true, true, true, true, true, true, true, true] rfl rfl (any_of HT_.out (by kernel_rfl)) (fun _ _ _ h => h) (Or.inl ⟨by rfl, ?_⟩) ?_ ?_
  rotate_left
  · intro w'
    go_simp
    with_reducible rfl
  rotate_left
  · simp only [Act.put, List.setIfInBounds_toArray, List.set_cons_zero, List.set_cons_succ, i64_w, i32_w]
    rfl
  refine done_ (done_of HT_.out (by kernel_rfl)) ?_
  try go_wp2
  go_ret
  exact ⟨by first | rfl | (simp [errW_none, errW_some] <;> rfl) | (simp [*, errW_none, errW_some] <;> rfl), by repeat (first | (with_reducible first | exact HB.out | apply below_alloc | apply pw_below_drewN | apply below_drew1 | refine below_set ?_ GE209.out) | exact HB.out)⟩

end Go.Proofs.YtppjodchlpapdaaDoor.PB
