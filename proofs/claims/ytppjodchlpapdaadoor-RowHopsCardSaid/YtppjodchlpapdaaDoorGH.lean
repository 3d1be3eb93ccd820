/- The law RowHops holds of the given program: the row and its tied card. No conditions. -/
import Derived.Test.YtppjodchlpapdaaDoorG12
import Derived.Test.YtppjodchlpapdaaDoorGL
import Derived.Test.YtppjodchlpapdaaDoorCards
import Derived.Test.YtppjodchlpapdaaDoorTie
namespace Go.Proofs.YtppjodchlpapdaaDoor.PB
open Go.RowKit Go.ChangeShapes Go.WideShapes Go.ChangeAt Go.Proofs Go.Proofs.YtppjodchlpapdaaDoor
set_option linter.unusedVariables false
set_option maxRecDepth 100000
set_option maxHeartbeats 40000000

theorem u32_of {x : Int} (h : IntKind.has .u32 x) : U32 x := by
  simp [IntKind.has, IntKind.min, IntKind.max, IntKind.signed, IntKind.bits] at h
  exact ⟨by omega, by omega⟩
theorem i64_of {x : Int} (h : IntKind.has .i64 x) : I64 x := by
  simp [IntKind.has, IntKind.min, IntKind.max, IntKind.signed, IntKind.bits] at h
  exact ⟨by omega, by omega⟩

theorem hop_open {W : World} {base : Nat} {v : Value} (h : Value.okWide Tryd.prog W .any base 35 v) : ∃ a b c d e, v = .agg #[.int .u32 a, .int .i64 b, .int .u32 c, .int .i64 d, .int .i64 e] ∧ U32 a ∧ I64 b ∧ U32 c ∧ I64 d ∧ I64 e := by
  unfold Value.okWide at h
  rw [Tryd.underlying35] at h
  obtain ⟨cs, rfl, hsz, ts, hts, -, hall⟩ := h
  obtain rfl := Option.some.inj ((show Tryd.prog.cellTypes Tryd.prog.depth 35 = some [31, 3, 31, 3, 3] by kernel_rfl).symm.trans hts)
  have hsz5 : cs.size = 5 := hsz.trans (show Tryd.prog.cellsOf 35 = 5 by kernel_rfl)
  obtain ⟨l⟩ := cs
  match l, hsz5 with
  | [c0, c1, c2, c3, c4], _ =>
    obtain ⟨u0, e0, k0⟩ := hall 0 c0 rfl
    obtain ⟨u1, e1, k1⟩ := hall 1 c1 rfl
    obtain ⟨u2, e2, k2⟩ := hall 2 c2 rfl
    obtain ⟨u3, e3, k3⟩ := hall 3 c3 rfl
    obtain ⟨u4, e4, k4⟩ := hall 4 c4 rfl
    obtain rfl := Option.some.inj e0
    obtain rfl := Option.some.inj e1
    obtain rfl := Option.some.inj e2
    obtain rfl := Option.some.inj e3
    obtain rfl := Option.some.inj e4
    obtain ⟨x0, rfl, r0⟩ := cell_int Tryd.underlying31 k0
    obtain ⟨x1, rfl, r1⟩ := cell_int Tryd.underlying3 k1
    obtain ⟨x2, rfl, r2⟩ := cell_int Tryd.underlying31 k2
    obtain ⟨x3, rfl, r3⟩ := cell_int Tryd.underlying3 k3
    obtain ⟨x4, rfl, r4⟩ := cell_int Tryd.underlying3 k4
    exact ⟨x0, x1, x2, x3, x4, rfl, u32_of r0, i64_of r1, u32_of r2, i64_of r3, i64_of r4⟩

set_option maxRecDepth 100000 in
theorem hops_lifted (os : Os) (started : os.Started) (H : Type) (enc : TypeId × Value → H) :
    ReturnsInHanded {} Tryd.checked os 4 .any (fun w args => (Rows.rowHopsSpec.pre enc Tryd.prog Tryd.f4 Rows.rowHopsRow.domain false w args ∧ laidMetH Tryd.prog Rows.rowHopsRow.laid w) ∧ sizedMet enc Tryd.prog Tryd.f4 (OpenSpec.ofChange Rows.rowHopsSpec) false w args)
      (Rows.rowHopsSpec.post enc Tryd.prog Tryd.f4 false true false false) := by
  refine handed_and_shaped (C := Tryd.checked) (X := fun w _ => laidMetH Tryd.prog Rows.rowHopsRow.laid w) (fun _ _ _ hh h => h.of_heap hh) ownNone started (by kernel_rfl) Tryd.func4
    (ChangeSpec.witness_shaped (enc := enc) (C := Tryd.checked) (os := os) (X := fun w _ => laidMetH Tryd.prog Rows.rowHopsRow.laid w) false (World.laidAll Tryd.prog os Rows.rowHopsRow.laid) #[.agg #[.int .u32 0, .int .i64 0, .int .u32 0, .int .i64 0, .int .i64 0]] 8 (World.laidAll_os _ _ _)
      (World.shaped_of_ZipB (by kernel_rfl) (by kernel_rfl)) (by kernel_rfl) (by kernel_rfl) (by kernel_rfl)
      (by rw [MakeChecks.laidMetH_plain _ _ _ (by kernel_rfl)]; exact laidMet_laidAll _ (by kernel_rfl) (by kernel_rfl))) ?_
  intro W base args ds gs before hval0 hW _ hX hsh
  have hV1 := vars_of_laid (by rw [MakeChecks.laidMetH_plain _ _ _ (by kernel_rfl)] at hX; exact hX) hsh
  have hval : ∀ (j : Nat) t v, Tryd.f4.params[j]? = some t → args[j]? = some v → Value.okWide Tryd.prog W .any base t v := hval0
  have hW' := hW
  obtain ⟨p, q, hA0, hV, rfl, _, _⟩ := hW
  have hA : DataW.TrodAll enc Tryd.prog W 0 (fun _ => true) true Tryd.f4.params.toList args.toList ds p := hA0
  rw [Tryd.params4] at hA hval
  obtain ⟨v0, d0, rfl, rfl, h0⟩ := trodAll_one hA
  obtain ⟨rfl, rfl⟩ := trodVars_none hV
  obtain ⟨a, b, c, d, e, rfl, ra, rb, rc, rd', re⟩ := hop_open (hval 0 35 v0 rfl rfl)
  have h0k := h0
  simp only [List.append_nil] at hW'
  have hlt : ∀ x ∈ p, x.block < W.heap.size := fun x hx => by simpa using hW'.lt x hx
  have hargs : ∀ (W' : World), Below W.heap.size W W' → DataW.Trod enc Tryd.prog W' 0 (fun b => decide (b < W.heap.size)) true 35 (.agg #[.int .u32 a, .int .i64 b, .int .u32 c, .int .i64 d, .int .i64 e]) d0 p :=
    fun W' hn => Below.trod laidOut (by kernel_rfl) (of_decide_eq_true (by kernel_rfl)) h0k hn hlt
  refine (interregnumlaw21_RowHops.calls 20 a b c d e true W hV1 (RowHops_true a b c d e ra rb rc rd' re)).mono fun e W' ⟨he, hb⟩ => ?_
  subst he
  exact ⟨_, rfl, _, _, _, [], _, [], hW', trodAll_mk1 (shut_bool Tryd.underlying4 _), trodAll_mk1 (hargs _ hb), rfl, hb.frame _, fun h => by cases h⟩

theorem hops_inPlace : (Rows.rowHopsRow.inPlace == Tryd.prog.inPlace 4) = true := by kernel_rfl
theorem hops_unfollowed : (Rows.rowHopsRow.unfollowed == Tryd.prog.unfollowed 4) = true := by kernel_rfl
theorem hops_recurses : (Rows.rowHopsRow.recurses == Tryd.prog.recurses 4) = true := by kernel_rfl
theorem hops_named : (Rows.rowHopsRow.named == Tryd.prog.varsNamed 4) = true := by kernel_rfl
theorem hops_facts : joinedFacts Tryd.prog 4 Tryd.f4 Rows.rowHopsSpec Rows.rowHopsRow = true := by
  unfold joinedFacts
  rw [hops_inPlace, hops_unfollowed, hops_recurses, hops_named]
  simp only [Bool.and_true, Bool.and_eq_true]
  repeat' apply And.intro
  all_goals (as_aux_lemma => kernel_rfl)
theorem hops_instance : Tryd.f4.isInstance Tryd.prog Rows.rowHopsRow.origin Rows.rowHopsRow.targs := of_decide_eq_true (by kernel_rfl)
theorem hops_wrapper : Tryd.f4.isWrapper Tryd.prog Rows.rowHopsRow.wrapper Rows.rowHopsRow.mainSum := by unfold Func.isWrapper; first | (rw [if_pos (by decide +kernel)]; kernel_rfl) | (rw [if_neg (by decide +kernel)]; exact ⟨rfl, rfl⟩)
theorem hops_fn : Tryd.prog.funcNamed "interregnum/interregnumlaw21.RowHops" = some 4 := by kernel_rfl

theorem rowHops_holds : Rows.RowHopsSaid :=
  OpenClaim.holds_of_wide 4 Tryd.f4 rfl rfl rfl rfl rfl rfl rfl ⟨rfl, rfl, rfl, rfl, rfl⟩ rfl rfl rfl rfl rfl hops_fn Tryd.func4 hops_facts hops_instance hops_wrapper
    (fun os started H enc _ => hops_lifted os started H enc)

theorem rowHops_card : Rows.RowHopsCardSaid :=
  Claim7.holds_tied_plain_at .later [] [.data, .data, .data, .sentinel, .sentinel] true (true, "5a4ee8a5e9a8129e569ebe5ff5d28bae685eac707dcee8756b7df01bd9f1272f") true rowHops_holds (fun _ h => by cases h) (by as_aux_lemma => kernel_rfl) (fun _ h => by cases h) rowHops_row_tie rfl ⟨rfl, rfl⟩ (by as_aux_lemma => kernel_rfl) rfl
    (fun f fn hf hfn => by
      obtain rfl : f = 4 := Option.some.inj (hops_fn.symm.trans hf) |>.symm
      obtain rfl : fn = Tryd.f4 := (Option.some.inj (Tryd.func4.symm.trans hfn)).symm
      exact ⟨by as_aux_lemma => kernel_rfl, fun j t ht => by
        rw [Tryd.params4] at ht
        have hm : t ∈ [35] := by simpa using Array.mem_of_getElem? ht
        have hall : ([35].all fun u => !Tryd.prog.wantsStandIn u) = true := by kernel_rfl
        exact (show Tryd.prog.wantsStandIn t = false by simpa using List.all_eq_true.1 hall t hm)⟩)
    (by as_aux_lemma => kernel_rfl)
#print axioms rowHops_holds
#print axioms rowHops_card
end Go.Proofs.YtppjodchlpapdaaDoor.PB
