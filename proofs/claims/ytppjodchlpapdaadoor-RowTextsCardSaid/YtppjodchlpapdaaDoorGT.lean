/- The law RowTexts holds of the given program: the row and its tied card. No conditions. -/
import Derived.Test.YtppjodchlpapdaaDoorG14
import Derived.Test.YtppjodchlpapdaaDoorGK
import Derived.Test.YtppjodchlpapdaaDoorCards
import Derived.Test.YtppjodchlpapdaaDoorTie
namespace Go.Proofs.YtppjodchlpapdaaDoor.PB
open Go.RowKit Go.ChangeShapes Go.WideShapes Go.ChangeAt Go.Proofs Go.Proofs.YtppjodchlpapdaaDoor Go.Proofs.YtppjodchlpapdaaDoorW.PrintWords
set_option linter.unusedVariables false
set_option maxRecDepth 100000
set_option maxHeartbeats 40000000

set_option maxRecDepth 100000 in
theorem texts_lifted (os : Os) (started : os.Started) (H : Type) (enc : TypeId × Value → H) :
    ReturnsInHanded {} Tryd.checked os 3 .any (fun w args => (Rows.rowTextsSpec.pre enc Tryd.prog Tryd.f3 Rows.rowTextsRow.domain false w args ∧ laidMetH Tryd.prog Rows.rowTextsRow.laid w) ∧ sizedMet enc Tryd.prog Tryd.f3 (OpenSpec.ofChange Rows.rowTextsSpec) false w args)
      (Rows.rowTextsSpec.post enc Tryd.prog Tryd.f3 false true false false) := by
  refine handed_and_shaped (C := Tryd.checked) (X := fun w _ => laidMetH Tryd.prog Rows.rowTextsRow.laid w) (fun _ _ _ hh h => h.of_heap hh) ownNone started (by kernel_rfl) Tryd.func3
    (ChangeSpec.witness_shaped (enc := enc) (C := Tryd.checked) (os := os) (X := fun w _ => laidMetH Tryd.prog Rows.rowTextsRow.laid w) false (World.laidAll Tryd.prog os Rows.rowTextsRow.laid) #[.slice none 0 0, .string ⟨#[]⟩] 8 (World.laidAll_os _ _ _)
      (World.shaped_of_ZipB (by kernel_rfl) (by kernel_rfl)) (by kernel_rfl) (by kernel_rfl) (by kernel_rfl)
      (by rw [MakeChecks.laidMetH_plain _ _ _ (by kernel_rfl)]; exact laidMet_laidAll _ (by kernel_rfl) (by kernel_rfl))) ?_
  intro W base args ds gs before hval0 hW hsz0 hX hsh
  have hV1 := vars_of_laid (by rw [MakeChecks.laidMetH_plain _ _ _ (by kernel_rfl)] at hX; exact hX) hsh
  have hval : ∀ (j : Nat) t v, Tryd.f3.params[j]? = some t → args[j]? = some v → Value.okWide Tryd.prog W .any base t v := hval0
  have hsz : (DataW.weightsEach Tryd.prog (Tryd.f3.params.toList ++ Rows.rowTextsSpec.plain.varTypes Tryd.prog) (ds ++ gs)).all (· ≤ reachBytes) = true := hsz0
  have hW' := hW
  obtain ⟨p, q, hA0, hV, rfl, _, _⟩ := hW
  have hA : DataW.TrodAll enc Tryd.prog W 0 (fun _ => true) true Tryd.f3.params.toList args.toList ds p := hA0
  rw [Tryd.params3] at hA hval hsz
  obtain ⟨v0, v1, d0, d1, p0, p1, hargs, rfl, rfl, h0, h1⟩ := trodAll_two hA
  subst hargs
  obtain ⟨rfl, rfl⟩ := trodVars_none hV
  obtain ⟨ys, hK0, hG0⟩ := opens_arg (k := Kd.slice 9 Kd.string) (opens_slice Tryd.underlying22 (by kernel_rfl) (opens_string Tryd.underlying9)) h0 hsz (j := 0) rfl rfl
  obtain ⟨s, hK1, hG1⟩ := opens_arg (k := Kd.string) (opens_string Tryd.underlying9) h1 hsz (j := 1) rfl rfl
  obtain ⟨A0, c0, hc0, hcl, hC⟩ := hK0
  obtain ⟨a0, n0, m0, rfl⟩ := okWide_slice Tryd.underlying22 (hval 0 22 v0 rfl rfl)
  simp [Value.cells] at hc0
  obtain ⟨rfl, rfl, rfl⟩ := hc0
  obtain ⟨hG0a, hG0b⟩ := hG0
  obtain ⟨s', rfl⟩ := okWide_string Tryd.underlying9 (hval 1 9 v1 rfl rfl)
  obtain rfl : s' = s := by
    have h := hK1
    simp only [Kd.string, Kd.scalar, Value.cells] at h
    simpa using h
  simp only [List.append_nil] at hW'
  have hlt : ∀ x ∈ p0 ++ p1, x.block < W.heap.size := fun x hx => by simpa using hW'.lt x hx
  have h0k := h0
  have h1k := h1
  have hb16 : Tryd.prog.bytesOf 9 = 16 := by kernel_rfl
  rw [hb16] at hG0a
  obtain ⟨k, hk⟩ := RowTexts_true ys s' (by omega) (fun x hx => by have := hG0b x hx; omega)
  have hcall := interregnumlaw21_RowTexts.calls k _ _ ys s' true W hV1 hC hcl hk
  clear hk
  refine hcall.mono ?_
  rintro e W' ⟨he, hb⟩
  subst he
  exact ⟨_, rfl, _, _, _, [], _, [], hW', trodAll_mk1 (shut_bool Tryd.underlying4 _),
    trodAll_mk2 (Below.trod laidOut (by kernel_rfl) (of_decide_eq_true (by kernel_rfl)) h0k hb (fun x hx => hlt x (List.mem_append_left _ hx))) (Below.trod laidOut (by kernel_rfl) (of_decide_eq_true (by kernel_rfl)) h1k hb (fun x hx => hlt x (List.mem_append_right _ hx))), rfl, hb.frame _, fun h => by cases h⟩
theorem texts_inPlace : (Rows.rowTextsRow.inPlace == Tryd.prog.inPlace 3) = true := by kernel_rfl
theorem texts_unfollowed : (Rows.rowTextsRow.unfollowed == Tryd.prog.unfollowed 3) = true := by kernel_rfl
theorem texts_recurses : (Rows.rowTextsRow.recurses == Tryd.prog.recurses 3) = true := by kernel_rfl
theorem texts_named : (Rows.rowTextsRow.named == Tryd.prog.varsNamed 3) = true := by kernel_rfl
theorem texts_facts : joinedFacts Tryd.prog 3 Tryd.f3 Rows.rowTextsSpec Rows.rowTextsRow = true := by
  unfold joinedFacts
  rw [texts_inPlace, texts_unfollowed, texts_recurses, texts_named]
  simp only [Bool.and_true, Bool.and_eq_true]
  repeat' apply And.intro
  all_goals (as_aux_lemma => kernel_rfl)
theorem texts_instance : Tryd.f3.isInstance Tryd.prog Rows.rowTextsRow.origin Rows.rowTextsRow.targs := of_decide_eq_true (by kernel_rfl)
theorem texts_wrapper : Tryd.f3.isWrapper Tryd.prog Rows.rowTextsRow.wrapper Rows.rowTextsRow.mainSum := by unfold Func.isWrapper; first | (rw [if_pos (by decide +kernel)]; kernel_rfl) | (rw [if_neg (by decide +kernel)]; exact ⟨rfl, rfl⟩)
theorem texts_fn : Tryd.prog.funcNamed "interregnum/interregnumlaw21.RowTexts" = some 3 := by kernel_rfl

theorem rowTexts_holds : Rows.RowTextsSaid :=
  OpenClaim.holds_of_wide 3 Tryd.f3 rfl rfl rfl rfl rfl rfl rfl ⟨rfl, rfl, rfl, rfl, rfl⟩ rfl rfl rfl rfl rfl texts_fn Tryd.func3 texts_facts texts_instance texts_wrapper
    (fun os started H enc _ => texts_lifted os started H enc)

theorem rowTexts_card : Rows.RowTextsCardSaid :=
  Claim7.holds_tied_plain_at .later [] Rows.rowTextsCard.laidKinds true (true, "5a4ee8a5e9a8129e569ebe5ff5d28bae685eac707dcee8756b7df01bd9f1272f") true rowTexts_holds (fun _ h => by cases h) (by as_aux_lemma => kernel_rfl) (fun _ h => by cases h) rowTexts_row_tie rfl ⟨rfl, rfl⟩ (by as_aux_lemma => kernel_rfl) rfl
    (fun f fn hf hfn => by
      obtain rfl : f = 3 := Option.some.inj (texts_fn.symm.trans hf) |>.symm
      obtain rfl : fn = Tryd.f3 := (Option.some.inj (Tryd.func3.symm.trans hfn)).symm
      exact ⟨by as_aux_lemma => kernel_rfl, fun j t ht => by
        rw [Tryd.params3] at ht
        have hm : t ∈ [22, 9] := by simpa using Array.mem_of_getElem? ht
        have hall : ([22, 9].all fun u => !Tryd.prog.wantsStandIn u) = true := by kernel_rfl
        exact (show Tryd.prog.wantsStandIn t = false by simpa using List.all_eq_true.1 hall t hm)⟩)
    (by as_aux_lemma => kernel_rfl)
#print axioms rowTexts_holds
#print axioms rowTexts_card

end Go.Proofs.YtppjodchlpapdaaDoor.PB
