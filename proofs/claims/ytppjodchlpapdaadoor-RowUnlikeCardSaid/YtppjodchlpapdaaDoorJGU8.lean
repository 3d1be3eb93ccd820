/- The law RowUnlike, as printed, answers true. Conditions: the numbers are of their kinds and the lists within the reach. The law RowUnlike holds of the given program: the row and its tied card. No conditions. -/
import Derived.Test.YtppjodchlpapdaaDoorJGU6
import Derived.Test.YtppjodchlpapdaaDoorJGU7
import Derived.Test.YtppjodchlpapdaaDoorCards
import Derived.Test.YtppjodchlpapdaaDoorTie
namespace Go.Proofs.YtppjodchlpapdaaDoor.PB
open Go.RowKit Go.Sort Go.Lib Go.Proofs Go.Proofs.YtppjodchlpapdaaDoor Go.Proofs.YtppjodchlpapdaaDoorW.PrintWords
set_option linter.unusedVariables false
set_option linter.unusedSimpArgs false

theorem itoaB_inj {x y : Int} (hx : I64 x) (hy : I64 y) (h : itoaB x = itoaB y) : x = y := by
  have h1 := numV_eq x hx
  rw [h, numV_eq y hy] at h1
  exact (Option.some.inj h1).symm

theorem peerB_inj {n s : Int} {a b : List Ru} {n' s' : Int} {a' b' : List Ru} (h : GoodPeer n s a b) (h' : GoodPeer n' s' a' b') (e : peerB n s a b = peerB n' s' a' b') : a.length = a'.length := by
  have h1 := split_peerB h
  rw [e, split_peerB h'] at h1
  have h2 : peerT n' s' a' b' = peerT n s a b := congrArg Prod.fst h1
  have h3 : itoaB (a'.length : Int) = itoaB (a.length : Int) := by
    have := congrArg (fun l : List ByteArray => (l.tail.tail).headD ⟨#[]⟩) h2
    exact this
  have := itoaB_inj (len_i64 _ h'.la) (len_i64 _ h.la) h3
  omega

theorem hopB_inj {a b c d e a' b' c' d' e' : Int} (ha : U32 a) (hb : I64 b) (hc : U32 c) (hd : I64 d) (he : I64 e) (ha' : U32 a') (hb' : I64 b') (hc' : U32 c') (hd' : I64 d') (he' : I64 e') (h : hopB a b c d e = hopB a' b' c' d' e') :
    a = a' ∧ b = b' ∧ c = c' ∧ d = d' ∧ e = e' := by
  have h1 := split_hopB a b c d e ha hb hc hd he
  rw [h, split_hopB a' b' c' d' e' ha' hb' hc' hd' he'] at h1
  have h2 : hopT a' b' c' d' e' = hopT a b c d e := congrArg Prod.fst h1
  unfold hopT at h2
  injection h2 with x1 h2
  injection h2 with x2 h2
  injection h2 with x3 h2
  injection h2 with x4 h2
  injection h2 with x5 h2
  exact ⟨(itoaB_inj ha'.i64 ha.i64 x1).symm, (itoaB_inj hb' hb x2).symm, (itoaB_inj hc'.i64 hc.i64 x3).symm, (itoaB_inj hd' hd x4).symm, (itoaB_inj he' he x5).symm⟩

theorem RowUnlike_true (a b c d e a' b' c' d' e' : Int) (ha : U32 a) (hb : I64 b) (hc : U32 c) (hd : I64 d) (he : I64 e) (ha' : U32 a') (hb' : I64 b') (hc' : U32 c') (hd' : I64 d') (he' : I64 e')
    (n s : Int) (p q : List Ru) (n' s' : Int) (p' q' : List Ru) (hn : I64 n) (hs : I64 s) (hn' : I64 n') (hs' : I64 s') (lp : p.length ≤ 140737488355328) (lq : q.length ≤ 140737488355328) (lp' : p'.length ≤ 140737488355328) (lq' : q'.length ≤ 140737488355328)
    (gp : GoodRules p) (gq : GoodRules q) (gp' : GoodRules p') (gq' : GoodRules q') (k : Nat) (hk : 300 ≤ k) :
    interregnumlaw21_RowUnlike.f k a b c d e a' b' c' d' e' n s p q n' s' p' q' = some true := by
  unfold interregnumlaw21_RowUnlike.f
  have e1 : wrap64 ((p.length : Int) + (q.length : Int)) = (p.length : Int) + (q.length : Int) := by unfold wrap64; omega
  have e2 : wrap64 ((p.length : Int) + (q.length : Int) + (p'.length : Int)) = (p.length : Int) + (q.length : Int) + (p'.length : Int) := by unfold wrap64; omega
  have e3 : wrap64 ((p.length : Int) + (q.length : Int) + (p'.length : Int) + (q'.length : Int)) = (p.length : Int) + (q.length : Int) + (p'.length : Int) + (q'.length : Int) := by unfold wrap64; omega
  rw [e1, e2, e3, answers_true]
  simp only [Option.bind_some]
  by_cases hbig : (p.length : Int) + (q.length : Int) + (p'.length : Int) + (q'.length : Int) > 100
  · rw [if_pos hbig]
  · rw [if_neg hbig, if_pos trivial, row_Hop_eq a b c d e ha hb hc hd he, row_Hop_eq a' b' c' d' e' ha' hb' hc' hd' he']
    simp only [Option.bind_some]
    have hh : ((hopB a b c d e).toList == (hopB a' b' c' d' e').toList) = ((a == a' && (b == b')) && (c == c' && (d == d' && (e == e')))) := by
      rw [Bool.eq_iff_iff, Lib.bytes_beq_iff]
      simp only [Bool.and_eq_true, beq_iff_eq]
      constructor
      · intro h
        obtain ⟨x1, x2, x3, x4, x5⟩ := hopB_inj ha hb hc hd he ha' hb' hc' hd' he' h
        exact ⟨⟨x1, x2⟩, x3, x4, x5⟩
      · rintro ⟨⟨rfl, rfl⟩, rfl, rfl, rfl⟩
        rfl
    have h1 : GoodPeer n s p q := ⟨hn, hs, by omega, by omega, gp, gq⟩
    have h2 : GoodPeer n' s' p' q' := ⟨hn', hs', by omega, by omega, gp', gq'⟩
    rw [hh, if_pos (by simp), row_Peer_eq h1 k (by omega), row_Peer_eq h2 k (by omega)]
    simp only [Option.bind_some]
    rw [SamePeer_eq h1 h2 k (by omega) (by omega)]
    simp only [Option.bind_some]
    congr 1
    cases hx : ((peerB n s p q).toList == (peerB n' s' p' q').toList) with
    | false => simp
    | true =>
      have := peerB_inj h1 h2 ((Lib.bytes_beq_iff _ _).1 hx)
      rw [decide_eq_true this]
      rfl
end Go.Proofs.YtppjodchlpapdaaDoor.PB

namespace Go.Proofs.YtppjodchlpapdaaDoor.PB
open Go.RowKit Go.ChangeShapes Go.WideShapes Go.ChangeAt Go.Proofs Go.Proofs.YtppjodchlpapdaaDoor Go.Proofs.YtppjodchlpapdaaDoorW.PrintWords
set_option linter.unusedVariables false
set_option maxRecDepth 100000
set_option maxHeartbeats 40000000

set_option maxRecDepth 100000 in
theorem unlike_lifted (os : Os) (started : os.Started) (H : Type) (enc : TypeId × Value → H) :
    ReturnsInHanded {} Tryd.checked os 5 .any (fun w args => (Rows.rowUnlikeSpec.pre enc Tryd.prog Tryd.f5 Rows.rowUnlikeRow.domain false w args ∧ laidMetH Tryd.prog Rows.rowUnlikeRow.laid w) ∧ sizedMet enc Tryd.prog Tryd.f5 (OpenSpec.ofChange Rows.rowUnlikeSpec) false w args)
      (Rows.rowUnlikeSpec.post enc Tryd.prog Tryd.f5 false true false false) := by
  refine handed_and_shaped (C := Tryd.checked) (X := fun w _ => laidMetH Tryd.prog Rows.rowUnlikeRow.laid w) (fun _ _ _ hh h => h.of_heap hh) ownNone started (by kernel_rfl) Tryd.func5
    (ChangeSpec.witness_shaped (enc := enc) (C := Tryd.checked) (os := os) (X := fun w _ => laidMetH Tryd.prog Rows.rowUnlikeRow.laid w) false (World.laidAll Tryd.prog os Rows.rowUnlikeRow.laid) #[.agg #[.int .u32 0, .int .i64 0, .int .u32 0, .int .i64 0, .int .i64 0], .agg #[.int .u32 0, .int .i64 0, .int .u32 0, .int .i64 0, .int .i64 0], .agg #[.int .i64 0, .int .i64 0, .slice none 0 0, .slice none 0 0], .agg #[.int .i64 0, .int .i64 0, .slice none 0 0, .slice none 0 0]] 8 (World.laidAll_os _ _ _)
      (World.shaped_of_ZipB (by kernel_rfl) (by kernel_rfl)) (by kernel_rfl) (by kernel_rfl) (by kernel_rfl)
      (by rw [MakeChecks.laidMetH_plain _ _ _ (by kernel_rfl)]; exact laidMet_laidAll _ (by kernel_rfl) (by kernel_rfl))) ?_
  intro W base args ds gs before hval0 hW hsz0 hX hsh
  have hV1 := vars_of_laid (by rw [MakeChecks.laidMetH_plain _ _ _ (by kernel_rfl)] at hX; exact hX) hsh
  have hval : ∀ (j : Nat) t v, Tryd.f5.params[j]? = some t → args[j]? = some v → Value.okWide Tryd.prog W .any base t v := hval0
  have hsz : (DataW.weightsEach Tryd.prog (Tryd.f5.params.toList ++ Rows.rowUnlikeSpec.plain.varTypes Tryd.prog) (ds ++ gs)).all (· ≤ reachBytes) = true := hsz0
  have hW' := hW
  obtain ⟨p, q, hA0, hV, rfl, _, _⟩ := hW
  have hA : DataW.TrodAll enc Tryd.prog W 0 (fun _ => true) true Tryd.f5.params.toList args.toList ds p := hA0
  rw [Tryd.params5] at hA hval hsz
  obtain ⟨v0, vs0, d0, ds0, p0, q0, hargs, rfl, rfl, h0, hr0⟩ := trodAll_cons hA
  obtain ⟨v1, vs1, d1, ds1, p1, q1, rfl, rfl, rfl, h1, hr1⟩ := trodAll_cons hr0
  obtain ⟨v2, vs2, d2, ds2, p2, q2, rfl, rfl, rfl, h2, hr2⟩ := trodAll_cons hr1
  obtain ⟨v3, vs3, d3, ds3, p3, q3, rfl, rfl, rfl, h3, hr3⟩ := trodAll_cons hr2
  obtain ⟨rfl, rfl, rfl⟩ := trodAll_nil hr3
  obtain rfl : args = #[v0, v1, v2, v3] := by
    obtain ⟨l⟩ := args
    simp only at hargs
    rw [hargs]
  obtain ⟨rfl, rfl⟩ := trodVars_none hV
  obtain ⟨a, b, c, d, e, rfl, ha, hb, hc, hd, he⟩ := hop_arg h0 hsz (j := 0) rfl rfl (hval 0 35 v0 rfl rfl)
  obtain ⟨a', b', c', d', e', rfl, ha', hb', hc', hd', he'⟩ := hop_arg h1 hsz (j := 1) rfl rfl (hval 1 35 v1 rfl rfl)
  obtain ⟨x, A2, c2, A3, c3, rfl, hc2, hC2, hc3, hC3, hg0, hg1, hg2, hg3⟩ := peer_arg h2 hsz (j := 2) rfl rfl (hval 2 42 v2 rfl rfl)
  obtain ⟨y, B2, e2, B3, e3, rfl, he2, hE2, he3, hE3, hi0, hi1, hi2, hi3⟩ := peer_arg h3 hsz (j := 3) rfl rfl (hval 3 42 v3 rfl rfl)
  simp only [List.append_nil] at hW'
  have hlt : ∀ z ∈ p0 ++ (p1 ++ (p2 ++ p3)), z.block < W.heap.size := fun z hz => by simpa using hW'.lt z (by simpa using hz)
  have hk := RowUnlike_true a b c d e a' b' c' d' e' ha hb hc hd he ha' hb' hc' hd' he' x.f0 x.f1 x.f2 x.f3 y.f0 y.f1 y.f2 y.f3 hg0 hg1 hi0 hi1 hg2.1 hg3.1 hi2.1 hi3.1 hg2.2 hg3.2 hi2.2 hi3.2 300 (Nat.le_refl _)
  have hcall := interregnumlaw21_RowUnlike.calls 300 a b c d e a' b' c' d' e' x.f0 x.f1 A2 c2 x.f2 A3 c3 x.f3 y.f0 y.f1 B2 e2 y.f2 B3 e3 y.f3 true W hV1 hC2 hc2 hC3 hc3 hE2 he2 hE3 he3 hk
  clear hk
  refine hcall.mono ?_
  rintro e9 W' ⟨he9, hbl⟩
  subst he9
  exact ⟨_, rfl, _, _, _, [], _, [], hW', trodAll_mk1 (shut_bool Tryd.underlying4 _),
    trodAll_cons_mk (Below.trod laidOut (by kernel_rfl) (of_decide_eq_true (by kernel_rfl)) h0 hbl (fun z hz => hlt z (by simp [hz])))
      (trodAll_cons_mk (Below.trod laidOut (by kernel_rfl) (of_decide_eq_true (by kernel_rfl)) h1 hbl (fun z hz => hlt z (by simp [hz])))
        (trodAll_mk2 (Below.trod laidOut (by kernel_rfl) (of_decide_eq_true (by kernel_rfl)) h2 hbl (fun z hz => hlt z (by simp [hz]))) (Below.trod laidOut (by kernel_rfl) (of_decide_eq_true (by kernel_rfl)) h3 hbl (fun z hz => hlt z (by simp [hz]))))), rfl, hbl.frame _, fun h => by cases h⟩
theorem unlike_inPlace : (Rows.rowUnlikeRow.inPlace == Tryd.prog.inPlace 5) = true := by kernel_rfl
theorem unlike_unfollowed : (Rows.rowUnlikeRow.unfollowed == Tryd.prog.unfollowed 5) = true := by kernel_rfl
theorem unlike_recurses : (Rows.rowUnlikeRow.recurses == Tryd.prog.recurses 5) = true := by kernel_rfl
theorem unlike_named : (Rows.rowUnlikeRow.named == Tryd.prog.varsNamed 5) = true := by kernel_rfl
theorem unlike_facts : joinedFacts Tryd.prog 5 Tryd.f5 Rows.rowUnlikeSpec Rows.rowUnlikeRow = true := by
  unfold joinedFacts
  rw [unlike_inPlace, unlike_unfollowed, unlike_recurses, unlike_named]
  simp only [Bool.and_true, Bool.and_eq_true]
  repeat' apply And.intro
  all_goals (as_aux_lemma => kernel_rfl)
theorem unlike_instance : Tryd.f5.isInstance Tryd.prog Rows.rowUnlikeRow.origin Rows.rowUnlikeRow.targs := of_decide_eq_true (by kernel_rfl)
theorem unlike_wrapper : Tryd.f5.isWrapper Tryd.prog Rows.rowUnlikeRow.wrapper Rows.rowUnlikeRow.mainSum := by unfold Func.isWrapper; first | (rw [if_pos (by decide +kernel)]; kernel_rfl) | (rw [if_neg (by decide +kernel)]; exact ⟨rfl, rfl⟩)
theorem unlike_fn : Tryd.prog.funcNamed "interregnum/interregnumlaw21.RowUnlike" = some 5 := by kernel_rfl

theorem rowUnlike_holds : Rows.RowUnlikeSaid :=
  OpenClaim.holds_of_wide 5 Tryd.f5 rfl rfl rfl rfl rfl rfl rfl ⟨rfl, rfl, rfl, rfl, rfl⟩ rfl rfl rfl rfl rfl unlike_fn Tryd.func5 unlike_facts unlike_instance unlike_wrapper
    (fun os started H enc _ => unlike_lifted os started H enc)

theorem rowUnlike_card : Rows.RowUnlikeCardSaid :=
  Claim7.holds_tied_plain_at .later [] Rows.rowUnlikeCard.laidKinds true (true, "5a4ee8a5e9a8129e569ebe5ff5d28bae685eac707dcee8756b7df01bd9f1272f") true rowUnlike_holds (fun _ h => by cases h) (by as_aux_lemma => kernel_rfl) (fun _ h => by cases h) rowUnlike_row_tie rfl ⟨rfl, rfl⟩ (by as_aux_lemma => kernel_rfl) rfl
    (fun f fn hf hfn => by
      obtain rfl : f = 5 := Option.some.inj (unlike_fn.symm.trans hf) |>.symm
      obtain rfl : fn = Tryd.f5 := (Option.some.inj (Tryd.func5.symm.trans hfn)).symm
      exact ⟨by as_aux_lemma => kernel_rfl, fun j t ht => by
        rw [Tryd.params5] at ht
        have hm : t ∈ [35, 35, 42, 42] := by simpa using Array.mem_of_getElem? ht
        have hall : ([35, 35, 42, 42].all fun u => !Tryd.prog.wantsStandIn u) = true := by kernel_rfl
        exact (show Tryd.prog.wantsStandIn t = false by simpa using List.all_eq_true.1 hall t hm)⟩)
    (by as_aux_lemma => kernel_rfl)
#print axioms rowUnlike_holds
#print axioms rowUnlike_card

end Go.Proofs.YtppjodchlpapdaaDoor.PB
