/- Where the row's listed variables read as listed and the world is shaped, the variables hold what the walks ask. No conditions beyond these. -/
import Derived.Test.YtppjodchlpapdaaDoorGV
import Derived.Test.YtppjodchlpapdaaDoorRows
import Derived.WalkKit
import Derived.ProofKit
import Derived.Handy
import Derived.Lay
import Derived.SevenTiedAt
import Derived.HandedShaped
import Derived.Carry
import Derived.Lib.LaidTab
namespace Go.Proofs.YtppjodchlpapdaaDoor.PB
open Go.RowKit Go.ChangeShapes Go.WideShapes Go.ChangeAt Go.Proofs Go.Proofs.YtppjodchlpapdaaDoor
set_option linter.unusedVariables false

section
variable {H : Type} {enc : TypeId × Value → H}
/-- The wrap with a condition of the row's own (X) AND the world's shape. -/
theorem handed_and_shaped {a : Assume} {C : Checked} {os : Os} {f : FuncId} {fn : Func} {s : ChangeSpec} {conds : List PathCond} {apart fresh handsOn again : Bool} {X : World → Array Value → Prop}
    (hX : ∀ (w w' : World) (args : Array Value), w.heap = w'.heap → X w args → X w' args)
    (own : ownKnob C.prog.godebug = none) (started : os.Started) (noInit : C.prog.inits.idxOf? f = none) (hfn : C.prog.funcs[f]? = some fn)
    (witness : ∃ (w : World) (tape : Tape) (i : Input), w.os = os ∧ (w.forCall tape i).Shaped C.prog ∧ i.vars = [] ∧ Input.okWide C.prog (w.forCall tape i) .any w.heap.size f i ∧
      ((s.pre enc C.prog fn conds apart (w.forCall tape i).memory i.args ∧ X (w.forCall tape i).memory i.args) ∧ sizedMet enc C.prog fn (OpenSpec.ofChange s) apart (w.forCall tape i).memory i.args) ∧ a.holds C.prog (lone (Frame.enter C.prog f i.args .normal) [] (w.forCall tape i)))
    (contract : ∀ (W : World) (base : Nat) (args : Array Value) (ds gs : List (DataW H)) (before : List MemPlace),
      (∀ (j : Nat) t v, fn.params[j]? = some t → args[j]? = some v → Value.okWide C.prog W .any base t v) →
      DataW.Whole enc C.prog fn.params.toList s.vars apart W args.toList ds gs before →
      (DataW.weightsEach C.prog (fn.params.toList ++ s.plain.varTypes C.prog) (ds ++ gs)).all (· ≤ reachBytes) = true → X W args →
      W.ShapedOpen C.prog →
      Calls C.prog f args W fun e W' => ∃ v, e = .returned v ∧ s.post enc C.prog fn apart fresh handsOn again W args v W') :
    ReturnsInHanded a C os f .any (fun w args => (s.pre enc C.prog fn conds apart w args ∧ X w args) ∧ sizedMet enc C.prog fn (OpenSpec.ofChange s) apart w args) (s.post enc C.prog fn apart fresh handsOn again) := by
  refine returnsInHanded_of_calls own started noInit witness ?_
  intro w tape i _ hsh _ hok hpre hholds
  obtain ⟨_, _, _, fn', hfn', _, _, _, _, hval⟩ := hok
  have e : fn' = fn := Option.some.inj (hfn'.symm.trans hfn)
  subst e
  obtain ⟨⟨⟨ds, gs, before, hw, hc⟩, hx⟩, hz⟩ := hpre
  have hw' := DataW.Whole.of_heap (w' := w.forCall tape i) (by rfl) hw
  refine (contract (w.forCall tape i) w.heap.size i.args ds gs before hval hw' (hz.weights hw) (hX _ _ _ (by rfl) hx) hsh).mono fun e W' ⟨v, he, hp⟩ => ?_
  subst he
  exact ChangeSpec.post_blind hp
end

theorem tPow : (Tryd.prog.globals[3]?).map (·.type) = some 106 := by kernel_rfl
theorem tRng : (Tryd.prog.globals[2]?).map (·.type) = some 54 := by kernel_rfl
theorem tSyn : (Tryd.prog.globals[1]?).map (·.type) = some 54 := by kernel_rfl

theorem vars_of_laid {W : World} (h : laidMet Tryd.prog Rows.rowHopsRow.laid W) (hsh : W.ShapedOpen Tryd.prog) : VarsOk W := by
  obtain ⟨ps, ⟨g0, t0, cs0, f0, p0, q0, -, -, -, -, ⟨g1, t1, cs1, f1, p1, q1, -, -, -, -, ⟨g2, t2, cs2, f2, p2, q2, hg2, ht2, hv2, hd2, ⟨g3, t3, cs3, f3, p3, q3, hg3, ht3, hv3, hd3, ⟨g4, t4, cs4, f4, p4, q4, hg4, ht4, hv4, hd4, -, -⟩, -⟩, -⟩, -⟩, -⟩, -, -⟩ := h
  obtain rfl := Option.some.inj (gPow.symm.trans hg2)
  obtain rfl := Option.some.inj (gRng.symm.trans hg3)
  obtain rfl := Option.some.inj (gSyn.symm.trans hg4)
  obtain rfl := Option.some.inj (tPow.symm.trans ht2)
  obtain rfl := Option.some.inj (tRng.symm.trans ht3)
  obtain rfl := Option.some.inj (tSyn.symm.trans ht4)
  refine ⟨?_, ?_, ?_, Tryd.laysM145.s1_3 W hsh⟩
  · unfold Lib.TabIs
    rw [hv2]
    have e := Lib.cells_of_tab (zs := Lib.pow10Tab) (k := .u64) Tryd.underlying106 Tryd.underlying77 (by kernel_rfl) (by kernel_rfl) hd2
    rw [← e]
  · obtain ⟨_, u, v, e, _, _⟩ := iface_of_trod Tryd.underlying54 hd4
    refine ⟨u, v, ?_⟩
    rw [hv4]
    obtain ⟨l⟩ := cs4
    simp only at e
    rw [e]
  · obtain ⟨_, u, v, e, _, _⟩ := iface_of_trod Tryd.underlying54 hd3
    refine ⟨u, v, ?_⟩
    rw [hv3]
    obtain ⟨l⟩ := cs3
    simp only at e
    rw [e]

theorem cell_int {P : Program} {W : World} {base : Nat} {t : TypeId} {k : IntKind} {v : Value} (ht : P.underlying t = some (.int k)) (h : Cell.okWide P W .any base t v) : ∃ x, v = .int k x ∧ k.has x := by
  unfold Cell.okWide at h
  rw [ht] at h
  cases v <;> simp [Cell.ok, ht] at h
  obtain ⟨rfl, h2⟩ := h
  exact ⟨_, rfl, h2⟩
theorem cell_bool {P : Program} {W : World} {base : Nat} {t : TypeId} {v : Value} (ht : P.underlying t = some .bool) (h : Cell.okWide P W .any base t v) : ∃ x, v = .bool x := by
  unfold Cell.okWide at h
  rw [ht] at h
  cases v <;> simp [Cell.ok, ht] at h
  exact ⟨_, rfl⟩

theorem laidOut : laidOutB Tryd.prog = true := by kernel_rfl
theorem ownNone : ownKnob Tryd.prog.godebug = none := by kernel_rfl

end Go.Proofs.YtppjodchlpapdaaDoor.PB
