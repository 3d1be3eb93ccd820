/- A value that can be read as data, within the form's reach, reads as a value of the print's kinds. No conditions beyond these. -/
import Derived.Test.YtppjodchlpapdaaDoorGL
import Derived.Test.YtppjodchlpapdaaDoorWWords
import Derived.SliceStrings
import Derived.SizedLaws
namespace Go.Proofs.YtppjodchlpapdaaDoor.PB
open Go.RowKit Go.ChangeShapes Go.WideShapes Go.ChangeAt Go.Proofs Go.Proofs.YtppjodchlpapdaaDoor Go.Proofs.YtppjodchlpapdaaDoorW.PrintWords
set_option linter.unusedVariables false
set_option linter.unusedSimpArgs false

/-! Opening arguments: what a value that can be read as data says in the print's kinds. -/

theorem weightsAll_mem {H : Type} {P : Program} {e : TypeId} : ∀ {l : List (DataW H)} {d : DataW H}, d ∈ l → ∀ n ∈ d.weights P e, n ∈ DataW.weightsAll P e l
  | d' :: r, d, hd, n, hn => by
    simp only [DataW.weightsAll, List.mem_append]
    rcases List.mem_cons.1 hd with rfl | h
    · exact Or.inl hn
    · exact Or.inr (weightsAll_mem h n hn)

section
variable {H : Type} {enc : TypeId × Value → H} {P : Program} {W : World} {base : Nat} {sp : Nat → Bool} {held : Bool}

/-- Cells read as a value x of the kind k, wherever its weights are within the reach. -/
def Opens {α : Type} (enc : TypeId × Value → H) (P : Program) (W : World) (base : Nat) (sp : Nat → Bool) (held : Bool) (k : Kd α) (t : TypeId) (Good : α → Prop) : Prop :=
  ∀ (n : Nat) (cs : List Value) (x : DataW H × List MemPlace), DataW.trod enc P W base sp held n t cs = some x → (∀ u ∈ x.1.weights P t, u ≤ reachBytes) → ∃ y, k.K W y cs ∧ Good y

theorem opens_string {t : TypeId} (ht : P.underlying t = some .string) : Opens enc P W base sp held Kd.string t (fun s => s.size ≤ 140737488351232) := by
  intro n cs x h hw
  obtain ⟨s, rfl, rfl, hs⟩ := DataW.trod_string ht h
  refine ⟨s, rfl, ?_⟩
  have := hw s.data.toList.length (by simp [DataW.weights])
  have e : s.data.toList.length = s.size := Array.length_toList
  have : reachBytes = 140737488351232 := rfl
  omega

/-- A slice's elements, kind by kind. -/
theorem opens_slice {α : Type} {k : Kd α} {t e : TypeId} {Good : α → Prop} (ht : P.underlying t = some (.slice e)) (hc : P.cellsOf e = k.sz) (hk : Opens enc P W base sp held k e Good) :
    Opens enc P W base sp held (Kd.slice e k) t (fun l => l.length * P.bytesOf e ≤ 140737488351232 ∧ ∀ y ∈ l, Good y) := by
  intro n cs x h hw
  rcases DataW.trod_slice ht h with ⟨rfl, rfl⟩ | ⟨a, len, cap, elems, rest, m, _, rfl, rfl, hb, hl, hm, hlen, hel, hsp, hns⟩
  · refine ⟨[], ⟨none, 0, rfl, Nat.le_refl _, ⟨rfl, Nat.zero_le _, fun h => absurd h (Nat.lt_irrefl _)⟩⟩, ?_, fun y hy => by cases hy⟩
    simp
  · have hwl : (elems.map (·.1)).length * P.bytesOf e ≤ reachBytes := by
      have h1 := hw (((elems.map (·.1)).length + (rest.map (·.1)).length) * P.bytesOf e) (by simp [DataW.weights, ht])
      exact Nat.le_trans (Nat.mul_le_mul_right _ (Nat.le_add_right _ _)) h1
    have each : ∀ i (hi : i < len), ∃ y cs', W.cells? base (a.add (i * P.cellsOf e)) (P.cellsOf e) = some cs' ∧ k.K W y cs' ∧ Good y := by
      intro i hi
      have hi2 : i < elems.length := by omega
      have h1 := hel i hi
      rw [List.getElem?_eq_getElem hi2, Option.bind_eq_some_iff] at h1
      obtain ⟨cs', h2, h3⟩ := h1
      obtain ⟨y, hy, hg⟩ := hk m cs' _ h3 (fun u hu => hw u (by
        simp only [DataW.weights, ht, List.mem_cons, List.mem_append]
        exact Or.inr (Or.inl (weightsAll_mem (List.mem_map.2 ⟨_, List.getElem_mem hi2, rfl⟩) u hu))))
      exact ⟨y, cs', h2, hy, hg⟩
    have hall : ∃ ys : List α, ys.length = len ∧ ∀ i (hi : i < len) (y : α), ys[i]? = some y → ∃ cs', W.cells? base (a.add (i * P.cellsOf e)) (P.cellsOf e) = some cs' ∧ k.K W y cs' ∧ Good y := by
      clear hel hlen hl hw hwl hsp h
      induction len with
      | zero => exact ⟨[], rfl, fun i hi => absurd hi (Nat.not_lt_zero _)⟩
      | succ len ih =>
        obtain ⟨ys, h1, h2⟩ := ih (fun i hi => each i (by omega))
        obtain ⟨y, cs', h3, h4, h5⟩ := each len (by omega)
        refine ⟨ys ++ [y], by simp [h1], fun i hi z hz => ?_⟩
        by_cases h6 : i < len
        · rw [List.getElem?_append_left (by omega)] at hz
          exact h2 i h6 z hz
        · obtain rfl : i = len := by omega
          rw [List.getElem?_append_right (by omega), h1, Nat.sub_self] at hz
          simp only [List.getElem?_cons_zero, Option.some.injEq] at hz
          subst hz
          exact ⟨cs', h3, h4, h5⟩
    obtain ⟨ys, h1, h2⟩ := hall
    refine ⟨ys, ⟨some a, cap, by rw [h1], by omega, rfl, ?_, fun hp => ⟨a, rfl, fun j z hz => ?_⟩⟩, ?_, fun y hy => ?_⟩
    · have : maxLen = 9223372036854775807 := by decide
      omega
    · have hj : j < len := by have := (List.getElem?_eq_some_iff.1 hz).1; omega
      obtain ⟨cs', h3, h4, _⟩ := h2 j hj z hz
      rw [hc] at h3
      refine ⟨cs', k.K_len h4, h4, fun i u hu => ?_⟩
      have h6 := (World.cells?_some h3).2
      have hi : i < k.sz := by rw [← k.K_len h4]; exact (List.getElem?_eq_some_iff.1 hu).1
      rw [← Addr.add_add, h6.2 i hi, hu]
    · have : (elems.map (·.1)).length = ys.length := by simp; omega
      rw [this] at hwl
      exact hwl
    · obtain ⟨i, hi, rfl⟩ := List.getElem_of_mem hy
      obtain ⟨_, _, _, h3⟩ := h2 i (by omega) _ (List.getElem?_eq_getElem hi)
      exact h3

theorem opens_int {i : IntKind} {t : TypeId} (ht : P.underlying t = some (.int i)) : Opens enc P W base sp held (Kd.int i) t (fun n => (Lit.int i n).wf = true) := by
  intro n cs x h hw
  obtain ⟨z, rfl, rfl, hz⟩ := DataW.trod_int ht h
  exact ⟨z, rfl, hz⟩

theorem opens_bool {t : TypeId} (ht : P.underlying t = some .bool) : Opens enc P W base sp held Kd.bool t (fun _ => True) := by
  intro n cs x h hw
  obtain ⟨b, rfl, rfl⟩ := DataW.trod_bool ht h
  exact ⟨b, rfl, trivial⟩

theorem opens_iso {α β : Type} {k : Kd α} {t : TypeId} {Good : α → Prop} (f : β → α) (g : α → β) (hfg : ∀ a, f (g a) = a) (h : Opens enc P W base sp held k t Good) : Opens enc P W base sp held (Kd.iso k f) t (fun y => Good (f y)) := by
  intro n cs x h1 hw
  obtain ⟨y, hy, hg⟩ := h n cs x h1 hw
  refine ⟨g y, ?_, ?_⟩
  · show k.K W (f (g y)) cs
    rw [hfg]; exact hy
  · show Good (f (g y))
    rw [hfg]; exact hg

/-- Fields in line, from cell o on. -/
def OpensF {α : Type} (enc : TypeId × Value → H) (P : Program) (W : World) (base : Nat) (sp : Nat → Bool) (held : Bool) (l : List (Nat × TypeId)) (o : Nat) (k : Kd α) (Good : α → Prop) : Prop :=
  ∀ (m : Nat) (cs : List Value) (xs : List (DataW H × List MemPlace)), cs.length = o + k.sz → xs.length = l.length →
    (∀ (i : Nat) (f : Nat × TypeId), l[i]? = some f → DataW.trod enc P W base sp held m f.2 ((cs.drop f.1).take (P.cellsOf f.2)) = xs[i]?) →
    (∀ u ∈ DataW.weightsEach P (l.map (·.2)) (xs.map (·.1)), u ≤ reachBytes) → ∃ y, k.K W y (cs.drop o) ∧ Good y

theorem opensF_one {α : Type} {k : Kd α} {t : TypeId} {Good : α → Prop} (o : Nat) (h : Opens enc P W base sp held k t Good) (hc : P.cellsOf t = k.sz) : OpensF enc P W base sp held [(o, t)] o k Good := by
  intro m cs xs hl hx hf hw
  match xs, hx with
  | [x], _ =>
    have h0 := hf 0 (o, t) rfl
    simp only [List.getElem?_cons_zero] at h0
    rw [hc, List.take_of_length_le (by rw [List.length_drop]; omega)] at h0
    exact h m _ x h0 (fun u hu => hw u (by simpa [DataW.weightsEach] using hu))

theorem opensF_cons {α β : Type} {k : Kd α} {k' : Kd β} {t : TypeId} {Good : α → Prop} {Good' : β → Prop} {l : List (Nat × TypeId)} (o : Nat) (h : Opens enc P W base sp held k t Good) (hc : P.cellsOf t = k.sz)
    (h' : OpensF enc P W base sp held l (o + k.sz) k' Good') : OpensF enc P W base sp held ((o, t) :: l) o (Kd.pair k k') (fun y => Good y.1 ∧ Good' y.2) := by
  intro m cs xs hl hx hf hw
  match xs, hx with
  | x :: xs', hx' =>
    have h0 := hf 0 (o, t) rfl
    simp only [List.getElem?_cons_zero] at h0
    rw [hc] at h0
    have hl' : cs.length = o + (k.sz + k'.sz) := hl
    obtain ⟨y, hy, hg⟩ := h m _ x h0 (fun u hu => hw u (by simp only [List.map_cons, DataW.weightsEach, List.mem_append]; exact Or.inl hu))
    obtain ⟨y', hy', hg'⟩ := h' m cs xs' (by omega) (by simpa using hx') (fun i f hi => by simpa using hf (i + 1) f (by simpa using hi)) (fun u hu => hw u (by simp only [List.map_cons, DataW.weightsEach, List.mem_append]; exact Or.inr hu))
    refine ⟨(y, y'), ⟨(cs.drop o).take k.sz, cs.drop (o + k.sz), ?_, hy, hy'⟩, hg, hg'⟩
    rw [← List.drop_drop, List.take_append_drop]

theorem opens_struct {α : Type} {k : Kd α} {t : TypeId} {fs : Array Field} {l : List (Nat × TypeId)} {Good : α → Prop} (ht : P.underlying t = some (.struct fs)) (hl : fs.toList.map (fun f => (f.offset, f.type)) = l) (hc : P.cellsOf t = k.sz)
    (h : OpensF enc P W base sp held l 0 k Good) : Opens enc P W base sp held k t Good := by
  intro n cs x h1 hw
  obtain ⟨xs, m, rfl, rfl, h2, h3, h4⟩ := DataW.trod_struct ht h1
  have h5 := h m cs xs (by omega) (by rw [← hl]; simpa using h3) (fun i f hi => by
    rw [← hl, List.getElem?_map, Option.map_eq_some_iff] at hi
    obtain ⟨g, hg, rfl⟩ := hi
    exact h4 i g (by simpa using hg)) (fun u hu => hw u (by
      have e : l.map (·.2) = fs.toList.map (·.type) := by rw [← hl, List.map_map]; rfl
      rw [e] at hu
      simpa only [DataW.weights, ht] using hu))
  simpa using h5

theorem opens_arg {α : Type} {k : Kd α} {t : TypeId} {Good : α → Prop} {ts : List TypeId} {ds : List (DataW H)} {v : Value} {d : DataW H} {ps : List MemPlace} {j : Nat} (hk : Opens enc P W base sp held k t Good) (hd : DataW.Trod enc P W base sp held t v d ps)
    (hw : (DataW.weightsEach P ts ds).all (· ≤ reachBytes) = true) (ht : ts[j]? = some t) (hj : ds[j]? = some d) : ∃ y, k.K W y v.cells.toList ∧ Good y := by
  obtain ⟨fuel, hf⟩ := hd
  exact hk fuel _ (d, ps) hf (fun u hu => by simpa using List.all_eq_true.1 hw u (DataW.weights_mem_each ht hj u hu))

end
end Go.Proofs.YtppjodchlpapdaaDoor.PB
