/- The law RowTexts, as printed, answers true at all texts. Conditions: sizes are at most 2^47. -/
import Derived.Test.YtppjodchlpapdaaDoorG13
import Derived.Test.YtppjodchlpapdaaDoorPBx64
namespace Go.Proofs.YtppjodchlpapdaaDoor.PB
open Go.RowKit Go.Sort Go.Lib Go.Proofs Go.Proofs.YtppjodchlpapdaaDoor Go.Proofs.YtppjodchlpapdaaDoorW.PrintWords
set_option linter.unusedVariables false
set_option linter.unusedSimpArgs false

def sizesL (l : List ByteArray) : Nat := (l.map ByteArray.size).sum
theorem sizesL_nil : sizesL [] = 0 := rfl
theorem sizesL_cons (a : ByteArray) (l : List ByteArray) : sizesL (a :: l) = a.size + sizesL l := by simp [sizesL]

theorem textsL_bound (l : List ByteArray) (h : ∀ x ∈ l, x.size ≤ 140737488355328) : (textsL l).length ≤ 22 * l.length + sizesL l := by
  induction l with
  | nil => rw [textsL_nil, sizesL_nil]; simp
  | cons a l ih =>
    have h1 := ih (fun x hx => h x (List.mem_cons_of_mem _ hx))
    have h2 := h a List.mem_cons_self
    have h3 := itoa_length_le (a.size : Int) (by omega) (by omega)
    rw [textsL_cons, List.length_append, pieceL_length, sizesL_cons, List.length_cons]
    omega

theorem rd_drop {l : List ByteArray} {i : Nat} {x : ByteArray} {r : List ByteArray} (h : l.drop i = x :: r) : rdOf ByteArray.empty l (i : Int) = x ∧ i < l.length ∧ l.drop (i + 1) = r := by
  have h1 : i < l.length := by
    rcases Nat.lt_or_ge i l.length with h' | h'
    · exact h'
    · rw [List.drop_eq_nil_of_le h'] at h; cases h
  have h2 := List.drop_eq_getElem_cons h1
  rw [h] at h2
  injection h2 with h3 h4
  refine ⟨?_, h1, h4.symm⟩
  rw [h3]
  simp [rdOf, h1]

theorem few_ev (l : List ByteArray) (hl : l.length ≤ 140737488355328) (hs : ∀ x ∈ l, x.size ≤ 140737488355328) : ∀ (d i n : Nat), l.length - i = d → i ≤ l.length → n ≤ 300000000000000 →
    ∃ b, Ev (fun k => interregnumlaw21_few.l0 k l (n : Int) (i : Int)) b ∧ (b = true → n + sizesL (l.drop i) < 10000) := by
  intro d
  induction d with
  | zero =>
    intro i n hd hi hn
    have e : l.drop i = [] := List.drop_eq_nil_of_le (by omega)
    refine ⟨decide ((n : Int) < 10000), Ev.step (f := fun _ => some (decide ((n : Int) < 10000))) (fun k => ?_) (Ev.now _), fun hb => ?_⟩
    · simp only [interregnumlaw21_few.l0]
      rw [if_neg (by omega)]
    · rw [e, sizesL_nil]
      have := of_decide_eq_true hb
      omega
  | succ d ih =>
    intro i n hd hi hn
    have h1 : i < l.length := by omega
    obtain ⟨x, r, hx⟩ : ∃ x r, l.drop i = x :: r := ⟨_, _, List.drop_eq_getElem_cons h1⟩
    obtain ⟨hrd, _, hnx⟩ := rd_drop hx
    by_cases h10 : n < 10000
    · have hxs : x.size ≤ 140737488355328 := hs x (List.mem_of_mem_drop (by rw [hx]; exact List.mem_cons_self))
      obtain ⟨b, hb, hb2⟩ := ih (i + 1) (n + x.size) (by omega) (by omega) (by omega)
      refine ⟨b, Ev.step (fun k => ?_) hb, fun h => ?_⟩
      · simp only [interregnumlaw21_few.l0]
        have e1 : wrap64 ((n : Int) + (x.size : Int)) = ((n + x.size : Nat) : Int) := by unfold wrap64; omega
        have e2 : wrap64 ((i : Int) + 1) = ((i + 1 : Nat) : Int) := by unfold wrap64; omega
        rw [if_pos (by omega), if_pos (by omega), if_pos (by omega), hrd, e1, e2]
      · have := hb2 h
        rw [hnx] at this
        rw [hx, sizesL_cons]
        omega
    · refine ⟨decide ((n : Int) < 10000), Ev.step (f := fun _ => some (decide ((n : Int) < 10000))) (fun k => ?_) (Ev.now _), fun hb => ?_⟩
      · simp only [interregnumlaw21_few.l0]
        rw [if_pos (by omega), if_neg (by omega)]
      · have := of_decide_eq_true hb
        omega

theorem same_ev (l : List ByteArray) (hl : l.length ≤ 140737488355328) : ∀ (d i : Nat), l.length - i = d → i ≤ l.length → Ev (fun k => interregnumlaw21_same.l0 k l l (i : Int)) true := by
  intro d
  induction d with
  | zero =>
    intro i hd hi
    refine Ev.step (f := fun _ => some true) (fun k => ?_) (Ev.now _)
    simp only [interregnumlaw21_same.l0]
    rw [if_neg (by omega)]
  | succ d ih =>
    intro i hd hi
    refine Ev.step (fun k => ?_) (ih (i + 1) (by omega) (by omega))
    have e2 : wrap64 ((i : Int) + 1) = ((i + 1 : Nat) : Int) := by unfold wrap64; omega
    simp only [interregnumlaw21_same.l0]
    rw [if_pos (by omega), if_pos (by omega), if_pos (by omega), e2, if_pos trivial]

theorem same_self (l : List ByteArray) (hl : l.length ≤ 140737488355328) : Ev (fun k => interregnumlaw21_same.f k l l) true := by
  refine Ev.congr (f := fun k => interregnumlaw21_same.l0 k l l ((0 : Nat) : Int)) (fun k => ?_) (same_ev l hl l.length 0 (by omega) (by omega))
  unfold interregnumlaw21_same.f
  rw [if_pos rfl]
  rfl

theorem splitGo_count : ∀ (g : Nat) (X : ByteArray) (out : List ByteArray), (splitGo g X out).1.length ≤ out.length + g
  | 0, X, out => by simp [splitGo]
  | g + 1, X, out => by
    by_cases hz : X.size = 0
    · have : splitGo (g + 1) X out = (out, true) := by unfold splitGo; rw [if_pos hz]
      rw [this]; exact Nat.le_add_right _ _
    · cases hh : headOf X with
      | none => rw [splitGo_none g X out hz hh]; exact Nat.zero_le _
      | some n =>
        rw [splitGo_some g X out n hz hh]
        have := splitGo_count g ((tailOf X).extract n (tailOf X).size) (out ++ [(tailOf X).extract 0 n])
        rw [List.length_append, List.length_singleton] at this
        omega

theorem RowTexts_true (l : List ByteArray) (a : ByteArray) (hl : l.length ≤ 140737488355328) (hs : ∀ x ∈ l, x.size ≤ 140737488355328) : ∃ k, interregnumlaw21_RowTexts.f k l a = some true := by
  refine Ev.rounds ?_
  obtain ⟨b, hb, hb2⟩ := few_ev l hl hs l.length 0 l.length (by omega) (by omega) (by omega)
  unfold interregnumlaw21_RowTexts.f
  refine Ev.bind (f := fun k t190 => if t190 = true then (interregnumlaw21_RowTexts.j0 k l a (decide ((a.size : Int) > 3000))) else (interregnumlaw21_RowTexts.j0 k l a true)) (g := fun k => interregnumlaw21_few.f k l) (a := b) ?_ ?_
  · exact hb
  have hend : Ev (fun k => interregnumlaw21_RowTexts.j0 k l a true) true := by
    refine Ev.step (f := fun _ => some true) (fun k => ?_) (Ev.now _)
    simp only [interregnumlaw21_RowTexts.j0]
    rw [if_pos trivial, answers_true]
    rfl
  cases b with
  | false => exact Ev.congr (fun k => by rw [if_neg (by decide)]) hend
  | true =>
    refine Ev.congr (f := fun k => interregnumlaw21_RowTexts.j0 k l a (decide ((a.size : Int) > 3000))) (fun k => by rw [if_pos rfl]) ?_
    by_cases h3 : (a.size : Int) > 3000
    · rw [decide_eq_true h3]; exact hend
    · rw [decide_eq_false h3]
      have hsum := hb2 rfl
      rw [List.drop_zero] at hsum
      have htl := textsL_bound l hs
      have htx : row_Texts.f l = some ⟨(textsL l).toArray⟩ := by unfold row_Texts.f; rw [if_pos (by omega)]
      have hsz : (⟨(textsL l).toArray⟩ : ByteArray).size < 4294967281 := by rw [ba_size]; omega
      have hsp := Split_Texts l _ htx hsz
      have hrx : interregnumref11_Texts.f l = some ⟨(textsL l).toArray⟩ := by unfold interregnumref11_Texts.f; rw [if_pos (by omega)]
      have ha : a.size ≤ 4294967280 := by omega
      have hsa : row_Split.f a = some (splitGo a.size a []) := by unfold row_Split.f; rw [if_pos (by omega)]
      have href : Ev (fun k => interregnumref11_Split.f k a) (splitGo a.size a []) := by
        have h0 := ref_split a ha a.size 0 [] (by omega) (by omega) (by simp; omega)
        rw [List.drop_zero, ofL] at h0
        exact h0
      have hcnt : (splitGo a.size a []).1.length ≤ 140737488355328 := by
        have := splitGo_count a.size a []
        rw [List.length_nil] at this
        omega
      have s1 := same_self l hl
      have s2 := same_self (splitGo a.size a []).1 hcnt
      refine Ev.step (f := fun k => (interregnumref11_Split.f k a).bind fun bt201 => ((interregnumlaw21_answers.f).bind fun t205 => (if t205 = true then ((interregnumref11_Texts.f l).bind fun t206 => (if (⟨(textsL l).toArray⟩ : ByteArray).toList = t206.toList then (if true = true then ((interregnumlaw21_same.f k l l).bind fun t207 => (if t207 = true then (if ((splitGo a.size a []).2 == bt201.2) = true then ((interregnumlaw21_same.f k (splitGo a.size a []).1 bt201.1).bind fun t208 => (some t208)) else (some false)) else (some false))) else (some false)) else (some false))) else (some false)))) (fun k => ?_) ?_
      · simp only [interregnumlaw21_RowTexts.j0]
        rw [if_neg (by decide), htx]
        simp only [Option.bind_some]
        rw [hsp, hsa]
        simp only [Option.bind_some]
      · refine Ev.bind (g := fun k => interregnumref11_Split.f k a) (f := fun k bt201 => ((interregnumlaw21_answers.f).bind fun t205 => (if t205 = true then ((interregnumref11_Texts.f l).bind fun t206 => (if (⟨(textsL l).toArray⟩ : ByteArray).toList = t206.toList then (if true = true then ((interregnumlaw21_same.f k l l).bind fun t207 => (if t207 = true then (if ((splitGo a.size a []).2 == bt201.2) = true then ((interregnumlaw21_same.f k (splitGo a.size a []).1 bt201.1).bind fun t208 => (some t208)) else (some false)) else (some false))) else (some false)) else (some false))) else (some false)))) href ?_
        rw [answers_true, hrx]
        simp only [Option.bind_some]
        refine Ev.congr (f := fun k => (interregnumlaw21_same.f k l l).bind fun t207 => (if t207 = true then (if ((splitGo a.size a []).2 == (splitGo a.size a []).2) = true then ((interregnumlaw21_same.f k (splitGo a.size a []).1 (splitGo a.size a []).1).bind fun t208 => (some t208)) else (some false)) else (some false))) (fun k => by rw [if_pos trivial, if_pos trivial, if_pos trivial]) ?_
        refine Ev.bind (g := fun k => interregnumlaw21_same.f k l l) (f := fun k t207 => (if t207 = true then (if ((splitGo a.size a []).2 == (splitGo a.size a []).2) = true then ((interregnumlaw21_same.f k (splitGo a.size a []).1 (splitGo a.size a []).1).bind fun t208 => (some t208)) else (some false)) else (some false))) s1 ?_
        refine Ev.congr (f := fun k => (interregnumlaw21_same.f k (splitGo a.size a []).1 (splitGo a.size a []).1).bind fun t208 => (some t208)) (fun k => by rw [if_pos rfl, if_pos (by simp)]) ?_
        exact Ev.bind s2 (Ev.now _)
end Go.Proofs.YtppjodchlpapdaaDoor.PB
