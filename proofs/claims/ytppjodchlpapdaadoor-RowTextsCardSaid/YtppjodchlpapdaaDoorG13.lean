/- The reference's Split, as printed, answers as row.Split. Conditions: the text is shorter than 4294967281 bytes. -/
import Derived.Test.YtppjodchlpapdaaDoorG11
import Derived.Test.YtppjodchlpapdaaDoorPBx59
import Derived.Test.YtppjodchlpapdaaDoorPBx2
import Derived.Test.YtppjodchlpapdaaDoorPBx63
namespace Go.Proofs.YtppjodchlpapdaaDoor.PB
open Go.RowKit Go.Sort Go.Lib Go.Proofs Go.Proofs.YtppjodchlpapdaaDoor Go.Proofs.YtppjodchlpapdaaDoorW.PrintWords
set_option linter.unusedVariables false
set_option linter.unusedSimpArgs false

/-! The reference's Split (a scan with positions) answers as row.Split does. -/

def isD (c : UInt8) : Prop := 48 ≤ c.toNat ∧ c.toNat ≤ 57
instance (c : UInt8) : Decidable (isD c) := inferInstanceAs (Decidable (_ ∧ _))

def scanP : List UInt8 → Nat → Nat → Nat × Nat
  | [], n, p => (n, p)
  | c :: r, n, p => if isD c ∧ n < 1099511627776 then scanP r (n * 10 + (c.toNat - 48)) (p + 1) else (n, p)

theorem scanP_nil (n p : Nat) : scanP [] n p = (n, p) := by rw [scanP]
theorem scanP_take (c : UInt8) (r : List UInt8) (n p : Nat) (h : isD c ∧ n < 1099511627776) : scanP (c :: r) n p = scanP r (n * 10 + (c.toNat - 48)) (p + 1) := by rw [scanP, if_pos h]
theorem scanP_stop (c : UInt8) (r : List UInt8) (n p : Nat) (h : ¬ (isD c ∧ n < 1099511627776)) : scanP (c :: r) n p = (n, p) := by rw [scanP, if_neg h]
def valD (n : Nat) (l : List UInt8) : Nat := l.foldl (fun a c => a * 10 + (c.toNat - 48)) n

theorem valD_nil (n : Nat) : valD n [] = n := by unfold valD; rw [List.foldl_nil]
theorem valD_cons (n : Nat) (c : UInt8) (r : List UInt8) : valD n (c :: r) = valD (n * 10 + (c.toNat - 48)) r := by unfold valD; rw [List.foldl_cons]
theorem valD_append (n : Nat) (a b : List UInt8) : valD n (a ++ b) = valD (valD n a) b := by unfold valD; rw [List.foldl_append]

theorem valD_ge (D : List UInt8) : ∀ (n : Nat), n ≤ valD n D := by
  induction D with
  | nil => intro n; rw [valD_nil]; exact Nat.le_refl _
  | cons c r ih =>
    intro n
    have := ih (n * 10 + (c.toNat - 48))
    rw [valD_cons]
    omega

theorem valD_dec (u : Nat) : valD 0 (decDigits u) = u := by
  induction u using Nat.strongRecOn with
  | _ u ih =>
    rw [decDigits]
    split
    · rename_i h
      have e : (UInt8.ofNat (48 + u)).toNat = 48 + u := by simp; omega
      rw [valD_cons, e, valD_nil]
      omega
    · rename_i h
      have e : (UInt8.ofNat (48 + u % 10)).toNat = 48 + u % 10 := by simp; omega
      rw [valD_append, ih (u / 10) (by omega), valD_cons, e, valD_nil]
      omega

/-- What the scan takes is digits, and what stands behind them stops it. -/
theorem scan_split : ∀ (L : List UInt8) (n p : Nat), ∃ D R, L = D ++ R ∧ (∀ c ∈ D, isD c) ∧ scanP L n p = (valD n D, p + D.length) ∧ (R = [] ∨ (∃ c r, R = c :: r ∧ (¬ isD c ∨ 1099511627776 ≤ valD n D)))
  | [], n, p => ⟨[], [], rfl, by simp, by rw [scanP_nil, valD_nil]; rfl, .inl rfl⟩
  | c :: r, n, p => by
    by_cases h : isD c ∧ n < 1099511627776
    · obtain ⟨D, R, h1, h2, h3, h4⟩ := scan_split r (n * 10 + (c.toNat - 48)) (p + 1)
      refine ⟨c :: D, R, by rw [h1]; rfl, ?_, ?_, h4⟩
      · intro x hx
        rcases List.mem_cons.1 hx with rfl | hx
        · exact h.1
        · exact h2 x hx
      · rw [scanP_take _ _ _ _ h, h3, valD_cons, List.length_cons, show p + 1 + D.length = p + (D.length + 1) by omega]
    · refine ⟨[], c :: r, rfl, by simp, by rw [scanP_stop _ _ _ _ h, valD_nil]; rfl, .inr ⟨c, r, rfl, ?_⟩⟩
      by_cases hc : isD c
      · right
        have : ¬ n < 1099511627776 := fun h' => h ⟨hc, h'⟩
        rw [valD_nil]
        omega
      · exact .inl hc

theorem scan_digits : ∀ (D : List UInt8) (T : List UInt8) (n p : Nat), (∀ c ∈ D, isD c) → valD n D < 1099511627776 → scanP (D ++ 58 :: T) n p = (valD n D, p + D.length)
  | [], T, n, p, _, _ => by
    rw [List.nil_append, scanP_stop _ _ _ _ (fun h => absurd h.1 (by decide)), valD_nil]
    rfl
  | c :: r, T, n, p, hd, hv => by
    have h0 := valD_ge r (n * 10 + (c.toNat - 48))
    have hv' : valD (n * 10 + (c.toNat - 48)) r < 1099511627776 := by rw [← valD_cons]; exact hv
    have hc0 : isD c ∧ n < 1099511627776 := ⟨hd c List.mem_cons_self, by omega⟩
    rw [List.cons_append, scanP_take _ _ _ _ hc0, scan_digits r T _ _ (fun x hx => hd x (List.mem_cons_of_mem _ hx)) hv', valD_cons, List.length_cons, show p + 1 + r.length = p + (r.length + 1) by omega]

/-- Digits without a 0 ahead are the decimal of their number. -/
theorem dec_canon : ∀ (k : Nat) (D : List UInt8), D.length = k → D ≠ [] → (∀ c ∈ D, isD c) → (D.length ≤ 1 ∨ D.head? ≠ some 48) → decDigits (valD 0 D) = D := by
  intro k
  induction k with
  | zero => intro D h hn; exact absurd (List.length_eq_zero_iff.1 h) hn
  | succ k ih =>
    intro D h hn hd hz
    obtain ⟨E, c, rfl⟩ : ∃ E c, D = E ++ [c] := ⟨D.dropLast, D.getLast hn, (List.dropLast_concat_getLast hn).symm⟩
    have hc := hd c (by simp)
    have hcn : c = UInt8.ofNat (48 + (c.toNat - 48)) := by
      have : 48 + (c.toNat - 48) = c.toNat := by have := hc.1; omega
      rw [this]; simp
    have hlt : c.toNat - 48 < 10 := by have := hc.2; omega
    rw [valD_append, valD_cons, valD_nil]
    cases E with
    | nil =>
      rw [valD_nil, Nat.zero_mul, Nat.zero_add, List.nil_append, decDigits_one hlt, ← hcn]
    | cons e E' =>
      have hz' : (e :: E').head? ≠ some 48 := by
        rcases hz with hz | hz
        · simp at hz
        · simpa using hz
      have hE := ih (e :: E') (by simpa using h) (by simp) (fun x hx => hd x (List.mem_append_left _ hx)) (.inr hz')
      have he := hd e (by simp)
      have hpos : 1 ≤ valD 0 (e :: E') := by
        have h1 := valD_ge E' (0 * 10 + (e.toNat - 48))
        have h2 : e.toNat ≠ 48 := by
          intro h3
          apply hz'
          have : e = 48 := UInt8.toNat_inj.1 h3
          rw [this]; rfl
        have h3 := he.1
        rw [valD_cons]
        omega
      rw [decDigits, dif_neg (by omega)]
      have d1 : (valD 0 (e :: E') * 10 + (c.toNat - 48)) / 10 = valD 0 (e :: E') := by omega
      have d2 : (valD 0 (e :: E') * 10 + (c.toNat - 48)) % 10 = c.toNat - 48 := by omega
      rw [d1, d2, hE, ← hcn]

/-- A head in decimal that fits what stands behind it is read as such. -/
theorem head_dec (m : Nat) (T : List UInt8) (h : m ≤ T.length) (hT : T.length ≤ 140737488355328) :
    tailOf ⟨(decDigits m ++ 58 :: T).toArray⟩ = ⟨T.toArray⟩ ∧ headOf ⟨(decDigits m ++ 58 :: T).toArray⟩ = some m := by
  have hc : Lib.cut (⟨(decDigits m ++ 58 :: T).toArray⟩ : ByteArray).data.toList [58] = (decDigits m, T, true) := by
    rw [toL]
    exact cut_dec m _
  have h1 : okOf ⟨(decDigits m ++ 58 :: T).toArray⟩ = true := by unfold okOf; rw [hc]
  have h2 : tailOf ⟨(decDigits m ++ 58 :: T).toArray⟩ = ⟨T.toArray⟩ := by unfold tailOf; rw [hc]
  have h3 : numOf ⟨(decDigits m ++ 58 :: T).toArray⟩ = ⟨(decDigits m).toArray⟩ := by unfold numOf; rw [hc]
  refine ⟨h2, ?_⟩
  have ha : atoiAll (decDigits m) = .ok (m : Int) := by rw [← itoa_nonneg]; exact atoiAll_itoa _ (by omega) (by omega)
  unfold headOf
  rw [h1, if_pos rfl, h3, toL, ha]
  simp only
  rw [if_pos, Int.toNat_natCast]
  refine ⟨by omega, ?_, itoa_nonneg m⟩
  rw [h2, ba_size]
  omega

theorem cut_joined (X : List UInt8) (h : (Lib.cut X [58]).2.2 = true) : X = (Lib.cut X [58]).1 ++ 58 :: (Lib.cut X [58]).2.1 := by
  unfold Lib.cut at h ⊢
  split at h
  · rename_i hi
    rw [if_pos hi]
    rcases Lib.index_spec X [58] with ⟨h1, _⟩ | ⟨i, h1, h2, h3, _⟩
    · rw [h1] at hi
      exact absurd hi (by decide)
    · simp only [h1, Int.toNat_natCast, List.length_singleton]
      unfold Lib.occAt at h3
      have h4 := List.isPrefixOf_iff_prefix.1 h3
      obtain ⟨R, hR⟩ := h4
      have h5 : X.drop (i + 1) = R := by
        rw [← List.drop_drop, ← hR]
        rfl
      rw [h5]
      conv => lhs; rw [← List.take_append_drop i X, ← hR]
      rfl
  · cases h

/-- A text with a good head is that head's decimal, a colon, and what stands behind. -/
theorem head_some (X : List UInt8) (m : Nat) (h : headOf ⟨X.toArray⟩ = some m) : ∃ T, X = decDigits m ++ 58 :: T ∧ m ≤ T.length := by
  unfold headOf at h
  split at h
  · rename_i hok
    split at h
    · rename_i n hn
      split at h
      · rename_i hc
        obtain ⟨h0, h1, h2⟩ := hc
        obtain ⟨u, rfl⟩ : ∃ u : Nat, n = u := ⟨n.toNat, by omega⟩
        rw [Int.toNat_natCast] at h
        cases h
        have ht : tailOf ⟨X.toArray⟩ = ⟨((Lib.cut X [58]).2.1).toArray⟩ := by unfold tailOf; rw [toL]
        have hnn : numOf ⟨X.toArray⟩ = ⟨((Lib.cut X [58]).1).toArray⟩ := by unfold numOf; rw [toL]
        rw [hnn, toL, itoa_nonneg] at h2
        rw [ht, ba_size] at h1
        unfold okOf at hok
        rw [toL] at hok
        refine ⟨(Lib.cut X [58]).2.1, ?_, by omega⟩
        rw [h2]
        exact cut_joined X hok
      · cases h
    · cases h
  · cases h

/-! The reference's scan, as printed, is scanP. -/
theorem drop_lt {L : List UInt8} {p : Nat} {c : UInt8} {r : List UInt8} (h : L.drop p = c :: r) : p < L.length := by
  rcases Nat.lt_or_ge p L.length with h' | h'
  · exact h'
  · rw [List.drop_eq_nil_of_le h'] at h; cases h
theorem drop_next {L : List UInt8} {p : Nat} {c : UInt8} {r : List UInt8} (h : L.drop p = c :: r) : L.drop (p + 1) = r := by
  rw [← List.drop_drop, h]; rfl
theorem bt_drop (s : ByteArray) (p : Nat) (c : UInt8) (r : List UInt8) (h : s.data.toList.drop p = c :: r) : bt s (p : Int) = (c.toNat : Int) ∧ p < s.size := by
  have h1 := drop_lt h
  have h2 : p < s.size := by have h3 : s.data.toList.length = s.size := Array.length_toList
                             omega
  have h4 : s.data.toList[p]'h1 = c := by
    have := List.drop_eq_getElem_cons h1
    rw [h] at this
    injection this with h5 _
    exact h5.symm
  refine ⟨?_, h2⟩
  unfold bt
  rw [dif_pos (show (p : Int).toNat < s.size by simpa using h2)]
  have : s[(p : Int).toNat]'(by simpa using h2) = c := by
    rw [← h4]
    simp [ByteArray.getElem_eq_getElem_data]
  rw [this]

abbrev refS.l0 := interregnumref11_Split.l0
abbrev refS.l1 := interregnumref11_Split.l1
abbrev refS.j2 := interregnumref11_Split.j2
abbrev refS.j3 := interregnumref11_Split.j3

theorem ref_scan (a0 : ByteArray) (out : List ByteArray) (i : Nat) (r : List ByteArray × Bool) (hs : a0.size ≤ 4294967281) : ∀ (d n p : Nat), a0.size - p = d → n < 20000000000000 → i ≤ p → p ≤ a0.size →
    Ev (fun k => interregnumref11_Split.j2 k a0 out i ((scanP (a0.data.toList.drop p) n p).1 : Nat) ((scanP (a0.data.toList.drop p) n p).2 : Nat) false) r → Ev (fun k => interregnumref11_Split.l1 k a0 out i (n : Int) (p : Int)) r := by
  have hlen : a0.data.toList.length = a0.size := Array.length_toList
  intro d
  induction d with
  | zero =>
    intro n p hd hn hi hp h
    have e : p = a0.size := by omega
    have e2 : a0.data.toList.drop p = [] := List.drop_eq_nil_of_le (by omega)
    rw [e2] at h
    refine Ev.step (fun k => ?_) h
    simp only [interregnumref11_Split.l1]
    rw [if_neg (by omega), scanP_nil]
  | succ d ih =>
    intro n p hd hn hi hp h
    have hlt : p < a0.data.toList.length := by omega
    obtain ⟨c, R, hcr⟩ : ∃ c R, a0.data.toList.drop p = c :: R := ⟨_, _, List.drop_eq_getElem_cons hlt⟩
    obtain ⟨hb, hps⟩ := bt_drop a0 p c R hcr
    have hnx := drop_next hcr
    rw [hcr] at h
    by_cases hc : isD c
    · have hc1 : (48 : Int) ≤ (c.toNat : Int) := by have := hc.1; omega
      have hc2 : (c.toNat : Int) ≤ 57 := by have := hc.2; omega
      by_cases hn2 : n < 1099511627776
      · rw [scanP_take _ _ _ _ ⟨hc, hn2⟩, ← hnx] at h
        have h3 := ih (n * 10 + (c.toNat - 48)) (p + 1) (by omega) (by have := hc.2; omega) (by omega) (by omega) h
        refine Ev.step (f := fun k => interregnumref11_Split.j2 k a0 out i n p true) (fun k => ?_) (Ev.step (fun k => ?_) h3)
        · simp only [interregnumref11_Split.l1]
          rw [if_pos (by omega), if_pos (by omega), hb, if_pos (by omega), if_pos hc2, decide_eq_true (by omega : (n : Int) < 1099511627776)]
        · simp only [interregnumref11_Split.j2]
          rw [if_pos trivial, if_pos (by omega), if_pos (by omega), hb]
          have e1 : wrap64 ((n : Int) * 10) = (n : Int) * 10 := by unfold wrap64; omega
          have e2 : wrap64 ((n : Int) * 10 + ((c.toNat : Int) - 48) % 256) = ((n * 10 + (c.toNat - 48) : Nat) : Int) := by unfold wrap64; omega
          have e3 : wrap64 ((p : Int) + 1) = ((p + 1 : Nat) : Int) := by unfold wrap64; omega
          rw [e1, e2, e3]
      · rw [scanP_stop _ _ _ _ (fun h' => hn2 h'.2)] at h
        refine Ev.step (fun k => ?_) h
        simp only [interregnumref11_Split.l1]
        rw [if_pos (by omega), if_pos (by omega), hb, if_pos (by omega), if_pos hc2, decide_eq_false (by omega : ¬ (n : Int) < 1099511627776)]
    · rw [scanP_stop _ _ _ _ (fun h' => hc h'.1)] at h
      refine Ev.step (fun k => ?_) h
      simp only [interregnumref11_Split.l1]
      rw [if_pos (by omega), if_pos (by omega), hb]
      by_cases h1 : 48 ≤ (c.toNat : Int)
      · rw [if_pos (by omega), if_neg (fun h2 => hc ⟨by omega, by omega⟩)]
      · rw [if_neg (by omega)]

theorem scan_lt : ∀ (L : List UInt8) (n p : Nat), n < 20000000000000 → (scanP L n p).1 < 20000000000000
  | [], n, p, h => by rw [scanP_nil]; exact h
  | c :: r, n, p, h => by
    by_cases hc : isD c ∧ n < 1099511627776
    · rw [scanP_take _ _ _ _ hc]
      exact scan_lt r _ _ (by have := hc.1.2; have := hc.2; omega)
    · rw [scanP_stop _ _ _ _ hc]
      exact h
theorem scan_bound (L : List UInt8) (n p : Nat) (D R : List UInt8) (hDR : L = D ++ R) (h : scanP L n p = (valD n D, p + D.length)) (hn : n < 20000000000000) : valD n D < 20000000000000 := by
  have := scan_lt L n p hn
  rw [h] at this
  exact this

/-- What stands after the scan: is the head bad? -/
def badP (a0 : ByteArray) (i n p : Nat) : Bool :=
  decide (p = i) || decide (a0.size ≤ p) || !decide (bt a0 p = 58) || (decide (1 < p - i) && decide (bt a0 i = 48)) || decide (a0.size < p + 1 + n)

theorem ref_j2 (a0 : ByteArray) (out : List ByteArray) (i n p : Nat) (r : List ByteArray × Bool) (hs : a0.size ≤ 4294967281) (hi : i < a0.size) (hp : i ≤ p) (hp2 : p ≤ a0.size) (hn : n < 20000000000000)
    (h : Ev (fun k => interregnumref11_Split.j3 k a0 out n p (badP a0 i n p)) r) : Ev (fun k => interregnumref11_Split.j2 k a0 out i (n : Int) (p : Int) false) r := by
  refine Ev.step (fun k => ?_) h
  simp only [interregnumref11_Split.j2]
  rw [if_neg (by decide)]
  unfold badP
  by_cases h1 : p = i
  · rw [if_pos (by omega), decide_eq_true h1]; rfl
  · rw [if_neg (by omega)]
    by_cases h2 : a0.size ≤ p
    · rw [if_pos (by omega), decide_eq_false h1, decide_eq_true h2]; rfl
    · rw [if_neg (by omega), if_pos (by omega), if_pos (by omega)]
      have e1 : wrap64 ((p : Int) - i) = (p : Int) - i := by unfold wrap64; omega
      have e2 : wrap64 (wrap64 ((a0.size : Int) - p) - 1) = (a0.size : Int) - p - 1 := by unfold wrap64; omega
      rw [e1, e2]
      by_cases h3 : bt a0 p = 58
      · rw [if_pos h3]
        by_cases h4 : 1 < p - i
        · rw [if_pos (by omega), if_pos (by omega), if_pos (by omega)]
          by_cases h5 : bt a0 i = 48
          · rw [if_pos h5]; simp [h1, h2, h3, h4, h5]
          · rw [if_neg h5]
            simp only [h1, h2, h3, h4, h5]
            simp
            congr 1
            rw [decide_eq_decide]; omega
        · rw [if_neg (by omega)]
          simp only [h1, h2, h3, h4]
          simp
          congr 1
          rw [decide_eq_decide]; omega
      · rw [if_neg h3]; simp [h1, h2, h3]

theorem dropB (a0 : ByteArray) (i j : Nat) (hj : j ≤ a0.size) : a0.extract i j = ⟨((a0.data.toList.drop i).take (j - i)).toArray⟩ := ext_ba a0 i j _ rfl

theorem dec_head (u : Nat) (h : 10 ≤ u) : (decDigits u).head? ≠ some 48 := by
  induction u using Nat.strongRecOn with
  | _ u ih =>
    rw [decDigits, dif_neg (by omega)]
    have hne := dec_ne (u / 10)
    have hap : (decDigits (u / 10) ++ [UInt8.ofNat (48 + u % 10)]).head? = (decDigits (u / 10)).head? := by
      cases hx : decDigits (u / 10) with
      | nil => exact absurd hx hne
      | cons c r => rfl
    rw [hap]
    by_cases h2 : 10 ≤ u / 10
    · exact ih (u / 10) (by omega) h2
    · rw [decDigits_one (by omega)]
      have h3 : 1 ≤ u / 10 := by omega
      intro h4
      simp only [List.head?_cons, Option.some.injEq] at h4
      have h5 := congrArg UInt8.toNat h4
      have e : (UInt8.ofNat (48 + u / 10)).toNat = 48 + u / 10 := by simp; omega
      rw [e] at h5
      have : (48 : UInt8).toNat = 48 := rfl
      omega
theorem dec_len1 (u : Nat) (h : u < 10) : (decDigits u).length = 1 := by rw [decDigits_one h]; rfl

theorem w64_add (a b : Nat) (h : a + b ≤ 4294967290) : wrap64 ((a : Int) + (b : Int)) = ((a + b : Nat) : Int) := by unfold wrap64; omega
theorem splitGo_none (g : Nat) (X : ByteArray) (out : List ByteArray) (h0 : X.size ≠ 0) (h : headOf X = none) : splitGo (g + 1) X out = ([], false) := by
  unfold splitGo
  rw [if_neg h0, h]
theorem splitGo_some (g : Nat) (X : ByteArray) (out : List ByteArray) (n : Nat) (h0 : X.size ≠ 0) (h : headOf X = some n) : splitGo (g + 1) X out = splitGo g ((tailOf X).extract n (tailOf X).size) (out ++ [(tailOf X).extract 0 n]) := by
  conv => lhs; unfold splitGo
  rw [if_neg h0, h]

/-- One text after another: the reference's Split is row.Split's. -/
theorem ref_split (a0 : ByteArray) (hs : a0.size ≤ 4294967280) : ∀ (g i : Nat) (out : List ByteArray), a0.size - i ≤ g → i ≤ a0.size → out.length + (a0.size - i) ≤ 4294967281 →
    Ev (fun k => interregnumref11_Split.l0 k a0 out (i : Int)) (splitGo g ⟨(a0.data.toList.drop i).toArray⟩ out) := by
  have hlen : a0.data.toList.length = a0.size := Array.length_toList
  intro g
  induction g with
  | zero =>
    intro i out hg hi ho
    refine Ev.step (f := fun _ => some (out, true)) (fun k => ?_) (Ev.now _)
    simp only [interregnumref11_Split.l0]
    rw [if_neg (by omega)]
  | succ g ih =>
    intro i out hg hi ho
    have hout : out.length < 8796093022208 := by omega
    by_cases hend : i = a0.size
    · have e : splitGo (g + 1) ⟨(a0.data.toList.drop i).toArray⟩ out = (out, true) := by
        unfold splitGo
        rw [if_pos (by rw [ba_size, List.length_drop]; omega)]
      rw [e]
      refine Ev.step (f := fun _ => some (out, true)) (fun k => ?_) (Ev.now _)
      simp only [interregnumref11_Split.l0]
      rw [if_neg (by omega)]
    · have hz : (⟨(a0.data.toList.drop i).toArray⟩ : ByteArray).size ≠ 0 := by
        rw [ba_size, List.length_drop, hlen]
        intro h0
        apply hend
        omega
      refine Ev.step (f := fun k => interregnumref11_Split.l1 k a0 out i ((0 : Nat) : Int) (i : Int)) (fun k => ?_) ?_
      · simp only [interregnumref11_Split.l0]
        rw [if_pos (by omega)]
        rfl
      refine ref_scan a0 out i _ (by omega) (a0.size - i) 0 i rfl (by omega) (Nat.le_refl _) hi ?_
      obtain ⟨D, R, hDR, hD, hsc, hR⟩ := scan_split (a0.data.toList.drop i) 0 i
      rw [hsc]
      have hlD : (a0.data.toList.drop i).length = D.length + R.length := by rw [hDR, List.length_append]
      rw [List.length_drop] at hlD
      have hvb : valD 0 D < 20000000000000 := scan_bound _ _ _ D R hDR (by rw [hsc]) (by omega) 
      refine ref_j2 a0 out i (valD 0 D) (i + D.length) _ (by omega) (by omega) (by omega) (by omega) hvb ?_
      cases hh : headOf ⟨(a0.data.toList.drop i).toArray⟩ with
      | some m =>
        obtain ⟨T, hT, hmT⟩ := head_some _ m hh
        have hTl : (decDigits m).length + 1 + T.length = a0.size - i := by
          have := congrArg List.length hT
          rw [List.length_drop, List.length_append, List.length_cons] at this
          omega
        have hsc2 := scan_digits (decDigits m) T 0 i (fun c hc => dec_digits m c hc) (by rw [valD_dec]; omega)
        rw [← hT, hsc, valD_dec] at hsc2
        injection hsc2 with q1 q2
        have q3 : D.length = (decDigits m).length := by omega
        obtain ⟨ht1, _⟩ := head_dec m T hmT (by omega)
        rw [← hT] at ht1
        rw [splitGo_some g _ out m hz hh, ht1, q1, q3]
        have hd0 : 1 ≤ (decDigits m).length := by
          have := dec_ne m
          cases hx : decDigits m with
          | nil => exact absurd hx this
          | cons _ _ => simp
        have hdp : a0.data.toList.drop (i + (decDigits m).length) = 58 :: T := by
          rw [← List.drop_drop, hT, List.drop_left]
        have hdp1 := drop_next hdp
        obtain ⟨hb1, hb2⟩ := bt_drop a0 _ _ _ hdp
        have hbad : badP a0 i m (i + (decDigits m).length) = false := by
          unfold badP
          rw [hb1]
          have z1 : ¬ (i + (decDigits m).length = i) := by omega
          have z2 : ¬ (a0.size ≤ i + (decDigits m).length) := by omega
          have z3 : ((58 : UInt8).toNat : Int) = 58 := rfl
          have z4 : ¬ (a0.size < i + (decDigits m).length + 1 + m) := by omega
          simp only [z1, z2, z3, z4, decide_false, decide_true, Bool.not_true, Bool.or_false, Bool.false_or]
          by_cases h10 : m < 10
          · rw [dec_len1 m h10]
            simp
          · have hhd := dec_head m (by omega)
            cases hx : decDigits m with
            | nil => rw [hx] at hd0; simp at hd0
            | cons c r =>
              rw [hx] at hT hhd
              obtain ⟨hb3, _⟩ := bt_drop a0 i c (r ++ 58 :: T) hT
              have : ¬ (bt a0 i = 48) := by
                rw [hb3]
                intro h48
                apply hhd
                have : c = 48 := UInt8.toNat_inj.1 (by omega : c.toNat = 48)
                rw [this]; rfl
              simp [this]
        rw [hbad]
        have hx := ih (i + (decDigits m).length + 1 + m) (out ++ [⟨(T.take m).toArray⟩]) (by omega) (by omega) (by rw [List.length_append, List.length_singleton]; omega)
        have e5 : a0.data.toList.drop (i + (decDigits m).length + 1 + m) = T.drop m := by rw [← List.drop_drop, hdp1]
        rw [e5] at hx
        have e6 : (⟨T.toArray⟩ : ByteArray).extract m (⟨T.toArray⟩ : ByteArray).size = ⟨(T.drop m).toArray⟩ := ext_ba _ _ _ _ (by rw [toL, ba_size]; exact List.take_of_length_le (by rw [List.length_drop]; exact Nat.le_refl _))
        have e7 : (⟨T.toArray⟩ : ByteArray).extract 0 m = ⟨(T.take m).toArray⟩ := ext_ba _ _ _ _ (by rw [toL, List.drop_zero, Nat.sub_zero])
        rw [e6, e7]
        refine Ev.step (fun k => ?_) hx
        simp only [interregnumref11_Split.j3]
        have hb5 : i + (decDigits m).length + 1 + m ≤ a0.size := by omega
        have hb4 : i + (decDigits m).length + 1 + m ≤ 4294967290 := by omega
        have w1 : wrap64 (((i + (decDigits m).length : Nat) : Int) + 1) = ((i + (decDigits m).length + 1 : Nat) : Int) := w64_add _ 1 (Nat.le_trans (Nat.le_add_right _ _) hb4)
        have w2 : wrap64 (((i + (decDigits m).length + 1 : Nat) : Int) + (m : Int)) = ((i + (decDigits m).length + 1 + m : Nat) : Int) := w64_add _ _ hb4
        rw [if_neg (by decide), w1, w2, if_pos (Int.natCast_nonneg _), if_pos (Int.ofNat_le.2 (Nat.le_add_right _ _)), if_pos (Int.ofNat_le.2 hb5), if_pos hout, Int.toNat_natCast, Int.toNat_natCast]
        rw [ext_ba a0 _ _ (T.take m) (by rw [hdp1, Nat.add_sub_cancel_left])]
      | none =>
        have hbad : badP a0 i (valD 0 D) (i + D.length) = true := by
          cases hb : badP a0 i (valD 0 D) (i + D.length) with
          | true => rfl
          | false =>
            exfalso
            unfold badP at hb
            simp only [Bool.or_eq_false_iff, decide_eq_false_iff_not, Bool.not_eq_false', decide_eq_true_eq, Bool.and_eq_false_imp] at hb
            obtain ⟨⟨⟨⟨b1, b2⟩, b3⟩, b4⟩, b5⟩ := hb
            have hDn : D ≠ [] := by
              intro h0
              apply b1
              rw [h0]; simp
            have hdp : a0.data.toList.drop (i + D.length) = R := by rw [← List.drop_drop, hDR, List.drop_left]
            cases hRx : R with
            | nil => rw [hRx] at hlD; simp at hlD; omega
            | cons c T =>
              rw [hRx] at hdp hDR hlD
              obtain ⟨hb1, _⟩ := bt_drop a0 _ _ _ hdp
              rw [hb1] at b3
              have hc : c = 58 := UInt8.toNat_inj.1 (by have : (58 : UInt8).toNat = 58 := rfl
                                                        omega)
              have hz : D.length ≤ 1 ∨ D.head? ≠ some 48 := by
                by_cases hl1 : D.length ≤ 1
                · exact .inl hl1
                · right
                  intro h48
                  have := b4 (by omega)
                  cases hDx : D with
                  | nil => exact hDn hDx
                  | cons x D' =>
                    rw [hDx] at h48 hDR
                    simp only [List.head?_cons, Option.some.injEq] at h48
                    obtain ⟨hb3, _⟩ := bt_drop a0 i x (D' ++ c :: T) hDR
                    rw [hb3, h48] at this
                    exact this rfl
              have hcan := dec_canon D.length D rfl hDn hD hz
              have hT2 : a0.data.toList.drop i = decDigits (valD 0 D) ++ 58 :: T := by rw [hcan, hDR, hc]
              have hTl : valD 0 D ≤ T.length := by simp at hlD; omega
              have := (head_dec (valD 0 D) T hTl (by simp at hlD; omega)).2
              rw [← hT2, hh] at this
              cases this
        rw [hbad, splitGo_none g _ out hz hh]
        refine Ev.step (f := fun _ => some (([] : List ByteArray), false)) (fun k => ?_) (Ev.now _)
        simp only [interregnumref11_Split.j3]
        rw [if_pos trivial]
end Go.Proofs.YtppjodchlpapdaaDoor.PB
