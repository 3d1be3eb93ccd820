/- row.Split of row.Texts gives the texts again; a numeral is read as its number. Conditions: sizes stay in bounds. -/
import Derived.Test.YtppjodchlpapdaaDoorG7d
import Derived.Test.YtppjodchlpapdaaDoorG8
import Derived.Lib.ParseIntBCases
import Derived.Lib.ItoaLen
namespace Go.Proofs.YtppjodchlpapdaaDoor.PB
open Go.RowKit Go.Sort Go.Lib Go.Proofs Go.Proofs.YtppjodchlpapdaaDoor Go.Proofs.YtppjodchlpapdaaDoorW.PrintWords
set_option linter.unusedVariables false
set_option linter.unusedSimpArgs false

theorem parseM_snoc (M : Nat) (d : Nat) (hd : d < 10) : ∀ (l : List UInt8) (acc v : Nat), parseUintM M acc l = .ok v → v * 10 + d ≤ M → v < 1844674407370955162 → parseUintM M acc (l ++ [UInt8.ofNat (48 + d)]) = .ok (v * 10 + d)
  | [], acc, v, h, h1, h2 => by
    simp only [parseUintM] at h
    injection h with h
    subst h
    have e : (UInt8.ofNat (48 + d)).toNat = 48 + d := by simp; omega
    simp only [List.nil_append, parseUintM, e]
    rw [if_pos (by omega), if_neg (by omega), if_neg (by omega)]
    congr 1; omega
  | c :: r, acc, v, h, h1, h2 => by
    simp only [parseUintM, List.cons_append] at h ⊢
    split at h
    · rename_i hc
      rw [if_pos hc]
      split at h
      · cases h
      · rename_i h3
        rw [if_neg h3]
        split at h
        · cases h
        · rename_i h4
          rw [if_neg h4]
          exact parseM_snoc M d hd r _ v h h1 h2
    · cases h

theorem parseM_dec (M : Nat) (hM : M ≤ 18446744073709551615) (u : Nat) (hu : u ≤ M) : parseUintM M 0 (decDigits u) = .ok u := by
  induction u using Nat.strongRecOn with
  | _ u ih =>
    rw [decDigits]
    split
    · rename_i h
      have := parseM_snoc M u h [] 0 0 rfl (by omega) (by omega)
      simpa using this
    · rename_i h
      have := parseM_snoc M (u % 10) (Nat.mod_lt _ (by decide)) _ 0 (u / 10) (ih (u / 10) (by omega) (by omega)) (by omega) (by omega)
      rw [this]
      congr 1; omega

theorem dec_ne (u : Nat) : decDigits u ≠ [] := by
  intro h
  have := decDigits_length u
  rw [h] at this
  rw [decDigits] at h
  split at h <;> simp at h

theorem dec_digits (u : Nat) : ∀ c ∈ decDigits u, 48 ≤ c.toNat ∧ c.toNat ≤ 57 := by
  induction u using Nat.strongRecOn with
  | _ u ih =>
    rw [decDigits]
    split
    · rename_i h
      intro c hc
      rw [List.mem_singleton.1 hc]
      have e : (UInt8.ofNat (48 + u)).toNat = 48 + u := by simp; omega
      omega
    · rename_i h
      intro c hc
      rcases List.mem_append.1 hc with hc | hc
      · exact ih (u / 10) (by omega) c hc
      · rw [List.mem_singleton.1 hc]
        have e : (UInt8.ofNat (48 + u % 10)).toNat = 48 + u % 10 := by simp; omega
        omega

theorem addrV_dec (u : Nat) (hu : u < 4294967296) : addrV ⟨(decDigits u).toArray⟩ = some (u : Int) := by
  have h : parseUintB 32 (decDigits u) = .ok u := by
    unfold parseUintB
    rw [if_neg (dec_ne u)]
    exact parseM_dec _ (by decide) u (by have : (2 ^ 32 - 1 : Nat) = 4294967295 := by decide
                                         omega)
  unfold addrV
  show (match parseUintB 32 (decDigits u).toArray.toList with | .ok v => some (v : Int) | _ => none) = _
  rw [List.toList_toArray, h]

theorem mag_dec (u : Nat) (hu : u < 18446744073709551616) : parseMag (decDigits u) = .ok u := by
  rw [← parseUintB_64, parseUintB, if_neg (dec_ne u)]
  exact parseM_dec _ (by decide) u (by have : (2 ^ 64 - 1 : Nat) = 18446744073709551615 := by decide
                                       omega)

theorem atoiAll_itoa (n : Int) (h0 : -9223372036854775808 ≤ n) (h1 : n ≤ 9223372036854775807) : atoiAll (itoa n) = .ok n := by
  by_cases hn : 0 ≤ n
  · obtain ⟨u, rfl⟩ : ∃ u : Nat, n = u := ⟨n.toNat, by omega⟩
    rw [itoa_nonneg]
    have hm := mag_dec u (by omega)
    have hd := dec_digits u
    cases hl : decDigits u with
    | nil => exact absurd hl (dec_ne u)
    | cons c r =>
      rw [hl] at hm hd
      have hc := hd c List.mem_cons_self
      unfold atoiAll
      simp only
      rw [if_neg (by omega), hm]
      simp only
      rw [if_neg (by omega), if_neg (by omega), if_neg (by omega)]
  · obtain ⟨u, rfl⟩ : ∃ u : Nat, n = -(u : Int) := ⟨n.natAbs, by omega⟩
    rw [itoa_neg u (by omega)]
    have hm := mag_dec u (by omega)
    unfold atoiAll
    simp only [show (45 : UInt8).toNat = 45 from rfl]
    rw [if_pos (Or.inr trivial), hm]
    simp only
    rw [if_neg (fun h => h.1 trivial), if_neg (fun h => by have := h.2; omega), if_pos trivial]

theorem numV_itoa (n : Int) (h0 : -9223372036854775808 ≤ n) (h1 : n ≤ 9223372036854775807) : numV ⟨(itoa n).toArray⟩ = some n := by
  unfold numV
  show (match atoiAll (itoa n).toArray.toList with | .ok v => some v | _ => none) = _
  rw [List.toList_toArray, atoiAll_itoa n h0 h1]

/-- The first ':' behind digits. -/
theorem cut_dec (u : Nat) (rest : List UInt8) : Lib.cut (decDigits u ++ 58 :: rest) [58] = (decDigits u, rest, true) := by
  have hi : Lib.index (decDigits u ++ 58 :: rest) [58] = ((decDigits u).length : Int) := by
    refine Lib.index_first (i := (decDigits u).length) (by simp) ?_ ?_
    · simp [Lib.occAt]
    · intro j hj
      have hd := dec_digits u (decDigits u)[j] (List.getElem_mem hj)
      have h3 : (decDigits u)[j] ≠ 58 := by
        intro e
        rw [e] at hd
        revert hd; decide
      unfold Lib.occAt
      rw [List.drop_append_of_le_length (by omega), List.drop_eq_getElem_cons hj]
      simp only [List.cons_append, List.isPrefixOf, Bool.and_eq_false_imp, beq_iff_eq]
      exact fun e => absurd e.symm h3
  unfold Lib.cut
  rw [hi, if_pos (by omega)]
  simp

theorem toL (l : List UInt8) : (⟨l.toArray⟩ : ByteArray).data.toList = l := List.toList_toArray
theorem ofL (s : ByteArray) : (⟨s.data.toList.toArray⟩ : ByteArray) = s := by simp
theorem ext_ba (a : ByteArray) (i j : Nat) (l : List UInt8) (h : (a.data.toList.drop i).take (j - i) = l) : a.extract i j = ⟨l.toArray⟩ := by
  rw [← ofL (a.extract i j), ← h, Lib.extract_data]

/-- What row.Texts lays before a text, row.Split reads off. -/
theorem head_piece (x : ByteArray) (rest : List UInt8) (hx : x.size ≤ 140737488355328) :
    okOf ⟨(pieceL x ++ rest).toArray⟩ = true ∧ tailOf ⟨(pieceL x ++ rest).toArray⟩ = ⟨(x.data.toList ++ rest).toArray⟩ ∧ headOf ⟨(pieceL x ++ rest).toArray⟩ = some x.size := by
  have hc : Lib.cut (⟨(pieceL x ++ rest).toArray⟩ : ByteArray).data.toList [58] = (decDigits x.size, x.data.toList ++ rest, true) := by
    rw [toL, pieceL, itoa_nonneg, List.append_assoc]
    exact cut_dec x.size _
  have h1 : okOf ⟨(pieceL x ++ rest).toArray⟩ = true := by unfold okOf; rw [hc]
  have h2 : tailOf ⟨(pieceL x ++ rest).toArray⟩ = ⟨(x.data.toList ++ rest).toArray⟩ := by unfold tailOf; rw [hc]
  have h3 : numOf ⟨(pieceL x ++ rest).toArray⟩ = ⟨(decDigits x.size).toArray⟩ := by unfold numOf; rw [hc]
  refine ⟨h1, h2, ?_⟩
  unfold headOf
  rw [h1, if_pos rfl, h3, toL, ← itoa_nonneg, atoiAll_itoa _ (by omega) (by omega)]
  simp only
  rw [if_pos, Int.toNat_natCast]
  have : x.data.toList.length = x.size := Array.length_toList
  have hz : (⟨(x.data.toList ++ rest).toArray⟩ : ByteArray).size = x.size + rest.length := by rw [ba_size (x.data.toList ++ rest), List.length_append, this]
  refine ⟨by omega, ?_, trivial⟩
  rw [h2, hz]
  omega

theorem split_texts : ∀ (l : List ByteArray) (g : Nat) (out : List ByteArray), l.length ≤ g → (textsL l).length ≤ 140737488355328 → splitGo g ⟨(textsL l).toArray⟩ out = (out ++ l, true)
  | [], 0, out, _, _ => by simp [splitGo]
  | [], g + 1, out, _, _ => by
    unfold splitGo
    rw [if_pos (by rw [ba_size]; rfl)]
    simp
  | x :: l, 0, out, h, _ => by simp at h
  | x :: l, g + 1, out, h, hb => by
    rw [textsL_cons] at hb ⊢
    rw [List.length_append, pieceL_length] at hb
    obtain ⟨h1, h2, h3⟩ := head_piece x (textsL l) (by omega)
    unfold splitGo
    rw [if_neg (by rw [ba_size, List.length_append, pieceL_length]; omega), h3]
    simp only
    rw [h2]
    have hxl : x.data.toList.length = x.size := Array.length_toList
    rw [ext_ba _ 0 x.size x.data.toList (by rw [toL, List.drop_zero, Nat.sub_zero, ← hxl]; exact List.take_left), ofL, ext_ba _ x.size _ (textsL l) (by rw [toL, ← hxl, List.drop_left]; exact List.take_of_length_le (by rw [ba_size (x.data.toList ++ textsL l), List.length_append]; omega))]
    rw [split_texts l g (out ++ [x]) (by simp at h; omega) (by omega)]
    simp

theorem Split_Texts (l : List ByteArray) (t : ByteArray) (h : row_Texts.f l = some t) (hs : t.size < 4294967281) : row_Split.f t = some (l, true) := by
  unfold row_Texts.f at h
  split at h
  · rename_i hb
    cases h
    unfold row_Split.f
    rw [if_pos hs, split_texts l _ [] (by rw [ba_size]; exact textsL_count l) hb]
    rfl
  · cases h

end Go.Proofs.YtppjodchlpapdaaDoor.PB
