/- row.Hop, row.ReadHop and the reference's Hop agree; the law's answers are true. Conditions: the numbers are of their kinds. -/
import Derived.Test.YtppjodchlpapdaaDoorG10
import Derived.Test.YtppjodchlpapdaaDoorPBx58
import Derived.Test.YtppjodchlpapdaaDoorPBx65
namespace Go.Proofs.YtppjodchlpapdaaDoor.PB
open Go.RowKit Go.Sort Go.Lib Go.Proofs Go.Proofs.YtppjodchlpapdaaDoor Go.Proofs.YtppjodchlpapdaaDoorW.PrintWords
set_option linter.unusedVariables false
set_option linter.unusedSimpArgs false

def I64 (n : Int) : Prop := -9223372036854775808 ≤ n ∧ n ≤ 9223372036854775807
def U32 (n : Int) : Prop := 0 ≤ n ∧ n < 4294967296
def itoaB (n : Int) : ByteArray := ⟨(itoa n).toArray⟩
theorem U32.i64 {n : Int} (h : U32 n) : I64 n := ⟨by have := h.1; omega, by have := h.2; omega⟩
theorem itoaB_size (n : Int) (h : I64 n) : (itoaB n).size ≤ 21 := by
  unfold itoaB
  rw [ba_size]
  exact itoa_length_le n h.1 h.2

theorem row_addr_eq (a : Int) (h : U32 a) : row_addr.f a = some (itoaB a) := by
  obtain ⟨u, rfl⟩ : ∃ u : Nat, a = u := ⟨a.toNat, by have := h.1; omega⟩
  have h2 := h.2
  unfold row_addr.f strconv_FormatUint_42.f
  rw [show IntKind.u64.wrap (u : Int) = (u : Int) by rw [IntKind.wrap_u64]; omega, if_pos ⟨by omega, by omega, rfl⟩]
  simp only [Option.bind_some, Int.toNat_natCast]
  rw [itoaB, itoa_nonneg]
theorem row_num_eq (n : Int) (h : I64 n) : row_num.f n = some (itoaB n) := by
  unfold row_num.f strconv_Itoa_22.f
  rw [if_pos (show -9223372036854775808 ≤ n ∧ n ≤ 9223372036854775807 from h)]
  rfl
theorem addrV_eq (a : Int) (h : U32 a) : addrV (itoaB a) = some a := by
  obtain ⟨u, rfl⟩ : ∃ u : Nat, a = u := ⟨a.toNat, by have := h.1; omega⟩
  have h2 := h.2
  rw [itoaB, itoa_nonneg]
  exact addrV_dec u (by omega)
theorem numV_eq (n : Int) (h : I64 n) : numV (itoaB n) = some n := numV_itoa n h.1 h.2

theorem dec20 (n : Int) (h : I64 n) : interregnumref11_Dec.f 20 n = some (itoaB n) := by
  by_cases hn : 0 ≤ n
  · obtain ⟨u, rfl⟩ : ∃ u : Nat, n = u := ⟨n.toNat, by omega⟩
    have h2 := h.2
    exact ref11_Dec_eq 19 u (by omega) (by omega)
  · obtain ⟨u, rfl⟩ : ∃ u : Nat, n = -(u : Int) := ⟨n.natAbs, by omega⟩
    have h1 := h.1
    unfold interregnumref11_Dec.f
    have e1 : wrap64 (-(u : Int) + 1) = -(u : Int) + 1 := by unfold wrap64; omega
    have e2 : wrap64 (-(-(u : Int) + 1)) = (u : Int) - 1 := by unfold wrap64; omega
    have e3 : IntKind.u64.wrap ((u : Int) - 1) = (u : Int) - 1 := by rw [IntKind.wrap_u64]; omega
    have e4 : IntKind.u64.wrap ((u : Int) - 1 + 1) = (u : Int) := by rw [IntKind.wrap_u64]; omega
    rw [if_pos (by omega), e1, e2, e3, e4, ref11_dec_eq 19 u (by omega) (by omega)]
    simp only [Option.bind_some]
    have hl : (decDigits u).length ≤ 20 := by
      rw [decDigits_length]
      have := numDigits_eq u (by omega) (by omega)
      split at this <;> omega
    rw [if_pos (by rw [ba_size]; omega), itoaB, itoa_neg u (by omega), show (⟨#[45]⟩ : ByteArray) = ⟨[(45 : UInt8)].toArray⟩ from rfl, append_toArray]
    rfl

def hopT (a b c d e : Int) : List ByteArray := [itoaB a, itoaB b, itoaB c, itoaB d, itoaB e]
theorem piece_le (x : ByteArray) (h : x.size ≤ 21) : (pieceL x).length ≤ 43 := by
  rw [pieceL_length]
  have := itoa_length_le (x.size : Int) (by omega) (by omega)
  omega
theorem hopT_len (a b c d e : Int) (ha : U32 a) (hb : I64 b) (hc : U32 c) (hd : I64 d) (he : I64 e) : (textsL (hopT a b c d e)).length ≤ 215 := by
  have h1 := piece_le _ (itoaB_size a ha.i64)
  have h2 := piece_le _ (itoaB_size b hb)
  have h3 := piece_le _ (itoaB_size c hc.i64)
  have h4 := piece_le _ (itoaB_size d hd)
  have h5 := piece_le _ (itoaB_size e he)
  unfold hopT
  simp only [textsL_cons, List.length_append, textsL_nil, List.length_nil]
  omega
def hopB (a b c d e : Int) : ByteArray := ⟨(textsL (hopT a b c d e)).toArray⟩

theorem row_Hop_eq (a b c d e : Int) (ha : U32 a) (hb : I64 b) (hc : U32 c) (hd : I64 d) (he : I64 e) : row_Hop.f a b c d e = some (hopB a b c d e) := by
  have hl := hopT_len a b c d e ha hb hc hd he
  unfold row_Hop.f
  rw [row_addr_eq a ha, row_num_eq b hb, row_addr_eq c hc, row_num_eq d hd, row_num_eq e he]
  simp only [Option.bind_some]
  unfold row_Texts.f
  have hl' : (textsL [itoaB a, itoaB b, itoaB c, itoaB d, itoaB e]).length ≤ 140737488355328 := by
    have : (textsL [itoaB a, itoaB b, itoaB c, itoaB d, itoaB e]).length ≤ 215 := hl
    omega
  rw [if_pos hl']
  rfl

theorem ref_Hop_eq (a b c d e : Int) (ha : U32 a) (hb : I64 b) (hc : U32 c) (hd : I64 d) (he : I64 e) : interregnumref11_Hop.f 20 a b c d e = some (hopB a b c d e) := by
  have hl := hopT_len a b c d e ha hb hc hd he
  have ea : wrap64 a = a := by have h1 := ha.1; have h2 := ha.2; unfold wrap64; omega
  have ec : wrap64 c = c := by have h1 := hc.1; have h2 := hc.2; unfold wrap64; omega
  unfold interregnumref11_Hop.f
  rw [ea, ec, dec20 a ha.i64, dec20 b hb, dec20 c hc.i64, dec20 d hd, dec20 e he]
  simp only [Option.bind_some]
  unfold interregnumref11_Texts.f
  have hl' : (textsL [itoaB a, itoaB b, itoaB c, itoaB d, itoaB e]).length ≤ 140737488355328 := by
    have : (textsL [itoaB a, itoaB b, itoaB c, itoaB d, itoaB e]).length ≤ 215 := hl
    omega
  rw [if_pos hl']
  rfl

theorem split_hopB (a b c d e : Int) (ha : U32 a) (hb : I64 b) (hc : U32 c) (hd : I64 d) (he : I64 e) : splitGo (hopB a b c d e).size (hopB a b c d e) [] = (hopT a b c d e, true) := by
  have hl := hopT_len a b c d e ha hb hc hd he
  unfold hopB
  rw [split_texts (hopT a b c d e) _ [] (by rw [ba_size]; exact textsL_count _) (by omega)]
  rfl

theorem ReadHop_eq (a b c d e : Int) (ha : U32 a) (hb : I64 b) (hc : U32 c) (hd : I64 d) (he : I64 e) : row_ReadHop.f (hopB a b c d e) = some (a, b, c, d, e, true) := by
  have hl := hopT_len a b c d e ha hb hc hd he
  unfold row_ReadHop.f
  rw [split_hopB a b c d e ha hb hc hd he, if_pos (by unfold hopB; rw [ba_size]; omega)]
  have hbad : hopBad (hopT a b c d e) (openBad true (hopT a b c d e).length 5) = false := by
    unfold hopBad badNum badAddr openBad hopT headV
    simp [numV_eq b hb, numV_eq d hd, numV_eq e he, addrV_eq a ha, addrV_eq c hc]
  simp only
  rw [hbad, if_neg (by decide)]
  unfold hopT headV
  simp only [List.headD_cons, List.tail_cons, numV_eq b hb, numV_eq d hd, numV_eq e he, addrV_eq a ha, addrV_eq c hc, Option.getD_some]
  rw [row_Hop_eq a b c d e ha hb hc hd he, Option.bind_some, if_pos rfl]

theorem answers_true : interregnumlaw21_answers.f = some true := by
  have u0 : U32 0 := ⟨by decide, by decide⟩
  have u7 : U32 7 := ⟨by decide, by decide⟩
  have i0 : I64 0 := ⟨by decide, by decide⟩
  unfold interregnumlaw21_answers.f
  have h1 : row_Texts.f [(⟨#[97, 98]⟩ : ByteArray), (⟨#[]⟩ : ByteArray)] = some ⟨#[50, 58, 97, 98, 48, 58]⟩ := by
    have e : textsL [(⟨#[97, 98]⟩ : ByteArray), (⟨#[]⟩ : ByteArray)] = [50, 58, 97, 98, 48, 58] := by
      have z2 : itoa 2 = [50] := by rw [show (2 : Int) = ((2 : Nat) : Int) from rfl, itoa_nonneg, decDigits_one (by decide)]; rfl
      have z0 : itoa 0 = [48] := by rw [show (0 : Int) = ((0 : Nat) : Int) from rfl, itoa_nonneg, decDigits_one (by decide)]; rfl
      rw [textsL_cons, textsL_cons, textsL_nil]
      unfold pieceL
      rw [show (((⟨#[97, 98]⟩ : ByteArray).size : Nat) : Int) = 2 from rfl, show (((⟨#[]⟩ : ByteArray).size : Nat) : Int) = 0 from rfl, z2, z0]
      rfl
    unfold row_Texts.f
    rw [e, if_pos (by decide)]
  have h2 := Split_Texts _ _ h1 (by decide)
  rw [h2, row_Hop_eq 0 0 7 0 0 u0 i0 u7 i0 i0]
  simp only [Option.bind_some]
  rw [ReadHop_eq 0 0 7 0 0 u0 i0 u7 i0 i0, h1]
  simp only [Option.bind_some]
  rw [if_pos trivial, if_pos (by decide), if_pos (by decide), if_pos, if_pos, if_pos trivial]
  · rfl
  · rw [ByteArray.toList_eq]
  · rw [ByteArray.toList_eq]
    rfl


end Go.Proofs.YtppjodchlpapdaaDoor.PB
