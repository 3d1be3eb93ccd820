/- row.Texts gives each text's length, a colon and the text, one behind the other. Conditions: the whole is at most 2^47 bytes. -/
import Derived.Test.YtppjodchlpapdaaDoorG5
import Derived.Test.YtppjodchlpapdaaDoorGB
import Derived.Test.YtppjodchlpapdaaDoorWWords
import Derived.Test.YtppjodchlpapdaaDoorWLast
import Derived.Deep.LoopGhost
import Derived.Deep.RegionHeld3
namespace Go.Proofs.YtppjodchlpapdaaDoor.PB
open Go.RowKit Go.Sort Go.Lib Go.Proofs Go.Proofs.YtppjodchlpapdaaDoor Go.Proofs.YtppjodchlpapdaaDoorW.PrintWords
set_option linter.unusedVariables false
set_option linter.unusedSimpArgs false

theorem builder_below {T e : TypeId} {B b : Nat} {bs : List Value} {W W' : World} (h : Lib.IsBuilder T e B b bs W) (hb : Below W.heap.size W W') : Lib.IsBuilder T e B b bs W' := by
  have go : ∀ p, Lib.BuilderAt T e B b p bs W → Lib.BuilderAt T e B b p bs W' := by
    rintro p ⟨hB, v, hbk, hown, hne⟩
    exact ⟨hB, v, (hb.block b (Array.getElem?_eq_some_iff.1 hbk).1).trans hbk, own_move hown (fun k hk => hb.block k (hown.lt k hk).2), hne⟩
  exact h.elim (fun x => .inl (go _ x)) (fun x => .inr (go _ x))

theorem ba_size (l : List UInt8) : (⟨l.toArray⟩ : ByteArray).size = l.length := List.size_toArray
theorem strCells_len (s : ByteArray) : (Lib.strCells s).length = s.size := by rw [Lib.strCells_eq, Lib.byteCells_length]; exact Array.length_toList
/-- What one text gives: its length in decimal, ':', the text. -/
def pieceL (s : ByteArray) : List UInt8 := Lib.itoa s.size ++ 58 :: s.data.toList
def textsL (l : List ByteArray) : List UInt8 := l.flatMap pieceL
theorem textsL_nil : textsL [] = [] := rfl
theorem textsL_cons (s : ByteArray) (l : List ByteArray) : textsL (s :: l) = pieceL s ++ textsL l := by simp [textsL]
theorem textsL_snoc (l : List ByteArray) (s : ByteArray) : textsL (l ++ [s]) = textsL l ++ pieceL s := by simp [textsL]
theorem pieceL_length (s : ByteArray) : (pieceL s).length = (Lib.itoa s.size).length + 1 + s.size := by
  simp [pieceL]; omega
theorem textsL_take (l : List ByteArray) (i : Nat) (h : i < l.length) : textsL (l.take (i + 1)) = textsL (l.take i) ++ pieceL l[i] := by
  rw [List.take_succ_eq_append_getElem h, textsL_snoc]
theorem textsL_le (l : List ByteArray) (i : Nat) : (textsL (l.take i)).length ≤ (textsL l).length := by
  have h : textsL l = textsL (l.take i) ++ textsL (l.drop i) := by unfold textsL; rw [← List.flatMap_append, List.take_append_drop]
  rw [h]; simp
theorem textsL_count (l : List ByteArray) : l.length ≤ (textsL l).length := by
  induction l with
  | nil => simp
  | cons a l ih => rw [textsL_cons, List.length_append, pieceL_length, List.length_cons]; omega

def row_Texts.f (l0 : List ByteArray) : Option ByteArray :=
  if (textsL l0).length ≤ 140737488355328 then some ⟨(textsL l0).toArray⟩ else none

set_option maxHeartbeats 4000000 in
set_option maxRecDepth 100000 in
theorem row_Texts.calls (A0 : Option Addr) (c0 : Nat) (l0 : List ByteArray) (r : ByteArray) (w : World) (hV : VarsOk w) (hr0 : Kd.C Kd.string w A0 l0.length l0) (hc0 : l0.length ≤ c0) (h : row_Texts.f l0 = some r) :
    Calls Tryd.prog 9 #[.slice A0 l0.length c0] w fun e w' => e = .returned (.string r) ∧ Below w.heap.size w w' := by
  unfold row_Texts.f at h
  split at h
  · rename_i hc
    cases h
    have hn := textsL_count l0
    go_enter Tryd.func9, Tryd.ntmps9
    go_wp2
    go_loopg [8] (l0.length) (fun g s8 wx => ∃ i : Nat, i + g = l0.length ∧ s8 = .int .i64 i ∧ Lib.IsBuilder 52 5 w.heap.size w.heap.size (Lib.byteCells (textsL (l0.take i))) wx ∧ Below w.heap.size w wx)
    case atStart => exact ⟨0, by omega, rfl, Lib.fresh_isBuilder _ _ w, below_alloc (Below.refl _ _) _⟩
    case round =>
      obtain ⟨i, hi, rfl, hbd, hbw⟩ := hrel
      have hv := hV.below hbw
      by_cases hlt : i < l0.length
      · obtain ⟨ad, eA, hcell⟩ := Kd.at_string hr0 i (by omega) (by omega)
        have hrd : rdOf ByteArray.empty l0 (i : Int) = l0[i] := by simp [rdOf, hlt]
        rw [hrd] at hcell
        cases eA
        have hcell' := (hbw.cell (World.block_lt_of_cell? w _ hcell)).trans hcell
        have hle := textsL_le l0 (i + 1)
        rw [textsL_take l0 i hlt, List.length_append, pieceL_length] at hle
        have hsz : l0[i].size ≤ 140737488355328 := by omega
        have hit : strconv_Itoa_22.f (l0[i].size : Int) = some ⟨(Lib.itoa l0[i].size).toArray⟩ := by unfold strconv_Itoa_22.f; rw [if_pos (by omega)]
        have hlt' : (i : Int) < (l0.length : Int) := by omega
        have h0 : 0 ≤ (i : Int) := by omega
        simp only [Int.toNat_natCast] at hcell'
        go_wp2_with (go_at_call 22; refine (strconv_Itoa_22.calls _ _ _ hv hit).mono ?_)
        rintro e w1 ⟨rfl, hb1⟩
        have hbd1 := builder_below hbd hb1
        have hbw1 := below_step hbw hb1
        go_wp2_with (go_at_call 21; refine (G.WriteString_any _ _ _ _ _ hbd1 (by rw [Lib.byteCells_length, ba_size]; omega) hbw1.size).mono ?_)
        rintro e w2 ⟨rfl, hbd2, hb2⟩
        have hbw2 := hbw1.trans hb2
        go_wp2_with (go_at_call 23; refine (G.WriteByte_any _ _ _ _ _ (.inr hbd2) (by rw [List.length_append, Lib.byteCells_length, strCells_len, ba_size]; omega) hbw2.size).mono ?_)
        rintro e w3 ⟨rfl, hbd3, hb3⟩
        have hbw3 := hbw2.trans hb3
        go_wp2_with (go_at_call 21; refine (G.WriteString_any _ _ _ _ _ (.inr hbd3) (by rw [List.length_append, List.length_append, Lib.byteCells_length, strCells_len, ba_size, List.length_singleton]; omega) hbw3.size).mono ?_)
        rintro e w4 ⟨rfl, hbd4, hb4⟩
        have hbw4 := hbw3.trans hb4
        go_wp2
        go_roundg (gk - 1)
        case measure => omega
        case rel =>
          refine ⟨i + 1, by omega, by simp, ?_, hbw4⟩
          rw [textsL_take l0 i hlt]
          have e1 : Lib.byteCells (textsL (l0.take i) ++ pieceL l0[i]) = Lib.byteCells (textsL (l0.take i)) ++ Lib.strCells ⟨(Lib.itoa l0[i].size).toArray⟩ ++ [Value.int .u8 58] ++ Lib.strCells l0[i] := by
            simp [pieceL, Lib.byteCells, Lib.strCells]
          rw [e1]
          exact .inr hbd4
      · have hge : ¬ ((i : Int) < (l0.length : Int)) := by omega
        have ei : i = l0.length := by omega
        rw [ei, List.take_length] at hbd
        go_wp2_with (go_at_call 24; refine (Tryd.Builder_String_any _ _ _ _ hbd hbw.size).mono ?_; rintro e w1 ⟨rfl, hb1⟩)
        go_ret
        exact ⟨rfl, hbw.trans hb1⟩
  · cases h
end Go.Proofs.YtppjodchlpapdaaDoor.PB
