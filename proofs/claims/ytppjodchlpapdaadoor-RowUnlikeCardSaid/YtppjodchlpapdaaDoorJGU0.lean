/- What the package-level variables of strconv and bytealg hold stays so wherever old memory stays. No conditions. strconv.Itoa and strconv.FormatUint at base 10 give the decimal numerals. Conditions: the number is of its kind. The writing methods of strings.Builder do what their texts say, at any builder of the call's own. Conditions: the builder is one, and it stays below 2^47 bytes. row.Texts gives each text's length, a colon and the text, one behind the other. Conditions: the whole is at most 2^47 bytes. row.Split reads texts off as splitGo does. Conditions: the text is shorter than 4294967281 bytes. The methods text and num of row's reader take the next text. Conditions: the reader is one of the call's own. The methods addr and prefix of row's reader take the next texts. Conditions: the reader is one of the call's own. row.open makes a reader of what row.Split gives. Conditions: the text is shorter than 4294967281 bytes. -/
import Derived.Test.YtppjodchlpapdaaDoorShelf
import Derived.Lib.SmallJoins
import Derived.WalkLawsBesides
import Derived.Lib.AppendIntMem
import Derived.Lib.OwnBridge
import Derived.WalkSpells
import Derived.Lib.FrozenHead2
import Derived.Lib.UnsafeStr
import Derived.Test.YtppjodchlpapdaaDoorWWords
import Derived.Test.YtppjodchlpapdaaDoorWLast
import Derived.Deep.LoopGhost
import Derived.Deep.RegionHeld3
import Derived.Lib.AtoiErrMem
import Derived.Test.YtppjodchlpapdaaDoorWMore
import Derived.Lib.ParseIntBCases
import Derived.Test.YtppjodchlpapdaaDoorProg
import Derived.Below
import Derived.Deep.Draws
import Derived.Deep.AppendLies
import Derived.Maps.AppendAt
import Derived.OwnWalk
import Derived.Laws.BytesArg
import Derived.Laws.MakeOwn
import Derived.Laws.OwnMore
import Derived.Deep.OwnRows
import Derived.Tactics
import Derived.Lib.ConvBytes
import Derived.Laws.Slices
import Derived.WalkKit
import Derived.KernelRfl
import Derived.RowKit3
import Derived.Deep.QuietTactic
import Derived.BigQuiet
import Derived.WideLaws
import Derived.Deep.DeepCutAuto
import Derived.Deep.CutBlock
import Derived.Laws.Rows
import Derived.Lib.AppendStr
import Derived.ArgAppend
import Derived.Laws.IdiomCopy
import Derived.OrdersHeld
import Derived.Laws.BitsLemmas
import Derived.RowKit
import Derived.Test.YtppjodchlpapdaaDoorWTab
import Derived.Test.YtppjodchlpapdaaDoorWFour
import Derived.Test.YtppjodchlpapdaaDoorWQPut
import Derived.Test.YtppjodchlpapdaaDoorWApart
import Derived.Test.YtppjodchlpapdaaDoorWArr
import Derived.Test.YtppjodchlpapdaaDoorWZeros
import Derived.Test.YtppjodchlpapdaaDoorWFoot
import Derived.Test.YtppjodchlpapdaaDoorWKept
import Derived.Test.YtppjodchlpapdaaDoorWShare
import Derived.Test.YtppjodchlpapdaaDoorWN
import Derived.Test.YtppjodchlpapdaaDoorWFootNe
import Derived.Test.YtppjodchlpapdaaDoorWAt
import Derived.Test.YtppjodchlpapdaaDoorWEqStruct
import Derived.Test.YtppjodchlpapdaaDoorWRepsOne
import Derived.Test.YtppjodchlpapdaaDoorWInv
import Derived.Test.YtppjodchlpapdaaDoorWInvWords
import Derived.Test.YtppjodchlpapdaaDoorWGuard
import Derived.Test.YtppjodchlpapdaaDoorWNEv
namespace Go.Proofs.YtppjodchlpapdaaDoor.PB
open Go.RowKit Go.Proofs
set_option linter.unusedVariables false

def VarsOk (w : World) : Prop :=
  Lib.TabIs Tryd.prog w "internal/strconv.uint64pow10" .u64 Lib.pow10Tab ∧
  (∃ tp p, w.var? Tryd.prog "strconv.ErrSyntax" = some #[.iface tp p]) ∧
  (∃ tp p, w.var? Tryd.prog "strconv.ErrRange" = some #[.iface tp p]) ∧
  (∃ m : Int, w.cell? ⟨0, 0, none⟩ = some (.int .i64 m))

theorem gPow : Tryd.prog.globalNamed "internal/strconv.uint64pow10" = some 3 := by kernel_rfl
theorem gSyn : Tryd.prog.globalNamed "strconv.ErrSyntax" = some 1 := by kernel_rfl
theorem gRng : Tryd.prog.globalNamed "strconv.ErrRange" = some 2 := by kernel_rfl

theorem VarsOk.below {w w1 : World} (h : VarsOk w) (hb : Below w.heap.size w w1) : VarsOk w1 := by
  obtain ⟨h1, ⟨tp, p, h2⟩, ⟨tq, q, h3⟩, m, h4⟩ := h
  exact ⟨Joins.tab_stays gPow h1 hb (Nat.le_refl _), ⟨tp, p, Joins.var_stays gSyn h2 hb (Nat.le_refl _)⟩, ⟨tq, q, Joins.var_stays gRng h3 hb (Nat.le_refl _)⟩, m, by rw [hb.cell (World.block_lt_of_cell? _ _ h4)]; exact h4⟩

end Go.Proofs.YtppjodchlpapdaaDoor.PB

namespace Go.Proofs.YtppjodchlpapdaaDoor.PB
open Go.Shelf Go.RowKit Go.Sort Go.Lib Go.Proofs
set_option linter.unusedVariables false
set_option linter.unusedSimpArgs false

def strconv_Itoa_22.f (a0 : Int) : Option ByteArray :=
  if -9223372036854775808 ≤ a0 ∧ a0 ≤ 9223372036854775807 then some ⟨(Lib.itoa a0).toArray⟩ else none

theorem below_grow_drew (w : World) (k : Nat) (os : Array Obj) : Below w.heap.size w (grow (w.drewN k) os) := by
  first
    | exact ((Below.refl w.heap.size w).drewN k).grow os
    | exact Below.grow_drewN w k os
    | exact ⟨rfl, rfl, rfl, by simp [grow, World.drewN], fun j hj => by simp [grow, World.drewN, Array.getElem?_append, hj]⟩

theorem strconv_Itoa_22.calls (a0 : Int) (r : ByteArray) (w : World) (hV : VarsOk w) (h : strconv_Itoa_22.f a0 = some r) :
    Calls Tryd.prog 22 #[.int .i64 a0] w fun e w' => e = .returned (.string r) ∧ Below w.heap.size w w' := by
  unfold strconv_Itoa_22.f at h
  split at h
  · rename_i hc
    cases h
    refine (Tryd.strconv_Itoa a0 hc.1 hc.2 w hV.1).mono ?_
    rintro e w' ⟨rfl, k, os, rfl⟩
    exact ⟨rfl, below_grow_drew w k os⟩
  · cases h

def strconv_FormatUint_42.f (a0 : Int) (a1 : Int) : Option ByteArray :=
  if 0 ≤ a0 ∧ a0 < 18446744073709551616 ∧ a1 = 10 then some ⟨(Lib.decDigits a0.toNat).toArray⟩ else none

set_option maxHeartbeats 4000000 in
set_option maxRecDepth 100000 in
theorem inner_FormatUint (u : Nat) (hu64 : u < 18446744073709551616) (w : World) (htab : Lib.TabIs Tryd.prog w "internal/strconv.uint64pow10" .u64 Lib.pow10Tab) :
    Calls Tryd.prog 53 #[.int .u64 u, .int .i64 10] w fun e w' => e = .returned (.string ⟨(Lib.decDigits u).toArray⟩) ∧ Below w.heap.size w w' := by
  have wz : IntKind.i64.wrap (u : Int) = IntKind.i64.wrap (u : Int) := rfl
  by_cases hs : u < 100
  · have hw : IntKind.i64.wrap (u : Int) = (u : Int) := by rw [IntKind.wrap_i64]; omega
    go_enter Tryd.func53, Tryd.ntmps53
    go_wp2_with (go_at_call 55; refine (Tryd.internal_strconv_small u hs _).mono ?_; rintro e w' ⟨rfl, rfl⟩)
    go_ret
    exact ⟨rfl, Below.refl _ _⟩
  · have hu1 : 1 ≤ u := by omega
    have hnd20 : Lib.nDigits u ≤ 20 := by have := Lib.numDigits_eq u hu1 hu64; split at this <;> omega
    have hb3 : Lib.nDigits u ≤ 24 := by omega
    have hal : Tryd.prog.arrayLen 91 = 24 := by kernel_rfl
    have hsl1 : ∀ W, (Instr.sliceAt 91 (.pointer (some ⟨w.heap.size, 0, none⟩)) none (some (.int .i64 (Lib.nDigits u : Int))) none).run Tryd.prog W = .ok (.slice (some ⟨w.heap.size, 0, none⟩) (Lib.nDigits u) 24) W := fun W => by
      rw [run_sliceAt_array_h W 91 ⟨w.heap.size, 0, none⟩ (by simp [Program.arrayLen, Program.elem, Tryd.underlying91]) .i64 (Lib.nDigits u : Int) (by omega) (by rw [hal]; omega)]
      go_simp
    have hH0 := Lib.holds_zero0 w 91 (Lib.nDigits u) (by omega)
    have hfmt := Tryd.internal_strconv_formatBase10 w.heap.size 0 24 u (Array.replicate (Lib.nDigits u) 0) (w.alloc (.cells Lib.zeros24 91)) hH0 (by rw [Array.size_replicate]; exact Lib.lt_pow_nDigits u) hu64 (by rw [Array.size_replicate]; omega)
    rw [Array.size_replicate] at hfmt
    have HH0 := Lib.hid hH0
    clear hH0 hal
    go_enter Tryd.func53, Tryd.ntmps53
    go_wp2_with (first
      | (go_at_call 56; refine (Tryd.internal_strconv_numDigits u hu1 hu64 _ (Lib.tabIs_alloc htab _)).mono ?_; rintro e w' ⟨rfl, rfl⟩))
    go_at_call 57
    refine hfmt.mono ?_
    rintro e w' ⟨rfl, k, v', dk, rfl, hF⟩
    have hcv : (convert 50 9 (.slice (some ⟨w.heap.size, 0, none⟩) (Lib.nDigits u) 24)).run Tryd.prog ((putRow (fun (b : UInt8) => Value.int .u8 (b.toNat : Int)) (w.alloc (.cells Lib.zeros24 91)) w.heap.size 0 dk).drewN k) = .ok (.string ⟨(Lib.decDigits u).toArray⟩) ((putRow (fun (b : UInt8) => Value.int .u8 (b.toNat : Int)) (w.alloc (.cells Lib.zeros24 91)) w.heap.size 0 dk).drewN k) := by
      have h := run_convert_bytes_back (P := Tryd.prog) ((putRow (fun (b : UInt8) => Value.int .u8 (b.toNat : Int)) (w.alloc (.cells Lib.zeros24 91)) w.heap.size 0 dk).drewN k) 50 9 5 ⟨w.heap.size, 0, none⟩ 24 (Lib.decDigits u) Tryd.underlying50 Tryd.underlying5 Tryd.underlying9 (fun j hj => by
        rw [Lib.row_is_numeral hF j hj, Lib.add_plain, World.cell?_drewN]
        exact cell?_putRow (fun (b : UInt8) => Value.int .u8 (b.toNat : Int)) _ w.heap.size 0 _ dk HH0.out (by rw [hF.size, Array.size_replicate]) j (by rw [hF.size]; rw [Lib.decDigits_length] at hj; exact hj))
      rw [Lib.decDigits_length] at h
      exact h
    go_wp2
    go_ret
    obtain ⟨os', _, e⟩ := putRow_grow_new (fun (b : UInt8) => Value.int .u8 (b.toNat : Int)) w #[.cells Lib.zeros24 91] w.heap.size 0 dk (Nat.le_refl _)
    refine ⟨rfl, ?_⟩
    rw [alloc_eq_grow, e]
    exact below_grow_drew w k os'

theorem strconv_FormatUint_42.calls (a0 : Int) (a1 : Int) (r : ByteArray) (w : World) (hV : VarsOk w) (h : strconv_FormatUint_42.f a0 a1 = some r) :
    Calls Tryd.prog 42 #[.int .u64 a0, .int .i64 a1] w fun e w' => e = .returned (.string r) ∧ Below w.heap.size w w' := by
  unfold strconv_FormatUint_42.f at h
  split at h
  · rename_i hc
    cases h
    obtain ⟨h0, h1, rfl⟩ := hc
    obtain ⟨u, rfl⟩ : ∃ u : Nat, a0 = u := ⟨a0.toNat, by omega⟩
    go_enter Tryd.func42, Tryd.ntmps42
    go_wp2_with (go_at_call 53; refine (inner_FormatUint u (by omega) _ hV.1).mono ?_; rintro e w' ⟨rfl, hb⟩)
    go_ret
    exact ⟨rfl, hb⟩
  · cases h

end Go.Proofs.YtppjodchlpapdaaDoor.PB

namespace Go.Proofs.YtppjodchlpapdaaDoor.G
open Go.RowKit Go.Proofs
set_option linter.unusedVariables false
set_option linter.unusedSimpArgs false

theorem infoByte : (Tryd.prog.info? 5).map (fun i => (i.zero, i.size, i.bytes)) = some (some (.int .u8 0), 1, 1) := by kernel_rfl
theorem sizeBuilder : (Tryd.prog.info? 52).map (·.size) = some 2 := by kernel_rfl
theorem liesBuilder : liesAt Tryd.prog Tryd.prog.depth 52 (2 / Tryd.prog.cellsOf 52) 0 52 1 = true := by kernel_rfl

set_option maxHeartbeats 1000000 in
set_option maxRecDepth 100000 in
theorem copyCheck_used (b : Nat) (w : World) (h0 : w.cell? ⟨b, 0, none⟩ = some (.pointer (some ⟨b, 0, none⟩))) :
    Calls Tryd.prog 36 #[.pointer (some ⟨b, 0, none⟩)] w fun e w' => e = .returned (.tuple #[]) ∧ w' = w := by
  obtain ⟨j, hj, _⟩ := Option.map_eq_some_iff.1 sizeBuilder
  go_enter Tryd.func36, Tryd.ntmps36
  go_wp2
  rw [Lib.run_neq_ptr_same w _ Tryd.underlying49 hj]
  go_wp2
  go_end0
  exact ⟨rfl, rfl⟩

set_option maxHeartbeats 1000000 in
set_option maxRecDepth 100000 in
theorem copyCheck_fresh (b : Nat) (w : World) (h0 : w.cell? ⟨b, 0, none⟩ = some (.pointer none)) (hsh : w.shape? b = some (52, 2)) (hfz : w.frozen? ⟨b, 0, none⟩ = false) :
    Calls Tryd.prog 36 #[.pointer (some ⟨b, 0, none⟩)] w fun e w' => e = .returned (.tuple #[]) ∧ w' = w.setCell ⟨b, 0, none⟩ (.pointer (some ⟨b, 0, none⟩)) := by
  obtain ⟨j, hj, hjs⟩ := Option.map_eq_some_iff.1 sizeBuilder
  go_enter Tryd.func36, Tryd.ntmps36
  go_wp2
  rw [Lib.run_to_unsafe w ⟨b, 0, none⟩ Tryd.underlying49 Tryd.underlying81 hj (by rw [hjs]; decide) hsh (Nat.zero_lt_succ 1)]
  simp only [Result.andThen]
  rw [Oper.upon_value]
  go_wp2
  rw [run_callFunc_extern Tryd.func45 (by kernel_rfl) (by kernel_rfl) (by kernel_rfl) (e := Extern.AbiNoEscape.same) (by kernel_rfl)]
  rw [Lib.run_noEscape]
  simp only [Result.andThen]
  rw [Oper.upon_value]
  go_wp2
  rw [Lib.run_from_unsafe w ⟨b, 0, none⟩ Tryd.underlying81 Tryd.underlying49 hj hsh liesBuilder]
  simp only [Result.andThen]
  rw [Oper.upon_value]
  go_wp2
  go_end0
  exact ⟨rfl, rfl⟩

theorem copyCheck_any (B b : Nat) (bs : List Value) (w : World) (h : Lib.IsBuilder 52 5 B b bs w) :
    Calls Tryd.prog 36 #[.pointer (some ⟨b, 0, none⟩)] w fun e w' => e = .returned (.tuple #[]) ∧ Lib.BuilderAt 52 5 B b (.pointer (some ⟨b, 0, none⟩)) bs w' ∧ Below B w w' := by
  rcases h with h | h
  · refine (copyCheck_fresh b w h.cell0 h.shape h.frozen0).mono ?_
    rintro e w' ⟨rfl, rfl⟩
    exact ⟨rfl, h.used _, (Below.refl B w).setCell (p := ⟨b, 0, none⟩) h.1 _⟩
  · refine (copyCheck_used b w h.cell0).mono ?_
    rintro e w' ⟨rfl, rfl⟩
    exact ⟨rfl, h, Below.refl B _⟩

set_option maxHeartbeats 2000000 in
set_option maxRecDepth 100000 in
theorem WriteByte_any (B b : Nat) (bs : List Value) (c : Int) (w : World) (h : Lib.IsBuilder 52 5 B b bs w) (hlen : bs.length + 1 ≤ 140737488355328) (hBw : B ≤ w.heap.size) :
    Calls Tryd.prog 23 #[.pointer (some ⟨b, 0, none⟩), .int .u8 c] w fun e w' => e = .returned .nilIface ∧ Lib.BuilderAt 52 5 B b (.pointer (some ⟨b, 0, none⟩)) (bs ++ [.int .u8 c]) w' ∧ Below B w w' := by
  obtain ⟨i0, hi, hz0, hz1, hz2⟩ := info_parts infoByte
  go_enter Tryd.func23, Tryd.ntmps23
  go_wp2_with (go_at_call 36; refine (copyCheck_any B b bs _ h).mono ?_)
  rintro e w1 ⟨rfl, h1, hb1⟩
  obtain ⟨hB, v, hbk, hown, hne⟩ := h1
  have c0 : w1.cell? ⟨b, 0, none⟩ = some (.pointer (some ⟨b, 0, none⟩)) := by rw [Lib.cell_of_heap hbk]; rfl
  have c1 : w1.cell? ⟨b, 1, none⟩ = some v := by rw [Lib.cell_of_heap hbk]; rfl
  go_wp2_with (at_builtin; refine wpList_append_own _ rfl _ _ 50 rfl B 5 i0 (.int .u8 0) 1 1 Tryd.underlying50 hi hz0 hz1 hz2 rfl (by decide) _ _ _ rfl (hown.alloc _) ⟨w1.heap.size, 0, none⟩ 1 1 [.int .u8 c] rfl rfl ?c1 ?c2 ?c3 ?c4 ?c5 ?_)
  case c1 =>
    intro j u hj
    match j, hj with
    | 0, hj => simp at hj; subst hj; simp [Addr.add]
  case c2 => intro u hu; simp at hu; subst hu; rfl
  case c3 => unfold maxLen; omega
  case c4 => omega
  case c5 => have := hb1.size; simp; omega
  intro v' w2 hown' hgrow _
  have hlt : b < w1.heap.size := by
    rcases Nat.lt_or_ge b w1.heap.size with h' | h'
    · exact h'
    · simp [Array.getElem?_eq_none h'] at hbk
  have hb2 : w2.heap[b]? = some (.cells #[.pointer (some ⟨b, 0, none⟩), v] 52 (0, 0)) := by
    rw [hgrow.block b (by simp; omega) (fun e => hne e.symm), Lib.alloc_old w1 _ b hlt]
    exact hbk
  have d0 : w2.cell? ⟨b, 0, none⟩ = some (.pointer (some ⟨b, 0, none⟩)) := by rw [Lib.cell_of_heap hb2]; rfl
  have d1 : w2.cell? ⟨b, 1, none⟩ = some v := by rw [Lib.cell_of_heap hb2]; rfl
  have f1 : w2.frozen? ⟨b, 1, none⟩ = false := Lib.frozen_of_heap hb2 1
  obtain ⟨g, cap, rfl⟩ : ∃ g cap, v' = .slice (some ⟨g, 0, none⟩) (bs.length + 1) cap := by
    rcases hown'.2 with ⟨_, h0⟩ | ⟨g, cap, cur, hv, _⟩
    · omega
    · exact ⟨g, cap, hv⟩
  go_wp2
  go_ret
  refine ⟨rfl, ?_, ?_⟩
  · exact Lib.BuilderAt.put (T := 52) (e := 5) hB hb2 (bs' := bs ++ [.int .u8 c]) (by simpa using hown') (by decide)
  · exact ((hb1.alloc (by have := hb1.size; omega) _).grown hgrow (by have := hb1.size; simp; omega) (fun k hk => (hown.lt k hk).1)).setCell (p := ⟨b, 1, none⟩) hB _

set_option maxHeartbeats 2000000 in
set_option maxRecDepth 100000 in
theorem WriteString_any (B b : Nat) (bs : List Value) (s : ByteArray) (w : World) (h : Lib.IsBuilder 52 5 B b bs w) (hlen : bs.length + s.size ≤ 140737488355328) (hBw : B ≤ w.heap.size) :
    Calls Tryd.prog 21 #[.pointer (some ⟨b, 0, none⟩), .string s] w fun e w' => e = .returned (.tuple #[.int .i64 s.size, .nilIface]) ∧ Lib.BuilderAt 52 5 B b (.pointer (some ⟨b, 0, none⟩)) (bs ++ Lib.strCells s) w' ∧ Below B w w' := by
  obtain ⟨i0, hi, hz0, hz1, hz2⟩ := info_parts infoByte
  go_enter Tryd.func21, Tryd.ntmps21
  go_wp2_with (go_at_call 36; refine (copyCheck_any B b bs _ h).mono ?_)
  rintro e w1 ⟨rfl, h1, hb1⟩
  obtain ⟨hB, v, hbk, hown, hne⟩ := h1
  have c0 : w1.cell? ⟨b, 0, none⟩ = some (.pointer (some ⟨b, 0, none⟩)) := by rw [Lib.cell_of_heap hbk]; rfl
  have c1 : w1.cell? ⟨b, 1, none⟩ = some v := by rw [Lib.cell_of_heap hbk]; rfl
  go_wp2_with (at_builtin; refine Lib.wpList_append_own_string _ rfl _ _ 50 9 rfl B 5 i0 Tryd.underlying50 Tryd.underlying9 hi hz0 hz1 hz2 _ _ _ rfl hown s rfl ?c3 ?c4 ?c5 ?_)
  case c3 => unfold maxLen; omega
  case c4 => omega
  case c5 => have := hb1.size; omega
  intro v' w2 hown' hgrow _
  have hlt : b < w1.heap.size := by
    rcases Nat.lt_or_ge b w1.heap.size with h' | h'
    · exact h'
    · simp [Array.getElem?_eq_none h'] at hbk
  have hb2 : w2.heap[b]? = some (.cells #[.pointer (some ⟨b, 0, none⟩), v] 52 (0, 0)) := by
    rw [hgrow.block b hlt (fun e => hne e.symm)]
    exact hbk
  have d0 : w2.cell? ⟨b, 0, none⟩ = some (.pointer (some ⟨b, 0, none⟩)) := by rw [Lib.cell_of_heap hb2]; rfl
  have d1 : w2.cell? ⟨b, 1, none⟩ = some v := by rw [Lib.cell_of_heap hb2]; rfl
  have f1 : w2.frozen? ⟨b, 1, none⟩ = false := Lib.frozen_of_heap hb2 1
  obtain ⟨ao, n', cap, rfl⟩ : ∃ ao n' cap, v' = .slice ao n' cap := by
    rcases hown'.2 with ⟨hv, _⟩ | ⟨g, cap, cur, hv, _⟩
    · exact ⟨_, _, _, hv⟩
    · exact ⟨_, _, _, hv⟩
  go_wp2
  go_ret2
  refine ⟨rfl, ?_, ?_⟩
  · exact Lib.BuilderAt.put (T := 52) (e := 5) hB hb2 (bs' := bs ++ Lib.strCells s) (by simpa [Lib.strCells_length] using hown') (by decide)
  · exact (hb1.grown hgrow (by have := hb1.size; omega) (fun k hk => (hown.lt k hk).1)).setCell (p := ⟨b, 1, none⟩) hB _
end Go.Proofs.YtppjodchlpapdaaDoor.G

namespace Go.Proofs.YtppjodchlpapdaaDoor.PB
open Go.RowKit Go.Sort Go.Lib Go.Proofs Go.Proofs.YtppjodchlpapdaaDoor Go.Proofs.YtppjodchlpapdaaDoorW.PrintWords
set_option linter.unusedVariables false
set_option linter.unusedSimpArgs false

theorem builder_below {T e : TypeId} {B b : Nat} {bs : List Value} {W W' : World} (h : Lib.IsBuilder T e B b bs W) (hb : Below W.heap.size W W') : Lib.IsBuilder T e B b bs W' := by
  have go : ∀ p, Lib.BuilderAt T e B b p bs W → Lib.BuilderAt T e B b p bs W' := by
    rintro p ⟨hB, v, hbk, hown, hne⟩
    exact ⟨hB, v, (hb.block b (Array.getElem?_eq_some_iff.1 hbk).1).trans hbk, own_move hown (fun k hk => hb.block k (hown.lt k hk).2), hne⟩
  exact h.elim (fun x => .inl (go _ x)) (fun x => .inr (go _ x))

theorem ba_size (l : List UInt8) : (⟨l.toArray⟩ : ByteArray).size = l.length := List.size_toArray
theorem strCells_len (s : ByteArray) : (Lib.strCells s).length = s.size := by rw [Lib.strCells_eq, Lib.byteCells_length]; exact Array.length_toList
/-- What one text gives: its length in decimal, ':', the text. -/
def pieceL (s : ByteArray) : List UInt8 := Lib.itoa s.size ++ 58 :: s.data.toList
def textsL (l : List ByteArray) : List UInt8 := l.flatMap pieceL
theorem textsL_nil : textsL [] = [] := rfl
theorem textsL_cons (s : ByteArray) (l : List ByteArray) : textsL (s :: l) = pieceL s ++ textsL l := by simp [textsL]
theorem textsL_snoc (l : List ByteArray) (s : ByteArray) : textsL (l ++ [s]) = textsL l ++ pieceL s := by simp [textsL]
theorem pieceL_length (s : ByteArray) : (pieceL s).length = (Lib.itoa s.size).length + 1 + s.size := by
  simp [pieceL]; omega
theorem textsL_take (l : List ByteArray) (i : Nat) (h : i < l.length) : textsL (l.take (i + 1)) = textsL (l.take i) ++ pieceL l[i] := by
  rw [List.take_succ_eq_append_getElem h, textsL_snoc]
theorem textsL_le (l : List ByteArray) (i : Nat) : (textsL (l.take i)).length ≤ (textsL l).length := by
  have h : textsL l = textsL (l.take i) ++ textsL (l.drop i) := by unfold textsL; rw [← List.flatMap_append, List.take_append_drop]
  rw [h]; simp
theorem textsL_count (l : List ByteArray) : l.length ≤ (textsL l).length := by
  induction l with
  | nil => simp
  | cons a l ih => rw [textsL_cons, List.length_append, pieceL_length, List.length_cons]; omega

def row_Texts.f (l0 : List ByteArray) : Option ByteArray :=
  if (textsL l0).length ≤ 140737488355328 then some ⟨(textsL l0).toArray⟩ else none

set_option maxHeartbeats 4000000 in
set_option maxRecDepth 100000 in
theorem row_Texts.calls (A0 : Option Addr) (c0 : Nat) (l0 : List ByteArray) (r : ByteArray) (w : World) (hV : VarsOk w) (hr0 : Kd.C Kd.string w A0 l0.length l0) (hc0 : l0.length ≤ c0) (h : row_Texts.f l0 = some r) :
    Calls Tryd.prog 9 #[.slice A0 l0.length c0] w fun e w' => e = .returned (.string r) ∧ Below w.heap.size w w' := by
  unfold row_Texts.f at h
  split at h
  · rename_i hc
    cases h
    have hn := textsL_count l0
    go_enter Tryd.func9, Tryd.ntmps9
    go_wp2
    go_loopg [8] (l0.length) (fun g s8 wx => ∃ i : Nat, i + g = l0.length ∧ s8 = .int .i64 i ∧ Lib.IsBuilder 52 5 w.heap.size w.heap.size (Lib.byteCells (textsL (l0.take i))) wx ∧ Below w.heap.size w wx)
    case atStart => exact ⟨0, by omega, rfl, Lib.fresh_isBuilder _ _ w, below_alloc (Below.refl _ _) _⟩
    case round =>
      obtain ⟨i, hi, rfl, hbd, hbw⟩ := hrel
      have hv := hV.below hbw
      by_cases hlt : i < l0.length
      · obtain ⟨ad, eA, hcell⟩ := Kd.at_string hr0 i (by omega) (by omega)
        have hrd : rdOf ByteArray.empty l0 (i : Int) = l0[i] := by simp [rdOf, hlt]
        rw [hrd] at hcell
        cases eA
        have hcell' := (hbw.cell (World.block_lt_of_cell? w _ hcell)).trans hcell
        have hle := textsL_le l0 (i + 1)
        rw [textsL_take l0 i hlt, List.length_append, pieceL_length] at hle
        have hsz : l0[i].size ≤ 140737488355328 := by omega
        have hit : strconv_Itoa_22.f (l0[i].size : Int) = some ⟨(Lib.itoa l0[i].size).toArray⟩ := by unfold strconv_Itoa_22.f; rw [if_pos (by omega)]
        have hlt' : (i : Int) < (l0.length : Int) := by omega
        have h0 : 0 ≤ (i : Int) := by omega
        simp only [Int.toNat_natCast] at hcell'
        go_wp2_with (go_at_call 22; refine (strconv_Itoa_22.calls _ _ _ hv hit).mono ?_)
        rintro e w1 ⟨rfl, hb1⟩
        have hbd1 := builder_below hbd hb1
        have hbw1 := below_step hbw hb1
        go_wp2_with (go_at_call 21; refine (G.WriteString_any _ _ _ _ _ hbd1 (by rw [Lib.byteCells_length, ba_size]; omega) hbw1.size).mono ?_)
        rintro e w2 ⟨rfl, hbd2, hb2⟩
        have hbw2 := hbw1.trans hb2
        go_wp2_with (go_at_call 23; refine (G.WriteByte_any _ _ _ _ _ (.inr hbd2) (by rw [List.length_append, Lib.byteCells_length, strCells_len, ba_size]; omega) hbw2.size).mono ?_)
        rintro e w3 ⟨rfl, hbd3, hb3⟩
        have hbw3 := hbw2.trans hb3
        go_wp2_with (go_at_call 21; refine (G.WriteString_any _ _ _ _ _ (.inr hbd3) (by rw [List.length_append, List.length_append, Lib.byteCells_length, strCells_len, ba_size, List.length_singleton]; omega) hbw3.size).mono ?_)
        rintro e w4 ⟨rfl, hbd4, hb4⟩
        have hbw4 := hbw3.trans hb4
        go_wp2
        go_roundg (gk - 1)
        case measure => omega
        case rel =>
          refine ⟨i + 1, by omega, by simp, ?_, hbw4⟩
          rw [textsL_take l0 i hlt]
          have e1 : Lib.byteCells (textsL (l0.take i) ++ pieceL l0[i]) = Lib.byteCells (textsL (l0.take i)) ++ Lib.strCells ⟨(Lib.itoa l0[i].size).toArray⟩ ++ [Value.int .u8 58] ++ Lib.strCells l0[i] := by
            simp [pieceL, Lib.byteCells, Lib.strCells]
          rw [e1]
          exact .inr hbd4
      · have hge : ¬ ((i : Int) < (l0.length : Int)) := by omega
        have ei : i = l0.length := by omega
        rw [ei, List.take_length] at hbd
        go_wp2_with (go_at_call 24; refine (Tryd.Builder_String_any _ _ _ _ hbd hbw.size).mono ?_; rintro e w1 ⟨rfl, hb1⟩)
        go_ret
        exact ⟨rfl, hbw.trans hb1⟩
  · cases h
end Go.Proofs.YtppjodchlpapdaaDoor.PB

namespace Go.Proofs.YtppjodchlpapdaaDoor.PB
open Go.RowKit Go.Sort Go.Lib Go.Proofs Go.Proofs.YtppjodchlpapdaaDoor Go.Proofs.YtppjodchlpapdaaDoorW.PrintWords
set_option linter.unusedVariables false
set_option linter.unusedSimpArgs false

def AtoiSays (s : ByteArray) (v : Int) (ev : Value) : Prop :=
  (Lib.atoiAll s.data.toList = .ok v ∧ ev = .nilIface) ∨ ((∀ u, Lib.atoiAll s.data.toList ≠ .ok u) ∧ ∃ N, ev = .iface 88 (.pointer (some ⟨N, 0, none⟩)))

theorem Atoi_calls (s : ByteArray) (hs : s.size ≤ 281474976710656) (w : World) (hV : VarsOk w) :
    Calls Tryd.prog 26 #[.string s] w fun e w' => ∃ v ev, e = .returned (.tuple #[.int .i64 v, ev]) ∧ AtoiSays s v ev ∧ Below w.heap.size w w' := by
  obtain ⟨h1, ⟨tp, p, h2⟩, ⟨tq, q, h3⟩, m, h4⟩ := hV
  cases ha : Lib.atoiAll s.data.toList with
  | ok v =>
    refine (Tryd.strconv_Atoi_ok s (by omega) v ha w).mono ?_
    rintro e w' ⟨rfl, hw⟩
    refine ⟨v, _, rfl, .inl ⟨ha, rfl⟩, ?_⟩
    rcases hw with rfl | ⟨t, rfl⟩
    · exact Below.refl _ _
    · exact Lib.bytesWorld_below w 5 t
  | range =>
    refine (Tryd.strconv_Atoi_range_var s hs ha tq q w h3).mono ?_
    rintro e w' ⟨N, rfl, _, _, hb⟩
    exact ⟨_, _, rfl, .inr ⟨(fun u hu => by rw [ha] at hu; cases hu), N, rfl⟩, hb⟩
  | _ =>
    refine (Tryd.strconv_Atoi_syntax_var s hs ha tp p w h2).mono ?_
    rintro e w' ⟨N, rfl, _, _, hb⟩
    exact ⟨_, _, rfl, .inr ⟨(fun u hu => by rw [ha] at hu; cases hu), N, rfl⟩, hb⟩

theorem Cut_calls (s sep : ByteArray) (w : World) (hs : s.size < 4294967281) (hV : VarsOk w) :
    Calls Tryd.prog 25 #[.string s, .string sep] w fun e w' => e = .returned (.tuple #[.string ⟨(Lib.cut s.data.toList sep.data.toList).1.toArray⟩, .string ⟨(Lib.cut s.data.toList sep.data.toList).2.1.toArray⟩, .bool (Lib.cut s.data.toList sep.data.toList).2.2]) ∧ Below w.heap.size w w' := by
  obtain ⟨m, h4⟩ := hV.2.2.2
  refine (Tryd.strings_Cut s sep m w hs h4).mono ?_
  rintro e w' ⟨rfl, n, rfl⟩
  exact ⟨rfl, pw_below_drewN (Below.refl _ _) _⟩

def numOf (s : ByteArray) : ByteArray := ⟨(Lib.cut s.data.toList [58]).1.toArray⟩
def tailOf (s : ByteArray) : ByteArray := ⟨(Lib.cut s.data.toList [58]).2.1.toArray⟩
def okOf (s : ByteArray) : Bool := (Lib.cut s.data.toList [58]).2.2

theorem tail_size (s : ByteArray) : (tailOf s).size ≤ s.size := by
  have h : (Lib.cut s.data.toList [58]).2.1.length ≤ s.data.toList.length := by
    unfold Lib.cut; split <;> simp
  exact Nat.le_trans (Nat.le_of_eq List.size_toArray) (Nat.le_trans h (Nat.le_of_eq Array.length_toList))
theorem num_size (s : ByteArray) : (numOf s).size ≤ s.size := by
  have h : (Lib.cut s.data.toList [58]).1.length ≤ s.data.toList.length := by
    unfold Lib.cut; split <;> simp <;> omega
  exact Nat.le_trans (Nat.le_of_eq List.size_toArray) (Nat.le_trans h (Nat.le_of_eq Array.length_toList))
theorem tail_lt (s : ByteArray) (h : okOf s = true) : (tailOf s).size < s.size := by
  have h2 : (Lib.cut s.data.toList [58]).2.1.length < s.data.toList.length := by
    unfold okOf at h
    unfold Lib.cut at h ⊢
    split at h
    · rename_i hi
      rw [if_pos hi]
      cases hl : s.data.toList with
      | nil => rw [hl] at hi; exact absurd hi (by decide)
      | cons x xs => simp only [List.length_drop, List.length_cons]; omega
    · cases h
  exact Nat.lt_of_le_of_lt (Nat.le_of_eq List.size_toArray) (Nat.lt_of_lt_of_le h2 (Nat.le_of_eq Array.length_toList))

/-- The length that a row's head names, where it is good. -/
def headOf (s : ByteArray) : Option Nat :=
  if okOf s then
    match Lib.atoiAll (numOf s).data.toList with
    | .ok n => if 0 ≤ n ∧ n ≤ (tailOf s).size ∧ Lib.itoa n = (numOf s).data.toList then some n.toNat else none
    | _ => none
  else none

def splitGo : Nat → ByteArray → List ByteArray → List ByteArray × Bool
  | 0, _, out => (out, true)
  | g + 1, rest, out =>
    if rest.size = 0 then (out, true) else
      match headOf rest with
      | none => ([], false)
      | some n => splitGo g ((tailOf rest).extract n (tailOf rest).size) (out ++ [(tailOf rest).extract 0 n])

def row_Split.f (a0 : ByteArray) : Option (List ByteArray × Bool) :=
  if a0.size < 4294967281 then some (splitGo a0.size a0 []) else none

theorem infoStr : (Tryd.prog.info? 9).map (fun i => (i.zero, i.size, i.bytes)) = some (some (.string ⟨#[]⟩), 1, 16) := by kernel_rfl

set_option maxHeartbeats 8000000 in
set_option maxRecDepth 100000 in
theorem row_Split.calls (a0 : ByteArray) (r1 : List ByteArray) (r2 : Bool) (w : World) (hV : VarsOk w) (h : row_Split.f a0 = some (r1, r2)) :
    Calls Tryd.prog 10 #[.string a0] w fun e w' => ∃ v0_ : Value, e = .returned (.tuple #[v0_, .bool r2]) ∧ Kd.R Kd.string 9 w' w.heap.size (fun _ => True) v0_ r1 ∧ Below w.heap.size w w' := by
  unfold row_Split.f at h
  split at h
  · rename_i hc
    have hres := Option.some.inj h
    clear h
    go_enter Tryd.func10, Tryd.ntmps10
    go_wp2
    go_loopg [4, 5] (a0.size) (fun g s4 s5 wx => ∃ (rest : ByteArray) (out : List ByteArray), s5 = .string rest ∧ rest.size ≤ g ∧ splitGo g rest out = (r1, r2) ∧ Kd.R Kd.string 9 wx w.heap.size (fun _ => True) s4 out ∧ Below w.heap.size w wx ∧ out.length + rest.size ≤ a0.size)
    case atStart => exact ⟨a0, [], rfl, Nat.le_refl _, hres, Kd.R_nil _ _ _ _ _, Below.refl _ _, by simp⟩
    case round =>
      obtain ⟨rest, out, rfl, hg, hgo, hR, hbw, hlen⟩ := hrel
      have hv := hV.below hbw
      obtain ⟨A4, c4, rfl⟩ := Kd.R_slice hR
      by_cases hz : rest.size = 0
      · have he : rest = ⟨#[]⟩ := by
          have h0 : rest.data.size = 0 := hz
          have h1 := Array.eq_empty_of_size_eq_zero h0
          cases rest
          simp only at h1
          rw [h1]
        subst he
        have hr : (out, true) = (r1, r2) := by
          rw [← hgo]
          cases gk <;> simp [splitGo, ByteArray.size]
        injection hr with e1 e2
        subst e1 e2
        go_wp2
        go_ret2
        exact ⟨_, rfl, hR, hbw⟩
      · have hne : rest ≠ (⟨#[]⟩ : ByteArray) := fun e => hz (by rw [e]; rfl)
        have hem : rest.toList.isEmpty = false := by
          rw [Lib.toList_data]
          cases hl : rest.data.toList with
          | nil => exact absurd (by rw [show rest.size = rest.data.toList.length from Array.length_toList.symm, hl]; rfl) hz
          | cons x xs => rfl
        obtain ⟨g, rfl⟩ : ∃ g, gk = g + 1 := ⟨gk - 1, by omega⟩
        rw [splitGo, if_neg hz] at hgo
        have hts := tail_size rest
        have hns := num_size rest
        obtain ⟨num, Hnum⟩ : ∃ x, Aside0 (x = numOf rest) := ⟨_, Aside0.mk rfl⟩
        obtain ⟨tail, Htail⟩ : ∃ x, Aside0 (x = tailOf rest) := ⟨_, Aside0.mk rfl⟩
        obtain ⟨okb, Hokb⟩ : ∃ x, Aside0 (x = okOf rest) := ⟨_, Aside0.mk rfl⟩
        have hcut : ∀ W : World, VarsOk W → Calls Tryd.prog 25 #[.string rest, .string ⟨#[58]⟩] W fun e w' => e = .returned (.tuple #[.string num, .string tail, .bool okb]) ∧ Below W.heap.size W w' := by
          rw [Hnum.out, Htail.out, Hokb.out]
          exact fun W hW => Cut_calls rest ⟨#[58]⟩ W (by omega) hW
        have hatoi : ∀ W : World, VarsOk W → Calls Tryd.prog 26 #[.string num] W fun e w' => ∃ v ev, e = .returned (.tuple #[.int .i64 v, ev]) ∧ AtoiSays num v ev ∧ Below W.heap.size W w' :=
          fun W hW => Atoi_calls num (by rw [Hnum.out]; omega) W hW
        have hgo' : splitGo (g + 1) rest out = (r1, r2) := by rw [splitGo, if_neg hz]; exact hgo
        go_wp2_with (go_at_call 25; refine (hcut _ hv).mono ?_; rintro e w1 ⟨rfl, hb1⟩)
        have hbw1 := below_step hbw hb1
        go_at_call 26
        refine (hatoi w1 (hV.below hbw1)).mono ?_
        rintro e w2 ⟨v, ev, rfl, hsay, hb2⟩
        have hbw2 := below_step hbw1 hb2
        have hR2 := Kd.R_below (Kd.R_below hR hb1) hb2
        have hbad : headOf rest = none → r1 = [] ∧ r2 = false := fun hh => by
          rw [hh] at hgo
          injection hgo with e1 e2
          exact ⟨e1.symm, e2.symm⟩
        have Hbad := Aside0.mk hbad
        have Hgo := Aside0.mk hgo
        clear hbad hgo hgo' hcut hatoi
        cases okb with
        | false =>
          have Hr := Aside0.mk (Hbad.out (by unfold headOf; rw [← Hokb.out]; rfl))
          go_wp2
          go_ret2
          obtain ⟨rfl, rfl⟩ := Hr.out
          exact ⟨_, rfl, Kd.R_nil _ _ _ _ _, hbw2⟩
        | true =>
          rcases hsay with ⟨ha, rfl⟩ | ⟨hno, N, rfl⟩
          · have hhead : headOf rest = if 0 ≤ v ∧ v ≤ tail.size ∧ Lib.itoa v = num.data.toList then some v.toNat else none := by
              unfold headOf
              rw [← Hokb.out, if_pos rfl, ← Hnum.out, ← Htail.out, ha]
            have Hhead := Aside0.mk hhead
            clear hhead ha
            have htl : tail.size ≤ 4294967281 := by rw [Htail.out]; omega
            have htl2 : tail.size < rest.size := by rw [Htail.out]; exact tail_lt rest Hokb.out.symm
            by_cases hv0 : v < 0
            · have Hr := Aside0.mk (Hbad.out (by rw [Hhead.out, if_neg]; omega))
              go_wp2
              go_ret2
              obtain ⟨rfl, rfl⟩ := Hr.out
              exact ⟨_, rfl, Kd.R_nil _ _ _ _ _, hbw2⟩
            · by_cases hv1 : (tail.size : Int) < v
              · have Hr := Aside0.mk (Hbad.out (by rw [Hhead.out, if_neg]; omega))
                go_wp2
                go_ret2
                obtain ⟨rfl, rfl⟩ := Hr.out
                exact ⟨_, rfl, Kd.R_nil _ _ _ _ _, hbw2⟩
              · obtain ⟨n, rfl⟩ : ∃ n : Nat, v = n := ⟨v.toNat, by omega⟩
                have hit : strconv_Itoa_22.f (n : Int) = some ⟨(Lib.itoa (n : Int)).toArray⟩ := by unfold strconv_Itoa_22.f; rw [if_pos (by omega)]
                have hita : ∀ W : World, VarsOk W → Calls Tryd.prog 22 #[.int .i64 (n : Int)] W fun e w' => e = .returned (.string ⟨(Lib.itoa (n : Int)).toArray⟩) ∧ Below W.heap.size W w' := fun W hW => strconv_Itoa_22.calls _ _ W hW hit
                clear hit
                obtain ⟨t, ht⟩ : ∃ t : ByteArray, t = ⟨(Lib.itoa (n : Int)).toArray⟩ := ⟨_, rfl⟩
                rw [← ht] at hita
                have Ht := Aside0.mk ht
                clear ht
                obtain ⟨b, hb⟩ : ∃ b, (t.toList == num.toList) = b := ⟨_, rfl⟩
                have hbi : b = true ↔ Lib.itoa (n : Int) = num.data.toList := by
                  rw [← hb, Lib.toList_data, Lib.toList_data, beq_iff_eq, Ht.out]
                have Hbi := Aside0.mk hbi
                clear hbi
                have hv2 := hV.below hbw2
                cases b with
                | false =>
                  have Hr := Aside0.mk (Hbad.out (by rw [Hhead.out, if_neg]; rintro ⟨_, _, h3⟩; exact absurd (Hbi.out.2 h3) (by decide)))
                  go_wp2_with (go_at_call 22; refine (hita _ hv2).mono ?_; rintro e w3 ⟨rfl, hb3⟩)
                  go_ret2
                  obtain ⟨rfl, rfl⟩ := Hr.out
                  exact ⟨_, rfl, Kd.R_nil _ _ _ _ _, below_step hbw2 hb3⟩
                | true =>
                  have hnl : n ≤ tail.size := by omega
                  have HgoN : Aside0 (splitGo g (tail.extract n tail.size) (out ++ [tail.extract 0 n]) = (r1, r2)) := Aside0.mk (by
                    have h1 := Hgo.out
                    rw [Hhead.out, if_pos ⟨by omega, by omega, Hbi.out.1 rfl⟩] at h1
                    rw [← Htail.out] at h1
                    simpa using h1)
                  have hnv : ¬ ((n : Int) < 0) := by omega
                  have hlenO : out.length ≤ 4294967281 := by omega
                  have Hlen := Aside0.mk hlen
                  clear hlen
                  go_wp2_with (go_at_call 22; refine (hita _ hv2).mono ?_)
                  rintro e w3 ⟨rfl, hb3⟩
                  have hbw3 := below_step hbw2 hb3
                  have hR3 := Kd.R_below hR2 hb3
                  go_wp2_with (at_builtin; go_must (refine Kd.R_append Kd.string (w0 := w) w.heap.size rfl (.tmp 47) (.tmp 51) 22 9 (.string ⟨#[]⟩) 16 rfl Tryd.underlying22 infoStr rfl (by decide) (by omega) (.slice A4 out.length c4) out (tail.extract 0 n) [.string (tail.extract 0 n)] (fun _ => True) (fun _ => False) rfl rfl rfl (fun _ hk => hk.elim) (fun _ _ => trivial) hR3 hbw3 (below_size hbw3) (by omega) ?_))
                  intro v5 w5 ho hb5 hg5 hat5
                  clear hg5 hat5
                  go_wp2
                  go_roundg g
                  case measure => omega
                  case rel =>
                    refine ⟨_, _, rfl, ?_, HgoN.out, ho, hb5, ?_⟩
                    · rw [ByteArray.size_extract]; omega
                    · have := Hlen.out
                      rw [ByteArray.size_extract, List.length_append, List.length_singleton]; omega
          · have Hr := Aside0.mk (Hbad.out (by
              unfold headOf
              rw [← Hokb.out, if_pos rfl, ← Hnum.out]
              cases hx : Lib.atoiAll num.data.toList with
              | ok u => exact absurd hx (hno u)
              | _ => rfl))
            clear hno
            go_wp2
            go_ret2
            obtain ⟨rfl, rfl⟩ := Hr.out
            exact ⟨_, rfl, Kd.R_nil _ _ _ _ _, hbw2⟩
  · cases h
end Go.Proofs.YtppjodchlpapdaaDoor.PB

namespace Go.Proofs.YtppjodchlpapdaaDoor.PB
open Go.RowKit Go.Sort Go.Lib Go.Proofs Go.Proofs.YtppjodchlpapdaaDoor Go.Proofs.YtppjodchlpapdaaDoorW.PrintWords
set_option linter.unusedVariables false
set_option linter.unusedSimpArgs false

/-- row.reader at block rb: the texts that are left, and whether one was bad. -/
def RdAt (B N rb : Nat) (left : List ByteArray) (bad : Bool) (w : World) : Prop :=
  B ≤ rb ∧ rb < N ∧ N ≤ w.heap.size ∧ ∃ A c, w.heap[rb]? = some (.cells #[.slice A left.length c, .bool bad] 69 (0, 0)) ∧ left.length ≤ c ∧ Kd.string.C w A left.length left ∧ (∀ ad, A = some ad → 0 < left.length → ad.block ≠ rb ∧ ad.block < N)

theorem RdAt.below {B N rb : Nat} {left : List ByteArray} {bad : Bool} {w w' : World} (h : RdAt B N rb left bad w) (hb : Below w.heap.size w w') : RdAt B N rb left bad w' := by
  obtain ⟨hB, hrN, hN, A, c, hh, hc, hC, hne⟩ := h
  exact ⟨hB, hrN, Nat.le_trans hN hb.size, A, c, (hb.block rb (Array.getElem?_eq_some_iff.1 hh).1).trans hh, hc, Kd.C_below hC hb, hne⟩

theorem add_block (a : Addr) (n : Nat) : (a.add n).block = a.block := by unfold Addr.add; split <;> rfl

theorem C_set {w : World} {A : Option Addr} {n : Nat} {xs : List ByteArray} {p : Addr} {u : Value} (h : Kd.string.C w A n xs) (hne : ∀ ad, A = some ad → 0 < n → ad.block ≠ p.block) : Kd.string.C (w.setCell p u) A n xs := by
  refine ⟨h.1, h.2.1, fun hp => ?_⟩
  obtain ⟨ad, e, hc⟩ := h.2.2 hp
  refine ⟨ad, e, fun j q hj => ?_⟩
  obtain ⟨c, h1, h2, h3⟩ := hc j q hj
  refine ⟨c, h1, h2, fun i u' hu => ?_⟩
  rw [World.cell?_setCell_other _ _ _ _ (fun hh => hne ad e hp (by have h4 := congrArg Addr.block hh; rw [add_block] at h4; exact h4.symm))]
  exact h3 i u' hu

theorem RdAt.setBad {B N rb : Nat} {left : List ByteArray} {bad : Bool} {w : World} (h : RdAt B N rb left bad w) (b : Bool) : RdAt B N rb left b (w.setCell ⟨rb, 1, none⟩ (.bool b)) := by
  obtain ⟨hB, hrN, hN, A, c, hh, hc, hC, hne⟩ := h
  exact ⟨hB, hrN, by simpa [World.setCell] using hN, A, c, blk_put hh 1 _ rfl, hc, C_set hC (fun ad h1 h2 => (hne ad h1 h2).1), hne⟩

/-- Of what was there only block rb may have turned. -/
def Only (rb : Nat) (w w' : World) : Prop := w.heap.size ≤ w'.heap.size ∧ ∀ k, k < w.heap.size → k ≠ rb → w'.heap[k]? = w.heap[k]?
theorem Only.refl (rb : Nat) (w : World) : Only rb w w := ⟨Nat.le_refl _, fun _ _ _ => rfl⟩
theorem Only.trans {rb : Nat} {w w1 w2 : World} (h : Only rb w w1) (h2 : Only rb w1 w2) : Only rb w w2 := ⟨Nat.le_trans h.1 h2.1, fun k hk hn => (h2.2 k (Nat.lt_of_lt_of_le hk h.1) hn).trans (h.2 k hk hn)⟩
theorem Only.below {rb : Nat} {w w1 w2 : World} (h : Only rb w w1) (hb : Below w1.heap.size w1 w2) : Only rb w w2 := h.trans ⟨hb.size, fun k hk _ => hb.block k hk⟩
theorem Only.set {rb : Nat} {w w1 : World} (h : Only rb w w1) (off : Nat) (u : Value) : Only rb w (w1.setCell ⟨rb, off, none⟩ u) :=
  h.trans ⟨by simp [World.setCell], fun k _ hn => Below.heap_setCell _ _ _ _ hn⟩

theorem RdAt.far {B N rb : Nat} {left : List ByteArray} {bad : Bool} {w : World} (h : RdAt B N rb left bad w) (k off : Nat) (u : Value) (hk : N ≤ k) : RdAt B N rb left bad (w.setCell ⟨k, off, none⟩ u) := by
  obtain ⟨hB, hrN, hN, A, c, hh, hc, hC, hne⟩ := h
  exact ⟨hB, hrN, by simpa [World.setCell] using hN, A, c, blk_far hh (p := ⟨k, off, none⟩) (by show rb ≠ k; omega) u, hc, C_set hC (fun ad h1 h2 => by have := (hne ad h1 h2).2; show ad.block ≠ k; omega), hne⟩

theorem infoStr1 : ∃ i, Tryd.prog.info? 9 = some i ∧ i.size = 1 := by
  obtain ⟨i, h, _, hs, _⟩ := info_parts infoStr
  exact ⟨i, h, hs⟩

set_option maxHeartbeats 1000000 in
set_option maxRecDepth 100000 in
theorem text_calls (w0 w : World) (N rb : Nat) (left : List ByteArray) (bad : Bool) (h : RdAt w0.heap.size N rb left bad w) (hb : Below w0.heap.size w0 w) :
    Calls Tryd.prog 44 #[.pointer (some ⟨rb, 0, none⟩)] w fun e w' => e = .returned (.string (left.headD ⟨#[]⟩)) ∧ RdAt w0.heap.size N rb left.tail (bad || left.isEmpty) w' ∧ Below w0.heap.size w0 w' ∧ Only rb w w' := by
  obtain ⟨hB, hrN, hN, A, c, hh, hc, hC, hne⟩ := h
  have c0 := (blk_cell hh 0).trans rfl
  have c1 := (blk_cell hh 1).trans rfl
  have f1 : w.frozen? ⟨rb, 1, none⟩ = false := blk_frozen hh 1
  have f0 : w.frozen? ⟨rb, 0, none⟩ = false := blk_frozen hh 0
  cases left with
  | nil =>
    simp only [List.length_nil] at c0
    go_enter Tryd.func44, Tryd.ntmps44
    go_wp2
    go_ret
    refine ⟨rfl, ?_, hb.setCell (p := ⟨rb, 1, none⟩) hB _, (Only.refl rb w).set _ _⟩
    rw [show (bad || List.isEmpty ([] : List ByteArray)) = true by simp]
    exact RdAt.setBad ⟨hB, hrN, hN, A, c, hh, hc, hC, hne⟩ true
  | cons s l =>
    obtain ⟨ad, eA, hcell⟩ := Kd.at_string hC 0 (by omega) (by simp)
    cases eA
    obtain ⟨i, hi, hi1⟩ := infoStr1
    have hcut := cut_from (P := Tryd.prog) 22 9 .i64 Tryd.underlying22 hi 1 hi1 (some ad) (s :: l).length c 1 (by omega) (by rw [List.length_cons]; omega)
    have hcell' : w.cell? ad = some (.string s) := by simpa [rdOf, Addr.add] using hcell
    have hpos : 0 < (s :: l).length := by simp
    have hd := Kd.C_drop (m := 1) (c := c) hC (by simp) hc
    have hd' : Kd.string.C w (if c = 1 then some ad else (some ad).map (·.add 1)) l.length l := hd
    have hcut' : ∀ W : World, (Instr.slice 22 (.slice (some ad) (l.length + 1) c) (some (.int .i64 1)) none none).run Tryd.prog W = .ok (.slice (if c = 1 then some ad else (some ad).map (·.add 1)) l.length (c - 1)) W := hcut
    have hne1 : ∀ a1, (if c = 1 then some ad else (some ad).map (·.add 1)) = some a1 → 0 < l.length → a1.block ≠ rb ∧ a1.block < N := by
      intro a1 e1 _
      have h2 := hne ad rfl hpos
      split at e1
      · cases e1; exact h2
      · cases e1; rw [add_block]; exact h2
    generalize (if c = 1 then some ad else (some ad).map (·.add 1)) = A1 at hd' hcut' hne1
    have Hd := Aside0.mk hd'
    have Hne := Aside0.mk hne1
    have Hh := Aside0.mk hh
    have hc1 : l.length ≤ c - 1 := by simp at hc; omega
    have c0' : w.cell? ⟨rb, 0, none⟩ = some (.slice (some ad) (l.length + 1) c) := c0
    clear hd hcut hne hC hcell hd' hne1 hh c0
    go_enter Tryd.func44, Tryd.ntmps44
    go_wp2
    go_ret
    refine ⟨rfl, ?_, hb.setCell (p := ⟨rb, 0, none⟩) hB _, (Only.refl rb w).set _ _⟩
    rw [show (bad || List.isEmpty (s :: l)) = bad by simp]
    exact ⟨hB, hrN, by simpa [World.setCell] using hN, A1, c - 1, blk_put Hh.out 0 _ rfl, hc1, C_set Hd.out (fun ad h1 h2 => (Hne.out ad h1 h2).1), Hne.out⟩

/-- What a text spells as a number of base 10, in an int. -/
def numV (s : ByteArray) : Option Int := match Lib.atoiAll s.data.toList with | .ok v => some v | _ => none

theorem AtoiSays.some {s : ByteArray} {v : Int} {ev : Value} (h : AtoiSays s v ev) : (ev = .nilIface ∧ numV s = some v) ∨ ((∃ N, ev = .iface 88 (.pointer (some ⟨N, 0, none⟩))) ∧ numV s = none) := by
  rcases h with ⟨h1, h2⟩ | ⟨h1, h2⟩
  · exact .inl ⟨h2, by unfold numV; rw [h1]⟩
  · refine .inr ⟨h2, ?_⟩
    unfold numV
    cases hx : Lib.atoiAll s.data.toList with
    | ok u => exact absurd hx (h1 u)
    | _ => rfl

def headV (left : List ByteArray) : ByteArray := left.headD ⟨#[]⟩
def badNum (left : List ByteArray) (bad : Bool) : Bool := (bad || left.isEmpty) || (numV (headV left)).isNone

set_option maxHeartbeats 1000000 in
set_option maxRecDepth 100000 in
theorem num_calls (w0 w : World) (hV : VarsOk w0) (N rb : Nat) (left : List ByteArray) (bad : Bool) (hs : (headV left).size ≤ 281474976710656) (h : RdAt w0.heap.size N rb left bad w) (hb : Below w0.heap.size w0 w) :
    Calls Tryd.prog 33 #[.pointer (some ⟨rb, 0, none⟩)] w fun e w' => ∃ v, e = .returned (.int .i64 v) ∧ (badNum left bad = false → numV (headV left) = some v) ∧ RdAt w0.heap.size N rb left.tail (badNum left bad) w' ∧ Below w0.heap.size w0 w' ∧ Only rb w w' := by
  have ht := text_calls w0 w N rb left bad h hb
  have ha : ∀ W : World, VarsOk W → Calls Tryd.prog 26 #[.string (headV left)] W fun e w' => ∃ v ev, e = .returned (.tuple #[.int .i64 v, ev]) ∧ AtoiSays (headV left) v ev ∧ Below W.heap.size W w' := fun W hW => Atoi_calls _ hs W hW
  rw [show left.headD ⟨#[]⟩ = headV left from rfl] at ht
  obtain ⟨s, hsx⟩ : ∃ s, s = headV left := ⟨_, rfl⟩
  obtain ⟨b1, hb1x⟩ : ∃ b1, b1 = (bad || left.isEmpty) := ⟨_, rfl⟩
  have hbn : badNum left bad = (b1 || (numV s).isNone) := by rw [hb1x, hsx]; rfl
  rw [← hsx, hbn]
  rw [← hsx, ← hb1x] at ht
  rw [← hsx] at ha
  clear hs h hbn
  have Hx := Aside0.mk hsx
  have Hy := Aside0.mk hb1x
  clear hsx hb1x
  go_enter Tryd.func33, Tryd.ntmps33
  go_wp2_with (go_at_call 44; refine ht.mono ?_)
  rintro e w1 ⟨rfl, hr1, hbw1, ho1⟩
  have hv1 := hV.below hbw1
  go_wp2_with (go_at_call 26; refine (ha _ hv1).mono ?_)
  rintro e w2 ⟨v, ev, rfl, hsay, hb2⟩
  have hr2 := hr1.below hb2
  have hbw2 := below_step hbw1 hb2
  have Hr2 := Aside0.mk hr2
  have Ho2 := Aside0.mk (ho1.below hb2)
  clear ho1
  obtain ⟨hB, hrN, hN, A, c, hh, hc, hC, hne⟩ := hr2
  have c1 : w2.cell? ⟨rb, 1, none⟩ = some (.bool b1) := (blk_cell hh 1).trans rfl
  have f1 : w2.frozen? ⟨rb, 1, none⟩ = false := blk_frozen hh 1
  clear ht ha hr1 hh hC hne hc
  rcases hsay.some with ⟨rfl, hn⟩ | ⟨⟨N, rfl⟩, hn⟩
  · have Hn := Aside0.mk hn
    clear hn hsay
    cases b1 with
    | false =>
      go_wp2
      go_ret
      exact ⟨v, rfl, fun _ => Hn.out, by rw [Hn.out]; exact Hr2.out.setBad _, hbw2.setCell (p := ⟨rb, 1, none⟩) hB _, Ho2.out.set _ _⟩
    | true =>
      go_wp2
      go_ret
      exact ⟨v, rfl, fun _ => Hn.out, by rw [Hn.out]; exact Hr2.out.setBad _, hbw2.setCell (p := ⟨rb, 1, none⟩) hB _, Ho2.out.set _ _⟩
  · have Hn := Aside0.mk hn
    clear hn hsay
    cases b1 with
    | false =>
      go_wp2
      go_ret
      exact ⟨v, rfl, fun h => (by rw [Hn.out] at h; cases h), by rw [Hn.out]; exact Hr2.out.setBad _, hbw2.setCell (p := ⟨rb, 1, none⟩) hB _, Ho2.out.set _ _⟩
    | true =>
      go_wp2
      go_ret
      exact ⟨v, rfl, fun h => (by rw [Hn.out] at h; cases h), by rw [Hn.out]; exact Hr2.out.setBad _, hbw2.setCell (p := ⟨rb, 1, none⟩) hB _, Ho2.out.set _ _⟩

end Go.Proofs.YtppjodchlpapdaaDoor.PB

namespace Go.Proofs.YtppjodchlpapdaaDoor.PB
open Go.RowKit Go.Sort Go.Lib Go.Proofs Go.Proofs.YtppjodchlpapdaaDoor Go.Proofs.YtppjodchlpapdaaDoorW.PrintWords
set_option linter.unusedVariables false
set_option linter.unusedSimpArgs false

/-- What a text spells as an address: a number of base 10 below 2^32. -/
def addrV (s : ByteArray) : Option Int := match Lib.parseUintB 32 s.data.toList with | .ok v => some (v : Int) | _ => none

theorem Uint_calls (s : ByteArray) (hs : s.size ≤ 281474976710656) (w : World) (hV : VarsOk w) :
    Calls Tryd.prog 43 #[.string s, .int .i64 10, .int .i64 32] w fun e w' => ∃ (v : Nat) (ev : Value), e = .returned (.tuple #[.int .u64 v, ev]) ∧ v ≤ 4294967295 ∧ ((ev = .nilIface ∧ addrV s = some (v : Int)) ∨ ((∃ N, ev = .iface 88 (.pointer (some ⟨N, 0, none⟩))) ∧ addrV s = none)) ∧ Below w.heap.size w w' := by
  obtain ⟨h1, ⟨tp, p, h2⟩, ⟨tq, q, h3⟩, m, h4⟩ := hV
  cases ha : Lib.parseUintB 32 s.data.toList with
  | ok v =>
    have hv : v ≤ 4294967295 := Lib.parseUintB_le ha
    refine (Tryd.strconv_ParseUint_10_at32_ok s (Nat.le_trans hs (by decide)) v ha w).mono ?_
    rintro e w' ⟨rfl, hw⟩
    refine ⟨v, _, rfl, hv, .inl ⟨rfl, by unfold addrV; rw [ha]⟩, ?_⟩
    rcases hw with rfl | rfl
    · exact Below.refl _ _
    · exact Lib.bytesWorld_below w 5 s
  | range =>
    refine (Tryd.strconv_ParseUint_10_at32_range_var s hs ha tq q w h3).mono ?_
    rintro e w' ⟨N, rfl, _, _, hb⟩
    exact ⟨4294967295, _, rfl, Nat.le_refl _, .inr ⟨⟨N, rfl⟩, by unfold addrV; rw [ha]⟩, hb⟩
  | _ =>
    refine (Tryd.strconv_ParseUint_10_at32_syntax_var s hs ha tp p w h2).mono ?_
    rintro e w' ⟨N, rfl, _, _, hb⟩
    exact ⟨0, _, rfl, Nat.zero_le _, .inr ⟨⟨N, rfl⟩, by unfold addrV; rw [ha]⟩, hb⟩

def badAddr (left : List ByteArray) (bad : Bool) : Bool := (bad || left.isEmpty) || (addrV (headV left)).isNone

set_option maxHeartbeats 1000000 in
set_option maxRecDepth 100000 in
theorem addr_calls (w0 w : World) (hV : VarsOk w0) (N rb : Nat) (left : List ByteArray) (bad : Bool) (hs : (headV left).size ≤ 281474976710656) (h : RdAt w0.heap.size N rb left bad w) (hb : Below w0.heap.size w0 w) :
    Calls Tryd.prog 32 #[.pointer (some ⟨rb, 0, none⟩)] w fun e w' => ∃ v : Int, e = .returned (.int .u32 v) ∧ (badAddr left bad = false → addrV (headV left) = some v) ∧ RdAt w0.heap.size N rb left.tail (badAddr left bad) w' ∧ Below w0.heap.size w0 w' ∧ Only rb w w' := by
  have ht := text_calls w0 w N rb left bad h hb
  have ha := fun (W : World) (hW : VarsOk W) => Uint_calls (headV left) hs W hW
  rw [show left.headD ⟨#[]⟩ = headV left from rfl] at ht
  obtain ⟨s, hsx⟩ : ∃ s, s = headV left := ⟨_, rfl⟩
  obtain ⟨b1, hb1x⟩ : ∃ b1, b1 = (bad || left.isEmpty) := ⟨_, rfl⟩
  have hbn : badAddr left bad = (b1 || (addrV s).isNone) := by rw [hb1x, hsx]; rfl
  rw [← hsx, hbn]
  rw [← hsx, ← hb1x] at ht
  rw [← hsx] at ha
  clear hs h hbn
  have Hx := Aside0.mk hsx
  have Hy := Aside0.mk hb1x
  clear hsx hb1x
  go_enter Tryd.func32, Tryd.ntmps32
  go_wp2_with (go_at_call 44; refine ht.mono ?_)
  rintro e w1 ⟨rfl, hr1, hbw1, ho1⟩
  have hv1 := hV.below hbw1
  go_wp2_with (go_at_call 43; refine (ha _ hv1).mono ?_)
  rintro e w2 ⟨v, ev, rfl, hvle, hsay, hb2⟩
  have hw : IntKind.u32.wrap (v : Int) = (v : Int) := by rw [IntKind.wrap_u32]; omega
  have hr2 := hr1.below hb2
  have hbw2 := below_step hbw1 hb2
  have Hr2 := Aside0.mk hr2
  have Ho2 := Aside0.mk (ho1.below hb2)
  clear ho1
  obtain ⟨hB, hrN, hN, A, c, hh, hc, hC, hne⟩ := hr2
  have c1 : w2.cell? ⟨rb, 1, none⟩ = some (.bool b1) := (blk_cell hh 1).trans rfl
  have f1 : w2.frozen? ⟨rb, 1, none⟩ = false := blk_frozen hh 1
  clear ht ha hr1 hh hC hne hc
  rcases hsay with ⟨rfl, hn⟩ | ⟨⟨N, rfl⟩, hn⟩
  · have Hn := Aside0.mk hn
    clear hn
    cases b1 with
    | false =>
      go_wp2
      go_ret
      exact ⟨v, rfl, fun _ => Hn.out, by rw [Hn.out]; exact Hr2.out.setBad _, hbw2.setCell (p := ⟨rb, 1, none⟩) hB _, Ho2.out.set _ _⟩
    | true =>
      go_wp2
      go_ret
      exact ⟨v, rfl, fun _ => Hn.out, by rw [Hn.out]; exact Hr2.out.setBad _, hbw2.setCell (p := ⟨rb, 1, none⟩) hB _, Ho2.out.set _ _⟩
  · have Hn := Aside0.mk hn
    clear hn
    cases b1 with
    | false =>
      go_wp2
      go_ret
      exact ⟨v, rfl, fun h => (by rw [Hn.out] at h; cases h), by rw [Hn.out]; exact Hr2.out.setBad _, hbw2.setCell (p := ⟨rb, 1, none⟩) hB _, Ho2.out.set _ _⟩
    | true =>
      go_wp2
      go_ret
      exact ⟨v, rfl, fun h => (by rw [Hn.out] at h; cases h), by rw [Hn.out]; exact Hr2.out.setBad _, hbw2.setCell (p := ⟨rb, 1, none⟩) hB _, Ho2.out.set _ _⟩

set_option maxHeartbeats 1000000 in
set_option maxRecDepth 100000 in
theorem prefix_calls (w0 w : World) (hV : VarsOk w0) (N rb : Nat) (left : List ByteArray) (bad : Bool) (hs : ∀ s ∈ left, s.size ≤ 281474976710656) (h : RdAt w0.heap.size N rb left bad w) (hb : Below w0.heap.size w0 w) :
    Calls Tryd.prog 31 #[.pointer (some ⟨rb, 0, none⟩)] w fun e w' => ∃ v u : Int, e = .returned (.agg #[.int .u32 v, .int .i64 u]) ∧ (badNum left.tail (badAddr left bad) = false → addrV (headV left) = some v ∧ numV (headV left.tail) = some u) ∧ RdAt w0.heap.size N rb left.tail.tail (badNum left.tail (badAddr left bad)) w' ∧ Below w0.heap.size w0 w' ∧ Only rb w w' := by
  have hh : ∀ l : List ByteArray, (∀ s ∈ l, s.size ≤ 281474976710656) → (headV l).size ≤ 281474976710656 := fun l hl => by
    cases l with
    | nil => exact Nat.zero_le _
    | cons a l => exact hl a (List.mem_cons_self)
  have hs1 := hh left hs
  have hs2 := hh left.tail (fun s hs' => hs s (List.mem_of_mem_tail hs'))
  have hbt := h.1
  have hr0 := h.below (Below.refl _ _)
  have hp : Aside0 (∀ W, RdAt w0.heap.size N rb left bad W → Below w0.heap.size w0 W → _) := Aside0.mk (fun W => addr_calls w0 W hV N rb left bad hs1)
  have hq : Aside0 (∀ W, RdAt w0.heap.size N rb left.tail (badAddr left bad) W → Below w0.heap.size w0 W → _) := Aside0.mk (fun W => num_calls w0 W hV N rb left.tail (badAddr left bad) hs2)
  have hsz : w0.heap.size ≤ w.heap.size := hb.size
  clear hh hs hs1 hs2 hr0
  go_enter Tryd.func31, Tryd.ntmps31
  have hrb : rb < w.heap.size := by
    exact Nat.lt_of_lt_of_le h.2.1 h.2.2.1
  go_wp2_with (go_at_call 32; refine (hp.out _ (h.below (below_alloc (Below.refl _ _) _)) (below_alloc hb _)).mono ?_)
  rintro e w1 ⟨v, rfl, hv1, hr1, hbw1, ho1⟩
  go_wp2_with (go_at_call 33; refine (hq.out _ hr1 hbw1).mono ?_)
  rintro e w2 ⟨u, rfl, hv2, hr2, hbw2, ho2⟩
  have ho := ho1.trans ho2
  have hbk : w2.heap[w.heap.size]? = some (.cells #[.int .u32 0, .int .i64 0] 33 (0, 0)) := by
    rw [ho.2 w.heap.size (by simp) (by omega)]
    exact blk_new w _
  have c0 := (blk_cell hbk 0).trans rfl
  have c1 := (blk_cell hbk 1).trans rfl
  have f0 := blk_frozen hbk 0
  have f1 := blk_frozen hbk 1
  have hN := h.2.2.1
  have Hr2 := Aside0.mk hr2
  have Hbw := Aside0.mk hbw2
  have Ho := Aside0.mk ho
  have Hbk := Aside0.mk hbk
  clear hr1 hbw1 ho1 hr2 hbw2 ho2 ho hbk
  go_wp2
  refine bodyPost_ret (results_cell_row rfl _ _ w.heap.size 33 #[.int .u32 v, .int .i64 u] (0, 0) _ rfl (blk_put (cs := #[.int .u32 v, .int .i64 0]) (blk_put (cs := #[.int .u32 0, .int .i64 0]) Hbk.out 0 _ rfl) 1 _ rfl) Tryd.underlying33 rfl (by kernel_rfl)) rfl ?_
  refine ⟨v, u, rfl, fun hb0 => ?_, (Hr2.out.far _ 0 _ hN).far _ 1 _ hN, (Hbw.out.setCell (p := ⟨w.heap.size, 0, none⟩) hsz _).setCell (p := ⟨w.heap.size, 1, none⟩) hsz _, ?_⟩
  · have hb1 : badAddr left bad = false := by
      cases hx : badAddr left bad with
      | false => rfl
      | true => rw [hx] at hb0; simp [badNum] at hb0
    exact ⟨hv1 hb1, hv2 hb0⟩
  · refine ⟨by have := Ho.out.1; simp [World.setCell]; simp at this; omega, fun k hk hn => ?_⟩
    rw [Below.heap_setCell _ _ _ _ (show k ≠ w.heap.size by omega), Below.heap_setCell _ _ _ _ (show k ≠ w.heap.size by omega), Ho.out.2 k (by simp; omega) hn]
    exact Below.heap_alloc _ _ _ hk
end Go.Proofs.YtppjodchlpapdaaDoor.PB

namespace Go.Proofs.YtppjodchlpapdaaDoor.PB
open Go.RowKit Go.Sort Go.Lib Go.Proofs Go.Proofs.YtppjodchlpapdaaDoor Go.Proofs.YtppjodchlpapdaaDoorW.PrintWords
set_option linter.unusedVariables false
set_option linter.unusedSimpArgs false

def openBad (ok : Bool) (len : Nat) (n : Int) : Bool := !ok || (decide (0 < n) && !decide ((len : Int) = n))

set_option maxHeartbeats 1000000 in
set_option maxRecDepth 100000 in
theorem open_calls (s : ByteArray) (n : Int) (hs : s.size < 4294967281) (w : World) (hV : VarsOk w) :
    Calls Tryd.prog 30 #[.string s, .int .i64 n] w fun e w' => ∃ rb, e = .returned (.pointer (some ⟨rb, 0, none⟩)) ∧ (∃ N, RdAt w.heap.size N rb (splitGo s.size s []).1 (openBad (splitGo s.size s []).2 (splitGo s.size s []).1.length n) w') ∧ Below w.heap.size w w' := by
  obtain ⟨l, ok, hl⟩ : ∃ l ok, splitGo s.size s [] = (l, ok) := ⟨_, _, rfl⟩
  have hsp := row_Split.calls s l ok w hV (by unfold row_Split.f; rw [if_pos hs, hl])
  rw [hl]
  clear hs hl
  go_enter Tryd.func30, Tryd.ntmps30
  go_wp2_with (go_at_call 10; refine hsp.mono ?_)
  rintro e w1 ⟨v0, rfl, hR, hb1⟩
  obtain ⟨A, c, rfl, hc, hC⟩ := Kd.R_reads hR
  have hne : ∀ ad, A = some ad → 0 < l.length → ad.block < w1.heap.size := fun ad e hp => by
    obtain ⟨ad', e', hcell⟩ := Kd.at_string hC 0 (by omega) (by omega)
    have e2 := e.symm.trans e'
    injection e2 with e2
    subst e2
    have := World.block_lt_of_cell? _ _ hcell
    rwa [add_block] at this
  have hend : ∀ b, RdAt w.heap.size (w1.heap.size + 1) w1.heap.size l b (w1.alloc (.cells #[.slice A l.length c, .bool b] 69 (0, 0))) := fun b =>
    ⟨hb1.size, by omega, Nat.le_of_eq (by rw [World.alloc]; exact (Array.size_push _).symm), A, c, blk_new w1 _, hc, Kd.C_alloc hC _, fun ad h1 h2 => by have := hne ad h1 h2; omega⟩
  have Hend := Aside0.mk hend
  have Hb := Aside0.mk (fun o => below_alloc hb1 o)
  clear hsp hR hC hne hend hc hb1
  cases ok with
  | false =>
    go_wp2
    go_ret
    exact ⟨_, rfl, ⟨_, Hend.out _⟩, Hb.out _⟩
  | true =>
    by_cases hn : 0 < n
    · by_cases hl : (l.length : Int) = n
      · have hq : openBad true l.length n = false := by simp [openBad, hn, hl]
        have Hq := Aside0.mk hq
        clear hq
        go_wp2
        go_ret
        exact ⟨_, rfl, ⟨_, by rw [Hq.out]; exact Hend.out _⟩, Hb.out _⟩
      · have hbn : ((l.length : Int) != n) = true := by rw [bne_iff_ne]; exact hl
        have Hbn := Aside0.mk hbn
        clear hbn
        have hq : openBad true l.length n = true := by simp [openBad, hn, hl]
        have Hq := Aside0.mk hq
        clear hq
        go_wp2
        go_ret
        exact ⟨_, rfl, ⟨_, by rw [Hq.out, Hbn.out]; exact Hend.out _⟩, Hb.out _⟩
    · have hq : openBad true l.length n = false := by simp [openBad, hn]
      have Hq := Aside0.mk hq
      clear hq
      go_wp2
      go_ret
      exact ⟨_, rfl, ⟨_, by rw [Hq.out]; exact Hend.out _⟩, Hb.out _⟩

end Go.Proofs.YtppjodchlpapdaaDoor.PB

-- By a program of this session (printx.py), out of Lean's own print of the translation. Not trusted: Lean checks it.
namespace Go.Proofs.YtppjodchlpapdaaDoor.PB
open Go.RowKit Go.Proofs.YtppjodchlpapdaaDoorW.PrintWords Go.Proofs.YtppjodchlpapdaaDoorW.PrintLast Go.Proofs.YtppjodchlpapdaaDoorW.PrintMore
attribute [local go_sem] max2_int min2_int max_two min_two max_three min_three max_four min_four   -- for this text's walks alone
set_option linter.unusedVariables false
set_option linter.unusedSimpArgs false



def errW : Option Int → Value
  | none => .nilIface
  | some c => .iface 85 (.int .i64 c)
theorem errW_none : errW none = .nilIface := rfl
theorem errW_some (c : Int) : errW (some c) = .iface 85 (.int .i64 c) := rfl

theorem info5 : (Tryd.prog.info? 5).map (fun i => (i.zero, i.size, i.bytes)) = some (some (.int .u8 0), 1, 1) := by kernel_rfl
theorem info9 : (Tryd.prog.info? 9).map (fun i => (i.zero, i.size, i.bytes)) = some (some (.string ⟨#[]⟩), 1, 16) := by kernel_rfl
theorem info72 : (Tryd.prog.info? 72).map (fun i => (i.zero, i.size, i.bytes)) = some (some (.agg #[(.int .u32 0), (.int .i64 0), (.int .i64 0), (.int .i64 0), (.bool false), (.int .i64 0)]), 6, 48) := by kernel_rfl
-- the values' own types
def rd_L3 (xs : List (List ByteArray)) (i : Int) : (List ByteArray) := xs.getD i.toNat ([] : List ByteArray)
theorem at_L3 {w : World} {A : Option Addr} {n : Nat} {xs : List (List ByteArray)} (h : Kd.C (Kd.slice 9 Kd.string) w A n xs) (i : Int) (h0 : 0 ≤ i) (h1 : i < n) : ∃ ad A0 c0, A = some ad ∧ w.cell? (ad.add i.toNat) = some (.slice A0 (rd_L3 xs i).length c0) ∧ (rd_L3 xs i).length ≤ c0 ∧ Kd.string.C w A0 (rd_L3 xs i).length (rd_L3 xs i) := by
  obtain ⟨ad, c, e, _, hK, hc0⟩ := Kd.C_get h ([] : List ByteArray) i h0 h1
  have hc : ∀ j u, c[j]? = some u → w.cell? (ad.add (i.toNat * 1 + j)) = some u := hc0
  obtain ⟨A0, c0, rfl, l0, g0⟩ := hK
  exact ⟨ad, A0, c0, e, by have hq := hc 0 _ rfl; rwa [Nat.mul_one, Nat.add_zero] at hq, l0, g0⟩

/-! #### struct type 33 -/
structure S33 where
  f0 : Int
  f1 : Int
def z33 : S33 := ⟨(0 : Int), (0 : Int)⟩
def k33 : Kd S33 := Kd.iso (Kd.pair (Kd.int .u32) (Kd.int .i64)) (fun x : S33 => (x.f0, x.f1))
theorem k33_open {w : World} {x : S33} {cs : List Value} (h : k33.K w x cs) : cs = [.int .u32 x.f0, .int .i64 x.f1] := by
  obtain ⟨_, _, rfl, rfl, rfl⟩ := h
  exact rfl
theorem k33_openM {w : World} {base : Nat} {ok : Nat → Prop} {x : S33} {cs : List Value} (h : k33.M w base ok x cs) : cs = [.int .u32 x.f0, .int .i64 x.f1] := by
  obtain ⟨_, _, rfl, rfl, rfl⟩ := h
  exact rfl
theorem k33_mk (w : World) (x : S33)  : k33.K w x [.int .u32 x.f0, .int .i64 x.f1] := ⟨[.int .u32 x.f0], [.int .i64 x.f1], rfl, rfl, rfl⟩
theorem k33_mkM (w : World) (base : Nat) (ok : Nat → Prop) (x : S33)  : k33.M w base ok x [.int .u32 x.f0, .int .i64 x.f1] := ⟨[.int .u32 x.f0], [.int .i64 x.f1], rfl, rfl, rfl⟩
def rd_T33 (xs : List S33) (i : Int) : S33 := xs.getD i.toNat z33
theorem at_T33 {w : World} {A : Option Addr} {n : Nat} {xs : List S33} (h : Kd.C k33 w A n xs) (i : Int) (h0 : 0 ≤ i) (h1 : i < n) : ∃ ad , A = some ad ∧ w.cell? (ad.add (i.toNat * 2)) = some (.int .u32 (rd_T33 xs i).f0) ∧ w.cell? ⟨(ad.add (i.toNat * 2)).block, (ad.add (i.toNat * 2)).off + 1, none⟩ = some (.int .i64 (rd_T33 xs i).f1) := by
  obtain ⟨ad, c, e, _, hK, hc0⟩ := Kd.C_get h z33 i h0 h1
  have hc : ∀ j u, c[j]? = some u → w.cell? (ad.add (i.toNat * 2 + j)) = some u := hc0
  obtain rfl := k33_open hK
  exact ⟨ad, e, hc 0 _ rfl, by rw [← add_field _ _ 1 (by omega)]; exact hc 1 _ rfl⟩

/-! #### struct type 35 -/
structure S35 where
  f0 : S33
  f1 : Int
  f2 : Int
  f3 : Int
def z35 : S35 := ⟨z33, (0 : Int), (0 : Int), (0 : Int)⟩
def k35 : Kd S35 := Kd.iso (Kd.pair k33 (Kd.pair (Kd.int .u32) (Kd.pair (Kd.int .i64) (Kd.int .i64)))) (fun x : S35 => (x.f0, x.f1, x.f2, x.f3))
theorem k35_open {w : World} {x : S35} {cs : List Value} (h : k35.K w x cs) : cs = [.int .u32 x.f0.f0, .int .i64 x.f0.f1, .int .u32 x.f1, .int .i64 x.f2, .int .i64 x.f3] := by
  obtain ⟨_, _, rfl, s0, ⟨_, _, rfl, rfl, ⟨_, _, rfl, rfl, rfl⟩⟩⟩ := h
  obtain rfl := k33_open s0
  exact rfl
theorem k35_openM {w : World} {base : Nat} {ok : Nat → Prop} {x : S35} {cs : List Value} (h : k35.M w base ok x cs) : cs = [.int .u32 x.f0.f0, .int .i64 x.f0.f1, .int .u32 x.f1, .int .i64 x.f2, .int .i64 x.f3] := by
  obtain ⟨_, _, rfl, s0, ⟨_, _, rfl, rfl, ⟨_, _, rfl, rfl, rfl⟩⟩⟩ := h
  obtain rfl := k33_openM s0
  exact rfl
theorem k35_mk (w : World) (x : S35)  : k35.K w x [.int .u32 x.f0.f0, .int .i64 x.f0.f1, .int .u32 x.f1, .int .i64 x.f2, .int .i64 x.f3] := ⟨[.int .u32 x.f0.f0, .int .i64 x.f0.f1], [.int .u32 x.f1, .int .i64 x.f2, .int .i64 x.f3], rfl, (k33_mk w x.f0 ), ⟨[.int .u32 x.f1], [.int .i64 x.f2, .int .i64 x.f3], rfl, rfl, ⟨[.int .i64 x.f2], [.int .i64 x.f3], rfl, rfl, rfl⟩⟩⟩
theorem k35_mkM (w : World) (base : Nat) (ok : Nat → Prop) (x : S35)  : k35.M w base ok x [.int .u32 x.f0.f0, .int .i64 x.f0.f1, .int .u32 x.f1, .int .i64 x.f2, .int .i64 x.f3] := ⟨[.int .u32 x.f0.f0, .int .i64 x.f0.f1], [.int .u32 x.f1, .int .i64 x.f2, .int .i64 x.f3], rfl, (k33_mkM w base ok x.f0 ), ⟨[.int .u32 x.f1], [.int .i64 x.f2, .int .i64 x.f3], rfl, rfl, ⟨[.int .i64 x.f2], [.int .i64 x.f3], rfl, rfl, rfl⟩⟩⟩
def rd_T35 (xs : List S35) (i : Int) : S35 := xs.getD i.toNat z35
theorem at_T35 {w : World} {A : Option Addr} {n : Nat} {xs : List S35} (h : Kd.C k35 w A n xs) (i : Int) (h0 : 0 ≤ i) (h1 : i < n) : ∃ ad , A = some ad ∧ w.cell? (ad.add (i.toNat * 5)) = some (.int .u32 (rd_T35 xs i).f0.f0) ∧ w.cell? ⟨(ad.add (i.toNat * 5)).block, (ad.add (i.toNat * 5)).off + 1, none⟩ = some (.int .i64 (rd_T35 xs i).f0.f1) ∧ w.cell? ⟨(ad.add (i.toNat * 5)).block, (ad.add (i.toNat * 5)).off + 2, none⟩ = some (.int .u32 (rd_T35 xs i).f1) ∧ w.cell? ⟨(ad.add (i.toNat * 5)).block, (ad.add (i.toNat * 5)).off + 3, none⟩ = some (.int .i64 (rd_T35 xs i).f2) ∧ w.cell? ⟨(ad.add (i.toNat * 5)).block, (ad.add (i.toNat * 5)).off + 4, none⟩ = some (.int .i64 (rd_T35 xs i).f3) := by
  obtain ⟨ad, c, e, _, hK, hc0⟩ := Kd.C_get h z35 i h0 h1
  have hc : ∀ j u, c[j]? = some u → w.cell? (ad.add (i.toNat * 5 + j)) = some u := hc0
  obtain rfl := k35_open hK
  exact ⟨ad, e, hc 0 _ rfl, by rw [← add_field _ _ 1 (by omega)]; exact hc 1 _ rfl, by rw [← add_field _ _ 2 (by omega)]; exact hc 2 _ rfl, by rw [← add_field _ _ 3 (by omega)]; exact hc 3 _ rfl, by rw [← add_field _ _ 4 (by omega)]; exact hc 4 _ rfl⟩

/-! #### struct type 72 -/
structure S72 where
  f0 : S33
  f1 : Int
  f2 : Int
  f3 : Bool
  f4 : Int
def z72 : S72 := ⟨z33, (0 : Int), (0 : Int), false, (0 : Int)⟩
def k72 : Kd S72 := Kd.iso (Kd.pair k33 (Kd.pair (Kd.int .i64) (Kd.pair (Kd.int .i64) (Kd.pair Kd.bool (Kd.int .i64))))) (fun x : S72 => (x.f0, x.f1, x.f2, x.f3, x.f4))
theorem k72_open {w : World} {x : S72} {cs : List Value} (h : k72.K w x cs) : cs = [.int .u32 x.f0.f0, .int .i64 x.f0.f1, .int .i64 x.f1, .int .i64 x.f2, .bool x.f3, .int .i64 x.f4] := by
  obtain ⟨_, _, rfl, s0, ⟨_, _, rfl, rfl, ⟨_, _, rfl, rfl, ⟨_, _, rfl, rfl, rfl⟩⟩⟩⟩ := h
  obtain rfl := k33_open s0
  exact rfl
theorem k72_openM {w : World} {base : Nat} {ok : Nat → Prop} {x : S72} {cs : List Value} (h : k72.M w base ok x cs) : cs = [.int .u32 x.f0.f0, .int .i64 x.f0.f1, .int .i64 x.f1, .int .i64 x.f2, .bool x.f3, .int .i64 x.f4] := by
  obtain ⟨_, _, rfl, s0, ⟨_, _, rfl, rfl, ⟨_, _, rfl, rfl, ⟨_, _, rfl, rfl, rfl⟩⟩⟩⟩ := h
  obtain rfl := k33_openM s0
  exact rfl
theorem k72_mk (w : World) (x : S72)  : k72.K w x [.int .u32 x.f0.f0, .int .i64 x.f0.f1, .int .i64 x.f1, .int .i64 x.f2, .bool x.f3, .int .i64 x.f4] := ⟨[.int .u32 x.f0.f0, .int .i64 x.f0.f1], [.int .i64 x.f1, .int .i64 x.f2, .bool x.f3, .int .i64 x.f4], rfl, (k33_mk w x.f0 ), ⟨[.int .i64 x.f1], [.int .i64 x.f2, .bool x.f3, .int .i64 x.f4], rfl, rfl, ⟨[.int .i64 x.f2], [.bool x.f3, .int .i64 x.f4], rfl, rfl, ⟨[.bool x.f3], [.int .i64 x.f4], rfl, rfl, rfl⟩⟩⟩⟩
theorem k72_mkM (w : World) (base : Nat) (ok : Nat → Prop) (x : S72)  : k72.M w base ok x [.int .u32 x.f0.f0, .int .i64 x.f0.f1, .int .i64 x.f1, .int .i64 x.f2, .bool x.f3, .int .i64 x.f4] := ⟨[.int .u32 x.f0.f0, .int .i64 x.f0.f1], [.int .i64 x.f1, .int .i64 x.f2, .bool x.f3, .int .i64 x.f4], rfl, (k33_mkM w base ok x.f0 ), ⟨[.int .i64 x.f1], [.int .i64 x.f2, .bool x.f3, .int .i64 x.f4], rfl, rfl, ⟨[.int .i64 x.f2], [.bool x.f3, .int .i64 x.f4], rfl, rfl, ⟨[.bool x.f3], [.int .i64 x.f4], rfl, rfl, rfl⟩⟩⟩⟩
def rd_T72 (xs : List S72) (i : Int) : S72 := xs.getD i.toNat z72
theorem at_T72 {w : World} {A : Option Addr} {n : Nat} {xs : List S72} (h : Kd.C k72 w A n xs) (i : Int) (h0 : 0 ≤ i) (h1 : i < n) : ∃ ad , A = some ad ∧ w.cell? (ad.add (i.toNat * 6)) = some (.int .u32 (rd_T72 xs i).f0.f0) ∧ w.cell? ⟨(ad.add (i.toNat * 6)).block, (ad.add (i.toNat * 6)).off + 1, none⟩ = some (.int .i64 (rd_T72 xs i).f0.f1) ∧ w.cell? ⟨(ad.add (i.toNat * 6)).block, (ad.add (i.toNat * 6)).off + 2, none⟩ = some (.int .i64 (rd_T72 xs i).f1) ∧ w.cell? ⟨(ad.add (i.toNat * 6)).block, (ad.add (i.toNat * 6)).off + 3, none⟩ = some (.int .i64 (rd_T72 xs i).f2) ∧ w.cell? ⟨(ad.add (i.toNat * 6)).block, (ad.add (i.toNat * 6)).off + 4, none⟩ = some (.bool (rd_T72 xs i).f3) ∧ w.cell? ⟨(ad.add (i.toNat * 6)).block, (ad.add (i.toNat * 6)).off + 5, none⟩ = some (.int .i64 (rd_T72 xs i).f4) := by
  obtain ⟨ad, c, e, _, hK, hc0⟩ := Kd.C_get h z72 i h0 h1
  have hc : ∀ j u, c[j]? = some u → w.cell? (ad.add (i.toNat * 6 + j)) = some u := hc0
  obtain rfl := k72_open hK
  exact ⟨ad, e, hc 0 _ rfl, by rw [← add_field _ _ 1 (by omega)]; exact hc 1 _ rfl, by rw [← add_field _ _ 2 (by omega)]; exact hc 2 _ rfl, by rw [← add_field _ _ 3 (by omega)]; exact hc 3 _ rfl, by rw [← add_field _ _ 4 (by omega)]; exact hc 4 _ rfl, by rw [← add_field _ _ 5 (by omega)]; exact hc 5 _ rfl⟩

def rd_L10 (xs : List (List S72)) (i : Int) : (List S72) := xs.getD i.toNat ([] : List S72)
theorem at_L10 {w : World} {A : Option Addr} {n : Nat} {xs : List (List S72)} (h : Kd.C (Kd.slice 72 k72) w A n xs) (i : Int) (h0 : 0 ≤ i) (h1 : i < n) : ∃ ad A0 c0, A = some ad ∧ w.cell? (ad.add i.toNat) = some (.slice A0 (rd_L10 xs i).length c0) ∧ (rd_L10 xs i).length ≤ c0 ∧ k72.C w A0 (rd_L10 xs i).length (rd_L10 xs i) := by
  obtain ⟨ad, c, e, _, hK, hc0⟩ := Kd.C_get h ([] : List S72) i h0 h1
  have hc : ∀ j u, c[j]? = some u → w.cell? (ad.add (i.toNat * 1 + j)) = some u := hc0
  obtain ⟨A0, c0, rfl, l0, g0⟩ := hK
  exact ⟨ad, A0, c0, e, by have hq := hc 0 _ rfl; rwa [Nat.mul_one, Nat.add_zero] at hq, l0, g0⟩

/-! #### struct type 42 -/
structure S42 where
  f0 : Int
  f1 : Int
  f2 : (List S72)
  f3 : (List S72)
def z42 : S42 := ⟨(0 : Int), (0 : Int), ([] : List S72), ([] : List S72)⟩
def k42 : Kd S42 := Kd.iso (Kd.pair (Kd.int .i64) (Kd.pair (Kd.int .i64) (Kd.pair (Kd.slice 72 k72) (Kd.slice 72 k72)))) (fun x : S42 => (x.f0, x.f1, x.f2, x.f3))
theorem k42_open {w : World} {x : S42} {cs : List Value} (h : k42.K w x cs) : ∃ A2 c2 A3 c3, cs = [.int .i64 x.f0, .int .i64 x.f1, .slice A2 x.f2.length c2, .slice A3 x.f3.length c3] ∧ x.f2.length ≤ c2 ∧ k72.C w A2 x.f2.length x.f2 ∧ x.f3.length ≤ c3 ∧ k72.C w A3 x.f3.length x.f3 := by
  obtain ⟨_, _, rfl, rfl, ⟨_, _, rfl, rfl, ⟨_, _, rfl, ⟨A2, c2, rfl, l2, g2⟩, ⟨A3, c3, rfl, l3, g3⟩⟩⟩⟩ := h
  exact ⟨A2, c2, A3, c3, rfl, l2, g2, l3, g3⟩
theorem k42_openM {w : World} {base : Nat} {ok : Nat → Prop} {x : S42} {cs : List Value} (h : k42.M w base ok x cs) : ∃ v2 v3, cs = [.int .i64 x.f0, .int .i64 x.f1, v2, v3] ∧ k72.R 72 w base ok v2 x.f2 ∧ k72.R 72 w base ok v3 x.f3 := by
  obtain ⟨_, _, rfl, rfl, ⟨_, _, rfl, rfl, ⟨_, _, rfl, ⟨v2, rfl, g2⟩, ⟨v3, rfl, g3⟩⟩⟩⟩ := h
  exact ⟨v2, v3, rfl, g2, g3⟩
theorem k42_mk (w : World) (x : S42) {A2 : Option Addr} {c2 : Nat} (l2 : x.f2.length ≤ c2) (g2 : k72.C w A2 x.f2.length x.f2) {A3 : Option Addr} {c3 : Nat} (l3 : x.f3.length ≤ c3) (g3 : k72.C w A3 x.f3.length x.f3) : k42.K w x [.int .i64 x.f0, .int .i64 x.f1, .slice A2 x.f2.length c2, .slice A3 x.f3.length c3] := ⟨[.int .i64 x.f0], [.int .i64 x.f1, .slice A2 x.f2.length c2, .slice A3 x.f3.length c3], rfl, rfl, ⟨[.int .i64 x.f1], [.slice A2 x.f2.length c2, .slice A3 x.f3.length c3], rfl, rfl, ⟨[.slice A2 x.f2.length c2], [.slice A3 x.f3.length c3], rfl, ⟨A2, c2, rfl, l2, g2⟩, ⟨A3, c3, rfl, l3, g3⟩⟩⟩⟩
theorem k42_mkM (w : World) (base : Nat) (ok : Nat → Prop) (x : S42) {v2 : Value} (g2 : k72.R 72 w base ok v2 x.f2) {v3 : Value} (g3 : k72.R 72 w base ok v3 x.f3) : k42.M w base ok x [.int .i64 x.f0, .int .i64 x.f1, v2, v3] := ⟨[.int .i64 x.f0], [.int .i64 x.f1, v2, v3], rfl, rfl, ⟨[.int .i64 x.f1], [v2, v3], rfl, rfl, ⟨[v2], [v3], rfl, ⟨v2, rfl, g2⟩, ⟨v3, rfl, g3⟩⟩⟩⟩
def rd_T42 (xs : List S42) (i : Int) : S42 := xs.getD i.toNat z42
theorem at_T42 {w : World} {A : Option Addr} {n : Nat} {xs : List S42} (h : Kd.C k42 w A n xs) (i : Int) (h0 : 0 ≤ i) (h1 : i < n) : ∃ ad A2 c2 A3 c3, A = some ad ∧ w.cell? (ad.add (i.toNat * 4)) = some (.int .i64 (rd_T42 xs i).f0) ∧ w.cell? ⟨(ad.add (i.toNat * 4)).block, (ad.add (i.toNat * 4)).off + 1, none⟩ = some (.int .i64 (rd_T42 xs i).f1) ∧ w.cell? ⟨(ad.add (i.toNat * 4)).block, (ad.add (i.toNat * 4)).off + 2, none⟩ = some (.slice A2 (rd_T42 xs i).f2.length c2) ∧ w.cell? ⟨(ad.add (i.toNat * 4)).block, (ad.add (i.toNat * 4)).off + 3, none⟩ = some (.slice A3 (rd_T42 xs i).f3.length c3) ∧ (rd_T42 xs i).f2.length ≤ c2 ∧ k72.C w A2 (rd_T42 xs i).f2.length (rd_T42 xs i).f2 ∧ (rd_T42 xs i).f3.length ≤ c3 ∧ k72.C w A3 (rd_T42 xs i).f3.length (rd_T42 xs i).f3 := by
  obtain ⟨ad, c, e, _, hK, hc0⟩ := Kd.C_get h z42 i h0 h1
  have hc : ∀ j u, c[j]? = some u → w.cell? (ad.add (i.toNat * 4 + j)) = some u := hc0
  obtain ⟨A2, c2, A3, c3, rfl, l2, g2, l3, g3⟩ := k42_open hK
  exact ⟨ad, A2, c2, A3, c3, e, hc 0 _ rfl, by rw [← add_field _ _ 1 (by omega)]; exact hc 1 _ rfl, by rw [← add_field _ _ 2 (by omega)]; exact hc 2 _ rfl, by rw [← add_field _ _ 3 (by omega)]; exact hc 3 _ rfl, l2, g2, l3, g3⟩

end Go.Proofs.YtppjodchlpapdaaDoor.PB

-- By a program of this session (printx.py), out of Lean's own print of the translation. Not trusted: Lean checks it.
namespace Go.Proofs.YtppjodchlpapdaaDoor.PB
open Go.RowKit Go.Proofs.YtppjodchlpapdaaDoorW.PrintWords Go.Proofs.YtppjodchlpapdaaDoorW.PrintLast Go.Proofs.YtppjodchlpapdaaDoorW.PrintMore
attribute [local go_sem] max2_int min2_int max_two min_two max_three min_three max_four min_four   -- for this text's walks alone
set_option linter.unusedVariables false
set_option linter.unusedSimpArgs false

/-! ### row_addr: function 28 -/
def row_addr.f (a0 : Int) : Option (ByteArray) := (strconv_FormatUint_42.f (IntKind.u64.wrap (a0)) 10).bind fun t138 => (some t138)
set_option maxHeartbeats 8000000 in
set_option maxRecDepth 100000 in
theorem row_addr.calls (a0 : Int) (r : ByteArray) (w : World) (hV : VarsOk w) (h : row_addr.f a0 = some r) :
    Calls Tryd.prog 28 #[.int .u32 a0] w fun e w' => e = .returned (.string r) ∧ Below w.heap.size w w' := by
  have HV := Aside0.mk hV
  clear hV
  have HB := Aside0.mk (Below.refl w.heap.size w)
  have H : ((strconv_FormatUint_42.f (IntKind.u64.wrap (a0)) 10).bind fun t138 => (some t138)) = some r := h
  clear h
  replace H := Option.bind_eq_some_iff.mp H
  obtain ⟨t138, A20, H⟩ := H
  replace H : (some t138) = some r := H
  have A2 := Aside0.mk A20
  clear A20
  obtain rfl := Option.some.inj H
  go_enter Tryd.func28, Tryd.ntmps28
  go_wp2_with (first | ((with_reducible refine gate_callee (f := 42) rfl ?_); refine goesL_ (some 5) rfl rfl Tryd.func42 (by kernel_rfl) rfl #[.int .u64 (IntKind.u64.wrap (a0)), .int .i64 10] rfl (by (try simp only [List.map_toArray, List.map_cons, List.map_nil]); first | done | rfl | (simp only [List.length_drop, List.length_take]; rfl)) ?_; (with_reducible refine (strconv_FormatUint_42.calls (IntKind.u64.wrap (a0)) 10 t138 _ ?side1 A2.out).mono ?_); (case side1 => exact VarsOk.below HV.out (by repeat (first | (with_reducible first | exact HB.out | apply below_alloc | apply pw_below_drewN | apply below_drew1) | exact HB.out))); rintro e w3 ⟨rfl, hb⟩; refine ⟨_, rfl, ?_⟩; have n0_ := Aside0.mk (below_step (by repeat (first | (with_reducible first | exact HB.out | apply below_alloc | apply pw_below_drewN | apply below_drew1) | exact HB.out)) hb); clear HB; have HB := n0_; clear n0_; (try clear hb); (try clear hb2); (try clear hk); (try clear hi)))
  go_ret
  exact ⟨by first | rfl | (simp [errW_none, errW_some] <;> rfl) | (simp [*, errW_none, errW_some] <;> rfl), by repeat (first | (with_reducible first | exact HB.out | apply below_alloc | apply pw_below_drewN | apply below_drew1) | exact HB.out)⟩

end Go.Proofs.YtppjodchlpapdaaDoor.PB

-- By a program of this session (printx.py), out of Lean's own print of the translation. Not trusted: Lean checks it.
namespace Go.Proofs.YtppjodchlpapdaaDoor.PB
open Go.RowKit Go.Proofs.YtppjodchlpapdaaDoorW.PrintWords Go.Proofs.YtppjodchlpapdaaDoorW.PrintLast Go.Proofs.YtppjodchlpapdaaDoorW.PrintMore
attribute [local go_sem] max2_int min2_int max_two min_two max_three min_three max_four min_four   -- for this text's walks alone
set_option linter.unusedVariables false
set_option linter.unusedSimpArgs false

/-! ### row_num: function 29 -/
def row_num.f (a0 : Int) : Option (ByteArray) := (strconv_Itoa_22.f a0).bind fun t139 => (some t139)
set_option maxHeartbeats 8000000 in
set_option maxRecDepth 100000 in
theorem row_num.calls (a0 : Int) (r : ByteArray) (w : World) (hV : VarsOk w) (h : row_num.f a0 = some r) :
    Calls Tryd.prog 29 #[.int .i64 a0] w fun e w' => e = .returned (.string r) ∧ Below w.heap.size w w' := by
  have HV := Aside0.mk hV
  clear hV
  have HB := Aside0.mk (Below.refl w.heap.size w)
  have H : ((strconv_Itoa_22.f a0).bind fun t139 => (some t139)) = some r := h
  clear h
  replace H := Option.bind_eq_some_iff.mp H
  obtain ⟨t139, A20, H⟩ := H
  replace H : (some t139) = some r := H
  have A2 := Aside0.mk A20
  clear A20
  obtain rfl := Option.some.inj H
  go_enter Tryd.func29, Tryd.ntmps29
  go_wp2_with (first | ((with_reducible refine gate_callee (f := 22) rfl ?_); refine goesL_ (some 4) rfl rfl Tryd.func22 (by kernel_rfl) rfl #[.int .i64 a0] rfl (by (try simp only [List.map_toArray, List.map_cons, List.map_nil]); first | done | rfl | (simp only [List.length_drop, List.length_take]; rfl)) ?_; (with_reducible refine (strconv_Itoa_22.calls a0 t139 _ ?side1 A2.out).mono ?_); (case side1 => exact VarsOk.below HV.out (by repeat (first | (with_reducible first | exact HB.out | apply below_alloc | apply pw_below_drewN | apply below_drew1) | exact HB.out))); rintro e w3 ⟨rfl, hb⟩; refine ⟨_, rfl, ?_⟩; have n0_ := Aside0.mk (below_step (by repeat (first | (with_reducible first | exact HB.out | apply below_alloc | apply pw_below_drewN | apply below_drew1) | exact HB.out)) hb); clear HB; have HB := n0_; clear n0_; (try clear hb); (try clear hb2); (try clear hk); (try clear hi)))
  go_ret
  exact ⟨by first | rfl | (simp [errW_none, errW_some] <;> rfl) | (simp [*, errW_none, errW_some] <;> rfl), by repeat (first | (with_reducible first | exact HB.out | apply below_alloc | apply pw_below_drewN | apply below_drew1) | exact HB.out)⟩

end Go.Proofs.YtppjodchlpapdaaDoor.PB
