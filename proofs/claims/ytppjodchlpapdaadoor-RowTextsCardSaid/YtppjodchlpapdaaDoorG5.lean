/- strconv.Itoa and strconv.FormatUint at base 10 give the decimal numerals. Conditions: the number is of its kind. -/
import Derived.Test.YtppjodchlpapdaaDoorGV
import Derived.Lib.AppendIntMem
import Derived.Lib.OwnBridge
namespace Go.Proofs.YtppjodchlpapdaaDoor.PB
open Go.Shelf Go.RowKit Go.Sort Go.Lib Go.Proofs
set_option linter.unusedVariables false
set_option linter.unusedSimpArgs false

def strconv_Itoa_22.f (a0 : Int) : Option ByteArray :=
  if -9223372036854775808 ≤ a0 ∧ a0 ≤ 9223372036854775807 then some ⟨(Lib.itoa a0).toArray⟩ else none

theorem below_grow_drew (w : World) (k : Nat) (os : Array Obj) : Below w.heap.size w (grow (w.drewN k) os) := by
  first
    | exact ((Below.refl w.heap.size w).drewN k).grow os
    | exact Below.grow_drewN w k os
    | exact ⟨rfl, rfl, rfl, by simp [grow, World.drewN], fun j hj => by simp [grow, World.drewN, Array.getElem?_append, hj]⟩

theorem strconv_Itoa_22.calls (a0 : Int) (r : ByteArray) (w : World) (hV : VarsOk w) (h : strconv_Itoa_22.f a0 = some r) :
    Calls Tryd.prog 22 #[.int .i64 a0] w fun e w' => e = .returned (.string r) ∧ Below w.heap.size w w' := by
  unfold strconv_Itoa_22.f at h
  split at h
  · rename_i hc
    cases h
    refine (Tryd.strconv_Itoa a0 hc.1 hc.2 w hV.1).mono ?_
    rintro e w' ⟨rfl, k, os, rfl⟩
    exact ⟨rfl, below_grow_drew w k os⟩
  · cases h

def strconv_FormatUint_42.f (a0 : Int) (a1 : Int) : Option ByteArray :=
  if 0 ≤ a0 ∧ a0 < 18446744073709551616 ∧ a1 = 10 then some ⟨(Lib.decDigits a0.toNat).toArray⟩ else none

set_option maxHeartbeats 4000000 in
set_option maxRecDepth 100000 in
theorem inner_FormatUint (u : Nat) (hu64 : u < 18446744073709551616) (w : World) (htab : Lib.TabIs Tryd.prog w "internal/strconv.uint64pow10" .u64 Lib.pow10Tab) :
    Calls Tryd.prog 53 #[.int .u64 u, .int .i64 10] w fun e w' => e = .returned (.string ⟨(Lib.decDigits u).toArray⟩) ∧ Below w.heap.size w w' := by
  have wz : IntKind.i64.wrap (u : Int) = IntKind.i64.wrap (u : Int) := rfl
  by_cases hs : u < 100
  · have hw : IntKind.i64.wrap (u : Int) = (u : Int) := by rw [IntKind.wrap_i64]; omega
    go_enter Tryd.func53, Tryd.ntmps53
    go_wp2_with (go_at_call 55; refine (Tryd.internal_strconv_small u hs _).mono ?_; rintro e w' ⟨rfl, rfl⟩)
    go_ret
    exact ⟨rfl, Below.refl _ _⟩
  · have hu1 : 1 ≤ u := by omega
    have hnd20 : Lib.nDigits u ≤ 20 := by have := Lib.numDigits_eq u hu1 hu64; split at this <;> omega
    have hb3 : Lib.nDigits u ≤ 24 := by omega
    have hal : Tryd.prog.arrayLen 91 = 24 := by kernel_rfl
    have hsl1 : ∀ W, (Instr.sliceAt 91 (.pointer (some ⟨w.heap.size, 0, none⟩)) none (some (.int .i64 (Lib.nDigits u : Int))) none).run Tryd.prog W = .ok (.slice (some ⟨w.heap.size, 0, none⟩) (Lib.nDigits u) 24) W := fun W => by
      rw [run_sliceAt_array_h W 91 ⟨w.heap.size, 0, none⟩ (by simp [Program.arrayLen, Program.elem, Tryd.underlying91]) .i64 (Lib.nDigits u : Int) (by omega) (by rw [hal]; omega)]
      go_simp
    have hH0 := Lib.holds_zero0 w 91 (Lib.nDigits u) (by omega)
    have hfmt := Tryd.internal_strconv_formatBase10 w.heap.size 0 24 u (Array.replicate (Lib.nDigits u) 0) (w.alloc (.cells Lib.zeros24 91)) hH0 (by rw [Array.size_replicate]; exact Lib.lt_pow_nDigits u) hu64 (by rw [Array.size_replicate]; omega)
    rw [Array.size_replicate] at hfmt
    have HH0 := Lib.hid hH0
    clear hH0 hal
    go_enter Tryd.func53, Tryd.ntmps53
    go_wp2_with (first
      | (go_at_call 56; refine (Tryd.internal_strconv_numDigits u hu1 hu64 _ (Lib.tabIs_alloc htab _)).mono ?_; rintro e w' ⟨rfl, rfl⟩))
    go_at_call 57
    refine hfmt.mono ?_
    rintro e w' ⟨rfl, k, v', dk, rfl, hF⟩
    have hcv : (convert 50 9 (.slice (some ⟨w.heap.size, 0, none⟩) (Lib.nDigits u) 24)).run Tryd.prog ((putRow (fun (b : UInt8) => Value.int .u8 (b.toNat : Int)) (w.alloc (.cells Lib.zeros24 91)) w.heap.size 0 dk).drewN k) = .ok (.string ⟨(Lib.decDigits u).toArray⟩) ((putRow (fun (b : UInt8) => Value.int .u8 (b.toNat : Int)) (w.alloc (.cells Lib.zeros24 91)) w.heap.size 0 dk).drewN k) := by
      have h := run_convert_bytes_back (P := Tryd.prog) ((putRow (fun (b : UInt8) => Value.int .u8 (b.toNat : Int)) (w.alloc (.cells Lib.zeros24 91)) w.heap.size 0 dk).drewN k) 50 9 5 ⟨w.heap.size, 0, none⟩ 24 (Lib.decDigits u) Tryd.underlying50 Tryd.underlying5 Tryd.underlying9 (fun j hj => by
        rw [Lib.row_is_numeral hF j hj, Lib.add_plain, World.cell?_drewN]
        exact cell?_putRow (fun (b : UInt8) => Value.int .u8 (b.toNat : Int)) _ w.heap.size 0 _ dk HH0.out (by rw [hF.size, Array.size_replicate]) j (by rw [hF.size]; rw [Lib.decDigits_length] at hj; exact hj))
      rw [Lib.decDigits_length] at h
      exact h
    go_wp2
    go_ret
    obtain ⟨os', _, e⟩ := putRow_grow_new (fun (b : UInt8) => Value.int .u8 (b.toNat : Int)) w #[.cells Lib.zeros24 91] w.heap.size 0 dk (Nat.le_refl _)
    refine ⟨rfl, ?_⟩
    rw [alloc_eq_grow, e]
    exact below_grow_drew w k os'

theorem strconv_FormatUint_42.calls (a0 : Int) (a1 : Int) (r : ByteArray) (w : World) (hV : VarsOk w) (h : strconv_FormatUint_42.f a0 a1 = some r) :
    Calls Tryd.prog 42 #[.int .u64 a0, .int .i64 a1] w fun e w' => e = .returned (.string r) ∧ Below w.heap.size w w' := by
  unfold strconv_FormatUint_42.f at h
  split at h
  · rename_i hc
    cases h
    obtain ⟨h0, h1, rfl⟩ := hc
    obtain ⟨u, rfl⟩ : ∃ u : Nat, a0 = u := ⟨a0.toNat, by omega⟩
    go_enter Tryd.func42, Tryd.ntmps42
    go_wp2_with (go_at_call 53; refine (inner_FormatUint u (by omega) _ hV.1).mono ?_; rintro e w' ⟨rfl, hb⟩)
    go_ret
    exact ⟨rfl, hb⟩
  · cases h

end Go.Proofs.YtppjodchlpapdaaDoor.PB
