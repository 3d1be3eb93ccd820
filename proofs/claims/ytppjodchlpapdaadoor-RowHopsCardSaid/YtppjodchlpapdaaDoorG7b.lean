/- The methods addr and prefix of row's reader take the next texts. Conditions: the reader is one of the call's own. -/
import Derived.Test.YtppjodchlpapdaaDoorG7
import Derived.Lib.ParseIntBCases
namespace Go.Proofs.YtppjodchlpapdaaDoor.PB
open Go.RowKit Go.Sort Go.Lib Go.Proofs Go.Proofs.YtppjodchlpapdaaDoor Go.Proofs.YtppjodchlpapdaaDoorW.PrintWords
set_option linter.unusedVariables false
set_option linter.unusedSimpArgs false

/-- What a text spells as an address: a number of base 10 below 2^32. -/
def addrV (s : ByteArray) : Option Int := match Lib.parseUintB 32 s.data.toList with | .ok v => some (v : Int) | _ => none

theorem Uint_calls (s : ByteArray) (hs : s.size ≤ 281474976710656) (w : World) (hV : VarsOk w) :
    Calls Tryd.prog 43 #[.string s, .int .i64 10, .int .i64 32] w fun e w' => ∃ (v : Nat) (ev : Value), e = .returned (.tuple #[.int .u64 v, ev]) ∧ v ≤ 4294967295 ∧ ((ev = .nilIface ∧ addrV s = some (v : Int)) ∨ ((∃ N, ev = .iface 88 (.pointer (some ⟨N, 0, none⟩))) ∧ addrV s = none)) ∧ Below w.heap.size w w' := by
  obtain ⟨h1, ⟨tp, p, h2⟩, ⟨tq, q, h3⟩, m, h4⟩ := hV
  cases ha : Lib.parseUintB 32 s.data.toList with
  | ok v =>
    have hv : v ≤ 4294967295 := Lib.parseUintB_le ha
    refine (Tryd.strconv_ParseUint_10_at32_ok s (Nat.le_trans hs (by decide)) v ha w).mono ?_
    rintro e w' ⟨rfl, hw⟩
    refine ⟨v, _, rfl, hv, .inl ⟨rfl, by unfold addrV; rw [ha]⟩, ?_⟩
    rcases hw with rfl | rfl
    · exact Below.refl _ _
    · exact Lib.bytesWorld_below w 5 s
  | range =>
    refine (Tryd.strconv_ParseUint_10_at32_range_var s hs ha tq q w h3).mono ?_
    rintro e w' ⟨N, rfl, _, _, hb⟩
    exact ⟨4294967295, _, rfl, Nat.le_refl _, .inr ⟨⟨N, rfl⟩, by unfold addrV; rw [ha]⟩, hb⟩
  | _ =>
    refine (Tryd.strconv_ParseUint_10_at32_syntax_var s hs ha tp p w h2).mono ?_
    rintro e w' ⟨N, rfl, _, _, hb⟩
    exact ⟨0, _, rfl, Nat.zero_le _, .inr ⟨⟨N, rfl⟩, by unfold addrV; rw [ha]⟩, hb⟩

def badAddr (left : List ByteArray) (bad : Bool) : Bool := (bad || left.isEmpty) || (addrV (headV left)).isNone

set_option maxHeartbeats 1000000 in
set_option maxRecDepth 100000 in
theorem addr_calls (w0 w : World) (hV : VarsOk w0) (N rb : Nat) (left : List ByteArray) (bad : Bool) (hs : (headV left).size ≤ 281474976710656) (h : RdAt w0.heap.size N rb left bad w) (hb : Below w0.heap.size w0 w) :
    Calls Tryd.prog 32 #[.pointer (some ⟨rb, 0, none⟩)] w fun e w' => ∃ v : Int, e = .returned (.int .u32 v) ∧ (badAddr left bad = false → addrV (headV left) = some v) ∧ RdAt w0.heap.size N rb left.tail (badAddr left bad) w' ∧ Below w0.heap.size w0 w' ∧ Only rb w w' := by
  have ht := text_calls w0 w N rb left bad h hb
  have ha := fun (W : World) (hW : VarsOk W) => Uint_calls (headV left) hs W hW
  rw [show left.headD ⟨#[]⟩ = headV left from rfl] at ht
  obtain ⟨s, hsx⟩ : ∃ s, s = headV left := ⟨_, rfl⟩
  obtain ⟨b1, hb1x⟩ : ∃ b1, b1 = (bad || left.isEmpty) := ⟨_, rfl⟩
  have hbn : badAddr left bad = (b1 || (addrV s).isNone) := by rw [hb1x, hsx]; rfl
  rw [← hsx, hbn]
  rw [← hsx, ← hb1x] at ht
  rw [← hsx] at ha
  clear hs h hbn
  have Hx := Aside0.mk hsx
  have Hy := Aside0.mk hb1x
  clear hsx hb1x
  go_enter Tryd.func32, Tryd.ntmps32
  go_wp2_with (go_at_call 44; refine ht.mono ?_)
  rintro e w1 ⟨rfl, hr1, hbw1, ho1⟩
  have hv1 := hV.below hbw1
  go_wp2_with (go_at_call 43; refine (ha _ hv1).mono ?_)
  rintro e w2 ⟨v, ev, rfl, hvle, hsay, hb2⟩
  have hw : IntKind.u32.wrap (v : Int) = (v : Int) := by rw [IntKind.wrap_u32]; omega
  have hr2 := hr1.below hb2
  have hbw2 := below_step hbw1 hb2
  have Hr2 := Aside0.mk hr2
  have Ho2 := Aside0.mk (ho1.below hb2)
  clear ho1
  obtain ⟨hB, hrN, hN, A, c, hh, hc, hC, hne⟩ := hr2
  have c1 : w2.cell? ⟨rb, 1, none⟩ = some (.bool b1) := (blk_cell hh 1).trans rfl
  have f1 : w2.frozen? ⟨rb, 1, none⟩ = false := blk_frozen hh 1
  clear ht ha hr1 hh hC hne hc
  rcases hsay with ⟨rfl, hn⟩ | ⟨⟨N, rfl⟩, hn⟩
  · have Hn := Aside0.mk hn
    clear hn
    cases b1 with
    | false =>
      go_wp2
      go_ret
      exact ⟨v, rfl, fun _ => Hn.out, by rw [Hn.out]; exact Hr2.out.setBad _, hbw2.setCell (p := ⟨rb, 1, none⟩) hB _, Ho2.out.set _ _⟩
    | true =>
      go_wp2
      go_ret
      exact ⟨v, rfl, fun _ => Hn.out, by rw [Hn.out]; exact Hr2.out.setBad _, hbw2.setCell (p := ⟨rb, 1, none⟩) hB _, Ho2.out.set _ _⟩
  · have Hn := Aside0.mk hn
    clear hn
    cases b1 with
    | false =>
      go_wp2
      go_ret
      exact ⟨v, rfl, fun h => (by rw [Hn.out] at h; cases h), by rw [Hn.out]; exact Hr2.out.setBad _, hbw2.setCell (p := ⟨rb, 1, none⟩) hB _, Ho2.out.set _ _⟩
    | true =>
      go_wp2
      go_ret
      exact ⟨v, rfl, fun h => (by rw [Hn.out] at h; cases h), by rw [Hn.out]; exact Hr2.out.setBad _, hbw2.setCell (p := ⟨rb, 1, none⟩) hB _, Ho2.out.set _ _⟩

set_option maxHeartbeats 1000000 in
set_option maxRecDepth 100000 in
theorem prefix_calls (w0 w : World) (hV : VarsOk w0) (N rb : Nat) (left : List ByteArray) (bad : Bool) (hs : ∀ s ∈ left, s.size ≤ 281474976710656) (h : RdAt w0.heap.size N rb left bad w) (hb : Below w0.heap.size w0 w) :
    Calls Tryd.prog 31 #[.pointer (some ⟨rb, 0, none⟩)] w fun e w' => ∃ v u : Int, e = .returned (.agg #[.int .u32 v, .int .i64 u]) ∧ (badNum left.tail (badAddr left bad) = false → addrV (headV left) = some v ∧ numV (headV left.tail) = some u) ∧ RdAt w0.heap.size N rb left.tail.tail (badNum left.tail (badAddr left bad)) w' ∧ Below w0.heap.size w0 w' ∧ Only rb w w' := by
  have hh : ∀ l : List ByteArray, (∀ s ∈ l, s.size ≤ 281474976710656) → (headV l).size ≤ 281474976710656 := fun l hl => by
    cases l with
    | nil => exact Nat.zero_le _
    | cons a l => exact hl a (List.mem_cons_self)
  have hs1 := hh left hs
  have hs2 := hh left.tail (fun s hs' => hs s (List.mem_of_mem_tail hs'))
  have hbt := h.1
  have hr0 := h.below (Below.refl _ _)
  have hp : Aside0 (∀ W, RdAt w0.heap.size N rb left bad W → Below w0.heap.size w0 W → _) := Aside0.mk (fun W => addr_calls w0 W hV N rb left bad hs1)
  have hq : Aside0 (∀ W, RdAt w0.heap.size N rb left.tail (badAddr left bad) W → Below w0.heap.size w0 W → _) := Aside0.mk (fun W => num_calls w0 W hV N rb left.tail (badAddr left bad) hs2)
  have hsz : w0.heap.size ≤ w.heap.size := hb.size
  clear hh hs hs1 hs2 hr0
  go_enter Tryd.func31, Tryd.ntmps31
  have hrb : rb < w.heap.size := by
    exact Nat.lt_of_lt_of_le h.2.1 h.2.2.1
  go_wp2_with (go_at_call 32; refine (hp.out _ (h.below (below_alloc (Below.refl _ _) _)) (below_alloc hb _)).mono ?_)
  rintro e w1 ⟨v, rfl, hv1, hr1, hbw1, ho1⟩
  go_wp2_with (go_at_call 33; refine (hq.out _ hr1 hbw1).mono ?_)
  rintro e w2 ⟨u, rfl, hv2, hr2, hbw2, ho2⟩
  have ho := ho1.trans ho2
  have hbk : w2.heap[w.heap.size]? = some (.cells #[.int .u32 0, .int .i64 0] 33 (0, 0)) := by
    rw [ho.2 w.heap.size (by simp) (by omega)]
    exact blk_new w _
  have c0 := (blk_cell hbk 0).trans rfl
  have c1 := (blk_cell hbk 1).trans rfl
  have f0 := blk_frozen hbk 0
  have f1 := blk_frozen hbk 1
  have hN := h.2.2.1
  have Hr2 := Aside0.mk hr2
  have Hbw := Aside0.mk hbw2
  have Ho := Aside0.mk ho
  have Hbk := Aside0.mk hbk
  clear hr1 hbw1 ho1 hr2 hbw2 ho2 ho hbk
  go_wp2
  refine bodyPost_ret (results_cell_row rfl _ _ w.heap.size 33 #[.int .u32 v, .int .i64 u] (0, 0) _ rfl (blk_put (cs := #[.int .u32 v, .int .i64 0]) (blk_put (cs := #[.int .u32 0, .int .i64 0]) Hbk.out 0 _ rfl) 1 _ rfl) Tryd.underlying33 rfl (by kernel_rfl)) rfl ?_
  refine ⟨v, u, rfl, fun hb0 => ?_, (Hr2.out.far _ 0 _ hN).far _ 1 _ hN, (Hbw.out.setCell (p := ⟨w.heap.size, 0, none⟩) hsz _).setCell (p := ⟨w.heap.size, 1, none⟩) hsz _, ?_⟩
  · have hb1 : badAddr left bad = false := by
      cases hx : badAddr left bad with
      | false => rfl
      | true => rw [hx] at hb0; simp [badNum] at hb0
    exact ⟨hv1 hb1, hv2 hb0⟩
  · refine ⟨by have := Ho.out.1; simp [World.setCell]; simp at this; omega, fun k hk hn => ?_⟩
    rw [Below.heap_setCell _ _ _ _ (show k ≠ w.heap.size by omega), Below.heap_setCell _ _ _ _ (show k ≠ w.heap.size by omega), Ho.out.2 k (by simp; omega) hn]
    exact Below.heap_alloc _ _ _ hk
end Go.Proofs.YtppjodchlpapdaaDoor.PB
