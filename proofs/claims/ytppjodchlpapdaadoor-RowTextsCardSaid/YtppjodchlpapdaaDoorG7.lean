/- The methods text and num of row's reader take the next text. Conditions: the reader is one of the call's own. -/
import Derived.Test.YtppjodchlpapdaaDoorG6b
import Derived.Test.YtppjodchlpapdaaDoorWMore
namespace Go.Proofs.YtppjodchlpapdaaDoor.PB
open Go.RowKit Go.Sort Go.Lib Go.Proofs Go.Proofs.YtppjodchlpapdaaDoor Go.Proofs.YtppjodchlpapdaaDoorW.PrintWords
set_option linter.unusedVariables false
set_option linter.unusedSimpArgs false

/-- row.reader at block rb: the texts that are left, and whether one was bad. -/
def RdAt (B N rb : Nat) (left : List ByteArray) (bad : Bool) (w : World) : Prop :=
  B ≤ rb ∧ rb < N ∧ N ≤ w.heap.size ∧ ∃ A c, w.heap[rb]? = some (.cells #[.slice A left.length c, .bool bad] 69 (0, 0)) ∧ left.length ≤ c ∧ Kd.string.C w A left.length left ∧ (∀ ad, A = some ad → 0 < left.length → ad.block ≠ rb ∧ ad.block < N)

theorem RdAt.below {B N rb : Nat} {left : List ByteArray} {bad : Bool} {w w' : World} (h : RdAt B N rb left bad w) (hb : Below w.heap.size w w') : RdAt B N rb left bad w' := by
  obtain ⟨hB, hrN, hN, A, c, hh, hc, hC, hne⟩ := h
  exact ⟨hB, hrN, Nat.le_trans hN hb.size, A, c, (hb.block rb (Array.getElem?_eq_some_iff.1 hh).1).trans hh, hc, Kd.C_below hC hb, hne⟩

theorem add_block (a : Addr) (n : Nat) : (a.add n).block = a.block := by unfold Addr.add; split <;> rfl

theorem C_set {w : World} {A : Option Addr} {n : Nat} {xs : List ByteArray} {p : Addr} {u : Value} (h : Kd.string.C w A n xs) (hne : ∀ ad, A = some ad → 0 < n → ad.block ≠ p.block) : Kd.string.C (w.setCell p u) A n xs := by
  refine ⟨h.1, h.2.1, fun hp => ?_⟩
  obtain ⟨ad, e, hc⟩ := h.2.2 hp
  refine ⟨ad, e, fun j q hj => ?_⟩
  obtain ⟨c, h1, h2, h3⟩ := hc j q hj
  refine ⟨c, h1, h2, fun i u' hu => ?_⟩
  rw [World.cell?_setCell_other _ _ _ _ (fun hh => hne ad e hp (by have h4 := congrArg Addr.block hh; rw [add_block] at h4; exact h4.symm))]
  exact h3 i u' hu

theorem RdAt.setBad {B N rb : Nat} {left : List ByteArray} {bad : Bool} {w : World} (h : RdAt B N rb left bad w) (b : Bool) : RdAt B N rb left b (w.setCell ⟨rb, 1, none⟩ (.bool b)) := by
  obtain ⟨hB, hrN, hN, A, c, hh, hc, hC, hne⟩ := h
  exact ⟨hB, hrN, by simpa [World.setCell] using hN, A, c, blk_put hh 1 _ rfl, hc, C_set hC (fun ad h1 h2 => (hne ad h1 h2).1), hne⟩

/-- Of what was there only block rb may have turned. -/
def Only (rb : Nat) (w w' : World) : Prop := w.heap.size ≤ w'.heap.size ∧ ∀ k, k < w.heap.size → k ≠ rb → w'.heap[k]? = w.heap[k]?
theorem Only.refl (rb : Nat) (w : World) : Only rb w w := ⟨Nat.le_refl _, fun _ _ _ => rfl⟩
theorem Only.trans {rb : Nat} {w w1 w2 : World} (h : Only rb w w1) (h2 : Only rb w1 w2) : Only rb w w2 := ⟨Nat.le_trans h.1 h2.1, fun k hk hn => (h2.2 k (Nat.lt_of_lt_of_le hk h.1) hn).trans (h.2 k hk hn)⟩
theorem Only.below {rb : Nat} {w w1 w2 : World} (h : Only rb w w1) (hb : Below w1.heap.size w1 w2) : Only rb w w2 := h.trans ⟨hb.size, fun k hk _ => hb.block k hk⟩
theorem Only.set {rb : Nat} {w w1 : World} (h : Only rb w w1) (off : Nat) (u : Value) : Only rb w (w1.setCell ⟨rb, off, none⟩ u) :=
  h.trans ⟨by simp [World.setCell], fun k _ hn => Below.heap_setCell _ _ _ _ hn⟩

theorem RdAt.far {B N rb : Nat} {left : List ByteArray} {bad : Bool} {w : World} (h : RdAt B N rb left bad w) (k off : Nat) (u : Value) (hk : N ≤ k) : RdAt B N rb left bad (w.setCell ⟨k, off, none⟩ u) := by
  obtain ⟨hB, hrN, hN, A, c, hh, hc, hC, hne⟩ := h
  exact ⟨hB, hrN, by simpa [World.setCell] using hN, A, c, blk_far hh (p := ⟨k, off, none⟩) (by show rb ≠ k; omega) u, hc, C_set hC (fun ad h1 h2 => by have := (hne ad h1 h2).2; show ad.block ≠ k; omega), hne⟩

theorem infoStr1 : ∃ i, Tryd.prog.info? 9 = some i ∧ i.size = 1 := by
  obtain ⟨i, h, _, hs, _⟩ := info_parts infoStr
  exact ⟨i, h, hs⟩

set_option maxHeartbeats 1000000 in
set_option maxRecDepth 100000 in
theorem text_calls (w0 w : World) (N rb : Nat) (left : List ByteArray) (bad : Bool) (h : RdAt w0.heap.size N rb left bad w) (hb : Below w0.heap.size w0 w) :
    Calls Tryd.prog 44 #[.pointer (some ⟨rb, 0, none⟩)] w fun e w' => e = .returned (.string (left.headD ⟨#[]⟩)) ∧ RdAt w0.heap.size N rb left.tail (bad || left.isEmpty) w' ∧ Below w0.heap.size w0 w' ∧ Only rb w w' := by
  obtain ⟨hB, hrN, hN, A, c, hh, hc, hC, hne⟩ := h
  have c0 := (blk_cell hh 0).trans rfl
  have c1 := (blk_cell hh 1).trans rfl
  have f1 : w.frozen? ⟨rb, 1, none⟩ = false := blk_frozen hh 1
  have f0 : w.frozen? ⟨rb, 0, none⟩ = false := blk_frozen hh 0
  cases left with
  | nil =>
    simp only [List.length_nil] at c0
    go_enter Tryd.func44, Tryd.ntmps44
    go_wp2
    go_ret
    refine ⟨rfl, ?_, hb.setCell (p := ⟨rb, 1, none⟩) hB _, (Only.refl rb w).set _ _⟩
    rw [show (bad || List.isEmpty ([] : List ByteArray)) = true by simp]
    exact RdAt.setBad ⟨hB, hrN, hN, A, c, hh, hc, hC, hne⟩ true
  | cons s l =>
    obtain ⟨ad, eA, hcell⟩ := Kd.at_string hC 0 (by omega) (by simp)
    cases eA
    obtain ⟨i, hi, hi1⟩ := infoStr1
    have hcut := cut_from (P := Tryd.prog) 22 9 .i64 Tryd.underlying22 hi 1 hi1 (some ad) (s :: l).length c 1 (by omega) (by rw [List.length_cons]; omega)
    have hcell' : w.cell? ad = some (.string s) := by simpa [rdOf, Addr.add] using hcell
    have hpos : 0 < (s :: l).length := by simp
    have hd := Kd.C_drop (m := 1) (c := c) hC (by simp) hc
    have hd' : Kd.string.C w (if c = 1 then some ad else (some ad).map (·.add 1)) l.length l := hd
    have hcut' : ∀ W : World, (Instr.slice 22 (.slice (some ad) (l.length + 1) c) (some (.int .i64 1)) none none).run Tryd.prog W = .ok (.slice (if c = 1 then some ad else (some ad).map (·.add 1)) l.length (c - 1)) W := hcut
    have hne1 : ∀ a1, (if c = 1 then some ad else (some ad).map (·.add 1)) = some a1 → 0 < l.length → a1.block ≠ rb ∧ a1.block < N := by
      intro a1 e1 _
      have h2 := hne ad rfl hpos
      split at e1
      · cases e1; exact h2
      · cases e1; rw [add_block]; exact h2
    generalize (if c = 1 then some ad else (some ad).map (·.add 1)) = A1 at hd' hcut' hne1
    have Hd := Aside0.mk hd'
    have Hne := Aside0.mk hne1
    have Hh := Aside0.mk hh
    have hc1 : l.length ≤ c - 1 := by simp at hc; omega
    have c0' : w.cell? ⟨rb, 0, none⟩ = some (.slice (some ad) (l.length + 1) c) := c0
    clear hd hcut hne hC hcell hd' hne1 hh c0
    go_enter Tryd.func44, Tryd.ntmps44
    go_wp2
    go_ret
    refine ⟨rfl, ?_, hb.setCell (p := ⟨rb, 0, none⟩) hB _, (Only.refl rb w).set _ _⟩
    rw [show (bad || List.isEmpty (s :: l)) = bad by simp]
    exact ⟨hB, hrN, by simpa [World.setCell] using hN, A1, c - 1, blk_put Hh.out 0 _ rfl, hc1, C_set Hd.out (fun ad h1 h2 => (Hne.out ad h1 h2).1), Hne.out⟩

/-- What a text spells as a number of base 10, in an int. -/
def numV (s : ByteArray) : Option Int := match Lib.atoiAll s.data.toList with | .ok v => some v | _ => none

theorem AtoiSays.some {s : ByteArray} {v : Int} {ev : Value} (h : AtoiSays s v ev) : (ev = .nilIface ∧ numV s = some v) ∨ ((∃ N, ev = .iface 88 (.pointer (some ⟨N, 0, none⟩))) ∧ numV s = none) := by
  rcases h with ⟨h1, h2⟩ | ⟨h1, h2⟩
  · exact .inl ⟨h2, by unfold numV; rw [h1]⟩
  · refine .inr ⟨h2, ?_⟩
    unfold numV
    cases hx : Lib.atoiAll s.data.toList with
    | ok u => exact absurd hx (h1 u)
    | _ => rfl

def headV (left : List ByteArray) : ByteArray := left.headD ⟨#[]⟩
def badNum (left : List ByteArray) (bad : Bool) : Bool := (bad || left.isEmpty) || (numV (headV left)).isNone

set_option maxHeartbeats 1000000 in
set_option maxRecDepth 100000 in
theorem num_calls (w0 w : World) (hV : VarsOk w0) (N rb : Nat) (left : List ByteArray) (bad : Bool) (hs : (headV left).size ≤ 281474976710656) (h : RdAt w0.heap.size N rb left bad w) (hb : Below w0.heap.size w0 w) :
    Calls Tryd.prog 33 #[.pointer (some ⟨rb, 0, none⟩)] w fun e w' => ∃ v, e = .returned (.int .i64 v) ∧ (badNum left bad = false → numV (headV left) = some v) ∧ RdAt w0.heap.size N rb left.tail (badNum left bad) w' ∧ Below w0.heap.size w0 w' ∧ Only rb w w' := by
  have ht := text_calls w0 w N rb left bad h hb
  have ha : ∀ W : World, VarsOk W → Calls Tryd.prog 26 #[.string (headV left)] W fun e w' => ∃ v ev, e = .returned (.tuple #[.int .i64 v, ev]) ∧ AtoiSays (headV left) v ev ∧ Below W.heap.size W w' := fun W hW => Atoi_calls _ hs W hW
  rw [show left.headD ⟨#[]⟩ = headV left from rfl] at ht
  obtain ⟨s, hsx⟩ : ∃ s, s = headV left := ⟨_, rfl⟩
  obtain ⟨b1, hb1x⟩ : ∃ b1, b1 = (bad || left.isEmpty) := ⟨_, rfl⟩
  have hbn : badNum left bad = (b1 || (numV s).isNone) := by rw [hb1x, hsx]; rfl
  rw [← hsx, hbn]
  rw [← hsx, ← hb1x] at ht
  rw [← hsx] at ha
  clear hs h hbn
  have Hx := Aside0.mk hsx
  have Hy := Aside0.mk hb1x
  clear hsx hb1x
  go_enter Tryd.func33, Tryd.ntmps33
  go_wp2_with (go_at_call 44; refine ht.mono ?_)
  rintro e w1 ⟨rfl, hr1, hbw1, ho1⟩
  have hv1 := hV.below hbw1
  go_wp2_with (go_at_call 26; refine (ha _ hv1).mono ?_)
  rintro e w2 ⟨v, ev, rfl, hsay, hb2⟩
  have hr2 := hr1.below hb2
  have hbw2 := below_step hbw1 hb2
  have Hr2 := Aside0.mk hr2
  have Ho2 := Aside0.mk (ho1.below hb2)
  clear ho1
  obtain ⟨hB, hrN, hN, A, c, hh, hc, hC, hne⟩ := hr2
  have c1 : w2.cell? ⟨rb, 1, none⟩ = some (.bool b1) := (blk_cell hh 1).trans rfl
  have f1 : w2.frozen? ⟨rb, 1, none⟩ = false := blk_frozen hh 1
  clear ht ha hr1 hh hC hne hc
  rcases hsay.some with ⟨rfl, hn⟩ | ⟨⟨N, rfl⟩, hn⟩
  · have Hn := Aside0.mk hn
    clear hn hsay
    cases b1 with
    | false =>
      go_wp2
      go_ret
      exact ⟨v, rfl, fun _ => Hn.out, by rw [Hn.out]; exact Hr2.out.setBad _, hbw2.setCell (p := ⟨rb, 1, none⟩) hB _, Ho2.out.set _ _⟩
    | true =>
      go_wp2
      go_ret
      exact ⟨v, rfl, fun _ => Hn.out, by rw [Hn.out]; exact Hr2.out.setBad _, hbw2.setCell (p := ⟨rb, 1, none⟩) hB _, Ho2.out.set _ _⟩
  · have Hn := Aside0.mk hn
    clear hn hsay
    cases b1 with
    | false =>
      go_wp2
      go_ret
      exact ⟨v, rfl, fun h => (by rw [Hn.out] at h; cases h), by rw [Hn.out]; exact Hr2.out.setBad _, hbw2.setCell (p := ⟨rb, 1, none⟩) hB _, Ho2.out.set _ _⟩
    | true =>
      go_wp2
      go_ret
      exact ⟨v, rfl, fun h => (by rw [Hn.out] at h; cases h), by rw [Hn.out]; exact Hr2.out.setBad _, hbw2.setCell (p := ⟨rb, 1, none⟩) hB _, Ho2.out.set _ _⟩

end Go.Proofs.YtppjodchlpapdaaDoor.PB
