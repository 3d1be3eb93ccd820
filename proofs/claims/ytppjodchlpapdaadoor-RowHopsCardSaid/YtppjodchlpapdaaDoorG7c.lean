/- row.open makes a reader of what row.Split gives. Conditions: the text is shorter than 4294967281 bytes. -/
import Derived.Test.YtppjodchlpapdaaDoorG7b
namespace Go.Proofs.YtppjodchlpapdaaDoor.PB
open Go.RowKit Go.Sort Go.Lib Go.Proofs Go.Proofs.YtppjodchlpapdaaDoor Go.Proofs.YtppjodchlpapdaaDoorW.PrintWords
set_option linter.unusedVariables false
set_option linter.unusedSimpArgs false

def openBad (ok : Bool) (len : Nat) (n : Int) : Bool := !ok || (decide (0 < n) && !decide ((len : Int) = n))

set_option maxHeartbeats 1000000 in
set_option maxRecDepth 100000 in
theorem open_calls (s : ByteArray) (n : Int) (hs : s.size < 4294967281) (w : World) (hV : VarsOk w) :
    Calls Tryd.prog 30 #[.string s, .int .i64 n] w fun e w' => ∃ rb, e = .returned (.pointer (some ⟨rb, 0, none⟩)) ∧ (∃ N, RdAt w.heap.size N rb (splitGo s.size s []).1 (openBad (splitGo s.size s []).2 (splitGo s.size s []).1.length n) w') ∧ Below w.heap.size w w' := by
  obtain ⟨l, ok, hl⟩ : ∃ l ok, splitGo s.size s [] = (l, ok) := ⟨_, _, rfl⟩
  have hsp := row_Split.calls s l ok w hV (by unfold row_Split.f; rw [if_pos hs, hl])
  rw [hl]
  clear hs hl
  go_enter Tryd.func30, Tryd.ntmps30
  go_wp2_with (go_at_call 10; refine hsp.mono ?_)
  rintro e w1 ⟨v0, rfl, hR, hb1⟩
  obtain ⟨A, c, rfl, hc, hC⟩ := Kd.R_reads hR
  have hne : ∀ ad, A = some ad → 0 < l.length → ad.block < w1.heap.size := fun ad e hp => by
    obtain ⟨ad', e', hcell⟩ := Kd.at_string hC 0 (by omega) (by omega)
    have e2 := e.symm.trans e'
    injection e2 with e2
    subst e2
    have := World.block_lt_of_cell? _ _ hcell
    rwa [add_block] at this
  have hend : ∀ b, RdAt w.heap.size (w1.heap.size + 1) w1.heap.size l b (w1.alloc (.cells #[.slice A l.length c, .bool b] 69 (0, 0))) := fun b =>
    ⟨hb1.size, by omega, Nat.le_of_eq (by rw [World.alloc]; exact (Array.size_push _).symm), A, c, blk_new w1 _, hc, Kd.C_alloc hC _, fun ad h1 h2 => by have := hne ad h1 h2; omega⟩
  have Hend := Aside0.mk hend
  have Hb := Aside0.mk (fun o => below_alloc hb1 o)
  clear hsp hR hC hne hend hc hb1
  cases ok with
  | false =>
    go_wp2
    go_ret
    exact ⟨_, rfl, ⟨_, Hend.out _⟩, Hb.out _⟩
  | true =>
    by_cases hn : 0 < n
    · by_cases hl : (l.length : Int) = n
      · have hq : openBad true l.length n = false := by simp [openBad, hn, hl]
        have Hq := Aside0.mk hq
        clear hq
        go_wp2
        go_ret
        exact ⟨_, rfl, ⟨_, by rw [Hq.out]; exact Hend.out _⟩, Hb.out _⟩
      · have hbn : ((l.length : Int) != n) = true := by rw [bne_iff_ne]; exact hl
        have Hbn := Aside0.mk hbn
        clear hbn
        have hq : openBad true l.length n = true := by simp [openBad, hn, hl]
        have Hq := Aside0.mk hq
        clear hq
        go_wp2
        go_ret
        exact ⟨_, rfl, ⟨_, by rw [Hq.out, Hbn.out]; exact Hend.out _⟩, Hb.out _⟩
    · have hq : openBad true l.length n = false := by simp [openBad, hn]
      have Hq := Aside0.mk hq
      clear hq
      go_wp2
      go_ret
      exact ⟨_, rfl, ⟨_, by rw [Hq.out]; exact Hend.out _⟩, Hb.out _⟩

end Go.Proofs.YtppjodchlpapdaaDoor.PB
