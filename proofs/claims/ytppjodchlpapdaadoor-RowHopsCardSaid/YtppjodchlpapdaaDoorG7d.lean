/- row.ReadHop answers as row_ReadHop.f says. Conditions: row_ReadHop.f has an answer. -/
import Derived.Test.YtppjodchlpapdaaDoorG7c
import Derived.Lib.SlicesS
import Derived.Test.YtppjodchlpapdaaDoorPBx50
namespace Go.Proofs.YtppjodchlpapdaaDoor.PB
open Go.RowKit Go.Sort Go.Lib Go.Proofs Go.Proofs.YtppjodchlpapdaaDoor Go.Proofs.YtppjodchlpapdaaDoorW.PrintWords
set_option linter.unusedVariables false
set_option linter.unusedSimpArgs false

theorem splitGo_sizes : ∀ (g : Nat) (rest : ByteArray) (out : List ByteArray) (M : Nat), rest.size ≤ M → (∀ x ∈ out, x.size ≤ M) → ∀ x ∈ (splitGo g rest out).1, x.size ≤ M
  | 0, rest, out, M, h, ho, x, hx => ho x hx
  | g + 1, rest, out, M, h, ho, x, hx => by
    unfold splitGo at hx
    split at hx
    · exact ho x hx
    · split at hx
      · cases hx
      · rename_i n hn
        have ht := tail_size rest
        refine splitGo_sizes g _ _ M ?_ ?_ x hx
        · rw [ByteArray.size_extract]; omega
        · intro y hy
          rcases List.mem_append.1 hy with hy | hy
          · exact ho y hy
          · rw [List.mem_singleton.1 hy, ByteArray.size_extract]; omega

def hopBad (l : List ByteArray) (bad : Bool) : Bool :=
  badNum l.tail.tail.tail.tail (badNum l.tail.tail.tail (badAddr l.tail.tail (badNum l.tail (badAddr l bad))))

def row_ReadHop.f (a0 : ByteArray) : Option (Int × Int × Int × Int × Int × Bool) :=
  if a0.size < 4294967281 then
    if hopBad (splitGo a0.size a0 []).1 (openBad (splitGo a0.size a0 []).2 (splitGo a0.size a0 []).1.length 5) then some (0, 0, 0, 0, 0, false)
    else (row_Hop.f ((addrV (headV (splitGo a0.size a0 []).1)).getD 0) ((numV (headV (splitGo a0.size a0 []).1.tail)).getD 0) ((addrV (headV (splitGo a0.size a0 []).1.tail.tail)).getD 0) ((numV (headV (splitGo a0.size a0 []).1.tail.tail.tail)).getD 0) ((numV (headV (splitGo a0.size a0 []).1.tail.tail.tail.tail)).getD 0)).bind fun t =>
      if t = a0 then some ((addrV (headV (splitGo a0.size a0 []).1)).getD 0, (numV (headV (splitGo a0.size a0 []).1.tail)).getD 0, (addrV (headV (splitGo a0.size a0 []).1.tail.tail)).getD 0, (numV (headV (splitGo a0.size a0 []).1.tail.tail.tail)).getD 0, (numV (headV (splitGo a0.size a0 []).1.tail.tail.tail.tail)).getD 0, true)
      else some (0, 0, 0, 0, 0, false)
  else none

theorem badAddr_false {l : List ByteArray} {b : Bool} (h : badAddr l b = false) : b = false := by
  cases b with
  | false => rfl
  | true => simp [badAddr] at h
theorem badNum_false {l : List ByteArray} {b : Bool} (h : badNum l b = false) : b = false := by
  cases b with
  | false => rfl
  | true => simp [badNum] at h

set_option maxHeartbeats 4000000 in
set_option maxRecDepth 100000 in
theorem row_ReadHop.calls (a0 : ByteArray) (r1 r2 r3 r4 r5 : Int) (r6 : Bool) (w : World) (hV : VarsOk w) (h : row_ReadHop.f a0 = some (r1, r2, r3, r4, r5, r6)) :
    Calls Tryd.prog 15 #[.string a0] w fun e w' => e = .returned (.tuple #[.agg #[.int .u32 r1, .int .i64 r2, .int .u32 r3, .int .i64 r4, .int .i64 r5], .bool r6]) ∧ Below w.heap.size w w' := by
  unfold row_ReadHop.f at h
  split at h
  · rename_i hs
    obtain ⟨l, hl⟩ : ∃ l, (splitGo a0.size a0 []).1 = l := ⟨_, rfl⟩
    obtain ⟨bad, hbad⟩ : ∃ b, openBad (splitGo a0.size a0 []).2 (splitGo a0.size a0 []).1.length 5 = b := ⟨_, rfl⟩
    have hms : ∀ x ∈ l, x.size ≤ 281474976710656 := by
      rw [← hl]
      exact splitGo_sizes _ _ _ _ (by omega) (by simp)
    have hop := fun (W : World) (hW : VarsOk W) => open_calls a0 5 hs W hW
    rw [hbad, hl] at h
    rw [hbad] at hop
    rw [hl] at hop
    have hh : ∀ l : List ByteArray, (∀ s ∈ l, s.size ≤ 281474976710656) → (headV l).size ≤ 281474976710656 := fun l hl => by
      cases l with
      | nil => exact Nat.zero_le _
      | cons a l => exact hl a (List.mem_cons_self)
    have ht : ∀ l : List ByteArray, (∀ s ∈ l, s.size ≤ 281474976710656) → (∀ s ∈ l.tail, s.size ≤ 281474976710656) := fun l hl s hs' => hl s (List.mem_of_mem_tail hs')
    have hm2 := ht _ (ht _ hms)
    have hm3 := ht _ hm2
    have hm4 := ht _ hm3
    clear hl hbad
    obtain ⟨W0, hW0⟩ : ∃ W0, W0 = w.alloc (.cells #[.int .u32 0, .int .i64 0, .int .u32 0, .int .i64 0, .int .i64 0] 35 (0, 0)) := ⟨_, rfl⟩
    have hV0 : VarsOk W0 := by rw [hW0]; exact hV.below (below_alloc (Below.refl _ _) _)
    have hbW : Below w.heap.size w W0 := by rw [hW0]; exact below_alloc (Below.refl _ _) _
    have hbk0 : W0.heap[w.heap.size]? = some (.cells #[.int .u32 0, .int .i64 0, .int .u32 0, .int .i64 0, .int .i64 0] 35 (0, 0)) := by rw [hW0]; exact blk_new w _
    have HbW := Aside0.mk hbW
    have Hbk0 := Aside0.mk hbk0
    have hlt0 : w.heap.size < W0.heap.size := (Array.getElem?_eq_some_iff.1 hbk0).1
    have hop0 := Aside0.mk (hop W0 hV0)
    have P1 := Aside0.mk (fun W N rb => prefix_calls W0 W hV0 N rb l bad hms)
    have P2 := Aside0.mk (fun W N rb => addr_calls W0 W hV0 N rb l.tail.tail (badNum l.tail (badAddr l bad)) (hh _ hm2))
    have P3 := Aside0.mk (fun W N rb => num_calls W0 W hV0 N rb l.tail.tail.tail (badAddr l.tail.tail (badNum l.tail (badAddr l bad))) (hh _ hm3))
    have P4 := Aside0.mk (fun W N rb => num_calls W0 W hV0 N rb l.tail.tail.tail.tail (badNum l.tail.tail.tail (badAddr l.tail.tail (badNum l.tail (badAddr l bad)))) (hh _ hm4))
    have H := Aside0.mk h
    clear hop hbW hbk0 hms hh ht hm2 hm3 hm4 h
    go_enter Tryd.func15, Tryd.ntmps15
    go_wp2_with (go_at_call 30; rw [← hW0]; refine hop0.out.mono ?_)
    rintro e w1 ⟨rb, rfl, ⟨N, hr1⟩, hb1⟩
    clear hop0
    go_wp2_with (go_at_call 31; refine (P1.out _ _ _ hr1 hb1).mono ?_)
    rintro e w2 ⟨v1, v2, rfl, hv12, hr2, hb2, -⟩
    have Hv12 := Aside0.mk hv12
    clear P1 hr1 hb1 hv12
    go_wp2_with (go_at_call 32; refine (P2.out _ _ _ hr2 hb2).mono ?_)
    rintro e w3 ⟨v3, rfl, hv3, hr3, hb3, -⟩
    have Hv3 := Aside0.mk hv3
    clear P2 hr2 hb2 hv3
    go_wp2_with (go_at_call 33; refine (P3.out _ _ _ hr3 hb3).mono ?_)
    rintro e w4 ⟨v4, rfl, hv4, hr4, hb4, -⟩
    have Hv4 := Aside0.mk hv4
    clear P3 hr3 hb3 hv4
    go_wp2_with (go_at_call 33; refine (P4.out _ _ _ hr4 hb4).mono ?_)
    rintro e w5 ⟨v5, rfl, hv5, hr5, hb5, -⟩
    have Hv5 := Aside0.mk hv5
    clear P4 hr4 hb4 hv5
    have hE := hb5.block _ hlt0
    have hbk5 := hE.trans Hbk0.out
    clear hE
    obtain ⟨hB, hrN, hN, A, c, hh5, -⟩ := hr5
    have hneb : w.heap.size ≠ rb := by omega
    have cb : w5.cell? ⟨rb, 1, none⟩ = some (.bool (hopBad l bad)) := (blk_cell hh5 1).trans rfl
    have a0' := (blk_cell hbk5 0).trans rfl
    have a1' := (blk_cell hbk5 1).trans rfl
    have a2' := (blk_cell hbk5 2).trans rfl
    have a3' := (blk_cell hbk5 3).trans rfl
    have a4' := (blk_cell hbk5 4).trans rfl
    have g0 := blk_frozen hbk5 0
    have g1 := blk_frozen hbk5 1
    have g2 := blk_frozen hbk5 2
    have g3 := blk_frozen hbk5 3
    have g4 := blk_frozen hbk5 4
    have hw5 : w.heap.size < w5.heap.size := Nat.lt_of_lt_of_le hlt0 hb5.size
    have hr5 : rb < w5.heap.size := Nat.lt_of_lt_of_le hrN hN
    have Hbk5 := Aside0.mk hbk5
    have Hb5 := Aside0.mk hb5
    clear hbk5 hb5 hh5 hN hrN
    obtain ⟨hbd, hhb⟩ : ∃ b, hopBad l bad = b := ⟨_, rfl⟩
    rw [hhb] at cb
    have Hhb := Aside0.mk hhb
    clear hhb
    cases hbd with
    | true =>
      have Hr := Aside0.mk (show (0, 0, 0, 0, 0, false) = (r1, r2, r3, r4, r5, r6) from by
        have h1 := H.out
        rw [if_pos Hhb.out] at h1
        exact Option.some.inj h1)
      go_wp2
      refine bodyPost_ret (results_ct rfl _ _ w.heap.size 35 #[.int .u32 0, .int .i64 0, .int .u32 0, .int .i64 0, .int .i64 0] (0, 0) _ rfl (blk_alloc (blk_put (cs := #[.int .u32 0, .int .i64 0, .int .u32 0, .int .i64 0, .int .i64 0]) (blk_put (cs := #[.int .u32 0, .int .i64 0, .int .u32 0, .int .i64 0, .int .i64 0]) (blk_put (cs := #[.int .u32 0, .int .i64 0, .int .u32 0, .int .i64 0, .int .i64 0]) (blk_put (cs := #[.int .u32 0, .int .i64 0, .int .u32 0, .int .i64 0, .int .i64 0]) (blk_put (cs := #[.int .u32 0, .int .i64 0, .int .u32 0, .int .i64 0, .int .i64 0]) Hbk5.out 0 _ rfl) 1 _ rfl) 2 _ rfl) 3 _ rfl) 4 _ rfl) _) Tryd.underlying35 rfl (by kernel_rfl)) rfl ?_
      injection Hr.out with q1 q
      injection q with q2 q
      injection q with q3 q
      injection q with q4 q
      injection q with q5 q6
      subst q1 q2 q3 q4 q5 q6
      exact ⟨rfl, below_alloc ((((((below_step HbW.out Hb5.out).setCell (p := ⟨w.heap.size, 0, none⟩) (Nat.le_refl _) _).setCell (p := ⟨w.heap.size, 1, none⟩) (Nat.le_refl _) _).setCell (p := ⟨w.heap.size, 2, none⟩) (Nat.le_refl _) _).setCell (p := ⟨w.heap.size, 3, none⟩) (Nat.le_refl _) _).setCell (p := ⟨w.heap.size, 4, none⟩) (Nat.le_refl _) _) _⟩
    | false =>
      have e5 : badNum l.tail.tail.tail.tail (badNum l.tail.tail.tail (badAddr l.tail.tail (badNum l.tail (badAddr l bad)))) = false := Hhb.out
      have e4 := badNum_false e5
      have e3 := badNum_false e4
      have e2 := badAddr_false e3
      have x5 := Hv5.out e5
      have x4 := Hv4.out e4
      have x3 := Hv3.out e3
      obtain ⟨x1, x2⟩ := Hv12.out e2
      have h1 := H.out
      rw [if_neg (by rw [Hhb.out]; decide), x1, x2, x3, x4, x5] at h1
      simp only [Option.getD_some] at h1
      obtain ⟨t, A1, h2⟩ := Option.bind_eq_some_iff.1 h1
      have hop := Aside0.mk (fun W (hW : VarsOk W) => row_Hop.calls v1 v2 v3 v4 v5 t W hW A1)
      have hwv : VarsOk (w5.alloc (.cells #[.int .u32 v1, .int .i64 v2, .int .u32 v3, .int .i64 v4, .int .i64 v5] 35 (0, 0))) := hV.below (below_alloc (below_step HbW.out Hb5.out) _)
      have Hwv := Aside0.mk hwv
      have H2 := Aside0.mk h2
      clear e5 e4 e3 e2 x5 x4 x3 x1 x2 h1 A1 h2 hwv
      go_wp2_with (go_at_call 14; refine (hop.out _ Hwv.out).mono ?_)
      rintro e w6 ⟨rfl, hb6⟩
      have hnew := blk_below (blk_new w5 _) hb6
      have hold := blk_below (blk_alloc Hbk5.out _) hb6
      have n0' := (blk_cell hnew 0).trans rfl
      have n1' := (blk_cell hnew 1).trans rfl
      have n2' := (blk_cell hnew 2).trans rfl
      have n3' := (blk_cell hnew 3).trans rfl
      have n4' := (blk_cell hnew 4).trans rfl
      have o0' := (blk_cell hold 0).trans rfl
      have o1' := (blk_cell hold 1).trans rfl
      have o2' := (blk_cell hold 2).trans rfl
      have o3' := (blk_cell hold 3).trans rfl
      have o4' := (blk_cell hold 4).trans rfl
      have k0 := blk_frozen hold 0
      have k1 := blk_frozen hold 1
      have k2 := blk_frozen hold 2
      have k3 := blk_frozen hold 3
      have k4 := blk_frozen hold 4
      have Hbk6 := Aside0.mk hold
      have Hb6 := Aside0.mk (below_step (below_alloc (below_step HbW.out Hb5.out) _) hb6)
      clear hnew hold hb6 hop g0 g1 g2 g3 g4 a0' a1' a2' a3' a4' cb
      obtain ⟨b, hb⟩ : ∃ b, (t.toList == a0.toList) = b := ⟨_, rfl⟩
      have hbi : b = true ↔ t = a0 := by rw [← hb]; exact Lib.bytes_beq_iff t a0
      have Hbi := Aside0.mk hbi
      clear hbi
      cases b with
      | false =>
        have Hr := Aside0.mk (show (0, 0, 0, 0, 0, false) = (r1, r2, r3, r4, r5, r6) from by
          have h1 := H2.out
          rw [if_neg (fun e => absurd (Hbi.out.2 e) (by decide))] at h1
          exact Option.some.inj h1)
        go_wp2
        refine bodyPost_ret (results_ct rfl _ _ w.heap.size 35 #[.int .u32 0, .int .i64 0, .int .u32 0, .int .i64 0, .int .i64 0] (0, 0) _ rfl (blk_put (cs := #[.int .u32 0, .int .i64 0, .int .u32 0, .int .i64 0, .int .i64 0]) (blk_put (cs := #[.int .u32 0, .int .i64 0, .int .u32 0, .int .i64 0, .int .i64 0]) (blk_put (cs := #[.int .u32 0, .int .i64 0, .int .u32 0, .int .i64 0, .int .i64 0]) (blk_put (cs := #[.int .u32 0, .int .i64 0, .int .u32 0, .int .i64 0, .int .i64 0]) (blk_put (cs := #[.int .u32 0, .int .i64 0, .int .u32 0, .int .i64 0, .int .i64 0]) Hbk6.out 0 _ rfl) 1 _ rfl) 2 _ rfl) 3 _ rfl) 4 _ rfl) Tryd.underlying35 rfl (by kernel_rfl)) rfl ?_
        injection Hr.out with q1 q
        injection q with q2 q
        injection q with q3 q
        injection q with q4 q
        injection q with q5 q6
        subst q1 q2 q3 q4 q5 q6
        exact ⟨rfl, ((((Hb6.out.setCell (p := ⟨w.heap.size, 0, none⟩) (Nat.le_refl _) _).setCell (p := ⟨w.heap.size, 1, none⟩) (Nat.le_refl _) _).setCell (p := ⟨w.heap.size, 2, none⟩) (Nat.le_refl _) _).setCell (p := ⟨w.heap.size, 3, none⟩) (Nat.le_refl _) _).setCell (p := ⟨w.heap.size, 4, none⟩) (Nat.le_refl _) _⟩
      | true =>
        have Hr := Aside0.mk (show (v1, v2, v3, v4, v5, true) = (r1, r2, r3, r4, r5, r6) from by
          have h1 := H2.out
          rw [if_pos (Hbi.out.1 rfl)] at h1
          exact Option.some.inj h1)
        go_wp2
        refine bodyPost_ret (results_ct rfl _ _ w.heap.size 35 #[.int .u32 v1, .int .i64 v2, .int .u32 v3, .int .i64 v4, .int .i64 v5] (0, 0) _ rfl (blk_put (cs := #[.int .u32 v1, .int .i64 v2, .int .u32 v3, .int .i64 v4, .int .i64 0]) (blk_put (cs := #[.int .u32 v1, .int .i64 v2, .int .u32 v3, .int .i64 0, .int .i64 0]) (blk_put (cs := #[.int .u32 v1, .int .i64 v2, .int .u32 0, .int .i64 0, .int .i64 0]) (blk_put (cs := #[.int .u32 v1, .int .i64 0, .int .u32 0, .int .i64 0, .int .i64 0]) (blk_put (cs := #[.int .u32 0, .int .i64 0, .int .u32 0, .int .i64 0, .int .i64 0]) Hbk6.out 0 _ rfl) 1 _ rfl) 2 _ rfl) 3 _ rfl) 4 _ rfl) Tryd.underlying35 rfl (by kernel_rfl)) rfl ?_
        injection Hr.out with q1 q
        injection q with q2 q
        injection q with q3 q
        injection q with q4 q
        injection q with q5 q6
        subst q1 q2 q3 q4 q5 q6
        exact ⟨rfl, ((((Hb6.out.setCell (p := ⟨w.heap.size, 0, none⟩) (Nat.le_refl _) _).setCell (p := ⟨w.heap.size, 1, none⟩) (Nat.le_refl _) _).setCell (p := ⟨w.heap.size, 2, none⟩) (Nat.le_refl _) _).setCell (p := ⟨w.heap.size, 3, none⟩) (Nat.le_refl _) _).setCell (p := ⟨w.heap.size, 4, none⟩) (Nat.le_refl _) _⟩
  · cases h

end Go.Proofs.YtppjodchlpapdaaDoor.PB
