/- row.Split reads texts off as splitGo does. Conditions: the text is shorter than 4294967281 bytes. -/
import Derived.Test.YtppjodchlpapdaaDoorG6
import Derived.Lib.AtoiErrMem
namespace Go.Proofs.YtppjodchlpapdaaDoor.PB
open Go.RowKit Go.Sort Go.Lib Go.Proofs Go.Proofs.YtppjodchlpapdaaDoor Go.Proofs.YtppjodchlpapdaaDoorW.PrintWords
set_option linter.unusedVariables false
set_option linter.unusedSimpArgs false

def AtoiSays (s : ByteArray) (v : Int) (ev : Value) : Prop :=
  (Lib.atoiAll s.data.toList = .ok v ∧ ev = .nilIface) ∨ ((∀ u, Lib.atoiAll s.data.toList ≠ .ok u) ∧ ∃ N, ev = .iface 88 (.pointer (some ⟨N, 0, none⟩)))

theorem Atoi_calls (s : ByteArray) (hs : s.size ≤ 281474976710656) (w : World) (hV : VarsOk w) :
    Calls Tryd.prog 26 #[.string s] w fun e w' => ∃ v ev, e = .returned (.tuple #[.int .i64 v, ev]) ∧ AtoiSays s v ev ∧ Below w.heap.size w w' := by
  obtain ⟨h1, ⟨tp, p, h2⟩, ⟨tq, q, h3⟩, m, h4⟩ := hV
  cases ha : Lib.atoiAll s.data.toList with
  | ok v =>
    refine (Tryd.strconv_Atoi_ok s (by omega) v ha w).mono ?_
    rintro e w' ⟨rfl, hw⟩
    refine ⟨v, _, rfl, .inl ⟨ha, rfl⟩, ?_⟩
    rcases hw with rfl | ⟨t, rfl⟩
    · exact Below.refl _ _
    · exact Lib.bytesWorld_below w 5 t
  | range =>
    refine (Tryd.strconv_Atoi_range_var s hs ha tq q w h3).mono ?_
    rintro e w' ⟨N, rfl, _, _, hb⟩
    exact ⟨_, _, rfl, .inr ⟨(fun u hu => by rw [ha] at hu; cases hu), N, rfl⟩, hb⟩
  | _ =>
    refine (Tryd.strconv_Atoi_syntax_var s hs ha tp p w h2).mono ?_
    rintro e w' ⟨N, rfl, _, _, hb⟩
    exact ⟨_, _, rfl, .inr ⟨(fun u hu => by rw [ha] at hu; cases hu), N, rfl⟩, hb⟩

theorem Cut_calls (s sep : ByteArray) (w : World) (hs : s.size < 4294967281) (hV : VarsOk w) :
    Calls Tryd.prog 25 #[.string s, .string sep] w fun e w' => e = .returned (.tuple #[.string ⟨(Lib.cut s.data.toList sep.data.toList).1.toArray⟩, .string ⟨(Lib.cut s.data.toList sep.data.toList).2.1.toArray⟩, .bool (Lib.cut s.data.toList sep.data.toList).2.2]) ∧ Below w.heap.size w w' := by
  obtain ⟨m, h4⟩ := hV.2.2.2
  refine (Tryd.strings_Cut s sep m w hs h4).mono ?_
  rintro e w' ⟨rfl, n, rfl⟩
  exact ⟨rfl, pw_below_drewN (Below.refl _ _) _⟩

def numOf (s : ByteArray) : ByteArray := ⟨(Lib.cut s.data.toList [58]).1.toArray⟩
def tailOf (s : ByteArray) : ByteArray := ⟨(Lib.cut s.data.toList [58]).2.1.toArray⟩
def okOf (s : ByteArray) : Bool := (Lib.cut s.data.toList [58]).2.2

theorem tail_size (s : ByteArray) : (tailOf s).size ≤ s.size := by
  have h : (Lib.cut s.data.toList [58]).2.1.length ≤ s.data.toList.length := by
    unfold Lib.cut; split <;> simp
  exact Nat.le_trans (Nat.le_of_eq List.size_toArray) (Nat.le_trans h (Nat.le_of_eq Array.length_toList))
theorem num_size (s : ByteArray) : (numOf s).size ≤ s.size := by
  have h : (Lib.cut s.data.toList [58]).1.length ≤ s.data.toList.length := by
    unfold Lib.cut; split <;> simp <;> omega
  exact Nat.le_trans (Nat.le_of_eq List.size_toArray) (Nat.le_trans h (Nat.le_of_eq Array.length_toList))
theorem tail_lt (s : ByteArray) (h : okOf s = true) : (tailOf s).size < s.size := by
  have h2 : (Lib.cut s.data.toList [58]).2.1.length < s.data.toList.length := by
    unfold okOf at h
    unfold Lib.cut at h ⊢
    split at h
    · rename_i hi
      rw [if_pos hi]
      cases hl : s.data.toList with
      | nil => rw [hl] at hi; exact absurd hi (by decide)
      | cons x xs => simp only [List.length_drop, List.length_cons]; omega
    · cases h
  exact Nat.lt_of_le_of_lt (Nat.le_of_eq List.size_toArray) (Nat.lt_of_lt_of_le h2 (Nat.le_of_eq Array.length_toList))

/-- The length that a row's head names, where it is good. -/
def headOf (s : ByteArray) : Option Nat :=
  if okOf s then
    match Lib.atoiAll (numOf s).data.toList with
    | .ok n => if 0 ≤ n ∧ n ≤ (tailOf s).size ∧ Lib.itoa n = (numOf s).data.toList then some n.toNat else none
    | _ => none
  else none

def splitGo : Nat → ByteArray → List ByteArray → List ByteArray × Bool
  | 0, _, out => (out, true)
  | g + 1, rest, out =>
    if rest.size = 0 then (out, true) else
      match headOf rest with
      | none => ([], false)
      | some n => splitGo g ((tailOf rest).extract n (tailOf rest).size) (out ++ [(tailOf rest).extract 0 n])

def row_Split.f (a0 : ByteArray) : Option (List ByteArray × Bool) :=
  if a0.size < 4294967281 then some (splitGo a0.size a0 []) else none

theorem infoStr : (Tryd.prog.info? 9).map (fun i => (i.zero, i.size, i.bytes)) = some (some (.string ⟨#[]⟩), 1, 16) := by kernel_rfl

set_option maxHeartbeats 8000000 in
set_option maxRecDepth 100000 in
theorem row_Split.calls (a0 : ByteArray) (r1 : List ByteArray) (r2 : Bool) (w : World) (hV : VarsOk w) (h : row_Split.f a0 = some (r1, r2)) :
    Calls Tryd.prog 10 #[.string a0] w fun e w' => ∃ v0_ : Value, e = .returned (.tuple #[v0_, .bool r2]) ∧ Kd.R Kd.string 9 w' w.heap.size (fun _ => True) v0_ r1 ∧ Below w.heap.size w w' := by
  unfold row_Split.f at h
  split at h
  · rename_i hc
    have hres := Option.some.inj h
    clear h
    go_enter Tryd.func10, Tryd.ntmps10
    go_wp2
    go_loopg [4, 5] (a0.size) (fun g s4 s5 wx => ∃ (rest : ByteArray) (out : List ByteArray), s5 = .string rest ∧ rest.size ≤ g ∧ splitGo g rest out = (r1, r2) ∧ Kd.R Kd.string 9 wx w.heap.size (fun _ => True) s4 out ∧ Below w.heap.size w wx ∧ out.length + rest.size ≤ a0.size)
    case atStart => exact ⟨a0, [], rfl, Nat.le_refl _, hres, Kd.R_nil _ _ _ _ _, Below.refl _ _, by simp⟩
    case round =>
      obtain ⟨rest, out, rfl, hg, hgo, hR, hbw, hlen⟩ := hrel
      have hv := hV.below hbw
      obtain ⟨A4, c4, rfl⟩ := Kd.R_slice hR
      by_cases hz : rest.size = 0
      · have he : rest = ⟨#[]⟩ := by
          have h0 : rest.data.size = 0 := hz
          have h1 := Array.eq_empty_of_size_eq_zero h0
          cases rest
          simp only at h1
          rw [h1]
        subst he
        have hr : (out, true) = (r1, r2) := by
          rw [← hgo]
          cases gk <;> simp [splitGo, ByteArray.size]
        injection hr with e1 e2
        subst e1 e2
        go_wp2
        go_ret2
        exact ⟨_, rfl, hR, hbw⟩
      · have hne : rest ≠ (⟨#[]⟩ : ByteArray) := fun e => hz (by rw [e]; rfl)
        have hem : rest.toList.isEmpty = false := by
          rw [Lib.toList_data]
          cases hl : rest.data.toList with
          | nil => exact absurd (by rw [show rest.size = rest.data.toList.length from Array.length_toList.symm, hl]; rfl) hz
          | cons x xs => rfl
        obtain ⟨g, rfl⟩ : ∃ g, gk = g + 1 := ⟨gk - 1, by omega⟩
        rw [splitGo, if_neg hz] at hgo
        have hts := tail_size rest
        have hns := num_size rest
        obtain ⟨num, Hnum⟩ : ∃ x, Aside0 (x = numOf rest) := ⟨_, Aside0.mk rfl⟩
        obtain ⟨tail, Htail⟩ : ∃ x, Aside0 (x = tailOf rest) := ⟨_, Aside0.mk rfl⟩
        obtain ⟨okb, Hokb⟩ : ∃ x, Aside0 (x = okOf rest) := ⟨_, Aside0.mk rfl⟩
        have hcut : ∀ W : World, VarsOk W → Calls Tryd.prog 25 #[.string rest, .string ⟨#[58]⟩] W fun e w' => e = .returned (.tuple #[.string num, .string tail, .bool okb]) ∧ Below W.heap.size W w' := by
          rw [Hnum.out, Htail.out, Hokb.out]
          exact fun W hW => Cut_calls rest ⟨#[58]⟩ W (by omega) hW
        have hatoi : ∀ W : World, VarsOk W → Calls Tryd.prog 26 #[.string num] W fun e w' => ∃ v ev, e = .returned (.tuple #[.int .i64 v, ev]) ∧ AtoiSays num v ev ∧ Below W.heap.size W w' :=
          fun W hW => Atoi_calls num (by rw [Hnum.out]; omega) W hW
        have hgo' : splitGo (g + 1) rest out = (r1, r2) := by rw [splitGo, if_neg hz]; exact hgo
        go_wp2_with (go_at_call 25; refine (hcut _ hv).mono ?_; rintro e w1 ⟨rfl, hb1⟩)
        have hbw1 := below_step hbw hb1
        go_at_call 26
        refine (hatoi w1 (hV.below hbw1)).mono ?_
        rintro e w2 ⟨v, ev, rfl, hsay, hb2⟩
        have hbw2 := below_step hbw1 hb2
        have hR2 := Kd.R_below (Kd.R_below hR hb1) hb2
        have hbad : headOf rest = none → r1 = [] ∧ r2 = false := fun hh => by
          rw [hh] at hgo
          injection hgo with e1 e2
          exact ⟨e1.symm, e2.symm⟩
        have Hbad := Aside0.mk hbad
        have Hgo := Aside0.mk hgo
        clear hbad hgo hgo' hcut hatoi
        cases okb with
        | false =>
          have Hr := Aside0.mk (Hbad.out (by unfold headOf; rw [← Hokb.out]; rfl))
          go_wp2
          go_ret2
          obtain ⟨rfl, rfl⟩ := Hr.out
          exact ⟨_, rfl, Kd.R_nil _ _ _ _ _, hbw2⟩
        | true =>
          rcases hsay with ⟨ha, rfl⟩ | ⟨hno, N, rfl⟩
          · have hhead : headOf rest = if 0 ≤ v ∧ v ≤ tail.size ∧ Lib.itoa v = num.data.toList then some v.toNat else none := by
              unfold headOf
              rw [← Hokb.out, if_pos rfl, ← Hnum.out, ← Htail.out, ha]
            have Hhead := Aside0.mk hhead
            clear hhead ha
            have htl : tail.size ≤ 4294967281 := by rw [Htail.out]; omega
            have htl2 : tail.size < rest.size := by rw [Htail.out]; exact tail_lt rest Hokb.out.symm
            by_cases hv0 : v < 0
            · have Hr := Aside0.mk (Hbad.out (by rw [Hhead.out, if_neg]; omega))
              go_wp2
              go_ret2
              obtain ⟨rfl, rfl⟩ := Hr.out
              exact ⟨_, rfl, Kd.R_nil _ _ _ _ _, hbw2⟩
            · by_cases hv1 : (tail.size : Int) < v
              · have Hr := Aside0.mk (Hbad.out (by rw [Hhead.out, if_neg]; omega))
                go_wp2
                go_ret2
                obtain ⟨rfl, rfl⟩ := Hr.out
                exact ⟨_, rfl, Kd.R_nil _ _ _ _ _, hbw2⟩
              · obtain ⟨n, rfl⟩ : ∃ n : Nat, v = n := ⟨v.toNat, by omega⟩
                have hit : strconv_Itoa_22.f (n : Int) = some ⟨(Lib.itoa (n : Int)).toArray⟩ := by unfold strconv_Itoa_22.f; rw [if_pos (by omega)]
                have hita : ∀ W : World, VarsOk W → Calls Tryd.prog 22 #[.int .i64 (n : Int)] W fun e w' => e = .returned (.string ⟨(Lib.itoa (n : Int)).toArray⟩) ∧ Below W.heap.size W w' := fun W hW => strconv_Itoa_22.calls _ _ W hW hit
                clear hit
                obtain ⟨t, ht⟩ : ∃ t : ByteArray, t = ⟨(Lib.itoa (n : Int)).toArray⟩ := ⟨_, rfl⟩
                rw [← ht] at hita
                have Ht := Aside0.mk ht
                clear ht
                obtain ⟨b, hb⟩ : ∃ b, (t.toList == num.toList) = b := ⟨_, rfl⟩
                have hbi : b = true ↔ Lib.itoa (n : Int) = num.data.toList := by
                  rw [← hb, Lib.toList_data, Lib.toList_data, beq_iff_eq, Ht.out]
                have Hbi := Aside0.mk hbi
                clear hbi
                have hv2 := hV.below hbw2
                cases b with
                | false =>
                  have Hr := Aside0.mk (Hbad.out (by rw [Hhead.out, if_neg]; rintro ⟨_, _, h3⟩; exact absurd (Hbi.out.2 h3) (by decide)))
                  go_wp2_with (go_at_call 22; refine (hita _ hv2).mono ?_; rintro e w3 ⟨rfl, hb3⟩)
                  go_ret2
                  obtain ⟨rfl, rfl⟩ := Hr.out
                  exact ⟨_, rfl, Kd.R_nil _ _ _ _ _, below_step hbw2 hb3⟩
                | true =>
                  have hnl : n ≤ tail.size := by omega
                  have HgoN : Aside0 (splitGo g (tail.extract n tail.size) (out ++ [tail.extract 0 n]) = (r1, r2)) := Aside0.mk (by
                    have h1 := Hgo.out
                    rw [Hhead.out, if_pos ⟨by omega, by omega, Hbi.out.1 rfl⟩] at h1
                    rw [← Htail.out] at h1
                    simpa using h1)
                  have hnv : ¬ ((n : Int) < 0) := by omega
                  have hlenO : out.length ≤ 4294967281 := by omega
                  have Hlen := Aside0.mk hlen
                  clear hlen
                  go_wp2_with (go_at_call 22; refine (hita _ hv2).mono ?_)
                  rintro e w3 ⟨rfl, hb3⟩
                  have hbw3 := below_step hbw2 hb3
                  have hR3 := Kd.R_below hR2 hb3
                  go_wp2_with (at_builtin; go_must (refine Kd.R_append Kd.string (w0 := w) w.heap.size rfl (.tmp 47) (.tmp 51) 22 9 (.string ⟨#[]⟩) 16 rfl Tryd.underlying22 infoStr rfl (by decide) (by omega) (.slice A4 out.length c4) out (tail.extract 0 n) [.string (tail.extract 0 n)] (fun _ => True) (fun _ => False) rfl rfl rfl (fun _ hk => hk.elim) (fun _ _ => trivial) hR3 hbw3 (below_size hbw3) (by omega) ?_))
                  intro v5 w5 ho hb5 hg5 hat5
                  clear hg5 hat5
                  go_wp2
                  go_roundg g
                  case measure => omega
                  case rel =>
                    refine ⟨_, _, rfl, ?_, HgoN.out, ho, hb5, ?_⟩
                    · rw [ByteArray.size_extract]; omega
                    · have := Hlen.out
                      rw [ByteArray.size_extract, List.length_append, List.length_singleton]; omega
          · have Hr := Aside0.mk (Hbad.out (by
              unfold headOf
              rw [← Hokb.out, if_pos rfl, ← Hnum.out]
              cases hx : Lib.atoiAll num.data.toList with
              | ok u => exact absurd hx (hno u)
              | _ => rfl))
            clear hno
            go_wp2
            go_ret2
            obtain ⟨rfl, rfl⟩ := Hr.out
            exact ⟨_, rfl, Kd.R_nil _ _ _ _ _, hbw2⟩
  · cases h
end Go.Proofs.YtppjodchlpapdaaDoor.PB
