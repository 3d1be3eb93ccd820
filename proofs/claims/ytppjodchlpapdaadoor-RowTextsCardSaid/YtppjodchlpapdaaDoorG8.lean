/- The reference's Dec gives the decimal numeral, and its Texts what row.Texts gives. Conditions: sizes stay below 2^47. -/
import Derived.Test.YtppjodchlpapdaaDoorG6b
import Derived.Test.YtppjodchlpapdaaDoorPBx61
namespace Go.Proofs.YtppjodchlpapdaaDoor.PB
open Go.RowKit Go.Sort Go.Lib Go.Proofs Go.Proofs.YtppjodchlpapdaaDoor Go.Proofs.YtppjodchlpapdaaDoorW.PrintWords Go.Proofs.YtppjodchlpapdaaDoorW.PrintLast Go.Proofs.YtppjodchlpapdaaDoorW.PrintMore
set_option linter.unusedVariables false
set_option linter.unusedSimpArgs false

theorem digit_str (d : Nat) (h : d < 10) : strOfNums [((48 + d : Nat) : Int)] = ⟨#[UInt8.ofNat (48 + d)]⟩ := by
  match d, h with
  | 0, _ => rfl
  | 1, _ => rfl
  | 2, _ => rfl
  | 3, _ => rfl
  | 4, _ => rfl
  | 5, _ => rfl
  | 6, _ => rfl
  | 7, _ => rfl
  | 8, _ => rfl
  | 9, _ => rfl
theorem append_toArray (a b : List UInt8) : (⟨a.toArray⟩ : ByteArray) ++ ⟨b.toArray⟩ = ⟨(a ++ b).toArray⟩ := by
  exact congrArg ByteArray.mk (by simp)

theorem ref11_dec_eq : ∀ (k u : Nat), u < 10 ^ (k + 1) → u < 18446744073709551616 → interregnumref11_dec.f (k + 1) (u : Int) = some ⟨(Lib.decDigits u).toArray⟩ := by
  intro k
  induction k with
  | zero =>
    intro u h1 h2
    have h3 : u < 10 := by simpa using h1
    unfold interregnumref11_dec.f
    rw [if_pos (by omega), Lib.decDigits_one h3, show (48 + (u : Int) % 256) % 256 = ((48 + u : Nat) : Int) by omega, digit_str u h3]
  | succ k ih =>
    intro u h1 h2
    unfold interregnumref11_dec.f
    by_cases h3 : u < 10
    · rw [if_pos (by omega), Lib.decDigits_one h3, show (48 + (u : Int) % 256) % 256 = ((48 + u : Nat) : Int) by omega, digit_str u h3]
    · rw [if_neg (by omega)]
      have e1 : Int.tdiv (u : Int) 10 = ((u / 10 : Nat) : Int) := rfl
      have e2 : Int.tmod (u : Int) 10 = ((u % 10 : Nat) : Int) := rfl
      have e3 : IntKind.u64.wrap ((u / 10 : Nat) : Int) = ((u / 10 : Nat) : Int) := by rw [IntKind.wrap_u64]; omega
      rw [e1, e2, e3, ih (u / 10) (by rw [Nat.pow_succ] at h1; omega) (by omega), show (48 + ((u % 10 : Nat) : Int) % 256) % 256 = ((48 + u % 10 : Nat) : Int) by omega]
      simp only [Option.bind_some]
      rw [digit_str (u % 10) (Nat.mod_lt _ (by decide))]
      have hl : (Lib.decDigits (u / 10)).length ≤ 20 := by
        rw [Lib.decDigits_length]
        have := Lib.numDigits_eq (u / 10) (by omega) (by omega)
        split at this <;> omega
      rw [if_pos (by rw [ba_size]; show _ + 1 ≤ _; omega)]
      rw [show (⟨#[UInt8.ofNat (48 + u % 10)]⟩ : ByteArray) = ⟨[UInt8.ofNat (48 + u % 10)].toArray⟩ from rfl, append_toArray]
      conv => rhs; rw [Lib.decDigits, dif_neg h3]

theorem ref11_Dec_eq (k u : Nat) (hk : u < 10 ^ (k + 1)) (h : u < 9223372036854775808) : interregnumref11_Dec.f (k + 1) (u : Int) = some ⟨(Lib.itoa (u : Int)).toArray⟩ := by
  unfold interregnumref11_Dec.f
  rw [if_neg (by omega), show IntKind.u64.wrap (u : Int) = (u : Int) by rw [IntKind.wrap_u64]; omega, ref11_dec_eq k u hk (by omega), Lib.itoa_nonneg]
  rfl

def interregnumref11_Texts.f (l0 : List ByteArray) : Option ByteArray :=
  if (textsL l0).length ≤ 140737488355328 then some ⟨(textsL l0).toArray⟩ else none

set_option maxHeartbeats 4000000 in
set_option maxRecDepth 100000 in
theorem interregnumref11_Texts.calls (A0 : Option Addr) (c0 : Nat) (l0 : List ByteArray) (r : ByteArray) (w : World) (hr0 : Kd.C Kd.string w A0 l0.length l0) (hc0 : l0.length ≤ c0) (h : interregnumref11_Texts.f l0 = some r) :
    Calls Tryd.prog 12 #[.slice A0 l0.length c0] w fun e w' => e = .returned (.string r) ∧ Below w.heap.size w w' := by
  unfold interregnumref11_Texts.f at h
  split at h
  · rename_i hc
    cases h
    have hn := textsL_count l0
    have hn2 : l0.length ≤ 140737488355328 := by omega
    go_enter Tryd.func12, Tryd.ntmps12
    go_wp2
    go_loopg [3, 4] (l0.length) (fun g s3 s4 wx => ∃ i : Nat, i + g = l0.length ∧ s3 = .string ⟨(textsL (l0.take i)).toArray⟩ ∧ s4 = .int .i64 i ∧ Below w.heap.size w wx)
    case atStart => exact ⟨0, by omega, rfl, rfl, Below.refl _ _⟩
    case round =>
      obtain ⟨i, hi, rfl, rfl, hbw⟩ := hrel
      by_cases hlt : i < l0.length
      · obtain ⟨ad, eA, hcell⟩ := Kd.at_string hr0 i (by omega) (by omega)
        have hrd : rdOf ByteArray.empty l0 (i : Int) = l0[i] := by simp [rdOf, hlt]
        rw [hrd] at hcell
        cases eA
        have hcell' := (hbw.cell (World.block_lt_of_cell? w _ hcell)).trans hcell
        have hle := textsL_le l0 (i + 1)
        rw [textsL_take l0 i hlt, List.length_append, pieceL_length] at hle
        have hsz : l0[i].size ≤ 140737488355328 := by omega
        have hdec := Aside0.mk (fun W => interregnumref11_Dec.calls 20 (l0[i].size : Int) _ W (ref11_Dec_eq 19 l0[i].size (by omega) (by omega)))
        have hlt' : (i : Int) < (l0.length : Int) := by omega
        have h0 : 0 ≤ (i : Int) := by omega
        simp only [Int.toNat_natCast] at hcell'
        have Hle := Aside0.mk hle
        have Htk := Aside0.mk (textsL_take l0 i hlt)
        obtain ⟨x, hx⟩ : ∃ x, x = l0[i] := ⟨_, rfl⟩
        rw [← hx] at hcell' hdec hsz
        obtain ⟨acc, hacc⟩ : ∃ acc, acc = (⟨(textsL (l0.take i)).toArray⟩ : ByteArray) := ⟨_, rfl⟩
        rw [← hacc]
        have Hx := Aside0.mk hx
        have Hacc := Aside0.mk hacc
        have q1 : acc.size + (⟨(Lib.itoa (x.size : Int)).toArray⟩ : ByteArray).size + 1 + x.size ≤ 140737488355328 := by
          have := Hle.out
          rw [hacc, hx, ba_size, ba_size]; omega
        obtain ⟨t, ht⟩ : ∃ t, t = (⟨(Lib.itoa (x.size : Int)).toArray⟩ : ByteArray) := ⟨_, rfl⟩
        rw [← ht] at hdec q1
        have Ht := Aside0.mk ht
        have z1 : (acc ++ t).size = acc.size + t.size := ByteArray.size_append
        have z2 : ((acc ++ t) ++ (⟨#[58]⟩ : ByteArray)).size = acc.size + t.size + 1 := by rw [ByteArray.size_append, z1]; rfl
        have c5 : acc.size + t.size ≤ 9223372036854775807 := by omega
        have c6 : (acc ++ t).size + 1 ≤ 9223372036854775807 := by omega
        have c7 : ((acc ++ t) ++ (⟨#[58]⟩ : ByteArray)).size + x.size ≤ 9223372036854775807 := by omega
        have c5b1 : decide (acc.size + t.size ≤ 9223372036854775807) = true := decide_eq_true c5
        have c6b1 : decide ((acc ++ t).size + 1 ≤ 9223372036854775807) = true := decide_eq_true c6
        have c7b1 : decide (((acc ++ t) ++ (⟨#[58]⟩ : ByteArray)).size + x.size ≤ 9223372036854775807) = true := decide_eq_true c7
        have c5b2 : (9223372036854775807 < acc.size + t.size) = False := eq_false (Nat.not_lt.2 c5)
        have c6b2 : (9223372036854775807 < (acc ++ t).size + 1) = False := eq_false (Nat.not_lt.2 c6)
        have c7b2 : (9223372036854775807 < ((acc ++ t) ++ (⟨#[58]⟩ : ByteArray)).size + x.size) = False := eq_false (Nat.not_lt.2 c7)
        have zz : (⟨#[58]⟩ : ByteArray).size = 1 := rfl
        have d6 : (acc ++ t).size + (⟨#[58]⟩ : ByteArray).size ≤ 9223372036854775807 := by omega
        have d6b2 : (9223372036854775807 < (acc ++ t).size + (⟨#[58]⟩ : ByteArray).size) = False := eq_false (Nat.not_lt.2 d6)
        have e6 : acc.size + t.size + 1 ≤ 9223372036854775807 := by omega
        have e6b2 : (9223372036854775807 < acc.size + t.size + 1) = False := eq_false (Nat.not_lt.2 e6)
        have e7 : acc.size + t.size + 1 + x.size ≤ 9223372036854775807 := by omega
        have e7b2 : (9223372036854775807 < acc.size + t.size + 1 + x.size) = False := eq_false (Nat.not_lt.2 e7)
        have e6b1 : decide (acc.size + t.size + 1 ≤ 9223372036854775807) = true := decide_eq_true e6
        have e7b1 : decide (acc.size + t.size + 1 + x.size ≤ 9223372036854775807) = true := decide_eq_true e7
        clear hle hx hacc hcell hrd hn ht q1
        go_wp2
        have hcell'' : wr.cell? (ad.add i) = some (.string x) := hcell'
        go_region_held3 (fun w' => w'.cell? (ad.add i) = some (.string x) ∧ Below w.heap.size w w') (exact ⟨by first | assumption | (simp [*]; done), by first | assumption | exact below_drew1 (by assumption)⟩) (first | (go_at_call 27; refine (hdec.out _).mono ?_; rintro e w3 ⟨rfl, hb3⟩; have hc3 : w3.cell? (ad.add i) = some (.string x) := (by rw [hb3.cell (World.block_lt_of_cell? _ _ (by assumption))]; assumption); have hB3 : Below w.heap.size w w3 := below_step (by first | assumption | exact below_drew1 (by assumption)) hb3; clear hb3))
        go_wp2
        go_roundg (gk - 1)
        case measure => omega
        case rel =>
          refine ⟨i + 1, by omega, ?_, by first | (simp; done) | (simp; unfold wrap64; omega), by assumption⟩
          rw [Htk.out, Hacc.out, Ht.out, Hx.out, append_toArray, show (⟨#[58]⟩ : ByteArray) = ⟨[(58 : UInt8)].toArray⟩ from rfl, append_toArray]
          rw [show l0[i] = (⟨l0[i].data.toList.toArray⟩ : ByteArray) by simp, append_toArray]
          simp [pieceL]
      · have hge : ¬ ((i : Int) < (l0.length : Int)) := by omega
        have ei : i = l0.length := by omega
        rw [ei, List.take_length]
        go_wp2
        go_ret
        exact ⟨rfl, hbw⟩
  · cases h
end Go.Proofs.YtppjodchlpapdaaDoor.PB
