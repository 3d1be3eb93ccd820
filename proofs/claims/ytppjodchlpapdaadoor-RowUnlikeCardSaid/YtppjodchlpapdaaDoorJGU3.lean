/- row.Hop, row.ReadHop and the reference's Hop agree; the law's answers are true. Conditions: the numbers are of their kinds. -/
import Derived.Test.YtppjodchlpapdaaDoorJGU1
import Derived.Test.YtppjodchlpapdaaDoorJGU2
import Derived.Test.YtppjodchlpapdaaDoorJGU0
namespace Go.Proofs.YtppjodchlpapdaaDoor.PB
open Go.RowKit Go.Sort Go.Lib Go.Proofs Go.Proofs.YtppjodchlpapdaaDoor Go.Proofs.YtppjodchlpapdaaDoorW.PrintWords
set_option linter.unusedVariables false
set_option linter.unusedSimpArgs false

def I64 (n : Int) : Prop := -9223372036854775808 ≤ n ∧ n ≤ 9223372036854775807
def U32 (n : Int) : Prop := 0 ≤ n ∧ n < 4294967296
def itoaB (n : Int) : ByteArray := ⟨(itoa n).toArray⟩
theorem U32.i64 {n : Int} (h : U32 n) : I64 n := ⟨by have := h.1; omega, by have := h.2; omega⟩
theorem itoaB_size (n : Int) (h : I64 n) : (itoaB n).size ≤ 21 := by
  unfold itoaB
  rw [ba_size]
  exact itoa_length_le n h.1 h.2

theorem row_addr_eq (a : Int) (h : U32 a) : row_addr.f a = some (itoaB a) := by
  obtain ⟨u, rfl⟩ : ∃ u : Nat, a = u := ⟨a.toNat, by have := h.1; omega⟩
  have h2 := h.2
  unfold row_addr.f strconv_FormatUint_42.f
  rw [show IntKind.u64.wrap (u : Int) = (u : Int) by rw [IntKind.wrap_u64]; omega, if_pos ⟨by omega, by omega, rfl⟩]
  simp only [Option.bind_some, Int.toNat_natCast]
  rw [itoaB, itoa_nonneg]
theorem row_num_eq (n : Int) (h : I64 n) : row_num.f n = some (itoaB n) := by
  unfold row_num.f strconv_Itoa_22.f
  rw [if_pos (show -9223372036854775808 ≤ n ∧ n ≤ 9223372036854775807 from h)]
  rfl
theorem addrV_eq (a : Int) (h : U32 a) : addrV (itoaB a) = some a := by
  obtain ⟨u, rfl⟩ : ∃ u : Nat, a = u := ⟨a.toNat, by have := h.1; omega⟩
  have h2 := h.2
  rw [itoaB, itoa_nonneg]
  exact addrV_dec u (by omega)
theorem numV_eq (n : Int) (h : I64 n) : numV (itoaB n) = some n := numV_itoa n h.1 h.2

theorem dec20 (n : Int) (h : I64 n) : interregnumref11_Dec.f 20 n = some (itoaB n) := by
  by_cases hn : 0 ≤ n
  · obtain ⟨u, rfl⟩ : ∃ u : Nat, n = u := ⟨n.toNat, by omega⟩
    have h2 := h.2
    exact ref11_Dec_eq 19 u (by omega) (by omega)
  · obtain ⟨u, rfl⟩ : ∃ u : Nat, n = -(u : Int) := ⟨n.natAbs, by omega⟩
    have h1 := h.1
    unfold interregnumref11_Dec.f
    have e1 : wrap64 (-(u : Int) + 1) = -(u : Int) + 1 := by unfold wrap64; omega
    have e2 : wrap64 (-(-(u : Int) + 1)) = (u : Int) - 1 := by unfold wrap64; omega
    have e3 : IntKind.u64.wrap ((u : Int) - 1) = (u : Int) - 1 := by rw [IntKind.wrap_u64]; omega
    have e4 : IntKind.u64.wrap ((u : Int) - 1 + 1) = (u : Int) := by rw [IntKind.wrap_u64]; omega
    rw [if_pos (by omega), e1, e2, e3, e4, ref11_dec_eq 19 u (by omega) (by omega)]
    simp only [Option.bind_some]
    have hl : (decDigits u).length ≤ 20 := by
      rw [decDigits_length]
      have := numDigits_eq u (by omega) (by omega)
      split at this <;> omega
    rw [if_pos (by rw [ba_size]; omega), itoaB, itoa_neg u (by omega), show (⟨#[45]⟩ : ByteArray) = ⟨[(45 : UInt8)].toArray⟩ from rfl, append_toArray]
    rfl

def hopT (a b c d e : Int) : List ByteArray := [itoaB a, itoaB b, itoaB c, itoaB d, itoaB e]
theorem piece_le (x : ByteArray) (h : x.size ≤ 21) : (pieceL x).length ≤ 43 := by
  rw [pieceL_length]
  have := itoa_length_le (x.size : Int) (by omega) (by omega)
  omega
theorem hopT_len (a b c d e : Int) (ha : U32 a) (hb : I64 b) (hc : U32 c) (hd : I64 d) (he : I64 e) : (textsL (hopT a b c d e)).length ≤ 215 := by
  have h1 := piece_le _ (itoaB_size a ha.i64)
  have h2 := piece_le _ (itoaB_size b hb)
  have h3 := piece_le _ (itoaB_size c hc.i64)
  have h4 := piece_le _ (itoaB_size d hd)
  have h5 := piece_le _ (itoaB_size e he)
  unfold hopT
  simp only [textsL_cons, List.length_append, textsL_nil, List.length_nil]
  omega
def hopB (a b c d e : Int) : ByteArray := ⟨(textsL (hopT a b c d e)).toArray⟩

theorem row_Hop_eq (a b c d e : Int) (ha : U32 a) (hb : I64 b) (hc : U32 c) (hd : I64 d) (he : I64 e) : row_Hop.f a b c d e = some (hopB a b c d e) := by
  have hl := hopT_len a b c d e ha hb hc hd he
  unfold row_Hop.f
  rw [row_addr_eq a ha, row_num_eq b hb, row_addr_eq c hc, row_num_eq d hd, row_num_eq e he]
  simp only [Option.bind_some]
  unfold row_Texts.f
  have hl' : (textsL [itoaB a, itoaB b, itoaB c, itoaB d, itoaB e]).length ≤ 140737488355328 := by
    have : (textsL [itoaB a, itoaB b, itoaB c, itoaB d, itoaB e]).length ≤ 215 := hl
    omega
  rw [if_pos hl']
  rfl

theorem ref_Hop_eq (a b c d e : Int) (ha : U32 a) (hb : I64 b) (hc : U32 c) (hd : I64 d) (he : I64 e) : interregnumref11_Hop.f 20 a b c d e = some (hopB a b c d e) := by
  have hl := hopT_len a b c d e ha hb hc hd he
  have ea : wrap64 a = a := by have h1 := ha.1; have h2 := ha.2; unfold wrap64; omega
  have ec : wrap64 c = c := by have h1 := hc.1; have h2 := hc.2; unfold wrap64; omega
  unfold interregnumref11_Hop.f
  rw [ea, ec, dec20 a ha.i64, dec20 b hb, dec20 c hc.i64, dec20 d hd, dec20 e he]
  simp only [Option.bind_some]
  unfold interregnumref11_Texts.f
  have hl' : (textsL [itoaB a, itoaB b, itoaB c, itoaB d, itoaB e]).length ≤ 140737488355328 := by
    have : (textsL [itoaB a, itoaB b, itoaB c, itoaB d, itoaB e]).length ≤ 215 := hl
    omega
  rw [if_pos hl']
  rfl

theorem split_hopB (a b c d e : Int) (ha : U32 a) (hb : I64 b) (hc : U32 c) (hd : I64 d) (he : I64 e) : splitGo (hopB a b c d e).size (hopB a b c d e) [] = (hopT a b c d e, true) := by
  have hl := hopT_len a b c d e ha hb hc hd he
  unfold hopB
  rw [split_texts (hopT a b c d e) _ [] (by rw [ba_size]; exact textsL_count _) (by omega)]
  rfl

theorem ReadHop_eq (a b c d e : Int) (ha : U32 a) (hb : I64 b) (hc : U32 c) (hd : I64 d) (he : I64 e) : row_ReadHop.f (hopB a b c d e) = some (a, b, c, d, e, true) := by
  have hl := hopT_len a b c d e ha hb hc hd he
  unfold row_ReadHop.f
  rw [split_hopB a b c d e ha hb hc hd he, if_pos (by unfold hopB; rw [ba_size]; omega)]
  have hbad : hopBad (hopT a b c d e) (openBad true (hopT a b c d e).length 5) = false := by
    unfold hopBad badNum badAddr openBad hopT headV
    simp [numV_eq b hb, numV_eq d hd, numV_eq e he, addrV_eq a ha, addrV_eq c hc]
  simp only
  rw [hbad, if_neg (by decide)]
  unfold hopT headV
  simp only [List.headD_cons, List.tail_cons, numV_eq b hb, numV_eq d hd, numV_eq e he, addrV_eq a ha, addrV_eq c hc, Option.getD_some]
  rw [row_Hop_eq a b c d e ha hb hc hd he, Option.bind_some, if_pos rfl]

theorem answers_true : interregnumlaw21_answers.f = some true := by
  have u0 : U32 0 := ⟨by decide, by decide⟩
  have u7 : U32 7 := ⟨by decide, by decide⟩
  have i0 : I64 0 := ⟨by decide, by decide⟩
  unfold interregnumlaw21_answers.f
  have h1 : row_Texts.f [(⟨#[97, 98]⟩ : ByteArray), (⟨#[]⟩ : ByteArray)] = some ⟨#[50, 58, 97, 98, 48, 58]⟩ := by
    have e : textsL [(⟨#[97, 98]⟩ : ByteArray), (⟨#[]⟩ : ByteArray)] = [50, 58, 97, 98, 48, 58] := by
      have z2 : itoa 2 = [50] := by rw [show (2 : Int) = ((2 : Nat) : Int) from rfl, itoa_nonneg, decDigits_one (by decide)]; rfl
      have z0 : itoa 0 = [48] := by rw [show (0 : Int) = ((0 : Nat) : Int) from rfl, itoa_nonneg, decDigits_one (by decide)]; rfl
      rw [textsL_cons, textsL_cons, textsL_nil]
      unfold pieceL
      rw [show (((⟨#[97, 98]⟩ : ByteArray).size : Nat) : Int) = 2 from rfl, show (((⟨#[]⟩ : ByteArray).size : Nat) : Int) = 0 from rfl, z2, z0]
      rfl
    unfold row_Texts.f
    rw [e, if_pos (by decide)]
  have h2 := Split_Texts _ _ h1 (by decide)
  rw [h2, row_Hop_eq 0 0 7 0 0 u0 i0 u7 i0 i0]
  simp only [Option.bind_some]
  rw [ReadHop_eq 0 0 7 0 0 u0 i0 u7 i0 i0, h1]
  simp only [Option.bind_some]
  rw [if_pos trivial, if_pos (by decide), if_pos (by decide), if_pos, if_pos, if_pos trivial]
  · rfl
  · rw [ByteArray.toList_eq]
  · rw [ByteArray.toList_eq]
    rfl


end Go.Proofs.YtppjodchlpapdaaDoor.PB

-- By a program of this session (printx.py), out of Lean's own print of the translation. Not trusted: Lean checks it.
namespace Go.Proofs.YtppjodchlpapdaaDoor.PB
open Go.RowKit Go.Proofs.YtppjodchlpapdaaDoorW.PrintWords Go.Proofs.YtppjodchlpapdaaDoorW.PrintLast Go.Proofs.YtppjodchlpapdaaDoorW.PrintMore
attribute [local go_sem] max2_int min2_int max_two min_two max_three min_three max_four min_four   -- for this text's walks alone
set_option linter.unusedVariables false
set_option linter.unusedSimpArgs false

/-! ### row_rules: function 34 -/
mutual
def row_rules.l0 : Nat → List ByteArray → List (S72) → Int → Int → Option (List ByteArray)
  | 0, _, _, _, _ => none
  | k + 1, x3, x7, x8, x9 => if x9 < x8 then (if 0 ≤ x9 then (if x9 < (x7.length : Int) then (if (rd_T72 x7 x9).f3 = true then (row_rules.j1 k x3 (⟨#[49]⟩ : ByteArray) x7 x8 x9 ((rd_T72 x7 x9).f0.f0) ((rd_T72 x7 x9).f0.f1) ((rd_T72 x7 x9).f1) ((rd_T72 x7 x9).f2) ((rd_T72 x7 x9).f3) ((rd_T72 x7 x9).f4)) else (row_rules.j1 k x3 (⟨#[48]⟩ : ByteArray) x7 x8 x9 ((rd_T72 x7 x9).f0.f0) ((rd_T72 x7 x9).f0.f1) ((rd_T72 x7 x9).f1) ((rd_T72 x7 x9).f2) ((rd_T72 x7 x9).f3) ((rd_T72 x7 x9).f4))) else (none)) else (none)) else (some x3)
def row_rules.j1 : Nat → List ByteArray → ByteArray → List (S72) → Int → Int → Int → Int → Int → Int → Bool → Int → Option (List ByteArray)
  | 0, _, _, _, _, _, _, _, _, _, _, _ => none
  | k + 1, x3, x6, x7, x8, x9, x232000, x232001, x232002, x232003, x232004, x232005 => (row_addr.f x232000).bind fun t232 => ((row_num.f x232001).bind fun t233 => ((row_num.f x232002).bind fun t234 => ((row_num.f x232003).bind fun t235 => ((row_num.f x232005).bind fun t236 => ((some (([t232, t233, t234, t235, x6, t236] : List ByteArray) : List ByteArray)).bind fun y237 => (if x3.length + y237.length < 8796093022208 then (row_rules.l0 k (x3 ++ y237) x7 x8 (wrap64 (x9 + 1))) else (none)))))))
end
def row_rules.f (k : Nat) (l0 : List (S72)) : Option (List ByteArray) := row_rules.l0 k ([] : List ByteArray) l0 (l0.length : Int) 0
theorem row_rules.mono_l : ∀ k, (∀ y0 y1 y2 y3, LeO (row_rules.l0 k y0 y1 y2 y3) (row_rules.l0 (k + 1) y0 y1 y2 y3)) ∧ (∀ y0 y1 y2 y3 y4 y5 y6 y7 y8 y9 y10, LeO (row_rules.j1 k y0 y1 y2 y3 y4 y5 y6 y7 y8 y9 y10) (row_rules.j1 (k + 1) y0 y1 y2 y3 y4 y5 y6 y7 y8 y9 y10))
  | 0 => ⟨fun _ _ _ _ r h => by simp [row_rules.l0] at h, fun _ _ _ _ _ _ _ _ _ _ _ r h => by simp [row_rules.j1] at h⟩
  | k + 1 => by
    obtain ⟨ih0, ih1⟩ := row_rules.mono_l k
    refine ⟨?_, ?_⟩
    · intro y0 y1 y2 y3
      unfold row_rules.l0
      repeat' first
      | (with_reducible exact ih0 _ _ _ _)
      | (with_reducible exact ih1 _ _ _ _ _ _ _ _ _ _ _)
      | (with_reducible exact LeO.refl _)
      | (with_reducible exact LeO.none _)
      | (with_reducible refine LeO.ite ?_ ?_)
      | (with_reducible refine LeO.bind ?_ (fun _ => ?_))
      | exact ih0 _ _ _ _
      | exact ih1 _ _ _ _ _ _ _ _ _ _ _
      | exact LeO.none _
      | refine LeO.ite ?_ ?_
      | refine LeO.bind ?_ (fun _ => ?_)
    · intro y0 y1 y2 y3 y4 y5 y6 y7 y8 y9 y10
      unfold row_rules.j1
      repeat' first
      | (with_reducible exact ih0 _ _ _ _)
      | (with_reducible exact ih1 _ _ _ _ _ _ _ _ _ _ _)
      | (with_reducible exact LeO.refl _)
      | (with_reducible exact LeO.none _)
      | (with_reducible refine LeO.ite ?_ ?_)
      | (with_reducible refine LeO.bind ?_ (fun _ => ?_))
      | exact ih0 _ _ _ _
      | exact ih1 _ _ _ _ _ _ _ _ _ _ _
      | exact LeO.none _
      | refine LeO.ite ?_ ?_
      | refine LeO.bind ?_ (fun _ => ?_)
theorem row_rules.mono : ∀ a0 k, LeO (row_rules.f k a0) (row_rules.f (k + 1) a0) := by
  intro a0 k
  obtain ⟨ih0, ih1⟩ := row_rules.mono_l k
  unfold row_rules.f
  repeat' first
      | (with_reducible exact ih0 _ _ _ _)
      | (with_reducible exact ih1 _ _ _ _ _ _ _ _ _ _ _)
      | (with_reducible exact LeO.refl _)
      | (with_reducible exact LeO.none _)
      | (with_reducible refine LeO.ite ?_ ?_)
      | (with_reducible refine LeO.bind ?_ (fun _ => ?_))
      | exact ih0 _ _ _ _
      | exact ih1 _ _ _ _ _ _ _ _ _ _ _
      | exact LeO.none _
      | refine LeO.ite ?_ ?_
      | refine LeO.bind ?_ (fun _ => ?_)
def row_rules.T8 : Bool × List (List Nat × List Nat) := (true, [([], []), ([], []), ([1], [1]), ([2], [2]), ([3], [3]), ([], []), ([5], [5]), ([6], [6]), ([7, 4], [7]), ([], []), ([9], [9]), ([10, 8], [10]), ([], []), ([12], [12]), ([13, 11], [13]), ([], []), ([], []), ([16], [16]), ([17, 14], [17]), ([4, 8, 11, 14, 15, 18], [4, 8, 11, 14, 15, 18]), ([0, 19, 18], [0, 19]), ([20, 20, 0, 1, 2, 3, 4, 5, 6, 7, 8, 9, 10, 11, 12, 13, 14, 15, 16, 17, 18, 19, 20], [0, 20])])
def row_rules.B8 : List Nat := [0, 0, 2, 6, 14, 0, 32, 96, 254, 0, 512, 2046, 0, 4096, 16382, 0, 0, 65536, 229374, 524286, 1048575, 2097151]
theorem row_rules.tab8 : rtab .any (opsOf Tryd.f34 8) = row_rules.T8 := by kernel_rfl
theorem row_rules.bits8 : waitsOk row_rules.T8.2 row_rules.B8 = true := by kernel_rfl
set_option maxHeartbeats 8000000 in
set_option maxRecDepth 100000 in
theorem row_rules.calls (k : Nat) (A0 : Option Addr) (c0 : Nat) (l0 : List (S72)) (r : List ByteArray) (w : World) (hV : VarsOk w) (hr0 : Kd.C k72 w A0 l0.length l0) (hc0 : l0.length ≤ c0) (h : row_rules.f k l0 = some r) :
    Calls Tryd.prog 34 #[.slice A0 l0.length c0] w fun e w' => ∃ v0_ : Value, e = .returned (v0_) ∧ Kd.R Kd.string 9 w' w.heap.size (fun _ => True) v0_ r ∧ Below w.heap.size w w' := by
  have hu72 := Tryd.underlying72
  have HV := Aside0.mk hV
  clear hV
  have HR0 := Aside0.mk hr0
  have HC0 := Aside0.mk hc0
  clear hr0 hc0
  have HB := Aside0.mk (Below.refl w.heap.size w)
  have H : (row_rules.l0 k ([] : List ByteArray) l0 (l0.length : Int) 0) = some r := h
  clear h
  have H' := Aside0.mk H
  clear H
  go_enter Tryd.func34, Tryd.ntmps34
  go_wp2
  go_loopg [3, 9] k (fun kq v3 v9 w' => ∃ (x3_1 : List ByteArray) (x9_1 : Int), v9 = .int .i64 x9_1 ∧ Aside0 (row_rules.l0 kq x3_1 l0 (l0.length : Int) x9_1 = some r) ∧ Aside0 (kq ≤ k) ∧ Aside0 (Kd.R Kd.string 9 w' w.heap.size (fun _ => True) v3 x3_1) ∧ Aside0 (Below w.heap.size w w'))
  case atStart => exact ⟨(([] : List ByteArray)), (0), (by first | rfl | (simp; done) | (simp [*]; done)), H', ⟨Nat.le_refl _⟩, ⟨by first | exact Kd.R_nil _ _ _ _ _ | exact Kd.N_nil _ _ _ _ _ | exact Kd.V_nil _ _ _ _ _ | exact Kd.Q_nil _ _ _ _ _ | exact Kd.S_nil _ _ _ _ _⟩, ⟨by repeat (first | (with_reducible first | exact HB.out | apply below_alloc | apply pw_below_drewN | apply below_drew1) | exact HB.out)⟩⟩
  case round =>
    clear H'
    obtain ⟨x3_1, x9_1, rfl, HA, HK1, HO_3, HB⟩ := hrel
    cases gk with
    | zero => exact absurd HA.out (by simp [row_rules.l0])
    | succ k1 =>
      have H := HA.out
      clear HA
      simp only [row_rules.l0] at H
      by_cases c2 : x9_1 < (l0.length : Int)
      · rw [if_pos c2] at H
        have c2b0 : decide (x9_1 < (l0.length : Int)) = true := decide_eq_true c2
        clear c2
        by_cases c3 : 0 ≤ x9_1
        · rw [if_pos c3] at H
          have c3b0 : decide (0 ≤ x9_1) = true := decide_eq_true c3
          clear c3
          by_cases c4 : x9_1 < (l0.length : Int)
          · rw [if_pos c4] at H
            have c4b0 : decide (x9_1 < (l0.length : Int)) = true := decide_eq_true c4
            clear c4
            have HC5 := Aside0.mk H
            clear H
            have p230 : 0 ≤ (x9_1 : Int) := of_decide_eq_true (by first | (with_reducible assumption) | assumption)
            have q230 : x9_1 < (l0.length : Int) := of_decide_eq_true (by first | (with_reducible assumption) | assumption)
            obtain ⟨ad230, e230, hx230_0, hx230_1, hx230_2, hx230_3, hx230_4, hx230_5⟩ := at_T72 HR0.out x9_1 p230 q230
            cases e230
            replace hx230_0 := (HB.out.cell (World.block_lt_of_cell? w _ hx230_0)).trans hx230_0
            replace hx230_1 := (HB.out.cell (World.block_lt_of_cell? w _ hx230_1)).trans hx230_1
            replace hx230_2 := (HB.out.cell (World.block_lt_of_cell? w _ hx230_2)).trans hx230_2
            replace hx230_3 := (HB.out.cell (World.block_lt_of_cell? w _ hx230_3)).trans hx230_3
            replace hx230_4 := (HB.out.cell (World.block_lt_of_cell? w _ hx230_4)).trans hx230_4
            replace hx230_5 := (HB.out.cell (World.block_lt_of_cell? w _ hx230_5)).trans hx230_5
            replace p230 := eq_true p230
            replace q230 := eq_true q230
            go_upto_if 14 with (first | ((with_reducible refine gate_dst (N := 5) rfl ?_); refine box_event ?hg (N := 5) ?hd (cs := #[.int .u32 0, .int .i64 0, .int .i64 0, .int .i64 0, .bool false, .int .i64 0]) (t := 72) ?hr ?_; (case hd => rfl); (case hg => rfl); (case hr => first | (go_simp; done) | (go_simp; rfl) | (go_simp; simp [IntKind.wrap_u8]; done)); intro gb231 hg w6 hbox hb; have n0_ := Aside0.mk (Kd.R_below (by (with_reducible repeat (first | apply Kd.R_alloc | apply Kd.R_drewN | apply Kd.R_drew)); exact HO_3.out) hb); have n1_ := Aside0.mk (below_step (by repeat (first | (with_reducible first | exact HB.out | apply below_alloc | apply pw_below_drewN | apply below_drew1) | exact HB.out)) hb); have n2_ := Aside0.mk (hbox); have n3_ := Aside0.mk ((by rw [hg]; exact (below_size (by repeat (first | (with_reducible first | exact HB.out | apply below_alloc | apply pw_below_drewN | apply below_drew1) | exact HB.out))) : w.heap.size ≤ gb231)); have n4_ := Aside0.mk ((by rw [hg]; exact (below_size (by repeat (first | (with_reducible first | exact HB.out | apply below_alloc | apply pw_below_drewN | apply below_drew1) | exact HB.out))) : w.heap.size ≤ gb231)); clear HO_3; clear HB; have HO_3 := n0_; have HB := n1_; have BK231 := n2_; have GW231 := n3_; have GE231 := n4_; clear n0_ n1_ n2_ n3_ n4_; clear hb hbox hg; have hcz7_0 : w6.cell? ⟨gb231, 0, none⟩ = some (.int .u32 0) := (blk_cell BK231.out 0).trans rfl; have hcz7_1 : w6.cell? ⟨gb231, 1, none⟩ = some (.int .i64 0) := (blk_cell BK231.out 1).trans rfl; have hcz7_2 : w6.cell? ⟨gb231, 2, none⟩ = some (.int .i64 0) := (blk_cell BK231.out 2).trans rfl; have hcz7_3 : w6.cell? ⟨gb231, 3, none⟩ = some (.int .i64 0) := (blk_cell BK231.out 3).trans rfl; have hcz7_4 : w6.cell? ⟨gb231, 4, none⟩ = some (.bool false) := (blk_cell BK231.out 4).trans rfl; have hcz7_5 : w6.cell? ⟨gb231, 5, none⟩ = some (.int .i64 0) := (blk_cell BK231.out 5).trans rfl; have hfz7_0 := blk_frozen BK231.out 0; have hfz7_1 := blk_frozen BK231.out 1; have hfz7_2 := blk_frozen BK231.out 2; have hfz7_3 := blk_frozen BK231.out 3; have hfz7_4 := blk_frozen BK231.out 4; have hfz7_5 := blk_frozen BK231.out 5))
            (try simp only [Act.put, List.setIfInBounds_toArray, List.set_cons_zero, List.set_cons_succ])
            go_cut [6] (fun v6 wc => ∃ (kq : Nat) (x6_4 : ByteArray), v6 = .string x6_4 ∧ Aside0 (row_rules.j1 kq x3_1 x6_4 l0 (l0.length : Int) x9_1 ((rd_T72 l0 x9_1).f0.f0) ((rd_T72 l0 x9_1).f0.f1) ((rd_T72 l0 x9_1).f1) ((rd_T72 l0 x9_1).f2) ((rd_T72 l0 x9_1).f3) ((rd_T72 l0 x9_1).f4) = some r) ∧ Aside0 (kq ≤ k1) ∧ Aside0 (Kd.R Kd.string 9 wc w.heap.size (fun _ => True) u3 x3_1) ∧ Aside0 (wc.heap[gb231]? = some (.cells #[.int .u32 ((rd_T72 l0 x9_1).f0.f0), .int .i64 ((rd_T72 l0 x9_1).f0.f1), .int .i64 ((rd_T72 l0 x9_1).f1), .int .i64 ((rd_T72 l0 x9_1).f2), .bool ((rd_T72 l0 x9_1).f3), .int .i64 ((rd_T72 l0 x9_1).f4)] 72 (0, 0))) ∧ Aside0 (Below w.heap.size w wc))
            case first =>
              have H := HC5.out
              clear HC5
              obtain ⟨bq8, hbq8⟩ : ∃ b_ : Bool, b_ = ((rd_T72 l0 x9_1).f3) := ⟨_, rfl⟩
              replace H : (if bq8 = true then (row_rules.j1 k1 x3_1 (⟨#[49]⟩ : ByteArray) l0 (l0.length : Int) x9_1 ((rd_T72 l0 x9_1).f0.f0) ((rd_T72 l0 x9_1).f0.f1) ((rd_T72 l0 x9_1).f1) ((rd_T72 l0 x9_1).f2) bq8 ((rd_T72 l0 x9_1).f4)) else (row_rules.j1 k1 x3_1 (⟨#[48]⟩ : ByteArray) l0 (l0.length : Int) x9_1 ((rd_T72 l0 x9_1).f0.f0) ((rd_T72 l0 x9_1).f0.f1) ((rd_T72 l0 x9_1).f1) ((rd_T72 l0 x9_1).f2) bq8 ((rd_T72 l0 x9_1).f4))) = some r := by rw [← hbq8] at H; exact H
              have Nbq8 := Aside0.mk hbq8
              clear hbq8
              (try rw [← Nbq8.out])
              by_cases c9 : bq8 = true
              · subst c9
                have H1 : (row_rules.j1 k1 x3_1 (⟨#[49]⟩ : ByteArray) l0 (l0.length : Int) x9_1 ((rd_T72 l0 x9_1).f0.f0) ((rd_T72 l0 x9_1).f0.f1) ((rd_T72 l0 x9_1).f1) ((rd_T72 l0 x9_1).f2) true ((rd_T72 l0 x9_1).f4)) = some r := by rw [if_pos rfl] at H; exact H
                clear H
                have H := H1
                clear H1
                have H' := Aside0.mk H
                clear H
                go_wp2
                go_meet
                case rel => (try rw [← Nbq8.out]); exact ⟨_, ((⟨#[49]⟩ : ByteArray)), (by first | rfl | (simp; done) | (simp [*]; done)), H', ⟨by have := HK1.out; first | omega | exact Nat.le_refl _⟩, ⟨by (with_reducible repeat (first | apply Kd.R_alloc | apply Kd.R_drewN | apply Kd.R_drew)); exact Kd.R_mono (Kd.R_far (p := ⟨gb231, 5, none⟩) (Kd.R_far (p := ⟨gb231, 4, none⟩) (Kd.R_far (p := ⟨gb231, 3, none⟩) (Kd.R_far (p := ⟨gb231, 2, none⟩) (Kd.R_far (p := ⟨gb231, 1, none⟩) (Kd.R_far (p := ⟨gb231, 0, none⟩) (Kd.R_types HO_3.out BK231.out (by decide)) (fun _ hk => hk.2) (.int .u32 ((rd_T72 l0 x9_1).f0.f0))) (fun _ hk => hk.2) (.int .i64 ((rd_T72 l0 x9_1).f0.f1))) (fun _ hk => hk.2) (.int .i64 ((rd_T72 l0 x9_1).f1))) (fun _ hk => hk.2) (.int .i64 ((rd_T72 l0 x9_1).f2))) (fun _ hk => hk.2) (.bool (true))) (fun _ hk => hk.2) (.int .i64 ((rd_T72 l0 x9_1).f4))) (fun _ hk => trivial)⟩, ⟨by (with_reducible repeat (first | refine blk_drewN ?_ _ | refine blk_drew ?_ | refine blk_alloc ?_ _)); refine blk_put (cs := #[.int .u32 ((rd_T72 l0 x9_1).f0.f0), .int .i64 ((rd_T72 l0 x9_1).f0.f1), .int .i64 ((rd_T72 l0 x9_1).f1), .int .i64 ((rd_T72 l0 x9_1).f2), .bool (true), .int .i64 0]) ?_ 5 _ rfl; (with_reducible repeat (first | refine blk_drewN ?_ _ | refine blk_drew ?_ | refine blk_alloc ?_ _)); refine blk_put (cs := #[.int .u32 ((rd_T72 l0 x9_1).f0.f0), .int .i64 ((rd_T72 l0 x9_1).f0.f1), .int .i64 ((rd_T72 l0 x9_1).f1), .int .i64 ((rd_T72 l0 x9_1).f2), .bool false, .int .i64 0]) ?_ 4 _ rfl; (with_reducible repeat (first | refine blk_drewN ?_ _ | refine blk_drew ?_ | refine blk_alloc ?_ _)); refine blk_put (cs := #[.int .u32 ((rd_T72 l0 x9_1).f0.f0), .int .i64 ((rd_T72 l0 x9_1).f0.f1), .int .i64 ((rd_T72 l0 x9_1).f1), .int .i64 0, .bool false, .int .i64 0]) ?_ 3 _ rfl; (with_reducible repeat (first | refine blk_drewN ?_ _ | refine blk_drew ?_ | refine blk_alloc ?_ _)); refine blk_put (cs := #[.int .u32 ((rd_T72 l0 x9_1).f0.f0), .int .i64 ((rd_T72 l0 x9_1).f0.f1), .int .i64 0, .int .i64 0, .bool false, .int .i64 0]) ?_ 2 _ rfl; (with_reducible repeat (first | refine blk_drewN ?_ _ | refine blk_drew ?_ | refine blk_alloc ?_ _)); refine blk_put (cs := #[.int .u32 ((rd_T72 l0 x9_1).f0.f0), .int .i64 0, .int .i64 0, .int .i64 0, .bool false, .int .i64 0]) ?_ 1 _ rfl; (with_reducible repeat (first | refine blk_drewN ?_ _ | refine blk_drew ?_ | refine blk_alloc ?_ _)); refine blk_put (cs := #[.int .u32 0, .int .i64 0, .int .i64 0, .int .i64 0, .bool false, .int .i64 0]) ?_ 0 _ rfl; (with_reducible repeat (first | refine blk_drewN ?_ _ | refine blk_drew ?_ | refine blk_alloc ?_ _)); exact BK231.out⟩, ⟨by repeat (first | (with_reducible first | exact HB.out | apply below_alloc | apply pw_below_drewN | apply below_drew1 | refine below_set ?_ GE231.out) | exact HB.out)⟩⟩
              · replace c9 := Bool.eq_false_iff.mpr c9
                subst c9
                have H1 : (row_rules.j1 k1 x3_1 (⟨#[48]⟩ : ByteArray) l0 (l0.length : Int) x9_1 ((rd_T72 l0 x9_1).f0.f0) ((rd_T72 l0 x9_1).f0.f1) ((rd_T72 l0 x9_1).f1) ((rd_T72 l0 x9_1).f2) false ((rd_T72 l0 x9_1).f4)) = some r := by rw [if_neg (show ¬ (false = true) by decide)] at H; exact H
                clear H
                have H := H1
                clear H1
                have H' := Aside0.mk H
                clear H
                go_wp2
                go_meet
                case rel => (try rw [← Nbq8.out]); exact ⟨_, ((⟨#[48]⟩ : ByteArray)), (by first | rfl | (simp; done) | (simp [*]; done)), H', ⟨by have := HK1.out; first | omega | exact Nat.le_refl _⟩, ⟨by (with_reducible repeat (first | apply Kd.R_alloc | apply Kd.R_drewN | apply Kd.R_drew)); exact Kd.R_mono (Kd.R_far (p := ⟨gb231, 5, none⟩) (Kd.R_far (p := ⟨gb231, 4, none⟩) (Kd.R_far (p := ⟨gb231, 3, none⟩) (Kd.R_far (p := ⟨gb231, 2, none⟩) (Kd.R_far (p := ⟨gb231, 1, none⟩) (Kd.R_far (p := ⟨gb231, 0, none⟩) (Kd.R_types HO_3.out BK231.out (by decide)) (fun _ hk => hk.2) (.int .u32 ((rd_T72 l0 x9_1).f0.f0))) (fun _ hk => hk.2) (.int .i64 ((rd_T72 l0 x9_1).f0.f1))) (fun _ hk => hk.2) (.int .i64 ((rd_T72 l0 x9_1).f1))) (fun _ hk => hk.2) (.int .i64 ((rd_T72 l0 x9_1).f2))) (fun _ hk => hk.2) (.bool (false))) (fun _ hk => hk.2) (.int .i64 ((rd_T72 l0 x9_1).f4))) (fun _ hk => trivial)⟩, ⟨by (with_reducible repeat (first | refine blk_drewN ?_ _ | refine blk_drew ?_ | refine blk_alloc ?_ _)); refine blk_put (cs := #[.int .u32 ((rd_T72 l0 x9_1).f0.f0), .int .i64 ((rd_T72 l0 x9_1).f0.f1), .int .i64 ((rd_T72 l0 x9_1).f1), .int .i64 ((rd_T72 l0 x9_1).f2), .bool (false), .int .i64 0]) ?_ 5 _ rfl; (with_reducible repeat (first | refine blk_drewN ?_ _ | refine blk_drew ?_ | refine blk_alloc ?_ _)); refine blk_put (cs := #[.int .u32 ((rd_T72 l0 x9_1).f0.f0), .int .i64 ((rd_T72 l0 x9_1).f0.f1), .int .i64 ((rd_T72 l0 x9_1).f1), .int .i64 ((rd_T72 l0 x9_1).f2), .bool false, .int .i64 0]) ?_ 4 _ rfl; (with_reducible repeat (first | refine blk_drewN ?_ _ | refine blk_drew ?_ | refine blk_alloc ?_ _)); refine blk_put (cs := #[.int .u32 ((rd_T72 l0 x9_1).f0.f0), .int .i64 ((rd_T72 l0 x9_1).f0.f1), .int .i64 ((rd_T72 l0 x9_1).f1), .int .i64 0, .bool false, .int .i64 0]) ?_ 3 _ rfl; (with_reducible repeat (first | refine blk_drewN ?_ _ | refine blk_drew ?_ | refine blk_alloc ?_ _)); refine blk_put (cs := #[.int .u32 ((rd_T72 l0 x9_1).f0.f0), .int .i64 ((rd_T72 l0 x9_1).f0.f1), .int .i64 0, .int .i64 0, .bool false, .int .i64 0]) ?_ 2 _ rfl; (with_reducible repeat (first | refine blk_drewN ?_ _ | refine blk_drew ?_ | refine blk_alloc ?_ _)); refine blk_put (cs := #[.int .u32 ((rd_T72 l0 x9_1).f0.f0), .int .i64 0, .int .i64 0, .int .i64 0, .bool false, .int .i64 0]) ?_ 1 _ rfl; (with_reducible repeat (first | refine blk_drewN ?_ _ | refine blk_drew ?_ | refine blk_alloc ?_ _)); refine blk_put (cs := #[.int .u32 0, .int .i64 0, .int .i64 0, .int .i64 0, .bool false, .int .i64 0]) ?_ 0 _ rfl; (with_reducible repeat (first | refine blk_drewN ?_ _ | refine blk_drew ?_ | refine blk_alloc ?_ _)); exact BK231.out⟩, ⟨by repeat (first | (with_reducible first | exact HB.out | apply below_alloc | apply pw_below_drewN | apply below_drew1 | refine below_set ?_ GE231.out) | exact HB.out)⟩⟩
            case rest =>
              clear HC5
              try clear c2
              try clear c2b0
              try clear p2
              try clear q2
              try clear hx2
              try clear c3
              try clear c3b0
              try clear c4
              try clear c4b0
              try clear q8
              try clear c9
              try clear hcz7_0
              try clear hcz7_1
              try clear hcz7_2
              try clear hcz7_3
              try clear hcz7_4
              try clear hcz7_5
              try clear hfz7_0
              try clear hfz7_1
              try clear hfz7_2
              try clear hfz7_3
              try clear hfz7_4
              try clear hfz7_5
              try clear hx230_0
              try clear hx230_1
              try clear hx230_2
              try clear hx230_3
              try clear hx230_4
              try clear hx230_5
              try clear p230
              try clear q230
              obtain ⟨kq, x6_4, rfl, HA, HJ4, HO_3, BK231, HB⟩ := hcut
              cases kq with
              | zero => exact absurd HA.out (by simp [row_rules.j1])
              | succ kj4 =>
                have H := HA.out
                clear HA
                simp only [row_rules.j1] at H
                replace H := Option.bind_eq_some_iff.mp H
                obtain ⟨t232, A100, H⟩ := H
                replace H : ((row_num.f ((rd_T72 l0 x9_1).f0.f1)).bind fun t233 => ((row_num.f ((rd_T72 l0 x9_1).f1)).bind fun t234 => ((row_num.f ((rd_T72 l0 x9_1).f2)).bind fun t235 => ((row_num.f ((rd_T72 l0 x9_1).f4)).bind fun t236 => ((some (([t232, t233, t234, t235, x6_4, t236] : List ByteArray) : List ByteArray)).bind fun y237 => (if x3_1.length + y237.length < 8796093022208 then (row_rules.l0 kj4 (x3_1 ++ y237) l0 (l0.length : Int) (wrap64 (x9_1 + 1))) else (none))))))) = some r := H
                have A10 := Aside0.mk A100
                clear A100
                replace H := Option.bind_eq_some_iff.mp H
                obtain ⟨t233, A110, H⟩ := H
                replace H : ((row_num.f ((rd_T72 l0 x9_1).f1)).bind fun t234 => ((row_num.f ((rd_T72 l0 x9_1).f2)).bind fun t235 => ((row_num.f ((rd_T72 l0 x9_1).f4)).bind fun t236 => ((some (([t232, t233, t234, t235, x6_4, t236] : List ByteArray) : List ByteArray)).bind fun y237 => (if x3_1.length + y237.length < 8796093022208 then (row_rules.l0 kj4 (x3_1 ++ y237) l0 (l0.length : Int) (wrap64 (x9_1 + 1))) else (none)))))) = some r := H
                have A11 := Aside0.mk A110
                clear A110
                replace H := Option.bind_eq_some_iff.mp H
                obtain ⟨t234, A120, H⟩ := H
                replace H : ((row_num.f ((rd_T72 l0 x9_1).f2)).bind fun t235 => ((row_num.f ((rd_T72 l0 x9_1).f4)).bind fun t236 => ((some (([t232, t233, t234, t235, x6_4, t236] : List ByteArray) : List ByteArray)).bind fun y237 => (if x3_1.length + y237.length < 8796093022208 then (row_rules.l0 kj4 (x3_1 ++ y237) l0 (l0.length : Int) (wrap64 (x9_1 + 1))) else (none))))) = some r := H
                have A12 := Aside0.mk A120
                clear A120
                replace H := Option.bind_eq_some_iff.mp H
                obtain ⟨t235, A130, H⟩ := H
                replace H : ((row_num.f ((rd_T72 l0 x9_1).f4)).bind fun t236 => ((some (([t232, t233, t234, t235, x6_4, t236] : List ByteArray) : List ByteArray)).bind fun y237 => (if x3_1.length + y237.length < 8796093022208 then (row_rules.l0 kj4 (x3_1 ++ y237) l0 (l0.length : Int) (wrap64 (x9_1 + 1))) else (none)))) = some r := H
                have A13 := Aside0.mk A130
                clear A130
                replace H := Option.bind_eq_some_iff.mp H
                obtain ⟨t236, A140, H⟩ := H
                replace H : ((some (([t232, t233, t234, t235, x6_4, t236] : List ByteArray) : List ByteArray)).bind fun y237 => (if x3_1.length + y237.length < 8796093022208 then (row_rules.l0 kj4 (x3_1 ++ y237) l0 (l0.length : Int) (wrap64 (x9_1 + 1))) else (none))) = some r := H
                have A14 := Aside0.mk A140
                clear A140
                obtain ⟨y237, hy237⟩ : ∃ y_ : List ByteArray, y_ = (([t232, t233, t234, t235, x6_4, t236] : List ByteArray)) := ⟨_, rfl⟩
                replace H : (if x3_1.length + y237.length < 8796093022208 then (row_rules.l0 kj4 (x3_1 ++ y237) l0 (l0.length : Int) (wrap64 (x9_1 + 1))) else (none)) = some r := by first | (rw [hy237]; with_reducible exact H) | (have H2_ := (Option.bind_some _ _).symm.trans H; rw [hy237]; with_reducible exact H2_) | (have H2_ := (Option.bind_some _ _).symm.trans H; with_reducible exact H2_) | with_reducible exact H | (rw [hy237]; exact H) | exact H
                have Ny237 := Aside0.mk hy237
                clear hy237
                by_cases c15 : x3_1.length + y237.length < 8796093022208
                · rw [if_pos c15] at H
                  have LMc15 := Aside0.mk c15
                  clear c15
                  obtain ⟨y240, hy240⟩ : ∃ y_ : List ByteArray, y_ = (x3_1 ++ y237) := ⟨_, rfl⟩
                  replace H : (row_rules.l0 kj4 y240 l0 (l0.length : Int) (wrap64 (x9_1 + 1))) = some r := by first | (rw [hy240]; with_reducible exact H) | (have H2_ := (Option.bind_some _ _).symm.trans H; rw [hy240]; with_reducible exact H2_) | (have H2_ := (Option.bind_some _ _).symm.trans H; with_reducible exact H2_) | with_reducible exact H | (rw [hy240]; exact H) | exact H
                  have Ny240 := Aside0.mk hy240
                  clear hy240
                  have H' := Aside0.mk H
                  clear H
                  try go_wp2
                  have n0_ := Aside0.mk (Kd.R_drew HO_3.out)
                  have n1_ := Aside0.mk (blk_drew BK231.out)
                  have n2_ := Aside0.mk (below_drew1 HB.out)
                  clear HO_3
                  clear BK231
                  clear HB
                  have HO_3 := n0_
                  have BK231 := n1_
                  have HB := n2_
                  clear n0_ n1_ n2_
                  refine start_ (n := 22) (S := fun w' => w'.cell? ⟨gb231, 0, none⟩ = some (.int .u32 ((rd_T72 l0 x9_1).f0.f0)) ∧ w'.cell? ⟨gb231, 1, none⟩ = some (.int .i64 ((rd_T72 l0 x9_1).f0.f1)) ∧ w'.cell? ⟨gb231, 2, none⟩ = some (.int .i64 ((rd_T72 l0 x9_1).f1)) ∧ w'.cell? ⟨gb231, 3, none⟩ = some (.int .i64 ((rd_T72 l0 x9_1).f2)) ∧ w'.cell? ⟨gb231, 4, none⟩ = some (.bool ((rd_T72 l0 x9_1).f3)) ∧ w'.cell? ⟨gb231, 5, none⟩ = some (.int .i64 ((rd_T72 l0 x9_1).f4))) (ds := []) #[false, false, false, false, false, false, false, false, false, false, false, false, false, false, false, false, false, false, false, false, false, false] (by kernel_rfl) rfl rfl ⟨(blk_cell BK231.out 0).trans rfl, (blk_cell BK231.out 1).trans rfl, (blk_cell BK231.out 2).trans rfl, (blk_cell BK231.out 3).trans rfl, (blk_cell BK231.out 4).trans rfl, (blk_cell BK231.out 5).trans rfl⟩ (fun hHeld => ?_); refine with_tabW row_rules.tab8 row_rules.bits8 (fun HT_ HW_ => ?_)
                  generalize wc.drew = w16 at HO_3 BK231 HB hHeld ⊢
                  refine pure_ (i := 0) (N := some 15) (v := ?_) (a' := ?_) #[true, false, false, false, false, false, false, false, false, false, false, false, false, false, false, false, false, false, false, false, false, false] rfl rfl (any_of HT_.out (by kernel_rfl)) (fun _ _ _ h => h) (Or.inl ⟨by rfl, ?_⟩) ?_ ?_
                  rotate_left
                  · intro w'
                    go_simp
                    with_reducible rfl
                  rotate_left
                  · simp only [Act.put, List.setIfInBounds_toArray, List.set_cons_zero, List.set_cons_succ, i64_w, i32_w]
                    rfl
                  refine pure_ (i := 1) (N := some 16) (v := ?_) (a' := ?_) #[true, true, false, false, false, false, false, false, false, false, false, false, false, false, false, false, false, false, false, false, false, false] rfl rfl (any_of HT_.out (by kernel_rfl)) (fun _ _ _ h => h) (Or.inl ⟨by rfl, ?_⟩) ?_ ?_
                  rotate_left
                  · intro w'
                    go_simp
                    with_reducible rfl
                  rotate_left
                  · simp only [Act.put, List.setIfInBounds_toArray, List.set_cons_zero, List.set_cons_succ, i64_w, i32_w]
                    rfl
                  refine pure_ (i := 2) (N := some 17) (v := ?_) (a' := ?_) #[true, true, true, false, false, false, false, false, false, false, false, false, false, false, false, false, false, false, false, false, false, false] rfl rfl (any_of HT_.out (by kernel_rfl)) (fun _ _ _ h => h) (Or.inl ⟨by rfl, ?_⟩) ?_ ?_
                  rotate_left
                  · intro w'
                    go_simp
                    with_reducible rfl
                  rotate_left
                  · simp only [Act.put, List.setIfInBounds_toArray, List.set_cons_zero, List.set_cons_succ, i64_w, i32_w]
                    rfl
                  refine pure_ (i := 5) (N := some 20) (v := ?_) (a' := ?_) #[true, true, true, false, false, true, false, false, false, false, false, false, false, false, false, false, false, false, false, false, false, false] rfl rfl (any_of HT_.out (by kernel_rfl)) (fun _ _ _ h => h) (Or.inl ⟨by rfl, ?_⟩) ?_ ?_
                  rotate_left
                  · intro w'
                    go_simp
                    with_reducible rfl
                  rotate_left
                  · simp only [Act.put, List.setIfInBounds_toArray, List.set_cons_zero, List.set_cons_succ, i64_w, i32_w]
                    rfl
                  refine pure_ (i := 6) (N := some 21) (v := ?_) (a' := ?_) #[true, true, true, false, false, true, true, false, false, false, false, false, false, false, false, false, false, false, false, false, false, false] rfl rfl (any_of HT_.out (by kernel_rfl)) (fun _ _ _ h => h) (Or.inl ⟨by rfl, ?_⟩) ?_ ?_
                  rotate_left
                  · intro w'
                    go_simp
                    with_reducible rfl
                  rotate_left
                  · simp only [Act.put, List.setIfInBounds_toArray, List.set_cons_zero, List.set_cons_succ, i64_w, i32_w]
                    rfl
                  refine pure_ (i := 9) (N := some 24) (v := ?_) (a' := ?_) #[true, true, true, false, false, true, true, false, false, true, false, false, false, false, false, false, false, false, false, false, false, false] rfl rfl (any_of HT_.out (by kernel_rfl)) (fun _ _ _ h => h) (Or.inl ⟨by rfl, ?_⟩) ?_ ?_
                  rotate_left
                  · intro w'
                    go_simp
                    with_reducible rfl
                  rotate_left
                  · simp only [Act.put, List.setIfInBounds_toArray, List.set_cons_zero, List.set_cons_succ, i64_w, i32_w]
                    rfl
                  refine pure_ (i := 12) (N := some 27) (v := ?_) (a' := ?_) #[true, true, true, false, false, true, true, false, false, true, false, false, true, false, false, false, false, false, false, false, false, false] rfl rfl (any_of HT_.out (by kernel_rfl)) (fun _ _ _ h => h) (Or.inl ⟨by rfl, ?_⟩) ?_ ?_
                  rotate_left
                  · intro w'
                    go_simp
                    with_reducible rfl
                  rotate_left
                  · simp only [Act.put, List.setIfInBounds_toArray, List.set_cons_zero, List.set_cons_succ, i64_w, i32_w]
                    rfl
                  refine pure_ (i := 15) (N := some 30) (v := ?_) (a' := ?_) #[true, true, true, false, false, true, true, false, false, true, false, false, true, false, false, true, false, false, false, false, false, false] rfl rfl (any_of HT_.out (by kernel_rfl)) (fun _ _ _ h => h) (Or.inl ⟨by rfl, ?_⟩) ?_ ?_
                  rotate_left
                  · intro w'
                    go_simp
                    with_reducible rfl
                  rotate_left
                  · simp only [Act.put, List.setIfInBounds_toArray, List.set_cons_zero, List.set_cons_succ, i64_w, i32_w]
                    rfl
                  refine pure_ (i := 16) (N := some 31) (v := ?_) (a' := ?_) #[true, true, true, false, false, true, true, false, false, true, false, false, true, false, false, true, true, false, false, false, false, false] rfl rfl (any_of HT_.out (by kernel_rfl)) (fun _ _ _ h => h) (Or.inl ⟨by rfl, ?_⟩) ?_ ?_
                  rotate_left
                  · intro w'
                    go_simp
                    with_reducible rfl
                  rotate_left
                  · simp only [Act.put, List.setIfInBounds_toArray, List.set_cons_zero, List.set_cons_succ, i64_w, i32_w]
                    rfl
                  refine take_ (i := 3) (N := some 18) (v := ?_) (a' := ?_) #[true, true, true, true, false, true, true, false, false, true, false, false, true, false, false, true, true, false, false, false, false, false] rfl rfl (take_ofW HT_.out HW_.out (by kernel_rfl)) (fun _ _ _ h => h) (Or.inl ⟨by rfl, ?_⟩) hHeld ?_ ?_
                  rotate_left
                  · rintro w' ⟨s0, s1, s2, s3, s4, s5⟩
                    go_simp
                    with_reducible rfl
                  rotate_left
                  · simp only [Act.put, List.setIfInBounds_toArray, List.set_cons_zero, List.set_cons_succ, i64_w, i32_w]
                    rfl
                  refine take_ (i := 7) (N := some 22) (v := ?_) (a' := ?_) #[true, true, true, true, false, true, true, true, false, true, false, false, true, false, false, true, true, false, false, false, false, false] rfl rfl (take_ofW HT_.out HW_.out (by kernel_rfl)) (fun _ _ _ h => h) (Or.inl ⟨by rfl, ?_⟩) hHeld ?_ ?_
                  rotate_left
                  · rintro w' ⟨s0, s1, s2, s3, s4, s5⟩
                    go_simp
                    with_reducible rfl
                  rotate_left
                  · simp only [Act.put, List.setIfInBounds_toArray, List.set_cons_zero, List.set_cons_succ, i64_w, i32_w]
                    rfl
                  refine take_ (i := 10) (N := some 25) (v := ?_) (a' := ?_) #[true, true, true, true, false, true, true, true, false, true, true, false, true, false, false, true, true, false, false, false, false, false] rfl rfl (take_ofW HT_.out HW_.out (by kernel_rfl)) (fun _ _ _ h => h) (Or.inl ⟨by rfl, ?_⟩) hHeld ?_ ?_
                  rotate_left
                  · rintro w' ⟨s0, s1, s2, s3, s4, s5⟩
                    go_simp
                    with_reducible rfl
                  rotate_left
                  · simp only [Act.put, List.setIfInBounds_toArray, List.set_cons_zero, List.set_cons_succ, i64_w, i32_w]
                    rfl
                  refine take_ (i := 13) (N := some 28) (v := ?_) (a' := ?_) #[true, true, true, true, false, true, true, true, false, true, true, false, true, true, false, true, true, false, false, false, false, false] rfl rfl (take_ofW HT_.out HW_.out (by kernel_rfl)) (fun _ _ _ h => h) (Or.inl ⟨by rfl, ?_⟩) hHeld ?_ ?_
                  rotate_left
                  · rintro w' ⟨s0, s1, s2, s3, s4, s5⟩
                    go_simp
                    with_reducible rfl
                  rotate_left
                  · simp only [Act.put, List.setIfInBounds_toArray, List.set_cons_zero, List.set_cons_succ, i64_w, i32_w]
                    rfl
                  refine take_ (i := 17) (N := some 32) (v := ?_) (a' := ?_) #[true, true, true, true, false, true, true, true, false, true, true, false, true, true, false, true, true, true, false, false, false, false] rfl rfl (take_ofW HT_.out HW_.out (by kernel_rfl)) (fun _ _ _ h => h) (Or.inl ⟨by rfl, ?_⟩) hHeld ?_ ?_
                  rotate_left
                  · rintro w' ⟨s0, s1, s2, s3, s4, s5⟩
                    go_simp
                    with_reducible rfl
                  rotate_left
                  · simp only [Act.put, List.setIfInBounds_toArray, List.set_cons_zero, List.set_cons_succ, i64_w, i32_w]
                    rfl
                  refine one_ (i := 4) (N := some 19) #[true, true, true, true, true, true, true, true, false, true, true, false, true, true, false, true, true, true, false, false, false, false] rfl rfl (one_of HT_.out (by kernel_rfl)) (by decide) (fun K hK => ?_)
                  refine goes_ Tryd.func28 (by kernel_rfl) rfl #[.int .u32 ((rd_T72 l0 x9_1).f0.f0)] (by rfl) rfl rfl (by (try simp only [List.map_toArray, List.map_cons, List.map_nil]); first | done | rfl | (simp only [List.length_drop, List.length_take]; rfl)) ?_
                  with_reducible refine (row_addr.calls ((rd_T72 l0 x9_1).f0.f0) t232 _ ?side1 A10.out).mono ?_
                  (case side1 => exact VarsOk.below HV.out (by repeat (first | (with_reducible first | exact HB.out | apply below_alloc | apply pw_below_drewN | apply below_drew1 | refine below_set ?_ GE231.out) | exact HB.out)))
                  rintro e w17 ⟨rfl, hb⟩
                  refine ⟨_, rfl, ?_⟩
                  have n0_ := Aside0.mk (Kd.R_below (by (with_reducible repeat (first | apply Kd.R_alloc | apply Kd.R_drewN | apply Kd.R_drew)); exact HO_3.out) hb)
                  have n1_ := Aside0.mk (blk_below (g := gb231) (o := .cells #[.int .u32 ((rd_T72 l0 x9_1).f0.f0), .int .i64 ((rd_T72 l0 x9_1).f0.f1), .int .i64 ((rd_T72 l0 x9_1).f1), .int .i64 ((rd_T72 l0 x9_1).f2), .bool ((rd_T72 l0 x9_1).f3), .int .i64 ((rd_T72 l0 x9_1).f4)] 72 (0, 0)) (by (with_reducible repeat (first | refine blk_drewN ?_ _ | refine blk_drew ?_ | refine blk_alloc ?_ _)); exact BK231.out) hb)
                  have n2_ := Aside0.mk (below_step (by repeat (first | (with_reducible first | exact HB.out | apply below_alloc | apply pw_below_drewN | apply below_drew1 | refine below_set ?_ GE231.out) | exact HB.out)) hb)
                  clear HO_3
                  clear BK231
                  clear HB
                  have HO_3 := n0_
                  have BK231 := n1_
                  have HB := n2_
                  clear n0_ n1_ n2_
                  (try clear hb)
                  (try clear hb2)
                  (try clear hk)
                  (try clear hi)
                  refine hK.out _ _ ⟨(blk_cell BK231.out 0).trans rfl, (blk_cell BK231.out 1).trans rfl, (blk_cell BK231.out 2).trans rfl, (blk_cell BK231.out 3).trans rfl, (blk_cell BK231.out 4).trans rfl, (blk_cell BK231.out 5).trans rfl⟩ (fun hHeld => ?_)
                  clear hK K
                  refine norm_ (a' := ?_) ?_ ?_
                  rotate_left
                  · show Act.put _ (some 19) _ = _
                    simp only [Act.put, List.setIfInBounds_toArray, List.set_cons_zero, List.set_cons_succ, i64_w, i32_w]
                    rfl
                  refine one_ (i := 8) (N := some 23) #[true, true, true, true, true, true, true, true, true, true, true, false, true, true, false, true, true, true, false, false, false, false] rfl rfl (one_of HT_.out (by kernel_rfl)) (by decide) (fun K hK => ?_)
                  refine goes_ Tryd.func29 (by kernel_rfl) rfl #[.int .i64 ((rd_T72 l0 x9_1).f0.f1)] (by rfl) rfl rfl (by (try simp only [List.map_toArray, List.map_cons, List.map_nil]); first | done | rfl | (simp only [List.length_drop, List.length_take]; rfl)) ?_
                  with_reducible refine (row_num.calls ((rd_T72 l0 x9_1).f0.f1) t233 _ ?side1 A11.out).mono ?_
                  (case side1 => exact VarsOk.below HV.out (by repeat (first | (with_reducible first | exact HB.out | apply below_alloc | apply pw_below_drewN | apply below_drew1 | refine below_set ?_ GE231.out) | exact HB.out)))
                  rintro e w18 ⟨rfl, hb⟩
                  refine ⟨_, rfl, ?_⟩
                  have n0_ := Aside0.mk (Kd.R_below (by (with_reducible repeat (first | apply Kd.R_alloc | apply Kd.R_drewN | apply Kd.R_drew)); exact HO_3.out) hb)
                  have n1_ := Aside0.mk (blk_below (g := gb231) (o := .cells #[.int .u32 ((rd_T72 l0 x9_1).f0.f0), .int .i64 ((rd_T72 l0 x9_1).f0.f1), .int .i64 ((rd_T72 l0 x9_1).f1), .int .i64 ((rd_T72 l0 x9_1).f2), .bool ((rd_T72 l0 x9_1).f3), .int .i64 ((rd_T72 l0 x9_1).f4)] 72 (0, 0)) (by (with_reducible repeat (first | refine blk_drewN ?_ _ | refine blk_drew ?_ | refine blk_alloc ?_ _)); exact BK231.out) hb)
                  have n2_ := Aside0.mk (below_step (by repeat (first | (with_reducible first | exact HB.out | apply below_alloc | apply pw_below_drewN | apply below_drew1 | refine below_set ?_ GE231.out) | exact HB.out)) hb)
                  clear HO_3
                  clear BK231
                  clear HB
                  have HO_3 := n0_
                  have BK231 := n1_
                  have HB := n2_
                  clear n0_ n1_ n2_
                  (try clear hb)
                  (try clear hb2)
                  (try clear hk)
                  (try clear hi)
                  refine hK.out _ _ ⟨(blk_cell BK231.out 0).trans rfl, (blk_cell BK231.out 1).trans rfl, (blk_cell BK231.out 2).trans rfl, (blk_cell BK231.out 3).trans rfl, (blk_cell BK231.out 4).trans rfl, (blk_cell BK231.out 5).trans rfl⟩ (fun hHeld => ?_)
                  clear hK K
                  refine norm_ (a' := ?_) ?_ ?_
                  rotate_left
                  · show Act.put _ (some 23) _ = _
                    simp only [Act.put, List.setIfInBounds_toArray, List.set_cons_zero, List.set_cons_succ, i64_w, i32_w]
                    rfl
                  refine one_ (i := 11) (N := some 26) #[true, true, true, true, true, true, true, true, true, true, true, true, true, true, false, true, true, true, false, false, false, false] rfl rfl (one_of HT_.out (by kernel_rfl)) (by decide) (fun K hK => ?_)
                  refine goes_ Tryd.func29 (by kernel_rfl) rfl #[.int .i64 ((rd_T72 l0 x9_1).f1)] (by rfl) rfl rfl (by (try simp only [List.map_toArray, List.map_cons, List.map_nil]); first | done | rfl | (simp only [List.length_drop, List.length_take]; rfl)) ?_
                  with_reducible refine (row_num.calls ((rd_T72 l0 x9_1).f1) t234 _ ?side1 A12.out).mono ?_
                  (case side1 => exact VarsOk.below HV.out (by repeat (first | (with_reducible first | exact HB.out | apply below_alloc | apply pw_below_drewN | apply below_drew1 | refine below_set ?_ GE231.out) | exact HB.out)))
                  rintro e w19 ⟨rfl, hb⟩
                  refine ⟨_, rfl, ?_⟩
                  have n0_ := Aside0.mk (Kd.R_below (by (with_reducible repeat (first | apply Kd.R_alloc | apply Kd.R_drewN | apply Kd.R_drew)); exact HO_3.out) hb)
                  have n1_ := Aside0.mk (blk_below (g := gb231) (o := .cells #[.int .u32 ((rd_T72 l0 x9_1).f0.f0), .int .i64 ((rd_T72 l0 x9_1).f0.f1), .int .i64 ((rd_T72 l0 x9_1).f1), .int .i64 ((rd_T72 l0 x9_1).f2), .bool ((rd_T72 l0 x9_1).f3), .int .i64 ((rd_T72 l0 x9_1).f4)] 72 (0, 0)) (by (with_reducible repeat (first | refine blk_drewN ?_ _ | refine blk_drew ?_ | refine blk_alloc ?_ _)); exact BK231.out) hb)
                  have n2_ := Aside0.mk (below_step (by repeat (first | (with_reducible first | exact HB.out | apply below_alloc | apply pw_below_drewN | apply below_drew1 | refine below_set ?_ GE231.out) | exact HB.out)) hb)
                  clear HO_3
                  clear BK231
                  clear HB
                  have HO_3 := n0_
                  have BK231 := n1_
                  have HB := n2_
                  clear n0_ n1_ n2_
                  (try clear hb)
                  (try clear hb2)
                  (try clear hk)
                  (try clear hi)
                  refine hK.out _ _ ⟨(blk_cell BK231.out 0).trans rfl, (blk_cell BK231.out 1).trans rfl, (blk_cell BK231.out 2).trans rfl, (blk_cell BK231.out 3).trans rfl, (blk_cell BK231.out 4).trans rfl, (blk_cell BK231.out 5).trans rfl⟩ (fun hHeld => ?_)
                  clear hK K
                  refine norm_ (a' := ?_) ?_ ?_
                  rotate_left
                  · show Act.put _ (some 26) _ = _
                    simp only [Act.put, List.setIfInBounds_toArray, List.set_cons_zero, List.set_cons_succ, i64_w, i32_w]
                    rfl
                  refine one_ (i := 14) (N := some 29) #[true, true, true, true, true, true, true, true, true, true, true, true, true, true, true, true, true, true, false, false, false, false] rfl rfl (one_of HT_.out (by kernel_rfl)) (by decide) (fun K hK => ?_)
                  refine goes_ Tryd.func29 (by kernel_rfl) rfl #[.int .i64 ((rd_T72 l0 x9_1).f2)] (by rfl) rfl rfl (by (try simp only [List.map_toArray, List.map_cons, List.map_nil]); first | done | rfl | (simp only [List.length_drop, List.length_take]; rfl)) ?_
                  with_reducible refine (row_num.calls ((rd_T72 l0 x9_1).f2) t235 _ ?side1 A13.out).mono ?_
                  (case side1 => exact VarsOk.below HV.out (by repeat (first | (with_reducible first | exact HB.out | apply below_alloc | apply pw_below_drewN | apply below_drew1 | refine below_set ?_ GE231.out) | exact HB.out)))
                  rintro e w20 ⟨rfl, hb⟩
                  refine ⟨_, rfl, ?_⟩
                  have n0_ := Aside0.mk (Kd.R_below (by (with_reducible repeat (first | apply Kd.R_alloc | apply Kd.R_drewN | apply Kd.R_drew)); exact HO_3.out) hb)
                  have n1_ := Aside0.mk (blk_below (g := gb231) (o := .cells #[.int .u32 ((rd_T72 l0 x9_1).f0.f0), .int .i64 ((rd_T72 l0 x9_1).f0.f1), .int .i64 ((rd_T72 l0 x9_1).f1), .int .i64 ((rd_T72 l0 x9_1).f2), .bool ((rd_T72 l0 x9_1).f3), .int .i64 ((rd_T72 l0 x9_1).f4)] 72 (0, 0)) (by (with_reducible repeat (first | refine blk_drewN ?_ _ | refine blk_drew ?_ | refine blk_alloc ?_ _)); exact BK231.out) hb)
                  have n2_ := Aside0.mk (below_step (by repeat (first | (with_reducible first | exact HB.out | apply below_alloc | apply pw_below_drewN | apply below_drew1 | refine below_set ?_ GE231.out) | exact HB.out)) hb)
                  clear HO_3
                  clear BK231
                  clear HB
                  have HO_3 := n0_
                  have BK231 := n1_
                  have HB := n2_
                  clear n0_ n1_ n2_
                  (try clear hb)
                  (try clear hb2)
                  (try clear hk)
                  (try clear hi)
                  refine hK.out _ _ ⟨(blk_cell BK231.out 0).trans rfl, (blk_cell BK231.out 1).trans rfl, (blk_cell BK231.out 2).trans rfl, (blk_cell BK231.out 3).trans rfl, (blk_cell BK231.out 4).trans rfl, (blk_cell BK231.out 5).trans rfl⟩ (fun hHeld => ?_)
                  clear hK K
                  refine norm_ (a' := ?_) ?_ ?_
                  rotate_left
                  · show Act.put _ (some 29) _ = _
                    simp only [Act.put, List.setIfInBounds_toArray, List.set_cons_zero, List.set_cons_succ, i64_w, i32_w]
                    rfl
                  refine one_ (i := 18) (N := some 33) #[true, true, true, true, true, true, true, true, true, true, true, true, true, true, true, true, true, true, true, false, false, false] rfl rfl (one_of HT_.out (by kernel_rfl)) (by decide) (fun K hK => ?_)
                  refine goes_ Tryd.func29 (by kernel_rfl) rfl #[.int .i64 ((rd_T72 l0 x9_1).f4)] (by rfl) rfl rfl (by (try simp only [List.map_toArray, List.map_cons, List.map_nil]); first | done | rfl | (simp only [List.length_drop, List.length_take]; rfl)) ?_
                  with_reducible refine (row_num.calls ((rd_T72 l0 x9_1).f4) t236 _ ?side1 A14.out).mono ?_
                  (case side1 => exact VarsOk.below HV.out (by repeat (first | (with_reducible first | exact HB.out | apply below_alloc | apply pw_below_drewN | apply below_drew1 | refine below_set ?_ GE231.out) | exact HB.out)))
                  rintro e w21 ⟨rfl, hb⟩
                  refine ⟨_, rfl, ?_⟩
                  have n0_ := Aside0.mk (Kd.R_below (by (with_reducible repeat (first | apply Kd.R_alloc | apply Kd.R_drewN | apply Kd.R_drew)); exact HO_3.out) hb)
                  have n1_ := Aside0.mk (blk_below (g := gb231) (o := .cells #[.int .u32 ((rd_T72 l0 x9_1).f0.f0), .int .i64 ((rd_T72 l0 x9_1).f0.f1), .int .i64 ((rd_T72 l0 x9_1).f1), .int .i64 ((rd_T72 l0 x9_1).f2), .bool ((rd_T72 l0 x9_1).f3), .int .i64 ((rd_T72 l0 x9_1).f4)] 72 (0, 0)) (by (with_reducible repeat (first | refine blk_drewN ?_ _ | refine blk_drew ?_ | refine blk_alloc ?_ _)); exact BK231.out) hb)
                  have n2_ := Aside0.mk (below_step (by repeat (first | (with_reducible first | exact HB.out | apply below_alloc | apply pw_below_drewN | apply below_drew1 | refine below_set ?_ GE231.out) | exact HB.out)) hb)
                  clear HO_3
                  clear BK231
                  clear HB
                  have HO_3 := n0_
                  have BK231 := n1_
                  have HB := n2_
                  clear n0_ n1_ n2_
                  (try clear hb)
                  (try clear hb2)
                  (try clear hk)
                  (try clear hi)
                  refine hK.out _ _ ⟨(blk_cell BK231.out 0).trans rfl, (blk_cell BK231.out 1).trans rfl, (blk_cell BK231.out 2).trans rfl, (blk_cell BK231.out 3).trans rfl, (blk_cell BK231.out 4).trans rfl, (blk_cell BK231.out 5).trans rfl⟩ (fun hHeld => ?_)
                  clear hK K
                  refine norm_ (a' := ?_) ?_ ?_
                  rotate_left
                  · show Act.put _ (some 33) _ = _
                    simp only [Act.put, List.setIfInBounds_toArray, List.set_cons_zero, List.set_cons_succ, i64_w, i32_w]
                    rfl
                  refine one_ (i := 19) (N := some 34) #[true, true, true, true, true, true, true, true, true, true, true, true, true, true, true, true, true, true, true, true, false, false] rfl rfl (one_of HT_.out (by kernel_rfl)) (by decide) (fun K hK => ?_)
                  refine Kd.R_lit_step Kd.string _ 9 ?hg (N := 34) ?hd (xs := ([t232, t233, t234, t235, x6_4, t236] : List ByteArray)) (inner := [.string t232, .string t233, .string t234, .string t235, .string x6_4, .string t236]) (ok := fun _ => True) (okp := fun _ => True) ?hr ?hp (fun _ hk => hk) trivial (Below.refl _ _) (Nat.le_refl _) (by simp) ?_; (case hd => rfl); (case hg => rfl); (case hr => first | (go_simp; done) | (go_simp; rfl) | (go_simp; simp [IntKind.wrap_u8]; done)); (case hp => exact (Reps.one (show Kd.M Kd.string _ _ _ t232 [.string t232] from rfl) (Reps.one (show Kd.M Kd.string _ _ _ t233 [.string t233] from rfl) (Reps.one (show Kd.M Kd.string _ _ _ t234 [.string t234] from rfl) (Reps.one (show Kd.M Kd.string _ _ _ t235 [.string t235] from rfl) (Reps.one (show Kd.M Kd.string _ _ _ x6_4 [.string x6_4] from rfl) (Reps.one (show Kd.M Kd.string _ _ _ t236 [.string t236] from rfl) (Reps.none _ _))))))))
                  intro v238 w22 ho23 hb hg_ hnew_
                  clear hg_ hnew_
                  (first | rw [← Ny237.out] at ho23 | (simp only [Int.reduceToNat] at ho23; rw [← Ny237.out] at ho23))
                  have n0_ := Aside0.mk (Kd.R_elder' (by (with_reducible repeat (first | apply Kd.R_alloc | apply Kd.R_drewN | apply Kd.R_drew)); exact HO_3.out) (Kd.R_base ho23) hb)
                  have n1_ := Aside0.mk (Kd.R_lower (Kd.R_new' ho23 (Kd.R_lt (by (with_reducible repeat (first | apply Kd.R_alloc | apply Kd.R_drewN | apply Kd.R_drew)); exact HO_3.out))) (below_size (by repeat (first | (with_reducible first | exact HB.out | apply below_alloc | apply pw_below_drewN | apply below_drew1 | refine below_set ?_ GE231.out) | exact HB.out))))
                  have n2_ := Aside0.mk (blk_below (g := gb231) (o := .cells #[.int .u32 ((rd_T72 l0 x9_1).f0.f0), .int .i64 ((rd_T72 l0 x9_1).f0.f1), .int .i64 ((rd_T72 l0 x9_1).f1), .int .i64 ((rd_T72 l0 x9_1).f2), .bool ((rd_T72 l0 x9_1).f3), .int .i64 ((rd_T72 l0 x9_1).f4)] 72 (0, 0)) (by (with_reducible repeat (first | refine blk_drewN ?_ _ | refine blk_drew ?_ | refine blk_alloc ?_ _)); exact BK231.out) hb)
                  have n3_ := Aside0.mk (below_step (by repeat (first | (with_reducible first | exact HB.out | apply below_alloc | apply pw_below_drewN | apply below_drew1 | refine below_set ?_ GE231.out) | exact HB.out)) hb)
                  clear HO_3
                  clear BK231
                  clear HB
                  have HO_3 := n0_
                  have HO239 := n1_
                  have BK231 := n2_
                  have HB := n3_
                  clear n0_ n1_ n2_ n3_
                  clear hb ho23
                  obtain ⟨Ao25, co25, eo25⟩ := Kd.R_slice HO239.out
                  (first | subst eo25 | (injection eo25 with f1_ f2_ f3_; have f4_ := f1_.symm; have f5_ := f3_.symm; clear f1_ f2_ f3_; subst f4_; subst f5_))
                  refine hK.out _ _ ⟨(blk_cell BK231.out 0).trans rfl, (blk_cell BK231.out 1).trans rfl, (blk_cell BK231.out 2).trans rfl, (blk_cell BK231.out 3).trans rfl, (blk_cell BK231.out 4).trans rfl, (blk_cell BK231.out 5).trans rfl⟩ (fun hHeld => ?_)
                  clear hK K
                  refine norm_ (a' := ?_) ?_ ?_
                  rotate_left
                  · show Act.put _ (some 34) _ = _
                    simp only [Act.put, List.setIfInBounds_toArray, List.set_cons_zero, List.set_cons_succ, i64_w, i32_w]
                    rfl
                  refine one_ (i := 20) (N := some 35) #[true, true, true, true, true, true, true, true, true, true, true, true, true, true, true, true, true, true, true, true, true, false] rfl rfl (one_of HT_.out (by kernel_rfl)) (by decide) (fun K hK => ?_)
                  refine Kd.R_append_rows_step Kd.string (w0 := w) w.heap.size (by rfl) (.tmp 15) (.tmp 34) 22 9 (.string ⟨#[]⟩) 16 rfl Tryd.underlying22 info9 rfl (by decide) (by omega) u3 x3_1 y237 _ _ _ (fun k_ => some k_ ≠ (.slice Ao25 y237.length co25 : Value).ownBlock) (fun _ => False) rfl rfl ?aO ?aR (fun _ _ h => h) (fun _ h => h.elim) ?aF ?aB ?aS ?aL ?_
                  (case aR => repeat (first | exact (Kd.R_reads' HO239.out).2.2 | (with_reducible refine Kd.C_alloc ?_ _) | (with_reducible refine Kd.C_drewN ?_ _) | (with_reducible refine Kd.C_drew ?_)))
                  (case aB => exact (by repeat (first | (with_reducible first | exact HB.out | apply below_alloc | apply pw_below_drewN | apply below_drew1 | refine below_set ?_ GE231.out) | exact HB.out)))
                  (case aF => exact (fun k_ hk => Kd.fresh' (Kd.R_lt (by (with_reducible repeat (first | apply Kd.R_alloc | apply Kd.R_drewN | apply Kd.R_drew)); exact HO239.out)) k_ hk))
                  (case aO => exact (by (with_reducible repeat (first | apply Kd.R_alloc | apply Kd.R_drewN | apply Kd.R_drew)); exact Kd.R_mono HO_3.out (fun _ hk => hk.2)))
                  (case aS => exact (below_size (by repeat (first | (with_reducible first | exact HB.out | apply below_alloc | apply pw_below_drewN | apply below_drew1 | refine below_set ?_ GE231.out) | exact HB.out))))
                  (case aL => have := LMc15.out; omega)
                  intro v241 w24 ho hb hg hat
                  rw [← Ny240.out] at ho
                  have n0_ := Aside0.mk (blk_grown (g := gb231) (o := .cells #[.int .u32 ((rd_T72 l0 x9_1).f0.f0), .int .i64 ((rd_T72 l0 x9_1).f0.f1), .int .i64 ((rd_T72 l0 x9_1).f1), .int .i64 ((rd_T72 l0 x9_1).f2), .bool ((rd_T72 l0 x9_1).f3), .int .i64 ((rd_T72 l0 x9_1).f4)] 72 (0, 0)) (by (with_reducible repeat (first | refine blk_drewN ?_ _ | refine blk_drew ?_ | refine blk_alloc ?_ _)); exact BK231.out) hg (Kd.R_ne HO_3.out BK231.out (by decide)))
                  have n1_ := Aside0.mk (Kd.R_after (ok := (fun _ => True)) (by (with_reducible repeat (first | apply Kd.R_alloc | apply Kd.R_drewN | apply Kd.R_drew)); exact HO239.out) hg hat)
                  have n2_ := Aside0.mk (hb)
                  have n3_ := Aside0.mk (ho)
                  clear BK231
                  clear HO239
                  clear HB
                  clear HO_3
                  have BK231 := n0_
                  have HO239 := n1_
                  have HB := n2_
                  have HO242 := n3_
                  clear n0_ n1_ n2_ n3_
                  clear ho hb hg hat
                  refine hK.out _ _ ⟨(blk_cell BK231.out 0).trans rfl, (blk_cell BK231.out 1).trans rfl, (blk_cell BK231.out 2).trans rfl, (blk_cell BK231.out 3).trans rfl, (blk_cell BK231.out 4).trans rfl, (blk_cell BK231.out 5).trans rfl⟩ (fun hHeld => ?_)
                  clear hK K
                  refine norm_ (a' := ?_) ?_ ?_
                  rotate_left
                  · show Act.put _ (some 35) _ = _
                    simp only [Act.put, List.setIfInBounds_toArray, List.set_cons_zero, List.set_cons_succ, i64_w, i32_w]
                    rfl
                  refine pure_ (i := 21) (N := some 3) (v := ?_) (a' := ?_) #[true, true, true, true, true, true, true, true, true, true, true, true, true, true, true, true, true, true, true, true, true, true] rfl rfl (any_of HT_.out (by kernel_rfl)) (fun _ _ _ h => h) (Or.inl ⟨by rfl, ?_⟩) ?_ ?_
                  rotate_left
                  · intro w'
                    go_simp
                    with_reducible rfl
                  rotate_left
                  · simp only [Act.put, List.setIfInBounds_toArray, List.set_cons_zero, List.set_cons_succ, i64_w, i32_w]
                    rfl
                  refine done_ (done_of HT_.out (by kernel_rfl)) ?_
                  try go_wp2
                  go_roundg kj4
                  case measure => have := HK1.out; have := HJ4.out; omega
                  case rel => (try rw [← Nbq8.out]); exact ⟨(y240), (wrap64 (x9_1 + 1)), (by first | rfl | (simp; done) | (simp [*]; done)), H', ⟨by have := HK1.out; have := HJ4.out; omega⟩, ⟨by (with_reducible repeat (first | apply Kd.R_alloc | apply Kd.R_drewN | apply Kd.R_drew)); exact Kd.R_mono HO242.out (fun _ hk => trivial)⟩, ⟨by repeat (first | (with_reducible first | exact HB.out | apply below_alloc | apply pw_below_drewN | apply below_drew1 | refine below_set ?_ GE231.out) | exact HB.out)⟩⟩
                · rw [if_neg c15] at H
                  exact absurd H (by simp)
          · rw [if_neg c4] at H
            exact absurd H (by simp)
        · rw [if_neg c3] at H
          exact absurd H (by simp)
      · rw [if_neg c2] at H
        have c2b0 : decide (x9_1 < (l0.length : Int)) = false := decide_eq_false c2
        clear c2
        obtain rfl := Option.some.inj H
        go_wp2
        go_ret
        exact ⟨_, by first | rfl | (simp [errW_none, errW_some] <;> rfl) | (simp [*, errW_none, errW_some] <;> rfl), by (with_reducible repeat (first | apply Kd.R_alloc | apply Kd.R_drewN | apply Kd.R_drew)); exact HO_3.out, by repeat (first | (with_reducible first | exact HB.out | apply below_alloc | apply pw_below_drewN | apply below_drew1) | exact HB.out)⟩

end Go.Proofs.YtppjodchlpapdaaDoor.PB
