-- By a program of this session (printx.py), out of Lean's own print of the translation. Not trusted: Lean checks it.
import Derived.Test.YtppjodchlpapdaaDoorPBx0
namespace Go.Proofs.YtppjodchlpapdaaDoor.PB
open Go.RowKit Go.Proofs.YtppjodchlpapdaaDoorW.PrintWords Go.Proofs.YtppjodchlpapdaaDoorW.PrintLast Go.Proofs.YtppjodchlpapdaaDoorW.PrintMore
attribute [local go_sem] max2_int min2_int max_two min_two max_three min_three max_four min_four   -- for this text's walks alone
set_option linter.unusedVariables false
set_option linter.unusedSimpArgs false

/-! ### interregnumref11_Split: function 11 -/
mutual
def interregnumref11_Split.l0 : Nat → ByteArray → List ByteArray → Int → Option (List ByteArray × Bool)
  | 0, _, _, _ => none
  | k + 1, x0, x4, x5 => if x5 < (x0.size : Int) then (interregnumref11_Split.l1 k x0 x4 x5 0 x5) else (some (x4, true))
def interregnumref11_Split.l1 : Nat → ByteArray → List ByteArray → Int → Int → Int → Option (List ByteArray × Bool)
  | 0, _, _, _, _, _ => none
  | k + 1, x0, x4, x5, x6, x7 => if x7 < (x0.size : Int) then (if 0 ≤ x7 then (if (bt x0 x7) ≥ 48 then (if (bt x0 x7) ≤ 57 then (interregnumref11_Split.j2 k x0 x4 x5 x6 x7 (decide (x6 < 1099511627776))) else (interregnumref11_Split.j2 k x0 x4 x5 x6 x7 false)) else (interregnumref11_Split.j2 k x0 x4 x5 x6 x7 false)) else (none)) else (interregnumref11_Split.j2 k x0 x4 x5 x6 x7 false)
def interregnumref11_Split.j2 : Nat → ByteArray → List ByteArray → Int → Int → Int → Bool → Option (List ByteArray × Bool)
  | 0, _, _, _, _, _, _ => none
  | k + 1, x0, x4, x5, x6, x7, x32 => if x32 = true then (if 0 ≤ x7 then (if x7 < (x0.size : Int) then (interregnumref11_Split.l1 k x0 x4 x5 (wrap64 ((wrap64 (x6 * 10)) + (((bt x0 x7) - 48) % 256))) (wrap64 (x7 + 1))) else (none)) else (none)) else (if x7 = x5 then (interregnumref11_Split.j3 k x0 x4 x6 x7 true) else (if x7 ≥ (x0.size : Int) then (interregnumref11_Split.j3 k x0 x4 x6 x7 true) else (if 0 ≤ x7 then (if x7 < (x0.size : Int) then (if (bt x0 x7) = 58 then (if (wrap64 (x7 - x5)) > 1 then (if 0 ≤ x5 then (if x5 < (x0.size : Int) then (if (bt x0 x5) = 48 then (interregnumref11_Split.j3 k x0 x4 x6 x7 true) else (interregnumref11_Split.j3 k x0 x4 x6 x7 (decide (x6 > (wrap64 ((wrap64 ((x0.size : Int) - x7)) - 1)))))) else (none)) else (none)) else (interregnumref11_Split.j3 k x0 x4 x6 x7 (decide (x6 > (wrap64 ((wrap64 ((x0.size : Int) - x7)) - 1)))))) else (interregnumref11_Split.j3 k x0 x4 x6 x7 true)) else (none)) else (none))))
def interregnumref11_Split.j3 : Nat → ByteArray → List ByteArray → Int → Int → Bool → Option (List ByteArray × Bool)
  | 0, _, _, _, _, _ => none
  | k + 1, x0, x4, x6, x7, x78 => if x78 = true then (some (([] : List ByteArray), false)) else (if 0 ≤ (wrap64 (x7 + 1)) then (if (wrap64 (x7 + 1)) ≤ (wrap64 ((wrap64 (x7 + 1)) + x6)) then (if (wrap64 ((wrap64 (x7 + 1)) + x6)) ≤ (x0.size : Int) then (if x4.length < 8796093022208 then (interregnumref11_Split.l0 k x0 (x4 ++ [x0.extract ((wrap64 (x7 + 1)) : Int).toNat ((wrap64 ((wrap64 (x7 + 1)) + x6)) : Int).toNat]) (wrap64 ((wrap64 (x7 + 1)) + x6))) else (none)) else (none)) else (none)) else (none))
end
def interregnumref11_Split.f (k : Nat) (a0 : ByteArray) : Option (List ByteArray × Bool) := interregnumref11_Split.l0 k a0 ([] : List ByteArray) 0
theorem interregnumref11_Split.mono_l : ∀ k, (∀ y0 y1 y2, LeO (interregnumref11_Split.l0 k y0 y1 y2) (interregnumref11_Split.l0 (k + 1) y0 y1 y2)) ∧ (∀ y0 y1 y2 y3 y4, LeO (interregnumref11_Split.l1 k y0 y1 y2 y3 y4) (interregnumref11_Split.l1 (k + 1) y0 y1 y2 y3 y4)) ∧ (∀ y0 y1 y2 y3 y4 y5, LeO (interregnumref11_Split.j2 k y0 y1 y2 y3 y4 y5) (interregnumref11_Split.j2 (k + 1) y0 y1 y2 y3 y4 y5)) ∧ (∀ y0 y1 y2 y3 y4, LeO (interregnumref11_Split.j3 k y0 y1 y2 y3 y4) (interregnumref11_Split.j3 (k + 1) y0 y1 y2 y3 y4))
  | 0 => ⟨fun _ _ _ r h => by simp [interregnumref11_Split.l0] at h, fun _ _ _ _ _ r h => by simp [interregnumref11_Split.l1] at h, fun _ _ _ _ _ _ r h => by simp [interregnumref11_Split.j2] at h, fun _ _ _ _ _ r h => by simp [interregnumref11_Split.j3] at h⟩
  | k + 1 => by
    obtain ⟨ih0, ih1, ih2, ih3⟩ := interregnumref11_Split.mono_l k
    refine ⟨?_, ?_, ?_, ?_⟩
    · intro y0 y1 y2
      unfold interregnumref11_Split.l0
      repeat' first
      | (with_reducible exact ih0 _ _ _)
      | (with_reducible exact ih1 _ _ _ _ _)
      | (with_reducible exact ih2 _ _ _ _ _ _)
      | (with_reducible exact ih3 _ _ _ _ _)
      | (with_reducible exact LeO.refl _)
      | (with_reducible exact LeO.none _)
      | (with_reducible refine LeO.ite ?_ ?_)
      | (with_reducible refine LeO.bind ?_ (fun _ => ?_))
      | exact ih0 _ _ _
      | exact ih1 _ _ _ _ _
      | exact ih2 _ _ _ _ _ _
      | exact ih3 _ _ _ _ _
      | exact LeO.none _
      | refine LeO.ite ?_ ?_
      | refine LeO.bind ?_ (fun _ => ?_)
    · intro y0 y1 y2 y3 y4
      unfold interregnumref11_Split.l1
      repeat' first
      | (with_reducible exact ih0 _ _ _)
      | (with_reducible exact ih1 _ _ _ _ _)
      | (with_reducible exact ih2 _ _ _ _ _ _)
      | (with_reducible exact ih3 _ _ _ _ _)
      | (with_reducible exact LeO.refl _)
      | (with_reducible exact LeO.none _)
      | (with_reducible refine LeO.ite ?_ ?_)
      | (with_reducible refine LeO.bind ?_ (fun _ => ?_))
      | exact ih0 _ _ _
      | exact ih1 _ _ _ _ _
      | exact ih2 _ _ _ _ _ _
      | exact ih3 _ _ _ _ _
      | exact LeO.none _
      | refine LeO.ite ?_ ?_
      | refine LeO.bind ?_ (fun _ => ?_)
    · intro y0 y1 y2 y3 y4 y5
      unfold interregnumref11_Split.j2
      repeat' first
      | (with_reducible exact ih0 _ _ _)
      | (with_reducible exact ih1 _ _ _ _ _)
      | (with_reducible exact ih2 _ _ _ _ _ _)
      | (with_reducible exact ih3 _ _ _ _ _)
      | (with_reducible exact LeO.refl _)
      | (with_reducible exact LeO.none _)
      | (with_reducible refine LeO.ite ?_ ?_)
      | (with_reducible refine LeO.bind ?_ (fun _ => ?_))
      | exact ih0 _ _ _
      | exact ih1 _ _ _ _ _
      | exact ih2 _ _ _ _ _ _
      | exact ih3 _ _ _ _ _
      | exact LeO.none _
      | refine LeO.ite ?_ ?_
      | refine LeO.bind ?_ (fun _ => ?_)
    · intro y0 y1 y2 y3 y4
      unfold interregnumref11_Split.j3
      repeat' first
      | (with_reducible exact ih0 _ _ _)
      | (with_reducible exact ih1 _ _ _ _ _)
      | (with_reducible exact ih2 _ _ _ _ _ _)
      | (with_reducible exact ih3 _ _ _ _ _)
      | (with_reducible exact LeO.refl _)
      | (with_reducible exact LeO.none _)
      | (with_reducible refine LeO.ite ?_ ?_)
      | (with_reducible refine LeO.bind ?_ (fun _ => ?_))
      | exact ih0 _ _ _
      | exact ih1 _ _ _ _ _
      | exact ih2 _ _ _ _ _ _
      | exact ih3 _ _ _ _ _
      | exact LeO.none _
      | refine LeO.ite ?_ ?_
      | refine LeO.bind ?_ (fun _ => ?_)
theorem interregnumref11_Split.mono : ∀ a0 k, LeO (interregnumref11_Split.f k a0) (interregnumref11_Split.f (k + 1) a0) := by
  intro a0 k
  obtain ⟨ih0, ih1, ih2, ih3⟩ := interregnumref11_Split.mono_l k
  unfold interregnumref11_Split.f
  repeat' first
      | (with_reducible exact ih0 _ _ _)
      | (with_reducible exact ih1 _ _ _ _ _)
      | (with_reducible exact ih2 _ _ _ _ _ _)
      | (with_reducible exact ih3 _ _ _ _ _)
      | (with_reducible exact LeO.refl _)
      | (with_reducible exact LeO.none _)
      | (with_reducible refine LeO.ite ?_ ?_)
      | (with_reducible refine LeO.bind ?_ (fun _ => ?_))
      | exact ih0 _ _ _
      | exact ih1 _ _ _ _ _
      | exact ih2 _ _ _ _ _ _
      | exact ih3 _ _ _ _ _
      | exact LeO.none _
      | refine LeO.ite ?_ ?_
      | refine LeO.bind ?_ (fun _ => ?_)
set_option maxHeartbeats 8000000 in
set_option maxRecDepth 100000 in
theorem interregnumref11_Split.calls (k : Nat) (a0 : ByteArray) (r1 : List ByteArray) (r2 : Bool) (w : World) (h : interregnumref11_Split.f k a0 = some (r1, r2)) :
    Calls Tryd.prog 11 #[.string a0] w fun e w' => ∃ v0_ : Value, e = .returned (.tuple #[v0_, .bool r2]) ∧ Kd.R Kd.string 9 w' w.heap.size (fun _ => True) v0_ r1 ∧ Below w.heap.size w w' := by
  have HB := Aside0.mk (Below.refl w.heap.size w)
  have H : (interregnumref11_Split.l0 k a0 ([] : List ByteArray) 0) = some (r1, r2) := h
  clear h
  have H' := Aside0.mk H
  clear H
  go_enter Tryd.func11, Tryd.ntmps11
  go_wp2
  go_loopg [4, 5] k (fun kq v4 v5 w' => ∃ (x4_1 : List ByteArray) (x5_1 : Int), v5 = .int .i64 x5_1 ∧ Aside0 (interregnumref11_Split.l0 kq a0 x4_1 x5_1 = some (r1, r2)) ∧ Aside0 (kq ≤ k) ∧ Aside0 (Kd.R Kd.string 9 w' w.heap.size (fun _ => True) v4 x4_1) ∧ Aside0 (Below w.heap.size w w'))
  case atStart => exact ⟨(([] : List ByteArray)), (0), (by first | rfl | (simp; done) | (simp [*]; done)), H', ⟨Nat.le_refl _⟩, ⟨by first | exact Kd.R_nil _ _ _ _ _ | exact Kd.N_nil _ _ _ _ _ | exact Kd.V_nil _ _ _ _ _ | exact Kd.Q_nil _ _ _ _ _ | exact Kd.S_nil _ _ _ _ _⟩, ⟨by repeat (first | (with_reducible first | exact HB.out | apply below_alloc | apply pw_below_drewN | apply below_drew1) | exact HB.out)⟩⟩
  case round =>
    clear H'
    try clear c1
    obtain ⟨x4_1, x5_1, rfl, HA, HK1, HO_4, HB⟩ := hrel
    cases gk with
    | zero => exact absurd HA.out (by simp [interregnumref11_Split.l0])
    | succ k1 =>
      have H := HA.out
      clear HA
      simp only [interregnumref11_Split.l0] at H
      by_cases c2 : x5_1 < (a0.size : Int)
      · rw [if_pos c2] at H
        have c2b0 : decide (x5_1 < (a0.size : Int)) = true := decide_eq_true c2
        clear c2
        have H' := Aside0.mk H
        clear H
        go_wp2
        go_loopg [6, 7] k1 (fun kq v6 v7 w' => ∃ (x6_2 : Int) (x7_2 : Int), v6 = .int .i64 x6_2 ∧ v7 = .int .i64 x7_2 ∧ Aside0 (interregnumref11_Split.l1 kq a0 x4_1 x5_1 x6_2 x7_2 = some (r1, r2)) ∧ Aside0 (kq ≤ k1) ∧ Aside0 (Kd.R Kd.string 9 w' w.heap.size (fun _ => True) u4 x4_1) ∧ Aside0 (Below w.heap.size w w'))
        case atStart => exact ⟨(0), (x5_1), (by first | rfl | (simp; done) | (simp [*]; done)), (by first | rfl | (simp; done) | (simp [*]; done)), H', ⟨Nat.le_refl _⟩, ⟨by (with_reducible repeat (first | apply Kd.R_alloc | apply Kd.R_drewN | apply Kd.R_drew)); exact HO_4.out⟩, ⟨by repeat (first | (with_reducible first | exact HB.out | apply below_alloc | apply pw_below_drewN | apply below_drew1) | exact HB.out)⟩⟩
        case round =>
          clear H'
          try clear c1
          try clear c2
          try clear c2b0
          try clear p2
          obtain ⟨x6_2, x7_2, rfl, rfl, HA, HK2, HO_4, HB⟩ := hrel
          cases gk with
          | zero => exact absurd HA.out (by simp [interregnumref11_Split.l1])
          | succ k2 =>
            have H := HA.out
            clear HA
            simp only [interregnumref11_Split.l1] at H
            have HC3 := Aside0.mk H
            clear H
            go_upto_region 5 with (fail)
            go_cut [32] (fun v32 wc => ∃ (kq : Nat) (x32_2 : Bool), v32 = .bool x32_2 ∧ Aside0 (interregnumref11_Split.j2 kq a0 x4_1 x5_1 x6_2 x7_2 x32_2 = some (r1, r2)) ∧ Aside0 (kq ≤ k2) ∧ Aside0 (Kd.R Kd.string 9 wc w.heap.size (fun _ => True) u4 x4_1) ∧ Aside0 (Below w.heap.size w wc))
            case first =>
              have H := HC3.out
              clear HC3
              by_cases c4 : x7_2 < (a0.size : Int)
              · rw [if_pos c4] at H
                have c4b0 : decide (x7_2 < (a0.size : Int)) = true := decide_eq_true c4
                clear c4
                (first | rw [c4b0] | (simp only [i64_w, i32_w]; rw [c4b0]) | skip)
                by_cases c5 : 0 ≤ x7_2
                · rw [if_pos c5] at H
                  have c5b0 : decide (0 ≤ x7_2) = true := decide_eq_true c5
                  clear c5
                  by_cases c7 : (bt a0 x7_2) ≥ 48
                  · rw [if_pos c7] at H
                    have c7b0 : decide (48 ≤ (bt a0 x7_2)) = true := decide_eq_true c7
                    clear c7
                    by_cases c9 : (bt a0 x7_2) ≤ 57
                    · rw [if_pos c9] at H
                      have c9b0 : decide ((bt a0 x7_2) ≤ 57) = true := decide_eq_true c9
                      clear c9
                      have H' := Aside0.mk H
                      clear H
                      have p6 : 0 ≤ (x7_2 : Int) := of_decide_eq_true (by first | (with_reducible assumption) | assumption)
                      have q6 : x7_2 < (a0.size : Int) := of_decide_eq_true (by first | (with_reducible assumption) | assumption)
                      have hx6 := bt_at a0 x7_2
                      replace p6 := eq_true p6
                      replace q6 := eq_true q6
                      have p8 : 0 ≤ (x7_2 : Int) := of_decide_eq_true (by first | (with_reducible assumption) | assumption)
                      have q8 : x7_2 < (a0.size : Int) := of_decide_eq_true (by first | (with_reducible assumption) | assumption)
                      have hx8 := bt_at a0 x7_2
                      replace p8 := eq_true p8
                      replace q8 := eq_true q8
                      go_wp2
                      go_meet
                      case rel => exact ⟨_, (decide (x6_2 < 1099511627776)), (by first | rfl | (simp; done) | (simp [*]; done)), H', ⟨by have := HK1.out; have := HK2.out; first | omega | exact Nat.le_refl _⟩, ⟨by (with_reducible repeat (first | apply Kd.R_alloc | apply Kd.R_drewN | apply Kd.R_drew)); exact HO_4.out⟩, ⟨by repeat (first | (with_reducible first | exact HB.out | apply below_alloc | apply pw_below_drewN | apply below_drew1) | exact HB.out)⟩⟩
                    · rw [if_neg c9] at H
                      have c9b0 : decide ((bt a0 x7_2) ≤ 57) = false := decide_eq_false c9
                      clear c9
                      have H' := Aside0.mk H
                      clear H
                      have p6 : 0 ≤ (x7_2 : Int) := of_decide_eq_true (by first | (with_reducible assumption) | assumption)
                      have q6 : x7_2 < (a0.size : Int) := of_decide_eq_true (by first | (with_reducible assumption) | assumption)
                      have hx6 := bt_at a0 x7_2
                      replace p6 := eq_true p6
                      replace q6 := eq_true q6
                      have p8 : 0 ≤ (x7_2 : Int) := of_decide_eq_true (by first | (with_reducible assumption) | assumption)
                      have q8 : x7_2 < (a0.size : Int) := of_decide_eq_true (by first | (with_reducible assumption) | assumption)
                      have hx8 := bt_at a0 x7_2
                      replace p8 := eq_true p8
                      replace q8 := eq_true q8
                      go_wp2
                      go_meet
                      case rel => exact ⟨_, (false), (by first | rfl | (simp; done) | (simp [*]; done)), H', ⟨by have := HK1.out; have := HK2.out; first | omega | exact Nat.le_refl _⟩, ⟨by (with_reducible repeat (first | apply Kd.R_alloc | apply Kd.R_drewN | apply Kd.R_drew)); exact HO_4.out⟩, ⟨by repeat (first | (with_reducible first | exact HB.out | apply below_alloc | apply pw_below_drewN | apply below_drew1) | exact HB.out)⟩⟩
                  · rw [if_neg c7] at H
                    have c7b0 : decide (48 ≤ (bt a0 x7_2)) = false := decide_eq_false c7
                    clear c7
                    have H' := Aside0.mk H
                    clear H
                    have p6 : 0 ≤ (x7_2 : Int) := of_decide_eq_true (by first | (with_reducible assumption) | assumption)
                    have q6 : x7_2 < (a0.size : Int) := of_decide_eq_true (by first | (with_reducible assumption) | assumption)
                    have hx6 := bt_at a0 x7_2
                    replace p6 := eq_true p6
                    replace q6 := eq_true q6
                    go_wp2
                    go_meet
                    case rel => exact ⟨_, (false), (by first | rfl | (simp; done) | (simp [*]; done)), H', ⟨by have := HK1.out; have := HK2.out; first | omega | exact Nat.le_refl _⟩, ⟨by (with_reducible repeat (first | apply Kd.R_alloc | apply Kd.R_drewN | apply Kd.R_drew)); exact HO_4.out⟩, ⟨by repeat (first | (with_reducible first | exact HB.out | apply below_alloc | apply pw_below_drewN | apply below_drew1) | exact HB.out)⟩⟩
                · rw [if_neg c5] at H
                  exact absurd H (by simp)
              · rw [if_neg c4] at H
                have c4b0 : decide (x7_2 < (a0.size : Int)) = false := decide_eq_false c4
                clear c4
                (first | rw [c4b0] | (simp only [i64_w, i32_w]; rw [c4b0]) | skip)
                have H' := Aside0.mk H
                clear H
                go_wp2
                go_meet
                case rel => exact ⟨_, (false), (by first | rfl | (simp; done) | (simp [*]; done)), H', ⟨by have := HK1.out; have := HK2.out; first | omega | exact Nat.le_refl _⟩, ⟨by (with_reducible repeat (first | apply Kd.R_alloc | apply Kd.R_drewN | apply Kd.R_drew)); exact HO_4.out⟩, ⟨by repeat (first | (with_reducible first | exact HB.out | apply below_alloc | apply pw_below_drewN | apply below_drew1) | exact HB.out)⟩⟩
            case rest =>
              clear HC3
              try clear c1
              try clear c2
              try clear c2b0
              try clear p2
              try clear c4
              try clear c4b0
              try clear c5
              try clear c5b0
              try clear p6
              try clear q6
              try clear hx6
              try clear c7
              try clear c7b0
              try clear p8
              try clear q8
              try clear hx8
              try clear c9
              try clear c9b0
              try clear p2
              try clear p6
              try clear p8
              try clear q6
              try clear q8
              obtain ⟨kq, x32_2, rfl, HA, HJ2, HO_4, HB⟩ := hcut
              cases kq with
              | zero => exact absurd HA.out (by simp [interregnumref11_Split.j2])
              | succ kj2 =>
                have H := HA.out
                clear HA
                simp only [interregnumref11_Split.j2] at H
                by_cases c10 : x32_2 = true
                · subst c10
                  have H1 : (if 0 ≤ x7_2 then (if x7_2 < (a0.size : Int) then (interregnumref11_Split.l1 kj2 a0 x4_1 x5_1 (wrap64 ((wrap64 (x6_2 * 10)) + (((bt a0 x7_2) - 48) % 256))) (wrap64 (x7_2 + 1))) else (none)) else (none)) = some (r1, r2) := by rw [if_pos rfl] at H; exact H
                  clear H
                  have H := H1
                  clear H1
                  by_cases c11 : 0 ≤ x7_2
                  · rw [if_pos c11] at H
                    have c11b0 : decide (0 ≤ x7_2) = true := decide_eq_true c11
                    clear c11
                    by_cases c12 : x7_2 < (a0.size : Int)
                    · rw [if_pos c12] at H
                      have c12b0 : decide (x7_2 < (a0.size : Int)) = true := decide_eq_true c12
                      clear c12
                      have H' := Aside0.mk H
                      clear H
                      have p13 : 0 ≤ (x7_2 : Int) := of_decide_eq_true (by first | (with_reducible assumption) | assumption)
                      have q13 : x7_2 < (a0.size : Int) := of_decide_eq_true (by first | (with_reducible assumption) | assumption)
                      have hx13 := bt_at a0 x7_2
                      replace p13 := eq_true p13
                      replace q13 := eq_true q13
                      go_wp2
                      go_roundg kj2
                      case measure => have := HK1.out; have := HK2.out; have := HJ2.out; omega
                      case rel => exact ⟨(wrap64 ((wrap64 (x6_2 * 10)) + (((bt a0 x7_2) - 48) % 256))), (wrap64 (x7_2 + 1)), (by first | rfl | (simp; done) | (simp [*]; done)), (by first | rfl | (simp; done) | (simp [*]; done)), H', ⟨by have := HK1.out; have := HK2.out; have := HJ2.out; omega⟩, ⟨by (with_reducible repeat (first | apply Kd.R_alloc | apply Kd.R_drewN | apply Kd.R_drew)); exact HO_4.out⟩, ⟨by repeat (first | (with_reducible first | exact HB.out | apply below_alloc | apply pw_below_drewN | apply below_drew1) | exact HB.out)⟩⟩
                    · rw [if_neg c12] at H
                      exact absurd H (by simp)
                  · rw [if_neg c11] at H
                    exact absurd H (by simp)
                · replace c10 := Bool.eq_false_iff.mpr c10
                  subst c10
                  have H1 : (if x7_2 = x5_1 then (interregnumref11_Split.j3 kj2 a0 x4_1 x6_2 x7_2 true) else (if x7_2 ≥ (a0.size : Int) then (interregnumref11_Split.j3 kj2 a0 x4_1 x6_2 x7_2 true) else (if 0 ≤ x7_2 then (if x7_2 < (a0.size : Int) then (if (bt a0 x7_2) = 58 then (if (wrap64 (x7_2 - x5_1)) > 1 then (if 0 ≤ x5_1 then (if x5_1 < (a0.size : Int) then (if (bt a0 x5_1) = 48 then (interregnumref11_Split.j3 kj2 a0 x4_1 x6_2 x7_2 true) else (interregnumref11_Split.j3 kj2 a0 x4_1 x6_2 x7_2 (decide (x6_2 > (wrap64 ((wrap64 ((a0.size : Int) - x7_2)) - 1)))))) else (none)) else (none)) else (interregnumref11_Split.j3 kj2 a0 x4_1 x6_2 x7_2 (decide (x6_2 > (wrap64 ((wrap64 ((a0.size : Int) - x7_2)) - 1)))))) else (interregnumref11_Split.j3 kj2 a0 x4_1 x6_2 x7_2 true)) else (none)) else (none)))) = some (r1, r2) := by rw [if_neg (show ¬ (false = true) by decide)] at H; exact H
                  clear H
                  have H := H1
                  clear H1
                  have HC14 := Aside0.mk H
                  clear H
                  go_upto_region 8 with (fail)
                  go_cut [78] (fun v78 wc => ∃ (kq : Nat) (x78_13 : Bool), v78 = .bool x78_13 ∧ Aside0 (interregnumref11_Split.j3 kq a0 x4_1 x6_2 x7_2 x78_13 = some (r1, r2)) ∧ Aside0 (kq ≤ kj2) ∧ Aside0 (Kd.R Kd.string 9 wc w.heap.size (fun _ => True) u4 x4_1) ∧ Aside0 (Below w.heap.size w wc))
                  case first =>
                    have H := HC14.out
                    clear HC14
                    by_cases c15 : x7_2 = x5_1
                    · rw [if_pos c15] at H
                      have c15b0 : (x7_2 == x5_1) = true := beq_iff_eq.mpr c15
                      have c15b1 : (x7_2 != x5_1) = false := bne_eq_false_iff_eq.mpr c15
                      clear c15
                      (first | rw [c15b0] | (simp only [i64_w, i32_w]; rw [c15b0]) | skip)
                      have H' := Aside0.mk H
                      clear H
                      go_wp2
                      go_meet
                      case rel => exact ⟨_, (true), (by first | rfl | (simp; done) | (simp [*]; done)), H', ⟨by have := HK1.out; have := HK2.out; have := HJ2.out; first | omega | exact Nat.le_refl _⟩, ⟨by (with_reducible repeat (first | apply Kd.R_alloc | apply Kd.R_drewN | apply Kd.R_drew)); exact HO_4.out⟩, ⟨by repeat (first | (with_reducible first | exact HB.out | apply below_alloc | apply pw_below_drewN | apply below_drew1) | exact HB.out)⟩⟩
                    · rw [if_neg c15] at H
                      have c15b0 : (x7_2 == x5_1) = false := beq_eq_false_iff_ne.mpr c15
                      have c15b1 : (x7_2 != x5_1) = true := bne_iff_ne.mpr c15
                      (first | rw [c15b0] | (simp only [i64_w, i32_w]; rw [c15b0]) | skip)
                      by_cases c16 : x7_2 ≥ (a0.size : Int)
                      · rw [if_pos c16] at H
                        have c16b0 : decide ((a0.size : Int) ≤ x7_2) = true := decide_eq_true c16
                        clear c16
                        have H' := Aside0.mk H
                        clear H
                        go_wp2
                        go_meet
                        case rel => exact ⟨_, (true), (by first | rfl | (simp; done) | (simp [*]; done)), H', ⟨by have := HK1.out; have := HK2.out; have := HJ2.out; first | omega | exact Nat.le_refl _⟩, ⟨by (with_reducible repeat (first | apply Kd.R_alloc | apply Kd.R_drewN | apply Kd.R_drew)); exact HO_4.out⟩, ⟨by repeat (first | (with_reducible first | exact HB.out | apply below_alloc | apply pw_below_drewN | apply below_drew1) | exact HB.out)⟩⟩
                      · rw [if_neg c16] at H
                        have c16b0 : decide ((a0.size : Int) ≤ x7_2) = false := decide_eq_false c16
                        clear c16
                        by_cases c17 : 0 ≤ x7_2
                        · rw [if_pos c17] at H
                          have c17b0 : decide (0 ≤ x7_2) = true := decide_eq_true c17
                          clear c17
                          by_cases c18 : x7_2 < (a0.size : Int)
                          · rw [if_pos c18] at H
                            have c18b0 : decide (x7_2 < (a0.size : Int)) = true := decide_eq_true c18
                            clear c18
                            by_cases c20 : (bt a0 x7_2) = 58
                            · rw [if_pos c20] at H
                              have c20b0 : ((bt a0 x7_2) == 58) = true := beq_iff_eq.mpr c20
                              have c20b1 : ((bt a0 x7_2) != 58) = false := bne_eq_false_iff_eq.mpr c20
                              clear c20
                              by_cases c21 : (wrap64 (x7_2 - x5_1)) > 1
                              · rw [if_pos c21] at H
                                have c21b0 : decide (1 < (wrap64 (x7_2 - x5_1))) = true := decide_eq_true c21
                                clear c21
                                by_cases c22 : 0 ≤ x5_1
                                · rw [if_pos c22] at H
                                  have c22b0 : decide (0 ≤ x5_1) = true := decide_eq_true c22
                                  clear c22
                                  by_cases c23 : x5_1 < (a0.size : Int)
                                  · rw [if_pos c23] at H
                                    have c23b0 : decide (x5_1 < (a0.size : Int)) = true := decide_eq_true c23
                                    clear c23
                                    by_cases c25 : (bt a0 x5_1) = 48
                                    · rw [if_pos c25] at H
                                      have c25b0 : ((bt a0 x5_1) == 48) = true := beq_iff_eq.mpr c25
                                      have c25b1 : ((bt a0 x5_1) != 48) = false := bne_eq_false_iff_eq.mpr c25
                                      clear c25
                                      have H' := Aside0.mk H
                                      clear H
                                      have p19 : 0 ≤ (x7_2 : Int) := of_decide_eq_true (by first | (with_reducible assumption) | assumption)
                                      have q19 : x7_2 < (a0.size : Int) := of_decide_eq_true (by first | (with_reducible assumption) | assumption)
                                      have hx19 := bt_at a0 x7_2
                                      replace p19 := eq_true p19
                                      replace q19 := eq_true q19
                                      have p24 : 0 ≤ (x5_1 : Int) := of_decide_eq_true (by first | (with_reducible assumption) | assumption)
                                      have q24 : x5_1 < (a0.size : Int) := of_decide_eq_true (by first | (with_reducible assumption) | assumption)
                                      have hx24 := bt_at a0 x5_1
                                      replace p24 := eq_true p24
                                      replace q24 := eq_true q24
                                      go_wp2
                                      go_meet
                                      case rel => exact ⟨_, (true), (by first | rfl | (simp; done) | (simp [*]; done)), H', ⟨by have := HK1.out; have := HK2.out; have := HJ2.out; first | omega | exact Nat.le_refl _⟩, ⟨by (with_reducible repeat (first | apply Kd.R_alloc | apply Kd.R_drewN | apply Kd.R_drew)); exact HO_4.out⟩, ⟨by repeat (first | (with_reducible first | exact HB.out | apply below_alloc | apply pw_below_drewN | apply below_drew1) | exact HB.out)⟩⟩
                                    · rw [if_neg c25] at H
                                      have c25b0 : ((bt a0 x5_1) == 48) = false := beq_eq_false_iff_ne.mpr c25
                                      have c25b1 : ((bt a0 x5_1) != 48) = true := bne_iff_ne.mpr c25
                                      have H' := Aside0.mk H
                                      clear H
                                      have p19 : 0 ≤ (x7_2 : Int) := of_decide_eq_true (by first | (with_reducible assumption) | assumption)
                                      have q19 : x7_2 < (a0.size : Int) := of_decide_eq_true (by first | (with_reducible assumption) | assumption)
                                      have hx19 := bt_at a0 x7_2
                                      replace p19 := eq_true p19
                                      replace q19 := eq_true q19
                                      have p24 : 0 ≤ (x5_1 : Int) := of_decide_eq_true (by first | (with_reducible assumption) | assumption)
                                      have q24 : x5_1 < (a0.size : Int) := of_decide_eq_true (by first | (with_reducible assumption) | assumption)
                                      have hx24 := bt_at a0 x5_1
                                      replace p24 := eq_true p24
                                      replace q24 := eq_true q24
                                      go_wp2
                                      go_meet
                                      case rel => exact ⟨_, (decide (x6_2 > (wrap64 ((wrap64 ((a0.size : Int) - x7_2)) - 1)))), (by first | rfl | (simp; done) | (simp [*]; done)), H', ⟨by have := HK1.out; have := HK2.out; have := HJ2.out; first | omega | exact Nat.le_refl _⟩, ⟨by (with_reducible repeat (first | apply Kd.R_alloc | apply Kd.R_drewN | apply Kd.R_drew)); exact HO_4.out⟩, ⟨by repeat (first | (with_reducible first | exact HB.out | apply below_alloc | apply pw_below_drewN | apply below_drew1) | exact HB.out)⟩⟩
                                  · rw [if_neg c23] at H
                                    exact absurd H (by simp)
                                · rw [if_neg c22] at H
                                  exact absurd H (by simp)
                              · rw [if_neg c21] at H
                                have c21b0 : decide (1 < (wrap64 (x7_2 - x5_1))) = false := decide_eq_false c21
                                clear c21
                                have H' := Aside0.mk H
                                clear H
                                have p19 : 0 ≤ (x7_2 : Int) := of_decide_eq_true (by first | (with_reducible assumption) | assumption)
                                have q19 : x7_2 < (a0.size : Int) := of_decide_eq_true (by first | (with_reducible assumption) | assumption)
                                have hx19 := bt_at a0 x7_2
                                replace p19 := eq_true p19
                                replace q19 := eq_true q19
                                go_wp2
                                go_meet
                                case rel => exact ⟨_, (decide (x6_2 > (wrap64 ((wrap64 ((a0.size : Int) - x7_2)) - 1)))), (by first | rfl | (simp; done) | (simp [*]; done)), H', ⟨by have := HK1.out; have := HK2.out; have := HJ2.out; first | omega | exact Nat.le_refl _⟩, ⟨by (with_reducible repeat (first | apply Kd.R_alloc | apply Kd.R_drewN | apply Kd.R_drew)); exact HO_4.out⟩, ⟨by repeat (first | (with_reducible first | exact HB.out | apply below_alloc | apply pw_below_drewN | apply below_drew1) | exact HB.out)⟩⟩
                            · rw [if_neg c20] at H
                              have c20b0 : ((bt a0 x7_2) == 58) = false := beq_eq_false_iff_ne.mpr c20
                              have c20b1 : ((bt a0 x7_2) != 58) = true := bne_iff_ne.mpr c20
                              have H' := Aside0.mk H
                              clear H
                              have p19 : 0 ≤ (x7_2 : Int) := of_decide_eq_true (by first | (with_reducible assumption) | assumption)
                              have q19 : x7_2 < (a0.size : Int) := of_decide_eq_true (by first | (with_reducible assumption) | assumption)
                              have hx19 := bt_at a0 x7_2
                              replace p19 := eq_true p19
                              replace q19 := eq_true q19
                              go_wp2
                              go_meet
                              case rel => exact ⟨_, (true), (by first | rfl | (simp; done) | (simp [*]; done)), H', ⟨by have := HK1.out; have := HK2.out; have := HJ2.out; first | omega | exact Nat.le_refl _⟩, ⟨by (with_reducible repeat (first | apply Kd.R_alloc | apply Kd.R_drewN | apply Kd.R_drew)); exact HO_4.out⟩, ⟨by repeat (first | (with_reducible first | exact HB.out | apply below_alloc | apply pw_below_drewN | apply below_drew1) | exact HB.out)⟩⟩
                          · rw [if_neg c18] at H
                            exact absurd H (by simp)
                        · rw [if_neg c17] at H
                          exact absurd H (by simp)
                  case rest =>
                    clear HC14
                    try clear c1
                    try clear p1
                    try clear q1
                    try clear hx1
                    try clear c2
                    try clear c2b0
                    try clear p2
                    try clear q2
                    try clear hx2
                    try clear c4
                    try clear c4b0
                    try clear c5
                    try clear c5b0
                    try clear p6
                    try clear q6
                    try clear hx6
                    try clear c7
                    try clear c7b0
                    try clear p8
                    try clear q8
                    try clear hx8
                    try clear c9
                    try clear c9b0
                    try clear c10
                    try clear c11
                    try clear c11b0
                    try clear c12
                    try clear c12b0
                    try clear p13
                    try clear q13
                    try clear hx13
                    try clear c15
                    try clear c15b0
                    try clear c15b1
                    try clear c16
                    try clear c16b0
                    try clear c17
                    try clear c17b0
                    try clear c18
                    try clear c18b0
                    try clear p19
                    try clear q19
                    try clear hx19
                    try clear c20
                    try clear c20b0
                    try clear c20b1
                    try clear c21
                    try clear c21b0
                    try clear c22
                    try clear c22b0
                    try clear c23
                    try clear c23b0
                    try clear p24
                    try clear q24
                    try clear hx24
                    try clear c25
                    try clear c25b0
                    try clear c25b1
                    try clear p13
                    try clear p19
                    try clear p2
                    try clear p24
                    try clear p6
                    try clear p8
                    try clear q13
                    try clear q19
                    try clear q24
                    try clear q6
                    try clear q8
                    obtain ⟨kq, x78_13, rfl, HA, HJ13, HO_4, HB⟩ := hcut
                    cases kq with
                    | zero => exact absurd HA.out (by simp [interregnumref11_Split.j3])
                    | succ kj13 =>
                      have H := HA.out
                      clear HA
                      simp only [interregnumref11_Split.j3] at H
                      by_cases c26 : x78_13 = true
                      · subst c26
                        have H1 : (some (([] : List ByteArray), false)) = some (r1, r2) := by rw [if_pos rfl] at H; exact H
                        clear H
                        have H := H1
                        clear H1
                        simp only [Option.some.injEq, Prod.mk.injEq] at H
                        obtain ⟨rfl, rfl⟩ := H
                        go_wp2
                        go_ret2
                        exact ⟨_, by first | rfl | (simp [errW_none, errW_some] <;> rfl) | (simp [*, errW_none, errW_some] <;> rfl), by first | exact Kd.R_nil _ _ _ _ _ | exact Kd.N_nil _ _ _ _ _ | exact Kd.V_nil _ _ _ _ _ | exact Kd.Q_nil _ _ _ _ _ | exact Kd.S_nil _ _ _ _ _, by repeat (first | (with_reducible first | exact HB.out | apply below_alloc | apply pw_below_drewN | apply below_drew1) | exact HB.out)⟩
                      · replace c26 := Bool.eq_false_iff.mpr c26
                        subst c26
                        have H1 : (if 0 ≤ (wrap64 (x7_2 + 1)) then (if (wrap64 (x7_2 + 1)) ≤ (wrap64 ((wrap64 (x7_2 + 1)) + x6_2)) then (if (wrap64 ((wrap64 (x7_2 + 1)) + x6_2)) ≤ (a0.size : Int) then (if x4_1.length < 8796093022208 then (interregnumref11_Split.l0 kj13 a0 (x4_1 ++ [a0.extract ((wrap64 (x7_2 + 1)) : Int).toNat ((wrap64 ((wrap64 (x7_2 + 1)) + x6_2)) : Int).toNat]) (wrap64 ((wrap64 (x7_2 + 1)) + x6_2))) else (none)) else (none)) else (none)) else (none)) = some (r1, r2) := by rw [if_neg (show ¬ (false = true) by decide)] at H; exact H
                        clear H
                        have H := H1
                        clear H1
                        obtain ⟨ji27, hji27⟩ : ∃ j_ : Int, (wrap64 (x7_2 + 1)) = j_ := ⟨_, rfl⟩
                        replace H : (if 0 ≤ (ji27) then (if (ji27) ≤ (wrap64 ((ji27) + x6_2)) then (if (wrap64 ((ji27) + x6_2)) ≤ (a0.size : Int) then (if x4_1.length < 8796093022208 then (interregnumref11_Split.l0 kj13 a0 (x4_1 ++ [a0.extract ((ji27) : Int).toNat ((wrap64 ((ji27) + x6_2)) : Int).toNat]) (wrap64 ((ji27) + x6_2))) else (none)) else (none)) else (none)) else (none)) = some (r1, r2) := by first | (rw [hji27] at H; exact H) | (simp only [hji27] at H ⊢; exact H)
                        have hji27w : (IntKind.i64.wrap (x7_2 + 1)) = ji27 := (i64_w _).trans hji27
                        by_cases c28 : 0 ≤ (ji27)
                        · rw [if_pos c28] at H
                          have c28b0 := eq_true c28
                          have c28b1 : decide (0 ≤ (ji27)) = true := decide_eq_true c28
                          clear c28
                          by_cases c29 : (ji27) ≤ (wrap64 ((ji27) + x6_2))
                          · rw [if_pos c29] at H
                            have c29b0 := eq_true c29
                            have c29b1 : decide ((ji27) ≤ (wrap64 ((ji27) + x6_2))) = true := decide_eq_true c29
                            by_cases c30 : (wrap64 ((ji27) + x6_2)) ≤ (a0.size : Int)
                            · rw [if_pos c30] at H
                              have c30b0 := eq_true c30
                              have c30b1 : decide ((wrap64 ((ji27) + x6_2)) ≤ (a0.size : Int)) = true := decide_eq_true c30
                              by_cases c31 : x4_1.length < 8796093022208
                              · rw [if_pos c31] at H
                                have LMc31 := Aside0.mk c31
                                clear c31
                                obtain ⟨y176, hy176⟩ : ∃ y_ : List ByteArray, y_ = (x4_1 ++ [a0.extract ((ji27) : Int).toNat ((wrap64 ((ji27) + x6_2)) : Int).toNat]) := ⟨_, rfl⟩
                                replace H : (interregnumref11_Split.l0 kj13 a0 y176 (wrap64 ((ji27) + x6_2))) = some (r1, r2) := by first | (rw [hy176]; with_reducible exact H) | (have H2_ := (Option.bind_some _ _).symm.trans H; rw [hy176]; with_reducible exact H2_) | (have H2_ := (Option.bind_some _ _).symm.trans H; with_reducible exact H2_) | with_reducible exact H | (rw [hy176]; exact H) | exact H
                                have Ny176 := Aside0.mk hy176
                                clear hy176
                                have H' := Aside0.mk H
                                clear H
                                go_wp2_with (first | ((with_reducible refine gate_builtin (b := .append) (xs := #[.tmp 79, .tmp 88]) rfl ?_); (try (refine gate_guard (by rfl) ?_; dsimp only)); at_builtin; refine Kd.R_append Kd.string (w0 := w) w.heap.size rfl (.tmp 79) (.tmp 88) 22 9 (.string ⟨#[]⟩) 16 rfl Tryd.underlying22 info9 rfl (by decide) (by omega) u4 x4_1 (a0.extract ((ji27) : Int).toNat ((wrap64 ((ji27) + x6_2)) : Int).toNat) [.string (a0.extract ((ji27) : Int).toNat ((wrap64 ((ji27) + x6_2)) : Int).toNat)] (fun _ => True) (fun _ => False) rfl rfl ?aP (fun _ hk => hk.elim) ?aF ?aO ?aB ?aS ?aL ?_; (case aP => exact rfl); (case aB => exact (by repeat (first | (with_reducible first | exact HB.out | apply below_alloc | apply pw_below_drewN | apply below_drew1) | exact HB.out))); (case aF => exact (fun _ _ => trivial)); (case aO => exact (by (with_reducible repeat (first | apply Kd.R_alloc | apply Kd.R_drewN | apply Kd.R_drew)); exact HO_4.out)); (case aS => exact (below_size (by repeat (first | (with_reducible first | exact HB.out | apply below_alloc | apply pw_below_drewN | apply below_drew1) | exact HB.out)))); (case aL => have := LMc31.out; omega); intro v177 w32 ho hb hg hat; rw [← Ny176.out] at ho; have n0_ := Aside0.mk (hb); have n1_ := Aside0.mk (ho); clear HB; clear HO_4; have HB := n0_; have HO178 := n1_; clear n0_ n1_; clear ho hb hg hat))
                                go_roundg kj13
                                case measure => have := HK1.out; have := HK2.out; have := HJ2.out; have := HJ13.out; omega
                                case rel => exact ⟨(y176), (wrap64 ((ji27) + x6_2)), (by first | rfl | (simp; done) | (simp only [← hji27] <;> (first | rfl | simp)) | (simp [*]; done)), H', ⟨by have := HK1.out; have := HK2.out; have := HJ2.out; have := HJ13.out; omega⟩, ⟨by (with_reducible repeat (first | apply Kd.R_alloc | apply Kd.R_drewN | apply Kd.R_drew)); exact HO178.out⟩, ⟨by repeat (first | (with_reducible first | exact HB.out | apply below_alloc | apply pw_below_drewN | apply below_drew1) | exact HB.out)⟩⟩
                              · rw [if_neg c31] at H
                                exact absurd H (by simp)
                            · rw [if_neg c30] at H
                              exact absurd H (by simp)
                          · rw [if_neg c29] at H
                            exact absurd H (by simp)
                        · rw [if_neg c28] at H
                          exact absurd H (by simp)
      · rw [if_neg c2] at H
        have c2b0 : decide (x5_1 < (a0.size : Int)) = false := decide_eq_false c2
        clear c2
        simp only [Option.some.injEq, Prod.mk.injEq] at H
        obtain ⟨rfl, rfl⟩ := H
        go_wp2
        go_ret2
        exact ⟨_, by first | rfl | (simp [errW_none, errW_some] <;> rfl) | (simp [*, errW_none, errW_some] <;> rfl), by (with_reducible repeat (first | apply Kd.R_alloc | apply Kd.R_drewN | apply Kd.R_drew)); exact HO_4.out, by repeat (first | (with_reducible first | exact HB.out | apply below_alloc | apply pw_below_drewN | apply below_drew1) | exact HB.out)⟩

end Go.Proofs.YtppjodchlpapdaaDoor.PB
