/- Written by wip/myprint.py of this session, out of Lean's print of the program: what Go functions come to, and that their calls come to it; no condition. -/
import Derived.Test.YtpnldhimlpilhaaF0
namespace Go.Proofs.Ytpnldhimlpilhaa.F
open Go.RowKit Go.Proofs.YtpnldhimlpilhaaW.PrintWords Go.Proofs.YtpnldhimlpilhaaW.PrintLast Go.Proofs.YtpnldhimlpilhaaW.PrintMore Go.Proofs.YtpnldhimlpilhaaW
attribute [local go_sem] max2_int min2_int max_two min_two max_three min_three max_four min_four   -- for this text's walks alone
set_option linter.unusedVariables false
set_option linter.unusedSimpArgs false

/-! ### damaskref04_bitwise: function 50 -/
mutual
def damaskref04_bitwise.j0 : Nat → Int → Int → Int → Option (Int)
  | 0, _, _, _ => none
  | k + 1, x0, x7, x8 => if x8 < 0 then (damaskref04_bitwise.j1 k x0 x7 (wrap64 (x8 + 4294967296))) else (damaskref04_bitwise.j1 k x0 x7 x8)
def damaskref04_bitwise.j1 : Nat → Int → Int → Int → Option (Int)
  | 0, _, _, _ => none
  | k + 1, x0, x7, x8 => damaskref04_bitwise.l0 k x0 x7 x8 0 1 0
def damaskref04_bitwise.l0 : Nat → Int → Int → Int → Int → Int → Int → Option (Int)
  | 0, _, _, _, _, _, _ => none
  | k + 1, x0, x7, x8, x9, x10, x11 => if x11 < 32 then (if x0 = 16 then (if x0 = 17 then (damaskref04_bitwise.l0 k x0 (wrap64 (Int.tdiv x7 2)) (wrap64 (Int.tdiv x8 2)) (wrap64 (x9 + (wrap64 ((Int.tmod (wrap64 ((Int.tmod x7 2) + (Int.tmod x8 2))) 2) * x10)))) (wrap64 (2 * x10)) (wrap64 (x11 + 1))) else (damaskref04_bitwise.l0 k x0 (wrap64 (Int.tdiv x7 2)) (wrap64 (Int.tdiv x8 2)) (wrap64 (x9 + (wrap64 ((wrap64 ((wrap64 ((Int.tmod x7 2) + (Int.tmod x8 2))) - (wrap64 ((Int.tmod x7 2) * (Int.tmod x8 2))))) * x10)))) (wrap64 (2 * x10)) (wrap64 (x11 + 1)))) else (if x0 = 17 then (damaskref04_bitwise.l0 k x0 (wrap64 (Int.tdiv x7 2)) (wrap64 (Int.tdiv x8 2)) (wrap64 (x9 + (wrap64 ((Int.tmod (wrap64 ((Int.tmod x7 2) + (Int.tmod x8 2))) 2) * x10)))) (wrap64 (2 * x10)) (wrap64 (x11 + 1))) else (damaskref04_bitwise.l0 k x0 (wrap64 (Int.tdiv x7 2)) (wrap64 (Int.tdiv x8 2)) (wrap64 (x9 + (wrap64 ((wrap64 ((Int.tmod x7 2) * (Int.tmod x8 2))) * x10)))) (wrap64 (2 * x10)) (wrap64 (x11 + 1))))) else (if x9 ≥ 2147483648 then (some (wrap64 (x9 - 4294967296))) else (some x9))
end
def damaskref04_bitwise.f (k : Nat) (a0 : Int) (a1 : Int) (a2 : Int) : Option (Int) := if a1 < 0 then (damaskref04_bitwise.j0 k a0 (wrap64 (a1 + 4294967296)) a2) else (damaskref04_bitwise.j0 k a0 a1 a2)
theorem damaskref04_bitwise.mono_l : ∀ k, (∀ y0 y1 y2, LeO (damaskref04_bitwise.j0 k y0 y1 y2) (damaskref04_bitwise.j0 (k + 1) y0 y1 y2)) ∧ (∀ y0 y1 y2, LeO (damaskref04_bitwise.j1 k y0 y1 y2) (damaskref04_bitwise.j1 (k + 1) y0 y1 y2)) ∧ (∀ y0 y1 y2 y3 y4 y5, LeO (damaskref04_bitwise.l0 k y0 y1 y2 y3 y4 y5) (damaskref04_bitwise.l0 (k + 1) y0 y1 y2 y3 y4 y5))
  | 0 => ⟨fun _ _ _ r h => by simp [damaskref04_bitwise.j0] at h, fun _ _ _ r h => by simp [damaskref04_bitwise.j1] at h, fun _ _ _ _ _ _ r h => by simp [damaskref04_bitwise.l0] at h⟩
  | k + 1 => by
    obtain ⟨ih0, ih1, ih2⟩ := damaskref04_bitwise.mono_l k
    refine ⟨?_, ?_, ?_⟩
    · intro y0 y1 y2
      unfold damaskref04_bitwise.j0
      repeat' first
      | (with_reducible exact ih0 _ _ _)
      | (with_reducible exact ih1 _ _ _)
      | (with_reducible exact ih2 _ _ _ _ _ _)
      | (with_reducible exact LeO.refl _)
      | (with_reducible exact LeO.none _)
      | (with_reducible refine LeO.ite ?_ ?_)
      | (with_reducible refine LeO.bind ?_ (fun _ => ?_))
      | exact ih0 _ _ _
      | exact ih1 _ _ _
      | exact ih2 _ _ _ _ _ _
      | exact LeO.none _
      | refine LeO.ite ?_ ?_
      | refine LeO.bind ?_ (fun _ => ?_)
    · intro y0 y1 y2
      unfold damaskref04_bitwise.j1
      repeat' first
      | (with_reducible exact ih0 _ _ _)
      | (with_reducible exact ih1 _ _ _)
      | (with_reducible exact ih2 _ _ _ _ _ _)
      | (with_reducible exact LeO.refl _)
      | (with_reducible exact LeO.none _)
      | (with_reducible refine LeO.ite ?_ ?_)
      | (with_reducible refine LeO.bind ?_ (fun _ => ?_))
      | exact ih0 _ _ _
      | exact ih1 _ _ _
      | exact ih2 _ _ _ _ _ _
      | exact LeO.none _
      | refine LeO.ite ?_ ?_
      | refine LeO.bind ?_ (fun _ => ?_)
    · intro y0 y1 y2 y3 y4 y5
      unfold damaskref04_bitwise.l0
      repeat' first
      | (with_reducible exact ih0 _ _ _)
      | (with_reducible exact ih1 _ _ _)
      | (with_reducible exact ih2 _ _ _ _ _ _)
      | (with_reducible exact LeO.refl _)
      | (with_reducible exact LeO.none _)
      | (with_reducible refine LeO.ite ?_ ?_)
      | (with_reducible refine LeO.bind ?_ (fun _ => ?_))
      | exact ih0 _ _ _
      | exact ih1 _ _ _
      | exact ih2 _ _ _ _ _ _
      | exact LeO.none _
      | refine LeO.ite ?_ ?_
      | refine LeO.bind ?_ (fun _ => ?_)
theorem damaskref04_bitwise.mono : ∀ a0 a1 a2 k, LeO (damaskref04_bitwise.f k a0 a1 a2) (damaskref04_bitwise.f (k + 1) a0 a1 a2) := by
  intro a0 a1 a2 k
  obtain ⟨ih0, ih1, ih2⟩ := damaskref04_bitwise.mono_l k
  unfold damaskref04_bitwise.f
  repeat' first
      | (with_reducible exact ih0 _ _ _)
      | (with_reducible exact ih1 _ _ _)
      | (with_reducible exact ih2 _ _ _ _ _ _)
      | (with_reducible exact LeO.refl _)
      | (with_reducible exact LeO.none _)
      | (with_reducible refine LeO.ite ?_ ?_)
      | (with_reducible refine LeO.bind ?_ (fun _ => ?_))
      | exact ih0 _ _ _
      | exact ih1 _ _ _
      | exact ih2 _ _ _ _ _ _
      | exact LeO.none _
      | refine LeO.ite ?_ ?_
      | refine LeO.bind ?_ (fun _ => ?_)
set_option maxHeartbeats 8000000 in
set_option maxRecDepth 100000 in
theorem damaskref04_bitwise.calls (k : Nat) (a0 : Int) (a1 : Int) (a2 : Int) (r : Int) (w : World) (h : damaskref04_bitwise.f k a0 a1 a2 = some r) :
    Calls Try.prog 50 #[.int .i64 a0, .int .i64 a1, .int .i64 a2] w fun e w' => e = .returned (.int .i64 r) ∧ Drawn0 w w' := by
  have H : (if a1 < 0 then (damaskref04_bitwise.j0 k a0 (wrap64 (a1 + 4294967296)) a2) else (damaskref04_bitwise.j0 k a0 a1 a2)) = some r := h
  clear h
  have HC4 := Aside0.mk H
  clear H
  go_enter Try.func50, Try.ntmps50
  go_upto_if 18 with (fail)
  go_cut [7] (fun v7 wc => ∃ (kq : Nat) (x7_3 : Int), v7 = .int .i64 x7_3 ∧ Aside0 (damaskref04_bitwise.j0 kq a0 x7_3 a2 = some r) ∧ Aside0 (kq ≤ k) ∧ Drawn0 w wc)
  case first =>
    have H := HC4.out
    clear HC4
    by_cases c5 : a1 < 0
    · rw [if_pos c5] at H
      have c5b0 : decide (a1 < 0) = true := decide_eq_true c5
      clear c5
      (first | rw [c5b0] | (simp only [i64_w, i32_w]; rw [c5b0]) | skip)
      have H' := Aside0.mk H
      clear H
      go_wp2
      go_meet
      case rel => exact ⟨_, (wrap64 (a1 + 4294967296)), (by first | rfl | (simp; done) | (simp [*]; done)), H', ⟨by first | omega | exact Nat.le_refl _⟩, by repeat (first | exact Drawn0.refl _ | apply Drawn0.step)⟩
    rw [if_neg c5] at H
    have c5b0 : decide (a1 < 0) = false := decide_eq_false c5
    clear c5
    (first | rw [c5b0] | (simp only [i64_w, i32_w]; rw [c5b0]) | skip)
    have H' := Aside0.mk H
    clear H
    go_wp2
    go_meet
    case rel => exact ⟨_, (a1), (by first | rfl | (simp; done) | (simp [*]; done)), H', ⟨by first | omega | exact Nat.le_refl _⟩, by repeat (first | exact Drawn0.refl _ | apply Drawn0.step)⟩
  case rest =>
    clear HC4
    try clear c5
    try clear c5b0
    obtain ⟨kq, x7_3, rfl, HA, HJ3, ⟨mc3, rfl⟩⟩ := hcut
    cases kq with
    | zero => exact absurd HA.out (by simp [damaskref04_bitwise.j0])
    | succ kj3 =>
      have H := HA.out
      clear HA
      simp only [damaskref04_bitwise.j0] at H
      have HC6 := Aside0.mk H
      clear H
      go_upto_if 22 with (fail)
      go_cut [8] (fun v8 wc => ∃ (kq : Nat) (x8_5 : Int), v8 = .int .i64 x8_5 ∧ Aside0 (damaskref04_bitwise.j1 kq a0 x7_3 x8_5 = some r) ∧ Aside0 (kq ≤ kj3) ∧ Drawn0 w wc)
      case first =>
        have H := HC6.out
        clear HC6
        by_cases c7 : a2 < 0
        · rw [if_pos c7] at H
          have c7b0 : decide (a2 < 0) = true := decide_eq_true c7
          clear c7
          (first | rw [c7b0] | (simp only [i64_w, i32_w]; rw [c7b0]) | skip)
          have H' := Aside0.mk H
          clear H
          go_wp2
          go_meet
          case rel => exact ⟨_, (wrap64 (a2 + 4294967296)), (by first | rfl | (simp; done) | (simp [*]; done)), H', ⟨by have := HJ3.out; first | omega | exact Nat.le_refl _⟩, by repeat (first | exact Drawn0.refl _ | apply Drawn0.step)⟩
        rw [if_neg c7] at H
        have c7b0 : decide (a2 < 0) = false := decide_eq_false c7
        clear c7
        (first | rw [c7b0] | (simp only [i64_w, i32_w]; rw [c7b0]) | skip)
        have H' := Aside0.mk H
        clear H
        go_wp2
        go_meet
        case rel => exact ⟨_, (a2), (by first | rfl | (simp; done) | (simp [*]; done)), H', ⟨by have := HJ3.out; first | omega | exact Nat.le_refl _⟩, by repeat (first | exact Drawn0.refl _ | apply Drawn0.step)⟩
      case rest =>
        clear HC6
        try clear c5
        try clear c5b0
        try clear c7
        try clear c7b0
        obtain ⟨kq, x8_5, rfl, HA, HJ5, ⟨mc5, rfl⟩⟩ := hcut
        cases kq with
        | zero => exact absurd HA.out (by simp [damaskref04_bitwise.j1])
        | succ kj5 =>
          have H := HA.out
          clear HA
          simp only [damaskref04_bitwise.j1] at H
          have H' := Aside0.mk H
          clear H
          go_wp2
          go_loopg [7, 8, 9, 10, 11] kj5 (fun kq v7 v8 v9 v10 v11 w' => ∃ (x7_3 : Int) (x8_3 : Int) (x9_3 : Int) (x10_3 : Int) (x11_3 : Int), v7 = .int .i64 x7_3 ∧ v8 = .int .i64 x8_3 ∧ v9 = .int .i64 x9_3 ∧ v10 = .int .i64 x10_3 ∧ v11 = .int .i64 x11_3 ∧ Aside0 (damaskref04_bitwise.l0 kq a0 x7_3 x8_3 x9_3 x10_3 x11_3 = some r) ∧ Aside0 (kq ≤ kj5) ∧ Drawn0 w w')
          case atStart => exact ⟨(x7_3), (x8_5), (0), (1), (0), (by first | rfl | (simp; done) | (simp [*]; done)), (by first | rfl | (simp; done) | (simp [*]; done)), (by first | rfl | (simp; done) | (simp [*]; done)), (by first | rfl | (simp; done) | (simp [*]; done)), (by first | rfl | (simp; done) | (simp [*]; done)), H', ⟨Nat.le_refl _⟩, by repeat (first | exact Drawn0.refl _ | apply Drawn0.step)⟩
          case round =>
            clear H'
            try clear c5
            try clear c5b0
            try clear c7
            try clear c7b0
            obtain ⟨x7_3, x8_3, x9_3, x10_3, x11_3, rfl, rfl, rfl, rfl, rfl, HA, HK3, ⟨m3, rfl⟩⟩ := hrel
            cases gk with
            | zero => exact absurd HA.out (by simp [damaskref04_bitwise.l0])
            | succ k3 =>
              have H := HA.out
              clear HA
              simp only [damaskref04_bitwise.l0] at H
              by_cases c8 : x11_3 < 32
              · rw [if_pos c8] at H
                have c8b0 : decide (x11_3 < 32) = true := decide_eq_true c8
                clear c8
                by_cases c9 : a0 = 16
                · rw [if_pos c9] at H
                  have c9b0 : (a0 == 16) = true := beq_iff_eq.mpr c9
                  have c9b1 : (a0 != 16) = false := bne_eq_false_iff_eq.mpr c9
                  clear c9
                  by_cases c10 : a0 = 17
                  · rw [if_pos c10] at H
                    have c10b0 : (a0 == 17) = true := beq_iff_eq.mpr c10
                    have c10b1 : (a0 != 17) = false := bne_eq_false_iff_eq.mpr c10
                    clear c10
                    have H' := Aside0.mk H
                    clear H
                    go_wp2
                    go_roundg k3
                    case measure => have := HJ3.out; have := HJ5.out; have := HK3.out; omega
                    case rel => exact ⟨(wrap64 (Int.tdiv x7_3 2)), (wrap64 (Int.tdiv x8_3 2)), (wrap64 (x9_3 + (wrap64 ((Int.tmod (wrap64 ((Int.tmod x7_3 2) + (Int.tmod x8_3 2))) 2) * x10_3)))), (wrap64 (2 * x10_3)), (wrap64 (x11_3 + 1)), (by first | rfl | (simp; done) | (simp [*]; done)), (by first | rfl | (simp; done) | (simp [*]; done)), (by first | rfl | (simp; done) | (simp [*]; done)), (by first | rfl | (simp; done) | (simp [*]; done)), (by first | rfl | (simp; done) | (simp [*]; done)), H', ⟨by have := HJ3.out; have := HJ5.out; have := HK3.out; omega⟩, by repeat (first | exact Drawn0.refl _ | apply Drawn0.step)⟩
                  rw [if_neg c10] at H
                  have c10b0 : (a0 == 17) = false := beq_eq_false_iff_ne.mpr c10
                  have c10b1 : (a0 != 17) = true := bne_iff_ne.mpr c10
                  have H' := Aside0.mk H
                  clear H
                  go_wp2
                  go_roundg k3
                  case measure => have := HJ3.out; have := HJ5.out; have := HK3.out; omega
                  case rel => exact ⟨(wrap64 (Int.tdiv x7_3 2)), (wrap64 (Int.tdiv x8_3 2)), (wrap64 (x9_3 + (wrap64 ((wrap64 ((wrap64 ((Int.tmod x7_3 2) + (Int.tmod x8_3 2))) - (wrap64 ((Int.tmod x7_3 2) * (Int.tmod x8_3 2))))) * x10_3)))), (wrap64 (2 * x10_3)), (wrap64 (x11_3 + 1)), (by first | rfl | (simp; done) | (simp [*]; done)), (by first | rfl | (simp; done) | (simp [*]; done)), (by first | rfl | (simp; done) | (simp [*]; done)), (by first | rfl | (simp; done) | (simp [*]; done)), (by first | rfl | (simp; done) | (simp [*]; done)), H', ⟨by have := HJ3.out; have := HJ5.out; have := HK3.out; omega⟩, by repeat (first | exact Drawn0.refl _ | apply Drawn0.step)⟩
                rw [if_neg c9] at H
                have c9b0 : (a0 == 16) = false := beq_eq_false_iff_ne.mpr c9
                have c9b1 : (a0 != 16) = true := bne_iff_ne.mpr c9
                by_cases c11 : a0 = 17
                · rw [if_pos c11] at H
                  have c11b0 : (a0 == 17) = true := beq_iff_eq.mpr c11
                  have c11b1 : (a0 != 17) = false := bne_eq_false_iff_eq.mpr c11
                  clear c11
                  have H' := Aside0.mk H
                  clear H
                  go_wp2
                  go_roundg k3
                  case measure => have := HJ3.out; have := HJ5.out; have := HK3.out; omega
                  case rel => exact ⟨(wrap64 (Int.tdiv x7_3 2)), (wrap64 (Int.tdiv x8_3 2)), (wrap64 (x9_3 + (wrap64 ((Int.tmod (wrap64 ((Int.tmod x7_3 2) + (Int.tmod x8_3 2))) 2) * x10_3)))), (wrap64 (2 * x10_3)), (wrap64 (x11_3 + 1)), (by first | rfl | (simp; done) | (simp [*]; done)), (by first | rfl | (simp; done) | (simp [*]; done)), (by first | rfl | (simp; done) | (simp [*]; done)), (by first | rfl | (simp; done) | (simp [*]; done)), (by first | rfl | (simp; done) | (simp [*]; done)), H', ⟨by have := HJ3.out; have := HJ5.out; have := HK3.out; omega⟩, by repeat (first | exact Drawn0.refl _ | apply Drawn0.step)⟩
                rw [if_neg c11] at H
                have c11b0 : (a0 == 17) = false := beq_eq_false_iff_ne.mpr c11
                have c11b1 : (a0 != 17) = true := bne_iff_ne.mpr c11
                have H' := Aside0.mk H
                clear H
                go_wp2
                go_roundg k3
                case measure => have := HJ3.out; have := HJ5.out; have := HK3.out; omega
                case rel => exact ⟨(wrap64 (Int.tdiv x7_3 2)), (wrap64 (Int.tdiv x8_3 2)), (wrap64 (x9_3 + (wrap64 ((wrap64 ((Int.tmod x7_3 2) * (Int.tmod x8_3 2))) * x10_3)))), (wrap64 (2 * x10_3)), (wrap64 (x11_3 + 1)), (by first | rfl | (simp; done) | (simp [*]; done)), (by first | rfl | (simp; done) | (simp [*]; done)), (by first | rfl | (simp; done) | (simp [*]; done)), (by first | rfl | (simp; done) | (simp [*]; done)), (by first | rfl | (simp; done) | (simp [*]; done)), H', ⟨by have := HJ3.out; have := HJ5.out; have := HK3.out; omega⟩, by repeat (first | exact Drawn0.refl _ | apply Drawn0.step)⟩
              rw [if_neg c8] at H
              have c8b0 : decide (x11_3 < 32) = false := decide_eq_false c8
              clear c8
              by_cases c12 : x9_3 ≥ 2147483648
              · rw [if_pos c12] at H
                have c12b0 : decide (2147483648 ≤ x9_3) = true := decide_eq_true c12
                clear c12
                obtain rfl := Option.some.inj H
                go_wp2
                go_ret
                exact ⟨by first | rfl | (simp; done) | (simp [*]; done), by repeat (first | exact Drawn0.refl _ | apply Drawn0.step)⟩
              rw [if_neg c12] at H
              have c12b0 : decide (2147483648 ≤ x9_3) = false := decide_eq_false c12
              clear c12
              obtain rfl := Option.some.inj H
              go_wp2
              go_ret
              exact ⟨by first | rfl | (simp; done) | (simp [*]; done), by repeat (first | exact Drawn0.refl _ | apply Drawn0.step)⟩

end Go.Proofs.Ytpnldhimlpilhaa.F
