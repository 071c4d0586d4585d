/- Written by wip/myprint.py of this session, out of Lean's print of the program: what Go functions come to, and that their calls come to it; no condition. -/
import Derived.Test.YtpnldhimlpilhaaF0
namespace Go.Proofs.Ytpnldhimlpilhaa.F
open Go.RowKit Go.Proofs.YtpnldhimlpilhaaW.PrintWords Go.Proofs.YtpnldhimlpilhaaW.PrintLast Go.Proofs.YtpnldhimlpilhaaW.PrintMore Go.Proofs.YtpnldhimlpilhaaW
attribute [local go_sem] max2_int min2_int max_two min_two max_three min_three max_four min_four   -- for this text's walks alone
set_option linter.unusedVariables false
set_option linter.unusedSimpArgs false

/-! ### arith_Arity: function 17 -/
mutual
def arith_Arity.j0 : Nat → Int → Int → Bool → Option (Int)
  | 0, _, _, _ => none
  | k + 1, x0, x3, x4 => if x4 = true then (some 0) else (if x3 = 5 then (arith_Arity.j1 k x0 x3 (x3 == 5)) else (if x3 = 6 then (arith_Arity.j1 k x0 x3 (x3 == 6)) else (if x3 = 7 then (arith_Arity.j1 k x0 x3 (x3 == 7)) else (if x3 = 29 then (arith_Arity.j1 k x0 x3 (x3 == 29)) else (if x3 = 30 then (arith_Arity.j1 k x0 x3 (x3 == 30)) else (if x3 = 31 then (arith_Arity.j1 k x0 x3 (x3 == 31)) else (if x3 = 32 then (arith_Arity.j1 k x0 x3 (x3 == 32)) else (arith_Arity.j1 k x0 x3 (x3 == 33)))))))))
def arith_Arity.j1 : Nat → Int → Int → Bool → Option (Int)
  | 0, _, _, _ => none
  | k + 1, x0, x3, x8 => if x8 = true then (some 1) else (if x3 = 26 then (arith_Arity.j2 k x0 (x3 == 26)) else (if x3 = 27 then (arith_Arity.j2 k x0 (x3 == 27)) else (arith_Arity.j2 k x0 (x3 == 28))))
def arith_Arity.j2 : Nat → Int → Bool → Option (Int)
  | 0, _, _ => none
  | k + 1, x0, x17 => if x17 = true then (some 3) else (if x0 ≥ 8 then (if x0 ≤ 25 then (some 2) else (some (-1))) else (some (-1)))
end
def arith_Arity.f (k : Nat) (a0 : Int) : Option (Int) := if a0 = 1 then (arith_Arity.j0 k a0 a0 (a0 == 1)) else (if a0 = 2 then (arith_Arity.j0 k a0 a0 (a0 == 2)) else (arith_Arity.j0 k a0 a0 (a0 == 3)))
theorem arith_Arity.mono_l : ∀ k, (∀ y0 y1 y2, LeO (arith_Arity.j0 k y0 y1 y2) (arith_Arity.j0 (k + 1) y0 y1 y2)) ∧ (∀ y0 y1 y2, LeO (arith_Arity.j1 k y0 y1 y2) (arith_Arity.j1 (k + 1) y0 y1 y2)) ∧ (∀ y0 y1, LeO (arith_Arity.j2 k y0 y1) (arith_Arity.j2 (k + 1) y0 y1))
  | 0 => ⟨fun _ _ _ r h => by simp [arith_Arity.j0] at h, fun _ _ _ r h => by simp [arith_Arity.j1] at h, fun _ _ r h => by simp [arith_Arity.j2] at h⟩
  | k + 1 => by
    obtain ⟨ih0, ih1, ih2⟩ := arith_Arity.mono_l k
    refine ⟨?_, ?_, ?_⟩
    · intro y0 y1 y2
      unfold arith_Arity.j0
      repeat' first
      | (with_reducible exact ih0 _ _ _)
      | (with_reducible exact ih1 _ _ _)
      | (with_reducible exact ih2 _ _)
      | (with_reducible exact LeO.refl _)
      | (with_reducible exact LeO.none _)
      | (with_reducible refine LeO.ite ?_ ?_)
      | (with_reducible refine LeO.bind ?_ (fun _ => ?_))
      | exact ih0 _ _ _
      | exact ih1 _ _ _
      | exact ih2 _ _
      | exact LeO.none _
      | refine LeO.ite ?_ ?_
      | refine LeO.bind ?_ (fun _ => ?_)
    · intro y0 y1 y2
      unfold arith_Arity.j1
      repeat' first
      | (with_reducible exact ih0 _ _ _)
      | (with_reducible exact ih1 _ _ _)
      | (with_reducible exact ih2 _ _)
      | (with_reducible exact LeO.refl _)
      | (with_reducible exact LeO.none _)
      | (with_reducible refine LeO.ite ?_ ?_)
      | (with_reducible refine LeO.bind ?_ (fun _ => ?_))
      | exact ih0 _ _ _
      | exact ih1 _ _ _
      | exact ih2 _ _
      | exact LeO.none _
      | refine LeO.ite ?_ ?_
      | refine LeO.bind ?_ (fun _ => ?_)
    · intro y0 y1
      unfold arith_Arity.j2
      repeat' first
      | (with_reducible exact ih0 _ _ _)
      | (with_reducible exact ih1 _ _ _)
      | (with_reducible exact ih2 _ _)
      | (with_reducible exact LeO.refl _)
      | (with_reducible exact LeO.none _)
      | (with_reducible refine LeO.ite ?_ ?_)
      | (with_reducible refine LeO.bind ?_ (fun _ => ?_))
      | exact ih0 _ _ _
      | exact ih1 _ _ _
      | exact ih2 _ _
      | exact LeO.none _
      | refine LeO.ite ?_ ?_
      | refine LeO.bind ?_ (fun _ => ?_)
theorem arith_Arity.mono : ∀ a0 k, LeO (arith_Arity.f k a0) (arith_Arity.f (k + 1) a0) := by
  intro a0 k
  obtain ⟨ih0, ih1, ih2⟩ := arith_Arity.mono_l k
  unfold arith_Arity.f
  repeat' first
      | (with_reducible exact ih0 _ _ _)
      | (with_reducible exact ih1 _ _ _)
      | (with_reducible exact ih2 _ _)
      | (with_reducible exact LeO.refl _)
      | (with_reducible exact LeO.none _)
      | (with_reducible refine LeO.ite ?_ ?_)
      | (with_reducible refine LeO.bind ?_ (fun _ => ?_))
      | exact ih0 _ _ _
      | exact ih1 _ _ _
      | exact ih2 _ _
      | exact LeO.none _
      | refine LeO.ite ?_ ?_
      | refine LeO.bind ?_ (fun _ => ?_)
set_option maxHeartbeats 8000000 in
set_option maxRecDepth 100000 in
theorem arith_Arity.calls (k : Nat) (a0 : Int) (r : Int) (w : World) (h : arith_Arity.f k a0 = some r) :
    Calls Try.prog 17 #[.int .i64 a0] w fun e w' => e = .returned (.int .i64 r) ∧ Drawn0 w w' := by
  have H : (if a0 = 1 then (arith_Arity.j0 k a0 a0 (a0 == 1)) else (if a0 = 2 then (arith_Arity.j0 k a0 a0 (a0 == 2)) else (arith_Arity.j0 k a0 a0 (a0 == 3)))) = some r := h
  clear h
  have HC2 := Aside0.mk H
  clear H
  go_enter Try.func17, Try.ntmps17
  go_upto_if 4 with (fail)
  go_cut [4] (fun v4 wc => ∃ (kq : Nat) (x4_1 : Bool), v4 = .bool x4_1 ∧ Aside0 (arith_Arity.j0 kq a0 a0 x4_1 = some r) ∧ Aside0 (kq ≤ k) ∧ Drawn0 w wc)
  case first =>
    have H := HC2.out
    clear HC2
    by_cases c3 : a0 = 1
    · rw [if_pos c3] at H
      have c3b0 : (a0 == 1) = true := beq_iff_eq.mpr c3
      have c3b1 : (a0 != 1) = false := bne_eq_false_iff_eq.mpr c3
      clear c3
      (first | rw [c3b0] | (simp only [i64_w, i32_w]; rw [c3b0]) | skip)
      have H' := Aside0.mk H
      clear H
      go_wp2
      go_meet
      case rel => exact ⟨_, ((a0 == 1)), (by first | rfl | (simp; done) | (simp [*]; done)), H', ⟨by first | omega | exact Nat.le_refl _⟩, by repeat (first | exact Drawn0.refl _ | apply Drawn0.step)⟩
    rw [if_neg c3] at H
    have c3b0 : (a0 == 1) = false := beq_eq_false_iff_ne.mpr c3
    have c3b1 : (a0 != 1) = true := bne_iff_ne.mpr c3
    (first | rw [c3b0] | (simp only [i64_w, i32_w]; rw [c3b0]) | skip)
    by_cases c4 : a0 = 2
    · rw [if_pos c4] at H
      have c4b0 : (a0 == 2) = true := beq_iff_eq.mpr c4
      have c4b1 : (a0 != 2) = false := bne_eq_false_iff_eq.mpr c4
      clear c4
      have H' := Aside0.mk H
      clear H
      go_wp2
      go_meet
      case rel => exact ⟨_, ((a0 == 2)), (by first | rfl | (simp; done) | (simp [*]; done)), H', ⟨by first | omega | exact Nat.le_refl _⟩, by repeat (first | exact Drawn0.refl _ | apply Drawn0.step)⟩
    rw [if_neg c4] at H
    have c4b0 : (a0 == 2) = false := beq_eq_false_iff_ne.mpr c4
    have c4b1 : (a0 != 2) = true := bne_iff_ne.mpr c4
    have H' := Aside0.mk H
    clear H
    go_wp2
    go_meet
    case rel => exact ⟨_, ((a0 == 3)), (by first | rfl | (simp; done) | (simp [*]; done)), H', ⟨by first | omega | exact Nat.le_refl _⟩, by repeat (first | exact Drawn0.refl _ | apply Drawn0.step)⟩
  case rest =>
    clear HC2
    try clear c3
    try clear c3b0
    try clear c3b1
    try clear c4
    try clear c4b0
    try clear c4b1
    obtain ⟨kq, x4_1, rfl, HA, HJ1, ⟨mc1, rfl⟩⟩ := hcut
    cases kq with
    | zero => exact absurd HA.out (by simp [arith_Arity.j0])
    | succ kj1 =>
      have H := HA.out
      clear HA
      simp only [arith_Arity.j0] at H
      by_cases c5 : x4_1 = true
      · subst c5
        have H1 : (some 0) = some r := by rw [if_pos rfl] at H; exact H
        clear H
        have H := H1
        clear H1
        obtain rfl := Option.some.inj H
        go_wp2
        go_ret
        exact ⟨by first | rfl | (simp; done) | (simp [*]; done), by repeat (first | exact Drawn0.refl _ | apply Drawn0.step)⟩
      replace c5 := Bool.eq_false_iff.mpr c5
      subst c5
      have H1 : (if a0 = 5 then (arith_Arity.j1 kj1 a0 a0 (a0 == 5)) else (if a0 = 6 then (arith_Arity.j1 kj1 a0 a0 (a0 == 6)) else (if a0 = 7 then (arith_Arity.j1 kj1 a0 a0 (a0 == 7)) else (if a0 = 29 then (arith_Arity.j1 kj1 a0 a0 (a0 == 29)) else (if a0 = 30 then (arith_Arity.j1 kj1 a0 a0 (a0 == 30)) else (if a0 = 31 then (arith_Arity.j1 kj1 a0 a0 (a0 == 31)) else (if a0 = 32 then (arith_Arity.j1 kj1 a0 a0 (a0 == 32)) else (arith_Arity.j1 kj1 a0 a0 (a0 == 33))))))))) = some r := by rw [if_neg (show ¬ (false = true) by decide)] at H; exact H
      clear H
      have H := H1
      clear H1
      have HC6 := Aside0.mk H
      clear H
      go_upto_if 8 with (fail)
      go_cut [8] (fun v8 wc => ∃ (kq : Nat) (x8_5 : Bool), v8 = .bool x8_5 ∧ Aside0 (arith_Arity.j1 kq a0 a0 x8_5 = some r) ∧ Aside0 (kq ≤ kj1) ∧ Drawn0 w wc)
      case first =>
        have H := HC6.out
        clear HC6
        by_cases c7 : a0 = 5
        · rw [if_pos c7] at H
          have c7b0 : (a0 == 5) = true := beq_iff_eq.mpr c7
          have c7b1 : (a0 != 5) = false := bne_eq_false_iff_eq.mpr c7
          clear c7
          (first | rw [c7b0] | (simp only [i64_w, i32_w]; rw [c7b0]) | skip)
          have H' := Aside0.mk H
          clear H
          go_wp2
          go_meet
          case rel => exact ⟨_, ((a0 == 5)), (by first | rfl | (simp; done) | (simp [*]; done)), H', ⟨by have := HJ1.out; first | omega | exact Nat.le_refl _⟩, by repeat (first | exact Drawn0.refl _ | apply Drawn0.step)⟩
        rw [if_neg c7] at H
        have c7b0 : (a0 == 5) = false := beq_eq_false_iff_ne.mpr c7
        have c7b1 : (a0 != 5) = true := bne_iff_ne.mpr c7
        (first | rw [c7b0] | (simp only [i64_w, i32_w]; rw [c7b0]) | skip)
        by_cases c8 : a0 = 6
        · rw [if_pos c8] at H
          have c8b0 : (a0 == 6) = true := beq_iff_eq.mpr c8
          have c8b1 : (a0 != 6) = false := bne_eq_false_iff_eq.mpr c8
          clear c8
          have H' := Aside0.mk H
          clear H
          go_wp2
          go_meet
          case rel => exact ⟨_, ((a0 == 6)), (by first | rfl | (simp; done) | (simp [*]; done)), H', ⟨by have := HJ1.out; first | omega | exact Nat.le_refl _⟩, by repeat (first | exact Drawn0.refl _ | apply Drawn0.step)⟩
        rw [if_neg c8] at H
        have c8b0 : (a0 == 6) = false := beq_eq_false_iff_ne.mpr c8
        have c8b1 : (a0 != 6) = true := bne_iff_ne.mpr c8
        by_cases c9 : a0 = 7
        · rw [if_pos c9] at H
          have c9b0 : (a0 == 7) = true := beq_iff_eq.mpr c9
          have c9b1 : (a0 != 7) = false := bne_eq_false_iff_eq.mpr c9
          clear c9
          have H' := Aside0.mk H
          clear H
          go_wp2
          go_meet
          case rel => exact ⟨_, ((a0 == 7)), (by first | rfl | (simp; done) | (simp [*]; done)), H', ⟨by have := HJ1.out; first | omega | exact Nat.le_refl _⟩, by repeat (first | exact Drawn0.refl _ | apply Drawn0.step)⟩
        rw [if_neg c9] at H
        have c9b0 : (a0 == 7) = false := beq_eq_false_iff_ne.mpr c9
        have c9b1 : (a0 != 7) = true := bne_iff_ne.mpr c9
        by_cases c10 : a0 = 29
        · rw [if_pos c10] at H
          have c10b0 : (a0 == 29) = true := beq_iff_eq.mpr c10
          have c10b1 : (a0 != 29) = false := bne_eq_false_iff_eq.mpr c10
          clear c10
          have H' := Aside0.mk H
          clear H
          go_wp2
          go_meet
          case rel => exact ⟨_, ((a0 == 29)), (by first | rfl | (simp; done) | (simp [*]; done)), H', ⟨by have := HJ1.out; first | omega | exact Nat.le_refl _⟩, by repeat (first | exact Drawn0.refl _ | apply Drawn0.step)⟩
        rw [if_neg c10] at H
        have c10b0 : (a0 == 29) = false := beq_eq_false_iff_ne.mpr c10
        have c10b1 : (a0 != 29) = true := bne_iff_ne.mpr c10
        by_cases c11 : a0 = 30
        · rw [if_pos c11] at H
          have c11b0 : (a0 == 30) = true := beq_iff_eq.mpr c11
          have c11b1 : (a0 != 30) = false := bne_eq_false_iff_eq.mpr c11
          clear c11
          have H' := Aside0.mk H
          clear H
          go_wp2
          go_meet
          case rel => exact ⟨_, ((a0 == 30)), (by first | rfl | (simp; done) | (simp [*]; done)), H', ⟨by have := HJ1.out; first | omega | exact Nat.le_refl _⟩, by repeat (first | exact Drawn0.refl _ | apply Drawn0.step)⟩
        rw [if_neg c11] at H
        have c11b0 : (a0 == 30) = false := beq_eq_false_iff_ne.mpr c11
        have c11b1 : (a0 != 30) = true := bne_iff_ne.mpr c11
        by_cases c12 : a0 = 31
        · rw [if_pos c12] at H
          have c12b0 : (a0 == 31) = true := beq_iff_eq.mpr c12
          have c12b1 : (a0 != 31) = false := bne_eq_false_iff_eq.mpr c12
          clear c12
          have H' := Aside0.mk H
          clear H
          go_wp2
          go_meet
          case rel => exact ⟨_, ((a0 == 31)), (by first | rfl | (simp; done) | (simp [*]; done)), H', ⟨by have := HJ1.out; first | omega | exact Nat.le_refl _⟩, by repeat (first | exact Drawn0.refl _ | apply Drawn0.step)⟩
        rw [if_neg c12] at H
        have c12b0 : (a0 == 31) = false := beq_eq_false_iff_ne.mpr c12
        have c12b1 : (a0 != 31) = true := bne_iff_ne.mpr c12
        by_cases c13 : a0 = 32
        · rw [if_pos c13] at H
          have c13b0 : (a0 == 32) = true := beq_iff_eq.mpr c13
          have c13b1 : (a0 != 32) = false := bne_eq_false_iff_eq.mpr c13
          clear c13
          have H' := Aside0.mk H
          clear H
          go_wp2
          go_meet
          case rel => exact ⟨_, ((a0 == 32)), (by first | rfl | (simp; done) | (simp [*]; done)), H', ⟨by have := HJ1.out; first | omega | exact Nat.le_refl _⟩, by repeat (first | exact Drawn0.refl _ | apply Drawn0.step)⟩
        rw [if_neg c13] at H
        have c13b0 : (a0 == 32) = false := beq_eq_false_iff_ne.mpr c13
        have c13b1 : (a0 != 32) = true := bne_iff_ne.mpr c13
        have H' := Aside0.mk H
        clear H
        go_wp2
        go_meet
        case rel => exact ⟨_, ((a0 == 33)), (by first | rfl | (simp; done) | (simp [*]; done)), H', ⟨by have := HJ1.out; first | omega | exact Nat.le_refl _⟩, by repeat (first | exact Drawn0.refl _ | apply Drawn0.step)⟩
      case rest =>
        clear HC6
        try clear c3
        try clear c3b0
        try clear c3b1
        try clear c4
        try clear c4b0
        try clear c4b1
        try clear c5
        try clear c7
        try clear c7b0
        try clear c7b1
        try clear c8
        try clear c8b0
        try clear c8b1
        try clear c9
        try clear c9b0
        try clear c9b1
        try clear c10
        try clear c10b0
        try clear c10b1
        try clear c11
        try clear c11b0
        try clear c11b1
        try clear c12
        try clear c12b0
        try clear c12b1
        try clear c13
        try clear c13b0
        try clear c13b1
        obtain ⟨kq, x8_5, rfl, HA, HJ5, ⟨mc5, rfl⟩⟩ := hcut
        cases kq with
        | zero => exact absurd HA.out (by simp [arith_Arity.j1])
        | succ kj5 =>
          have H := HA.out
          clear HA
          simp only [arith_Arity.j1] at H
          by_cases c14 : x8_5 = true
          · subst c14
            have H1 : (some 1) = some r := by rw [if_pos rfl] at H; exact H
            clear H
            have H := H1
            clear H1
            obtain rfl := Option.some.inj H
            go_wp2
            go_ret
            exact ⟨by first | rfl | (simp; done) | (simp [*]; done), by repeat (first | exact Drawn0.refl _ | apply Drawn0.step)⟩
          replace c14 := Bool.eq_false_iff.mpr c14
          subst c14
          have H1 : (if a0 = 26 then (arith_Arity.j2 kj5 a0 (a0 == 26)) else (if a0 = 27 then (arith_Arity.j2 kj5 a0 (a0 == 27)) else (arith_Arity.j2 kj5 a0 (a0 == 28)))) = some r := by rw [if_neg (show ¬ (false = true) by decide)] at H; exact H
          clear H
          have H := H1
          clear H1
          have HC15 := Aside0.mk H
          clear H
          go_upto_if 17 with (fail)
          go_cut [17] (fun v17 wc => ∃ (kq : Nat) (x17_14 : Bool), v17 = .bool x17_14 ∧ Aside0 (arith_Arity.j2 kq a0 x17_14 = some r) ∧ Aside0 (kq ≤ kj5) ∧ Drawn0 w wc)
          case first =>
            have H := HC15.out
            clear HC15
            by_cases c16 : a0 = 26
            · rw [if_pos c16] at H
              have c16b0 : (a0 == 26) = true := beq_iff_eq.mpr c16
              have c16b1 : (a0 != 26) = false := bne_eq_false_iff_eq.mpr c16
              clear c16
              (first | rw [c16b0] | (simp only [i64_w, i32_w]; rw [c16b0]) | skip)
              have H' := Aside0.mk H
              clear H
              go_wp2
              go_meet
              case rel => exact ⟨_, ((a0 == 26)), (by first | rfl | (simp; done) | (simp [*]; done)), H', ⟨by have := HJ1.out; have := HJ5.out; first | omega | exact Nat.le_refl _⟩, by repeat (first | exact Drawn0.refl _ | apply Drawn0.step)⟩
            rw [if_neg c16] at H
            have c16b0 : (a0 == 26) = false := beq_eq_false_iff_ne.mpr c16
            have c16b1 : (a0 != 26) = true := bne_iff_ne.mpr c16
            (first | rw [c16b0] | (simp only [i64_w, i32_w]; rw [c16b0]) | skip)
            by_cases c17 : a0 = 27
            · rw [if_pos c17] at H
              have c17b0 : (a0 == 27) = true := beq_iff_eq.mpr c17
              have c17b1 : (a0 != 27) = false := bne_eq_false_iff_eq.mpr c17
              clear c17
              have H' := Aside0.mk H
              clear H
              go_wp2
              go_meet
              case rel => exact ⟨_, ((a0 == 27)), (by first | rfl | (simp; done) | (simp [*]; done)), H', ⟨by have := HJ1.out; have := HJ5.out; first | omega | exact Nat.le_refl _⟩, by repeat (first | exact Drawn0.refl _ | apply Drawn0.step)⟩
            rw [if_neg c17] at H
            have c17b0 : (a0 == 27) = false := beq_eq_false_iff_ne.mpr c17
            have c17b1 : (a0 != 27) = true := bne_iff_ne.mpr c17
            have H' := Aside0.mk H
            clear H
            go_wp2
            go_meet
            case rel => exact ⟨_, ((a0 == 28)), (by first | rfl | (simp; done) | (simp [*]; done)), H', ⟨by have := HJ1.out; have := HJ5.out; first | omega | exact Nat.le_refl _⟩, by repeat (first | exact Drawn0.refl _ | apply Drawn0.step)⟩
          case rest =>
            clear HC15
            try clear c3
            try clear c3b0
            try clear c3b1
            try clear c4
            try clear c4b0
            try clear c4b1
            try clear c5
            try clear c7
            try clear c7b0
            try clear c7b1
            try clear c8
            try clear c8b0
            try clear c8b1
            try clear c9
            try clear c9b0
            try clear c9b1
            try clear c10
            try clear c10b0
            try clear c10b1
            try clear c11
            try clear c11b0
            try clear c11b1
            try clear c12
            try clear c12b0
            try clear c12b1
            try clear c13
            try clear c13b0
            try clear c13b1
            try clear c14
            try clear c16
            try clear c16b0
            try clear c16b1
            try clear c17
            try clear c17b0
            try clear c17b1
            obtain ⟨kq, x17_14, rfl, HA, HJ14, ⟨mc14, rfl⟩⟩ := hcut
            cases kq with
            | zero => exact absurd HA.out (by simp [arith_Arity.j2])
            | succ kj14 =>
              have H := HA.out
              clear HA
              simp only [arith_Arity.j2] at H
              by_cases c18 : x17_14 = true
              · subst c18
                have H1 : (some 3) = some r := by rw [if_pos rfl] at H; exact H
                clear H
                have H := H1
                clear H1
                obtain rfl := Option.some.inj H
                go_wp2
                go_ret
                exact ⟨by first | rfl | (simp; done) | (simp [*]; done), by repeat (first | exact Drawn0.refl _ | apply Drawn0.step)⟩
              replace c18 := Bool.eq_false_iff.mpr c18
              subst c18
              have H1 : (if a0 ≥ 8 then (if a0 ≤ 25 then (some 2) else (some (-1))) else (some (-1))) = some r := by rw [if_neg (show ¬ (false = true) by decide)] at H; exact H
              clear H
              have H := H1
              clear H1
              by_cases c19 : a0 ≥ 8
              · rw [if_pos c19] at H
                have c19b0 : decide (8 ≤ a0) = true := decide_eq_true c19
                clear c19
                by_cases c20 : a0 ≤ 25
                · rw [if_pos c20] at H
                  have c20b0 : decide (a0 ≤ 25) = true := decide_eq_true c20
                  clear c20
                  obtain rfl := Option.some.inj H
                  go_wp2
                  go_ret
                  exact ⟨by first | rfl | (simp; done) | (simp [*]; done), by repeat (first | exact Drawn0.refl _ | apply Drawn0.step)⟩
                rw [if_neg c20] at H
                have c20b0 : decide (a0 ≤ 25) = false := decide_eq_false c20
                clear c20
                obtain rfl := Option.some.inj H
                go_wp2
                go_ret
                exact ⟨by first | rfl | (simp; done) | (simp [*]; done), by repeat (first | exact Drawn0.refl _ | apply Drawn0.step)⟩
              rw [if_neg c19] at H
              have c19b0 : decide (8 ≤ a0) = false := decide_eq_false c19
              clear c19
              obtain rfl := Option.some.inj H
              go_wp2
              go_ret
              exact ⟨by first | rfl | (simp; done) | (simp [*]; done), by repeat (first | exact Drawn0.refl _ | apply Drawn0.step)⟩

/-! ### arith_Word: function 21 -/
def arith_Word.f (a0 : Int) : Option (Bool) := some ((wrap64 (wrap32 (a0))) == a0)
set_option maxHeartbeats 8000000 in
set_option maxRecDepth 100000 in
theorem arith_Word.calls (a0 : Int) (r : Bool) (w : World) (h : arith_Word.f a0 = some r) :
    Calls Try.prog 21 #[.int .i64 a0] w fun e w' => e = .returned (.bool r) ∧ Drawn0 w w' := by
  have H : (some ((wrap64 (wrap32 (a0))) == a0)) = some r := h
  clear h
  obtain rfl := Option.some.inj H
  go_enter Try.func21, Try.ntmps21
  go_wp2
  go_ret
  exact ⟨by first | rfl | (simp; done) | (simp [*]; done), by repeat (first | exact Drawn0.refl _ | apply Drawn0.step)⟩

/-! ### arith_Constants: function 19 -/
def arith_Constants.j0 : Nat → Int → Int → Int → Bool → Option (Bool)
  | 0, _, _, _, _ => none
  | k + 1, x1, x2, x7, x8 => if x8 = true then (if x1 ≥ 0 then (some (decide (x1 ≤ 31))) else (some false)) else (if x7 = 31 then (if x1 ≥ 0 then ((arith_Word.f x1).bind fun t101 => (some t101)) else (some false)) else (if x7 = 32 then ((arith_Word.f x1).bind fun t102 => (some t102)) else (if x7 = 33 then (if x1 ≥ 1 then (if x1 ≤ 4611686018427387904 then (if x2 ≥ 0 then (some (decide (x2 ≤ 62))) else (some false)) else (some false)) else (some false)) else (some true))))
def arith_Constants.f (k : Nat) (a0 : Int) (a1 : Int) (a2 : Int) : Option (Bool) := if a0 = 29 then (arith_Constants.j0 k a1 a2 a0 (a0 == 29)) else (arith_Constants.j0 k a1 a2 a0 (a0 == 30))
theorem arith_Constants.mono_l : ∀ k, (∀ y0 y1 y2 y3, LeO (arith_Constants.j0 k y0 y1 y2 y3) (arith_Constants.j0 (k + 1) y0 y1 y2 y3))
  | 0 => fun _ _ _ _ r h => by simp [arith_Constants.j0] at h
  | k + 1 => by
    have ih0 := arith_Constants.mono_l k
    · intro y0 y1 y2 y3
      unfold arith_Constants.j0
      repeat' first
      | (with_reducible exact ih0 _ _ _ _)
      | (with_reducible exact LeO.refl _)
      | (with_reducible exact LeO.none _)
      | (with_reducible refine LeO.ite ?_ ?_)
      | (with_reducible refine LeO.bind ?_ (fun _ => ?_))
      | exact ih0 _ _ _ _
      | exact LeO.none _
      | refine LeO.ite ?_ ?_
      | refine LeO.bind ?_ (fun _ => ?_)
theorem arith_Constants.mono : ∀ a0 a1 a2 k, LeO (arith_Constants.f k a0 a1 a2) (arith_Constants.f (k + 1) a0 a1 a2) := by
  intro a0 a1 a2 k
  have ih0 := arith_Constants.mono_l k
  unfold arith_Constants.f
  repeat' first
      | (with_reducible exact ih0 _ _ _ _)
      | (with_reducible exact LeO.refl _)
      | (with_reducible exact LeO.none _)
      | (with_reducible refine LeO.ite ?_ ?_)
      | (with_reducible refine LeO.bind ?_ (fun _ => ?_))
      | exact ih0 _ _ _ _
      | exact LeO.none _
      | refine LeO.ite ?_ ?_
      | refine LeO.bind ?_ (fun _ => ?_)
set_option maxHeartbeats 8000000 in
set_option maxRecDepth 100000 in
theorem arith_Constants.calls (k : Nat) (a0 : Int) (a1 : Int) (a2 : Int) (r : Bool) (w : World) (h : arith_Constants.f k a0 a1 a2 = some r) :
    Calls Try.prog 19 #[.int .i64 a0, .int .i64 a1, .int .i64 a2] w fun e w' => e = .returned (.bool r) ∧ Drawn0 w w' := by
  have H : (if a0 = 29 then (arith_Constants.j0 k a1 a2 a0 (a0 == 29)) else (arith_Constants.j0 k a1 a2 a0 (a0 == 30))) = some r := h
  clear h
  have HC4 := Aside0.mk H
  clear H
  go_enter Try.func19, Try.ntmps19
  go_upto_if 8 with (fail)
  go_cut [8] (fun v8 wc => ∃ (kq : Nat) (x8_3 : Bool), v8 = .bool x8_3 ∧ Aside0 (arith_Constants.j0 kq a1 a2 a0 x8_3 = some r) ∧ Aside0 (kq ≤ k) ∧ Drawn0 w wc)
  case first =>
    have H := HC4.out
    clear HC4
    by_cases c5 : a0 = 29
    · rw [if_pos c5] at H
      have c5b0 : (a0 == 29) = true := beq_iff_eq.mpr c5
      have c5b1 : (a0 != 29) = false := bne_eq_false_iff_eq.mpr c5
      clear c5
      (first | rw [c5b0] | (simp only [i64_w, i32_w]; rw [c5b0]) | skip)
      have H' := Aside0.mk H
      clear H
      go_wp2
      go_meet
      case rel => exact ⟨_, ((a0 == 29)), (by first | rfl | (simp; done) | (simp [*]; done)), H', ⟨by first | omega | exact Nat.le_refl _⟩, by repeat (first | exact Drawn0.refl _ | apply Drawn0.step)⟩
    rw [if_neg c5] at H
    have c5b0 : (a0 == 29) = false := beq_eq_false_iff_ne.mpr c5
    have c5b1 : (a0 != 29) = true := bne_iff_ne.mpr c5
    (first | rw [c5b0] | (simp only [i64_w, i32_w]; rw [c5b0]) | skip)
    have H' := Aside0.mk H
    clear H
    go_wp2
    go_meet
    case rel => exact ⟨_, ((a0 == 30)), (by first | rfl | (simp; done) | (simp [*]; done)), H', ⟨by first | omega | exact Nat.le_refl _⟩, by repeat (first | exact Drawn0.refl _ | apply Drawn0.step)⟩
  case rest =>
    clear HC4
    try clear c5
    try clear c5b0
    try clear c5b1
    obtain ⟨kq, x8_3, rfl, HA, HJ3, ⟨mc3, rfl⟩⟩ := hcut
    cases kq with
    | zero => exact absurd HA.out (by simp [arith_Constants.j0])
    | succ kj3 =>
      have H := HA.out
      clear HA
      simp only [arith_Constants.j0] at H
      by_cases c6 : x8_3 = true
      · subst c6
        have H1 : (if a1 ≥ 0 then (some (decide (a1 ≤ 31))) else (some false)) = some r := by rw [if_pos rfl] at H; exact H
        clear H
        have H := H1
        clear H1
        by_cases c7 : a1 ≥ 0
        · rw [if_pos c7] at H
          have c7b0 : decide (0 ≤ a1) = true := decide_eq_true c7
          clear c7
          obtain rfl := Option.some.inj H
          go_wp2
          go_ret
          exact ⟨by first | rfl | (simp; done) | (simp [*]; done), by repeat (first | exact Drawn0.refl _ | apply Drawn0.step)⟩
        rw [if_neg c7] at H
        have c7b0 : decide (0 ≤ a1) = false := decide_eq_false c7
        clear c7
        obtain rfl := Option.some.inj H
        go_wp2
        go_ret
        exact ⟨by first | rfl | (simp; done) | (simp [*]; done), by repeat (first | exact Drawn0.refl _ | apply Drawn0.step)⟩
      replace c6 := Bool.eq_false_iff.mpr c6
      subst c6
      have H1 : (if a0 = 31 then (if a1 ≥ 0 then ((arith_Word.f a1).bind fun t101 => (some t101)) else (some false)) else (if a0 = 32 then ((arith_Word.f a1).bind fun t102 => (some t102)) else (if a0 = 33 then (if a1 ≥ 1 then (if a1 ≤ 4611686018427387904 then (if a2 ≥ 0 then (some (decide (a2 ≤ 62))) else (some false)) else (some false)) else (some false)) else (some true)))) = some r := by rw [if_neg (show ¬ (false = true) by decide)] at H; exact H
      clear H
      have H := H1
      clear H1
      by_cases c8 : a0 = 31
      · rw [if_pos c8] at H
        have c8b0 : (a0 == 31) = true := beq_iff_eq.mpr c8
        have c8b1 : (a0 != 31) = false := bne_eq_false_iff_eq.mpr c8
        clear c8
        by_cases c9 : a1 ≥ 0
        · rw [if_pos c9] at H
          have c9b0 : decide (0 ≤ a1) = true := decide_eq_true c9
          clear c9
          replace H := Option.bind_eq_some_iff.mp H
          obtain ⟨t101, A100, H⟩ := H
          replace H : (some t101) = some r := H
          have A10 := Aside0.mk A100
          clear A100
          obtain rfl := Option.some.inj H
          go_wp2_with (first | (go_at_call 21; (with_reducible refine (arith_Word.calls a1 t101 _ A10.out).mono ?_); rintro e w' ⟨rfl, ⟨nd, rfl⟩⟩))
          go_ret
          exact ⟨by first | rfl | (simp; done) | (simp [*]; done), by repeat (first | exact Drawn0.refl _ | apply Drawn0.step)⟩
        rw [if_neg c9] at H
        have c9b0 : decide (0 ≤ a1) = false := decide_eq_false c9
        clear c9
        obtain rfl := Option.some.inj H
        go_wp2
        go_ret
        exact ⟨by first | rfl | (simp; done) | (simp [*]; done), by repeat (first | exact Drawn0.refl _ | apply Drawn0.step)⟩
      rw [if_neg c8] at H
      have c8b0 : (a0 == 31) = false := beq_eq_false_iff_ne.mpr c8
      have c8b1 : (a0 != 31) = true := bne_iff_ne.mpr c8
      by_cases c11 : a0 = 32
      · rw [if_pos c11] at H
        have c11b0 : (a0 == 32) = true := beq_iff_eq.mpr c11
        have c11b1 : (a0 != 32) = false := bne_eq_false_iff_eq.mpr c11
        clear c11
        replace H := Option.bind_eq_some_iff.mp H
        obtain ⟨t102, A120, H⟩ := H
        replace H : (some t102) = some r := H
        have A12 := Aside0.mk A120
        clear A120
        obtain rfl := Option.some.inj H
        go_wp2_with (first | ((with_reducible refine gate_callee (f := 21) rfl ?_); refine goesL_ (some 28) rfl rfl Try.func21 (by kernel_rfl) rfl #[.int .i64 a1] rfl (by (try simp only [List.map_toArray, List.map_cons, List.map_nil]); first | done | rfl | (simp only [List.length_drop, List.length_take]; rfl)) ?_; (with_reducible refine (arith_Word.calls a1 t102 _ A12.out).mono ?_); rintro e w' ⟨rfl, ⟨nd, rfl⟩⟩; refine ⟨_, rfl, ?_⟩))
        go_ret
        exact ⟨by first | rfl | (simp; done) | (simp [*]; done), by repeat (first | exact Drawn0.refl _ | apply Drawn0.step)⟩
      rw [if_neg c11] at H
      have c11b0 : (a0 == 32) = false := beq_eq_false_iff_ne.mpr c11
      have c11b1 : (a0 != 32) = true := bne_iff_ne.mpr c11
      by_cases c13 : a0 = 33
      · rw [if_pos c13] at H
        have c13b0 : (a0 == 33) = true := beq_iff_eq.mpr c13
        have c13b1 : (a0 != 33) = false := bne_eq_false_iff_eq.mpr c13
        clear c13
        by_cases c14 : a1 ≥ 1
        · rw [if_pos c14] at H
          have c14b0 : decide (1 ≤ a1) = true := decide_eq_true c14
          clear c14
          by_cases c15 : a1 ≤ 4611686018427387904
          · rw [if_pos c15] at H
            have c15b0 : decide (a1 ≤ 4611686018427387904) = true := decide_eq_true c15
            clear c15
            by_cases c16 : a2 ≥ 0
            · rw [if_pos c16] at H
              have c16b0 : decide (0 ≤ a2) = true := decide_eq_true c16
              clear c16
              obtain rfl := Option.some.inj H
              go_wp2
              go_ret
              exact ⟨by first | rfl | (simp; done) | (simp [*]; done), by repeat (first | exact Drawn0.refl _ | apply Drawn0.step)⟩
            rw [if_neg c16] at H
            have c16b0 : decide (0 ≤ a2) = false := decide_eq_false c16
            clear c16
            obtain rfl := Option.some.inj H
            go_wp2
            go_ret
            exact ⟨by first | rfl | (simp; done) | (simp [*]; done), by repeat (first | exact Drawn0.refl _ | apply Drawn0.step)⟩
          rw [if_neg c15] at H
          have c15b0 : decide (a1 ≤ 4611686018427387904) = false := decide_eq_false c15
          clear c15
          obtain rfl := Option.some.inj H
          go_wp2
          go_ret
          exact ⟨by first | rfl | (simp; done) | (simp [*]; done), by repeat (first | exact Drawn0.refl _ | apply Drawn0.step)⟩
        rw [if_neg c14] at H
        have c14b0 : decide (1 ≤ a1) = false := decide_eq_false c14
        clear c14
        obtain rfl := Option.some.inj H
        go_wp2
        go_ret
        exact ⟨by first | rfl | (simp; done) | (simp [*]; done), by repeat (first | exact Drawn0.refl _ | apply Drawn0.step)⟩
      rw [if_neg c13] at H
      have c13b0 : (a0 == 33) = false := beq_eq_false_iff_ne.mpr c13
      have c13b1 : (a0 != 33) = true := bne_iff_ne.mpr c13
      obtain rfl := Option.some.inj H
      go_wp2
      go_ret
      exact ⟨by first | rfl | (simp; done) | (simp [*]; done), by repeat (first | exact Drawn0.refl _ | apply Drawn0.step)⟩

/-! ### arith_one: function 36 -/
def arith_one.f (a0 : Int) (a1 : Int) (a2 : Int) (a3 : Int) : Option (Int × Int) := if a0 = 5 then (some (wrap64 (-a3), 0)) else (if a0 = 6 then (some (mx a3 (wrap64 (-a3)), 0)) else (if a0 = 7 then (some (Go.bits .or .i64 (a3 / 9223372036854775808) (wrap64 ((IntKind.u64.wrap (wrap64 (-a3))) / 9223372036854775808)), 0)) else (if a0 = 29 then (if 0 ≤ a1 then (some (shl .i64 a3 a1, 0)) else (none)) else (if a0 = 30 then (if 0 ≤ a1 then (some (shr .i64 a3 a1, 0)) else (none)) else (if a0 = 31 then (some (Go.bits .and .i64 a3 a1, 0)) else (if a0 = 32 then (some (wrap64 (a3 * a1), 0)) else (if a3 = 0 then (if 0 ≤ a2 then (some (shr .i64 (wrap64 (a3 * a1)) a2, 0)) else (none)) else (if (mx a3 (wrap64 (-a3))) = 0 then (none) else (if a1 > (wrap64 (Int.tdiv (4611686018427387904 : Int) (mx a3 (wrap64 (-a3))))) then (some (0, 13)) else (if 0 ≤ a2 then (some (shr .i64 (wrap64 (a3 * a1)) a2, 0)) else (none)))))))))))
set_option maxHeartbeats 8000000 in
set_option maxRecDepth 100000 in
theorem arith_one.calls (a0 : Int) (a1 : Int) (a2 : Int) (a3 : Int) (r1 : Int) (r2 : Int) (w : World) (h : arith_one.f a0 a1 a2 a3 = some (r1, r2)) :
    Calls Try.prog 36 #[.int .i64 a0, .int .i64 a1, .int .i64 a2, .int .i64 a3] w fun e w' => e = .returned (.tuple #[.int .i64 r1, .int .i64 r2]) ∧ Below w.heap.size w w' := by
  have HB := Aside0.mk (Below.refl w.heap.size w)
  have H : (if a0 = 5 then (some (wrap64 (-a3), 0)) else (if a0 = 6 then (some (mx a3 (wrap64 (-a3)), 0)) else (if a0 = 7 then (some (Go.bits .or .i64 (a3 / 9223372036854775808) (wrap64 ((IntKind.u64.wrap (wrap64 (-a3))) / 9223372036854775808)), 0)) else (if a0 = 29 then (if 0 ≤ a1 then (some (shl .i64 a3 a1, 0)) else (none)) else (if a0 = 30 then (if 0 ≤ a1 then (some (shr .i64 a3 a1, 0)) else (none)) else (if a0 = 31 then (some (Go.bits .and .i64 a3 a1, 0)) else (if a0 = 32 then (some (wrap64 (a3 * a1), 0)) else (if a3 = 0 then (if 0 ≤ a2 then (some (shr .i64 (wrap64 (a3 * a1)) a2, 0)) else (none)) else (if (mx a3 (wrap64 (-a3))) = 0 then (none) else (if a1 > (wrap64 (Int.tdiv (4611686018427387904 : Int) (mx a3 (wrap64 (-a3))))) then (some (0, 13)) else (if 0 ≤ a2 then (some (shr .i64 (wrap64 (a3 * a1)) a2, 0)) else (none)))))))))))) = some (r1, r2) := h
  clear h
  by_cases c5 : a0 = 5
  · rw [if_pos c5] at H
    have c5b0 : (a0 == 5) = true := beq_iff_eq.mpr c5
    have c5b1 : (a0 != 5) = false := bne_eq_false_iff_eq.mpr c5
    clear c5
    simp only [Option.some.injEq, Prod.mk.injEq] at H
    obtain ⟨rfl, rfl⟩ := H
    go_enter Try.func36, Try.ntmps36
    go_wp2
    go_ret2
    exact ⟨by first | rfl | (simp [errW_none, errW_some] <;> rfl) | (simp [*, errW_none, errW_some] <;> rfl), by repeat (first | (with_reducible first | exact HB.out | apply cA | apply cN | apply cD) | exact HB.out)⟩
  rw [if_neg c5] at H
  have c5b0 : (a0 == 5) = false := beq_eq_false_iff_ne.mpr c5
  have c5b1 : (a0 != 5) = true := bne_iff_ne.mpr c5
  by_cases c6 : a0 = 6
  · rw [if_pos c6] at H
    have c6b0 : (a0 == 6) = true := beq_iff_eq.mpr c6
    have c6b1 : (a0 != 6) = false := bne_eq_false_iff_eq.mpr c6
    clear c6
    obtain ⟨ji7, hji7⟩ : ∃ j_ : Int, (mx a3 (wrap64 (-a3))) = j_ := ⟨_, rfl⟩
    replace H : (some (ji7, 0)) = some (r1, r2) := by first | (rw [hji7] at H; exact H) | (simp only [hji7] at H ⊢; exact H)
    have hji7_ : (if a3 < (wrap64 (-a3)) then (wrap64 (-a3)) else a3) = ji7 := hji7
    simp only [Option.some.injEq, Prod.mk.injEq] at H
    obtain ⟨rfl, rfl⟩ := H
    go_enter Try.func36, Try.ntmps36
    go_wp2
    go_ret2
    exact ⟨by first | rfl | (simp [errW_none, errW_some] <;> rfl) | (simp only [← hji7]; first | rfl | (simp [errW_none, errW_some] <;> rfl)) | (simp [*, errW_none, errW_some] <;> rfl), by repeat (first | (with_reducible first | exact HB.out | apply cA | apply cN | apply cD) | exact HB.out)⟩
  rw [if_neg c6] at H
  have c6b0 : (a0 == 6) = false := beq_eq_false_iff_ne.mpr c6
  have c6b1 : (a0 != 6) = true := bne_iff_ne.mpr c6
  by_cases c8 : a0 = 7
  · rw [if_pos c8] at H
    have c8b0 : (a0 == 7) = true := beq_iff_eq.mpr c8
    have c8b1 : (a0 != 7) = false := bne_eq_false_iff_eq.mpr c8
    clear c8
    simp only [Option.some.injEq, Prod.mk.injEq] at H
    obtain ⟨rfl, rfl⟩ := H
    go_enter Try.func36, Try.ntmps36
    go_wp2
    go_ret2
    exact ⟨by first | rfl | (simp [errW_none, errW_some] <;> rfl) | (simp [*, errW_none, errW_some] <;> rfl), by repeat (first | (with_reducible first | exact HB.out | apply cA | apply cN | apply cD) | exact HB.out)⟩
  rw [if_neg c8] at H
  have c8b0 : (a0 == 7) = false := beq_eq_false_iff_ne.mpr c8
  have c8b1 : (a0 != 7) = true := bne_iff_ne.mpr c8
  by_cases c9 : a0 = 29
  · rw [if_pos c9] at H
    have c9b0 : (a0 == 29) = true := beq_iff_eq.mpr c9
    have c9b1 : (a0 != 29) = false := bne_eq_false_iff_eq.mpr c9
    clear c9
    by_cases c10 : 0 ≤ a1
    · rw [if_pos c10] at H
      have c10b0 := eq_true c10
      have c10b1 : decide (0 ≤ a1) = true := decide_eq_true c10
      clear c10
      obtain ⟨ji11, hji11⟩ : ∃ j_ : Int, (shl .i64 a3 a1) = j_ := ⟨_, rfl⟩
      replace H : (some (ji11, 0)) = some (r1, r2) := by first | (rw [hji11] at H; exact H) | (simp only [hji11] at H ⊢; exact H)
      have hji11_ : (IntKind.i64.wrap (a3 * 2 ^ min a1.toNat 64)) = ji11 := hji11
      have hji11z : a1 ≤ 64 → (IntKind.i64.wrap (a3 * 2 ^ a1.toNat)) = ji11 := shl_small hji11
      have hji11y : (wrap64 (a3 * 2 ^ min a1.toNat 64)) = ji11 := (i64_w _).symm.trans hji11_
      have hji11x : a1 ≤ 64 → (wrap64 (a3 * 2 ^ a1.toNat)) = ji11 := fun h_ => (i64_w _).symm.trans (hji11z h_)
      simp only [Option.some.injEq, Prod.mk.injEq] at H
      obtain ⟨rfl, rfl⟩ := H
      go_enter Try.func36, Try.ntmps36
      go_wp2
      go_ret2
      exact ⟨by first | rfl | (simp [errW_none, errW_some] <;> rfl) | (simp only [← hji11]; first | rfl | (simp [errW_none, errW_some] <;> rfl)) | (simp [*, errW_none, errW_some] <;> rfl), by repeat (first | (with_reducible first | exact HB.out | apply cA | apply cN | apply cD) | exact HB.out)⟩
    rw [if_neg c10] at H
    exact absurd H (by simp)
  rw [if_neg c9] at H
  have c9b0 : (a0 == 29) = false := beq_eq_false_iff_ne.mpr c9
  have c9b1 : (a0 != 29) = true := bne_iff_ne.mpr c9
  by_cases c12 : a0 = 30
  · rw [if_pos c12] at H
    have c12b0 : (a0 == 30) = true := beq_iff_eq.mpr c12
    have c12b1 : (a0 != 30) = false := bne_eq_false_iff_eq.mpr c12
    clear c12
    by_cases c13 : 0 ≤ a1
    · rw [if_pos c13] at H
      have c13b0 := eq_true c13
      have c13b1 : decide (0 ≤ a1) = true := decide_eq_true c13
      clear c13
      obtain ⟨ji14, hji14⟩ : ∃ j_ : Int, (shr .i64 a3 a1) = j_ := ⟨_, rfl⟩
      replace H : (some (ji14, 0)) = some (r1, r2) := by first | (rw [hji14] at H; exact H) | (simp only [hji14] at H ⊢; exact H)
      have hji14_ : (a3 / 2 ^ min a1.toNat 64) = ji14 := hji14
      have hji14z : a1 ≤ 64 → (a3 / 2 ^ a1.toNat) = ji14 := shr_small hji14
      simp only [Option.some.injEq, Prod.mk.injEq] at H
      obtain ⟨rfl, rfl⟩ := H
      go_enter Try.func36, Try.ntmps36
      go_wp2
      go_ret2
      exact ⟨by first | rfl | (simp [errW_none, errW_some] <;> rfl) | (simp only [← hji14]; first | rfl | (simp [errW_none, errW_some] <;> rfl)) | (simp [*, errW_none, errW_some] <;> rfl), by repeat (first | (with_reducible first | exact HB.out | apply cA | apply cN | apply cD) | exact HB.out)⟩
    rw [if_neg c13] at H
    exact absurd H (by simp)
  rw [if_neg c12] at H
  have c12b0 : (a0 == 30) = false := beq_eq_false_iff_ne.mpr c12
  have c12b1 : (a0 != 30) = true := bne_iff_ne.mpr c12
  by_cases c15 : a0 = 31
  · rw [if_pos c15] at H
    have c15b0 : (a0 == 31) = true := beq_iff_eq.mpr c15
    have c15b1 : (a0 != 31) = false := bne_eq_false_iff_eq.mpr c15
    clear c15
    simp only [Option.some.injEq, Prod.mk.injEq] at H
    obtain ⟨rfl, rfl⟩ := H
    go_enter Try.func36, Try.ntmps36
    go_wp2
    go_ret2
    exact ⟨by first | rfl | (simp [errW_none, errW_some] <;> rfl) | (simp [*, errW_none, errW_some] <;> rfl), by repeat (first | (with_reducible first | exact HB.out | apply cA | apply cN | apply cD) | exact HB.out)⟩
  rw [if_neg c15] at H
  have c15b0 : (a0 == 31) = false := beq_eq_false_iff_ne.mpr c15
  have c15b1 : (a0 != 31) = true := bne_iff_ne.mpr c15
  by_cases c16 : a0 = 32
  · rw [if_pos c16] at H
    have c16b0 : (a0 == 32) = true := beq_iff_eq.mpr c16
    have c16b1 : (a0 != 32) = false := bne_eq_false_iff_eq.mpr c16
    clear c16
    simp only [Option.some.injEq, Prod.mk.injEq] at H
    obtain ⟨rfl, rfl⟩ := H
    go_enter Try.func36, Try.ntmps36
    go_wp2
    go_ret2
    exact ⟨by first | rfl | (simp [errW_none, errW_some] <;> rfl) | (simp [*, errW_none, errW_some] <;> rfl), by repeat (first | (with_reducible first | exact HB.out | apply cA | apply cN | apply cD) | exact HB.out)⟩
  rw [if_neg c16] at H
  have c16b0 : (a0 == 32) = false := beq_eq_false_iff_ne.mpr c16
  have c16b1 : (a0 != 32) = true := bne_iff_ne.mpr c16
  by_cases c17 : a3 = 0
  · rw [if_pos c17] at H
    have c17b0 : (a3 == 0) = true := beq_iff_eq.mpr c17
    have c17b1 : (a3 != 0) = false := bne_eq_false_iff_eq.mpr c17
    clear c17
    by_cases c18 : 0 ≤ a2
    · rw [if_pos c18] at H
      have c18b0 := eq_true c18
      have c18b1 : decide (0 ≤ a2) = true := decide_eq_true c18
      clear c18
      obtain ⟨ji19, hji19⟩ : ∃ j_ : Int, (shr .i64 (wrap64 (a3 * a1)) a2) = j_ := ⟨_, rfl⟩
      replace H : (some (ji19, 0)) = some (r1, r2) := by first | (rw [hji19] at H; exact H) | (simp only [hji19] at H ⊢; exact H)
      have hji19_ : ((wrap64 (a3 * a1)) / 2 ^ min a2.toNat 64) = ji19 := hji19
      have hji19z : a2 ≤ 64 → ((wrap64 (a3 * a1)) / 2 ^ a2.toNat) = ji19 := shr_small hji19
      simp only [Option.some.injEq, Prod.mk.injEq] at H
      obtain ⟨rfl, rfl⟩ := H
      go_enter Try.func36, Try.ntmps36
      go_wp2
      go_ret2
      exact ⟨by first | rfl | (simp [errW_none, errW_some] <;> rfl) | (simp only [← hji19]; first | rfl | (simp [errW_none, errW_some] <;> rfl)) | (simp [*, errW_none, errW_some] <;> rfl), by repeat (first | (with_reducible first | exact HB.out | apply cA | apply cN | apply cD) | exact HB.out)⟩
    rw [if_neg c18] at H
    exact absurd H (by simp)
  rw [if_neg c17] at H
  have c17b0 : (a3 == 0) = false := beq_eq_false_iff_ne.mpr c17
  have c17b1 : (a3 != 0) = true := bne_iff_ne.mpr c17
  obtain ⟨ji20, hji20⟩ : ∃ j_ : Int, (mx a3 (wrap64 (-a3))) = j_ := ⟨_, rfl⟩
  replace H : (if (ji20) = 0 then (none) else (if a1 > (wrap64 (Int.tdiv (4611686018427387904 : Int) (ji20))) then (some (0, 13)) else (if 0 ≤ a2 then (some (shr .i64 (wrap64 (a3 * a1)) a2, 0)) else (none)))) = some (r1, r2) := by first | (rw [hji20] at H; exact H) | (simp only [hji20] at H ⊢; exact H)
  have hji20_ : (if a3 < (wrap64 (-a3)) then (wrap64 (-a3)) else a3) = ji20 := hji20
  by_cases c21 : (ji20) = 0
  · rw [if_pos c21] at H
    exact absurd H (by simp)
  rw [if_neg c21] at H
  have c21b0 : ((ji20) == 0) = false := beq_eq_false_iff_ne.mpr c21
  have c21b1 : ((ji20) != 0) = true := bne_iff_ne.mpr c21
  by_cases c22 : a1 > (wrap64 (Int.tdiv (4611686018427387904 : Int) (ji20)))
  · rw [if_pos c22] at H
    have c22b0 : decide ((wrap64 (Int.tdiv (4611686018427387904 : Int) (ji20))) < a1) = true := decide_eq_true c22
    clear c22
    simp only [Option.some.injEq, Prod.mk.injEq] at H
    obtain ⟨rfl, rfl⟩ := H
    go_enter Try.func36, Try.ntmps36
    go_wp2
    go_ret2
    exact ⟨by first | rfl | (simp [errW_none, errW_some] <;> rfl) | (simp only [← hji20]; first | rfl | (simp [errW_none, errW_some] <;> rfl)) | (simp [*, errW_none, errW_some] <;> rfl), by repeat (first | (with_reducible first | exact HB.out | apply cA | apply cN | apply cD) | exact HB.out)⟩
  rw [if_neg c22] at H
  have c22b0 : decide ((wrap64 (Int.tdiv (4611686018427387904 : Int) (ji20))) < a1) = false := decide_eq_false c22
  clear c22
  by_cases c23 : 0 ≤ a2
  · rw [if_pos c23] at H
    have c23b0 := eq_true c23
    have c23b1 : decide (0 ≤ a2) = true := decide_eq_true c23
    clear c23
    obtain ⟨ji24, hji24⟩ : ∃ j_ : Int, (shr .i64 (wrap64 (a3 * a1)) a2) = j_ := ⟨_, rfl⟩
    replace H : (some (ji24, 0)) = some (r1, r2) := by first | (rw [hji24] at H; exact H) | (simp only [hji24] at H ⊢; exact H)
    have hji24_ : ((wrap64 (a3 * a1)) / 2 ^ min a2.toNat 64) = ji24 := hji24
    have hji24z : a2 ≤ 64 → ((wrap64 (a3 * a1)) / 2 ^ a2.toNat) = ji24 := shr_small hji24
    simp only [Option.some.injEq, Prod.mk.injEq] at H
    obtain ⟨rfl, rfl⟩ := H
    go_enter Try.func36, Try.ntmps36
    go_wp2
    go_ret2
    exact ⟨by first | rfl | (simp [errW_none, errW_some] <;> rfl) | (simp only [← hji20, ← hji24]; first | rfl | (simp [errW_none, errW_some] <;> rfl)) | (simp [*, errW_none, errW_some] <;> rfl), by repeat (first | (with_reducible first | exact HB.out | apply cA | apply cN | apply cD) | exact HB.out)⟩
  rw [if_neg c23] at H
  exact absurd H (by simp)

end Go.Proofs.Ytpnldhimlpilhaa.F
