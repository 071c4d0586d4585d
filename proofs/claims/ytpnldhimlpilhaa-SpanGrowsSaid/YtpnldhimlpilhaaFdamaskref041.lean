/- Written by wip/myprint.py of this session, out of Lean's print of the program: what Go functions come to, and that their calls come to it; no condition. -/
import Derived.Test.YtpnldhimlpilhaaF0
namespace Go.Proofs.Ytpnldhimlpilhaa.F
open Go.RowKit Go.Proofs.YtpnldhimlpilhaaW.PrintWords Go.Proofs.YtpnldhimlpilhaaW.PrintLast Go.Proofs.YtpnldhimlpilhaaW.PrintMore Go.Proofs.YtpnldhimlpilhaaW
attribute [local go_sem] max2_int min2_int max_two min_two max_three min_three max_four min_four   -- for this text's walks alone
set_option linter.unusedVariables false
set_option linter.unusedSimpArgs false

/-! ### damaskref04_Arity: function 18 -/
mutual
def damaskref04_Arity.j0 : Nat → Int → Bool → Option (Int)
  | 0, _, _ => none
  | k + 1, x0, x12 => if x12 = true then (some (-1)) else (if x0 < 4 then (some 0) else (if x0 < 8 then (damaskref04_Arity.j1 k x0 true) else (damaskref04_Arity.j1 k x0 (decide (x0 > 28)))))
def damaskref04_Arity.j1 : Nat → Int → Bool → Option (Int)
  | 0, _, _ => none
  | k + 1, x0, x20 => if x20 = true then (some 1) else (if x0 < 26 then (some 2) else (some 3))
end
def damaskref04_Arity.f (k : Nat) (a0 : Int) : Option (Int) := if a0 < 1 then (damaskref04_Arity.j0 k a0 true) else (if a0 = 4 then (damaskref04_Arity.j0 k a0 true) else (damaskref04_Arity.j0 k a0 (decide (a0 > 33))))
theorem damaskref04_Arity.mono_l : ∀ k, (∀ y0 y1, LeO (damaskref04_Arity.j0 k y0 y1) (damaskref04_Arity.j0 (k + 1) y0 y1)) ∧ (∀ y0 y1, LeO (damaskref04_Arity.j1 k y0 y1) (damaskref04_Arity.j1 (k + 1) y0 y1))
  | 0 => ⟨fun _ _ r h => by simp [damaskref04_Arity.j0] at h, fun _ _ r h => by simp [damaskref04_Arity.j1] at h⟩
  | k + 1 => by
    obtain ⟨ih0, ih1⟩ := damaskref04_Arity.mono_l k
    refine ⟨?_, ?_⟩
    · intro y0 y1
      unfold damaskref04_Arity.j0
      repeat' first
      | (with_reducible exact ih0 _ _)
      | (with_reducible exact ih1 _ _)
      | (with_reducible exact LeO.refl _)
      | (with_reducible exact LeO.none _)
      | (with_reducible refine LeO.ite ?_ ?_)
      | (with_reducible refine LeO.bind ?_ (fun _ => ?_))
      | exact ih0 _ _
      | exact ih1 _ _
      | exact LeO.none _
      | refine LeO.ite ?_ ?_
      | refine LeO.bind ?_ (fun _ => ?_)
    · intro y0 y1
      unfold damaskref04_Arity.j1
      repeat' first
      | (with_reducible exact ih0 _ _)
      | (with_reducible exact ih1 _ _)
      | (with_reducible exact LeO.refl _)
      | (with_reducible exact LeO.none _)
      | (with_reducible refine LeO.ite ?_ ?_)
      | (with_reducible refine LeO.bind ?_ (fun _ => ?_))
      | exact ih0 _ _
      | exact ih1 _ _
      | exact LeO.none _
      | refine LeO.ite ?_ ?_
      | refine LeO.bind ?_ (fun _ => ?_)
theorem damaskref04_Arity.mono : ∀ a0 k, LeO (damaskref04_Arity.f k a0) (damaskref04_Arity.f (k + 1) a0) := by
  intro a0 k
  obtain ⟨ih0, ih1⟩ := damaskref04_Arity.mono_l k
  unfold damaskref04_Arity.f
  repeat' first
      | (with_reducible exact ih0 _ _)
      | (with_reducible exact ih1 _ _)
      | (with_reducible exact LeO.refl _)
      | (with_reducible exact LeO.none _)
      | (with_reducible refine LeO.ite ?_ ?_)
      | (with_reducible refine LeO.bind ?_ (fun _ => ?_))
      | exact ih0 _ _
      | exact ih1 _ _
      | exact LeO.none _
      | refine LeO.ite ?_ ?_
      | refine LeO.bind ?_ (fun _ => ?_)
set_option maxHeartbeats 8000000 in
set_option maxRecDepth 100000 in
theorem damaskref04_Arity.calls (k : Nat) (a0 : Int) (r : Int) (w : World) (h : damaskref04_Arity.f k a0 = some r) :
    Calls Try.prog 18 #[.int .i64 a0] w fun e w' => e = .returned (.int .i64 r) ∧ Drawn0 w w' := by
  have H : (if a0 < 1 then (damaskref04_Arity.j0 k a0 true) else (if a0 = 4 then (damaskref04_Arity.j0 k a0 true) else (damaskref04_Arity.j0 k a0 (decide (a0 > 33))))) = some r := h
  clear h
  have HC2 := Aside0.mk H
  clear H
  go_enter Try.func18, Try.ntmps18
  go_upto_region 1 with (fail)
  go_cut [12] (fun v12 wc => ∃ (kq : Nat) (x12_1 : Bool), v12 = .bool x12_1 ∧ Aside0 (damaskref04_Arity.j0 kq a0 x12_1 = some r) ∧ Aside0 (kq ≤ k) ∧ Drawn0 w wc)
  case first =>
    have H := HC2.out
    clear HC2
    by_cases c3 : a0 < 1
    · rw [if_pos c3] at H
      have c3b0 : decide (a0 < 1) = true := decide_eq_true c3
      clear c3
      (first | rw [c3b0] | (simp only [i64_w, i32_w]; rw [c3b0]) | skip)
      have H' := Aside0.mk H
      clear H
      go_wp2
      go_meet
      case rel => exact ⟨_, (true), (by first | rfl | (simp; done) | (simp [*]; done)), H', ⟨by first | omega | exact Nat.le_refl _⟩, by repeat (first | exact Drawn0.refl _ | apply Drawn0.step)⟩
    rw [if_neg c3] at H
    have c3b0 : decide (a0 < 1) = false := decide_eq_false c3
    clear c3
    (first | rw [c3b0] | (simp only [i64_w, i32_w]; rw [c3b0]) | skip)
    by_cases c4 : a0 = 4
    · rw [if_pos c4] at H
      have c4b0 : (a0 == 4) = true := beq_iff_eq.mpr c4
      have c4b1 : (a0 != 4) = false := bne_eq_false_iff_eq.mpr c4
      clear c4
      have H' := Aside0.mk H
      clear H
      go_wp2
      go_meet
      case rel => exact ⟨_, (true), (by first | rfl | (simp; done) | (simp [*]; done)), H', ⟨by first | omega | exact Nat.le_refl _⟩, by repeat (first | exact Drawn0.refl _ | apply Drawn0.step)⟩
    rw [if_neg c4] at H
    have c4b0 : (a0 == 4) = false := beq_eq_false_iff_ne.mpr c4
    have c4b1 : (a0 != 4) = true := bne_iff_ne.mpr c4
    have H' := Aside0.mk H
    clear H
    go_wp2
    go_meet
    case rel => exact ⟨_, (decide (a0 > 33)), (by first | rfl | (simp; done) | (simp [*]; done)), H', ⟨by first | omega | exact Nat.le_refl _⟩, by repeat (first | exact Drawn0.refl _ | apply Drawn0.step)⟩
  case rest =>
    clear HC2
    try clear c3
    try clear c3b0
    try clear c4
    try clear c4b0
    try clear c4b1
    obtain ⟨kq, x12_1, rfl, HA, HJ1, ⟨mc1, rfl⟩⟩ := hcut
    cases kq with
    | zero => exact absurd HA.out (by simp [damaskref04_Arity.j0])
    | succ kj1 =>
      have H := HA.out
      clear HA
      simp only [damaskref04_Arity.j0] at H
      by_cases c5 : x12_1 = true
      · subst c5
        have H1 : (some (-1)) = some r := by rw [if_pos rfl] at H; exact H
        clear H
        have H := H1
        clear H1
        obtain rfl := Option.some.inj H
        go_wp2
        go_ret
        exact ⟨by first | rfl | (simp; done) | (simp [*]; done), by repeat (first | exact Drawn0.refl _ | apply Drawn0.step)⟩
      replace c5 := Bool.eq_false_iff.mpr c5
      subst c5
      have H1 : (if a0 < 4 then (some 0) else (if a0 < 8 then (damaskref04_Arity.j1 kj1 a0 true) else (damaskref04_Arity.j1 kj1 a0 (decide (a0 > 28))))) = some r := by rw [if_neg (show ¬ (false = true) by decide)] at H; exact H
      clear H
      have H := H1
      clear H1
      by_cases c6 : a0 < 4
      · rw [if_pos c6] at H
        have c6b0 : decide (a0 < 4) = true := decide_eq_true c6
        clear c6
        obtain rfl := Option.some.inj H
        go_wp2
        go_ret
        exact ⟨by first | rfl | (simp; done) | (simp [*]; done), by repeat (first | exact Drawn0.refl _ | apply Drawn0.step)⟩
      rw [if_neg c6] at H
      have c6b0 : decide (a0 < 4) = false := decide_eq_false c6
      clear c6
      have HC7 := Aside0.mk H
      clear H
      go_upto_region 5 with (fail)
      go_cut [20] (fun v20 wc => ∃ (kq : Nat) (x20_6 : Bool), v20 = .bool x20_6 ∧ Aside0 (damaskref04_Arity.j1 kq a0 x20_6 = some r) ∧ Aside0 (kq ≤ kj1) ∧ Drawn0 w wc)
      case first =>
        have H := HC7.out
        clear HC7
        by_cases c8 : a0 < 8
        · rw [if_pos c8] at H
          have c8b0 : decide (a0 < 8) = true := decide_eq_true c8
          clear c8
          (first | rw [c8b0] | (simp only [i64_w, i32_w]; rw [c8b0]) | skip)
          have H' := Aside0.mk H
          clear H
          go_wp2
          go_meet
          case rel => exact ⟨_, (true), (by first | rfl | (simp; done) | (simp [*]; done)), H', ⟨by have := HJ1.out; first | omega | exact Nat.le_refl _⟩, by repeat (first | exact Drawn0.refl _ | apply Drawn0.step)⟩
        rw [if_neg c8] at H
        have c8b0 : decide (a0 < 8) = false := decide_eq_false c8
        clear c8
        (first | rw [c8b0] | (simp only [i64_w, i32_w]; rw [c8b0]) | skip)
        have H' := Aside0.mk H
        clear H
        go_wp2
        go_meet
        case rel => exact ⟨_, (decide (a0 > 28)), (by first | rfl | (simp; done) | (simp [*]; done)), H', ⟨by have := HJ1.out; first | omega | exact Nat.le_refl _⟩, by repeat (first | exact Drawn0.refl _ | apply Drawn0.step)⟩
      case rest =>
        clear HC7
        try clear c3
        try clear c3b0
        try clear c4
        try clear c4b0
        try clear c4b1
        try clear c5
        try clear c6
        try clear c6b0
        try clear c8
        try clear c8b0
        obtain ⟨kq, x20_6, rfl, HA, HJ6, ⟨mc6, rfl⟩⟩ := hcut
        cases kq with
        | zero => exact absurd HA.out (by simp [damaskref04_Arity.j1])
        | succ kj6 =>
          have H := HA.out
          clear HA
          simp only [damaskref04_Arity.j1] at H
          by_cases c9 : x20_6 = true
          · subst c9
            have H1 : (some 1) = some r := by rw [if_pos rfl] at H; exact H
            clear H
            have H := H1
            clear H1
            obtain rfl := Option.some.inj H
            go_wp2
            go_ret
            exact ⟨by first | rfl | (simp; done) | (simp [*]; done), by repeat (first | exact Drawn0.refl _ | apply Drawn0.step)⟩
          replace c9 := Bool.eq_false_iff.mpr c9
          subst c9
          have H1 : (if a0 < 26 then (some 2) else (some 3)) = some r := by rw [if_neg (show ¬ (false = true) by decide)] at H; exact H
          clear H
          have H := H1
          clear H1
          by_cases c10 : a0 < 26
          · rw [if_pos c10] at H
            have c10b0 : decide (a0 < 26) = true := decide_eq_true c10
            clear c10
            obtain rfl := Option.some.inj H
            go_wp2
            go_ret
            exact ⟨by first | rfl | (simp; done) | (simp [*]; done), by repeat (first | exact Drawn0.refl _ | apply Drawn0.step)⟩
          rw [if_neg c10] at H
          have c10b0 : decide (a0 < 26) = false := decide_eq_false c10
          clear c10
          obtain rfl := Option.some.inj H
          go_wp2
          go_ret
          exact ⟨by first | rfl | (simp; done) | (simp [*]; done), by repeat (first | exact Drawn0.refl _ | apply Drawn0.step)⟩

/-! ### damaskref04_Word: function 22 -/
def damaskref04_Word.f (a0 : Int) : Option (Bool) := if a0 ≥ (-2147483648) then (some (decide (a0 ≤ 2147483647))) else (some false)
set_option maxHeartbeats 8000000 in
set_option maxRecDepth 100000 in
theorem damaskref04_Word.calls (a0 : Int) (r : Bool) (w : World) (h : damaskref04_Word.f a0 = some r) :
    Calls Try.prog 22 #[.int .i64 a0] w fun e w' => e = .returned (.bool r) ∧ Drawn0 w w' := by
  have H : (if a0 ≥ (-2147483648) then (some (decide (a0 ≤ 2147483647))) else (some false)) = some r := h
  clear h
  by_cases c2 : a0 ≥ (-2147483648)
  · rw [if_pos c2] at H
    have c2b0 : decide ((-2147483648) ≤ a0) = true := decide_eq_true c2
    clear c2
    obtain rfl := Option.some.inj H
    go_enter Try.func22, Try.ntmps22
    go_wp2
    go_ret
    exact ⟨by first | rfl | (simp; done) | (simp [*]; done), by repeat (first | exact Drawn0.refl _ | apply Drawn0.step)⟩
  rw [if_neg c2] at H
  have c2b0 : decide ((-2147483648) ≤ a0) = false := decide_eq_false c2
  clear c2
  obtain rfl := Option.some.inj H
  go_enter Try.func22, Try.ntmps22
  go_wp2
  go_ret
  exact ⟨by first | rfl | (simp; done) | (simp [*]; done), by repeat (first | exact Drawn0.refl _ | apply Drawn0.step)⟩

/-! ### damaskref04_Constants: function 20 -/
def damaskref04_Constants.j0 : Nat → Int → Int → Int → Bool → Option (Bool)
  | 0, _, _, _, _ => none
  | k + 1, x1, x2, x7, x8 => if x8 = true then (if x1 ≥ 0 then (some (decide (x1 < 32))) else (some false)) else (if x7 = 31 then (if x1 ≥ 0 then (some (decide (x1 ≤ 2147483647))) else (some false)) else (if x7 = 32 then ((damaskref04_Word.f x1).bind fun t127 => (some t127)) else (if x7 = 33 then (if x1 > 0 then (if x1 ≤ 4611686018427387904 then (if x2 ≥ 0 then (some (decide (x2 < 63))) else (some false)) else (some false)) else (some false)) else (some true))))
def damaskref04_Constants.f (k : Nat) (a0 : Int) (a1 : Int) (a2 : Int) : Option (Bool) := if a0 = 29 then (damaskref04_Constants.j0 k a1 a2 a0 (a0 == 29)) else (damaskref04_Constants.j0 k a1 a2 a0 (a0 == 30))
theorem damaskref04_Constants.mono_l : ∀ k, (∀ y0 y1 y2 y3, LeO (damaskref04_Constants.j0 k y0 y1 y2 y3) (damaskref04_Constants.j0 (k + 1) y0 y1 y2 y3))
  | 0 => fun _ _ _ _ r h => by simp [damaskref04_Constants.j0] at h
  | k + 1 => by
    have ih0 := damaskref04_Constants.mono_l k
    · intro y0 y1 y2 y3
      unfold damaskref04_Constants.j0
      repeat' first
      | (with_reducible exact ih0 _ _ _ _)
      | (with_reducible exact LeO.refl _)
      | (with_reducible exact LeO.none _)
      | (with_reducible refine LeO.ite ?_ ?_)
      | (with_reducible refine LeO.bind ?_ (fun _ => ?_))
      | exact ih0 _ _ _ _
      | exact LeO.none _
      | refine LeO.ite ?_ ?_
      | refine LeO.bind ?_ (fun _ => ?_)
theorem damaskref04_Constants.mono : ∀ a0 a1 a2 k, LeO (damaskref04_Constants.f k a0 a1 a2) (damaskref04_Constants.f (k + 1) a0 a1 a2) := by
  intro a0 a1 a2 k
  have ih0 := damaskref04_Constants.mono_l k
  unfold damaskref04_Constants.f
  repeat' first
      | (with_reducible exact ih0 _ _ _ _)
      | (with_reducible exact LeO.refl _)
      | (with_reducible exact LeO.none _)
      | (with_reducible refine LeO.ite ?_ ?_)
      | (with_reducible refine LeO.bind ?_ (fun _ => ?_))
      | exact ih0 _ _ _ _
      | exact LeO.none _
      | refine LeO.ite ?_ ?_
      | refine LeO.bind ?_ (fun _ => ?_)
set_option maxHeartbeats 8000000 in
set_option maxRecDepth 100000 in
theorem damaskref04_Constants.calls (k : Nat) (a0 : Int) (a1 : Int) (a2 : Int) (r : Bool) (w : World) (h : damaskref04_Constants.f k a0 a1 a2 = some r) :
    Calls Try.prog 20 #[.int .i64 a0, .int .i64 a1, .int .i64 a2] w fun e w' => e = .returned (.bool r) ∧ Drawn0 w w' := by
  have H : (if a0 = 29 then (damaskref04_Constants.j0 k a1 a2 a0 (a0 == 29)) else (damaskref04_Constants.j0 k a1 a2 a0 (a0 == 30))) = some r := h
  clear h
  have HC4 := Aside0.mk H
  clear H
  go_enter Try.func20, Try.ntmps20
  go_upto_if 8 with (fail)
  go_cut [8] (fun v8 wc => ∃ (kq : Nat) (x8_3 : Bool), v8 = .bool x8_3 ∧ Aside0 (damaskref04_Constants.j0 kq a1 a2 a0 x8_3 = some r) ∧ Aside0 (kq ≤ k) ∧ Drawn0 w wc)
  case first =>
    have H := HC4.out
    clear HC4
    by_cases c5 : a0 = 29
    · rw [if_pos c5] at H
      have c5b0 : (a0 == 29) = true := beq_iff_eq.mpr c5
      have c5b1 : (a0 != 29) = false := bne_eq_false_iff_eq.mpr c5
      clear c5
      (first | rw [c5b0] | (simp only [i64_w, i32_w]; rw [c5b0]) | skip)
      have H' := Aside0.mk H
      clear H
      go_wp2
      go_meet
      case rel => exact ⟨_, ((a0 == 29)), (by first | rfl | (simp; done) | (simp [*]; done)), H', ⟨by first | omega | exact Nat.le_refl _⟩, by repeat (first | exact Drawn0.refl _ | apply Drawn0.step)⟩
    rw [if_neg c5] at H
    have c5b0 : (a0 == 29) = false := beq_eq_false_iff_ne.mpr c5
    have c5b1 : (a0 != 29) = true := bne_iff_ne.mpr c5
    (first | rw [c5b0] | (simp only [i64_w, i32_w]; rw [c5b0]) | skip)
    have H' := Aside0.mk H
    clear H
    go_wp2
    go_meet
    case rel => exact ⟨_, ((a0 == 30)), (by first | rfl | (simp; done) | (simp [*]; done)), H', ⟨by first | omega | exact Nat.le_refl _⟩, by repeat (first | exact Drawn0.refl _ | apply Drawn0.step)⟩
  case rest =>
    clear HC4
    try clear c5
    try clear c5b0
    try clear c5b1
    obtain ⟨kq, x8_3, rfl, HA, HJ3, ⟨mc3, rfl⟩⟩ := hcut
    cases kq with
    | zero => exact absurd HA.out (by simp [damaskref04_Constants.j0])
    | succ kj3 =>
      have H := HA.out
      clear HA
      simp only [damaskref04_Constants.j0] at H
      by_cases c6 : x8_3 = true
      · subst c6
        have H1 : (if a1 ≥ 0 then (some (decide (a1 < 32))) else (some false)) = some r := by rw [if_pos rfl] at H; exact H
        clear H
        have H := H1
        clear H1
        by_cases c7 : a1 ≥ 0
        · rw [if_pos c7] at H
          have c7b0 : decide (0 ≤ a1) = true := decide_eq_true c7
          clear c7
          obtain rfl := Option.some.inj H
          go_wp2
          go_ret
          exact ⟨by first | rfl | (simp; done) | (simp [*]; done), by repeat (first | exact Drawn0.refl _ | apply Drawn0.step)⟩
        rw [if_neg c7] at H
        have c7b0 : decide (0 ≤ a1) = false := decide_eq_false c7
        clear c7
        obtain rfl := Option.some.inj H
        go_wp2
        go_ret
        exact ⟨by first | rfl | (simp; done) | (simp [*]; done), by repeat (first | exact Drawn0.refl _ | apply Drawn0.step)⟩
      replace c6 := Bool.eq_false_iff.mpr c6
      subst c6
      have H1 : (if a0 = 31 then (if a1 ≥ 0 then (some (decide (a1 ≤ 2147483647))) else (some false)) else (if a0 = 32 then ((damaskref04_Word.f a1).bind fun t127 => (some t127)) else (if a0 = 33 then (if a1 > 0 then (if a1 ≤ 4611686018427387904 then (if a2 ≥ 0 then (some (decide (a2 < 63))) else (some false)) else (some false)) else (some false)) else (some true)))) = some r := by rw [if_neg (show ¬ (false = true) by decide)] at H; exact H
      clear H
      have H := H1
      clear H1
      by_cases c8 : a0 = 31
      · rw [if_pos c8] at H
        have c8b0 : (a0 == 31) = true := beq_iff_eq.mpr c8
        have c8b1 : (a0 != 31) = false := bne_eq_false_iff_eq.mpr c8
        clear c8
        by_cases c9 : a1 ≥ 0
        · rw [if_pos c9] at H
          have c9b0 : decide (0 ≤ a1) = true := decide_eq_true c9
          clear c9
          obtain rfl := Option.some.inj H
          go_wp2
          go_ret
          exact ⟨by first | rfl | (simp; done) | (simp [*]; done), by repeat (first | exact Drawn0.refl _ | apply Drawn0.step)⟩
        rw [if_neg c9] at H
        have c9b0 : decide (0 ≤ a1) = false := decide_eq_false c9
        clear c9
        obtain rfl := Option.some.inj H
        go_wp2
        go_ret
        exact ⟨by first | rfl | (simp; done) | (simp [*]; done), by repeat (first | exact Drawn0.refl _ | apply Drawn0.step)⟩
      rw [if_neg c8] at H
      have c8b0 : (a0 == 31) = false := beq_eq_false_iff_ne.mpr c8
      have c8b1 : (a0 != 31) = true := bne_iff_ne.mpr c8
      by_cases c10 : a0 = 32
      · rw [if_pos c10] at H
        have c10b0 : (a0 == 32) = true := beq_iff_eq.mpr c10
        have c10b1 : (a0 != 32) = false := bne_eq_false_iff_eq.mpr c10
        clear c10
        replace H := Option.bind_eq_some_iff.mp H
        obtain ⟨t127, A110, H⟩ := H
        replace H : (some t127) = some r := H
        have A11 := Aside0.mk A110
        clear A110
        obtain rfl := Option.some.inj H
        go_wp2_with (first | ((with_reducible refine gate_callee (f := 22) rfl ?_); refine goesL_ (some 28) rfl rfl Try.func22 (by kernel_rfl) rfl #[.int .i64 a1] rfl (by (try simp only [List.map_toArray, List.map_cons, List.map_nil]); first | done | rfl | (simp only [List.length_drop, List.length_take]; rfl)) ?_; (with_reducible refine (damaskref04_Word.calls a1 t127 _ A11.out).mono ?_); rintro e w' ⟨rfl, ⟨nd, rfl⟩⟩; refine ⟨_, rfl, ?_⟩))
        go_ret
        exact ⟨by first | rfl | (simp; done) | (simp [*]; done), by repeat (first | exact Drawn0.refl _ | apply Drawn0.step)⟩
      rw [if_neg c10] at H
      have c10b0 : (a0 == 32) = false := beq_eq_false_iff_ne.mpr c10
      have c10b1 : (a0 != 32) = true := bne_iff_ne.mpr c10
      by_cases c12 : a0 = 33
      · rw [if_pos c12] at H
        have c12b0 : (a0 == 33) = true := beq_iff_eq.mpr c12
        have c12b1 : (a0 != 33) = false := bne_eq_false_iff_eq.mpr c12
        clear c12
        by_cases c13 : a1 > 0
        · rw [if_pos c13] at H
          have c13b0 : decide (0 < a1) = true := decide_eq_true c13
          clear c13
          by_cases c14 : a1 ≤ 4611686018427387904
          · rw [if_pos c14] at H
            have c14b0 : decide (a1 ≤ 4611686018427387904) = true := decide_eq_true c14
            clear c14
            by_cases c15 : a2 ≥ 0
            · rw [if_pos c15] at H
              have c15b0 : decide (0 ≤ a2) = true := decide_eq_true c15
              clear c15
              obtain rfl := Option.some.inj H
              go_wp2
              go_ret
              exact ⟨by first | rfl | (simp; done) | (simp [*]; done), by repeat (first | exact Drawn0.refl _ | apply Drawn0.step)⟩
            rw [if_neg c15] at H
            have c15b0 : decide (0 ≤ a2) = false := decide_eq_false c15
            clear c15
            obtain rfl := Option.some.inj H
            go_wp2
            go_ret
            exact ⟨by first | rfl | (simp; done) | (simp [*]; done), by repeat (first | exact Drawn0.refl _ | apply Drawn0.step)⟩
          rw [if_neg c14] at H
          have c14b0 : decide (a1 ≤ 4611686018427387904) = false := decide_eq_false c14
          clear c14
          obtain rfl := Option.some.inj H
          go_wp2
          go_ret
          exact ⟨by first | rfl | (simp; done) | (simp [*]; done), by repeat (first | exact Drawn0.refl _ | apply Drawn0.step)⟩
        rw [if_neg c13] at H
        have c13b0 : decide (0 < a1) = false := decide_eq_false c13
        clear c13
        obtain rfl := Option.some.inj H
        go_wp2
        go_ret
        exact ⟨by first | rfl | (simp; done) | (simp [*]; done), by repeat (first | exact Drawn0.refl _ | apply Drawn0.step)⟩
      rw [if_neg c12] at H
      have c12b0 : (a0 == 33) = false := beq_eq_false_iff_ne.mpr c12
      have c12b1 : (a0 != 33) = true := bne_iff_ne.mpr c12
      obtain rfl := Option.some.inj H
      go_wp2
      go_ret
      exact ⟨by first | rfl | (simp; done) | (simp [*]; done), by repeat (first | exact Drawn0.refl _ | apply Drawn0.step)⟩

/-! ### damaskref04_size: function 45 -/
def damaskref04_size.f (a0 : Int) : Option (Int) := if a0 < 0 then (some (wrap64 (-a0))) else (some a0)
set_option maxHeartbeats 8000000 in
set_option maxRecDepth 100000 in
theorem damaskref04_size.calls (a0 : Int) (r : Int) (w : World) (h : damaskref04_size.f a0 = some r) :
    Calls Try.prog 45 #[.int .i64 a0] w fun e w' => e = .returned (.int .i64 r) ∧ Drawn0 w w' := by
  have H : (if a0 < 0 then (some (wrap64 (-a0))) else (some a0)) = some r := h
  clear h
  by_cases c2 : a0 < 0
  · rw [if_pos c2] at H
    have c2b0 : decide (a0 < 0) = true := decide_eq_true c2
    clear c2
    obtain rfl := Option.some.inj H
    go_enter Try.func45, Try.ntmps45
    go_wp2
    go_ret
    exact ⟨by first | rfl | (simp; done) | (simp [*]; done), by repeat (first | exact Drawn0.refl _ | apply Drawn0.step)⟩
  rw [if_neg c2] at H
  have c2b0 : decide (a0 < 0) = false := decide_eq_false c2
  clear c2
  obtain rfl := Option.some.inj H
  go_enter Try.func45, Try.ntmps45
  go_wp2
  go_ret
  exact ⟨by first | rfl | (simp; done) | (simp [*]; done), by repeat (first | exact Drawn0.refl _ | apply Drawn0.step)⟩

/-! ### damaskref04_truth: function 46 -/
def damaskref04_truth.f (a0 : Bool) : Option (Int) := if a0 = true then (some 1) else (some 0)
set_option maxHeartbeats 8000000 in
set_option maxRecDepth 100000 in
theorem damaskref04_truth.calls (a0 : Bool) (r : Int) (w : World) (h : damaskref04_truth.f a0 = some r) :
    Calls Try.prog 46 #[.bool a0] w fun e w' => e = .returned (.int .i64 r) ∧ Drawn0 w w' := by
  have H : (if a0 = true then (some 1) else (some 0)) = some r := h
  clear h
  by_cases c2 : a0 = true
  · subst c2
    have H1 : (some 1) = some r := by rw [if_pos rfl] at H; exact H
    clear H
    have H := H1
    clear H1
    obtain rfl := Option.some.inj H
    go_enter Try.func46, Try.ntmps46
    go_wp2
    go_ret
    exact ⟨by first | rfl | (simp; done) | (simp [*]; done), by repeat (first | exact Drawn0.refl _ | apply Drawn0.step)⟩
  replace c2 := Bool.eq_false_iff.mpr c2
  subst c2
  have H1 : (some 0) = some r := by rw [if_neg (show ¬ (false = true) by decide)] at H; exact H
  clear H
  have H := H1
  clear H1
  obtain rfl := Option.some.inj H
  go_enter Try.func46, Try.ntmps46
  go_wp2
  go_ret
  exact ⟨by first | rfl | (simp; done) | (simp [*]; done), by repeat (first | exact Drawn0.refl _ | apply Drawn0.step)⟩

/-! ### damaskref04_divide: function 47 -/
def damaskref04_divide.f (a0 : Int) (a1 : Int) : Option (Int) := (damaskref04_size.f a0).bind fun t135 => ((damaskref04_size.f a1).bind fun t136 => (if t136 = 0 then (none) else (if a0 < 0 then (if a1 < 0 then (some (wrap64 (Int.tdiv t135 t136))) else (some (wrap64 (-(wrap64 (Int.tdiv t135 t136)))))) else (if a1 < 0 then (some (wrap64 (-(wrap64 (Int.tdiv t135 t136))))) else (some (wrap64 (Int.tdiv t135 t136)))))))
set_option maxHeartbeats 8000000 in
set_option maxRecDepth 100000 in
theorem damaskref04_divide.calls (a0 : Int) (a1 : Int) (r : Int) (w : World) (h : damaskref04_divide.f a0 a1 = some r) :
    Calls Try.prog 47 #[.int .i64 a0, .int .i64 a1] w fun e w' => e = .returned (.int .i64 r) ∧ Drawn0 w w' := by
  have H : ((damaskref04_size.f a0).bind fun t135 => ((damaskref04_size.f a1).bind fun t136 => (if t136 = 0 then (none) else (if a0 < 0 then (if a1 < 0 then (some (wrap64 (Int.tdiv t135 t136))) else (some (wrap64 (-(wrap64 (Int.tdiv t135 t136)))))) else (if a1 < 0 then (some (wrap64 (-(wrap64 (Int.tdiv t135 t136))))) else (some (wrap64 (Int.tdiv t135 t136)))))))) = some r := h
  clear h
  replace H := Option.bind_eq_some_iff.mp H
  obtain ⟨t135, A30, H⟩ := H
  replace H : ((damaskref04_size.f a1).bind fun t136 => (if t136 = 0 then (none) else (if a0 < 0 then (if a1 < 0 then (some (wrap64 (Int.tdiv t135 t136))) else (some (wrap64 (-(wrap64 (Int.tdiv t135 t136)))))) else (if a1 < 0 then (some (wrap64 (-(wrap64 (Int.tdiv t135 t136))))) else (some (wrap64 (Int.tdiv t135 t136))))))) = some r := H
  have A3 := Aside0.mk A30
  clear A30
  replace H := Option.bind_eq_some_iff.mp H
  obtain ⟨t136, A40, H⟩ := H
  replace H : (if t136 = 0 then (none) else (if a0 < 0 then (if a1 < 0 then (some (wrap64 (Int.tdiv t135 t136))) else (some (wrap64 (-(wrap64 (Int.tdiv t135 t136)))))) else (if a1 < 0 then (some (wrap64 (-(wrap64 (Int.tdiv t135 t136))))) else (some (wrap64 (Int.tdiv t135 t136)))))) = some r := H
  have A4 := Aside0.mk A40
  clear A40
  by_cases c5 : t136 = 0
  · rw [if_pos c5] at H
    exact absurd H (by simp)
  rw [if_neg c5] at H
  have c5b0 : (t136 == 0) = false := beq_eq_false_iff_ne.mpr c5
  have c5b1 : (t136 != 0) = true := bne_iff_ne.mpr c5
  by_cases c6 : a0 < 0
  · rw [if_pos c6] at H
    have c6b0 : decide (a0 < 0) = true := decide_eq_true c6
    clear c6
    by_cases c7 : a1 < 0
    · rw [if_pos c7] at H
      have c7b0 : decide (a1 < 0) = true := decide_eq_true c7
      clear c7
      obtain rfl := Option.some.inj H
      go_enter Try.func47, Try.ntmps47
      go_wp2_with (first | ((with_reducible refine gate_callee (f := 45) rfl ?_); refine goesL_ (some 7) rfl rfl Try.func45 (by kernel_rfl) rfl #[.int .i64 a0] rfl (by (try simp only [List.map_toArray, List.map_cons, List.map_nil]); first | done | rfl | (simp only [List.length_drop, List.length_take]; rfl)) ?_; (with_reducible refine (damaskref04_size.calls a0 t135 _ A3.out).mono ?_); rintro e w' ⟨rfl, ⟨nd, rfl⟩⟩; refine ⟨_, rfl, ?_⟩) | ((with_reducible refine gate_callee (f := 45) rfl ?_); refine goesL_ (some 9) rfl rfl Try.func45 (by kernel_rfl) rfl #[.int .i64 a1] rfl (by (try simp only [List.map_toArray, List.map_cons, List.map_nil]); first | done | rfl | (simp only [List.length_drop, List.length_take]; rfl)) ?_; (with_reducible refine (damaskref04_size.calls a1 t136 _ A4.out).mono ?_); rintro e w' ⟨rfl, ⟨nd, rfl⟩⟩; refine ⟨_, rfl, ?_⟩))
      go_ret
      exact ⟨by first | rfl | (simp; done) | (simp [*]; done), by repeat (first | exact Drawn0.refl _ | apply Drawn0.step)⟩
    rw [if_neg c7] at H
    have c7b0 : decide (a1 < 0) = false := decide_eq_false c7
    clear c7
    obtain rfl := Option.some.inj H
    go_enter Try.func47, Try.ntmps47
    go_wp2_with (first | ((with_reducible refine gate_callee (f := 45) rfl ?_); refine goesL_ (some 7) rfl rfl Try.func45 (by kernel_rfl) rfl #[.int .i64 a0] rfl (by (try simp only [List.map_toArray, List.map_cons, List.map_nil]); first | done | rfl | (simp only [List.length_drop, List.length_take]; rfl)) ?_; (with_reducible refine (damaskref04_size.calls a0 t135 _ A3.out).mono ?_); rintro e w' ⟨rfl, ⟨nd, rfl⟩⟩; refine ⟨_, rfl, ?_⟩) | ((with_reducible refine gate_callee (f := 45) rfl ?_); refine goesL_ (some 9) rfl rfl Try.func45 (by kernel_rfl) rfl #[.int .i64 a1] rfl (by (try simp only [List.map_toArray, List.map_cons, List.map_nil]); first | done | rfl | (simp only [List.length_drop, List.length_take]; rfl)) ?_; (with_reducible refine (damaskref04_size.calls a1 t136 _ A4.out).mono ?_); rintro e w' ⟨rfl, ⟨nd, rfl⟩⟩; refine ⟨_, rfl, ?_⟩))
    go_ret
    exact ⟨by first | rfl | (simp; done) | (simp [*]; done), by repeat (first | exact Drawn0.refl _ | apply Drawn0.step)⟩
  rw [if_neg c6] at H
  have c6b0 : decide (a0 < 0) = false := decide_eq_false c6
  clear c6
  by_cases c8 : a1 < 0
  · rw [if_pos c8] at H
    have c8b0 : decide (a1 < 0) = true := decide_eq_true c8
    clear c8
    obtain rfl := Option.some.inj H
    go_enter Try.func47, Try.ntmps47
    go_wp2_with (first | ((with_reducible refine gate_callee (f := 45) rfl ?_); refine goesL_ (some 7) rfl rfl Try.func45 (by kernel_rfl) rfl #[.int .i64 a0] rfl (by (try simp only [List.map_toArray, List.map_cons, List.map_nil]); first | done | rfl | (simp only [List.length_drop, List.length_take]; rfl)) ?_; (with_reducible refine (damaskref04_size.calls a0 t135 _ A3.out).mono ?_); rintro e w' ⟨rfl, ⟨nd, rfl⟩⟩; refine ⟨_, rfl, ?_⟩) | ((with_reducible refine gate_callee (f := 45) rfl ?_); refine goesL_ (some 9) rfl rfl Try.func45 (by kernel_rfl) rfl #[.int .i64 a1] rfl (by (try simp only [List.map_toArray, List.map_cons, List.map_nil]); first | done | rfl | (simp only [List.length_drop, List.length_take]; rfl)) ?_; (with_reducible refine (damaskref04_size.calls a1 t136 _ A4.out).mono ?_); rintro e w' ⟨rfl, ⟨nd, rfl⟩⟩; refine ⟨_, rfl, ?_⟩))
    go_ret
    exact ⟨by first | rfl | (simp; done) | (simp [*]; done), by repeat (first | exact Drawn0.refl _ | apply Drawn0.step)⟩
  rw [if_neg c8] at H
  have c8b0 : decide (a1 < 0) = false := decide_eq_false c8
  clear c8
  obtain rfl := Option.some.inj H
  go_enter Try.func47, Try.ntmps47
  go_wp2_with (first | ((with_reducible refine gate_callee (f := 45) rfl ?_); refine goesL_ (some 7) rfl rfl Try.func45 (by kernel_rfl) rfl #[.int .i64 a0] rfl (by (try simp only [List.map_toArray, List.map_cons, List.map_nil]); first | done | rfl | (simp only [List.length_drop, List.length_take]; rfl)) ?_; (with_reducible refine (damaskref04_size.calls a0 t135 _ A3.out).mono ?_); rintro e w' ⟨rfl, ⟨nd, rfl⟩⟩; refine ⟨_, rfl, ?_⟩) | ((with_reducible refine gate_callee (f := 45) rfl ?_); refine goesL_ (some 9) rfl rfl Try.func45 (by kernel_rfl) rfl #[.int .i64 a1] rfl (by (try simp only [List.map_toArray, List.map_cons, List.map_nil]); first | done | rfl | (simp only [List.length_drop, List.length_take]; rfl)) ?_; (with_reducible refine (damaskref04_size.calls a1 t136 _ A4.out).mono ?_); rintro e w' ⟨rfl, ⟨nd, rfl⟩⟩; refine ⟨_, rfl, ?_⟩))
  go_ret
  exact ⟨by first | rfl | (simp; done) | (simp [*]; done), by repeat (first | exact Drawn0.refl _ | apply Drawn0.step)⟩

/-! ### damaskref04_Power: function 48 -/
def damaskref04_Power.l0 : Nat → Int → Int → Int → Option (Int)
  | 0, _, _, _ => none
  | k + 1, x0, x3, x4 => if x4 < x0 then (damaskref04_Power.l0 k x0 (wrap64 (2 * x3)) (wrap64 (x4 + 1))) else (some x3)
def damaskref04_Power.f (k : Nat) (a0 : Int) : Option (Int) := damaskref04_Power.l0 k a0 1 0
theorem damaskref04_Power.mono_l : ∀ k, (∀ y0 y1 y2, LeO (damaskref04_Power.l0 k y0 y1 y2) (damaskref04_Power.l0 (k + 1) y0 y1 y2))
  | 0 => fun _ _ _ r h => by simp [damaskref04_Power.l0] at h
  | k + 1 => by
    have ih0 := damaskref04_Power.mono_l k
    · intro y0 y1 y2
      unfold damaskref04_Power.l0
      repeat' first
      | (with_reducible exact ih0 _ _ _)
      | (with_reducible exact LeO.refl _)
      | (with_reducible exact LeO.none _)
      | (with_reducible refine LeO.ite ?_ ?_)
      | (with_reducible refine LeO.bind ?_ (fun _ => ?_))
      | exact ih0 _ _ _
      | exact LeO.none _
      | refine LeO.ite ?_ ?_
      | refine LeO.bind ?_ (fun _ => ?_)
theorem damaskref04_Power.mono : ∀ a0 k, LeO (damaskref04_Power.f k a0) (damaskref04_Power.f (k + 1) a0) := by
  intro a0 k
  have ih0 := damaskref04_Power.mono_l k
  unfold damaskref04_Power.f
  repeat' first
      | (with_reducible exact ih0 _ _ _)
      | (with_reducible exact LeO.refl _)
      | (with_reducible exact LeO.none _)
      | (with_reducible refine LeO.ite ?_ ?_)
      | (with_reducible refine LeO.bind ?_ (fun _ => ?_))
      | exact ih0 _ _ _
      | exact LeO.none _
      | refine LeO.ite ?_ ?_
      | refine LeO.bind ?_ (fun _ => ?_)
set_option maxHeartbeats 8000000 in
set_option maxRecDepth 100000 in
theorem damaskref04_Power.calls (k : Nat) (a0 : Int) (r : Int) (w : World) (h : damaskref04_Power.f k a0 = some r) :
    Calls Try.prog 48 #[.int .i64 a0] w fun e w' => e = .returned (.int .i64 r) ∧ Drawn0 w w' := by
  have H : (damaskref04_Power.l0 k a0 1 0) = some r := h
  clear h
  have H' := Aside0.mk H
  clear H
  go_enter Try.func48, Try.ntmps48
  go_wp2
  go_loopg [3, 4] k (fun kq v3 v4 w' => ∃ (x3_1 : Int) (x4_1 : Int), v3 = .int .i64 x3_1 ∧ v4 = .int .i64 x4_1 ∧ Aside0 (damaskref04_Power.l0 kq a0 x3_1 x4_1 = some r) ∧ Aside0 (kq ≤ k) ∧ Drawn0 w w')
  case atStart => exact ⟨(1), (0), (by first | rfl | (simp; done) | (simp [*]; done)), (by first | rfl | (simp; done) | (simp [*]; done)), H', ⟨Nat.le_refl _⟩, by repeat (first | exact Drawn0.refl _ | apply Drawn0.step)⟩
  case round =>
    clear H'
    obtain ⟨x3_1, x4_1, rfl, rfl, HA, HK1, ⟨m1, rfl⟩⟩ := hrel
    cases gk with
    | zero => exact absurd HA.out (by simp [damaskref04_Power.l0])
    | succ k1 =>
      have H := HA.out
      clear HA
      simp only [damaskref04_Power.l0] at H
      by_cases c2 : x4_1 < a0
      · rw [if_pos c2] at H
        have c2b0 : decide (x4_1 < a0) = true := decide_eq_true c2
        clear c2
        have H' := Aside0.mk H
        clear H
        go_wp2
        go_roundg k1
        case measure => have := HK1.out; omega
        case rel => exact ⟨(wrap64 (2 * x3_1)), (wrap64 (x4_1 + 1)), (by first | rfl | (simp; done) | (simp [*]; done)), (by first | rfl | (simp; done) | (simp [*]; done)), H', ⟨by have := HK1.out; omega⟩, by repeat (first | exact Drawn0.refl _ | apply Drawn0.step)⟩
      rw [if_neg c2] at H
      have c2b0 : decide (x4_1 < a0) = false := decide_eq_false c2
      clear c2
      obtain rfl := Option.some.inj H
      go_wp2
      go_ret
      exact ⟨by first | rfl | (simp; done) | (simp [*]; done), by repeat (first | exact Drawn0.refl _ | apply Drawn0.step)⟩

/-! ### damaskref04_Floor: function 49 -/
def damaskref04_Floor.f (a0 : Int) (a1 : Int) : Option (Int) := if a0 < 0 then (if a1 = 0 then (none) else (some (wrap64 (-(wrap64 (Int.tdiv (wrap64 ((wrap64 ((wrap64 (-a0)) + a1)) - 1)) a1)))))) else (if a1 = 0 then (none) else (some (wrap64 (Int.tdiv a0 a1))))
set_option maxHeartbeats 8000000 in
set_option maxRecDepth 100000 in
theorem damaskref04_Floor.calls (a0 : Int) (a1 : Int) (r : Int) (w : World) (h : damaskref04_Floor.f a0 a1 = some r) :
    Calls Try.prog 49 #[.int .i64 a0, .int .i64 a1] w fun e w' => e = .returned (.int .i64 r) ∧ Drawn0 w w' := by
  have H : (if a0 < 0 then (if a1 = 0 then (none) else (some (wrap64 (-(wrap64 (Int.tdiv (wrap64 ((wrap64 ((wrap64 (-a0)) + a1)) - 1)) a1)))))) else (if a1 = 0 then (none) else (some (wrap64 (Int.tdiv a0 a1))))) = some r := h
  clear h
  by_cases c3 : a0 < 0
  · rw [if_pos c3] at H
    have c3b0 : decide (a0 < 0) = true := decide_eq_true c3
    clear c3
    by_cases c4 : a1 = 0
    · rw [if_pos c4] at H
      exact absurd H (by simp)
    rw [if_neg c4] at H
    have c4b0 : (a1 == 0) = false := beq_eq_false_iff_ne.mpr c4
    have c4b1 : (a1 != 0) = true := bne_iff_ne.mpr c4
    obtain rfl := Option.some.inj H
    go_enter Try.func49, Try.ntmps49
    go_wp2
    go_ret
    exact ⟨by first | rfl | (simp; done) | (simp [*]; done), by repeat (first | exact Drawn0.refl _ | apply Drawn0.step)⟩
  rw [if_neg c3] at H
  have c3b0 : decide (a0 < 0) = false := decide_eq_false c3
  clear c3
  by_cases c5 : a1 = 0
  · rw [if_pos c5] at H
    exact absurd H (by simp)
  rw [if_neg c5] at H
  have c5b0 : (a1 == 0) = false := beq_eq_false_iff_ne.mpr c5
  have c5b1 : (a1 != 0) = true := bne_iff_ne.mpr c5
  obtain rfl := Option.some.inj H
  go_enter Try.func49, Try.ntmps49
  go_wp2
  go_ret
  exact ⟨by first | rfl | (simp; done) | (simp [*]; done), by repeat (first | exact Drawn0.refl _ | apply Drawn0.step)⟩

end Go.Proofs.Ytpnldhimlpilhaa.F
