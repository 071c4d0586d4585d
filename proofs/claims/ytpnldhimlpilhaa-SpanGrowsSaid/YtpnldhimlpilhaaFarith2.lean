/- Written by wip/myprint.py of this session, out of Lean's print of the program: what Go functions come to, and that their calls come to it; no condition. -/
import Derived.Test.YtpnldhimlpilhaaF0
namespace Go.Proofs.Ytpnldhimlpilhaa.F
open Go.RowKit Go.Proofs.YtpnldhimlpilhaaW.PrintWords Go.Proofs.YtpnldhimlpilhaaW.PrintLast Go.Proofs.YtpnldhimlpilhaaW.PrintMore Go.Proofs.YtpnldhimlpilhaaW
attribute [local go_sem] max2_int min2_int max_two min_two max_three min_three max_four min_four   -- for this text's walks alone
set_option linter.unusedVariables false
set_option linter.unusedSimpArgs false

/-! ### arith_compared: function 44 -/
def arith_compared.f (a0 : Int) (a1 : Int) (a2 : Int) : Option (Int) := if a0 = 18 then (if a1 < a2 then (some 1) else (some 0)) else (if a0 = 19 then (if a1 ≤ a2 then (some 1) else (some 0)) else (if a0 = 20 then (if a1 > a2 then (some 1) else (some 0)) else (if a0 = 21 then (if a1 ≥ a2 then (some 1) else (some 0)) else (if a0 = 22 then (if a1 = a2 then (some 1) else (some 0)) else (if a0 = 23 then (if a1 = a2 then (some 0) else (some 1)) else (some 0))))))
set_option maxHeartbeats 8000000 in
set_option maxRecDepth 100000 in
theorem arith_compared.calls (a0 : Int) (a1 : Int) (a2 : Int) (r : Int) (w : World) (h : arith_compared.f a0 a1 a2 = some r) :
    Calls Try.prog 44 #[.int .i64 a0, .int .i64 a1, .int .i64 a2] w fun e w' => e = .returned (.int .i64 r) ∧ Drawn0 w w' := by
  have H : (if a0 = 18 then (if a1 < a2 then (some 1) else (some 0)) else (if a0 = 19 then (if a1 ≤ a2 then (some 1) else (some 0)) else (if a0 = 20 then (if a1 > a2 then (some 1) else (some 0)) else (if a0 = 21 then (if a1 ≥ a2 then (some 1) else (some 0)) else (if a0 = 22 then (if a1 = a2 then (some 1) else (some 0)) else (if a0 = 23 then (if a1 = a2 then (some 0) else (some 1)) else (some 0))))))) = some r := h
  clear h
  by_cases c4 : a0 = 18
  · rw [if_pos c4] at H
    have c4b0 : (a0 == 18) = true := beq_iff_eq.mpr c4
    have c4b1 : (a0 != 18) = false := bne_eq_false_iff_eq.mpr c4
    clear c4
    by_cases c5 : a1 < a2
    · rw [if_pos c5] at H
      have c5b0 : decide (a1 < a2) = true := decide_eq_true c5
      clear c5
      obtain rfl := Option.some.inj H
      go_enter Try.func44, Try.ntmps44
      go_wp2
      go_ret
      exact ⟨by first | rfl | (simp; done) | (simp [*]; done), by repeat (first | exact Drawn0.refl _ | apply Drawn0.step)⟩
    rw [if_neg c5] at H
    have c5b0 : decide (a1 < a2) = false := decide_eq_false c5
    clear c5
    obtain rfl := Option.some.inj H
    go_enter Try.func44, Try.ntmps44
    go_wp2
    go_ret
    exact ⟨by first | rfl | (simp; done) | (simp [*]; done), by repeat (first | exact Drawn0.refl _ | apply Drawn0.step)⟩
  rw [if_neg c4] at H
  have c4b0 : (a0 == 18) = false := beq_eq_false_iff_ne.mpr c4
  have c4b1 : (a0 != 18) = true := bne_iff_ne.mpr c4
  by_cases c6 : a0 = 19
  · rw [if_pos c6] at H
    have c6b0 : (a0 == 19) = true := beq_iff_eq.mpr c6
    have c6b1 : (a0 != 19) = false := bne_eq_false_iff_eq.mpr c6
    clear c6
    by_cases c7 : a1 ≤ a2
    · rw [if_pos c7] at H
      have c7b0 : decide (a1 ≤ a2) = true := decide_eq_true c7
      clear c7
      obtain rfl := Option.some.inj H
      go_enter Try.func44, Try.ntmps44
      go_wp2
      go_ret
      exact ⟨by first | rfl | (simp; done) | (simp [*]; done), by repeat (first | exact Drawn0.refl _ | apply Drawn0.step)⟩
    rw [if_neg c7] at H
    have c7b0 : decide (a1 ≤ a2) = false := decide_eq_false c7
    clear c7
    obtain rfl := Option.some.inj H
    go_enter Try.func44, Try.ntmps44
    go_wp2
    go_ret
    exact ⟨by first | rfl | (simp; done) | (simp [*]; done), by repeat (first | exact Drawn0.refl _ | apply Drawn0.step)⟩
  rw [if_neg c6] at H
  have c6b0 : (a0 == 19) = false := beq_eq_false_iff_ne.mpr c6
  have c6b1 : (a0 != 19) = true := bne_iff_ne.mpr c6
  by_cases c8 : a0 = 20
  · rw [if_pos c8] at H
    have c8b0 : (a0 == 20) = true := beq_iff_eq.mpr c8
    have c8b1 : (a0 != 20) = false := bne_eq_false_iff_eq.mpr c8
    clear c8
    by_cases c9 : a1 > a2
    · rw [if_pos c9] at H
      have c9b0 : decide (a2 < a1) = true := decide_eq_true c9
      clear c9
      obtain rfl := Option.some.inj H
      go_enter Try.func44, Try.ntmps44
      go_wp2
      go_ret
      exact ⟨by first | rfl | (simp; done) | (simp [*]; done), by repeat (first | exact Drawn0.refl _ | apply Drawn0.step)⟩
    rw [if_neg c9] at H
    have c9b0 : decide (a2 < a1) = false := decide_eq_false c9
    clear c9
    obtain rfl := Option.some.inj H
    go_enter Try.func44, Try.ntmps44
    go_wp2
    go_ret
    exact ⟨by first | rfl | (simp; done) | (simp [*]; done), by repeat (first | exact Drawn0.refl _ | apply Drawn0.step)⟩
  rw [if_neg c8] at H
  have c8b0 : (a0 == 20) = false := beq_eq_false_iff_ne.mpr c8
  have c8b1 : (a0 != 20) = true := bne_iff_ne.mpr c8
  by_cases c10 : a0 = 21
  · rw [if_pos c10] at H
    have c10b0 : (a0 == 21) = true := beq_iff_eq.mpr c10
    have c10b1 : (a0 != 21) = false := bne_eq_false_iff_eq.mpr c10
    clear c10
    by_cases c11 : a1 ≥ a2
    · rw [if_pos c11] at H
      have c11b0 : decide (a2 ≤ a1) = true := decide_eq_true c11
      clear c11
      obtain rfl := Option.some.inj H
      go_enter Try.func44, Try.ntmps44
      go_wp2
      go_ret
      exact ⟨by first | rfl | (simp; done) | (simp [*]; done), by repeat (first | exact Drawn0.refl _ | apply Drawn0.step)⟩
    rw [if_neg c11] at H
    have c11b0 : decide (a2 ≤ a1) = false := decide_eq_false c11
    clear c11
    obtain rfl := Option.some.inj H
    go_enter Try.func44, Try.ntmps44
    go_wp2
    go_ret
    exact ⟨by first | rfl | (simp; done) | (simp [*]; done), by repeat (first | exact Drawn0.refl _ | apply Drawn0.step)⟩
  rw [if_neg c10] at H
  have c10b0 : (a0 == 21) = false := beq_eq_false_iff_ne.mpr c10
  have c10b1 : (a0 != 21) = true := bne_iff_ne.mpr c10
  by_cases c12 : a0 = 22
  · rw [if_pos c12] at H
    have c12b0 : (a0 == 22) = true := beq_iff_eq.mpr c12
    have c12b1 : (a0 != 22) = false := bne_eq_false_iff_eq.mpr c12
    clear c12
    by_cases c13 : a1 = a2
    · rw [if_pos c13] at H
      have c13b0 : (a1 == a2) = true := beq_iff_eq.mpr c13
      have c13b1 : (a1 != a2) = false := bne_eq_false_iff_eq.mpr c13
      clear c13
      obtain rfl := Option.some.inj H
      go_enter Try.func44, Try.ntmps44
      go_wp2
      go_ret
      exact ⟨by first | rfl | (simp; done) | (simp [*]; done), by repeat (first | exact Drawn0.refl _ | apply Drawn0.step)⟩
    rw [if_neg c13] at H
    have c13b0 : (a1 == a2) = false := beq_eq_false_iff_ne.mpr c13
    have c13b1 : (a1 != a2) = true := bne_iff_ne.mpr c13
    obtain rfl := Option.some.inj H
    go_enter Try.func44, Try.ntmps44
    go_wp2
    go_ret
    exact ⟨by first | rfl | (simp; done) | (simp [*]; done), by repeat (first | exact Drawn0.refl _ | apply Drawn0.step)⟩
  rw [if_neg c12] at H
  have c12b0 : (a0 == 22) = false := beq_eq_false_iff_ne.mpr c12
  have c12b1 : (a0 != 22) = true := bne_iff_ne.mpr c12
  by_cases c14 : a0 = 23
  · rw [if_pos c14] at H
    have c14b0 : (a0 == 23) = true := beq_iff_eq.mpr c14
    have c14b1 : (a0 != 23) = false := bne_eq_false_iff_eq.mpr c14
    clear c14
    by_cases c15 : a1 = a2
    · rw [if_pos c15] at H
      have c15b0 : (a1 == a2) = true := beq_iff_eq.mpr c15
      have c15b1 : (a1 != a2) = false := bne_eq_false_iff_eq.mpr c15
      clear c15
      obtain rfl := Option.some.inj H
      go_enter Try.func44, Try.ntmps44
      go_wp2
      go_ret
      exact ⟨by first | rfl | (simp; done) | (simp [*]; done), by repeat (first | exact Drawn0.refl _ | apply Drawn0.step)⟩
    rw [if_neg c15] at H
    have c15b0 : (a1 == a2) = false := beq_eq_false_iff_ne.mpr c15
    have c15b1 : (a1 != a2) = true := bne_iff_ne.mpr c15
    obtain rfl := Option.some.inj H
    go_enter Try.func44, Try.ntmps44
    go_wp2
    go_ret
    exact ⟨by first | rfl | (simp; done) | (simp [*]; done), by repeat (first | exact Drawn0.refl _ | apply Drawn0.step)⟩
  rw [if_neg c14] at H
  have c14b0 : (a0 == 23) = false := beq_eq_false_iff_ne.mpr c14
  have c14b1 : (a0 != 23) = true := bne_iff_ne.mpr c14
  obtain rfl := Option.some.inj H
  go_enter Try.func44, Try.ntmps44
  go_wp2
  go_ret
  exact ⟨by first | rfl | (simp; done) | (simp [*]; done), by repeat (first | exact Drawn0.refl _ | apply Drawn0.step)⟩

/-! ### arith_two: function 37 -/
mutual
def arith_two.j0 : Nat → Int → Int → Int → Int → Bool → Option (Int × Int)
  | 0, _, _, _, _, _ => none
  | k + 1, x0, x1, x2, x8, x9 => if x9 = true then (if x2 = 0 then (some (0, 12)) else (if x0 = 12 then (some (Int.tmod x1 x2, 0)) else (some (wrap64 (Int.tdiv x1 x2), 0)))) else (if x8 = 13 then (arith_two.j1 k x0 x1 x2 x8 (x8 == 13)) else (arith_two.j1 k x0 x1 x2 x8 (x8 == 14)))
def arith_two.j1 : Nat → Int → Int → Int → Int → Bool → Option (Int × Int)
  | 0, _, _, _, _, _ => none
  | k + 1, x0, x1, x2, x8, x22 => if x22 = true then (if x2 < 0 then (arith_two.j2 k x0 x1 x2 true) else (arith_two.j2 k x0 x1 x2 (decide (x2 > 31)))) else (if x8 = 8 then (some (wrap64 (x1 + x2), 0)) else (if x8 = 9 then (some (wrap64 (x1 - x2), 0)) else (if x8 = 10 then (some (wrap64 (x1 * x2), 0)) else (if x8 = 15 then (some (Go.bits .and .i64 x1 x2, 0)) else (if x8 = 16 then (some (Go.bits .or .i64 x1 x2, 0)) else (if x8 = 17 then (some (Go.bits .xor .i64 x1 x2, 0)) else (if x8 = 24 then (some (mn x1 x2, 0)) else (if x8 = 25 then (some (mx x1 x2, 0)) else ((arith_compared.f x0 x1 x2).bind fun t103 => (some (t103, 0)))))))))))
def arith_two.j2 : Nat → Int → Int → Int → Bool → Option (Int × Int)
  | 0, _, _, _, _ => none
  | k + 1, x0, x1, x2, x30 => if x30 = true then (some (0, 13)) else (if x0 = 14 then (if 0 ≤ x2 then (some (shr .i64 x1 x2, 0)) else (none)) else (if 0 ≤ x2 then (some (shl .i64 x1 x2, 0)) else (none)))
end
def arith_two.f (k : Nat) (a0 : Int) (a1 : Int) (a2 : Int) : Option (Int × Int) := if a0 = 11 then (arith_two.j0 k a0 a1 a2 a0 (a0 == 11)) else (arith_two.j0 k a0 a1 a2 a0 (a0 == 12))
theorem arith_two.mono_l : ∀ k, (∀ y0 y1 y2 y3 y4, LeO (arith_two.j0 k y0 y1 y2 y3 y4) (arith_two.j0 (k + 1) y0 y1 y2 y3 y4)) ∧ (∀ y0 y1 y2 y3 y4, LeO (arith_two.j1 k y0 y1 y2 y3 y4) (arith_two.j1 (k + 1) y0 y1 y2 y3 y4)) ∧ (∀ y0 y1 y2 y3, LeO (arith_two.j2 k y0 y1 y2 y3) (arith_two.j2 (k + 1) y0 y1 y2 y3))
  | 0 => ⟨fun _ _ _ _ _ r h => by simp [arith_two.j0] at h, fun _ _ _ _ _ r h => by simp [arith_two.j1] at h, fun _ _ _ _ r h => by simp [arith_two.j2] at h⟩
  | k + 1 => by
    obtain ⟨ih0, ih1, ih2⟩ := arith_two.mono_l k
    refine ⟨?_, ?_, ?_⟩
    · intro y0 y1 y2 y3 y4
      unfold arith_two.j0
      repeat' first
      | (with_reducible exact ih0 _ _ _ _ _)
      | (with_reducible exact ih1 _ _ _ _ _)
      | (with_reducible exact ih2 _ _ _ _)
      | (with_reducible exact LeO.refl _)
      | (with_reducible exact LeO.none _)
      | (with_reducible refine LeO.ite ?_ ?_)
      | (with_reducible refine LeO.bind ?_ (fun _ => ?_))
      | exact ih0 _ _ _ _ _
      | exact ih1 _ _ _ _ _
      | exact ih2 _ _ _ _
      | exact LeO.none _
      | refine LeO.ite ?_ ?_
      | refine LeO.bind ?_ (fun _ => ?_)
    · intro y0 y1 y2 y3 y4
      unfold arith_two.j1
      repeat' first
      | (with_reducible exact ih0 _ _ _ _ _)
      | (with_reducible exact ih1 _ _ _ _ _)
      | (with_reducible exact ih2 _ _ _ _)
      | (with_reducible exact LeO.refl _)
      | (with_reducible exact LeO.none _)
      | (with_reducible refine LeO.ite ?_ ?_)
      | (with_reducible refine LeO.bind ?_ (fun _ => ?_))
      | exact ih0 _ _ _ _ _
      | exact ih1 _ _ _ _ _
      | exact ih2 _ _ _ _
      | exact LeO.none _
      | refine LeO.ite ?_ ?_
      | refine LeO.bind ?_ (fun _ => ?_)
    · intro y0 y1 y2 y3
      unfold arith_two.j2
      repeat' first
      | (with_reducible exact ih0 _ _ _ _ _)
      | (with_reducible exact ih1 _ _ _ _ _)
      | (with_reducible exact ih2 _ _ _ _)
      | (with_reducible exact LeO.refl _)
      | (with_reducible exact LeO.none _)
      | (with_reducible refine LeO.ite ?_ ?_)
      | (with_reducible refine LeO.bind ?_ (fun _ => ?_))
      | exact ih0 _ _ _ _ _
      | exact ih1 _ _ _ _ _
      | exact ih2 _ _ _ _
      | exact LeO.none _
      | refine LeO.ite ?_ ?_
      | refine LeO.bind ?_ (fun _ => ?_)
theorem arith_two.mono : ∀ a0 a1 a2 k, LeO (arith_two.f k a0 a1 a2) (arith_two.f (k + 1) a0 a1 a2) := by
  intro a0 a1 a2 k
  obtain ⟨ih0, ih1, ih2⟩ := arith_two.mono_l k
  unfold arith_two.f
  repeat' first
      | (with_reducible exact ih0 _ _ _ _ _)
      | (with_reducible exact ih1 _ _ _ _ _)
      | (with_reducible exact ih2 _ _ _ _)
      | (with_reducible exact LeO.refl _)
      | (with_reducible exact LeO.none _)
      | (with_reducible refine LeO.ite ?_ ?_)
      | (with_reducible refine LeO.bind ?_ (fun _ => ?_))
      | exact ih0 _ _ _ _ _
      | exact ih1 _ _ _ _ _
      | exact ih2 _ _ _ _
      | exact LeO.none _
      | refine LeO.ite ?_ ?_
      | refine LeO.bind ?_ (fun _ => ?_)
set_option maxHeartbeats 8000000 in
set_option maxRecDepth 100000 in
theorem arith_two.calls (k : Nat) (a0 : Int) (a1 : Int) (a2 : Int) (r1 : Int) (r2 : Int) (w : World) (h : arith_two.f k a0 a1 a2 = some (r1, r2)) :
    Calls Try.prog 37 #[.int .i64 a0, .int .i64 a1, .int .i64 a2] w fun e w' => e = .returned (.tuple #[.int .i64 r1, .int .i64 r2]) ∧ Below w.heap.size w w' := by
  have HB := Aside0.mk (Below.refl w.heap.size w)
  have H : (if a0 = 11 then (arith_two.j0 k a0 a1 a2 a0 (a0 == 11)) else (arith_two.j0 k a0 a1 a2 a0 (a0 == 12))) = some (r1, r2) := h
  clear h
  have HC4 := Aside0.mk H
  clear H
  go_enter Try.func37, Try.ntmps37
  go_upto_if 9 with (fail)
  go_cut [9] (fun v9 wc => ∃ (kq : Nat) (x9_3 : Bool), v9 = .bool x9_3 ∧ Aside0 (arith_two.j0 kq a0 a1 a2 a0 x9_3 = some (r1, r2)) ∧ Aside0 (kq ≤ k) ∧ Aside0 (Below w.heap.size w wc))
  case first =>
    have H := HC4.out
    clear HC4
    by_cases c5 : a0 = 11
    · rw [if_pos c5] at H
      have c5b0 : (a0 == 11) = true := beq_iff_eq.mpr c5
      have c5b1 : (a0 != 11) = false := bne_eq_false_iff_eq.mpr c5
      clear c5
      (first | rw [c5b0] | (simp only [i64_w, i32_w]; rw [c5b0]) | skip)
      have H' := Aside0.mk H
      clear H
      go_wp2
      go_meet
      case rel => exact ⟨_, ((a0 == 11)), (by first | rfl | (simp; done) | (simp [*]; done)), H', ⟨by first | omega | exact Nat.le_refl _⟩, ⟨by repeat (first | (with_reducible first | exact HB.out | apply cA | apply cN | apply cD) | exact HB.out)⟩⟩
    rw [if_neg c5] at H
    have c5b0 : (a0 == 11) = false := beq_eq_false_iff_ne.mpr c5
    have c5b1 : (a0 != 11) = true := bne_iff_ne.mpr c5
    (first | rw [c5b0] | (simp only [i64_w, i32_w]; rw [c5b0]) | skip)
    have H' := Aside0.mk H
    clear H
    go_wp2
    go_meet
    case rel => exact ⟨_, ((a0 == 12)), (by first | rfl | (simp; done) | (simp [*]; done)), H', ⟨by first | omega | exact Nat.le_refl _⟩, ⟨by repeat (first | (with_reducible first | exact HB.out | apply cA | apply cN | apply cD) | exact HB.out)⟩⟩
  case rest =>
    clear HC4
    try clear c5
    try clear c5b0
    try clear c5b1
    obtain ⟨kq, x9_3, rfl, HA, HJ3, HB⟩ := hcut
    cases kq with
    | zero => exact absurd HA.out (by simp [arith_two.j0])
    | succ kj3 =>
      have H := HA.out
      clear HA
      simp only [arith_two.j0] at H
      by_cases c6 : x9_3 = true
      · subst c6
        have H1 : (if a2 = 0 then (some (0, 12)) else (if a0 = 12 then (some (Int.tmod a1 a2, 0)) else (some (wrap64 (Int.tdiv a1 a2), 0)))) = some (r1, r2) := by rw [if_pos rfl] at H; exact H
        clear H
        have H := H1
        clear H1
        by_cases c7 : a2 = 0
        · rw [if_pos c7] at H
          have c7b0 : (a2 == 0) = true := beq_iff_eq.mpr c7
          have c7b1 : (a2 != 0) = false := bne_eq_false_iff_eq.mpr c7
          clear c7
          simp only [Option.some.injEq, Prod.mk.injEq] at H
          obtain ⟨rfl, rfl⟩ := H
          go_wp2
          go_ret2
          exact ⟨by first | rfl | (simp [errW_none, errW_some] <;> rfl) | (simp [*, errW_none, errW_some] <;> rfl), by repeat (first | (with_reducible first | exact HB.out | apply cA | apply cN | apply cD) | exact HB.out)⟩
        rw [if_neg c7] at H
        have c7b0 : (a2 == 0) = false := beq_eq_false_iff_ne.mpr c7
        have c7b1 : (a2 != 0) = true := bne_iff_ne.mpr c7
        by_cases c8 : a0 = 12
        · rw [if_pos c8] at H
          have c8b0 : (a0 == 12) = true := beq_iff_eq.mpr c8
          have c8b1 : (a0 != 12) = false := bne_eq_false_iff_eq.mpr c8
          clear c8
          simp only [Option.some.injEq, Prod.mk.injEq] at H
          obtain ⟨rfl, rfl⟩ := H
          go_wp2
          go_ret2
          exact ⟨by first | rfl | (simp [errW_none, errW_some] <;> rfl) | (simp [*, errW_none, errW_some] <;> rfl), by repeat (first | (with_reducible first | exact HB.out | apply cA | apply cN | apply cD) | exact HB.out)⟩
        rw [if_neg c8] at H
        have c8b0 : (a0 == 12) = false := beq_eq_false_iff_ne.mpr c8
        have c8b1 : (a0 != 12) = true := bne_iff_ne.mpr c8
        simp only [Option.some.injEq, Prod.mk.injEq] at H
        obtain ⟨rfl, rfl⟩ := H
        go_wp2
        go_ret2
        exact ⟨by first | rfl | (simp [errW_none, errW_some] <;> rfl) | (simp [*, errW_none, errW_some] <;> rfl), by repeat (first | (with_reducible first | exact HB.out | apply cA | apply cN | apply cD) | exact HB.out)⟩
      replace c6 := Bool.eq_false_iff.mpr c6
      subst c6
      have H1 : (if a0 = 13 then (arith_two.j1 kj3 a0 a1 a2 a0 (a0 == 13)) else (arith_two.j1 kj3 a0 a1 a2 a0 (a0 == 14))) = some (r1, r2) := by rw [if_neg (show ¬ (false = true) by decide)] at H; exact H
      clear H
      have H := H1
      clear H1
      have HC9 := Aside0.mk H
      clear H
      go_upto_if 22 with (fail)
      go_cut [22] (fun v22 wc => ∃ (kq : Nat) (x22_8 : Bool), v22 = .bool x22_8 ∧ Aside0 (arith_two.j1 kq a0 a1 a2 a0 x22_8 = some (r1, r2)) ∧ Aside0 (kq ≤ kj3) ∧ Aside0 (Below w.heap.size w wc))
      case first =>
        have H := HC9.out
        clear HC9
        by_cases c10 : a0 = 13
        · rw [if_pos c10] at H
          have c10b0 : (a0 == 13) = true := beq_iff_eq.mpr c10
          have c10b1 : (a0 != 13) = false := bne_eq_false_iff_eq.mpr c10
          clear c10
          (first | rw [c10b0] | (simp only [i64_w, i32_w]; rw [c10b0]) | skip)
          have H' := Aside0.mk H
          clear H
          go_wp2
          go_meet
          case rel => exact ⟨_, ((a0 == 13)), (by first | rfl | (simp; done) | (simp [*]; done)), H', ⟨by have := HJ3.out; first | omega | exact Nat.le_refl _⟩, ⟨by repeat (first | (with_reducible first | exact HB.out | apply cA | apply cN | apply cD) | exact HB.out)⟩⟩
        rw [if_neg c10] at H
        have c10b0 : (a0 == 13) = false := beq_eq_false_iff_ne.mpr c10
        have c10b1 : (a0 != 13) = true := bne_iff_ne.mpr c10
        (first | rw [c10b0] | (simp only [i64_w, i32_w]; rw [c10b0]) | skip)
        have H' := Aside0.mk H
        clear H
        go_wp2
        go_meet
        case rel => exact ⟨_, ((a0 == 14)), (by first | rfl | (simp; done) | (simp [*]; done)), H', ⟨by have := HJ3.out; first | omega | exact Nat.le_refl _⟩, ⟨by repeat (first | (with_reducible first | exact HB.out | apply cA | apply cN | apply cD) | exact HB.out)⟩⟩
      case rest =>
        clear HC9
        try clear c5
        try clear c5b0
        try clear c5b1
        try clear c6
        try clear c7
        try clear c7b0
        try clear c7b1
        try clear c8
        try clear c8b0
        try clear c8b1
        try clear c10
        try clear c10b0
        try clear c10b1
        obtain ⟨kq, x22_8, rfl, HA, HJ8, HB⟩ := hcut
        cases kq with
        | zero => exact absurd HA.out (by simp [arith_two.j1])
        | succ kj8 =>
          have H := HA.out
          clear HA
          simp only [arith_two.j1] at H
          by_cases c11 : x22_8 = true
          · subst c11
            have H1 : (if a2 < 0 then (arith_two.j2 kj8 a0 a1 a2 true) else (arith_two.j2 kj8 a0 a1 a2 (decide (a2 > 31)))) = some (r1, r2) := by rw [if_pos rfl] at H; exact H
            clear H
            have H := H1
            clear H1
            have HC12 := Aside0.mk H
            clear H
            go_upto_region 11 with (fail)
            go_cut [30] (fun v30 wc => ∃ (kq : Nat) (x30_11 : Bool), v30 = .bool x30_11 ∧ Aside0 (arith_two.j2 kq a0 a1 a2 x30_11 = some (r1, r2)) ∧ Aside0 (kq ≤ kj8) ∧ Aside0 (Below w.heap.size w wc))
            case first =>
              have H := HC12.out
              clear HC12
              by_cases c13 : a2 < 0
              · rw [if_pos c13] at H
                have c13b0 : decide (a2 < 0) = true := decide_eq_true c13
                clear c13
                (first | rw [c13b0] | (simp only [i64_w, i32_w]; rw [c13b0]) | skip)
                have H' := Aside0.mk H
                clear H
                go_wp2
                go_meet
                case rel => exact ⟨_, (true), (by first | rfl | (simp; done) | (simp [*]; done)), H', ⟨by have := HJ3.out; have := HJ8.out; first | omega | exact Nat.le_refl _⟩, ⟨by repeat (first | (with_reducible first | exact HB.out | apply cA | apply cN | apply cD) | exact HB.out)⟩⟩
              rw [if_neg c13] at H
              have c13b0 : decide (a2 < 0) = false := decide_eq_false c13
              clear c13
              (first | rw [c13b0] | (simp only [i64_w, i32_w]; rw [c13b0]) | skip)
              have H' := Aside0.mk H
              clear H
              go_wp2
              go_meet
              case rel => exact ⟨_, (decide (a2 > 31)), (by first | rfl | (simp; done) | (simp [*]; done)), H', ⟨by have := HJ3.out; have := HJ8.out; first | omega | exact Nat.le_refl _⟩, ⟨by repeat (first | (with_reducible first | exact HB.out | apply cA | apply cN | apply cD) | exact HB.out)⟩⟩
            case rest =>
              clear HC12
              try clear c5
              try clear c5b0
              try clear c5b1
              try clear c6
              try clear c7
              try clear c7b0
              try clear c7b1
              try clear c8
              try clear c8b0
              try clear c8b1
              try clear c10
              try clear c10b0
              try clear c10b1
              try clear c11
              try clear c13
              try clear c13b0
              obtain ⟨kq, x30_11, rfl, HA, HJ11, HB⟩ := hcut
              cases kq with
              | zero => exact absurd HA.out (by simp [arith_two.j2])
              | succ kj11 =>
                have H := HA.out
                clear HA
                simp only [arith_two.j2] at H
                by_cases c14 : x30_11 = true
                · subst c14
                  have H1 : (some (0, 13)) = some (r1, r2) := by rw [if_pos rfl] at H; exact H
                  clear H
                  have H := H1
                  clear H1
                  simp only [Option.some.injEq, Prod.mk.injEq] at H
                  obtain ⟨rfl, rfl⟩ := H
                  go_wp2
                  go_ret2
                  exact ⟨by first | rfl | (simp [errW_none, errW_some] <;> rfl) | (simp [*, errW_none, errW_some] <;> rfl), by repeat (first | (with_reducible first | exact HB.out | apply cA | apply cN | apply cD) | exact HB.out)⟩
                replace c14 := Bool.eq_false_iff.mpr c14
                subst c14
                have H1 : (if a0 = 14 then (if 0 ≤ a2 then (some (shr .i64 a1 a2, 0)) else (none)) else (if 0 ≤ a2 then (some (shl .i64 a1 a2, 0)) else (none))) = some (r1, r2) := by rw [if_neg (show ¬ (false = true) by decide)] at H; exact H
                clear H
                have H := H1
                clear H1
                by_cases c15 : a0 = 14
                · rw [if_pos c15] at H
                  have c15b0 : (a0 == 14) = true := beq_iff_eq.mpr c15
                  have c15b1 : (a0 != 14) = false := bne_eq_false_iff_eq.mpr c15
                  clear c15
                  by_cases c16 : 0 ≤ a2
                  · rw [if_pos c16] at H
                    have c16b0 := eq_true c16
                    have c16b1 : decide (0 ≤ a2) = true := decide_eq_true c16
                    clear c16
                    obtain ⟨ji17, hji17⟩ : ∃ j_ : Int, (shr .i64 a1 a2) = j_ := ⟨_, rfl⟩
                    replace H : (some (ji17, 0)) = some (r1, r2) := by first | (rw [hji17] at H; exact H) | (simp only [hji17] at H ⊢; exact H)
                    have hji17_ : (a1 / 2 ^ min a2.toNat 64) = ji17 := hji17
                    have hji17z : a2 ≤ 64 → (a1 / 2 ^ a2.toNat) = ji17 := shr_small hji17
                    simp only [Option.some.injEq, Prod.mk.injEq] at H
                    obtain ⟨rfl, rfl⟩ := H
                    go_wp2
                    go_ret2
                    exact ⟨by first | rfl | (simp [errW_none, errW_some] <;> rfl) | (simp only [← hji17]; first | rfl | (simp [errW_none, errW_some] <;> rfl)) | (simp [*, errW_none, errW_some] <;> rfl), by repeat (first | (with_reducible first | exact HB.out | apply cA | apply cN | apply cD) | exact HB.out)⟩
                  rw [if_neg c16] at H
                  exact absurd H (by simp)
                rw [if_neg c15] at H
                have c15b0 : (a0 == 14) = false := beq_eq_false_iff_ne.mpr c15
                have c15b1 : (a0 != 14) = true := bne_iff_ne.mpr c15
                by_cases c18 : 0 ≤ a2
                · rw [if_pos c18] at H
                  have c18b0 := eq_true c18
                  have c18b1 : decide (0 ≤ a2) = true := decide_eq_true c18
                  clear c18
                  obtain ⟨ji19, hji19⟩ : ∃ j_ : Int, (shl .i64 a1 a2) = j_ := ⟨_, rfl⟩
                  replace H : (some (ji19, 0)) = some (r1, r2) := by first | (rw [hji19] at H; exact H) | (simp only [hji19] at H ⊢; exact H)
                  have hji19_ : (IntKind.i64.wrap (a1 * 2 ^ min a2.toNat 64)) = ji19 := hji19
                  have hji19z : a2 ≤ 64 → (IntKind.i64.wrap (a1 * 2 ^ a2.toNat)) = ji19 := shl_small hji19
                  have hji19y : (wrap64 (a1 * 2 ^ min a2.toNat 64)) = ji19 := (i64_w _).symm.trans hji19_
                  have hji19x : a2 ≤ 64 → (wrap64 (a1 * 2 ^ a2.toNat)) = ji19 := fun h_ => (i64_w _).symm.trans (hji19z h_)
                  simp only [Option.some.injEq, Prod.mk.injEq] at H
                  obtain ⟨rfl, rfl⟩ := H
                  go_wp2
                  go_ret2
                  exact ⟨by first | rfl | (simp [errW_none, errW_some] <;> rfl) | (simp only [← hji19]; first | rfl | (simp [errW_none, errW_some] <;> rfl)) | (simp [*, errW_none, errW_some] <;> rfl), by repeat (first | (with_reducible first | exact HB.out | apply cA | apply cN | apply cD) | exact HB.out)⟩
                rw [if_neg c18] at H
                exact absurd H (by simp)
          replace c11 := Bool.eq_false_iff.mpr c11
          subst c11
          have H1 : (if a0 = 8 then (some (wrap64 (a1 + a2), 0)) else (if a0 = 9 then (some (wrap64 (a1 - a2), 0)) else (if a0 = 10 then (some (wrap64 (a1 * a2), 0)) else (if a0 = 15 then (some (Go.bits .and .i64 a1 a2, 0)) else (if a0 = 16 then (some (Go.bits .or .i64 a1 a2, 0)) else (if a0 = 17 then (some (Go.bits .xor .i64 a1 a2, 0)) else (if a0 = 24 then (some (mn a1 a2, 0)) else (if a0 = 25 then (some (mx a1 a2, 0)) else ((arith_compared.f a0 a1 a2).bind fun t103 => (some (t103, 0))))))))))) = some (r1, r2) := by rw [if_neg (show ¬ (false = true) by decide)] at H; exact H
          clear H
          have H := H1
          clear H1
          by_cases c20 : a0 = 8
          · rw [if_pos c20] at H
            have c20b0 : (a0 == 8) = true := beq_iff_eq.mpr c20
            have c20b1 : (a0 != 8) = false := bne_eq_false_iff_eq.mpr c20
            clear c20
            simp only [Option.some.injEq, Prod.mk.injEq] at H
            obtain ⟨rfl, rfl⟩ := H
            go_wp2
            go_ret2
            exact ⟨by first | rfl | (simp [errW_none, errW_some] <;> rfl) | (simp [*, errW_none, errW_some] <;> rfl), by repeat (first | (with_reducible first | exact HB.out | apply cA | apply cN | apply cD) | exact HB.out)⟩
          rw [if_neg c20] at H
          have c20b0 : (a0 == 8) = false := beq_eq_false_iff_ne.mpr c20
          have c20b1 : (a0 != 8) = true := bne_iff_ne.mpr c20
          by_cases c21 : a0 = 9
          · rw [if_pos c21] at H
            have c21b0 : (a0 == 9) = true := beq_iff_eq.mpr c21
            have c21b1 : (a0 != 9) = false := bne_eq_false_iff_eq.mpr c21
            clear c21
            simp only [Option.some.injEq, Prod.mk.injEq] at H
            obtain ⟨rfl, rfl⟩ := H
            go_wp2
            go_ret2
            exact ⟨by first | rfl | (simp [errW_none, errW_some] <;> rfl) | (simp [*, errW_none, errW_some] <;> rfl), by repeat (first | (with_reducible first | exact HB.out | apply cA | apply cN | apply cD) | exact HB.out)⟩
          rw [if_neg c21] at H
          have c21b0 : (a0 == 9) = false := beq_eq_false_iff_ne.mpr c21
          have c21b1 : (a0 != 9) = true := bne_iff_ne.mpr c21
          by_cases c22 : a0 = 10
          · rw [if_pos c22] at H
            have c22b0 : (a0 == 10) = true := beq_iff_eq.mpr c22
            have c22b1 : (a0 != 10) = false := bne_eq_false_iff_eq.mpr c22
            clear c22
            simp only [Option.some.injEq, Prod.mk.injEq] at H
            obtain ⟨rfl, rfl⟩ := H
            go_wp2
            go_ret2
            exact ⟨by first | rfl | (simp [errW_none, errW_some] <;> rfl) | (simp [*, errW_none, errW_some] <;> rfl), by repeat (first | (with_reducible first | exact HB.out | apply cA | apply cN | apply cD) | exact HB.out)⟩
          rw [if_neg c22] at H
          have c22b0 : (a0 == 10) = false := beq_eq_false_iff_ne.mpr c22
          have c22b1 : (a0 != 10) = true := bne_iff_ne.mpr c22
          by_cases c23 : a0 = 15
          · rw [if_pos c23] at H
            have c23b0 : (a0 == 15) = true := beq_iff_eq.mpr c23
            have c23b1 : (a0 != 15) = false := bne_eq_false_iff_eq.mpr c23
            clear c23
            simp only [Option.some.injEq, Prod.mk.injEq] at H
            obtain ⟨rfl, rfl⟩ := H
            go_wp2
            go_ret2
            exact ⟨by first | rfl | (simp [errW_none, errW_some] <;> rfl) | (simp [*, errW_none, errW_some] <;> rfl), by repeat (first | (with_reducible first | exact HB.out | apply cA | apply cN | apply cD) | exact HB.out)⟩
          rw [if_neg c23] at H
          have c23b0 : (a0 == 15) = false := beq_eq_false_iff_ne.mpr c23
          have c23b1 : (a0 != 15) = true := bne_iff_ne.mpr c23
          by_cases c24 : a0 = 16
          · rw [if_pos c24] at H
            have c24b0 : (a0 == 16) = true := beq_iff_eq.mpr c24
            have c24b1 : (a0 != 16) = false := bne_eq_false_iff_eq.mpr c24
            clear c24
            simp only [Option.some.injEq, Prod.mk.injEq] at H
            obtain ⟨rfl, rfl⟩ := H
            go_wp2
            go_ret2
            exact ⟨by first | rfl | (simp [errW_none, errW_some] <;> rfl) | (simp [*, errW_none, errW_some] <;> rfl), by repeat (first | (with_reducible first | exact HB.out | apply cA | apply cN | apply cD) | exact HB.out)⟩
          rw [if_neg c24] at H
          have c24b0 : (a0 == 16) = false := beq_eq_false_iff_ne.mpr c24
          have c24b1 : (a0 != 16) = true := bne_iff_ne.mpr c24
          by_cases c25 : a0 = 17
          · rw [if_pos c25] at H
            have c25b0 : (a0 == 17) = true := beq_iff_eq.mpr c25
            have c25b1 : (a0 != 17) = false := bne_eq_false_iff_eq.mpr c25
            clear c25
            simp only [Option.some.injEq, Prod.mk.injEq] at H
            obtain ⟨rfl, rfl⟩ := H
            go_wp2
            go_ret2
            exact ⟨by first | rfl | (simp [errW_none, errW_some] <;> rfl) | (simp [*, errW_none, errW_some] <;> rfl), by repeat (first | (with_reducible first | exact HB.out | apply cA | apply cN | apply cD) | exact HB.out)⟩
          rw [if_neg c25] at H
          have c25b0 : (a0 == 17) = false := beq_eq_false_iff_ne.mpr c25
          have c25b1 : (a0 != 17) = true := bne_iff_ne.mpr c25
          by_cases c26 : a0 = 24
          · rw [if_pos c26] at H
            have c26b0 : (a0 == 24) = true := beq_iff_eq.mpr c26
            have c26b1 : (a0 != 24) = false := bne_eq_false_iff_eq.mpr c26
            clear c26
            obtain ⟨ji27, hji27⟩ : ∃ j_ : Int, (mn a1 a2) = j_ := ⟨_, rfl⟩
            replace H : (some (ji27, 0)) = some (r1, r2) := by first | (rw [hji27] at H; exact H) | (simp only [hji27] at H ⊢; exact H)
            have hji27_ : (if a2 < a1 then a2 else a1) = ji27 := hji27
            simp only [Option.some.injEq, Prod.mk.injEq] at H
            obtain ⟨rfl, rfl⟩ := H
            go_wp2
            go_ret2
            exact ⟨by first | rfl | (simp [errW_none, errW_some] <;> rfl) | (simp only [← hji27]; first | rfl | (simp [errW_none, errW_some] <;> rfl)) | (simp [*, errW_none, errW_some] <;> rfl), by repeat (first | (with_reducible first | exact HB.out | apply cA | apply cN | apply cD) | exact HB.out)⟩
          rw [if_neg c26] at H
          have c26b0 : (a0 == 24) = false := beq_eq_false_iff_ne.mpr c26
          have c26b1 : (a0 != 24) = true := bne_iff_ne.mpr c26
          by_cases c28 : a0 = 25
          · rw [if_pos c28] at H
            have c28b0 : (a0 == 25) = true := beq_iff_eq.mpr c28
            have c28b1 : (a0 != 25) = false := bne_eq_false_iff_eq.mpr c28
            clear c28
            obtain ⟨ji29, hji29⟩ : ∃ j_ : Int, (mx a1 a2) = j_ := ⟨_, rfl⟩
            replace H : (some (ji29, 0)) = some (r1, r2) := by first | (rw [hji29] at H; exact H) | (simp only [hji29] at H ⊢; exact H)
            have hji29_ : (if a1 < a2 then a2 else a1) = ji29 := hji29
            simp only [Option.some.injEq, Prod.mk.injEq] at H
            obtain ⟨rfl, rfl⟩ := H
            go_wp2
            go_ret2
            exact ⟨by first | rfl | (simp [errW_none, errW_some] <;> rfl) | (simp only [← hji29]; first | rfl | (simp [errW_none, errW_some] <;> rfl)) | (simp [*, errW_none, errW_some] <;> rfl), by repeat (first | (with_reducible first | exact HB.out | apply cA | apply cN | apply cD) | exact HB.out)⟩
          rw [if_neg c28] at H
          have c28b0 : (a0 == 25) = false := beq_eq_false_iff_ne.mpr c28
          have c28b1 : (a0 != 25) = true := bne_iff_ne.mpr c28
          replace H := Option.bind_eq_some_iff.mp H
          obtain ⟨t103, A300, H⟩ := H
          replace H : (some (t103, 0)) = some (r1, r2) := H
          have A30 := Aside0.mk A300
          clear A300
          simp only [Option.some.injEq, Prod.mk.injEq] at H
          obtain ⟨rfl, rfl⟩ := H
          go_wp2_with (first | ((with_reducible refine gate_callee (f := 44) rfl ?_); refine goesL_ (some 82) rfl rfl Try.func44 (by kernel_rfl) rfl #[.int .i64 a0, .int .i64 a1, .int .i64 a2] rfl (by (try simp only [List.map_toArray, List.map_cons, List.map_nil]); first | done | rfl | (simp only [List.length_drop, List.length_take]; rfl)) ?_; (with_reducible refine (arith_compared.calls a0 a1 a2 t103 _ A30.out).mono ?_); rintro e w' ⟨rfl, ⟨nd, rfl⟩⟩; refine ⟨_, rfl, ?_⟩))
          go_ret2
          exact ⟨by first | rfl | (simp [errW_none, errW_some] <;> rfl) | (simp [*, errW_none, errW_some] <;> rfl), by repeat (first | (with_reducible first | exact HB.out | apply cA | apply cN | apply cD) | exact HB.out)⟩

/-! ### arith_three: function 38 -/
def arith_three.f (a0 : Int) (a1 : Int) (a2 : Int) (a3 : Int) : Option (Int) := if a0 = 26 then (some (mn (mx a1 a2) a3)) else (if a0 = 27 then (some (mx (mn a1 a2) (mn (mx a1 a2) a3))) else (if a1 = 0 then (some a3) else (some a2)))
set_option maxHeartbeats 8000000 in
set_option maxRecDepth 100000 in
theorem arith_three.calls (a0 : Int) (a1 : Int) (a2 : Int) (a3 : Int) (r : Int) (w : World) (h : arith_three.f a0 a1 a2 a3 = some r) :
    Calls Try.prog 38 #[.int .i64 a0, .int .i64 a1, .int .i64 a2, .int .i64 a3] w fun e w' => e = .returned (.int .i64 r) ∧ Below w.heap.size w w' := by
  have HB := Aside0.mk (Below.refl w.heap.size w)
  have H : (if a0 = 26 then (some (mn (mx a1 a2) a3)) else (if a0 = 27 then (some (mx (mn a1 a2) (mn (mx a1 a2) a3))) else (if a1 = 0 then (some a3) else (some a2)))) = some r := h
  clear h
  by_cases c5 : a0 = 26
  · rw [if_pos c5] at H
    have c5b0 : (a0 == 26) = true := beq_iff_eq.mpr c5
    have c5b1 : (a0 != 26) = false := bne_eq_false_iff_eq.mpr c5
    clear c5
    obtain ⟨ji6, hji6⟩ : ∃ j_ : Int, (mx a1 a2) = j_ := ⟨_, rfl⟩
    replace H : (some (mn (ji6) a3)) = some r := by first | (rw [hji6] at H; exact H) | (simp only [hji6] at H ⊢; exact H)
    have hji6_ : (if a1 < a2 then a2 else a1) = ji6 := hji6
    obtain ⟨ji7, hji7⟩ : ∃ j_ : Int, (mn (ji6) a3) = j_ := ⟨_, rfl⟩
    replace H : (some ji7) = some r := by first | (rw [hji7] at H; exact H) | (simp only [hji7] at H ⊢; exact H)
    have hji7_ : (if a3 < (ji6) then a3 else (ji6)) = ji7 := hji7
    obtain rfl := Option.some.inj H
    go_enter Try.func38, Try.ntmps38
    go_wp2
    go_ret
    exact ⟨by first | rfl | (simp [errW_none, errW_some] <;> rfl) | (simp only [← hji6, ← hji7]; first | rfl | (simp [errW_none, errW_some] <;> rfl)) | (simp [*, errW_none, errW_some] <;> rfl), by repeat (first | (with_reducible first | exact HB.out | apply cA | apply cN | apply cD) | exact HB.out)⟩
  rw [if_neg c5] at H
  have c5b0 : (a0 == 26) = false := beq_eq_false_iff_ne.mpr c5
  have c5b1 : (a0 != 26) = true := bne_iff_ne.mpr c5
  by_cases c8 : a0 = 27
  · rw [if_pos c8] at H
    have c8b0 : (a0 == 27) = true := beq_iff_eq.mpr c8
    have c8b1 : (a0 != 27) = false := bne_eq_false_iff_eq.mpr c8
    clear c8
    obtain ⟨ji9, hji9⟩ : ∃ j_ : Int, (mn a1 a2) = j_ := ⟨_, rfl⟩
    replace H : (some (mx (ji9) (mn (mx a1 a2) a3))) = some r := by first | (rw [hji9] at H; exact H) | (simp only [hji9] at H ⊢; exact H)
    have hji9_ : (if a2 < a1 then a2 else a1) = ji9 := hji9
    obtain ⟨ji10, hji10⟩ : ∃ j_ : Int, (mx a1 a2) = j_ := ⟨_, rfl⟩
    replace H : (some (mx (ji9) (mn (ji10) a3))) = some r := by first | (rw [hji10] at H; exact H) | (simp only [hji10] at H ⊢; exact H)
    have hji10_ : (if a1 < a2 then a2 else a1) = ji10 := hji10
    obtain ⟨ji11, hji11⟩ : ∃ j_ : Int, (mn (ji10) a3) = j_ := ⟨_, rfl⟩
    replace H : (some (mx (ji9) (ji11))) = some r := by first | (rw [hji11] at H; exact H) | (simp only [hji11] at H ⊢; exact H)
    have hji11_ : (if a3 < (ji10) then a3 else (ji10)) = ji11 := hji11
    obtain ⟨ji12, hji12⟩ : ∃ j_ : Int, (mx (ji9) (ji11)) = j_ := ⟨_, rfl⟩
    replace H : (some ji12) = some r := by first | (rw [hji12] at H; exact H) | (simp only [hji12] at H ⊢; exact H)
    have hji12_ : (if (ji9) < (ji11) then (ji11) else (ji9)) = ji12 := hji12
    obtain rfl := Option.some.inj H
    go_enter Try.func38, Try.ntmps38
    go_wp2
    go_ret
    exact ⟨by first | rfl | (simp [errW_none, errW_some] <;> rfl) | (simp only [← hji9, ← hji10, ← hji11, ← hji12]; first | rfl | (simp [errW_none, errW_some] <;> rfl)) | (simp [*, errW_none, errW_some] <;> rfl), by repeat (first | (with_reducible first | exact HB.out | apply cA | apply cN | apply cD) | exact HB.out)⟩
  rw [if_neg c8] at H
  have c8b0 : (a0 == 27) = false := beq_eq_false_iff_ne.mpr c8
  have c8b1 : (a0 != 27) = true := bne_iff_ne.mpr c8
  by_cases c13 : a1 = 0
  · rw [if_pos c13] at H
    have c13b0 : (a1 == 0) = true := beq_iff_eq.mpr c13
    have c13b1 : (a1 != 0) = false := bne_eq_false_iff_eq.mpr c13
    clear c13
    obtain rfl := Option.some.inj H
    go_enter Try.func38, Try.ntmps38
    go_wp2
    go_ret
    exact ⟨by first | rfl | (simp [errW_none, errW_some] <;> rfl) | (simp [*, errW_none, errW_some] <;> rfl), by repeat (first | (with_reducible first | exact HB.out | apply cA | apply cN | apply cD) | exact HB.out)⟩
  rw [if_neg c13] at H
  have c13b0 : (a1 == 0) = false := beq_eq_false_iff_ne.mpr c13
  have c13b1 : (a1 != 0) = true := bne_iff_ne.mpr c13
  obtain rfl := Option.some.inj H
  go_enter Try.func38, Try.ntmps38
  go_wp2
  go_ret
  exact ⟨by first | rfl | (simp [errW_none, errW_some] <;> rfl) | (simp [*, errW_none, errW_some] <;> rfl), by repeat (first | (with_reducible first | exact HB.out | apply cA | apply cN | apply cD) | exact HB.out)⟩

end Go.Proofs.Ytpnldhimlpilhaa.F
