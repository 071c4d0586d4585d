/- Written by wip/myprint.py of this session, out of Lean's print of the program: what Go functions come to, and that their calls come to it; no condition. -/
import Derived.Test.YtpnldhimlpilhaaF0
import Derived.Test.YtpnldhimlpilhaaFdamaskref041
namespace Go.Proofs.Ytpnldhimlpilhaa.F
open Go.RowKit Go.Proofs.YtpnldhimlpilhaaW.PrintWords Go.Proofs.YtpnldhimlpilhaaW.PrintLast Go.Proofs.YtpnldhimlpilhaaW.PrintMore Go.Proofs.YtpnldhimlpilhaaW
attribute [local go_sem] max2_int min2_int max_two min_two max_three min_three max_four min_four   -- for this text's walks alone
set_option linter.unusedVariables false
set_option linter.unusedSimpArgs false

/-! ### damaskref04_chosen: function 51 -/
mutual
def damaskref04_chosen.j0 : Nat → Int → Int → Option (Int)
  | 0, _, _ => none
  | k + 1, x3, x9 => if x9 > x3 then (some x3) else (some x9)
def damaskref04_chosen.j1 : Nat → Int → Int → Int → Bool → Option (Int)
  | 0, _, _, _, _ => none
  | k + 1, x1, x2, x3, x94 => if x94 = true then (some x1) else (if x1 ≤ x2 then (if x2 ≤ x3 then (damaskref04_chosen.j2 k x2 x3 true) else (if x3 ≤ x2 then (damaskref04_chosen.j2 k x2 x3 (decide (x2 ≤ x1))) else (damaskref04_chosen.j2 k x2 x3 false))) else (if x3 ≤ x2 then (damaskref04_chosen.j2 k x2 x3 (decide (x2 ≤ x1))) else (damaskref04_chosen.j2 k x2 x3 false)))
def damaskref04_chosen.j2 : Nat → Int → Int → Bool → Option (Int)
  | 0, _, _, _ => none
  | k + 1, x2, x3, x113 => if x113 = true then (some x2) else (some x3)
end
def damaskref04_chosen.f (k : Nat) (a0 : Int) (a1 : Int) (a2 : Int) (a3 : Int) : Option (Int) := if a0 = 18 then ((damaskref04_truth.f (decide (a1 < a2))).bind fun t137 => (some t137)) else (if a0 = 19 then ((damaskref04_truth.f (!(decide (a2 < a1)))).bind fun t138 => (some t138)) else (if a0 = 20 then ((damaskref04_truth.f (decide (a2 < a1))).bind fun t139 => (some t139)) else (if a0 = 21 then ((damaskref04_truth.f (!(decide (a1 < a2)))).bind fun t140 => (some t140)) else (if a0 = 22 then ((damaskref04_truth.f (a1 == a2)).bind fun t141 => (some t141)) else (if a0 = 23 then ((damaskref04_truth.f (a1 != a2)).bind fun t142 => (some t142)) else (if a0 = 24 then (if a2 < a1 then (some a2) else (some a1)) else (if a0 = 25 then (if a2 > a1 then (some a2) else (some a1)) else (if a0 = 26 then (if a1 < a2 then (damaskref04_chosen.j0 k a3 a2) else (damaskref04_chosen.j0 k a3 a1)) else (if a0 = 27 then (if a2 ≤ a1 then (if a1 ≤ a3 then (damaskref04_chosen.j1 k a1 a2 a3 true) else (if a3 ≤ a1 then (damaskref04_chosen.j1 k a1 a2 a3 (decide (a1 ≤ a2))) else (damaskref04_chosen.j1 k a1 a2 a3 false))) else (if a3 ≤ a1 then (damaskref04_chosen.j1 k a1 a2 a3 (decide (a1 ≤ a2))) else (damaskref04_chosen.j1 k a1 a2 a3 false))) else (if a1 = 0 then (some a3) else (some a2)))))))))))
theorem damaskref04_chosen.mono_l : ∀ k, (∀ y0 y1, LeO (damaskref04_chosen.j0 k y0 y1) (damaskref04_chosen.j0 (k + 1) y0 y1)) ∧ (∀ y0 y1 y2 y3, LeO (damaskref04_chosen.j1 k y0 y1 y2 y3) (damaskref04_chosen.j1 (k + 1) y0 y1 y2 y3)) ∧ (∀ y0 y1 y2, LeO (damaskref04_chosen.j2 k y0 y1 y2) (damaskref04_chosen.j2 (k + 1) y0 y1 y2))
  | 0 => ⟨fun _ _ r h => by simp [damaskref04_chosen.j0] at h, fun _ _ _ _ r h => by simp [damaskref04_chosen.j1] at h, fun _ _ _ r h => by simp [damaskref04_chosen.j2] at h⟩
  | k + 1 => by
    obtain ⟨ih0, ih1, ih2⟩ := damaskref04_chosen.mono_l k
    refine ⟨?_, ?_, ?_⟩
    · intro y0 y1
      unfold damaskref04_chosen.j0
      repeat' first
      | (with_reducible exact ih0 _ _)
      | (with_reducible exact ih1 _ _ _ _)
      | (with_reducible exact ih2 _ _ _)
      | (with_reducible exact LeO.refl _)
      | (with_reducible exact LeO.none _)
      | (with_reducible refine LeO.ite ?_ ?_)
      | (with_reducible refine LeO.bind ?_ (fun _ => ?_))
      | exact ih0 _ _
      | exact ih1 _ _ _ _
      | exact ih2 _ _ _
      | exact LeO.none _
      | refine LeO.ite ?_ ?_
      | refine LeO.bind ?_ (fun _ => ?_)
    · intro y0 y1 y2 y3
      unfold damaskref04_chosen.j1
      repeat' first
      | (with_reducible exact ih0 _ _)
      | (with_reducible exact ih1 _ _ _ _)
      | (with_reducible exact ih2 _ _ _)
      | (with_reducible exact LeO.refl _)
      | (with_reducible exact LeO.none _)
      | (with_reducible refine LeO.ite ?_ ?_)
      | (with_reducible refine LeO.bind ?_ (fun _ => ?_))
      | exact ih0 _ _
      | exact ih1 _ _ _ _
      | exact ih2 _ _ _
      | exact LeO.none _
      | refine LeO.ite ?_ ?_
      | refine LeO.bind ?_ (fun _ => ?_)
    · intro y0 y1 y2
      unfold damaskref04_chosen.j2
      repeat' first
      | (with_reducible exact ih0 _ _)
      | (with_reducible exact ih1 _ _ _ _)
      | (with_reducible exact ih2 _ _ _)
      | (with_reducible exact LeO.refl _)
      | (with_reducible exact LeO.none _)
      | (with_reducible refine LeO.ite ?_ ?_)
      | (with_reducible refine LeO.bind ?_ (fun _ => ?_))
      | exact ih0 _ _
      | exact ih1 _ _ _ _
      | exact ih2 _ _ _
      | exact LeO.none _
      | refine LeO.ite ?_ ?_
      | refine LeO.bind ?_ (fun _ => ?_)
theorem damaskref04_chosen.mono : ∀ a0 a1 a2 a3 k, LeO (damaskref04_chosen.f k a0 a1 a2 a3) (damaskref04_chosen.f (k + 1) a0 a1 a2 a3) := by
  intro a0 a1 a2 a3 k
  obtain ⟨ih0, ih1, ih2⟩ := damaskref04_chosen.mono_l k
  unfold damaskref04_chosen.f
  repeat' first
      | (with_reducible exact ih0 _ _)
      | (with_reducible exact ih1 _ _ _ _)
      | (with_reducible exact ih2 _ _ _)
      | (with_reducible exact LeO.refl _)
      | (with_reducible exact LeO.none _)
      | (with_reducible refine LeO.ite ?_ ?_)
      | (with_reducible refine LeO.bind ?_ (fun _ => ?_))
      | exact ih0 _ _
      | exact ih1 _ _ _ _
      | exact ih2 _ _ _
      | exact LeO.none _
      | refine LeO.ite ?_ ?_
      | refine LeO.bind ?_ (fun _ => ?_)
set_option maxHeartbeats 8000000 in
set_option maxRecDepth 100000 in
theorem damaskref04_chosen.calls (k : Nat) (a0 : Int) (a1 : Int) (a2 : Int) (a3 : Int) (r : Int) (w : World) (h : damaskref04_chosen.f k a0 a1 a2 a3 = some r) :
    Calls Try.prog 51 #[.int .i64 a0, .int .i64 a1, .int .i64 a2, .int .i64 a3] w fun e w' => e = .returned (.int .i64 r) ∧ Drawn0 w w' := by
  have H : (if a0 = 18 then ((damaskref04_truth.f (decide (a1 < a2))).bind fun t137 => (some t137)) else (if a0 = 19 then ((damaskref04_truth.f (!(decide (a2 < a1)))).bind fun t138 => (some t138)) else (if a0 = 20 then ((damaskref04_truth.f (decide (a2 < a1))).bind fun t139 => (some t139)) else (if a0 = 21 then ((damaskref04_truth.f (!(decide (a1 < a2)))).bind fun t140 => (some t140)) else (if a0 = 22 then ((damaskref04_truth.f (a1 == a2)).bind fun t141 => (some t141)) else (if a0 = 23 then ((damaskref04_truth.f (a1 != a2)).bind fun t142 => (some t142)) else (if a0 = 24 then (if a2 < a1 then (some a2) else (some a1)) else (if a0 = 25 then (if a2 > a1 then (some a2) else (some a1)) else (if a0 = 26 then (if a1 < a2 then (damaskref04_chosen.j0 k a3 a2) else (damaskref04_chosen.j0 k a3 a1)) else (if a0 = 27 then (if a2 ≤ a1 then (if a1 ≤ a3 then (damaskref04_chosen.j1 k a1 a2 a3 true) else (if a3 ≤ a1 then (damaskref04_chosen.j1 k a1 a2 a3 (decide (a1 ≤ a2))) else (damaskref04_chosen.j1 k a1 a2 a3 false))) else (if a3 ≤ a1 then (damaskref04_chosen.j1 k a1 a2 a3 (decide (a1 ≤ a2))) else (damaskref04_chosen.j1 k a1 a2 a3 false))) else (if a1 = 0 then (some a3) else (some a2)))))))))))) = some r := h
  clear h
  by_cases c5 : a0 = 18
  · rw [if_pos c5] at H
    have c5b0 : (a0 == 18) = true := beq_iff_eq.mpr c5
    have c5b1 : (a0 != 18) = false := bne_eq_false_iff_eq.mpr c5
    clear c5
    replace H := Option.bind_eq_some_iff.mp H
    obtain ⟨t137, A60, H⟩ := H
    replace H : (some t137) = some r := H
    have A6 := Aside0.mk A60
    clear A60
    obtain rfl := Option.some.inj H
    go_enter Try.func51, Try.ntmps51
    go_wp2_with (first | ((with_reducible refine gate_callee (f := 46) rfl ?_); refine goesL_ (some 16) rfl rfl Try.func46 (by kernel_rfl) rfl #[.bool (decide (a1 < a2))] rfl (by (try simp only [List.map_toArray, List.map_cons, List.map_nil]); first | done | rfl | (simp only [List.length_drop, List.length_take]; rfl)) ?_; (with_reducible refine (damaskref04_truth.calls (decide (a1 < a2)) t137 _ A6.out).mono ?_); rintro e w' ⟨rfl, ⟨nd, rfl⟩⟩; refine ⟨_, rfl, ?_⟩))
    go_ret
    exact ⟨by first | rfl | (simp; done) | (simp [*]; done), by repeat (first | exact Drawn0.refl _ | apply Drawn0.step)⟩
  rw [if_neg c5] at H
  have c5b0 : (a0 == 18) = false := beq_eq_false_iff_ne.mpr c5
  have c5b1 : (a0 != 18) = true := bne_iff_ne.mpr c5
  by_cases c7 : a0 = 19
  · rw [if_pos c7] at H
    have c7b0 : (a0 == 19) = true := beq_iff_eq.mpr c7
    have c7b1 : (a0 != 19) = false := bne_eq_false_iff_eq.mpr c7
    clear c7
    replace H := Option.bind_eq_some_iff.mp H
    obtain ⟨t138, A80, H⟩ := H
    replace H : (some t138) = some r := H
    have A8 := Aside0.mk A80
    clear A80
    obtain rfl := Option.some.inj H
    go_enter Try.func51, Try.ntmps51
    go_wp2_with (first | ((with_reducible refine gate_callee (f := 46) rfl ?_); refine goesL_ (some 23) rfl rfl Try.func46 (by kernel_rfl) rfl #[.bool (!(decide (a2 < a1)))] rfl (by (try simp only [List.map_toArray, List.map_cons, List.map_nil]); first | done | rfl | (simp only [List.length_drop, List.length_take]; rfl)) ?_; (with_reducible refine (damaskref04_truth.calls (!(decide (a2 < a1))) t138 _ A8.out).mono ?_); rintro e w' ⟨rfl, ⟨nd, rfl⟩⟩; refine ⟨_, rfl, ?_⟩))
    go_ret
    exact ⟨by first | rfl | (simp; done) | (simp [*]; done), by repeat (first | exact Drawn0.refl _ | apply Drawn0.step)⟩
  rw [if_neg c7] at H
  have c7b0 : (a0 == 19) = false := beq_eq_false_iff_ne.mpr c7
  have c7b1 : (a0 != 19) = true := bne_iff_ne.mpr c7
  by_cases c9 : a0 = 20
  · rw [if_pos c9] at H
    have c9b0 : (a0 == 20) = true := beq_iff_eq.mpr c9
    have c9b1 : (a0 != 20) = false := bne_eq_false_iff_eq.mpr c9
    clear c9
    replace H := Option.bind_eq_some_iff.mp H
    obtain ⟨t139, A100, H⟩ := H
    replace H : (some t139) = some r := H
    have A10 := Aside0.mk A100
    clear A100
    obtain rfl := Option.some.inj H
    go_enter Try.func51, Try.ntmps51
    go_wp2_with (first | ((with_reducible refine gate_callee (f := 46) rfl ?_); refine goesL_ (some 29) rfl rfl Try.func46 (by kernel_rfl) rfl #[.bool (decide (a2 < a1))] rfl (by (try simp only [List.map_toArray, List.map_cons, List.map_nil]); first | done | rfl | (simp only [List.length_drop, List.length_take]; rfl)) ?_; (with_reducible refine (damaskref04_truth.calls (decide (a2 < a1)) t139 _ A10.out).mono ?_); rintro e w' ⟨rfl, ⟨nd, rfl⟩⟩; refine ⟨_, rfl, ?_⟩))
    go_ret
    exact ⟨by first | rfl | (simp; done) | (simp [*]; done), by repeat (first | exact Drawn0.refl _ | apply Drawn0.step)⟩
  rw [if_neg c9] at H
  have c9b0 : (a0 == 20) = false := beq_eq_false_iff_ne.mpr c9
  have c9b1 : (a0 != 20) = true := bne_iff_ne.mpr c9
  by_cases c11 : a0 = 21
  · rw [if_pos c11] at H
    have c11b0 : (a0 == 21) = true := beq_iff_eq.mpr c11
    have c11b1 : (a0 != 21) = false := bne_eq_false_iff_eq.mpr c11
    clear c11
    replace H := Option.bind_eq_some_iff.mp H
    obtain ⟨t140, A120, H⟩ := H
    replace H : (some t140) = some r := H
    have A12 := Aside0.mk A120
    clear A120
    obtain rfl := Option.some.inj H
    go_enter Try.func51, Try.ntmps51
    go_wp2_with (first | ((with_reducible refine gate_callee (f := 46) rfl ?_); refine goesL_ (some 36) rfl rfl Try.func46 (by kernel_rfl) rfl #[.bool (!(decide (a1 < a2)))] rfl (by (try simp only [List.map_toArray, List.map_cons, List.map_nil]); first | done | rfl | (simp only [List.length_drop, List.length_take]; rfl)) ?_; (with_reducible refine (damaskref04_truth.calls (!(decide (a1 < a2))) t140 _ A12.out).mono ?_); rintro e w' ⟨rfl, ⟨nd, rfl⟩⟩; refine ⟨_, rfl, ?_⟩))
    go_ret
    exact ⟨by first | rfl | (simp; done) | (simp [*]; done), by repeat (first | exact Drawn0.refl _ | apply Drawn0.step)⟩
  rw [if_neg c11] at H
  have c11b0 : (a0 == 21) = false := beq_eq_false_iff_ne.mpr c11
  have c11b1 : (a0 != 21) = true := bne_iff_ne.mpr c11
  by_cases c13 : a0 = 22
  · rw [if_pos c13] at H
    have c13b0 : (a0 == 22) = true := beq_iff_eq.mpr c13
    have c13b1 : (a0 != 22) = false := bne_eq_false_iff_eq.mpr c13
    clear c13
    replace H := Option.bind_eq_some_iff.mp H
    obtain ⟨t141, A140, H⟩ := H
    replace H : (some t141) = some r := H
    have A14 := Aside0.mk A140
    clear A140
    obtain rfl := Option.some.inj H
    go_enter Try.func51, Try.ntmps51
    go_wp2_with (first | ((with_reducible refine gate_callee (f := 46) rfl ?_); refine goesL_ (some 42) rfl rfl Try.func46 (by kernel_rfl) rfl #[.bool (a1 == a2)] rfl (by (try simp only [List.map_toArray, List.map_cons, List.map_nil]); first | done | rfl | (simp only [List.length_drop, List.length_take]; rfl)) ?_; (with_reducible refine (damaskref04_truth.calls (a1 == a2) t141 _ A14.out).mono ?_); rintro e w' ⟨rfl, ⟨nd, rfl⟩⟩; refine ⟨_, rfl, ?_⟩))
    go_ret
    exact ⟨by first | rfl | (simp; done) | (simp [*]; done), by repeat (first | exact Drawn0.refl _ | apply Drawn0.step)⟩
  rw [if_neg c13] at H
  have c13b0 : (a0 == 22) = false := beq_eq_false_iff_ne.mpr c13
  have c13b1 : (a0 != 22) = true := bne_iff_ne.mpr c13
  by_cases c15 : a0 = 23
  · rw [if_pos c15] at H
    have c15b0 : (a0 == 23) = true := beq_iff_eq.mpr c15
    have c15b1 : (a0 != 23) = false := bne_eq_false_iff_eq.mpr c15
    clear c15
    replace H := Option.bind_eq_some_iff.mp H
    obtain ⟨t142, A160, H⟩ := H
    replace H : (some t142) = some r := H
    have A16 := Aside0.mk A160
    clear A160
    obtain rfl := Option.some.inj H
    go_enter Try.func51, Try.ntmps51
    go_wp2_with (first | ((with_reducible refine gate_callee (f := 46) rfl ?_); refine goesL_ (some 48) rfl rfl Try.func46 (by kernel_rfl) rfl #[.bool (a1 != a2)] rfl (by (try simp only [List.map_toArray, List.map_cons, List.map_nil]); first | done | rfl | (simp only [List.length_drop, List.length_take]; rfl)) ?_; (with_reducible refine (damaskref04_truth.calls (a1 != a2) t142 _ A16.out).mono ?_); rintro e w' ⟨rfl, ⟨nd, rfl⟩⟩; refine ⟨_, rfl, ?_⟩))
    go_ret
    exact ⟨by first | rfl | (simp; done) | (simp [*]; done), by repeat (first | exact Drawn0.refl _ | apply Drawn0.step)⟩
  rw [if_neg c15] at H
  have c15b0 : (a0 == 23) = false := beq_eq_false_iff_ne.mpr c15
  have c15b1 : (a0 != 23) = true := bne_iff_ne.mpr c15
  by_cases c17 : a0 = 24
  · rw [if_pos c17] at H
    have c17b0 : (a0 == 24) = true := beq_iff_eq.mpr c17
    have c17b1 : (a0 != 24) = false := bne_eq_false_iff_eq.mpr c17
    clear c17
    by_cases c18 : a2 < a1
    · rw [if_pos c18] at H
      have c18b0 : decide (a2 < a1) = true := decide_eq_true c18
      clear c18
      obtain rfl := Option.some.inj H
      go_enter Try.func51, Try.ntmps51
      go_wp2
      go_ret
      exact ⟨by first | rfl | (simp; done) | (simp [*]; done), by repeat (first | exact Drawn0.refl _ | apply Drawn0.step)⟩
    rw [if_neg c18] at H
    have c18b0 : decide (a2 < a1) = false := decide_eq_false c18
    clear c18
    obtain rfl := Option.some.inj H
    go_enter Try.func51, Try.ntmps51
    go_wp2
    go_ret
    exact ⟨by first | rfl | (simp; done) | (simp [*]; done), by repeat (first | exact Drawn0.refl _ | apply Drawn0.step)⟩
  rw [if_neg c17] at H
  have c17b0 : (a0 == 24) = false := beq_eq_false_iff_ne.mpr c17
  have c17b1 : (a0 != 24) = true := bne_iff_ne.mpr c17
  by_cases c19 : a0 = 25
  · rw [if_pos c19] at H
    have c19b0 : (a0 == 25) = true := beq_iff_eq.mpr c19
    have c19b1 : (a0 != 25) = false := bne_eq_false_iff_eq.mpr c19
    clear c19
    by_cases c20 : a2 > a1
    · rw [if_pos c20] at H
      have c20b0 : decide (a1 < a2) = true := decide_eq_true c20
      clear c20
      obtain rfl := Option.some.inj H
      go_enter Try.func51, Try.ntmps51
      go_wp2
      go_ret
      exact ⟨by first | rfl | (simp; done) | (simp [*]; done), by repeat (first | exact Drawn0.refl _ | apply Drawn0.step)⟩
    rw [if_neg c20] at H
    have c20b0 : decide (a1 < a2) = false := decide_eq_false c20
    clear c20
    obtain rfl := Option.some.inj H
    go_enter Try.func51, Try.ntmps51
    go_wp2
    go_ret
    exact ⟨by first | rfl | (simp; done) | (simp [*]; done), by repeat (first | exact Drawn0.refl _ | apply Drawn0.step)⟩
  rw [if_neg c19] at H
  have c19b0 : (a0 == 25) = false := beq_eq_false_iff_ne.mpr c19
  have c19b1 : (a0 != 25) = true := bne_iff_ne.mpr c19
  by_cases c21 : a0 = 26
  · rw [if_pos c21] at H
    have c21b0 : (a0 == 26) = true := beq_iff_eq.mpr c21
    have c21b1 : (a0 != 26) = false := bne_eq_false_iff_eq.mpr c21
    clear c21
    have HC22 := Aside0.mk H
    clear H
    go_enter Try.func51, Try.ntmps51
    go_upto_if 68 with (fail)
    go_cut [9] (fun v9 wc => ∃ (kq : Nat) (x9_21 : Int), v9 = .int .i64 x9_21 ∧ Aside0 (damaskref04_chosen.j0 kq a3 x9_21 = some r) ∧ Aside0 (kq ≤ k) ∧ Drawn0 w wc)
    case first =>
      have H := HC22.out
      clear HC22
      by_cases c23 : a1 < a2
      · rw [if_pos c23] at H
        have c23b0 : decide (a1 < a2) = true := decide_eq_true c23
        clear c23
        (first | rw [c23b0] | (simp only [i64_w, i32_w]; rw [c23b0]) | skip)
        have H' := Aside0.mk H
        clear H
        go_wp2
        go_meet
        case rel => exact ⟨_, (a2), (by first | rfl | (simp; done) | (simp [*]; done)), H', ⟨by first | omega | exact Nat.le_refl _⟩, by repeat (first | exact Drawn0.refl _ | apply Drawn0.step)⟩
      rw [if_neg c23] at H
      have c23b0 : decide (a1 < a2) = false := decide_eq_false c23
      clear c23
      (first | rw [c23b0] | (simp only [i64_w, i32_w]; rw [c23b0]) | skip)
      have H' := Aside0.mk H
      clear H
      go_wp2
      go_meet
      case rel => exact ⟨_, (a1), (by first | rfl | (simp; done) | (simp [*]; done)), H', ⟨by first | omega | exact Nat.le_refl _⟩, by repeat (first | exact Drawn0.refl _ | apply Drawn0.step)⟩
    case rest =>
      clear HC22
      try clear c5
      try clear c5b0
      try clear c5b1
      try clear c7
      try clear c7b0
      try clear c7b1
      try clear c9
      try clear c9b0
      try clear c9b1
      try clear c11
      try clear c11b0
      try clear c11b1
      try clear c13
      try clear c13b0
      try clear c13b1
      try clear c15
      try clear c15b0
      try clear c15b1
      try clear c17
      try clear c17b0
      try clear c17b1
      try clear c18
      try clear c18b0
      try clear c19
      try clear c19b0
      try clear c19b1
      try clear c20
      try clear c20b0
      try clear c21
      try clear c21b0
      try clear c21b1
      try clear c23
      try clear c23b0
      obtain ⟨kq, x9_21, rfl, HA, HJ21, ⟨mc21, rfl⟩⟩ := hcut
      cases kq with
      | zero => exact absurd HA.out (by simp [damaskref04_chosen.j0])
      | succ kj21 =>
        have H := HA.out
        clear HA
        simp only [damaskref04_chosen.j0] at H
        by_cases c24 : x9_21 > a3
        · rw [if_pos c24] at H
          have c24b0 : decide (a3 < x9_21) = true := decide_eq_true c24
          clear c24
          obtain rfl := Option.some.inj H
          go_wp2
          go_ret
          exact ⟨by first | rfl | (simp; done) | (simp [*]; done), by repeat (first | exact Drawn0.refl _ | apply Drawn0.step)⟩
        rw [if_neg c24] at H
        have c24b0 : decide (a3 < x9_21) = false := decide_eq_false c24
        clear c24
        obtain rfl := Option.some.inj H
        go_wp2
        go_ret
        exact ⟨by first | rfl | (simp; done) | (simp [*]; done), by repeat (first | exact Drawn0.refl _ | apply Drawn0.step)⟩
  rw [if_neg c21] at H
  have c21b0 : (a0 == 26) = false := beq_eq_false_iff_ne.mpr c21
  have c21b1 : (a0 != 26) = true := bne_iff_ne.mpr c21
  by_cases c25 : a0 = 27
  · rw [if_pos c25] at H
    have c25b0 : (a0 == 27) = true := beq_iff_eq.mpr c25
    have c25b1 : (a0 != 27) = false := bne_eq_false_iff_eq.mpr c25
    clear c25
    have HC26 := Aside0.mk H
    clear H
    go_enter Try.func51, Try.ntmps51
    go_upto_region 30 with (fail)
    go_cut [94] (fun v94 wc => ∃ (kq : Nat) (x94_25 : Bool), v94 = .bool x94_25 ∧ Aside0 (damaskref04_chosen.j1 kq a1 a2 a3 x94_25 = some r) ∧ Aside0 (kq ≤ k) ∧ Drawn0 w wc)
    case first =>
      have H := HC26.out
      clear HC26
      by_cases c27 : a2 ≤ a1
      · rw [if_pos c27] at H
        have c27b0 : decide (a2 ≤ a1) = true := decide_eq_true c27
        clear c27
        (first | rw [c27b0] | (simp only [i64_w, i32_w]; rw [c27b0]) | skip)
        by_cases c28 : a1 ≤ a3
        · rw [if_pos c28] at H
          have c28b0 : decide (a1 ≤ a3) = true := decide_eq_true c28
          clear c28
          have H' := Aside0.mk H
          clear H
          go_wp2
          go_meet
          case rel => exact ⟨_, (true), (by first | rfl | (simp; done) | (simp [*]; done)), H', ⟨by first | omega | exact Nat.le_refl _⟩, by repeat (first | exact Drawn0.refl _ | apply Drawn0.step)⟩
        rw [if_neg c28] at H
        have c28b0 : decide (a1 ≤ a3) = false := decide_eq_false c28
        clear c28
        by_cases c29 : a3 ≤ a1
        · rw [if_pos c29] at H
          have c29b0 : decide (a3 ≤ a1) = true := decide_eq_true c29
          clear c29
          have H' := Aside0.mk H
          clear H
          go_wp2
          go_meet
          case rel => exact ⟨_, (decide (a1 ≤ a2)), (by first | rfl | (simp; done) | (simp [*]; done)), H', ⟨by first | omega | exact Nat.le_refl _⟩, by repeat (first | exact Drawn0.refl _ | apply Drawn0.step)⟩
        rw [if_neg c29] at H
        have c29b0 : decide (a3 ≤ a1) = false := decide_eq_false c29
        clear c29
        have H' := Aside0.mk H
        clear H
        go_wp2
        go_meet
        case rel => exact ⟨_, (false), (by first | rfl | (simp; done) | (simp [*]; done)), H', ⟨by first | omega | exact Nat.le_refl _⟩, by repeat (first | exact Drawn0.refl _ | apply Drawn0.step)⟩
      rw [if_neg c27] at H
      have c27b0 : decide (a2 ≤ a1) = false := decide_eq_false c27
      clear c27
      (first | rw [c27b0] | (simp only [i64_w, i32_w]; rw [c27b0]) | skip)
      by_cases c30 : a3 ≤ a1
      · rw [if_pos c30] at H
        have c30b0 : decide (a3 ≤ a1) = true := decide_eq_true c30
        clear c30
        have H' := Aside0.mk H
        clear H
        go_wp2
        go_meet
        case rel => exact ⟨_, (decide (a1 ≤ a2)), (by first | rfl | (simp; done) | (simp [*]; done)), H', ⟨by first | omega | exact Nat.le_refl _⟩, by repeat (first | exact Drawn0.refl _ | apply Drawn0.step)⟩
      rw [if_neg c30] at H
      have c30b0 : decide (a3 ≤ a1) = false := decide_eq_false c30
      clear c30
      have H' := Aside0.mk H
      clear H
      go_wp2
      go_meet
      case rel => exact ⟨_, (false), (by first | rfl | (simp; done) | (simp [*]; done)), H', ⟨by first | omega | exact Nat.le_refl _⟩, by repeat (first | exact Drawn0.refl _ | apply Drawn0.step)⟩
    case rest =>
      clear HC26
      try clear c5
      try clear c5b0
      try clear c5b1
      try clear c7
      try clear c7b0
      try clear c7b1
      try clear c9
      try clear c9b0
      try clear c9b1
      try clear c11
      try clear c11b0
      try clear c11b1
      try clear c13
      try clear c13b0
      try clear c13b1
      try clear c15
      try clear c15b0
      try clear c15b1
      try clear c17
      try clear c17b0
      try clear c17b1
      try clear c18
      try clear c18b0
      try clear c19
      try clear c19b0
      try clear c19b1
      try clear c20
      try clear c20b0
      try clear c21
      try clear c21b0
      try clear c21b1
      try clear c23
      try clear c23b0
      try clear c24
      try clear c24b0
      try clear c25
      try clear c25b0
      try clear c25b1
      try clear c27
      try clear c27b0
      try clear c28
      try clear c28b0
      try clear c29
      try clear c29b0
      try clear c30
      try clear c30b0
      obtain ⟨kq, x94_25, rfl, HA, HJ25, ⟨mc25, rfl⟩⟩ := hcut
      cases kq with
      | zero => exact absurd HA.out (by simp [damaskref04_chosen.j1])
      | succ kj25 =>
        have H := HA.out
        clear HA
        simp only [damaskref04_chosen.j1] at H
        by_cases c31 : x94_25 = true
        · subst c31
          have H1 : (some a1) = some r := by rw [if_pos rfl] at H; exact H
          clear H
          have H := H1
          clear H1
          obtain rfl := Option.some.inj H
          go_wp2
          go_ret
          exact ⟨by first | rfl | (simp; done) | (simp [*]; done), by repeat (first | exact Drawn0.refl _ | apply Drawn0.step)⟩
        replace c31 := Bool.eq_false_iff.mpr c31
        subst c31
        have H1 : (if a1 ≤ a2 then (if a2 ≤ a3 then (damaskref04_chosen.j2 kj25 a2 a3 true) else (if a3 ≤ a2 then (damaskref04_chosen.j2 kj25 a2 a3 (decide (a2 ≤ a1))) else (damaskref04_chosen.j2 kj25 a2 a3 false))) else (if a3 ≤ a2 then (damaskref04_chosen.j2 kj25 a2 a3 (decide (a2 ≤ a1))) else (damaskref04_chosen.j2 kj25 a2 a3 false))) = some r := by rw [if_neg (show ¬ (false = true) by decide)] at H; exact H
        clear H
        have H := H1
        clear H1
        have HC32 := Aside0.mk H
        clear H
        go_upto_region 32 with (fail)
        go_cut [113] (fun v113 wc => ∃ (kq : Nat) (x113_31 : Bool), v113 = .bool x113_31 ∧ Aside0 (damaskref04_chosen.j2 kq a2 a3 x113_31 = some r) ∧ Aside0 (kq ≤ kj25) ∧ Drawn0 w wc)
        case first =>
          have H := HC32.out
          clear HC32
          by_cases c33 : a1 ≤ a2
          · rw [if_pos c33] at H
            have c33b0 : decide (a1 ≤ a2) = true := decide_eq_true c33
            clear c33
            (first | rw [c33b0] | (simp only [i64_w, i32_w]; rw [c33b0]) | skip)
            by_cases c34 : a2 ≤ a3
            · rw [if_pos c34] at H
              have c34b0 : decide (a2 ≤ a3) = true := decide_eq_true c34
              clear c34
              have H' := Aside0.mk H
              clear H
              go_wp2
              go_meet
              case rel => exact ⟨_, (true), (by first | rfl | (simp; done) | (simp [*]; done)), H', ⟨by have := HJ25.out; first | omega | exact Nat.le_refl _⟩, by repeat (first | exact Drawn0.refl _ | apply Drawn0.step)⟩
            rw [if_neg c34] at H
            have c34b0 : decide (a2 ≤ a3) = false := decide_eq_false c34
            clear c34
            by_cases c35 : a3 ≤ a2
            · rw [if_pos c35] at H
              have c35b0 : decide (a3 ≤ a2) = true := decide_eq_true c35
              clear c35
              have H' := Aside0.mk H
              clear H
              go_wp2
              go_meet
              case rel => exact ⟨_, (decide (a2 ≤ a1)), (by first | rfl | (simp; done) | (simp [*]; done)), H', ⟨by have := HJ25.out; first | omega | exact Nat.le_refl _⟩, by repeat (first | exact Drawn0.refl _ | apply Drawn0.step)⟩
            rw [if_neg c35] at H
            have c35b0 : decide (a3 ≤ a2) = false := decide_eq_false c35
            clear c35
            have H' := Aside0.mk H
            clear H
            go_wp2
            go_meet
            case rel => exact ⟨_, (false), (by first | rfl | (simp; done) | (simp [*]; done)), H', ⟨by have := HJ25.out; first | omega | exact Nat.le_refl _⟩, by repeat (first | exact Drawn0.refl _ | apply Drawn0.step)⟩
          rw [if_neg c33] at H
          have c33b0 : decide (a1 ≤ a2) = false := decide_eq_false c33
          clear c33
          (first | rw [c33b0] | (simp only [i64_w, i32_w]; rw [c33b0]) | skip)
          by_cases c36 : a3 ≤ a2
          · rw [if_pos c36] at H
            have c36b0 : decide (a3 ≤ a2) = true := decide_eq_true c36
            clear c36
            have H' := Aside0.mk H
            clear H
            go_wp2
            go_meet
            case rel => exact ⟨_, (decide (a2 ≤ a1)), (by first | rfl | (simp; done) | (simp [*]; done)), H', ⟨by have := HJ25.out; first | omega | exact Nat.le_refl _⟩, by repeat (first | exact Drawn0.refl _ | apply Drawn0.step)⟩
          rw [if_neg c36] at H
          have c36b0 : decide (a3 ≤ a2) = false := decide_eq_false c36
          clear c36
          have H' := Aside0.mk H
          clear H
          go_wp2
          go_meet
          case rel => exact ⟨_, (false), (by first | rfl | (simp; done) | (simp [*]; done)), H', ⟨by have := HJ25.out; first | omega | exact Nat.le_refl _⟩, by repeat (first | exact Drawn0.refl _ | apply Drawn0.step)⟩
        case rest =>
          clear HC32
          try clear c5
          try clear c5b0
          try clear c5b1
          try clear c7
          try clear c7b0
          try clear c7b1
          try clear c9
          try clear c9b0
          try clear c9b1
          try clear c11
          try clear c11b0
          try clear c11b1
          try clear c13
          try clear c13b0
          try clear c13b1
          try clear c15
          try clear c15b0
          try clear c15b1
          try clear c17
          try clear c17b0
          try clear c17b1
          try clear c18
          try clear c18b0
          try clear c19
          try clear c19b0
          try clear c19b1
          try clear c20
          try clear c20b0
          try clear c21
          try clear c21b0
          try clear c21b1
          try clear c23
          try clear c23b0
          try clear c24
          try clear c24b0
          try clear c25
          try clear c25b0
          try clear c25b1
          try clear c27
          try clear c27b0
          try clear c28
          try clear c28b0
          try clear c29
          try clear c29b0
          try clear c30
          try clear c30b0
          try clear c31
          try clear c33
          try clear c33b0
          try clear c34
          try clear c34b0
          try clear c35
          try clear c35b0
          try clear c36
          try clear c36b0
          obtain ⟨kq, x113_31, rfl, HA, HJ31, ⟨mc31, rfl⟩⟩ := hcut
          cases kq with
          | zero => exact absurd HA.out (by simp [damaskref04_chosen.j2])
          | succ kj31 =>
            have H := HA.out
            clear HA
            simp only [damaskref04_chosen.j2] at H
            by_cases c37 : x113_31 = true
            · subst c37
              have H1 : (some a2) = some r := by rw [if_pos rfl] at H; exact H
              clear H
              have H := H1
              clear H1
              obtain rfl := Option.some.inj H
              go_wp2
              go_ret
              exact ⟨by first | rfl | (simp; done) | (simp [*]; done), by repeat (first | exact Drawn0.refl _ | apply Drawn0.step)⟩
            replace c37 := Bool.eq_false_iff.mpr c37
            subst c37
            have H1 : (some a3) = some r := by rw [if_neg (show ¬ (false = true) by decide)] at H; exact H
            clear H
            have H := H1
            clear H1
            obtain rfl := Option.some.inj H
            go_wp2
            go_ret
            exact ⟨by first | rfl | (simp; done) | (simp [*]; done), by repeat (first | exact Drawn0.refl _ | apply Drawn0.step)⟩
  rw [if_neg c25] at H
  have c25b0 : (a0 == 27) = false := beq_eq_false_iff_ne.mpr c25
  have c25b1 : (a0 != 27) = true := bne_iff_ne.mpr c25
  by_cases c38 : a1 = 0
  · rw [if_pos c38] at H
    have c38b0 : (a1 == 0) = true := beq_iff_eq.mpr c38
    have c38b1 : (a1 != 0) = false := bne_eq_false_iff_eq.mpr c38
    clear c38
    obtain rfl := Option.some.inj H
    go_enter Try.func51, Try.ntmps51
    go_wp2
    go_ret
    exact ⟨by first | rfl | (simp; done) | (simp [*]; done), by repeat (first | exact Drawn0.refl _ | apply Drawn0.step)⟩
  rw [if_neg c38] at H
  have c38b0 : (a1 == 0) = false := beq_eq_false_iff_ne.mpr c38
  have c38b1 : (a1 != 0) = true := bne_iff_ne.mpr c38
  obtain rfl := Option.some.inj H
  go_enter Try.func51, Try.ntmps51
  go_wp2
  go_ret
  exact ⟨by first | rfl | (simp; done) | (simp [*]; done), by repeat (first | exact Drawn0.refl _ | apply Drawn0.step)⟩

end Go.Proofs.Ytpnldhimlpilhaa.F
