/- Written by wip/myprint.py of this session, out of Lean's print of the program: what Go functions come to, and that their calls come to it; no condition. -/
import Derived.Test.YtpnldhimlpilhaaF0
import Derived.Test.YtpnldhimlpilhaaFdamaskref041
import Derived.Test.YtpnldhimlpilhaaFdamaskref042
import Derived.Test.YtpnldhimlpilhaaFdamaskref043
namespace Go.Proofs.Ytpnldhimlpilhaa.F
open Go.RowKit Go.Proofs.YtpnldhimlpilhaaW.PrintWords Go.Proofs.YtpnldhimlpilhaaW.PrintLast Go.Proofs.YtpnldhimlpilhaaW.PrintMore Go.Proofs.YtpnldhimlpilhaaW
attribute [local go_sem] max2_int min2_int max_two min_two max_three min_three max_four min_four   -- for this text's walks alone
set_option linter.unusedVariables false
set_option linter.unusedSimpArgs false

/-! ### damaskref04_plain: function 39 -/
mutual
def damaskref04_plain.j0 : Nat → Int → Int → Int → List Int → Int → Int → Int → Option (Int × Int)
  | 0, _, _, _, _, _, _, _ => none
  | k + 1, x0, x1, x2, x3, x10, x11, x12 => if (x3.length : Int) > 2 then (if 2 < (x3.length : Int) then (damaskref04_plain.j1 k x0 x1 x2 x10 x11 (rd x3 2)) else (none)) else (damaskref04_plain.j1 k x0 x1 x2 x10 x11 x12)
def damaskref04_plain.j1 : Nat → Int → Int → Int → Int → Int → Int → Option (Int × Int)
  | 0, _, _, _, _, _, _ => none
  | k + 1, x0, x1, x2, x10, x11, x12 => if x0 = 5 then (some (wrap64 (-x10), 0)) else (if x0 = 6 then ((damaskref04_size.f x10).bind fun t146 => (some (t146, 0))) else (if x0 = 7 then ((damaskref04_truth.f (decide (x10 > 0))).bind fun t147 => ((damaskref04_truth.f (decide (x10 < 0))).bind fun t148 => (some (wrap64 (t147 - t148), 0)))) else (if x0 = 8 then (some (wrap64 (x10 + x11), 0)) else (if x0 = 9 then (some (wrap64 (x10 - x11), 0)) else (if x0 = 10 then (some (wrap64 (x10 * x11), 0)) else (if x0 = 32 then (some (wrap64 (x10 * x1), 0)) else (if x0 = 11 then (damaskref04_plain.j2 k x0 x1 x2 x10 x11 x12 x0 (x0 == 11)) else (damaskref04_plain.j2 k x0 x1 x2 x10 x11 x12 x0 (x0 == 12)))))))))
def damaskref04_plain.j2 : Nat → Int → Int → Int → Int → Int → Int → Int → Bool → Option (Int × Int)
  | 0, _, _, _, _, _, _, _, _ => none
  | k + 1, x0, x1, x2, x10, x11, x12, x28, x66 => if x66 = true then (if x11 = 0 then (some (0, 12)) else (if x0 = 11 then ((damaskref04_divide.f x10 x11).bind fun t149 => (some (t149, 0))) else ((damaskref04_divide.f x10 x11).bind fun t150 => (some (wrap64 (x10 - (wrap64 (x11 * t150))), 0))))) else (if x28 = 13 then (damaskref04_plain.j3 k x0 x1 x2 x10 x11 x12 x28 (x28 == 13)) else (damaskref04_plain.j3 k x0 x1 x2 x10 x11 x12 x28 (x28 == 14)))
def damaskref04_plain.j3 : Nat → Int → Int → Int → Int → Int → Int → Int → Bool → Option (Int × Int)
  | 0, _, _, _, _, _, _, _, _ => none
  | k + 1, x0, x1, x2, x10, x11, x12, x28, x83 => if x83 = true then (if x11 < 0 then (damaskref04_plain.j4 k x0 x10 x11 true) else (damaskref04_plain.j4 k x0 x10 x11 (decide (x11 > 31)))) else (if x28 = 29 then ((damaskref04_Power.f k x1).bind fun t154 => (some (wrap64 (x10 * t154), 0))) else (if x28 = 30 then ((damaskref04_Power.f k x1).bind fun t155 => ((damaskref04_Floor.f x10 t155).bind fun t156 => (some (t156, 0)))) else (if x28 = 15 then (damaskref04_plain.j5 k x0 x1 x2 x10 x11 x12 x28 (x28 == 15)) else (if x28 = 16 then (damaskref04_plain.j5 k x0 x1 x2 x10 x11 x12 x28 (x28 == 16)) else (damaskref04_plain.j5 k x0 x1 x2 x10 x11 x12 x28 (x28 == 17))))))
def damaskref04_plain.j4 : Nat → Int → Int → Int → Bool → Option (Int × Int)
  | 0, _, _, _, _ => none
  | k + 1, x0, x10, x11, x91 => if x91 = true then (some (0, 13)) else (if x0 = 13 then ((damaskref04_Power.f k x11).bind fun t151 => (some (wrap64 (x10 * t151), 0))) else ((damaskref04_Power.f k x11).bind fun t152 => ((damaskref04_Floor.f x10 t152).bind fun t153 => (some (t153, 0)))))
def damaskref04_plain.j5 : Nat → Int → Int → Int → Int → Int → Int → Int → Bool → Option (Int × Int)
  | 0, _, _, _, _, _, _, _, _ => none
  | k + 1, x0, x1, x2, x10, x11, x12, x28, x114 => if x114 = true then ((damaskref04_bitwise.f k x0 x10 x11).bind fun t157 => (some (t157, 0))) else (if x28 = 31 then ((damaskref04_bitwise.f k 15 x10 x1).bind fun t158 => (some (t158, 0))) else (if x28 = 33 then (if x10 = 0 then (damaskref04_plain.j6 k x1 x2 x10 false) else ((damaskref04_size.f x10).bind fun t159 => (if t159 = 0 then (none) else (damaskref04_plain.j6 k x1 x2 x10 (decide (x1 > (wrap64 (Int.tdiv (4611686018427387904 : Int) t159)))))))) else ((damaskref04_chosen.f k x0 x10 x11 x12).bind fun t162 => (some (t162, 0)))))
def damaskref04_plain.j6 : Nat → Int → Int → Int → Bool → Option (Int × Int)
  | 0, _, _, _, _ => none
  | k + 1, x1, x2, x10, x137 => if x137 = true then (some (0, 13)) else ((damaskref04_Power.f k x2).bind fun t160 => ((damaskref04_Floor.f (wrap64 (x10 * x1)) t160).bind fun t161 => (some (t161, 0))))
end
def damaskref04_plain.f (k : Nat) (a0 : Int) (a1 : Int) (a2 : Int) (l3 : List Int) : Option (Int × Int) := if 0 < (l3.length : Int) then (if (l3.length : Int) > 1 then (if 1 < (l3.length : Int) then (damaskref04_plain.j0 k a0 a1 a2 l3 (rd l3 0) (rd l3 1) 0) else (none)) else (damaskref04_plain.j0 k a0 a1 a2 l3 (rd l3 0) 0 0)) else (none)
theorem damaskref04_plain.mono_l : ∀ k, (∀ y0 y1 y2 y3 y4 y5 y6, LeO (damaskref04_plain.j0 k y0 y1 y2 y3 y4 y5 y6) (damaskref04_plain.j0 (k + 1) y0 y1 y2 y3 y4 y5 y6)) ∧ (∀ y0 y1 y2 y3 y4 y5, LeO (damaskref04_plain.j1 k y0 y1 y2 y3 y4 y5) (damaskref04_plain.j1 (k + 1) y0 y1 y2 y3 y4 y5)) ∧ (∀ y0 y1 y2 y3 y4 y5 y6 y7, LeO (damaskref04_plain.j2 k y0 y1 y2 y3 y4 y5 y6 y7) (damaskref04_plain.j2 (k + 1) y0 y1 y2 y3 y4 y5 y6 y7)) ∧ (∀ y0 y1 y2 y3 y4 y5 y6 y7, LeO (damaskref04_plain.j3 k y0 y1 y2 y3 y4 y5 y6 y7) (damaskref04_plain.j3 (k + 1) y0 y1 y2 y3 y4 y5 y6 y7)) ∧ (∀ y0 y1 y2 y3, LeO (damaskref04_plain.j4 k y0 y1 y2 y3) (damaskref04_plain.j4 (k + 1) y0 y1 y2 y3)) ∧ (∀ y0 y1 y2 y3 y4 y5 y6 y7, LeO (damaskref04_plain.j5 k y0 y1 y2 y3 y4 y5 y6 y7) (damaskref04_plain.j5 (k + 1) y0 y1 y2 y3 y4 y5 y6 y7)) ∧ (∀ y0 y1 y2 y3, LeO (damaskref04_plain.j6 k y0 y1 y2 y3) (damaskref04_plain.j6 (k + 1) y0 y1 y2 y3))
  | 0 => ⟨fun _ _ _ _ _ _ _ r h => by simp [damaskref04_plain.j0] at h, fun _ _ _ _ _ _ r h => by simp [damaskref04_plain.j1] at h, fun _ _ _ _ _ _ _ _ r h => by simp [damaskref04_plain.j2] at h, fun _ _ _ _ _ _ _ _ r h => by simp [damaskref04_plain.j3] at h, fun _ _ _ _ r h => by simp [damaskref04_plain.j4] at h, fun _ _ _ _ _ _ _ _ r h => by simp [damaskref04_plain.j5] at h, fun _ _ _ _ r h => by simp [damaskref04_plain.j6] at h⟩
  | k + 1 => by
    obtain ⟨ih0, ih1, ih2, ih3, ih4, ih5, ih6⟩ := damaskref04_plain.mono_l k
    refine ⟨?_, ?_, ?_, ?_, ?_, ?_, ?_⟩
    · intro y0 y1 y2 y3 y4 y5 y6
      unfold damaskref04_plain.j0
      repeat' first
      | (with_reducible exact ih0 _ _ _ _ _ _ _)
      | (with_reducible exact ih1 _ _ _ _ _ _)
      | (with_reducible exact ih2 _ _ _ _ _ _ _ _)
      | (with_reducible exact ih3 _ _ _ _ _ _ _ _)
      | (with_reducible exact ih4 _ _ _ _)
      | (with_reducible exact ih5 _ _ _ _ _ _ _ _)
      | (with_reducible exact ih6 _ _ _ _)
      | (with_reducible exact damaskref04_Power.mono _ _)
      | (with_reducible exact damaskref04_bitwise.mono _ _ _ _)
      | (with_reducible exact damaskref04_chosen.mono _ _ _ _ _)
      | (with_reducible exact LeO.refl _)
      | (with_reducible exact LeO.none _)
      | (with_reducible refine LeO.ite ?_ ?_)
      | (with_reducible refine LeO.bind ?_ (fun _ => ?_))
      | exact ih0 _ _ _ _ _ _ _
      | exact ih1 _ _ _ _ _ _
      | exact ih2 _ _ _ _ _ _ _ _
      | exact ih3 _ _ _ _ _ _ _ _
      | exact ih4 _ _ _ _
      | exact ih5 _ _ _ _ _ _ _ _
      | exact ih6 _ _ _ _
      | exact damaskref04_Power.mono _ _
      | exact damaskref04_bitwise.mono _ _ _ _
      | exact damaskref04_chosen.mono _ _ _ _ _
      | exact LeO.none _
      | refine LeO.ite ?_ ?_
      | refine LeO.bind ?_ (fun _ => ?_)
    · intro y0 y1 y2 y3 y4 y5
      unfold damaskref04_plain.j1
      repeat' first
      | (with_reducible exact ih0 _ _ _ _ _ _ _)
      | (with_reducible exact ih1 _ _ _ _ _ _)
      | (with_reducible exact ih2 _ _ _ _ _ _ _ _)
      | (with_reducible exact ih3 _ _ _ _ _ _ _ _)
      | (with_reducible exact ih4 _ _ _ _)
      | (with_reducible exact ih5 _ _ _ _ _ _ _ _)
      | (with_reducible exact ih6 _ _ _ _)
      | (with_reducible exact damaskref04_Power.mono _ _)
      | (with_reducible exact damaskref04_bitwise.mono _ _ _ _)
      | (with_reducible exact damaskref04_chosen.mono _ _ _ _ _)
      | (with_reducible exact LeO.refl _)
      | (with_reducible exact LeO.none _)
      | (with_reducible refine LeO.ite ?_ ?_)
      | (with_reducible refine LeO.bind ?_ (fun _ => ?_))
      | exact ih0 _ _ _ _ _ _ _
      | exact ih1 _ _ _ _ _ _
      | exact ih2 _ _ _ _ _ _ _ _
      | exact ih3 _ _ _ _ _ _ _ _
      | exact ih4 _ _ _ _
      | exact ih5 _ _ _ _ _ _ _ _
      | exact ih6 _ _ _ _
      | exact damaskref04_Power.mono _ _
      | exact damaskref04_bitwise.mono _ _ _ _
      | exact damaskref04_chosen.mono _ _ _ _ _
      | exact LeO.none _
      | refine LeO.ite ?_ ?_
      | refine LeO.bind ?_ (fun _ => ?_)
    · intro y0 y1 y2 y3 y4 y5 y6 y7
      unfold damaskref04_plain.j2
      repeat' first
      | (with_reducible exact ih0 _ _ _ _ _ _ _)
      | (with_reducible exact ih1 _ _ _ _ _ _)
      | (with_reducible exact ih2 _ _ _ _ _ _ _ _)
      | (with_reducible exact ih3 _ _ _ _ _ _ _ _)
      | (with_reducible exact ih4 _ _ _ _)
      | (with_reducible exact ih5 _ _ _ _ _ _ _ _)
      | (with_reducible exact ih6 _ _ _ _)
      | (with_reducible exact damaskref04_Power.mono _ _)
      | (with_reducible exact damaskref04_bitwise.mono _ _ _ _)
      | (with_reducible exact damaskref04_chosen.mono _ _ _ _ _)
      | (with_reducible exact LeO.refl _)
      | (with_reducible exact LeO.none _)
      | (with_reducible refine LeO.ite ?_ ?_)
      | (with_reducible refine LeO.bind ?_ (fun _ => ?_))
      | exact ih0 _ _ _ _ _ _ _
      | exact ih1 _ _ _ _ _ _
      | exact ih2 _ _ _ _ _ _ _ _
      | exact ih3 _ _ _ _ _ _ _ _
      | exact ih4 _ _ _ _
      | exact ih5 _ _ _ _ _ _ _ _
      | exact ih6 _ _ _ _
      | exact damaskref04_Power.mono _ _
      | exact damaskref04_bitwise.mono _ _ _ _
      | exact damaskref04_chosen.mono _ _ _ _ _
      | exact LeO.none _
      | refine LeO.ite ?_ ?_
      | refine LeO.bind ?_ (fun _ => ?_)
    · intro y0 y1 y2 y3 y4 y5 y6 y7
      unfold damaskref04_plain.j3
      repeat' first
      | (with_reducible exact ih0 _ _ _ _ _ _ _)
      | (with_reducible exact ih1 _ _ _ _ _ _)
      | (with_reducible exact ih2 _ _ _ _ _ _ _ _)
      | (with_reducible exact ih3 _ _ _ _ _ _ _ _)
      | (with_reducible exact ih4 _ _ _ _)
      | (with_reducible exact ih5 _ _ _ _ _ _ _ _)
      | (with_reducible exact ih6 _ _ _ _)
      | (with_reducible exact damaskref04_Power.mono _ _)
      | (with_reducible exact damaskref04_bitwise.mono _ _ _ _)
      | (with_reducible exact damaskref04_chosen.mono _ _ _ _ _)
      | (with_reducible exact LeO.refl _)
      | (with_reducible exact LeO.none _)
      | (with_reducible refine LeO.ite ?_ ?_)
      | (with_reducible refine LeO.bind ?_ (fun _ => ?_))
      | exact ih0 _ _ _ _ _ _ _
      | exact ih1 _ _ _ _ _ _
      | exact ih2 _ _ _ _ _ _ _ _
      | exact ih3 _ _ _ _ _ _ _ _
      | exact ih4 _ _ _ _
      | exact ih5 _ _ _ _ _ _ _ _
      | exact ih6 _ _ _ _
      | exact damaskref04_Power.mono _ _
      | exact damaskref04_bitwise.mono _ _ _ _
      | exact damaskref04_chosen.mono _ _ _ _ _
      | exact LeO.none _
      | refine LeO.ite ?_ ?_
      | refine LeO.bind ?_ (fun _ => ?_)
    · intro y0 y1 y2 y3
      unfold damaskref04_plain.j4
      repeat' first
      | (with_reducible exact ih0 _ _ _ _ _ _ _)
      | (with_reducible exact ih1 _ _ _ _ _ _)
      | (with_reducible exact ih2 _ _ _ _ _ _ _ _)
      | (with_reducible exact ih3 _ _ _ _ _ _ _ _)
      | (with_reducible exact ih4 _ _ _ _)
      | (with_reducible exact ih5 _ _ _ _ _ _ _ _)
      | (with_reducible exact ih6 _ _ _ _)
      | (with_reducible exact damaskref04_Power.mono _ _)
      | (with_reducible exact damaskref04_bitwise.mono _ _ _ _)
      | (with_reducible exact damaskref04_chosen.mono _ _ _ _ _)
      | (with_reducible exact LeO.refl _)
      | (with_reducible exact LeO.none _)
      | (with_reducible refine LeO.ite ?_ ?_)
      | (with_reducible refine LeO.bind ?_ (fun _ => ?_))
      | exact ih0 _ _ _ _ _ _ _
      | exact ih1 _ _ _ _ _ _
      | exact ih2 _ _ _ _ _ _ _ _
      | exact ih3 _ _ _ _ _ _ _ _
      | exact ih4 _ _ _ _
      | exact ih5 _ _ _ _ _ _ _ _
      | exact ih6 _ _ _ _
      | exact damaskref04_Power.mono _ _
      | exact damaskref04_bitwise.mono _ _ _ _
      | exact damaskref04_chosen.mono _ _ _ _ _
      | exact LeO.none _
      | refine LeO.ite ?_ ?_
      | refine LeO.bind ?_ (fun _ => ?_)
    · intro y0 y1 y2 y3 y4 y5 y6 y7
      unfold damaskref04_plain.j5
      repeat' first
      | (with_reducible exact ih0 _ _ _ _ _ _ _)
      | (with_reducible exact ih1 _ _ _ _ _ _)
      | (with_reducible exact ih2 _ _ _ _ _ _ _ _)
      | (with_reducible exact ih3 _ _ _ _ _ _ _ _)
      | (with_reducible exact ih4 _ _ _ _)
      | (with_reducible exact ih5 _ _ _ _ _ _ _ _)
      | (with_reducible exact ih6 _ _ _ _)
      | (with_reducible exact damaskref04_Power.mono _ _)
      | (with_reducible exact damaskref04_bitwise.mono _ _ _ _)
      | (with_reducible exact damaskref04_chosen.mono _ _ _ _ _)
      | (with_reducible exact LeO.refl _)
      | (with_reducible exact LeO.none _)
      | (with_reducible refine LeO.ite ?_ ?_)
      | (with_reducible refine LeO.bind ?_ (fun _ => ?_))
      | exact ih0 _ _ _ _ _ _ _
      | exact ih1 _ _ _ _ _ _
      | exact ih2 _ _ _ _ _ _ _ _
      | exact ih3 _ _ _ _ _ _ _ _
      | exact ih4 _ _ _ _
      | exact ih5 _ _ _ _ _ _ _ _
      | exact ih6 _ _ _ _
      | exact damaskref04_Power.mono _ _
      | exact damaskref04_bitwise.mono _ _ _ _
      | exact damaskref04_chosen.mono _ _ _ _ _
      | exact LeO.none _
      | refine LeO.ite ?_ ?_
      | refine LeO.bind ?_ (fun _ => ?_)
    · intro y0 y1 y2 y3
      unfold damaskref04_plain.j6
      repeat' first
      | (with_reducible exact ih0 _ _ _ _ _ _ _)
      | (with_reducible exact ih1 _ _ _ _ _ _)
      | (with_reducible exact ih2 _ _ _ _ _ _ _ _)
      | (with_reducible exact ih3 _ _ _ _ _ _ _ _)
      | (with_reducible exact ih4 _ _ _ _)
      | (with_reducible exact ih5 _ _ _ _ _ _ _ _)
      | (with_reducible exact ih6 _ _ _ _)
      | (with_reducible exact damaskref04_Power.mono _ _)
      | (with_reducible exact damaskref04_bitwise.mono _ _ _ _)
      | (with_reducible exact damaskref04_chosen.mono _ _ _ _ _)
      | (with_reducible exact LeO.refl _)
      | (with_reducible exact LeO.none _)
      | (with_reducible refine LeO.ite ?_ ?_)
      | (with_reducible refine LeO.bind ?_ (fun _ => ?_))
      | exact ih0 _ _ _ _ _ _ _
      | exact ih1 _ _ _ _ _ _
      | exact ih2 _ _ _ _ _ _ _ _
      | exact ih3 _ _ _ _ _ _ _ _
      | exact ih4 _ _ _ _
      | exact ih5 _ _ _ _ _ _ _ _
      | exact ih6 _ _ _ _
      | exact damaskref04_Power.mono _ _
      | exact damaskref04_bitwise.mono _ _ _ _
      | exact damaskref04_chosen.mono _ _ _ _ _
      | exact LeO.none _
      | refine LeO.ite ?_ ?_
      | refine LeO.bind ?_ (fun _ => ?_)
theorem damaskref04_plain.mono : ∀ a0 a1 a2 a3 k, LeO (damaskref04_plain.f k a0 a1 a2 a3) (damaskref04_plain.f (k + 1) a0 a1 a2 a3) := by
  intro a0 a1 a2 a3 k
  obtain ⟨ih0, ih1, ih2, ih3, ih4, ih5, ih6⟩ := damaskref04_plain.mono_l k
  unfold damaskref04_plain.f
  repeat' first
      | (with_reducible exact ih0 _ _ _ _ _ _ _)
      | (with_reducible exact ih1 _ _ _ _ _ _)
      | (with_reducible exact ih2 _ _ _ _ _ _ _ _)
      | (with_reducible exact ih3 _ _ _ _ _ _ _ _)
      | (with_reducible exact ih4 _ _ _ _)
      | (with_reducible exact ih5 _ _ _ _ _ _ _ _)
      | (with_reducible exact ih6 _ _ _ _)
      | (with_reducible exact damaskref04_Power.mono _ _)
      | (with_reducible exact damaskref04_bitwise.mono _ _ _ _)
      | (with_reducible exact damaskref04_chosen.mono _ _ _ _ _)
      | (with_reducible exact LeO.refl _)
      | (with_reducible exact LeO.none _)
      | (with_reducible refine LeO.ite ?_ ?_)
      | (with_reducible refine LeO.bind ?_ (fun _ => ?_))
      | exact ih0 _ _ _ _ _ _ _
      | exact ih1 _ _ _ _ _ _
      | exact ih2 _ _ _ _ _ _ _ _
      | exact ih3 _ _ _ _ _ _ _ _
      | exact ih4 _ _ _ _
      | exact ih5 _ _ _ _ _ _ _ _
      | exact ih6 _ _ _ _
      | exact damaskref04_Power.mono _ _
      | exact damaskref04_bitwise.mono _ _ _ _
      | exact damaskref04_chosen.mono _ _ _ _ _
      | exact LeO.none _
      | refine LeO.ite ?_ ?_
      | refine LeO.bind ?_ (fun _ => ?_)
set_option maxHeartbeats 8000000 in
set_option maxRecDepth 100000 in
theorem damaskref04_plain.calls (k : Nat) (a0 : Int) (a1 : Int) (a2 : Int) (A3 : Option Addr) (c3 : Nat) (l3 : List Int) (r1 : Int) (r2 : Int) (w : World) (hr3 : Kd.C (Kd.int .i64) w A3 l3.length l3) (hc3 : l3.length ≤ c3) (h : damaskref04_plain.f k a0 a1 a2 l3 = some (r1, r2)) :
    Calls Try.prog 39 #[.int .i64 a0, .int .i64 a1, .int .i64 a2, .slice A3 l3.length c3] w fun e w' => e = .returned (.tuple #[.int .i64 r1, .int .i64 r2]) ∧ Drawn0 w w' := by
  have HR3 := Aside0.mk hr3
  have HC3 := Aside0.mk hc3
  clear hr3 hc3
  have H : (if 0 < (l3.length : Int) then (if (l3.length : Int) > 1 then (if 1 < (l3.length : Int) then (damaskref04_plain.j0 k a0 a1 a2 l3 (rd l3 0) (rd l3 1) 0) else (none)) else (damaskref04_plain.j0 k a0 a1 a2 l3 (rd l3 0) 0 0)) else (none)) = some (r1, r2) := h
  clear h
  by_cases c5 : 0 < (l3.length : Int)
  · rw [if_pos c5] at H
    have c5b0 : decide (0 < (l3.length : Int)) = true := decide_eq_true c5
    have c5b1 : decide (0 < l3.length) = true := decide_eq_true (by omega)
    clear c5
    have HC6 := Aside0.mk H
    clear H
    have p143 : 0 ≤ (0 : Int) := (by omega)
    have q143 : 0 < (l3.length : Int) := of_decide_eq_true (by first | (with_reducible assumption) | assumption)
    obtain ⟨ad143, e143, hx143_0⟩ := Kd.at_int HR3.out 0 p143 q143
    cases e143
    have qi143 : (0 < l3.length) = True := eq_true (by omega)
    (try rw [show ((0 : Int)).toNat = 0 from rfl] at hx143_0)
    (try rw [Addr.add_zero'] at hx143_0)
    replace p143 := eq_true p143
    replace q143 := eq_true q143
    go_enter Try.func39, Try.ntmps39
    go_upto_if 18 with (fail)
    go_cut [11] (fun v11 wc => ∃ (kq : Nat) (x11_5 : Int), v11 = .int .i64 x11_5 ∧ Aside0 (damaskref04_plain.j0 kq a0 a1 a2 l3 (rd l3 0) x11_5 0 = some (r1, r2)) ∧ Aside0 (kq ≤ k) ∧ Drawn0 w wc)
    case first =>
      have H := HC6.out
      clear HC6
      by_cases c7 : (l3.length : Int) > 1
      · rw [if_pos c7] at H
        have c7b0 : decide (1 < (l3.length : Int)) = true := decide_eq_true c7
        have c7b1 : decide (1 < l3.length) = true := decide_eq_true (by omega)
        clear c7
        (first | rw [c7b0] | (simp only [i64_w, i32_w]; rw [c7b0]) | skip)
        by_cases c8 : 1 < (l3.length : Int)
        · rw [if_pos c8] at H
          have c8b0 : decide (1 < (l3.length : Int)) = true := decide_eq_true c8
          have c8b1 : decide (1 < l3.length) = true := decide_eq_true (by omega)
          clear c8
          have H' := Aside0.mk H
          clear H
          have p144 : 0 ≤ (1 : Int) := (by omega)
          have q144 : 1 < (l3.length : Int) := of_decide_eq_true (by first | (with_reducible assumption) | assumption)
          obtain ⟨ad144, e144, hx144_0⟩ := Kd.at_int HR3.out 1 p144 q144
          obtain rfl : ad143 = ad144 := (by injection e144)
          (try simp only [show (1 : Int).toNat = 1 from rfl, Nat.reduceMul, Nat.reduceEqDiff, Go.Addr.add, ↓reduceIte] at hx144_0)
          have qi144 : (1 < l3.length) = True := eq_true (by omega)
          (try rw [show ((1 : Int)).toNat = 1 from rfl] at hx144_0)
          replace p144 := eq_true p144
          replace q144 := eq_true q144
          go_wp2
          go_meet
          case rel => exact ⟨_, (rd l3 1), (by first | rfl | (simp; done) | (simp [*]; done)), H', ⟨by first | omega | exact Nat.le_refl _⟩, by repeat (first | exact Drawn0.refl _ | apply Drawn0.step)⟩
        rw [if_neg c8] at H
        exact absurd H (by simp)
      rw [if_neg c7] at H
      have c7b0 : decide (1 < (l3.length : Int)) = false := decide_eq_false c7
      have c7b1 : decide (1 < l3.length) = false := decide_eq_false (by omega)
      clear c7
      (first | rw [c7b0] | (simp only [i64_w, i32_w]; rw [c7b0]) | skip)
      have H' := Aside0.mk H
      clear H
      go_wp2
      go_meet
      case rel => exact ⟨_, (0), (by first | rfl | (simp; done) | (simp [*]; done)), H', ⟨by first | omega | exact Nat.le_refl _⟩, by repeat (first | exact Drawn0.refl _ | apply Drawn0.step)⟩
    case rest =>
      clear HC6
      try clear c3
      try clear c5
      try clear c5b0
      try clear c5b1
      try clear c7
      try clear c7b0
      try clear c7b1
      try clear c8
      try clear c8b0
      try clear c8b1
      try clear hx143_0
      try clear hx144_0
      try clear p143
      try clear p144
      try clear q143
      try clear q144
      obtain ⟨kq, x11_5, rfl, HA, HJ5, ⟨mc5, rfl⟩⟩ := hcut
      cases kq with
      | zero => exact absurd HA.out (by simp [damaskref04_plain.j0])
      | succ kj5 =>
        have H := HA.out
        clear HA
        simp only [damaskref04_plain.j0] at H
        have HC9 := Aside0.mk H
        clear H
        go_upto_if 24 with (fail)
        go_cut [12] (fun v12 wc => ∃ (kq : Nat) (x12_8 : Int), v12 = .int .i64 x12_8 ∧ Aside0 (damaskref04_plain.j1 kq a0 a1 a2 (rd l3 0) x11_5 x12_8 = some (r1, r2)) ∧ Aside0 (kq ≤ kj5) ∧ Drawn0 w wc)
        case first =>
          have H := HC9.out
          clear HC9
          by_cases c10 : (l3.length : Int) > 2
          · rw [if_pos c10] at H
            have c10b0 : decide (2 < (l3.length : Int)) = true := decide_eq_true c10
            have c10b1 : decide (2 < l3.length) = true := decide_eq_true (by omega)
            clear c10
            (first | rw [c10b0] | (simp only [i64_w, i32_w]; rw [c10b0]) | skip)
            by_cases c11 : 2 < (l3.length : Int)
            · rw [if_pos c11] at H
              have c11b0 : decide (2 < (l3.length : Int)) = true := decide_eq_true c11
              have c11b1 : decide (2 < l3.length) = true := decide_eq_true (by omega)
              clear c11
              have H' := Aside0.mk H
              clear H
              have p145 : 0 ≤ (2 : Int) := (by omega)
              have q145 : 2 < (l3.length : Int) := of_decide_eq_true (by first | (with_reducible assumption) | assumption)
              obtain ⟨ad145, e145, hx145_0⟩ := Kd.at_int HR3.out 2 p145 q145
              obtain rfl : ad143 = ad145 := (by injection e145)
              (try simp only [show (2 : Int).toNat = 2 from rfl, Nat.reduceMul, Nat.reduceEqDiff, Go.Addr.add, ↓reduceIte] at hx145_0)
              have qi145 : (2 < l3.length) = True := eq_true (by omega)
              (try rw [show ((2 : Int)).toNat = 2 from rfl] at hx145_0)
              replace p145 := eq_true p145
              replace q145 := eq_true q145
              go_wp2
              go_meet
              case rel => exact ⟨_, (rd l3 2), (by first | rfl | (simp; done) | (simp [*]; done)), H', ⟨by have := HJ5.out; first | omega | exact Nat.le_refl _⟩, by repeat (first | exact Drawn0.refl _ | apply Drawn0.step)⟩
            rw [if_neg c11] at H
            exact absurd H (by simp)
          rw [if_neg c10] at H
          have c10b0 : decide (2 < (l3.length : Int)) = false := decide_eq_false c10
          have c10b1 : decide (2 < l3.length) = false := decide_eq_false (by omega)
          clear c10
          (first | rw [c10b0] | (simp only [i64_w, i32_w]; rw [c10b0]) | skip)
          have H' := Aside0.mk H
          clear H
          go_wp2
          go_meet
          case rel => exact ⟨_, (0), (by first | rfl | (simp; done) | (simp [*]; done)), H', ⟨by have := HJ5.out; first | omega | exact Nat.le_refl _⟩, by repeat (first | exact Drawn0.refl _ | apply Drawn0.step)⟩
        case rest =>
          clear HC9
          try clear c3
          try clear c5
          try clear c5b0
          try clear c5b1
          try clear c7
          try clear c7b0
          try clear c7b1
          try clear c8
          try clear c8b0
          try clear c8b1
          try clear c10
          try clear c10b0
          try clear c10b1
          try clear c11
          try clear c11b0
          try clear c11b1
          try clear hx143_0
          try clear hx144_0
          try clear hx145_0
          try clear p143
          try clear p144
          try clear p145
          try clear q143
          try clear q144
          try clear q145
          obtain ⟨kq, x12_8, rfl, HA, HJ8, ⟨mc8, rfl⟩⟩ := hcut
          cases kq with
          | zero => exact absurd HA.out (by simp [damaskref04_plain.j1])
          | succ kj8 =>
            have H := HA.out
            clear HA
            simp only [damaskref04_plain.j1] at H
            by_cases c12 : a0 = 5
            · rw [if_pos c12] at H
              have c12b0 : (a0 == 5) = true := beq_iff_eq.mpr c12
              have c12b1 : (a0 != 5) = false := bne_eq_false_iff_eq.mpr c12
              clear c12
              simp only [Option.some.injEq, Prod.mk.injEq] at H
              obtain ⟨rfl, rfl⟩ := H
              go_wp2
              go_ret2
              exact ⟨by first | rfl | (simp; done) | (simp [*]; done), by repeat (first | exact Drawn0.refl _ | apply Drawn0.step)⟩
            rw [if_neg c12] at H
            have c12b0 : (a0 == 5) = false := beq_eq_false_iff_ne.mpr c12
            have c12b1 : (a0 != 5) = true := bne_iff_ne.mpr c12
            by_cases c13 : a0 = 6
            · rw [if_pos c13] at H
              have c13b0 : (a0 == 6) = true := beq_iff_eq.mpr c13
              have c13b1 : (a0 != 6) = false := bne_eq_false_iff_eq.mpr c13
              clear c13
              replace H := Option.bind_eq_some_iff.mp H
              obtain ⟨t146, A140, H⟩ := H
              replace H : (some (t146, 0)) = some (r1, r2) := H
              have A14 := Aside0.mk A140
              clear A140
              simp only [Option.some.injEq, Prod.mk.injEq] at H
              obtain ⟨rfl, rfl⟩ := H
              go_wp2_with (first | ((with_reducible refine gate_callee (f := 45) rfl ?_); refine goesL_ (some 36) rfl rfl Try.func45 (by kernel_rfl) rfl #[.int .i64 (rd l3 0)] rfl (by (try simp only [List.map_toArray, List.map_cons, List.map_nil]); first | done | rfl | (simp only [List.length_drop, List.length_take]; rfl)) ?_; (with_reducible refine (damaskref04_size.calls (rd l3 0) t146 _ A14.out).mono ?_); rintro e w' ⟨rfl, ⟨nd, rfl⟩⟩; refine ⟨_, rfl, ?_⟩))
              go_ret2
              exact ⟨by first | rfl | (simp; done) | (simp [*]; done), by repeat (first | exact Drawn0.refl _ | apply Drawn0.step)⟩
            rw [if_neg c13] at H
            have c13b0 : (a0 == 6) = false := beq_eq_false_iff_ne.mpr c13
            have c13b1 : (a0 != 6) = true := bne_iff_ne.mpr c13
            by_cases c15 : a0 = 7
            · rw [if_pos c15] at H
              have c15b0 : (a0 == 7) = true := beq_iff_eq.mpr c15
              have c15b1 : (a0 != 7) = false := bne_eq_false_iff_eq.mpr c15
              clear c15
              replace H := Option.bind_eq_some_iff.mp H
              obtain ⟨t147, A160, H⟩ := H
              replace H : ((damaskref04_truth.f (decide ((rd l3 0) < 0))).bind fun t148 => (some (wrap64 (t147 - t148), 0))) = some (r1, r2) := H
              have A16 := Aside0.mk A160
              clear A160
              replace H := Option.bind_eq_some_iff.mp H
              obtain ⟨t148, A170, H⟩ := H
              replace H : (some (wrap64 (t147 - t148), 0)) = some (r1, r2) := H
              have A17 := Aside0.mk A170
              clear A170
              simp only [Option.some.injEq, Prod.mk.injEq] at H
              obtain ⟨rfl, rfl⟩ := H
              go_wp2_with (first | ((with_reducible refine gate_callee (f := 46) rfl ?_); refine goesL_ (some 41) rfl rfl Try.func46 (by kernel_rfl) rfl #[.bool (decide ((rd l3 0) > 0))] rfl (by (try simp only [List.map_toArray, List.map_cons, List.map_nil]); first | done | rfl | (simp only [List.length_drop, List.length_take]; rfl)) ?_; (with_reducible refine (damaskref04_truth.calls (decide ((rd l3 0) > 0)) t147 _ A16.out).mono ?_); rintro e w' ⟨rfl, ⟨nd, rfl⟩⟩; refine ⟨_, rfl, ?_⟩) | ((with_reducible refine gate_callee (f := 46) rfl ?_); refine goesL_ (some 44) rfl rfl Try.func46 (by kernel_rfl) rfl #[.bool (decide ((rd l3 0) < 0))] rfl (by (try simp only [List.map_toArray, List.map_cons, List.map_nil]); first | done | rfl | (simp only [List.length_drop, List.length_take]; rfl)) ?_; (with_reducible refine (damaskref04_truth.calls (decide ((rd l3 0) < 0)) t148 _ A17.out).mono ?_); rintro e w' ⟨rfl, ⟨nd, rfl⟩⟩; refine ⟨_, rfl, ?_⟩))
              go_ret2
              exact ⟨by first | rfl | (simp; done) | (simp [*]; done), by repeat (first | exact Drawn0.refl _ | apply Drawn0.step)⟩
            rw [if_neg c15] at H
            have c15b0 : (a0 == 7) = false := beq_eq_false_iff_ne.mpr c15
            have c15b1 : (a0 != 7) = true := bne_iff_ne.mpr c15
            by_cases c18 : a0 = 8
            · rw [if_pos c18] at H
              have c18b0 : (a0 == 8) = true := beq_iff_eq.mpr c18
              have c18b1 : (a0 != 8) = false := bne_eq_false_iff_eq.mpr c18
              clear c18
              simp only [Option.some.injEq, Prod.mk.injEq] at H
              obtain ⟨rfl, rfl⟩ := H
              go_wp2
              go_ret2
              exact ⟨by first | rfl | (simp; done) | (simp [*]; done), by repeat (first | exact Drawn0.refl _ | apply Drawn0.step)⟩
            rw [if_neg c18] at H
            have c18b0 : (a0 == 8) = false := beq_eq_false_iff_ne.mpr c18
            have c18b1 : (a0 != 8) = true := bne_iff_ne.mpr c18
            by_cases c19 : a0 = 9
            · rw [if_pos c19] at H
              have c19b0 : (a0 == 9) = true := beq_iff_eq.mpr c19
              have c19b1 : (a0 != 9) = false := bne_eq_false_iff_eq.mpr c19
              clear c19
              simp only [Option.some.injEq, Prod.mk.injEq] at H
              obtain ⟨rfl, rfl⟩ := H
              go_wp2
              go_ret2
              exact ⟨by first | rfl | (simp; done) | (simp [*]; done), by repeat (first | exact Drawn0.refl _ | apply Drawn0.step)⟩
            rw [if_neg c19] at H
            have c19b0 : (a0 == 9) = false := beq_eq_false_iff_ne.mpr c19
            have c19b1 : (a0 != 9) = true := bne_iff_ne.mpr c19
            by_cases c20 : a0 = 10
            · rw [if_pos c20] at H
              have c20b0 : (a0 == 10) = true := beq_iff_eq.mpr c20
              have c20b1 : (a0 != 10) = false := bne_eq_false_iff_eq.mpr c20
              clear c20
              simp only [Option.some.injEq, Prod.mk.injEq] at H
              obtain ⟨rfl, rfl⟩ := H
              go_wp2
              go_ret2
              exact ⟨by first | rfl | (simp; done) | (simp [*]; done), by repeat (first | exact Drawn0.refl _ | apply Drawn0.step)⟩
            rw [if_neg c20] at H
            have c20b0 : (a0 == 10) = false := beq_eq_false_iff_ne.mpr c20
            have c20b1 : (a0 != 10) = true := bne_iff_ne.mpr c20
            by_cases c21 : a0 = 32
            · rw [if_pos c21] at H
              have c21b0 : (a0 == 32) = true := beq_iff_eq.mpr c21
              have c21b1 : (a0 != 32) = false := bne_eq_false_iff_eq.mpr c21
              clear c21
              simp only [Option.some.injEq, Prod.mk.injEq] at H
              obtain ⟨rfl, rfl⟩ := H
              go_wp2
              go_ret2
              exact ⟨by first | rfl | (simp; done) | (simp [*]; done), by repeat (first | exact Drawn0.refl _ | apply Drawn0.step)⟩
            rw [if_neg c21] at H
            have c21b0 : (a0 == 32) = false := beq_eq_false_iff_ne.mpr c21
            have c21b1 : (a0 != 32) = true := bne_iff_ne.mpr c21
            have HC22 := Aside0.mk H
            clear H
            go_upto_if 66 with (fail)
            go_cut [66] (fun v66 wc => ∃ (kq : Nat) (x66_21 : Bool), v66 = .bool x66_21 ∧ Aside0 (damaskref04_plain.j2 kq a0 a1 a2 (rd l3 0) x11_5 x12_8 a0 x66_21 = some (r1, r2)) ∧ Aside0 (kq ≤ kj8) ∧ Drawn0 w wc)
            case first =>
              have H := HC22.out
              clear HC22
              by_cases c23 : a0 = 11
              · rw [if_pos c23] at H
                have c23b0 : (a0 == 11) = true := beq_iff_eq.mpr c23
                have c23b1 : (a0 != 11) = false := bne_eq_false_iff_eq.mpr c23
                clear c23
                (first | rw [c23b0] | (simp only [i64_w, i32_w]; rw [c23b0]) | skip)
                have H' := Aside0.mk H
                clear H
                go_wp2
                go_meet
                case rel => exact ⟨_, ((a0 == 11)), (by first | rfl | (simp; done) | (simp [*]; done)), H', ⟨by have := HJ5.out; have := HJ8.out; first | omega | exact Nat.le_refl _⟩, by repeat (first | exact Drawn0.refl _ | apply Drawn0.step)⟩
              rw [if_neg c23] at H
              have c23b0 : (a0 == 11) = false := beq_eq_false_iff_ne.mpr c23
              have c23b1 : (a0 != 11) = true := bne_iff_ne.mpr c23
              (first | rw [c23b0] | (simp only [i64_w, i32_w]; rw [c23b0]) | skip)
              have H' := Aside0.mk H
              clear H
              go_wp2
              go_meet
              case rel => exact ⟨_, ((a0 == 12)), (by first | rfl | (simp; done) | (simp [*]; done)), H', ⟨by have := HJ5.out; have := HJ8.out; first | omega | exact Nat.le_refl _⟩, by repeat (first | exact Drawn0.refl _ | apply Drawn0.step)⟩
            case rest =>
              clear HC22
              try clear c3
              try clear c5
              try clear c5b0
              try clear c5b1
              try clear c7
              try clear c7b0
              try clear c7b1
              try clear c8
              try clear c8b0
              try clear c8b1
              try clear c10
              try clear c10b0
              try clear c10b1
              try clear c11
              try clear c11b0
              try clear c11b1
              try clear c12
              try clear c12b0
              try clear c12b1
              try clear c13
              try clear c13b0
              try clear c13b1
              try clear c15
              try clear c15b0
              try clear c15b1
              try clear c18
              try clear c18b0
              try clear c18b1
              try clear c19
              try clear c19b0
              try clear c19b1
              try clear c20
              try clear c20b0
              try clear c20b1
              try clear c21
              try clear c21b0
              try clear c21b1
              try clear c23
              try clear c23b0
              try clear c23b1
              try clear hx143_0
              try clear hx144_0
              try clear hx145_0
              try clear p143
              try clear p144
              try clear p145
              try clear q143
              try clear q144
              try clear q145
              obtain ⟨kq, x66_21, rfl, HA, HJ21, ⟨mc21, rfl⟩⟩ := hcut
              cases kq with
              | zero => exact absurd HA.out (by simp [damaskref04_plain.j2])
              | succ kj21 =>
                have H := HA.out
                clear HA
                simp only [damaskref04_plain.j2] at H
                by_cases c24 : x66_21 = true
                · subst c24
                  have H1 : (if x11_5 = 0 then (some (0, 12)) else (if a0 = 11 then ((damaskref04_divide.f (rd l3 0) x11_5).bind fun t149 => (some (t149, 0))) else ((damaskref04_divide.f (rd l3 0) x11_5).bind fun t150 => (some (wrap64 ((rd l3 0) - (wrap64 (x11_5 * t150))), 0))))) = some (r1, r2) := by rw [if_pos rfl] at H; exact H
                  clear H
                  have H := H1
                  clear H1
                  by_cases c25 : x11_5 = 0
                  · rw [if_pos c25] at H
                    have c25b0 : (x11_5 == 0) = true := beq_iff_eq.mpr c25
                    have c25b1 : (x11_5 != 0) = false := bne_eq_false_iff_eq.mpr c25
                    clear c25
                    simp only [Option.some.injEq, Prod.mk.injEq] at H
                    obtain ⟨rfl, rfl⟩ := H
                    go_wp2
                    go_ret2
                    exact ⟨by first | rfl | (simp; done) | (simp [*]; done), by repeat (first | exact Drawn0.refl _ | apply Drawn0.step)⟩
                  rw [if_neg c25] at H
                  have c25b0 : (x11_5 == 0) = false := beq_eq_false_iff_ne.mpr c25
                  have c25b1 : (x11_5 != 0) = true := bne_iff_ne.mpr c25
                  by_cases c26 : a0 = 11
                  · rw [if_pos c26] at H
                    have c26b0 : (a0 == 11) = true := beq_iff_eq.mpr c26
                    have c26b1 : (a0 != 11) = false := bne_eq_false_iff_eq.mpr c26
                    clear c26
                    replace H := Option.bind_eq_some_iff.mp H
                    obtain ⟨t149, A270, H⟩ := H
                    replace H : (some (t149, 0)) = some (r1, r2) := H
                    have A27 := Aside0.mk A270
                    clear A270
                    simp only [Option.some.injEq, Prod.mk.injEq] at H
                    obtain ⟨rfl, rfl⟩ := H
                    go_wp2_with (first | ((with_reducible refine gate_callee (f := 47) rfl ?_); refine goesL_ (some 75) rfl rfl Try.func47 (by kernel_rfl) rfl #[.int .i64 (rd l3 0), .int .i64 x11_5] rfl (by (try simp only [List.map_toArray, List.map_cons, List.map_nil]); first | done | rfl | (simp only [List.length_drop, List.length_take]; rfl)) ?_; (with_reducible refine (damaskref04_divide.calls (rd l3 0) x11_5 t149 _ A27.out).mono ?_); rintro e w' ⟨rfl, ⟨nd, rfl⟩⟩; refine ⟨_, rfl, ?_⟩))
                    go_ret2
                    exact ⟨by first | rfl | (simp; done) | (simp [*]; done), by repeat (first | exact Drawn0.refl _ | apply Drawn0.step)⟩
                  rw [if_neg c26] at H
                  have c26b0 : (a0 == 11) = false := beq_eq_false_iff_ne.mpr c26
                  have c26b1 : (a0 != 11) = true := bne_iff_ne.mpr c26
                  replace H := Option.bind_eq_some_iff.mp H
                  obtain ⟨t150, A280, H⟩ := H
                  replace H : (some (wrap64 ((rd l3 0) - (wrap64 (x11_5 * t150))), 0)) = some (r1, r2) := H
                  have A28 := Aside0.mk A280
                  clear A280
                  simp only [Option.some.injEq, Prod.mk.injEq] at H
                  obtain ⟨rfl, rfl⟩ := H
                  go_wp2_with (first | ((with_reducible refine gate_callee (f := 47) rfl ?_); refine goesL_ (some 80) rfl rfl Try.func47 (by kernel_rfl) rfl #[.int .i64 (rd l3 0), .int .i64 x11_5] rfl (by (try simp only [List.map_toArray, List.map_cons, List.map_nil]); first | done | rfl | (simp only [List.length_drop, List.length_take]; rfl)) ?_; (with_reducible refine (damaskref04_divide.calls (rd l3 0) x11_5 t150 _ A28.out).mono ?_); rintro e w' ⟨rfl, ⟨nd, rfl⟩⟩; refine ⟨_, rfl, ?_⟩))
                  go_ret2
                  exact ⟨by first | rfl | (simp; done) | (simp [*]; done), by repeat (first | exact Drawn0.refl _ | apply Drawn0.step)⟩
                replace c24 := Bool.eq_false_iff.mpr c24
                subst c24
                have H1 : (if a0 = 13 then (damaskref04_plain.j3 kj21 a0 a1 a2 (rd l3 0) x11_5 x12_8 a0 (a0 == 13)) else (damaskref04_plain.j3 kj21 a0 a1 a2 (rd l3 0) x11_5 x12_8 a0 (a0 == 14))) = some (r1, r2) := by rw [if_neg (show ¬ (false = true) by decide)] at H; exact H
                clear H
                have H := H1
                clear H1
                have HC29 := Aside0.mk H
                clear H
                go_upto_if 83 with (fail)
                go_cut [83] (fun v83 wc => ∃ (kq : Nat) (x83_28 : Bool), v83 = .bool x83_28 ∧ Aside0 (damaskref04_plain.j3 kq a0 a1 a2 (rd l3 0) x11_5 x12_8 a0 x83_28 = some (r1, r2)) ∧ Aside0 (kq ≤ kj21) ∧ Drawn0 w wc)
                case first =>
                  have H := HC29.out
                  clear HC29
                  by_cases c30 : a0 = 13
                  · rw [if_pos c30] at H
                    have c30b0 : (a0 == 13) = true := beq_iff_eq.mpr c30
                    have c30b1 : (a0 != 13) = false := bne_eq_false_iff_eq.mpr c30
                    clear c30
                    (first | rw [c30b0] | (simp only [i64_w, i32_w]; rw [c30b0]) | skip)
                    have H' := Aside0.mk H
                    clear H
                    go_wp2
                    go_meet
                    case rel => exact ⟨_, ((a0 == 13)), (by first | rfl | (simp; done) | (simp [*]; done)), H', ⟨by have := HJ5.out; have := HJ8.out; have := HJ21.out; first | omega | exact Nat.le_refl _⟩, by repeat (first | exact Drawn0.refl _ | apply Drawn0.step)⟩
                  rw [if_neg c30] at H
                  have c30b0 : (a0 == 13) = false := beq_eq_false_iff_ne.mpr c30
                  have c30b1 : (a0 != 13) = true := bne_iff_ne.mpr c30
                  (first | rw [c30b0] | (simp only [i64_w, i32_w]; rw [c30b0]) | skip)
                  have H' := Aside0.mk H
                  clear H
                  go_wp2
                  go_meet
                  case rel => exact ⟨_, ((a0 == 14)), (by first | rfl | (simp; done) | (simp [*]; done)), H', ⟨by have := HJ5.out; have := HJ8.out; have := HJ21.out; first | omega | exact Nat.le_refl _⟩, by repeat (first | exact Drawn0.refl _ | apply Drawn0.step)⟩
                case rest =>
                  clear HC29
                  try clear c3
                  try clear c5
                  try clear c5b0
                  try clear c5b1
                  try clear c7
                  try clear c7b0
                  try clear c7b1
                  try clear c8
                  try clear c8b0
                  try clear c8b1
                  try clear c10
                  try clear c10b0
                  try clear c10b1
                  try clear c11
                  try clear c11b0
                  try clear c11b1
                  try clear c12
                  try clear c12b0
                  try clear c12b1
                  try clear c13
                  try clear c13b0
                  try clear c13b1
                  try clear c15
                  try clear c15b0
                  try clear c15b1
                  try clear c18
                  try clear c18b0
                  try clear c18b1
                  try clear c19
                  try clear c19b0
                  try clear c19b1
                  try clear c20
                  try clear c20b0
                  try clear c20b1
                  try clear c21
                  try clear c21b0
                  try clear c21b1
                  try clear c23
                  try clear c23b0
                  try clear c23b1
                  try clear c24
                  try clear c25
                  try clear c25b0
                  try clear c25b1
                  try clear c26
                  try clear c26b0
                  try clear c26b1
                  try clear c30
                  try clear c30b0
                  try clear c30b1
                  try clear hx143_0
                  try clear hx144_0
                  try clear hx145_0
                  try clear p143
                  try clear p144
                  try clear p145
                  try clear q143
                  try clear q144
                  try clear q145
                  obtain ⟨kq, x83_28, rfl, HA, HJ28, ⟨mc28, rfl⟩⟩ := hcut
                  cases kq with
                  | zero => exact absurd HA.out (by simp [damaskref04_plain.j3])
                  | succ kj28 =>
                    have H := HA.out
                    clear HA
                    simp only [damaskref04_plain.j3] at H
                    by_cases c31 : x83_28 = true
                    · subst c31
                      have H1 : (if x11_5 < 0 then (damaskref04_plain.j4 kj28 a0 (rd l3 0) x11_5 true) else (damaskref04_plain.j4 kj28 a0 (rd l3 0) x11_5 (decide (x11_5 > 31)))) = some (r1, r2) := by rw [if_pos rfl] at H; exact H
                      clear H
                      have H := H1
                      clear H1
                      have HC32 := Aside0.mk H
                      clear H
                      go_upto_region 31 with (fail)
                      go_cut [91] (fun v91 wc => ∃ (kq : Nat) (x91_31 : Bool), v91 = .bool x91_31 ∧ Aside0 (damaskref04_plain.j4 kq a0 (rd l3 0) x11_5 x91_31 = some (r1, r2)) ∧ Aside0 (kq ≤ kj28) ∧ Drawn0 w wc)
                      case first =>
                        have H := HC32.out
                        clear HC32
                        by_cases c33 : x11_5 < 0
                        · rw [if_pos c33] at H
                          have c33b0 : decide (x11_5 < 0) = true := decide_eq_true c33
                          clear c33
                          (first | rw [c33b0] | (simp only [i64_w, i32_w]; rw [c33b0]) | skip)
                          have H' := Aside0.mk H
                          clear H
                          go_wp2
                          go_meet
                          case rel => exact ⟨_, (true), (by first | rfl | (simp; done) | (simp [*]; done)), H', ⟨by have := HJ5.out; have := HJ8.out; have := HJ21.out; have := HJ28.out; first | omega | exact Nat.le_refl _⟩, by repeat (first | exact Drawn0.refl _ | apply Drawn0.step)⟩
                        rw [if_neg c33] at H
                        have c33b0 : decide (x11_5 < 0) = false := decide_eq_false c33
                        clear c33
                        (first | rw [c33b0] | (simp only [i64_w, i32_w]; rw [c33b0]) | skip)
                        have H' := Aside0.mk H
                        clear H
                        go_wp2
                        go_meet
                        case rel => exact ⟨_, (decide (x11_5 > 31)), (by first | rfl | (simp; done) | (simp [*]; done)), H', ⟨by have := HJ5.out; have := HJ8.out; have := HJ21.out; have := HJ28.out; first | omega | exact Nat.le_refl _⟩, by repeat (first | exact Drawn0.refl _ | apply Drawn0.step)⟩
                      case rest =>
                        clear HC32
                        try clear c3
                        try clear c5
                        try clear c5b0
                        try clear c5b1
                        try clear c7
                        try clear c7b0
                        try clear c7b1
                        try clear c8
                        try clear c8b0
                        try clear c8b1
                        try clear c10
                        try clear c10b0
                        try clear c10b1
                        try clear c11
                        try clear c11b0
                        try clear c11b1
                        try clear c12
                        try clear c12b0
                        try clear c12b1
                        try clear c13
                        try clear c13b0
                        try clear c13b1
                        try clear c15
                        try clear c15b0
                        try clear c15b1
                        try clear c18
                        try clear c18b0
                        try clear c18b1
                        try clear c19
                        try clear c19b0
                        try clear c19b1
                        try clear c20
                        try clear c20b0
                        try clear c20b1
                        try clear c21
                        try clear c21b0
                        try clear c21b1
                        try clear c23
                        try clear c23b0
                        try clear c23b1
                        try clear c24
                        try clear c25
                        try clear c25b0
                        try clear c25b1
                        try clear c26
                        try clear c26b0
                        try clear c26b1
                        try clear c30
                        try clear c30b0
                        try clear c30b1
                        try clear c31
                        try clear c33
                        try clear c33b0
                        try clear hx143_0
                        try clear hx144_0
                        try clear hx145_0
                        try clear p143
                        try clear p144
                        try clear p145
                        try clear q143
                        try clear q144
                        try clear q145
                        obtain ⟨kq, x91_31, rfl, HA, HJ31, ⟨mc31, rfl⟩⟩ := hcut
                        cases kq with
                        | zero => exact absurd HA.out (by simp [damaskref04_plain.j4])
                        | succ kj31 =>
                          have H := HA.out
                          clear HA
                          simp only [damaskref04_plain.j4] at H
                          by_cases c34 : x91_31 = true
                          · subst c34
                            have H1 : (some (0, 13)) = some (r1, r2) := by rw [if_pos rfl] at H; exact H
                            clear H
                            have H := H1
                            clear H1
                            simp only [Option.some.injEq, Prod.mk.injEq] at H
                            obtain ⟨rfl, rfl⟩ := H
                            go_wp2
                            go_ret2
                            exact ⟨by first | rfl | (simp; done) | (simp [*]; done), by repeat (first | exact Drawn0.refl _ | apply Drawn0.step)⟩
                          replace c34 := Bool.eq_false_iff.mpr c34
                          subst c34
                          have H1 : (if a0 = 13 then ((damaskref04_Power.f kj31 x11_5).bind fun t151 => (some (wrap64 ((rd l3 0) * t151), 0))) else ((damaskref04_Power.f kj31 x11_5).bind fun t152 => ((damaskref04_Floor.f (rd l3 0) t152).bind fun t153 => (some (t153, 0))))) = some (r1, r2) := by rw [if_neg (show ¬ (false = true) by decide)] at H; exact H
                          clear H
                          have H := H1
                          clear H1
                          by_cases c35 : a0 = 13
                          · rw [if_pos c35] at H
                            have c35b0 : (a0 == 13) = true := beq_iff_eq.mpr c35
                            have c35b1 : (a0 != 13) = false := bne_eq_false_iff_eq.mpr c35
                            clear c35
                            replace H := Option.bind_eq_some_iff.mp H
                            obtain ⟨t151, A360, H⟩ := H
                            replace H : (some (wrap64 ((rd l3 0) * t151), 0)) = some (r1, r2) := H
                            have A36 := Aside0.mk A360
                            clear A360
                            simp only [Option.some.injEq, Prod.mk.injEq] at H
                            obtain ⟨rfl, rfl⟩ := H
                            go_wp2_with (first | ((with_reducible refine gate_callee (f := 48) rfl ?_); refine goesL_ (some 96) rfl rfl Try.func48 (by kernel_rfl) rfl #[.int .i64 x11_5] rfl (by (try simp only [List.map_toArray, List.map_cons, List.map_nil]); first | done | rfl | (simp only [List.length_drop, List.length_take]; rfl)) ?_; (with_reducible refine (damaskref04_Power.calls kj31 x11_5 t151 _ A36.out).mono ?_); rintro e w' ⟨rfl, ⟨nd, rfl⟩⟩; refine ⟨_, rfl, ?_⟩))
                            go_ret2
                            exact ⟨by first | rfl | (simp; done) | (simp [*]; done), by repeat (first | exact Drawn0.refl _ | apply Drawn0.step)⟩
                          rw [if_neg c35] at H
                          have c35b0 : (a0 == 13) = false := beq_eq_false_iff_ne.mpr c35
                          have c35b1 : (a0 != 13) = true := bne_iff_ne.mpr c35
                          replace H := Option.bind_eq_some_iff.mp H
                          obtain ⟨t152, A370, H⟩ := H
                          replace H : ((damaskref04_Floor.f (rd l3 0) t152).bind fun t153 => (some (t153, 0))) = some (r1, r2) := H
                          have A37 := Aside0.mk A370
                          clear A370
                          replace H := Option.bind_eq_some_iff.mp H
                          obtain ⟨t153, A380, H⟩ := H
                          replace H : (some (t153, 0)) = some (r1, r2) := H
                          have A38 := Aside0.mk A380
                          clear A380
                          simp only [Option.some.injEq, Prod.mk.injEq] at H
                          obtain ⟨rfl, rfl⟩ := H
                          go_wp2_with (first | ((with_reducible refine gate_callee (f := 48) rfl ?_); refine goesL_ (some 100) rfl rfl Try.func48 (by kernel_rfl) rfl #[.int .i64 x11_5] rfl (by (try simp only [List.map_toArray, List.map_cons, List.map_nil]); first | done | rfl | (simp only [List.length_drop, List.length_take]; rfl)) ?_; (with_reducible refine (damaskref04_Power.calls kj31 x11_5 t152 _ A37.out).mono ?_); rintro e w' ⟨rfl, ⟨nd, rfl⟩⟩; refine ⟨_, rfl, ?_⟩) | ((with_reducible refine gate_callee (f := 49) rfl ?_); refine goesL_ (some 101) rfl rfl Try.func49 (by kernel_rfl) rfl #[.int .i64 (rd l3 0), .int .i64 t152] rfl (by (try simp only [List.map_toArray, List.map_cons, List.map_nil]); first | done | rfl | (simp only [List.length_drop, List.length_take]; rfl)) ?_; (with_reducible refine (damaskref04_Floor.calls (rd l3 0) t152 t153 _ A38.out).mono ?_); rintro e w' ⟨rfl, ⟨nd, rfl⟩⟩; refine ⟨_, rfl, ?_⟩))
                          go_ret2
                          exact ⟨by first | rfl | (simp; done) | (simp [*]; done), by repeat (first | exact Drawn0.refl _ | apply Drawn0.step)⟩
                    replace c31 := Bool.eq_false_iff.mpr c31
                    subst c31
                    have H1 : (if a0 = 29 then ((damaskref04_Power.f kj28 a1).bind fun t154 => (some (wrap64 ((rd l3 0) * t154), 0))) else (if a0 = 30 then ((damaskref04_Power.f kj28 a1).bind fun t155 => ((damaskref04_Floor.f (rd l3 0) t155).bind fun t156 => (some (t156, 0)))) else (if a0 = 15 then (damaskref04_plain.j5 kj28 a0 a1 a2 (rd l3 0) x11_5 x12_8 a0 (a0 == 15)) else (if a0 = 16 then (damaskref04_plain.j5 kj28 a0 a1 a2 (rd l3 0) x11_5 x12_8 a0 (a0 == 16)) else (damaskref04_plain.j5 kj28 a0 a1 a2 (rd l3 0) x11_5 x12_8 a0 (a0 == 17)))))) = some (r1, r2) := by rw [if_neg (show ¬ (false = true) by decide)] at H; exact H
                    clear H
                    have H := H1
                    clear H1
                    by_cases c39 : a0 = 29
                    · rw [if_pos c39] at H
                      have c39b0 : (a0 == 29) = true := beq_iff_eq.mpr c39
                      have c39b1 : (a0 != 29) = false := bne_eq_false_iff_eq.mpr c39
                      clear c39
                      replace H := Option.bind_eq_some_iff.mp H
                      obtain ⟨t154, A400, H⟩ := H
                      replace H : (some (wrap64 ((rd l3 0) * t154), 0)) = some (r1, r2) := H
                      have A40 := Aside0.mk A400
                      clear A400
                      simp only [Option.some.injEq, Prod.mk.injEq] at H
                      obtain ⟨rfl, rfl⟩ := H
                      go_wp2_with (first | ((with_reducible refine gate_callee (f := 48) rfl ?_); refine goesL_ (some 106) rfl rfl Try.func48 (by kernel_rfl) rfl #[.int .i64 a1] rfl (by (try simp only [List.map_toArray, List.map_cons, List.map_nil]); first | done | rfl | (simp only [List.length_drop, List.length_take]; rfl)) ?_; (with_reducible refine (damaskref04_Power.calls kj28 a1 t154 _ A40.out).mono ?_); rintro e w' ⟨rfl, ⟨nd, rfl⟩⟩; refine ⟨_, rfl, ?_⟩))
                      go_ret2
                      exact ⟨by first | rfl | (simp; done) | (simp [*]; done), by repeat (first | exact Drawn0.refl _ | apply Drawn0.step)⟩
                    rw [if_neg c39] at H
                    have c39b0 : (a0 == 29) = false := beq_eq_false_iff_ne.mpr c39
                    have c39b1 : (a0 != 29) = true := bne_iff_ne.mpr c39
                    by_cases c41 : a0 = 30
                    · rw [if_pos c41] at H
                      have c41b0 : (a0 == 30) = true := beq_iff_eq.mpr c41
                      have c41b1 : (a0 != 30) = false := bne_eq_false_iff_eq.mpr c41
                      clear c41
                      replace H := Option.bind_eq_some_iff.mp H
                      obtain ⟨t155, A420, H⟩ := H
                      replace H : ((damaskref04_Floor.f (rd l3 0) t155).bind fun t156 => (some (t156, 0))) = some (r1, r2) := H
                      have A42 := Aside0.mk A420
                      clear A420
                      replace H := Option.bind_eq_some_iff.mp H
                      obtain ⟨t156, A430, H⟩ := H
                      replace H : (some (t156, 0)) = some (r1, r2) := H
                      have A43 := Aside0.mk A430
                      clear A430
                      simp only [Option.some.injEq, Prod.mk.injEq] at H
                      obtain ⟨rfl, rfl⟩ := H
                      go_wp2_with (first | ((with_reducible refine gate_callee (f := 48) rfl ?_); refine goesL_ (some 112) rfl rfl Try.func48 (by kernel_rfl) rfl #[.int .i64 a1] rfl (by (try simp only [List.map_toArray, List.map_cons, List.map_nil]); first | done | rfl | (simp only [List.length_drop, List.length_take]; rfl)) ?_; (with_reducible refine (damaskref04_Power.calls kj28 a1 t155 _ A42.out).mono ?_); rintro e w' ⟨rfl, ⟨nd, rfl⟩⟩; refine ⟨_, rfl, ?_⟩) | ((with_reducible refine gate_callee (f := 49) rfl ?_); refine goesL_ (some 113) rfl rfl Try.func49 (by kernel_rfl) rfl #[.int .i64 (rd l3 0), .int .i64 t155] rfl (by (try simp only [List.map_toArray, List.map_cons, List.map_nil]); first | done | rfl | (simp only [List.length_drop, List.length_take]; rfl)) ?_; (with_reducible refine (damaskref04_Floor.calls (rd l3 0) t155 t156 _ A43.out).mono ?_); rintro e w' ⟨rfl, ⟨nd, rfl⟩⟩; refine ⟨_, rfl, ?_⟩))
                      go_ret2
                      exact ⟨by first | rfl | (simp; done) | (simp [*]; done), by repeat (first | exact Drawn0.refl _ | apply Drawn0.step)⟩
                    rw [if_neg c41] at H
                    have c41b0 : (a0 == 30) = false := beq_eq_false_iff_ne.mpr c41
                    have c41b1 : (a0 != 30) = true := bne_iff_ne.mpr c41
                    have HC44 := Aside0.mk H
                    clear H
                    go_upto_if 114 with (fail)
                    go_cut [114] (fun v114 wc => ∃ (kq : Nat) (x114_43 : Bool), v114 = .bool x114_43 ∧ Aside0 (damaskref04_plain.j5 kq a0 a1 a2 (rd l3 0) x11_5 x12_8 a0 x114_43 = some (r1, r2)) ∧ Aside0 (kq ≤ kj28) ∧ Drawn0 w wc)
                    case first =>
                      have H := HC44.out
                      clear HC44
                      by_cases c45 : a0 = 15
                      · rw [if_pos c45] at H
                        have c45b0 : (a0 == 15) = true := beq_iff_eq.mpr c45
                        have c45b1 : (a0 != 15) = false := bne_eq_false_iff_eq.mpr c45
                        clear c45
                        (first | rw [c45b0] | (simp only [i64_w, i32_w]; rw [c45b0]) | skip)
                        have H' := Aside0.mk H
                        clear H
                        go_wp2
                        go_meet
                        case rel => exact ⟨_, ((a0 == 15)), (by first | rfl | (simp; done) | (simp [*]; done)), H', ⟨by have := HJ5.out; have := HJ8.out; have := HJ21.out; have := HJ28.out; first | omega | exact Nat.le_refl _⟩, by repeat (first | exact Drawn0.refl _ | apply Drawn0.step)⟩
                      rw [if_neg c45] at H
                      have c45b0 : (a0 == 15) = false := beq_eq_false_iff_ne.mpr c45
                      have c45b1 : (a0 != 15) = true := bne_iff_ne.mpr c45
                      (first | rw [c45b0] | (simp only [i64_w, i32_w]; rw [c45b0]) | skip)
                      by_cases c46 : a0 = 16
                      · rw [if_pos c46] at H
                        have c46b0 : (a0 == 16) = true := beq_iff_eq.mpr c46
                        have c46b1 : (a0 != 16) = false := bne_eq_false_iff_eq.mpr c46
                        clear c46
                        have H' := Aside0.mk H
                        clear H
                        go_wp2
                        go_meet
                        case rel => exact ⟨_, ((a0 == 16)), (by first | rfl | (simp; done) | (simp [*]; done)), H', ⟨by have := HJ5.out; have := HJ8.out; have := HJ21.out; have := HJ28.out; first | omega | exact Nat.le_refl _⟩, by repeat (first | exact Drawn0.refl _ | apply Drawn0.step)⟩
                      rw [if_neg c46] at H
                      have c46b0 : (a0 == 16) = false := beq_eq_false_iff_ne.mpr c46
                      have c46b1 : (a0 != 16) = true := bne_iff_ne.mpr c46
                      have H' := Aside0.mk H
                      clear H
                      go_wp2
                      go_meet
                      case rel => exact ⟨_, ((a0 == 17)), (by first | rfl | (simp; done) | (simp [*]; done)), H', ⟨by have := HJ5.out; have := HJ8.out; have := HJ21.out; have := HJ28.out; first | omega | exact Nat.le_refl _⟩, by repeat (first | exact Drawn0.refl _ | apply Drawn0.step)⟩
                    case rest =>
                      clear HC44
                      try clear c3
                      try clear c5
                      try clear c5b0
                      try clear c5b1
                      try clear c7
                      try clear c7b0
                      try clear c7b1
                      try clear c8
                      try clear c8b0
                      try clear c8b1
                      try clear c10
                      try clear c10b0
                      try clear c10b1
                      try clear c11
                      try clear c11b0
                      try clear c11b1
                      try clear c12
                      try clear c12b0
                      try clear c12b1
                      try clear c13
                      try clear c13b0
                      try clear c13b1
                      try clear c15
                      try clear c15b0
                      try clear c15b1
                      try clear c18
                      try clear c18b0
                      try clear c18b1
                      try clear c19
                      try clear c19b0
                      try clear c19b1
                      try clear c20
                      try clear c20b0
                      try clear c20b1
                      try clear c21
                      try clear c21b0
                      try clear c21b1
                      try clear c23
                      try clear c23b0
                      try clear c23b1
                      try clear c24
                      try clear c25
                      try clear c25b0
                      try clear c25b1
                      try clear c26
                      try clear c26b0
                      try clear c26b1
                      try clear c30
                      try clear c30b0
                      try clear c30b1
                      try clear c31
                      try clear c33
                      try clear c33b0
                      try clear c34
                      try clear c35
                      try clear c35b0
                      try clear c35b1
                      try clear c39
                      try clear c39b0
                      try clear c39b1
                      try clear c41
                      try clear c41b0
                      try clear c41b1
                      try clear c45
                      try clear c45b0
                      try clear c45b1
                      try clear c46
                      try clear c46b0
                      try clear c46b1
                      try clear hx143_0
                      try clear hx144_0
                      try clear hx145_0
                      try clear p143
                      try clear p144
                      try clear p145
                      try clear q143
                      try clear q144
                      try clear q145
                      obtain ⟨kq, x114_43, rfl, HA, HJ43, ⟨mc43, rfl⟩⟩ := hcut
                      cases kq with
                      | zero => exact absurd HA.out (by simp [damaskref04_plain.j5])
                      | succ kj43 =>
                        have H := HA.out
                        clear HA
                        simp only [damaskref04_plain.j5] at H
                        by_cases c47 : x114_43 = true
                        · subst c47
                          have H1 : ((damaskref04_bitwise.f kj43 a0 (rd l3 0) x11_5).bind fun t157 => (some (t157, 0))) = some (r1, r2) := by rw [if_pos rfl] at H; exact H
                          clear H
                          have H := H1
                          clear H1
                          replace H := Option.bind_eq_some_iff.mp H
                          obtain ⟨t157, A480, H⟩ := H
                          replace H : (some (t157, 0)) = some (r1, r2) := H
                          have A48 := Aside0.mk A480
                          clear A480
                          simp only [Option.some.injEq, Prod.mk.injEq] at H
                          obtain ⟨rfl, rfl⟩ := H
                          go_wp2_with (first | ((with_reducible refine gate_callee (f := 50) rfl ?_); refine goesL_ (some 121) rfl rfl Try.func50 (by kernel_rfl) rfl #[.int .i64 a0, .int .i64 (rd l3 0), .int .i64 x11_5] rfl (by (try simp only [List.map_toArray, List.map_cons, List.map_nil]); first | done | rfl | (simp only [List.length_drop, List.length_take]; rfl)) ?_; (with_reducible refine (damaskref04_bitwise.calls kj43 a0 (rd l3 0) x11_5 t157 _ A48.out).mono ?_); rintro e w' ⟨rfl, ⟨nd, rfl⟩⟩; refine ⟨_, rfl, ?_⟩))
                          go_ret2
                          exact ⟨by first | rfl | (simp; done) | (simp [*]; done), by repeat (first | exact Drawn0.refl _ | apply Drawn0.step)⟩
                        replace c47 := Bool.eq_false_iff.mpr c47
                        subst c47
                        have H1 : (if a0 = 31 then ((damaskref04_bitwise.f kj43 15 (rd l3 0) a1).bind fun t158 => (some (t158, 0))) else (if a0 = 33 then (if (rd l3 0) = 0 then (damaskref04_plain.j6 kj43 a1 a2 (rd l3 0) false) else ((damaskref04_size.f (rd l3 0)).bind fun t159 => (if t159 = 0 then (none) else (damaskref04_plain.j6 kj43 a1 a2 (rd l3 0) (decide (a1 > (wrap64 (Int.tdiv (4611686018427387904 : Int) t159)))))))) else ((damaskref04_chosen.f kj43 a0 (rd l3 0) x11_5 x12_8).bind fun t162 => (some (t162, 0))))) = some (r1, r2) := by rw [if_neg (show ¬ (false = true) by decide)] at H; exact H
                        clear H
                        have H := H1
                        clear H1
                        by_cases c49 : a0 = 31
                        · rw [if_pos c49] at H
                          have c49b0 : (a0 == 31) = true := beq_iff_eq.mpr c49
                          have c49b1 : (a0 != 31) = false := bne_eq_false_iff_eq.mpr c49
                          clear c49
                          replace H := Option.bind_eq_some_iff.mp H
                          obtain ⟨t158, A500, H⟩ := H
                          replace H : (some (t158, 0)) = some (r1, r2) := H
                          have A50 := Aside0.mk A500
                          clear A500
                          simp only [Option.some.injEq, Prod.mk.injEq] at H
                          obtain ⟨rfl, rfl⟩ := H
                          go_wp2_with (first | ((with_reducible refine gate_callee (f := 50) rfl ?_); refine goesL_ (some 126) rfl rfl Try.func50 (by kernel_rfl) rfl #[.int .i64 15, .int .i64 (rd l3 0), .int .i64 a1] rfl (by (try simp only [List.map_toArray, List.map_cons, List.map_nil]); first | done | rfl | (simp only [List.length_drop, List.length_take]; rfl)) ?_; (with_reducible refine (damaskref04_bitwise.calls kj43 15 (rd l3 0) a1 t158 _ A50.out).mono ?_); rintro e w' ⟨rfl, ⟨nd, rfl⟩⟩; refine ⟨_, rfl, ?_⟩))
                          go_ret2
                          exact ⟨by first | rfl | (simp; done) | (simp [*]; done), by repeat (first | exact Drawn0.refl _ | apply Drawn0.step)⟩
                        rw [if_neg c49] at H
                        have c49b0 : (a0 == 31) = false := beq_eq_false_iff_ne.mpr c49
                        have c49b1 : (a0 != 31) = true := bne_iff_ne.mpr c49
                        by_cases c51 : a0 = 33
                        · rw [if_pos c51] at H
                          have c51b0 : (a0 == 33) = true := beq_iff_eq.mpr c51
                          have c51b1 : (a0 != 33) = false := bne_eq_false_iff_eq.mpr c51
                          clear c51
                          have HC52 := Aside0.mk H
                          clear H
                          go_upto_region 47 with (fail)
                          go_cut [137] (fun v137 wc => ∃ (kq : Nat) (x137_51 : Bool), v137 = .bool x137_51 ∧ Aside0 (damaskref04_plain.j6 kq a1 a2 (rd l3 0) x137_51 = some (r1, r2)) ∧ Aside0 (kq ≤ kj43) ∧ Drawn0 w wc)
                          case first =>
                            have H := HC52.out
                            clear HC52
                            by_cases c53 : (rd l3 0) = 0
                            · rw [if_pos c53] at H
                              have c53b0 : ((rd l3 0) == 0) = true := beq_iff_eq.mpr c53
                              have c53b1 : ((rd l3 0) != 0) = false := bne_eq_false_iff_eq.mpr c53
                              clear c53
                              (first | rw [c53b0] | (simp only [i64_w, i32_w]; rw [c53b0]) | skip)
                              have H' := Aside0.mk H
                              clear H
                              go_wp2
                              go_meet
                              case rel => exact ⟨_, (false), (by first | rfl | (simp; done) | (simp [*]; done)), H', ⟨by have := HJ5.out; have := HJ8.out; have := HJ21.out; have := HJ28.out; have := HJ43.out; first | omega | exact Nat.le_refl _⟩, by repeat (first | exact Drawn0.refl _ | apply Drawn0.step)⟩
                            rw [if_neg c53] at H
                            have c53b0 : ((rd l3 0) == 0) = false := beq_eq_false_iff_ne.mpr c53
                            have c53b1 : ((rd l3 0) != 0) = true := bne_iff_ne.mpr c53
                            (first | rw [c53b0] | (simp only [i64_w, i32_w]; rw [c53b0]) | skip)
                            replace H := Option.bind_eq_some_iff.mp H
                            obtain ⟨t159, A540, H⟩ := H
                            replace H : (if t159 = 0 then (none) else (damaskref04_plain.j6 kj43 a1 a2 (rd l3 0) (decide (a1 > (wrap64 (Int.tdiv (4611686018427387904 : Int) t159)))))) = some (r1, r2) := H
                            have A54 := Aside0.mk A540
                            clear A540
                            by_cases c55 : t159 = 0
                            · rw [if_pos c55] at H
                              exact absurd H (by simp)
                            rw [if_neg c55] at H
                            have c55b0 : (t159 == 0) = false := beq_eq_false_iff_ne.mpr c55
                            have c55b1 : (t159 != 0) = true := bne_iff_ne.mpr c55
                            have H' := Aside0.mk H
                            clear H
                            go_wp2_with (first | (go_at_call 45; (with_reducible refine (damaskref04_size.calls (rd l3 0) t159 _ A54.out).mono ?_); rintro e w' ⟨rfl, ⟨nd, rfl⟩⟩))
                            go_meet
                            case rel => exact ⟨_, (decide (a1 > (wrap64 (Int.tdiv (4611686018427387904 : Int) t159)))), (by first | rfl | (simp; done) | (simp [*]; done)), H', ⟨by have := HJ5.out; have := HJ8.out; have := HJ21.out; have := HJ28.out; have := HJ43.out; first | omega | exact Nat.le_refl _⟩, by repeat (first | exact Drawn0.refl _ | apply Drawn0.step)⟩
                          case rest =>
                            clear HC52
                            try clear c3
                            try clear c5
                            try clear c5b0
                            try clear c5b1
                            try clear c7
                            try clear c7b0
                            try clear c7b1
                            try clear c8
                            try clear c8b0
                            try clear c8b1
                            try clear c10
                            try clear c10b0
                            try clear c10b1
                            try clear c11
                            try clear c11b0
                            try clear c11b1
                            try clear c12
                            try clear c12b0
                            try clear c12b1
                            try clear c13
                            try clear c13b0
                            try clear c13b1
                            try clear c15
                            try clear c15b0
                            try clear c15b1
                            try clear c18
                            try clear c18b0
                            try clear c18b1
                            try clear c19
                            try clear c19b0
                            try clear c19b1
                            try clear c20
                            try clear c20b0
                            try clear c20b1
                            try clear c21
                            try clear c21b0
                            try clear c21b1
                            try clear c23
                            try clear c23b0
                            try clear c23b1
                            try clear c24
                            try clear c25
                            try clear c25b0
                            try clear c25b1
                            try clear c26
                            try clear c26b0
                            try clear c26b1
                            try clear c30
                            try clear c30b0
                            try clear c30b1
                            try clear c31
                            try clear c33
                            try clear c33b0
                            try clear c34
                            try clear c35
                            try clear c35b0
                            try clear c35b1
                            try clear c39
                            try clear c39b0
                            try clear c39b1
                            try clear c41
                            try clear c41b0
                            try clear c41b1
                            try clear c45
                            try clear c45b0
                            try clear c45b1
                            try clear c46
                            try clear c46b0
                            try clear c46b1
                            try clear c47
                            try clear c49
                            try clear c49b0
                            try clear c49b1
                            try clear c51
                            try clear c51b0
                            try clear c51b1
                            try clear c53
                            try clear c53b0
                            try clear c53b1
                            try clear c55
                            try clear c55b0
                            try clear c55b1
                            try clear hx143_0
                            try clear hx144_0
                            try clear hx145_0
                            try clear p143
                            try clear p144
                            try clear p145
                            try clear q143
                            try clear q144
                            try clear q145
                            obtain ⟨kq, x137_51, rfl, HA, HJ51, ⟨mc51, rfl⟩⟩ := hcut
                            cases kq with
                            | zero => exact absurd HA.out (by simp [damaskref04_plain.j6])
                            | succ kj51 =>
                              have H := HA.out
                              clear HA
                              simp only [damaskref04_plain.j6] at H
                              by_cases c56 : x137_51 = true
                              · subst c56
                                have H1 : (some (0, 13)) = some (r1, r2) := by rw [if_pos rfl] at H; exact H
                                clear H
                                have H := H1
                                clear H1
                                simp only [Option.some.injEq, Prod.mk.injEq] at H
                                obtain ⟨rfl, rfl⟩ := H
                                go_wp2
                                go_ret2
                                exact ⟨by first | rfl | (simp; done) | (simp [*]; done), by repeat (first | exact Drawn0.refl _ | apply Drawn0.step)⟩
                              replace c56 := Bool.eq_false_iff.mpr c56
                              subst c56
                              have H1 : ((damaskref04_Power.f kj51 a2).bind fun t160 => ((damaskref04_Floor.f (wrap64 ((rd l3 0) * a1)) t160).bind fun t161 => (some (t161, 0)))) = some (r1, r2) := by rw [if_neg (show ¬ (false = true) by decide)] at H; exact H
                              clear H
                              have H := H1
                              clear H1
                              replace H := Option.bind_eq_some_iff.mp H
                              obtain ⟨t160, A570, H⟩ := H
                              replace H : ((damaskref04_Floor.f (wrap64 ((rd l3 0) * a1)) t160).bind fun t161 => (some (t161, 0))) = some (r1, r2) := H
                              have A57 := Aside0.mk A570
                              clear A570
                              replace H := Option.bind_eq_some_iff.mp H
                              obtain ⟨t161, A580, H⟩ := H
                              replace H : (some (t161, 0)) = some (r1, r2) := H
                              have A58 := Aside0.mk A580
                              clear A580
                              simp only [Option.some.injEq, Prod.mk.injEq] at H
                              obtain ⟨rfl, rfl⟩ := H
                              go_wp2_with (first | ((with_reducible refine gate_callee (f := 48) rfl ?_); refine goesL_ (some 142) rfl rfl Try.func48 (by kernel_rfl) rfl #[.int .i64 a2] rfl (by (try simp only [List.map_toArray, List.map_cons, List.map_nil]); first | done | rfl | (simp only [List.length_drop, List.length_take]; rfl)) ?_; (with_reducible refine (damaskref04_Power.calls kj51 a2 t160 _ A57.out).mono ?_); rintro e w' ⟨rfl, ⟨nd, rfl⟩⟩; refine ⟨_, rfl, ?_⟩) | ((with_reducible refine gate_callee (f := 49) rfl ?_); refine goesL_ (some 143) rfl rfl Try.func49 (by kernel_rfl) rfl #[.int .i64 (wrap64 ((rd l3 0) * a1)), .int .i64 t160] rfl (by (try simp only [List.map_toArray, List.map_cons, List.map_nil]); first | done | rfl | (simp only [List.length_drop, List.length_take]; rfl)) ?_; (with_reducible refine (damaskref04_Floor.calls (wrap64 ((rd l3 0) * a1)) t160 t161 _ A58.out).mono ?_); rintro e w' ⟨rfl, ⟨nd, rfl⟩⟩; refine ⟨_, rfl, ?_⟩))
                              go_ret2
                              exact ⟨by first | rfl | (simp; done) | (simp [*]; done), by repeat (first | exact Drawn0.refl _ | apply Drawn0.step)⟩
                        rw [if_neg c51] at H
                        have c51b0 : (a0 == 33) = false := beq_eq_false_iff_ne.mpr c51
                        have c51b1 : (a0 != 33) = true := bne_iff_ne.mpr c51
                        replace H := Option.bind_eq_some_iff.mp H
                        obtain ⟨t162, A590, H⟩ := H
                        replace H : (some (t162, 0)) = some (r1, r2) := H
                        have A59 := Aside0.mk A590
                        clear A590
                        simp only [Option.some.injEq, Prod.mk.injEq] at H
                        obtain ⟨rfl, rfl⟩ := H
                        go_wp2_with (first | ((with_reducible refine gate_callee (f := 51) rfl ?_); refine goesL_ (some 148) rfl rfl Try.func51 (by kernel_rfl) rfl #[.int .i64 a0, .int .i64 (rd l3 0), .int .i64 x11_5, .int .i64 x12_8] rfl (by (try simp only [List.map_toArray, List.map_cons, List.map_nil]); first | done | rfl | (simp only [List.length_drop, List.length_take]; rfl)) ?_; (with_reducible refine (damaskref04_chosen.calls kj43 a0 (rd l3 0) x11_5 x12_8 t162 _ A59.out).mono ?_); rintro e w' ⟨rfl, ⟨nd, rfl⟩⟩; refine ⟨_, rfl, ?_⟩))
                        go_ret2
                        exact ⟨by first | rfl | (simp; done) | (simp [*]; done), by repeat (first | exact Drawn0.refl _ | apply Drawn0.step)⟩
  rw [if_neg c5] at H
  exact absurd H (by simp)

end Go.Proofs.Ytpnldhimlpilhaa.F
