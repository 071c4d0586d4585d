/- Written by wip/myprint.py of this session, out of Lean's print of the program: what Go functions come to, and that their calls come to it; no condition. -/
import Derived.Test.YtpnldhimlpilhaaF0
import Derived.Test.YtpnldhimlpilhaaFarith1
import Derived.Test.YtpnldhimlpilhaaFspan1
import Derived.Test.YtpnldhimlpilhaaFspan2
import Derived.Test.YtpnldhimlpilhaaFspan6
import Derived.Test.YtpnldhimlpilhaaFspan7
namespace Go.Proofs.Ytpnldhimlpilhaa.F
open Go.RowKit Go.Proofs.YtpnldhimlpilhaaW.PrintWords Go.Proofs.YtpnldhimlpilhaaW.PrintLast Go.Proofs.YtpnldhimlpilhaaW.PrintMore Go.Proofs.YtpnldhimlpilhaaW
attribute [local go_sem] max2_int min2_int max_two min_two max_three min_three max_four min_four   -- for this text's walks alone
set_option linter.unusedVariables false
set_option linter.unusedSimpArgs false

/-! ### span_Of: function 26 -/
mutual
def span_Of.j0 : Nat → Int → Int → Int → List (S47) → Bool → Option (Int × Int × Int)
  | 0, _, _, _, _, _ => none
  | k + 1, x0, x1, x2, x3, x30 => if x30 = true then (some (0, 0, 1)) else (span_Of.l0 k x0 x1 x2 x3 x3 (x3.length : Int) 0)
def span_Of.l0 : Nat → Int → Int → Int → List (S47) → List (S47) → Int → Int → Option (Int × Int × Int)
  | 0, _, _, _, _, _, _, _ => none
  | k + 1, x0, x1, x2, x3, x32, x33, x34 => if x34 < x33 then (if 0 ≤ x34 then (if x34 < (x32.length : Int) then ((span_Whole.f ((rd_T47 x32 x34).f0) ((rd_T47 x32 x34).f1)).bind fun t502 => (if t502 = true then (span_Of.l0 k x0 x1 x2 x3 x32 x33 (wrap64 (x34 + 1))) else (some (0, 0, 1)))) else (none)) else (none)) else (if (x3.length : Int) = 1 then (if 0 < (x3.length : Int) then ((span_one.f k x0 x1 x2 ((rd_T47 x3 0).f0) ((rd_T47 x3 0).f1)).bind fun bt505 => (span_Of.j2 k bt505.2.2 bt505.1 bt505.2.1)) else (none)) else (if (x3.length : Int) = 2 then (if 0 < (x3.length : Int) then (if 1 < (x3.length : Int) then ((span_two.f k x0 ((rd_T47 x3 0).f0) ((rd_T47 x3 0).f1) ((rd_T47 x3 1).f0) ((rd_T47 x3 1).f1)).bind fun bt510 => (span_Of.j2 k bt510.2.2 bt510.1 bt510.2.1)) else (none)) else (none)) else (if (x3.length : Int) = 3 then (if 0 < (x3.length : Int) then (if 1 < (x3.length : Int) then (if 2 < (x3.length : Int) then ((span_three.f x0 ((rd_T47 x3 0).f0) ((rd_T47 x3 0).f1) ((rd_T47 x3 1).f0) ((rd_T47 x3 1).f1) ((rd_T47 x3 2).f0) ((rd_T47 x3 2).f1)).bind fun bt516 => (span_Of.j2 k 0 bt516.1 bt516.2)) else (none)) else (none)) else (none)) else (span_Of.j2 k 0 0 0))))
def span_Of.j2 : Nat → Int → Int → Int → Option (Int × Int × Int)
  | 0, _, _, _ => none
  | k + 1, x13, x504000, x504001 => if x13 = 0 then ((span_Whole.f x504000 x504001).bind fun t518 => (span_Of.j3 k x13 (!t518) x504000 x504001)) else (span_Of.j3 k x13 false x504000 x504001)
def span_Of.j3 : Nat → Int → Bool → Int → Int → Option (Int × Int × Int)
  | 0, _, _, _, _ => none
  | k + 1, x13, x89, x504000, x504001 => if x89 = true then (some (0, 0, 13)) else (if x13 = 0 then (some (x504000, x504001, 0)) else (some (0, 0, x13)))
end
def span_Of.f (k : Nat) (a0 : Int) (a1 : Int) (a2 : Int) (l3 : List (S47)) : Option (Int × Int × Int) := (arith_Arity.f k a0).bind fun t497 => (if t497 < 1 then (span_Of.j0 k a0 a1 a2 l3 true) else ((arith_Arity.f k a0).bind fun t498 => (if (l3.length : Int) = t498 then ((arith_Constants.f k a0 a1 a2).bind fun t499 => (span_Of.j0 k a0 a1 a2 l3 (!t499))) else (span_Of.j0 k a0 a1 a2 l3 true))))
theorem span_Of.mono_l : ∀ k, (∀ y0 y1 y2 y3 y4, LeO (span_Of.j0 k y0 y1 y2 y3 y4) (span_Of.j0 (k + 1) y0 y1 y2 y3 y4)) ∧ (∀ y0 y1 y2 y3 y4 y5 y6, LeO (span_Of.l0 k y0 y1 y2 y3 y4 y5 y6) (span_Of.l0 (k + 1) y0 y1 y2 y3 y4 y5 y6)) ∧ (∀ y0 y1 y2, LeO (span_Of.j2 k y0 y1 y2) (span_Of.j2 (k + 1) y0 y1 y2)) ∧ (∀ y0 y1 y2 y3, LeO (span_Of.j3 k y0 y1 y2 y3) (span_Of.j3 (k + 1) y0 y1 y2 y3))
  | 0 => ⟨fun _ _ _ _ _ r h => by simp [span_Of.j0] at h, fun _ _ _ _ _ _ _ r h => by simp [span_Of.l0] at h, fun _ _ _ r h => by simp [span_Of.j2] at h, fun _ _ _ _ r h => by simp [span_Of.j3] at h⟩
  | k + 1 => by
    obtain ⟨ih0, ih1, ih2, ih3⟩ := span_Of.mono_l k
    refine ⟨?_, ?_, ?_, ?_⟩
    · intro y0 y1 y2 y3 y4
      unfold span_Of.j0
      repeat' first
      | (with_reducible exact ih0 _ _ _ _ _)
      | (with_reducible exact ih1 _ _ _ _ _ _ _)
      | (with_reducible exact ih2 _ _ _)
      | (with_reducible exact ih3 _ _ _ _)
      | (with_reducible exact arith_Arity.mono _ _)
      | (with_reducible exact arith_Constants.mono _ _ _ _)
      | (with_reducible exact span_one.mono _ _ _ _ _ _)
      | (with_reducible exact span_two.mono _ _ _ _ _ _)
      | (with_reducible exact LeO.refl _)
      | (with_reducible exact LeO.none _)
      | (with_reducible refine LeO.ite ?_ ?_)
      | (with_reducible refine LeO.bind ?_ (fun _ => ?_))
      | exact ih0 _ _ _ _ _
      | exact ih1 _ _ _ _ _ _ _
      | exact ih2 _ _ _
      | exact ih3 _ _ _ _
      | exact arith_Arity.mono _ _
      | exact arith_Constants.mono _ _ _ _
      | exact span_one.mono _ _ _ _ _ _
      | exact span_two.mono _ _ _ _ _ _
      | exact LeO.none _
      | refine LeO.ite ?_ ?_
      | refine LeO.bind ?_ (fun _ => ?_)
    · intro y0 y1 y2 y3 y4 y5 y6
      unfold span_Of.l0
      repeat' first
      | (with_reducible exact ih0 _ _ _ _ _)
      | (with_reducible exact ih1 _ _ _ _ _ _ _)
      | (with_reducible exact ih2 _ _ _)
      | (with_reducible exact ih3 _ _ _ _)
      | (with_reducible exact arith_Arity.mono _ _)
      | (with_reducible exact arith_Constants.mono _ _ _ _)
      | (with_reducible exact span_one.mono _ _ _ _ _ _)
      | (with_reducible exact span_two.mono _ _ _ _ _ _)
      | (with_reducible exact LeO.refl _)
      | (with_reducible exact LeO.none _)
      | (with_reducible refine LeO.ite ?_ ?_)
      | (with_reducible refine LeO.bind ?_ (fun _ => ?_))
      | exact ih0 _ _ _ _ _
      | exact ih1 _ _ _ _ _ _ _
      | exact ih2 _ _ _
      | exact ih3 _ _ _ _
      | exact arith_Arity.mono _ _
      | exact arith_Constants.mono _ _ _ _
      | exact span_one.mono _ _ _ _ _ _
      | exact span_two.mono _ _ _ _ _ _
      | exact LeO.none _
      | refine LeO.ite ?_ ?_
      | refine LeO.bind ?_ (fun _ => ?_)
    · intro y0 y1 y2
      unfold span_Of.j2
      repeat' first
      | (with_reducible exact ih0 _ _ _ _ _)
      | (with_reducible exact ih1 _ _ _ _ _ _ _)
      | (with_reducible exact ih2 _ _ _)
      | (with_reducible exact ih3 _ _ _ _)
      | (with_reducible exact arith_Arity.mono _ _)
      | (with_reducible exact arith_Constants.mono _ _ _ _)
      | (with_reducible exact span_one.mono _ _ _ _ _ _)
      | (with_reducible exact span_two.mono _ _ _ _ _ _)
      | (with_reducible exact LeO.refl _)
      | (with_reducible exact LeO.none _)
      | (with_reducible refine LeO.ite ?_ ?_)
      | (with_reducible refine LeO.bind ?_ (fun _ => ?_))
      | exact ih0 _ _ _ _ _
      | exact ih1 _ _ _ _ _ _ _
      | exact ih2 _ _ _
      | exact ih3 _ _ _ _
      | exact arith_Arity.mono _ _
      | exact arith_Constants.mono _ _ _ _
      | exact span_one.mono _ _ _ _ _ _
      | exact span_two.mono _ _ _ _ _ _
      | exact LeO.none _
      | refine LeO.ite ?_ ?_
      | refine LeO.bind ?_ (fun _ => ?_)
    · intro y0 y1 y2 y3
      unfold span_Of.j3
      repeat' first
      | (with_reducible exact ih0 _ _ _ _ _)
      | (with_reducible exact ih1 _ _ _ _ _ _ _)
      | (with_reducible exact ih2 _ _ _)
      | (with_reducible exact ih3 _ _ _ _)
      | (with_reducible exact arith_Arity.mono _ _)
      | (with_reducible exact arith_Constants.mono _ _ _ _)
      | (with_reducible exact span_one.mono _ _ _ _ _ _)
      | (with_reducible exact span_two.mono _ _ _ _ _ _)
      | (with_reducible exact LeO.refl _)
      | (with_reducible exact LeO.none _)
      | (with_reducible refine LeO.ite ?_ ?_)
      | (with_reducible refine LeO.bind ?_ (fun _ => ?_))
      | exact ih0 _ _ _ _ _
      | exact ih1 _ _ _ _ _ _ _
      | exact ih2 _ _ _
      | exact ih3 _ _ _ _
      | exact arith_Arity.mono _ _
      | exact arith_Constants.mono _ _ _ _
      | exact span_one.mono _ _ _ _ _ _
      | exact span_two.mono _ _ _ _ _ _
      | exact LeO.none _
      | refine LeO.ite ?_ ?_
      | refine LeO.bind ?_ (fun _ => ?_)
theorem span_Of.mono : ∀ a0 a1 a2 a3 k, LeO (span_Of.f k a0 a1 a2 a3) (span_Of.f (k + 1) a0 a1 a2 a3) := by
  intro a0 a1 a2 a3 k
  obtain ⟨ih0, ih1, ih2, ih3⟩ := span_Of.mono_l k
  unfold span_Of.f
  repeat' first
      | (with_reducible exact ih0 _ _ _ _ _)
      | (with_reducible exact ih1 _ _ _ _ _ _ _)
      | (with_reducible exact ih2 _ _ _)
      | (with_reducible exact ih3 _ _ _ _)
      | (with_reducible exact arith_Arity.mono _ _)
      | (with_reducible exact arith_Constants.mono _ _ _ _)
      | (with_reducible exact span_one.mono _ _ _ _ _ _)
      | (with_reducible exact span_two.mono _ _ _ _ _ _)
      | (with_reducible exact LeO.refl _)
      | (with_reducible exact LeO.none _)
      | (with_reducible refine LeO.ite ?_ ?_)
      | (with_reducible refine LeO.bind ?_ (fun _ => ?_))
      | exact ih0 _ _ _ _ _
      | exact ih1 _ _ _ _ _ _ _
      | exact ih2 _ _ _
      | exact ih3 _ _ _ _
      | exact arith_Arity.mono _ _
      | exact arith_Constants.mono _ _ _ _
      | exact span_one.mono _ _ _ _ _ _
      | exact span_two.mono _ _ _ _ _ _
      | exact LeO.none _
      | refine LeO.ite ?_ ?_
      | refine LeO.bind ?_ (fun _ => ?_)
def span_Of.T15 : Bool × List (List Nat × List Nat) := (true, [([], []), ([], []), ([1], [1]), ([2], [2]), ([], []), ([4], [4]), ([5], [5]), ([0, 3, 6], [0, 3, 6]), ([7], [7]), ([8], [8]), ([8], [8]), ([9, 7, 0, 1, 2, 3, 4, 5, 6, 7, 8, 9], [9]), ([10, 11, 0, 1, 2, 3, 4, 5, 6, 7, 8, 9, 10, 11], [10])])
def span_Of.B15 : List Nat := [0, 0, 2, 6, 0, 16, 48, 127, 255, 511, 511, 1023, 4095]
theorem span_Of.tab15 : rtab .any (opsOf Try.f26 15) = span_Of.T15 := by kernel_rfl
theorem span_Of.bits15 : waitsOk span_Of.T15.2 span_Of.B15 = true := by kernel_rfl
def span_Of.T17 : Bool × List (List Nat × List Nat) := (true, [([], []), ([], []), ([1], [1]), ([2], [2]), ([], []), ([4], [4]), ([5], [5]), ([], []), ([7], [7]), ([8], [8]), ([0, 3, 6, 9], [0, 3, 6, 9]), ([10, 10, 0, 1, 2, 3, 4, 5, 6, 7, 8, 9, 10], [10])])
def span_Of.B17 : List Nat := [0, 0, 2, 6, 0, 16, 48, 0, 128, 384, 1023, 2047]
theorem span_Of.tab17 : rtab .any (opsOf Try.f26 17) = span_Of.T17 := by kernel_rfl
theorem span_Of.bits17 : waitsOk span_Of.T17.2 span_Of.B17 = true := by kernel_rfl
set_option maxHeartbeats 8000000 in
set_option maxRecDepth 100000 in
theorem span_Of.calls (k : Nat) (a0 : Int) (a1 : Int) (a2 : Int) (A3 : Option Addr) (c3 : Nat) (l3 : List (S47)) (r1 : Int) (r2 : Int) (r3 : Int) (w : World) (hr3 : Kd.C k47 w A3 l3.length l3) (hc3 : l3.length ≤ c3) (h : span_Of.f k a0 a1 a2 l3 = some (r1, r2, r3)) :
    Calls Try.prog 26 #[.int .i64 a0, .int .i64 a1, .int .i64 a2, .slice A3 l3.length c3] w fun e w' => e = .returned (.tuple #[.agg #[.int .i64 r1, .int .i64 r2], .int .i64 r3]) ∧ Below w.heap.size w w' := by
  have hu47 := Try.underlying47
  have HR3 := Aside0.mk hr3
  have HC3 := Aside0.mk hc3
  clear hr3 hc3
  have HB := Aside0.mk (Below.refl w.heap.size w)
  have H : ((arith_Arity.f k a0).bind fun t497 => (if t497 < 1 then (span_Of.j0 k a0 a1 a2 l3 true) else ((arith_Arity.f k a0).bind fun t498 => (if (l3.length : Int) = t498 then ((arith_Constants.f k a0 a1 a2).bind fun t499 => (span_Of.j0 k a0 a1 a2 l3 (!t499))) else (span_Of.j0 k a0 a1 a2 l3 true))))) = some (r1, r2, r3) := h
  clear h
  have HC5 := Aside0.mk H
  clear H
  go_enter Try.func26, Try.ntmps26
  go_upto_region 1 with (first | ((with_reducible refine gate_dst (N := 8) rfl ?_); (try (refine gate_guard (by rfl) ?_; dsimp only)); refine box_event ?hg (N := 8) ?hd (cs := #[.int .i64 0, .int .i64 0]) (t := 47) ?hr ?_; (case hd => rfl); (case hg => rfl); (case hr => first | (go_simp; done) | (go_simp; rfl)); intro gb496 hg w6 hbox hb; have n0_ := Aside0.mk (cT (by repeat (first | (with_reducible first | exact HB.out | apply cA | apply cN | apply cD) | exact HB.out)) hb); have n1_ := Aside0.mk (hbox); have n2_ := Aside0.mk ((by rw [hg]; exact (cZ (by repeat (first | (with_reducible first | exact HB.out | apply cA | apply cN | apply cD) | exact HB.out))) : w.heap.size ≤ gb496)); have n3_ := n2_; clear HB; have HB := n0_; have BK496 := n1_; have GW496 := n2_; have GE496 := n3_; clear n0_ n1_ n2_ n3_; clear hb hbox hg))
  (try simp only [Act.put, List.setIfInBounds_toArray, List.set_cons_zero, List.set_cons_succ])
  go_cut [30] (fun v30 wc => ∃ (kq : Nat) (x30_4 : Bool), v30 = .bool x30_4 ∧ Aside0 (span_Of.j0 kq a0 a1 a2 l3 x30_4 = some (r1, r2, r3)) ∧ Aside0 (kq ≤ k) ∧ Aside0 (wc.heap[gb496]? = some (.cells #[.int .i64 0, .int .i64 0] 47 (0, 0))) ∧ Aside0 (Below w.heap.size w wc))
  case first =>
    have H := HC5.out
    clear HC5
    replace H := Option.bind_eq_some_iff.mp H
    obtain ⟨t497, A70, H⟩ := H
    replace H : (if t497 < 1 then (span_Of.j0 k a0 a1 a2 l3 true) else ((arith_Arity.f k a0).bind fun t498 => (if (l3.length : Int) = t498 then ((arith_Constants.f k a0 a1 a2).bind fun t499 => (span_Of.j0 k a0 a1 a2 l3 (!t499))) else (span_Of.j0 k a0 a1 a2 l3 true)))) = some (r1, r2, r3) := H
    have A7 := Aside0.mk A70
    clear A70
    by_cases c8 : t497 < 1
    · rw [if_pos c8] at H
      have c8b0 : decide (t497 < 1) = true := decide_eq_true c8
      clear c8
      (first | rw [c8b0] | (simp only [i64_w, i32_w]; rw [c8b0]) | skip)
      have H' := Aside0.mk H
      clear H
      go_wp2_with (first | ((with_reducible refine gate_callee (f := 17) rfl ?_); refine goesL_ (some 15) rfl rfl Try.func17 (by kernel_rfl) rfl #[.int .i64 a0] rfl (by (try simp only [List.map_toArray, List.map_cons, List.map_nil]); first | done | rfl | (simp only [List.length_drop, List.length_take]; rfl)) ?_; (with_reducible refine (arith_Arity.calls k a0 t497 _ A7.out).mono ?_); rintro e w' ⟨rfl, ⟨nd, rfl⟩⟩; refine ⟨_, rfl, ?_⟩))
      go_meet
      case rel => exact ⟨_, (true), (by first | rfl | (simp; done) | (simp [*]; done)), H', ⟨by first | omega | exact Nat.le_refl _⟩, ⟨by (with_reducible repeat (first | apply bN | apply bD | apply bA)); exact BK496.out⟩, ⟨by repeat (first | (with_reducible first | exact HB.out | apply cA | apply cN | apply cD | refine cS ?_ GE496.out) | exact HB.out)⟩⟩
    rw [if_neg c8] at H
    have c8b0 : decide (t497 < 1) = false := decide_eq_false c8
    clear c8
    (first | rw [c8b0] | (simp only [i64_w, i32_w]; rw [c8b0]) | skip)
    replace H := Option.bind_eq_some_iff.mp H
    obtain ⟨t498, A90, H⟩ := H
    replace H : (if (l3.length : Int) = t498 then ((arith_Constants.f k a0 a1 a2).bind fun t499 => (span_Of.j0 k a0 a1 a2 l3 (!t499))) else (span_Of.j0 k a0 a1 a2 l3 true)) = some (r1, r2, r3) := H
    have A9 := Aside0.mk A90
    clear A90
    by_cases c10 : (l3.length : Int) = t498
    · rw [if_pos c10] at H
      have c10b0 : ((l3.length : Int) == t498) = true := beq_iff_eq.mpr c10
      have c10b1 : ((l3.length : Int) != t498) = false := bne_eq_false_iff_eq.mpr c10
      clear c10
      replace H := Option.bind_eq_some_iff.mp H
      obtain ⟨t499, A110, H⟩ := H
      replace H : (span_Of.j0 k a0 a1 a2 l3 (!t499)) = some (r1, r2, r3) := H
      have A11 := Aside0.mk A110
      clear A110
      have H' := Aside0.mk H
      clear H
      go_wp2_with (first | ((with_reducible refine gate_callee (f := 17) rfl ?_); refine goesL_ (some 15) rfl rfl Try.func17 (by kernel_rfl) rfl #[.int .i64 a0] rfl (by (try simp only [List.map_toArray, List.map_cons, List.map_nil]); first | done | rfl | (simp only [List.length_drop, List.length_take]; rfl)) ?_; (with_reducible refine (arith_Arity.calls k a0 t497 _ A7.out).mono ?_); rintro e w' ⟨rfl, ⟨nd, rfl⟩⟩; refine ⟨_, rfl, ?_⟩) | (go_at_call 17; (with_reducible refine (arith_Arity.calls k a0 t498 _ A9.out).mono ?_); rintro e w' ⟨rfl, ⟨nd, rfl⟩⟩) | (go_at_call 19; (with_reducible refine (arith_Constants.calls k a0 a1 a2 t499 _ A11.out).mono ?_); rintro e w' ⟨rfl, ⟨nd, rfl⟩⟩))
      go_meet
      case rel => exact ⟨_, (!t499), (by first | rfl | (simp; done) | (simp [*]; done)), H', ⟨by first | omega | exact Nat.le_refl _⟩, ⟨by (with_reducible repeat (first | apply bN | apply bD | apply bA)); exact BK496.out⟩, ⟨by repeat (first | (with_reducible first | exact HB.out | apply cA | apply cN | apply cD | refine cS ?_ GE496.out) | exact HB.out)⟩⟩
    rw [if_neg c10] at H
    have c10b0 : ((l3.length : Int) == t498) = false := beq_eq_false_iff_ne.mpr c10
    have c10b1 : ((l3.length : Int) != t498) = true := bne_iff_ne.mpr c10
    have H' := Aside0.mk H
    clear H
    go_wp2_with (first | ((with_reducible refine gate_callee (f := 17) rfl ?_); refine goesL_ (some 15) rfl rfl Try.func17 (by kernel_rfl) rfl #[.int .i64 a0] rfl (by (try simp only [List.map_toArray, List.map_cons, List.map_nil]); first | done | rfl | (simp only [List.length_drop, List.length_take]; rfl)) ?_; (with_reducible refine (arith_Arity.calls k a0 t497 _ A7.out).mono ?_); rintro e w' ⟨rfl, ⟨nd, rfl⟩⟩; refine ⟨_, rfl, ?_⟩) | (go_at_call 17; (with_reducible refine (arith_Arity.calls k a0 t498 _ A9.out).mono ?_); rintro e w' ⟨rfl, ⟨nd, rfl⟩⟩))
    go_meet
    case rel => exact ⟨_, (true), (by first | rfl | (simp; done) | (simp [*]; done)), H', ⟨by first | omega | exact Nat.le_refl _⟩, ⟨by (with_reducible repeat (first | apply bN | apply bD | apply bA)); exact BK496.out⟩, ⟨by repeat (first | (with_reducible first | exact HB.out | apply cA | apply cN | apply cD | refine cS ?_ GE496.out) | exact HB.out)⟩⟩
  case rest =>
    clear HC5
    try clear c3
    try clear c8
    try clear c8b0
    try clear c10
    try clear c10b0
    try clear c10b1
    obtain ⟨kq, x30_4, rfl, HA, HJ4, BK496, HB⟩ := hcut
    cases kq with
    | zero => exact absurd HA.out (by simp [span_Of.j0])
    | succ kj4 =>
      have H := HA.out
      clear HA
      simp only [span_Of.j0] at H
      by_cases c12 : x30_4 = true
      · subst c12
        have H1 : (some (0, 0, 1)) = some (r1, r2, r3) := by rw [if_pos rfl] at H; exact H
        clear H
        have H := H1
        clear H1
        simp only [Option.some.injEq, Prod.mk.injEq] at H
        obtain ⟨rfl, rfl, rfl⟩ := H
        have hcz13_0 : wc.cell? ⟨gb496, 0, none⟩ = some (.int .i64 0) := (bC BK496.out 0).trans rfl
        have hcz13_1 : wc.cell? ⟨gb496, 1, none⟩ = some (.int .i64 0) := (bC BK496.out 1).trans rfl
        have hfz13_0 := bZ BK496.out 0
        have hfz13_1 := bZ BK496.out 1
        go_wp2
        refine bodyPost_ret (results_ct rfl _ _ gb496 47 #[.int .i64 0, .int .i64 0] (0, 0) _ rfl (by (with_reducible repeat (first | apply bN | apply bD | apply bA)); refine bP (cs := #[.int .i64 0, .int .i64 0]) ?_ 1 _ rfl; (with_reducible repeat (first | apply bN | apply bD | apply bA)); refine bP (cs := #[.int .i64 0, .int .i64 0]) ?_ 0 _ rfl; (with_reducible repeat (first | apply bN | apply bD | apply bA)); exact BK496.out) Try.underlying47 rfl (by kernel_rfl)) rfl ?_
        exact ⟨by first | rfl | (simp [errW_none, errW_some] <;> rfl) | (simp [*, errW_none, errW_some] <;> rfl), by repeat (first | (with_reducible first | exact HB.out | apply cA | apply cN | apply cD | refine cS ?_ GE496.out) | exact HB.out)⟩
      replace c12 := Bool.eq_false_iff.mpr c12
      subst c12
      have H1 : (span_Of.l0 kj4 a0 a1 a2 l3 l3 (l3.length : Int) 0) = some (r1, r2, r3) := by rw [if_neg (show ¬ (false = true) by decide)] at H; exact H
      clear H
      have H := H1
      clear H1
      have H' := Aside0.mk H
      clear H
      go_wp2
      go_loopg [34] kj4 (fun kq v34 w' => ∃ (x34_2 : Int) (x497000_2 : Int) (x497001_2 : Int), v34 = .int .i64 x34_2 ∧ Aside0 (span_Of.l0 kq a0 a1 a2 l3 l3 (l3.length : Int) x34_2 = some (r1, r2, r3)) ∧ Aside0 (kq ≤ kj4) ∧ Aside0 (w'.heap[gb496]? = some (.cells #[.int .i64 x497000_2, .int .i64 x497001_2] 47 (0, 0))) ∧ Aside0 (Below w.heap.size w w'))
      case atStart => exact ⟨(0), (0), (0), (by first | rfl | (simp; done) | (simp [*]; done)), H', ⟨Nat.le_refl _⟩, ⟨by (with_reducible repeat (first | apply bN | apply bD | apply bA)); exact BK496.out⟩, ⟨by repeat (first | (with_reducible first | exact HB.out | apply cA | apply cN | apply cD | refine cS ?_ GE496.out) | exact HB.out)⟩⟩
      case round =>
        clear H'
        try clear c3
        try clear c8
        try clear c8b0
        try clear c10
        try clear c10b0
        try clear c10b1
        try clear c12
        try clear hcz13_0
        try clear hcz13_1
        try clear hfz13_0
        try clear hfz13_1
        obtain ⟨x34_2, x497000_2, x497001_2, rfl, HA, HK2, BK496, HB⟩ := hrel
        cases gk with
        | zero => exact absurd HA.out (by simp [span_Of.l0])
        | succ k2 =>
          have H := HA.out
          clear HA
          simp only [span_Of.l0] at H
          by_cases c14 : x34_2 < (l3.length : Int)
          · rw [if_pos c14] at H
            have c14b0 : decide (x34_2 < (l3.length : Int)) = true := decide_eq_true c14
            clear c14
            by_cases c15 : 0 ≤ x34_2
            · rw [if_pos c15] at H
              have c15b0 : decide (0 ≤ x34_2) = true := decide_eq_true c15
              clear c15
              by_cases c16 : x34_2 < (l3.length : Int)
              · rw [if_pos c16] at H
                have c16b0 : decide (x34_2 < (l3.length : Int)) = true := decide_eq_true c16
                clear c16
                replace H := Option.bind_eq_some_iff.mp H
                obtain ⟨t502, A170, H⟩ := H
                replace H : (if t502 = true then (span_Of.l0 k2 a0 a1 a2 l3 l3 (l3.length : Int) (wrap64 (x34_2 + 1))) else (some (0, 0, 1))) = some (r1, r2, r3) := H
                have A17 := Aside0.mk A170
                clear A170
                by_cases c18 : t502 = true
                · subst c18
                  have H1 : (span_Of.l0 k2 a0 a1 a2 l3 l3 (l3.length : Int) (wrap64 (x34_2 + 1))) = some (r1, r2, r3) := by rw [if_pos rfl] at H; exact H
                  clear H
                  have H := H1
                  clear H1
                  have H' := Aside0.mk H
                  clear H
                  have p500 : 0 ≤ (x34_2 : Int) := of_decide_eq_true (by first | (with_reducible assumption) | assumption)
                  have q500 : x34_2 < (l3.length : Int) := of_decide_eq_true (by first | (with_reducible assumption) | assumption)
                  obtain ⟨ad500, e500, hx500_0, hx500_1⟩ := at_T47 HR3.out x34_2 p500 q500
                  cases e500
                  replace hx500_0 := (HB.out.cell (wB w hx500_0)).trans hx500_0
                  replace hx500_1 := (HB.out.cell (wB w hx500_1)).trans hx500_1
                  replace p500 := eq_true p500
                  replace q500 := eq_true q500
                  go_wp2_with (first | ((with_reducible refine gate_dst (N := 11) rfl ?_); (try (refine gate_guard (by rfl) ?_; dsimp only)); refine box_event ?hg (N := 11) ?hd (cs := #[.int .i64 0, .int .i64 0]) (t := 47) ?hr ?_; (case hd => rfl); (case hg => rfl); (case hr => first | (go_simp; done) | (go_simp; rfl)); intro gb501 hg w19 hbox hb; have n0_ := Aside0.mk (bB (g := gb496) (o := .cells #[.int .i64 x497000_2, .int .i64 x497001_2] 47 (0, 0)) (by (with_reducible repeat (first | apply bN | apply bD | apply bA)); exact BK496.out) hb); have n1_ := Aside0.mk (cT (by repeat (first | (with_reducible first | exact HB.out | apply cA | apply cN | apply cD | refine cS ?_ GE496.out) | exact HB.out)) hb); have n2_ := Aside0.mk (hbox); have n3_ := Aside0.mk ((by rw [hg]; exact (cZ (by repeat (first | (with_reducible first | exact HB.out | apply cA | apply cN | apply cD | refine cS ?_ GE496.out) | exact HB.out))) : w.heap.size ≤ gb501)); have n4_ := n3_; have n5_ := Aside0.mk ((by rw [hg]; exact Nat.ne_of_lt (blk_lt (g := gb496) (o := .cells #[.int .i64 x497000_2, .int .i64 x497001_2] 47 (0, 0)) (by (with_reducible repeat (first | apply bN | apply bD | apply bA)); exact BK496.out)) : gb496 ≠ gb501)); have n6_ := Aside0.mk ((by rw [hg]; exact Nat.ne_of_gt (blk_lt (g := gb496) (o := .cells #[.int .i64 x497000_2, .int .i64 x497001_2] 47 (0, 0)) (by (with_reducible repeat (first | apply bN | apply bD | apply bA)); exact BK496.out)) : gb501 ≠ gb496)); clear BK496; clear HB; have BK496 := n0_; have HB := n1_; have BK501 := n2_; have GW501 := n3_; have GE501 := n4_; have NB496_501 := n5_; have NB501_496 := n6_; clear n0_ n1_ n2_ n3_ n4_ n5_ n6_; clear hb hbox hg; have hnb20 := NB501_496.out; have hnc20 := NB496_501.out; have hcz21_0 : w19.cell? ⟨gb501, 0, none⟩ = some (.int .i64 0) := (bC BK501.out 0).trans rfl; have hcz21_1 : w19.cell? ⟨gb501, 1, none⟩ = some (.int .i64 0) := (bC BK501.out 1).trans rfl; have hfz21_0 := bZ BK501.out 0; have hfz21_1 := bZ BK501.out 1) | ((with_reducible refine gate_callee (f := 30) rfl ?_); refine goesL_ (some 39) rfl rfl Try.func30 (by kernel_rfl) rfl #[.agg #[.int .i64 ((rd_T47 l3 x34_2).f0), .int .i64 ((rd_T47 l3 x34_2).f1)]] rfl (by (try simp only [List.map_toArray, List.map_cons, List.map_nil]); first | done | rfl | (simp only [List.length_drop, List.length_take]; rfl)) ?_; (with_reducible refine (span_Whole.calls ((rd_T47 l3 x34_2).f0) ((rd_T47 l3 x34_2).f1) true _ A17.out).mono ?_); rintro e w22 ⟨rfl, hb⟩; refine ⟨_, rfl, ?_⟩; have n0_ := Aside0.mk (bB (g := gb496) (o := .cells #[.int .i64 x497000_2, .int .i64 x497001_2] 47 (0, 0)) (by (with_reducible repeat (first | apply bN | apply bD | apply bA)); refine bF ?_ NB496_501.out _; (with_reducible repeat (first | apply bN | apply bD | apply bA)); refine bF ?_ NB496_501.out _; (with_reducible repeat (first | apply bN | apply bD | apply bA)); exact BK496.out) hb); have n1_ := Aside0.mk (bB (g := gb501) (o := .cells #[.int .i64 ((rd_T47 l3 x34_2).f0), .int .i64 ((rd_T47 l3 x34_2).f1)] 47 (0, 0)) (by (with_reducible repeat (first | apply bN | apply bD | apply bA)); refine bP (cs := #[.int .i64 ((rd_T47 l3 x34_2).f0), .int .i64 0]) ?_ 1 _ rfl; (with_reducible repeat (first | apply bN | apply bD | apply bA)); refine bP (cs := #[.int .i64 0, .int .i64 0]) ?_ 0 _ rfl; (with_reducible repeat (first | apply bN | apply bD | apply bA)); exact BK501.out) hb); have n2_ := Aside0.mk (cT (by repeat (first | (with_reducible first | exact HB.out | apply cA | apply cN | apply cD | refine cS ?_ GE496.out | refine cS ?_ GE501.out) | exact HB.out)) hb); clear BK496; clear BK501; clear HB; have BK496 := n0_; have BK501 := n1_; have HB := n2_; clear n0_ n1_ n2_; (try clear hb); (try clear hb2); (try clear hk); (try clear hi)))
                  go_roundg k2
                  case measure => have := HJ4.out; have := HK2.out; omega
                  case rel => exact ⟨(wrap64 (x34_2 + 1)), (x497000_2), (x497001_2), (by first | rfl | (simp; done) | (simp [*]; done)), H', ⟨by have := HJ4.out; have := HK2.out; omega⟩, ⟨by (with_reducible repeat (first | apply bN | apply bD | apply bA)); exact BK496.out⟩, ⟨by repeat (first | (with_reducible first | exact HB.out | apply cA | apply cN | apply cD | refine cS ?_ GE496.out | refine cS ?_ GE501.out) | exact HB.out)⟩⟩
                replace c18 := Bool.eq_false_iff.mpr c18
                subst c18
                have H1 : (some (0, 0, 1)) = some (r1, r2, r3) := by rw [if_neg (show ¬ (false = true) by decide)] at H; exact H
                clear H
                have H := H1
                clear H1
                simp only [Option.some.injEq, Prod.mk.injEq] at H
                obtain ⟨rfl, rfl, rfl⟩ := H
                have p500 : 0 ≤ (x34_2 : Int) := of_decide_eq_true (by first | (with_reducible assumption) | assumption)
                have q500 : x34_2 < (l3.length : Int) := of_decide_eq_true (by first | (with_reducible assumption) | assumption)
                obtain ⟨ad500, e500, hx500_0, hx500_1⟩ := at_T47 HR3.out x34_2 p500 q500
                cases e500
                replace hx500_0 := (HB.out.cell (wB w hx500_0)).trans hx500_0
                replace hx500_1 := (HB.out.cell (wB w hx500_1)).trans hx500_1
                replace p500 := eq_true p500
                replace q500 := eq_true q500
                go_wp2_with (first | ((with_reducible refine gate_dst (N := 11) rfl ?_); (try (refine gate_guard (by rfl) ?_; dsimp only)); refine box_event ?hg (N := 11) ?hd (cs := #[.int .i64 0, .int .i64 0]) (t := 47) ?hr ?_; (case hd => rfl); (case hg => rfl); (case hr => first | (go_simp; done) | (go_simp; rfl)); intro gb501 hg w23 hbox hb; have n0_ := Aside0.mk (bB (g := gb496) (o := .cells #[.int .i64 x497000_2, .int .i64 x497001_2] 47 (0, 0)) (by (with_reducible repeat (first | apply bN | apply bD | apply bA)); exact BK496.out) hb); have n1_ := Aside0.mk (cT (by repeat (first | (with_reducible first | exact HB.out | apply cA | apply cN | apply cD | refine cS ?_ GE496.out) | exact HB.out)) hb); have n2_ := Aside0.mk (hbox); have n3_ := Aside0.mk ((by rw [hg]; exact (cZ (by repeat (first | (with_reducible first | exact HB.out | apply cA | apply cN | apply cD | refine cS ?_ GE496.out) | exact HB.out))) : w.heap.size ≤ gb501)); have n4_ := n3_; have n5_ := Aside0.mk ((by rw [hg]; exact Nat.ne_of_lt (blk_lt (g := gb496) (o := .cells #[.int .i64 x497000_2, .int .i64 x497001_2] 47 (0, 0)) (by (with_reducible repeat (first | apply bN | apply bD | apply bA)); exact BK496.out)) : gb496 ≠ gb501)); have n6_ := Aside0.mk ((by rw [hg]; exact Nat.ne_of_gt (blk_lt (g := gb496) (o := .cells #[.int .i64 x497000_2, .int .i64 x497001_2] 47 (0, 0)) (by (with_reducible repeat (first | apply bN | apply bD | apply bA)); exact BK496.out)) : gb501 ≠ gb496)); clear BK496; clear HB; have BK496 := n0_; have HB := n1_; have BK501 := n2_; have GW501 := n3_; have GE501 := n4_; have NB496_501 := n5_; have NB501_496 := n6_; clear n0_ n1_ n2_ n3_ n4_ n5_ n6_; clear hb hbox hg; have hnb24 := NB501_496.out; have hnc24 := NB496_501.out; have hcz25_0 : w23.cell? ⟨gb501, 0, none⟩ = some (.int .i64 0) := (bC BK501.out 0).trans rfl; have hcz25_1 : w23.cell? ⟨gb501, 1, none⟩ = some (.int .i64 0) := (bC BK501.out 1).trans rfl; have hfz25_0 := bZ BK501.out 0; have hfz25_1 := bZ BK501.out 1) | ((with_reducible refine gate_callee (f := 30) rfl ?_); refine goesL_ (some 39) rfl rfl Try.func30 (by kernel_rfl) rfl #[.agg #[.int .i64 ((rd_T47 l3 x34_2).f0), .int .i64 ((rd_T47 l3 x34_2).f1)]] rfl (by (try simp only [List.map_toArray, List.map_cons, List.map_nil]); first | done | rfl | (simp only [List.length_drop, List.length_take]; rfl)) ?_; (with_reducible refine (span_Whole.calls ((rd_T47 l3 x34_2).f0) ((rd_T47 l3 x34_2).f1) false _ A17.out).mono ?_); rintro e w26 ⟨rfl, hb⟩; refine ⟨_, rfl, ?_⟩; have n0_ := Aside0.mk (bB (g := gb496) (o := .cells #[.int .i64 x497000_2, .int .i64 x497001_2] 47 (0, 0)) (by (with_reducible repeat (first | apply bN | apply bD | apply bA)); refine bF ?_ NB496_501.out _; (with_reducible repeat (first | apply bN | apply bD | apply bA)); refine bF ?_ NB496_501.out _; (with_reducible repeat (first | apply bN | apply bD | apply bA)); exact BK496.out) hb); have n1_ := Aside0.mk (bB (g := gb501) (o := .cells #[.int .i64 ((rd_T47 l3 x34_2).f0), .int .i64 ((rd_T47 l3 x34_2).f1)] 47 (0, 0)) (by (with_reducible repeat (first | apply bN | apply bD | apply bA)); refine bP (cs := #[.int .i64 ((rd_T47 l3 x34_2).f0), .int .i64 0]) ?_ 1 _ rfl; (with_reducible repeat (first | apply bN | apply bD | apply bA)); refine bP (cs := #[.int .i64 0, .int .i64 0]) ?_ 0 _ rfl; (with_reducible repeat (first | apply bN | apply bD | apply bA)); exact BK501.out) hb); have n2_ := Aside0.mk (cT (by repeat (first | (with_reducible first | exact HB.out | apply cA | apply cN | apply cD | refine cS ?_ GE496.out | refine cS ?_ GE501.out) | exact HB.out)) hb); clear BK496; clear BK501; clear HB; have BK496 := n0_; have BK501 := n1_; have HB := n2_; clear n0_ n1_ n2_; (try clear hb); (try clear hb2); (try clear hk); (try clear hi); have hcz27_0 : w26.cell? ⟨gb496, 0, none⟩ = some (.int .i64 x497000_2) := (bC BK496.out 0).trans rfl; have hcz27_1 : w26.cell? ⟨gb496, 1, none⟩ = some (.int .i64 x497001_2) := (bC BK496.out 1).trans rfl; have hfz27_0 := bZ BK496.out 0; have hfz27_1 := bZ BK496.out 1))
                refine bodyPost_ret (results_ct rfl _ _ gb496 47 #[.int .i64 0, .int .i64 0] (0, 0) _ rfl (by (with_reducible repeat (first | apply bN | apply bD | apply bA)); refine bP (cs := #[.int .i64 0, .int .i64 x497001_2]) ?_ 1 _ rfl; (with_reducible repeat (first | apply bN | apply bD | apply bA)); refine bP (cs := #[.int .i64 x497000_2, .int .i64 x497001_2]) ?_ 0 _ rfl; (with_reducible repeat (first | apply bN | apply bD | apply bA)); exact BK496.out) Try.underlying47 rfl (by kernel_rfl)) rfl ?_
                exact ⟨by first | rfl | (simp [errW_none, errW_some] <;> rfl) | (simp [*, errW_none, errW_some] <;> rfl), by repeat (first | (with_reducible first | exact HB.out | apply cA | apply cN | apply cD | refine cS ?_ GE496.out | refine cS ?_ GE501.out) | exact HB.out)⟩
              rw [if_neg c16] at H
              exact absurd H (by simp)
            rw [if_neg c15] at H
            exact absurd H (by simp)
          rw [if_neg c14] at H
          have c14b0 : decide (x34_2 < (l3.length : Int)) = false := decide_eq_false c14
          clear c14
          have HC28 := Aside0.mk H
          clear H
          go_upto_block 2 with (first | ((with_reducible refine gate_dst (N := 12) rfl ?_); (try (refine gate_guard (by rfl) ?_; dsimp only)); refine box_event ?hg (N := 12) ?hd (cs := #[.int .i64 0, .int .i64 0]) (t := 47) ?hr ?_; (case hd => rfl); (case hg => rfl); (case hr => first | (go_simp; done) | (go_simp; rfl)); intro gb503 hg w29 hbox hb; have n0_ := Aside0.mk (bB (g := gb496) (o := .cells #[.int .i64 x497000_2, .int .i64 x497001_2] 47 (0, 0)) (by (with_reducible repeat (first | apply bN | apply bD | apply bA)); exact BK496.out) hb); have n1_ := Aside0.mk (cT (by repeat (first | (with_reducible first | exact HB.out | apply cA | apply cN | apply cD | refine cS ?_ GE496.out) | exact HB.out)) hb); have n2_ := Aside0.mk (hbox); have n3_ := Aside0.mk ((by rw [hg]; exact (cZ (by repeat (first | (with_reducible first | exact HB.out | apply cA | apply cN | apply cD | refine cS ?_ GE496.out) | exact HB.out))) : w.heap.size ≤ gb503)); have n4_ := n3_; have n5_ := Aside0.mk ((by rw [hg]; exact Nat.ne_of_lt (blk_lt (g := gb496) (o := .cells #[.int .i64 x497000_2, .int .i64 x497001_2] 47 (0, 0)) (by (with_reducible repeat (first | apply bN | apply bD | apply bA)); exact BK496.out)) : gb496 ≠ gb503)); have n6_ := Aside0.mk ((by rw [hg]; exact Nat.ne_of_gt (blk_lt (g := gb496) (o := .cells #[.int .i64 x497000_2, .int .i64 x497001_2] 47 (0, 0)) (by (with_reducible repeat (first | apply bN | apply bD | apply bA)); exact BK496.out)) : gb503 ≠ gb496)); clear BK496; clear HB; have BK496 := n0_; have HB := n1_; have BK503 := n2_; have GW503 := n3_; have GE503 := n4_; have NB496_503 := n5_; have NB503_496 := n6_; clear n0_ n1_ n2_ n3_ n4_ n5_ n6_; clear hb hbox hg))
          (try simp only [Act.put, List.setIfInBounds_toArray, List.set_cons_zero, List.set_cons_succ])
          go_cut [13] (fun v13 wc => ∃ (kq : Nat) (x13_27 : Int) (x504000_27 : Int) (x504001_27 : Int), v13 = .int .i64 x13_27 ∧ Aside0 (span_Of.j2 kq x13_27 x504000_27 x504001_27 = some (r1, r2, r3)) ∧ Aside0 (kq ≤ k2) ∧ Aside0 (wc.heap[gb496]? = some (.cells #[.int .i64 x497000_2, .int .i64 x497001_2] 47 (0, 0))) ∧ Aside0 (wc.heap[gb503]? = some (.cells #[.int .i64 x504000_27, .int .i64 x504001_27] 47 (0, 0))) ∧ Aside0 (Below w.heap.size w wc))
          case first =>
            have H := HC28.out
            clear HC28
            by_cases c30 : (l3.length : Int) = 1
            · rw [if_pos c30] at H
              have c30b0 : ((l3.length : Int) == 1) = true := beq_iff_eq.mpr c30
              have c30b1 : ((l3.length : Int) != 1) = false := bne_eq_false_iff_eq.mpr c30
              clear c30
              (first | rw [c30b0] | (simp only [i64_w, i32_w]; rw [c30b0]) | skip)
              by_cases c31 : 0 < (l3.length : Int)
              · rw [if_pos c31] at H
                have c31b0 : decide (0 < (l3.length : Int)) = true := decide_eq_true c31
                have c31b1 : decide (0 < l3.length) = true := decide_eq_true (by omega)
                clear c31
                replace H := Option.bind_eq_some_iff.mp H
                obtain ⟨⟨t505, t506, t507⟩, A320, H⟩ := H
                replace H : (span_Of.j2 k2 t507 t505 t506) = some (r1, r2, r3) := H
                have A32 := Aside0.mk A320
                clear A320
                have H' := Aside0.mk H
                clear H
                have p504 : 0 ≤ (0 : Int) := (by omega)
                have q504 : 0 < (l3.length : Int) := of_decide_eq_true (by first | (with_reducible assumption) | assumption)
                obtain ⟨ad504, e504, hx504_0, hx504_1⟩ := at_T47 HR3.out 0 p504 q504
                cases e504
                have qi504 : (0 < l3.length) = True := eq_true (by omega)
                (try rw [show ((0 : Int)).toNat = 0 from rfl] at hx504_0)
                (try rw [show 0 * 2 = 0 from rfl] at hx504_0)
                (try rw [Addr.add_zero'] at hx504_0)
                (try rw [show ((0 : Int)).toNat = 0 from rfl] at hx504_1)
                (try rw [show 0 * 2 = 0 from rfl] at hx504_1)
                (try rw [Addr.add_zero'] at hx504_1)
                replace hx504_0 := (HB.out.cell (wB w hx504_0)).trans hx504_0
                replace hx504_1 := (HB.out.cell (wB w hx504_1)).trans hx504_1
                replace p504 := eq_true p504
                replace q504 := eq_true q504
                go_wp2_with (first | ((with_reducible refine gate_callee (f := 40) rfl ?_); refine goesL_ (some 54) rfl rfl Try.func40 (by kernel_rfl) rfl #[.int .i64 a0, .int .i64 a1, .int .i64 a2, .agg #[.int .i64 ((rd_T47 l3 0).f0), .int .i64 ((rd_T47 l3 0).f1)]] rfl (by (try simp only [List.map_toArray, List.map_cons, List.map_nil]); first | done | rfl | (simp only [List.length_drop, List.length_take]; rfl)) ?_; (with_reducible refine (span_one.calls k2 a0 a1 a2 ((rd_T47 l3 0).f0) ((rd_T47 l3 0).f1) t505 t506 t507 _ A32.out).mono ?_); rintro e w33 ⟨rfl, hb⟩; refine ⟨_, rfl, ?_⟩; have n0_ := Aside0.mk (bB (g := gb496) (o := .cells #[.int .i64 x497000_2, .int .i64 x497001_2] 47 (0, 0)) (by (with_reducible repeat (first | apply bN | apply bD | apply bA)); exact BK496.out) hb); have n1_ := Aside0.mk (bB (g := gb503) (o := .cells #[.int .i64 0, .int .i64 0] 47 (0, 0)) (by (with_reducible repeat (first | apply bN | apply bD | apply bA)); exact BK503.out) hb); have n2_ := Aside0.mk (cT (by repeat (first | (with_reducible first | exact HB.out | apply cA | apply cN | apply cD | refine cS ?_ GE496.out | refine cS ?_ GE503.out) | exact HB.out)) hb); clear BK496; clear BK503; clear HB; have BK496 := n0_; have BK503 := n1_; have HB := n2_; clear n0_ n1_ n2_; (try clear hb); (try clear hb2); (try clear hk); (try clear hi); have hnb34 := NB503_496.out; have hnc34 := NB496_503.out; have hcz35_0 : w33.cell? ⟨gb503, 0, none⟩ = some (.int .i64 0) := (bC BK503.out 0).trans rfl; have hcz35_1 : w33.cell? ⟨gb503, 1, none⟩ = some (.int .i64 0) := (bC BK503.out 1).trans rfl; have hfz35_0 := bZ BK503.out 0; have hfz35_1 := bZ BK503.out 1))
                go_meet
                case rel => exact ⟨_, (t507), (t505), (t506), (by first | rfl | (simp; done) | (simp [*]; done)), H', ⟨by have := HJ4.out; have := HK2.out; first | omega | exact Nat.le_refl _⟩, ⟨by (with_reducible repeat (first | apply bN | apply bD | apply bA)); refine bF ?_ NB496_503.out _; (with_reducible repeat (first | apply bN | apply bD | apply bA)); refine bF ?_ NB496_503.out _; (with_reducible repeat (first | apply bN | apply bD | apply bA)); exact BK496.out⟩, ⟨by (with_reducible repeat (first | apply bN | apply bD | apply bA)); refine bP (cs := #[.int .i64 t505, .int .i64 0]) ?_ 1 _ rfl; (with_reducible repeat (first | apply bN | apply bD | apply bA)); refine bP (cs := #[.int .i64 0, .int .i64 0]) ?_ 0 _ rfl; (with_reducible repeat (first | apply bN | apply bD | apply bA)); exact BK503.out⟩, ⟨by repeat (first | (with_reducible first | exact HB.out | apply cA | apply cN | apply cD | refine cS ?_ GE496.out | refine cS ?_ GE503.out) | exact HB.out)⟩⟩
              rw [if_neg c31] at H
              exact absurd H (by simp)
            rw [if_neg c30] at H
            have c30b0 : ((l3.length : Int) == 1) = false := beq_eq_false_iff_ne.mpr c30
            have c30b1 : ((l3.length : Int) != 1) = true := bne_iff_ne.mpr c30
            (first | rw [c30b0] | (simp only [i64_w, i32_w]; rw [c30b0]) | skip)
            by_cases c36 : (l3.length : Int) = 2
            · rw [if_pos c36] at H
              have c36b0 : ((l3.length : Int) == 2) = true := beq_iff_eq.mpr c36
              have c36b1 : ((l3.length : Int) != 2) = false := bne_eq_false_iff_eq.mpr c36
              clear c36
              by_cases c37 : 0 < (l3.length : Int)
              · rw [if_pos c37] at H
                have c37b0 : decide (0 < (l3.length : Int)) = true := decide_eq_true c37
                have c37b1 : decide (0 < l3.length) = true := decide_eq_true (by omega)
                clear c37
                by_cases c38 : 1 < (l3.length : Int)
                · rw [if_pos c38] at H
                  have c38b0 : decide (1 < (l3.length : Int)) = true := decide_eq_true c38
                  have c38b1 : decide (1 < l3.length) = true := decide_eq_true (by omega)
                  clear c38
                  replace H := Option.bind_eq_some_iff.mp H
                  obtain ⟨⟨t510, t511, t512⟩, A390, H⟩ := H
                  replace H : (span_Of.j2 k2 t512 t510 t511) = some (r1, r2, r3) := H
                  have A39 := Aside0.mk A390
                  clear A390
                  have H' := Aside0.mk H
                  clear H
                  try go_wp2
                  have n0_ := Aside0.mk (bD BK496.out)
                  have n1_ := Aside0.mk (bD BK503.out)
                  have n2_ := Aside0.mk (cD HB.out)
                  clear BK496
                  clear BK503
                  clear HB
                  have BK496 := n0_
                  have BK503 := n1_
                  have HB := n2_
                  clear n0_ n1_ n2_
                  have p508 : 0 ≤ (0 : Int) := (by omega)
                  have q508 : 0 < (l3.length : Int) := of_decide_eq_true (by first | (with_reducible assumption) | assumption)
                  obtain ⟨ad508, e508, hx508_0, hx508_1⟩ := at_T47 HR3.out 0 p508 q508
                  have hw508_1 := hx508_1
                  (try rw [show ((0 : Int)).toNat = 0 from rfl] at hw508_1)
                  (try rw [show 0 * 2 = 0 from rfl] at hw508_1)
                  (try rw [Addr.add_zero'] at hw508_1)
                  have hw508_0 := hx508_0
                  (try rw [show ((0 : Int)).toNat = 0 from rfl] at hw508_0)
                  (try rw [show 0 * 2 = 0 from rfl] at hw508_0)
                  (try rw [Addr.add_zero'] at hw508_0)
                  cases e508
                  have qi508 : (0 < l3.length) = True := eq_true (by omega)
                  (try rw [show ((0 : Int)).toNat = 0 from rfl] at hx508_0)
                  (try rw [show 0 * 2 = 0 from rfl] at hx508_0)
                  (try rw [Addr.add_zero'] at hx508_0)
                  (try rw [show ((0 : Int)).toNat = 0 from rfl] at hx508_1)
                  (try rw [show 0 * 2 = 0 from rfl] at hx508_1)
                  (try rw [Addr.add_zero'] at hx508_1)
                  replace hx508_0 := (HB.out.cell (wB w hx508_0)).trans hx508_0
                  replace hx508_1 := (HB.out.cell (wB w hx508_1)).trans hx508_1
                  replace p508 := eq_true p508
                  replace q508 := eq_true q508
                  have p509 : 0 ≤ (1 : Int) := (by omega)
                  have q509 : 1 < (l3.length : Int) := of_decide_eq_true (by first | (with_reducible assumption) | assumption)
                  obtain ⟨ad509, e509, hx509_0, hx509_1⟩ := at_T47 HR3.out 1 p509 q509
                  have hw509_1 := hx509_1
                  (try rw [show ((1 : Int)).toNat = 1 from rfl] at hw509_1)
                  (try rw [show 1 * 2 = 2 from rfl] at hw509_1)
                  (try simp only [Nat.reduceMul, Nat.reduceEqDiff, Go.Addr.add, ↓reduceIte] at hw509_1)
                  have hw509_0 := hx509_0
                  (try rw [show ((1 : Int)).toNat = 1 from rfl] at hw509_0)
                  (try rw [show 1 * 2 = 2 from rfl] at hw509_0)
                  (try simp only [Nat.reduceMul, Nat.reduceEqDiff, Go.Addr.add, ↓reduceIte] at hw509_0)
                  obtain rfl : ad508 = ad509 := (by injection e509)
                  (try simp only [show (1 : Int).toNat = 1 from rfl, Nat.reduceMul, Nat.reduceEqDiff, Go.Addr.add, ↓reduceIte] at hx509_0)
                  (try simp only [show (1 : Int).toNat = 1 from rfl, Nat.reduceMul, Nat.reduceEqDiff, Go.Addr.add, ↓reduceIte] at hx509_1)
                  have qi509 : (1 < l3.length) = True := eq_true (by omega)
                  (try rw [show ((1 : Int)).toNat = 1 from rfl] at hx509_0)
                  (try rw [show 1 * 2 = 2 from rfl] at hx509_0)
                  (try rw [show ((1 : Int)).toNat = 1 from rfl] at hx509_1)
                  (try rw [show 1 * 2 = 2 from rfl] at hx509_1)
                  replace hx509_0 := (HB.out.cell (wB w hx509_0)).trans hx509_0
                  replace hx509_1 := (HB.out.cell (wB w hx509_1)).trans hx509_1
                  replace p509 := eq_true p509
                  replace q509 := eq_true q509
                  refine start_ (n := 13) (S := fun w' => w'.cell? ad508 = some (.int .i64 ((rd_T47 l3 0).f0)) ∧ w'.cell? ⟨ad508.block, ad508.off + 1, none⟩ = some (.int .i64 ((rd_T47 l3 0).f1)) ∧ w'.cell? ⟨ad508.block, ad508.off + 2, none⟩ = some (.int .i64 ((rd_T47 l3 1).f0)) ∧ w'.cell? ⟨ad508.block, ad508.off + 2 + 1, none⟩ = some (.int .i64 ((rd_T47 l3 1).f1))) (ds := []) #[false, false, false, false, false, false, false, false, false, false, false, false, false] (by kernel_rfl) rfl rfl ⟨((HB.out.cell (wB w hw508_0)).trans hw508_0), ((HB.out.cell (wB w hw508_1)).trans hw508_1), ((HB.out.cell (wB w hw509_0)).trans hw509_0), ((HB.out.cell (wB w hw509_1)).trans hw509_1)⟩ (fun hHeld => ?_); refine with_tabW span_Of.tab15 span_Of.bits15 (fun HT_ HW_ => ?_)
                  generalize w29.drew = w40 at BK496 BK503 HB hx508_0 hx508_1 hx509_0 hx509_1 hHeld ⊢
                  refine pure_ (i := 0) (N := some 60) (v := ?_) (a' := ?_) #[true, false, false, false, false, false, false, false, false, false, false, false, false] rfl rfl (any_of HT_.out (by kernel_rfl)) (fun _ _ _ h => h) (Or.inl ⟨by rfl, ?_⟩) ?_ ?_
                  rotate_left
                  · intro w'
                    go_simp
                    with_reducible rfl
                  rotate_left
                  · simp only [Act.put, List.setIfInBounds_toArray, List.set_cons_zero, List.set_cons_succ, i64_w, i32_w]
                    rfl
                  refine pure_ (i := 1) (N := some 61) (v := ?_) (a' := ?_) #[true, true, false, false, false, false, false, false, false, false, false, false, false] rfl rfl (any_of HT_.out (by kernel_rfl)) (fun _ _ _ h => h) (Or.inl ⟨by rfl, ?_⟩) ?_ ?_
                  rotate_left
                  · intro w'
                    go_simp
                    with_reducible rfl
                  rotate_left
                  · simp only [Act.put, List.setIfInBounds_toArray, List.set_cons_zero, List.set_cons_succ, i64_w, i32_w]
                    rfl
                  refine pure_ (i := 2) (N := some 62) (v := ?_) (a' := ?_) #[true, true, true, false, false, false, false, false, false, false, false, false, false] rfl rfl (any_of HT_.out (by kernel_rfl)) (fun _ _ _ h => h) (Or.inl ⟨by rfl, ?_⟩) ?_ ?_
                  rotate_left
                  · intro w'
                    go_simp
                    with_reducible rfl
                  rotate_left
                  · simp only [Act.put, List.setIfInBounds_toArray, List.set_cons_zero, List.set_cons_succ, i64_w, i32_w]
                    rfl
                  refine pure_ (i := 4) (N := some 64) (v := ?_) (a' := ?_) #[true, true, true, false, true, false, false, false, false, false, false, false, false] rfl rfl (any_of HT_.out (by kernel_rfl)) (fun _ _ _ h => h) (Or.inl ⟨by rfl, ?_⟩) ?_ ?_
                  rotate_left
                  · intro w'
                    go_simp
                    with_reducible rfl
                  rotate_left
                  · simp only [Act.put, List.setIfInBounds_toArray, List.set_cons_zero, List.set_cons_succ, i64_w, i32_w]
                    rfl
                  refine pure_ (i := 5) (N := some 65) (v := ?_) (a' := ?_) #[true, true, true, false, true, true, false, false, false, false, false, false, false] rfl rfl (any_of HT_.out (by kernel_rfl)) (fun _ _ _ h => h) (Or.inl ⟨by rfl, ?_⟩) ?_ ?_
                  rotate_left
                  · intro w'
                    go_simp
                    with_reducible rfl
                  rotate_left
                  · simp only [Act.put, List.setIfInBounds_toArray, List.set_cons_zero, List.set_cons_succ, i64_w, i32_w]
                    rfl
                  refine take_ (i := 3) (N := some 63) (v := ?_) (a' := ?_) #[true, true, true, true, true, true, false, false, false, false, false, false, false] rfl rfl (take_ofW HT_.out HW_.out (by kernel_rfl)) (fun _ _ _ h => h) (Or.inl ⟨by rfl, ?_⟩) hHeld ?_ ?_
                  rotate_left
                  · rintro w' ⟨s0, s1, s2, s3⟩
                    go_simp
                    with_reducible rfl
                  rotate_left
                  · simp only [Act.put, List.setIfInBounds_toArray, List.set_cons_zero, List.set_cons_succ, i64_w, i32_w]
                    rfl
                  refine take_ (i := 6) (N := some 66) (v := ?_) (a' := ?_) #[true, true, true, true, true, true, true, false, false, false, false, false, false] rfl rfl (take_ofW HT_.out HW_.out (by kernel_rfl)) (fun _ _ _ h => h) (Or.inl ⟨by rfl, ?_⟩) hHeld ?_ ?_
                  rotate_left
                  · rintro w' ⟨s0, s1, s2, s3⟩
                    go_simp
                    with_reducible rfl
                  rotate_left
                  · simp only [Act.put, List.setIfInBounds_toArray, List.set_cons_zero, List.set_cons_succ, i64_w, i32_w]
                    rfl
                  refine one_ (i := 7) (N := some 67) #[true, true, true, true, true, true, true, true, false, false, false, false, false] rfl rfl (one_of HT_.out (by kernel_rfl)) (by decide) (fun K hK => ?_)
                  refine goes_ Try.func41 (by kernel_rfl) rfl #[.int .i64 a0, .agg #[.int .i64 ((rd_T47 l3 0).f0), .int .i64 ((rd_T47 l3 0).f1)], .agg #[.int .i64 ((rd_T47 l3 1).f0), .int .i64 ((rd_T47 l3 1).f1)]] (by rfl) rfl rfl (by (try simp only [List.map_toArray, List.map_cons, List.map_nil]); first | done | rfl | (simp only [List.length_drop, List.length_take]; rfl)) ?_
                  with_reducible refine (span_two.calls k2 a0 ((rd_T47 l3 0).f0) ((rd_T47 l3 0).f1) ((rd_T47 l3 1).f0) ((rd_T47 l3 1).f1) t510 t511 t512 _ A39.out).mono ?_
                  rintro e w41 ⟨rfl, hb⟩
                  refine ⟨_, rfl, ?_⟩
                  have n0_ := Aside0.mk (bB (g := gb496) (o := .cells #[.int .i64 x497000_2, .int .i64 x497001_2] 47 (0, 0)) (by (with_reducible repeat (first | apply bN | apply bD | apply bA)); exact BK496.out) hb)
                  have n1_ := Aside0.mk (bB (g := gb503) (o := .cells #[.int .i64 0, .int .i64 0] 47 (0, 0)) (by (with_reducible repeat (first | apply bN | apply bD | apply bA)); exact BK503.out) hb)
                  have n2_ := Aside0.mk (cT (by repeat (first | (with_reducible first | exact HB.out | apply cA | apply cN | apply cD | refine cS ?_ GE496.out | refine cS ?_ GE503.out) | exact HB.out)) hb)
                  clear BK496
                  clear BK503
                  clear HB
                  have BK496 := n0_
                  have BK503 := n1_
                  have HB := n2_
                  clear n0_ n1_ n2_
                  (try clear hb)
                  (try clear hb2)
                  (try clear hk)
                  (try clear hi)
                  refine hK.out _ _ ⟨((HB.out.cell (wB w hw508_0)).trans hw508_0), ((HB.out.cell (wB w hw508_1)).trans hw508_1), ((HB.out.cell (wB w hw509_0)).trans hw509_0), ((HB.out.cell (wB w hw509_1)).trans hw509_1)⟩ (fun hHeld => ?_)
                  clear hK K
                  refine norm_ (a' := ?_) ?_ ?_
                  rotate_left
                  · show Act.put _ (some 67) _ = _
                    simp only [Act.put, List.setIfInBounds_toArray, List.set_cons_zero, List.set_cons_succ, i64_w, i32_w]
                    rfl
                  refine pure_ (i := 8) (N := some 59) (v := ?_) (a' := ?_) #[true, true, true, true, true, true, true, true, true, false, false, false, false] rfl rfl (any_of HT_.out (by kernel_rfl)) (fun _ _ _ h => h) (Or.inl ⟨by rfl, ?_⟩) ?_ ?_
                  rotate_left
                  · intro w'
                    go_simp
                    with_reducible rfl
                  rotate_left
                  · simp only [Act.put, List.setIfInBounds_toArray, List.set_cons_zero, List.set_cons_succ, i64_w, i32_w]
                    rfl
                  refine pure_ (i := 9) (N := some 68) (v := ?_) (a' := ?_) #[true, true, true, true, true, true, true, true, true, true, false, false, false] rfl rfl (any_of HT_.out (by kernel_rfl)) (fun _ _ _ h => h) (Or.inl ⟨by rfl, ?_⟩) ?_ ?_
                  rotate_left
                  · intro w'
                    go_simp
                    with_reducible rfl
                  rotate_left
                  · simp only [Act.put, List.setIfInBounds_toArray, List.set_cons_zero, List.set_cons_succ, i64_w, i32_w]
                    rfl
                  refine pure_ (i := 10) (N := some 69) (v := ?_) (a' := ?_) #[true, true, true, true, true, true, true, true, true, true, true, false, false] rfl rfl (any_of HT_.out (by kernel_rfl)) (fun _ _ _ h => h) (Or.inl ⟨by rfl, ?_⟩) ?_ ?_
                  rotate_left
                  · intro w'
                    go_simp
                    with_reducible rfl
                  rotate_left
                  · simp only [Act.put, List.setIfInBounds_toArray, List.set_cons_zero, List.set_cons_succ, i64_w, i32_w]
                    rfl
                  refine one_ (i := 11) (N := none) #[true, true, true, true, true, true, true, true, true, true, true, true, false] rfl rfl (one_of HT_.out (by kernel_rfl)) (by decide) (fun K hK => ?_)
                  have hs42 : w41.cell? ⟨gb503, 0, none⟩ = some (.int .i64 0) := (bC BK503.out 0).trans rfl
                  have hfs42 := bZ BK503.out 0
                  have hns42_0 := NB496_503.out
                  have hms42_0 := NB503_496.out
                  have hs43 : w41.cell? ⟨gb503, 1, none⟩ = some (.int .i64 0) := (bC BK503.out 1).trans rfl
                  have hfs43 := bZ BK503.out 1
                  have hns43_0 := NB496_503.out
                  have hms43_0 := NB503_496.out
                  refine skip_ (w1 := ?_) (by rfl) rfl ?_ ?_
                  rotate_left
                  · go_simp
                    rfl
                  refine hK.out _ _ ⟨((cell_far (p := ⟨gb503, _, none⟩) (by first | exact Nat.ne_of_lt (Nat.lt_of_lt_of_le (by have := wB _ hw508_0; first | rwa [add_block] at this | exact this) GW503.out) | (rw [add_block]; exact Nat.ne_of_lt (Nat.lt_of_lt_of_le (by have := wB _ hw508_0; first | rwa [add_block] at this | exact this) GW503.out)) | (show (Addr.add _ _).block ≠ _; rw [add_block]; exact Nat.ne_of_lt (Nat.lt_of_lt_of_le (by have := wB _ hw508_0; first | rwa [add_block] at this | exact this) GW503.out)) | (dsimp only; exact Nat.ne_of_lt (Nat.lt_of_lt_of_le (by have := wB _ hw508_0; first | rwa [add_block] at this | exact this) GW503.out))) _).trans (((cell_far (p := ⟨gb503, _, none⟩) (by first | exact Nat.ne_of_lt (Nat.lt_of_lt_of_le (by have := wB _ hw508_0; first | rwa [add_block] at this | exact this) GW503.out) | (rw [add_block]; exact Nat.ne_of_lt (Nat.lt_of_lt_of_le (by have := wB _ hw508_0; first | rwa [add_block] at this | exact this) GW503.out)) | (show (Addr.add _ _).block ≠ _; rw [add_block]; exact Nat.ne_of_lt (Nat.lt_of_lt_of_le (by have := wB _ hw508_0; first | rwa [add_block] at this | exact this) GW503.out)) | (dsimp only; exact Nat.ne_of_lt (Nat.lt_of_lt_of_le (by have := wB _ hw508_0; first | rwa [add_block] at this | exact this) GW503.out))) _).trans (hHeld.1)))), ((cell_far (p := ⟨gb503, _, none⟩) (by first | exact Nat.ne_of_lt (Nat.lt_of_lt_of_le (by have := wB _ hw508_1; first | rwa [add_block] at this | exact this) GW503.out) | (rw [add_block]; exact Nat.ne_of_lt (Nat.lt_of_lt_of_le (by have := wB _ hw508_1; first | rwa [add_block] at this | exact this) GW503.out)) | (show (Addr.add _ _).block ≠ _; rw [add_block]; exact Nat.ne_of_lt (Nat.lt_of_lt_of_le (by have := wB _ hw508_1; first | rwa [add_block] at this | exact this) GW503.out)) | (dsimp only; exact Nat.ne_of_lt (Nat.lt_of_lt_of_le (by have := wB _ hw508_1; first | rwa [add_block] at this | exact this) GW503.out))) _).trans (((cell_far (p := ⟨gb503, _, none⟩) (by first | exact Nat.ne_of_lt (Nat.lt_of_lt_of_le (by have := wB _ hw508_1; first | rwa [add_block] at this | exact this) GW503.out) | (rw [add_block]; exact Nat.ne_of_lt (Nat.lt_of_lt_of_le (by have := wB _ hw508_1; first | rwa [add_block] at this | exact this) GW503.out)) | (show (Addr.add _ _).block ≠ _; rw [add_block]; exact Nat.ne_of_lt (Nat.lt_of_lt_of_le (by have := wB _ hw508_1; first | rwa [add_block] at this | exact this) GW503.out)) | (dsimp only; exact Nat.ne_of_lt (Nat.lt_of_lt_of_le (by have := wB _ hw508_1; first | rwa [add_block] at this | exact this) GW503.out))) _).trans (hHeld.2.1)))), ((cell_far (p := ⟨gb503, _, none⟩) (by first | exact Nat.ne_of_lt (Nat.lt_of_lt_of_le (by have := wB _ hw509_0; first | rwa [add_block] at this | exact this) GW503.out) | (rw [add_block]; exact Nat.ne_of_lt (Nat.lt_of_lt_of_le (by have := wB _ hw509_0; first | rwa [add_block] at this | exact this) GW503.out)) | (show (Addr.add _ _).block ≠ _; rw [add_block]; exact Nat.ne_of_lt (Nat.lt_of_lt_of_le (by have := wB _ hw509_0; first | rwa [add_block] at this | exact this) GW503.out)) | (dsimp only; exact Nat.ne_of_lt (Nat.lt_of_lt_of_le (by have := wB _ hw509_0; first | rwa [add_block] at this | exact this) GW503.out))) _).trans (((cell_far (p := ⟨gb503, _, none⟩) (by first | exact Nat.ne_of_lt (Nat.lt_of_lt_of_le (by have := wB _ hw509_0; first | rwa [add_block] at this | exact this) GW503.out) | (rw [add_block]; exact Nat.ne_of_lt (Nat.lt_of_lt_of_le (by have := wB _ hw509_0; first | rwa [add_block] at this | exact this) GW503.out)) | (show (Addr.add _ _).block ≠ _; rw [add_block]; exact Nat.ne_of_lt (Nat.lt_of_lt_of_le (by have := wB _ hw509_0; first | rwa [add_block] at this | exact this) GW503.out)) | (dsimp only; exact Nat.ne_of_lt (Nat.lt_of_lt_of_le (by have := wB _ hw509_0; first | rwa [add_block] at this | exact this) GW503.out))) _).trans (hHeld.2.2.1)))), ((cell_far (p := ⟨gb503, _, none⟩) (by first | exact Nat.ne_of_lt (Nat.lt_of_lt_of_le (by have := wB _ hw509_1; first | rwa [add_block] at this | exact this) GW503.out) | (rw [add_block]; exact Nat.ne_of_lt (Nat.lt_of_lt_of_le (by have := wB _ hw509_1; first | rwa [add_block] at this | exact this) GW503.out)) | (show (Addr.add _ _).block ≠ _; rw [add_block]; exact Nat.ne_of_lt (Nat.lt_of_lt_of_le (by have := wB _ hw509_1; first | rwa [add_block] at this | exact this) GW503.out)) | (dsimp only; exact Nat.ne_of_lt (Nat.lt_of_lt_of_le (by have := wB _ hw509_1; first | rwa [add_block] at this | exact this) GW503.out))) _).trans (((cell_far (p := ⟨gb503, _, none⟩) (by first | exact Nat.ne_of_lt (Nat.lt_of_lt_of_le (by have := wB _ hw509_1; first | rwa [add_block] at this | exact this) GW503.out) | (rw [add_block]; exact Nat.ne_of_lt (Nat.lt_of_lt_of_le (by have := wB _ hw509_1; first | rwa [add_block] at this | exact this) GW503.out)) | (show (Addr.add _ _).block ≠ _; rw [add_block]; exact Nat.ne_of_lt (Nat.lt_of_lt_of_le (by have := wB _ hw509_1; first | rwa [add_block] at this | exact this) GW503.out)) | (dsimp only; exact Nat.ne_of_lt (Nat.lt_of_lt_of_le (by have := wB _ hw509_1; first | rwa [add_block] at this | exact this) GW503.out))) _).trans (hHeld.2.2.2))))⟩ (fun hHeld => ?_)
                  clear hK K
                  refine pure_ (i := 12) (N := some 13) (v := ?_) (a' := ?_) #[true, true, true, true, true, true, true, true, true, true, true, true, true] rfl rfl (any_of HT_.out (by kernel_rfl)) (fun _ _ _ h => h) (Or.inl ⟨by rfl, ?_⟩) ?_ ?_
                  rotate_left
                  · intro w'
                    go_simp
                    with_reducible rfl
                  rotate_left
                  · simp only [Act.put, List.setIfInBounds_toArray, List.set_cons_zero, List.set_cons_succ, i64_w, i32_w]
                    rfl
                  refine done_ (done_of HT_.out (by kernel_rfl)) ?_
                  try go_wp2
                  go_meet
                  case rel => exact ⟨_, (t512), (t510), (t511), (by first | rfl | (simp; done) | (simp [*]; done)), H', ⟨by have := HJ4.out; have := HK2.out; first | omega | exact Nat.le_refl _⟩, ⟨by (with_reducible repeat (first | apply bN | apply bD | apply bA)); refine bF ?_ NB496_503.out _; (with_reducible repeat (first | apply bN | apply bD | apply bA)); refine bF ?_ NB496_503.out _; (with_reducible repeat (first | apply bN | apply bD | apply bA)); exact BK496.out⟩, ⟨by (with_reducible repeat (first | apply bN | apply bD | apply bA)); refine bP (cs := #[.int .i64 t510, .int .i64 0]) ?_ 1 _ rfl; (with_reducible repeat (first | apply bN | apply bD | apply bA)); refine bP (cs := #[.int .i64 0, .int .i64 0]) ?_ 0 _ rfl; (with_reducible repeat (first | apply bN | apply bD | apply bA)); exact BK503.out⟩, ⟨by repeat (first | (with_reducible first | exact HB.out | apply cA | apply cN | apply cD | refine cS ?_ GE496.out | refine cS ?_ GE503.out) | exact HB.out)⟩⟩
                rw [if_neg c38] at H
                exact absurd H (by simp)
              rw [if_neg c37] at H
              exact absurd H (by simp)
            rw [if_neg c36] at H
            have c36b0 : ((l3.length : Int) == 2) = false := beq_eq_false_iff_ne.mpr c36
            have c36b1 : ((l3.length : Int) != 2) = true := bne_iff_ne.mpr c36
            by_cases c44 : (l3.length : Int) = 3
            · rw [if_pos c44] at H
              have c44b0 : ((l3.length : Int) == 3) = true := beq_iff_eq.mpr c44
              have c44b1 : ((l3.length : Int) != 3) = false := bne_eq_false_iff_eq.mpr c44
              clear c44
              by_cases c45 : 0 < (l3.length : Int)
              · rw [if_pos c45] at H
                have c45b0 : decide (0 < (l3.length : Int)) = true := decide_eq_true c45
                have c45b1 : decide (0 < l3.length) = true := decide_eq_true (by omega)
                clear c45
                by_cases c46 : 1 < (l3.length : Int)
                · rw [if_pos c46] at H
                  have c46b0 : decide (1 < (l3.length : Int)) = true := decide_eq_true c46
                  have c46b1 : decide (1 < l3.length) = true := decide_eq_true (by omega)
                  clear c46
                  by_cases c47 : 2 < (l3.length : Int)
                  · rw [if_pos c47] at H
                    have c47b0 : decide (2 < (l3.length : Int)) = true := decide_eq_true c47
                    have c47b1 : decide (2 < l3.length) = true := decide_eq_true (by omega)
                    clear c47
                    replace H := Option.bind_eq_some_iff.mp H
                    obtain ⟨⟨t516, t517⟩, A480, H⟩ := H
                    replace H : (span_Of.j2 k2 0 t516 t517) = some (r1, r2, r3) := H
                    have A48 := Aside0.mk A480
                    clear A480
                    have H' := Aside0.mk H
                    clear H
                    try go_wp2
                    have n0_ := Aside0.mk (bD BK496.out)
                    have n1_ := Aside0.mk (bD BK503.out)
                    have n2_ := Aside0.mk (cD HB.out)
                    clear BK496
                    clear BK503
                    clear HB
                    have BK496 := n0_
                    have BK503 := n1_
                    have HB := n2_
                    clear n0_ n1_ n2_
                    have p513 : 0 ≤ (0 : Int) := (by omega)
                    have q513 : 0 < (l3.length : Int) := of_decide_eq_true (by first | (with_reducible assumption) | assumption)
                    obtain ⟨ad513, e513, hx513_0, hx513_1⟩ := at_T47 HR3.out 0 p513 q513
                    have hw513_1 := hx513_1
                    (try rw [show ((0 : Int)).toNat = 0 from rfl] at hw513_1)
                    (try rw [show 0 * 2 = 0 from rfl] at hw513_1)
                    (try rw [Addr.add_zero'] at hw513_1)
                    have hw513_0 := hx513_0
                    (try rw [show ((0 : Int)).toNat = 0 from rfl] at hw513_0)
                    (try rw [show 0 * 2 = 0 from rfl] at hw513_0)
                    (try rw [Addr.add_zero'] at hw513_0)
                    cases e513
                    have qi513 : (0 < l3.length) = True := eq_true (by omega)
                    (try rw [show ((0 : Int)).toNat = 0 from rfl] at hx513_0)
                    (try rw [show 0 * 2 = 0 from rfl] at hx513_0)
                    (try rw [Addr.add_zero'] at hx513_0)
                    (try rw [show ((0 : Int)).toNat = 0 from rfl] at hx513_1)
                    (try rw [show 0 * 2 = 0 from rfl] at hx513_1)
                    (try rw [Addr.add_zero'] at hx513_1)
                    replace hx513_0 := (HB.out.cell (wB w hx513_0)).trans hx513_0
                    replace hx513_1 := (HB.out.cell (wB w hx513_1)).trans hx513_1
                    replace p513 := eq_true p513
                    replace q513 := eq_true q513
                    have p514 : 0 ≤ (1 : Int) := (by omega)
                    have q514 : 1 < (l3.length : Int) := of_decide_eq_true (by first | (with_reducible assumption) | assumption)
                    obtain ⟨ad514, e514, hx514_0, hx514_1⟩ := at_T47 HR3.out 1 p514 q514
                    have hw514_1 := hx514_1
                    (try rw [show ((1 : Int)).toNat = 1 from rfl] at hw514_1)
                    (try rw [show 1 * 2 = 2 from rfl] at hw514_1)
                    (try simp only [Nat.reduceMul, Nat.reduceEqDiff, Go.Addr.add, ↓reduceIte] at hw514_1)
                    have hw514_0 := hx514_0
                    (try rw [show ((1 : Int)).toNat = 1 from rfl] at hw514_0)
                    (try rw [show 1 * 2 = 2 from rfl] at hw514_0)
                    (try simp only [Nat.reduceMul, Nat.reduceEqDiff, Go.Addr.add, ↓reduceIte] at hw514_0)
                    obtain rfl : ad513 = ad514 := (by injection e514)
                    (try simp only [show (1 : Int).toNat = 1 from rfl, Nat.reduceMul, Nat.reduceEqDiff, Go.Addr.add, ↓reduceIte] at hx514_0)
                    (try simp only [show (1 : Int).toNat = 1 from rfl, Nat.reduceMul, Nat.reduceEqDiff, Go.Addr.add, ↓reduceIte] at hx514_1)
                    have qi514 : (1 < l3.length) = True := eq_true (by omega)
                    (try rw [show ((1 : Int)).toNat = 1 from rfl] at hx514_0)
                    (try rw [show 1 * 2 = 2 from rfl] at hx514_0)
                    (try rw [show ((1 : Int)).toNat = 1 from rfl] at hx514_1)
                    (try rw [show 1 * 2 = 2 from rfl] at hx514_1)
                    replace hx514_0 := (HB.out.cell (wB w hx514_0)).trans hx514_0
                    replace hx514_1 := (HB.out.cell (wB w hx514_1)).trans hx514_1
                    replace p514 := eq_true p514
                    replace q514 := eq_true q514
                    have p515 : 0 ≤ (2 : Int) := (by omega)
                    have q515 : 2 < (l3.length : Int) := of_decide_eq_true (by first | (with_reducible assumption) | assumption)
                    obtain ⟨ad515, e515, hx515_0, hx515_1⟩ := at_T47 HR3.out 2 p515 q515
                    have hw515_1 := hx515_1
                    (try rw [show ((2 : Int)).toNat = 2 from rfl] at hw515_1)
                    (try rw [show 2 * 2 = 4 from rfl] at hw515_1)
                    (try simp only [Nat.reduceMul, Nat.reduceEqDiff, Go.Addr.add, ↓reduceIte] at hw515_1)
                    have hw515_0 := hx515_0
                    (try rw [show ((2 : Int)).toNat = 2 from rfl] at hw515_0)
                    (try rw [show 2 * 2 = 4 from rfl] at hw515_0)
                    (try simp only [Nat.reduceMul, Nat.reduceEqDiff, Go.Addr.add, ↓reduceIte] at hw515_0)
                    obtain rfl : ad513 = ad515 := (by injection e515)
                    (try simp only [show (2 : Int).toNat = 2 from rfl, Nat.reduceMul, Nat.reduceEqDiff, Go.Addr.add, ↓reduceIte] at hx515_0)
                    (try simp only [show (2 : Int).toNat = 2 from rfl, Nat.reduceMul, Nat.reduceEqDiff, Go.Addr.add, ↓reduceIte] at hx515_1)
                    have qi515 : (2 < l3.length) = True := eq_true (by omega)
                    (try rw [show ((2 : Int)).toNat = 2 from rfl] at hx515_0)
                    (try rw [show 2 * 2 = 4 from rfl] at hx515_0)
                    (try rw [show ((2 : Int)).toNat = 2 from rfl] at hx515_1)
                    (try rw [show 2 * 2 = 4 from rfl] at hx515_1)
                    replace hx515_0 := (HB.out.cell (wB w hx515_0)).trans hx515_0
                    replace hx515_1 := (HB.out.cell (wB w hx515_1)).trans hx515_1
                    replace p515 := eq_true p515
                    replace q515 := eq_true q515
                    refine start_ (n := 12) (S := fun w' => w'.cell? ad513 = some (.int .i64 ((rd_T47 l3 0).f0)) ∧ w'.cell? ⟨ad513.block, ad513.off + 1, none⟩ = some (.int .i64 ((rd_T47 l3 0).f1)) ∧ w'.cell? ⟨ad513.block, ad513.off + 2, none⟩ = some (.int .i64 ((rd_T47 l3 1).f0)) ∧ w'.cell? ⟨ad513.block, ad513.off + 2 + 1, none⟩ = some (.int .i64 ((rd_T47 l3 1).f1)) ∧ w'.cell? ⟨ad513.block, ad513.off + 4, none⟩ = some (.int .i64 ((rd_T47 l3 2).f0)) ∧ w'.cell? ⟨ad513.block, ad513.off + 4 + 1, none⟩ = some (.int .i64 ((rd_T47 l3 2).f1))) (ds := []) #[false, false, false, false, false, false, false, false, false, false, false, false] (by kernel_rfl) rfl rfl ⟨((HB.out.cell (wB w hw513_0)).trans hw513_0), ((HB.out.cell (wB w hw513_1)).trans hw513_1), ((HB.out.cell (wB w hw514_0)).trans hw514_0), ((HB.out.cell (wB w hw514_1)).trans hw514_1), ((HB.out.cell (wB w hw515_0)).trans hw515_0), ((HB.out.cell (wB w hw515_1)).trans hw515_1)⟩ (fun hHeld => ?_); refine with_tabW span_Of.tab17 span_Of.bits17 (fun HT_ HW_ => ?_)
                    generalize w29.drew = w49 at BK496 BK503 HB hx513_0 hx513_1 hx514_0 hx514_1 hx515_0 hx515_1 hHeld ⊢
                    refine pure_ (i := 0) (N := some 72) (v := ?_) (a' := ?_) #[true, false, false, false, false, false, false, false, false, false, false, false] rfl rfl (any_of HT_.out (by kernel_rfl)) (fun _ _ _ h => h) (Or.inl ⟨by rfl, ?_⟩) ?_ ?_
                    rotate_left
                    · intro w'
                      go_simp
                      with_reducible rfl
                    rotate_left
                    · simp only [Act.put, List.setIfInBounds_toArray, List.set_cons_zero, List.set_cons_succ, i64_w, i32_w]
                      rfl
                    refine pure_ (i := 1) (N := some 73) (v := ?_) (a' := ?_) #[true, true, false, false, false, false, false, false, false, false, false, false] rfl rfl (any_of HT_.out (by kernel_rfl)) (fun _ _ _ h => h) (Or.inl ⟨by rfl, ?_⟩) ?_ ?_
                    rotate_left
                    · intro w'
                      go_simp
                      with_reducible rfl
                    rotate_left
                    · simp only [Act.put, List.setIfInBounds_toArray, List.set_cons_zero, List.set_cons_succ, i64_w, i32_w]
                      rfl
                    refine pure_ (i := 2) (N := some 74) (v := ?_) (a' := ?_) #[true, true, true, false, false, false, false, false, false, false, false, false] rfl rfl (any_of HT_.out (by kernel_rfl)) (fun _ _ _ h => h) (Or.inl ⟨by rfl, ?_⟩) ?_ ?_
                    rotate_left
                    · intro w'
                      go_simp
                      with_reducible rfl
                    rotate_left
                    · simp only [Act.put, List.setIfInBounds_toArray, List.set_cons_zero, List.set_cons_succ, i64_w, i32_w]
                      rfl
                    refine pure_ (i := 4) (N := some 76) (v := ?_) (a' := ?_) #[true, true, true, false, true, false, false, false, false, false, false, false] rfl rfl (any_of HT_.out (by kernel_rfl)) (fun _ _ _ h => h) (Or.inl ⟨by rfl, ?_⟩) ?_ ?_
                    rotate_left
                    · intro w'
                      go_simp
                      with_reducible rfl
                    rotate_left
                    · simp only [Act.put, List.setIfInBounds_toArray, List.set_cons_zero, List.set_cons_succ, i64_w, i32_w]
                      rfl
                    refine pure_ (i := 5) (N := some 77) (v := ?_) (a' := ?_) #[true, true, true, false, true, true, false, false, false, false, false, false] rfl rfl (any_of HT_.out (by kernel_rfl)) (fun _ _ _ h => h) (Or.inl ⟨by rfl, ?_⟩) ?_ ?_
                    rotate_left
                    · intro w'
                      go_simp
                      with_reducible rfl
                    rotate_left
                    · simp only [Act.put, List.setIfInBounds_toArray, List.set_cons_zero, List.set_cons_succ, i64_w, i32_w]
                      rfl
                    refine pure_ (i := 7) (N := some 79) (v := ?_) (a' := ?_) #[true, true, true, false, true, true, false, true, false, false, false, false] rfl rfl (any_of HT_.out (by kernel_rfl)) (fun _ _ _ h => h) (Or.inl ⟨by rfl, ?_⟩) ?_ ?_
                    rotate_left
                    · intro w'
                      go_simp
                      with_reducible rfl
                    rotate_left
                    · simp only [Act.put, List.setIfInBounds_toArray, List.set_cons_zero, List.set_cons_succ, i64_w, i32_w]
                      rfl
                    refine pure_ (i := 8) (N := some 80) (v := ?_) (a' := ?_) #[true, true, true, false, true, true, false, true, true, false, false, false] rfl rfl (any_of HT_.out (by kernel_rfl)) (fun _ _ _ h => h) (Or.inl ⟨by rfl, ?_⟩) ?_ ?_
                    rotate_left
                    · intro w'
                      go_simp
                      with_reducible rfl
                    rotate_left
                    · simp only [Act.put, List.setIfInBounds_toArray, List.set_cons_zero, List.set_cons_succ, i64_w, i32_w]
                      rfl
                    refine take_ (i := 3) (N := some 75) (v := ?_) (a' := ?_) #[true, true, true, true, true, true, false, true, true, false, false, false] rfl rfl (take_ofW HT_.out HW_.out (by kernel_rfl)) (fun _ _ _ h => h) (Or.inl ⟨by rfl, ?_⟩) hHeld ?_ ?_
                    rotate_left
                    · rintro w' ⟨s0, s1, s2, s3, s4, s5⟩
                      go_simp
                      with_reducible rfl
                    rotate_left
                    · simp only [Act.put, List.setIfInBounds_toArray, List.set_cons_zero, List.set_cons_succ, i64_w, i32_w]
                      rfl
                    refine take_ (i := 6) (N := some 78) (v := ?_) (a' := ?_) #[true, true, true, true, true, true, true, true, true, false, false, false] rfl rfl (take_ofW HT_.out HW_.out (by kernel_rfl)) (fun _ _ _ h => h) (Or.inl ⟨by rfl, ?_⟩) hHeld ?_ ?_
                    rotate_left
                    · rintro w' ⟨s0, s1, s2, s3, s4, s5⟩
                      go_simp
                      with_reducible rfl
                    rotate_left
                    · simp only [Act.put, List.setIfInBounds_toArray, List.set_cons_zero, List.set_cons_succ, i64_w, i32_w]
                      rfl
                    refine take_ (i := 9) (N := some 81) (v := ?_) (a' := ?_) #[true, true, true, true, true, true, true, true, true, true, false, false] rfl rfl (take_ofW HT_.out HW_.out (by kernel_rfl)) (fun _ _ _ h => h) (Or.inl ⟨by rfl, ?_⟩) hHeld ?_ ?_
                    rotate_left
                    · rintro w' ⟨s0, s1, s2, s3, s4, s5⟩
                      go_simp
                      with_reducible rfl
                    rotate_left
                    · simp only [Act.put, List.setIfInBounds_toArray, List.set_cons_zero, List.set_cons_succ, i64_w, i32_w]
                      rfl
                    refine one_ (i := 10) (N := some 82) #[true, true, true, true, true, true, true, true, true, true, true, false] rfl rfl (one_of HT_.out (by kernel_rfl)) (by decide) (fun K hK => ?_)
                    refine goes_ Try.func42 (by kernel_rfl) rfl #[.int .i64 a0, .agg #[.int .i64 ((rd_T47 l3 0).f0), .int .i64 ((rd_T47 l3 0).f1)], .agg #[.int .i64 ((rd_T47 l3 1).f0), .int .i64 ((rd_T47 l3 1).f1)], .agg #[.int .i64 ((rd_T47 l3 2).f0), .int .i64 ((rd_T47 l3 2).f1)]] (by rfl) rfl rfl (by (try simp only [List.map_toArray, List.map_cons, List.map_nil]); first | done | rfl | (simp only [List.length_drop, List.length_take]; rfl)) ?_
                    with_reducible refine (span_three.calls a0 ((rd_T47 l3 0).f0) ((rd_T47 l3 0).f1) ((rd_T47 l3 1).f0) ((rd_T47 l3 1).f1) ((rd_T47 l3 2).f0) ((rd_T47 l3 2).f1) t516 t517 _ A48.out).mono ?_
                    rintro e w50 ⟨rfl, hb⟩
                    refine ⟨_, rfl, ?_⟩
                    have n0_ := Aside0.mk (bB (g := gb496) (o := .cells #[.int .i64 x497000_2, .int .i64 x497001_2] 47 (0, 0)) (by (with_reducible repeat (first | apply bN | apply bD | apply bA)); exact BK496.out) hb)
                    have n1_ := Aside0.mk (bB (g := gb503) (o := .cells #[.int .i64 0, .int .i64 0] 47 (0, 0)) (by (with_reducible repeat (first | apply bN | apply bD | apply bA)); exact BK503.out) hb)
                    have n2_ := Aside0.mk (cT (by repeat (first | (with_reducible first | exact HB.out | apply cA | apply cN | apply cD | refine cS ?_ GE496.out | refine cS ?_ GE503.out) | exact HB.out)) hb)
                    clear BK496
                    clear BK503
                    clear HB
                    have BK496 := n0_
                    have BK503 := n1_
                    have HB := n2_
                    clear n0_ n1_ n2_
                    (try clear hb)
                    (try clear hb2)
                    (try clear hk)
                    (try clear hi)
                    refine hK.out _ _ ⟨((HB.out.cell (wB w hw513_0)).trans hw513_0), ((HB.out.cell (wB w hw513_1)).trans hw513_1), ((HB.out.cell (wB w hw514_0)).trans hw514_0), ((HB.out.cell (wB w hw514_1)).trans hw514_1), ((HB.out.cell (wB w hw515_0)).trans hw515_0), ((HB.out.cell (wB w hw515_1)).trans hw515_1)⟩ (fun hHeld => ?_)
                    clear hK K
                    refine norm_ (a' := ?_) ?_ ?_
                    rotate_left
                    · show Act.put _ (some 82) _ = _
                      simp only [Act.put, List.setIfInBounds_toArray, List.set_cons_zero, List.set_cons_succ, i64_w, i32_w]
                      rfl
                    refine one_ (i := 11) (N := none) #[true, true, true, true, true, true, true, true, true, true, true, true] rfl rfl (one_of HT_.out (by kernel_rfl)) (by decide) (fun K hK => ?_)
                    have hs51 : w50.cell? ⟨gb503, 0, none⟩ = some (.int .i64 0) := (bC BK503.out 0).trans rfl
                    have hfs51 := bZ BK503.out 0
                    have hns51_0 := NB496_503.out
                    have hms51_0 := NB503_496.out
                    have hs52 : w50.cell? ⟨gb503, 1, none⟩ = some (.int .i64 0) := (bC BK503.out 1).trans rfl
                    have hfs52 := bZ BK503.out 1
                    have hns52_0 := NB496_503.out
                    have hms52_0 := NB503_496.out
                    refine skip_ (w1 := ?_) (by rfl) rfl ?_ ?_
                    rotate_left
                    · go_simp
                      rfl
                    refine hK.out _ _ ⟨((cell_far (p := ⟨gb503, _, none⟩) (by first | exact Nat.ne_of_lt (Nat.lt_of_lt_of_le (by have := wB _ hw513_0; first | rwa [add_block] at this | exact this) GW503.out) | (rw [add_block]; exact Nat.ne_of_lt (Nat.lt_of_lt_of_le (by have := wB _ hw513_0; first | rwa [add_block] at this | exact this) GW503.out)) | (show (Addr.add _ _).block ≠ _; rw [add_block]; exact Nat.ne_of_lt (Nat.lt_of_lt_of_le (by have := wB _ hw513_0; first | rwa [add_block] at this | exact this) GW503.out)) | (dsimp only; exact Nat.ne_of_lt (Nat.lt_of_lt_of_le (by have := wB _ hw513_0; first | rwa [add_block] at this | exact this) GW503.out))) _).trans (((cell_far (p := ⟨gb503, _, none⟩) (by first | exact Nat.ne_of_lt (Nat.lt_of_lt_of_le (by have := wB _ hw513_0; first | rwa [add_block] at this | exact this) GW503.out) | (rw [add_block]; exact Nat.ne_of_lt (Nat.lt_of_lt_of_le (by have := wB _ hw513_0; first | rwa [add_block] at this | exact this) GW503.out)) | (show (Addr.add _ _).block ≠ _; rw [add_block]; exact Nat.ne_of_lt (Nat.lt_of_lt_of_le (by have := wB _ hw513_0; first | rwa [add_block] at this | exact this) GW503.out)) | (dsimp only; exact Nat.ne_of_lt (Nat.lt_of_lt_of_le (by have := wB _ hw513_0; first | rwa [add_block] at this | exact this) GW503.out))) _).trans (hHeld.1)))), ((cell_far (p := ⟨gb503, _, none⟩) (by first | exact Nat.ne_of_lt (Nat.lt_of_lt_of_le (by have := wB _ hw513_1; first | rwa [add_block] at this | exact this) GW503.out) | (rw [add_block]; exact Nat.ne_of_lt (Nat.lt_of_lt_of_le (by have := wB _ hw513_1; first | rwa [add_block] at this | exact this) GW503.out)) | (show (Addr.add _ _).block ≠ _; rw [add_block]; exact Nat.ne_of_lt (Nat.lt_of_lt_of_le (by have := wB _ hw513_1; first | rwa [add_block] at this | exact this) GW503.out)) | (dsimp only; exact Nat.ne_of_lt (Nat.lt_of_lt_of_le (by have := wB _ hw513_1; first | rwa [add_block] at this | exact this) GW503.out))) _).trans (((cell_far (p := ⟨gb503, _, none⟩) (by first | exact Nat.ne_of_lt (Nat.lt_of_lt_of_le (by have := wB _ hw513_1; first | rwa [add_block] at this | exact this) GW503.out) | (rw [add_block]; exact Nat.ne_of_lt (Nat.lt_of_lt_of_le (by have := wB _ hw513_1; first | rwa [add_block] at this | exact this) GW503.out)) | (show (Addr.add _ _).block ≠ _; rw [add_block]; exact Nat.ne_of_lt (Nat.lt_of_lt_of_le (by have := wB _ hw513_1; first | rwa [add_block] at this | exact this) GW503.out)) | (dsimp only; exact Nat.ne_of_lt (Nat.lt_of_lt_of_le (by have := wB _ hw513_1; first | rwa [add_block] at this | exact this) GW503.out))) _).trans (hHeld.2.1)))), ((cell_far (p := ⟨gb503, _, none⟩) (by first | exact Nat.ne_of_lt (Nat.lt_of_lt_of_le (by have := wB _ hw514_0; first | rwa [add_block] at this | exact this) GW503.out) | (rw [add_block]; exact Nat.ne_of_lt (Nat.lt_of_lt_of_le (by have := wB _ hw514_0; first | rwa [add_block] at this | exact this) GW503.out)) | (show (Addr.add _ _).block ≠ _; rw [add_block]; exact Nat.ne_of_lt (Nat.lt_of_lt_of_le (by have := wB _ hw514_0; first | rwa [add_block] at this | exact this) GW503.out)) | (dsimp only; exact Nat.ne_of_lt (Nat.lt_of_lt_of_le (by have := wB _ hw514_0; first | rwa [add_block] at this | exact this) GW503.out))) _).trans (((cell_far (p := ⟨gb503, _, none⟩) (by first | exact Nat.ne_of_lt (Nat.lt_of_lt_of_le (by have := wB _ hw514_0; first | rwa [add_block] at this | exact this) GW503.out) | (rw [add_block]; exact Nat.ne_of_lt (Nat.lt_of_lt_of_le (by have := wB _ hw514_0; first | rwa [add_block] at this | exact this) GW503.out)) | (show (Addr.add _ _).block ≠ _; rw [add_block]; exact Nat.ne_of_lt (Nat.lt_of_lt_of_le (by have := wB _ hw514_0; first | rwa [add_block] at this | exact this) GW503.out)) | (dsimp only; exact Nat.ne_of_lt (Nat.lt_of_lt_of_le (by have := wB _ hw514_0; first | rwa [add_block] at this | exact this) GW503.out))) _).trans (hHeld.2.2.1)))), ((cell_far (p := ⟨gb503, _, none⟩) (by first | exact Nat.ne_of_lt (Nat.lt_of_lt_of_le (by have := wB _ hw514_1; first | rwa [add_block] at this | exact this) GW503.out) | (rw [add_block]; exact Nat.ne_of_lt (Nat.lt_of_lt_of_le (by have := wB _ hw514_1; first | rwa [add_block] at this | exact this) GW503.out)) | (show (Addr.add _ _).block ≠ _; rw [add_block]; exact Nat.ne_of_lt (Nat.lt_of_lt_of_le (by have := wB _ hw514_1; first | rwa [add_block] at this | exact this) GW503.out)) | (dsimp only; exact Nat.ne_of_lt (Nat.lt_of_lt_of_le (by have := wB _ hw514_1; first | rwa [add_block] at this | exact this) GW503.out))) _).trans (((cell_far (p := ⟨gb503, _, none⟩) (by first | exact Nat.ne_of_lt (Nat.lt_of_lt_of_le (by have := wB _ hw514_1; first | rwa [add_block] at this | exact this) GW503.out) | (rw [add_block]; exact Nat.ne_of_lt (Nat.lt_of_lt_of_le (by have := wB _ hw514_1; first | rwa [add_block] at this | exact this) GW503.out)) | (show (Addr.add _ _).block ≠ _; rw [add_block]; exact Nat.ne_of_lt (Nat.lt_of_lt_of_le (by have := wB _ hw514_1; first | rwa [add_block] at this | exact this) GW503.out)) | (dsimp only; exact Nat.ne_of_lt (Nat.lt_of_lt_of_le (by have := wB _ hw514_1; first | rwa [add_block] at this | exact this) GW503.out))) _).trans (hHeld.2.2.2.1)))), ((cell_far (p := ⟨gb503, _, none⟩) (by first | exact Nat.ne_of_lt (Nat.lt_of_lt_of_le (by have := wB _ hw515_0; first | rwa [add_block] at this | exact this) GW503.out) | (rw [add_block]; exact Nat.ne_of_lt (Nat.lt_of_lt_of_le (by have := wB _ hw515_0; first | rwa [add_block] at this | exact this) GW503.out)) | (show (Addr.add _ _).block ≠ _; rw [add_block]; exact Nat.ne_of_lt (Nat.lt_of_lt_of_le (by have := wB _ hw515_0; first | rwa [add_block] at this | exact this) GW503.out)) | (dsimp only; exact Nat.ne_of_lt (Nat.lt_of_lt_of_le (by have := wB _ hw515_0; first | rwa [add_block] at this | exact this) GW503.out))) _).trans (((cell_far (p := ⟨gb503, _, none⟩) (by first | exact Nat.ne_of_lt (Nat.lt_of_lt_of_le (by have := wB _ hw515_0; first | rwa [add_block] at this | exact this) GW503.out) | (rw [add_block]; exact Nat.ne_of_lt (Nat.lt_of_lt_of_le (by have := wB _ hw515_0; first | rwa [add_block] at this | exact this) GW503.out)) | (show (Addr.add _ _).block ≠ _; rw [add_block]; exact Nat.ne_of_lt (Nat.lt_of_lt_of_le (by have := wB _ hw515_0; first | rwa [add_block] at this | exact this) GW503.out)) | (dsimp only; exact Nat.ne_of_lt (Nat.lt_of_lt_of_le (by have := wB _ hw515_0; first | rwa [add_block] at this | exact this) GW503.out))) _).trans (hHeld.2.2.2.2.1)))), ((cell_far (p := ⟨gb503, _, none⟩) (by first | exact Nat.ne_of_lt (Nat.lt_of_lt_of_le (by have := wB _ hw515_1; first | rwa [add_block] at this | exact this) GW503.out) | (rw [add_block]; exact Nat.ne_of_lt (Nat.lt_of_lt_of_le (by have := wB _ hw515_1; first | rwa [add_block] at this | exact this) GW503.out)) | (show (Addr.add _ _).block ≠ _; rw [add_block]; exact Nat.ne_of_lt (Nat.lt_of_lt_of_le (by have := wB _ hw515_1; first | rwa [add_block] at this | exact this) GW503.out)) | (dsimp only; exact Nat.ne_of_lt (Nat.lt_of_lt_of_le (by have := wB _ hw515_1; first | rwa [add_block] at this | exact this) GW503.out))) _).trans (((cell_far (p := ⟨gb503, _, none⟩) (by first | exact Nat.ne_of_lt (Nat.lt_of_lt_of_le (by have := wB _ hw515_1; first | rwa [add_block] at this | exact this) GW503.out) | (rw [add_block]; exact Nat.ne_of_lt (Nat.lt_of_lt_of_le (by have := wB _ hw515_1; first | rwa [add_block] at this | exact this) GW503.out)) | (show (Addr.add _ _).block ≠ _; rw [add_block]; exact Nat.ne_of_lt (Nat.lt_of_lt_of_le (by have := wB _ hw515_1; first | rwa [add_block] at this | exact this) GW503.out)) | (dsimp only; exact Nat.ne_of_lt (Nat.lt_of_lt_of_le (by have := wB _ hw515_1; first | rwa [add_block] at this | exact this) GW503.out))) _).trans (hHeld.2.2.2.2.2))))⟩ (fun hHeld => ?_)
                    clear hK K
                    refine done_ (done_of HT_.out (by kernel_rfl)) ?_
                    try go_wp2
                    go_meet
                    case rel => exact ⟨_, (0), (t516), (t517), (by first | rfl | (simp; done) | (simp [*]; done)), H', ⟨by have := HJ4.out; have := HK2.out; first | omega | exact Nat.le_refl _⟩, ⟨by (with_reducible repeat (first | apply bN | apply bD | apply bA)); refine bF ?_ NB496_503.out _; (with_reducible repeat (first | apply bN | apply bD | apply bA)); refine bF ?_ NB496_503.out _; (with_reducible repeat (first | apply bN | apply bD | apply bA)); exact BK496.out⟩, ⟨by (with_reducible repeat (first | apply bN | apply bD | apply bA)); refine bP (cs := #[.int .i64 t516, .int .i64 0]) ?_ 1 _ rfl; (with_reducible repeat (first | apply bN | apply bD | apply bA)); refine bP (cs := #[.int .i64 0, .int .i64 0]) ?_ 0 _ rfl; (with_reducible repeat (first | apply bN | apply bD | apply bA)); exact BK503.out⟩, ⟨by repeat (first | (with_reducible first | exact HB.out | apply cA | apply cN | apply cD | refine cS ?_ GE496.out | refine cS ?_ GE503.out) | exact HB.out)⟩⟩
                  rw [if_neg c47] at H
                  exact absurd H (by simp)
                rw [if_neg c46] at H
                exact absurd H (by simp)
              rw [if_neg c45] at H
              exact absurd H (by simp)
            rw [if_neg c44] at H
            have c44b0 : ((l3.length : Int) == 3) = false := beq_eq_false_iff_ne.mpr c44
            have c44b1 : ((l3.length : Int) != 3) = true := bne_iff_ne.mpr c44
            have H' := Aside0.mk H
            clear H
            go_wp2
            go_meet
            case rel => exact ⟨_, (0), (0), (0), (by first | rfl | (simp; done) | (simp [*]; done)), H', ⟨by have := HJ4.out; have := HK2.out; first | omega | exact Nat.le_refl _⟩, ⟨by (with_reducible repeat (first | apply bN | apply bD | apply bA)); exact BK496.out⟩, ⟨by (with_reducible repeat (first | apply bN | apply bD | apply bA)); exact BK503.out⟩, ⟨by repeat (first | (with_reducible first | exact HB.out | apply cA | apply cN | apply cD | refine cS ?_ GE496.out | refine cS ?_ GE503.out) | exact HB.out)⟩⟩
          case rest =>
            clear HC28
            try clear c3
            try clear c10
            try clear c10b0
            try clear c10b1
            try clear c12
            try clear c14
            try clear c14b0
            try clear c15
            try clear c15b0
            try clear c16
            try clear c16b0
            try clear c18
            try clear c30
            try clear c30b0
            try clear c30b1
            try clear c31
            try clear c31b0
            try clear c31b1
            try clear c36
            try clear c36b0
            try clear c36b1
            try clear c37
            try clear c37b0
            try clear c37b1
            try clear c38
            try clear c38b0
            try clear c38b1
            try clear c44
            try clear c44b0
            try clear c44b1
            try clear c45
            try clear c45b0
            try clear c45b1
            try clear c46
            try clear c46b0
            try clear c46b1
            try clear c47
            try clear c47b0
            try clear c47b1
            try clear hcz13_0
            try clear hcz13_1
            try clear hcz21_0
            try clear hcz21_1
            try clear hcz25_0
            try clear hcz25_1
            try clear hcz27_0
            try clear hcz27_1
            try clear hcz35_0
            try clear hcz35_1
            try clear hfz13_0
            try clear hfz13_1
            try clear hfz21_0
            try clear hfz21_1
            try clear hfz25_0
            try clear hfz25_1
            try clear hfz27_0
            try clear hfz27_1
            try clear hfz35_0
            try clear hfz35_1
            try clear hx500_0
            try clear hx500_1
            try clear hx504_0
            try clear hx504_1
            try clear hx508_0
            try clear hx508_1
            try clear hx509_0
            try clear hx509_1
            try clear hx513_0
            try clear hx513_1
            try clear hx514_0
            try clear hx514_1
            try clear hx515_0
            try clear hx515_1
            try clear p500
            try clear p504
            try clear p508
            try clear p509
            try clear p513
            try clear p514
            try clear p515
            try clear q500
            try clear q504
            try clear q508
            try clear q509
            try clear q513
            try clear q514
            try clear q515
            obtain ⟨kq, x13_27, x504000_27, x504001_27, rfl, HA, HJ27, BK496, BK503, HB⟩ := hcut
            cases kq with
            | zero => exact absurd HA.out (by simp [span_Of.j2])
            | succ kj27 =>
              have H := HA.out
              clear HA
              simp only [span_Of.j2] at H
              have HC53 := Aside0.mk H
              clear H
              go_upto_region 18 with (fail)
              go_cut [89] (fun v89 wc => ∃ (kq : Nat) (x89_52 : Bool), v89 = .bool x89_52 ∧ Aside0 (span_Of.j3 kq x13_27 x89_52 x504000_27 x504001_27 = some (r1, r2, r3)) ∧ Aside0 (kq ≤ kj27) ∧ Aside0 (wc.heap[gb496]? = some (.cells #[.int .i64 x497000_2, .int .i64 x497001_2] 47 (0, 0))) ∧ Aside0 (wc.heap[gb503]? = some (.cells #[.int .i64 x504000_27, .int .i64 x504001_27] 47 (0, 0))) ∧ Aside0 (Below w.heap.size w wc))
              case first =>
                have H := HC53.out
                clear HC53
                by_cases c54 : x13_27 = 0
                · rw [if_pos c54] at H
                  have c54b0 : (x13_27 == 0) = true := beq_iff_eq.mpr c54
                  have c54b1 : (x13_27 != 0) = false := bne_eq_false_iff_eq.mpr c54
                  clear c54
                  (first | rw [c54b0] | (simp only [i64_w, i32_w]; rw [c54b0]) | skip)
                  replace H := Option.bind_eq_some_iff.mp H
                  obtain ⟨t518, A550, H⟩ := H
                  replace H : (span_Of.j3 kj27 x13_27 (!t518) x504000_27 x504001_27) = some (r1, r2, r3) := H
                  have A55 := Aside0.mk A550
                  clear A550
                  have H' := Aside0.mk H
                  clear H
                  have hnb56 := NB503_496.out
                  have hnc56 := NB496_503.out
                  have hcz57_0 : wc.cell? ⟨gb503, 0, none⟩ = some (.int .i64 x504000_27) := (bC BK503.out 0).trans rfl
                  have hcz57_1 : wc.cell? ⟨gb503, 1, none⟩ = some (.int .i64 x504001_27) := (bC BK503.out 1).trans rfl
                  have hfz57_0 := bZ BK503.out 0
                  have hfz57_1 := bZ BK503.out 1
                  go_wp2_with (first | (go_at_call 30; (with_reducible refine (span_Whole.calls x504000_27 x504001_27 t518 _ A55.out).mono ?_); rintro e w58 ⟨rfl, hb⟩; have n0_ := Aside0.mk (bB (g := gb496) (o := .cells #[.int .i64 x497000_2, .int .i64 x497001_2] 47 (0, 0)) (by (with_reducible repeat (first | apply bN | apply bD | apply bA)); exact BK496.out) hb); have n1_ := Aside0.mk (bB (g := gb503) (o := .cells #[.int .i64 x504000_27, .int .i64 x504001_27] 47 (0, 0)) (by (with_reducible repeat (first | apply bN | apply bD | apply bA)); exact BK503.out) hb); have n2_ := Aside0.mk (cT (by repeat (first | (with_reducible first | exact HB.out | apply cA | apply cN | apply cD | refine cS ?_ GE496.out | refine cS ?_ GE503.out) | exact HB.out)) hb); clear BK496; clear BK503; clear HB; have BK496 := n0_; have BK503 := n1_; have HB := n2_; clear n0_ n1_ n2_; (try clear hb); (try clear hb2); (try clear hk); (try clear hi)))
                  go_meet
                  case rel => exact ⟨_, (!t518), (by first | rfl | (simp; done) | (simp [*]; done)), H', ⟨by have := HJ4.out; have := HK2.out; have := HJ27.out; first | omega | exact Nat.le_refl _⟩, ⟨by (with_reducible repeat (first | apply bN | apply bD | apply bA)); exact BK496.out⟩, ⟨by (with_reducible repeat (first | apply bN | apply bD | apply bA)); exact BK503.out⟩, ⟨by repeat (first | (with_reducible first | exact HB.out | apply cA | apply cN | apply cD | refine cS ?_ GE496.out | refine cS ?_ GE503.out) | exact HB.out)⟩⟩
                rw [if_neg c54] at H
                have c54b0 : (x13_27 == 0) = false := beq_eq_false_iff_ne.mpr c54
                have c54b1 : (x13_27 != 0) = true := bne_iff_ne.mpr c54
                (first | rw [c54b0] | (simp only [i64_w, i32_w]; rw [c54b0]) | skip)
                have H' := Aside0.mk H
                clear H
                go_wp2
                go_meet
                case rel => exact ⟨_, (false), (by first | rfl | (simp; done) | (simp [*]; done)), H', ⟨by have := HJ4.out; have := HK2.out; have := HJ27.out; first | omega | exact Nat.le_refl _⟩, ⟨by (with_reducible repeat (first | apply bN | apply bD | apply bA)); exact BK496.out⟩, ⟨by (with_reducible repeat (first | apply bN | apply bD | apply bA)); exact BK503.out⟩, ⟨by repeat (first | (with_reducible first | exact HB.out | apply cA | apply cN | apply cD | refine cS ?_ GE496.out | refine cS ?_ GE503.out) | exact HB.out)⟩⟩
              case rest =>
                clear HC53
                try clear c3
                try clear c10
                try clear c10b0
                try clear c10b1
                try clear c12
                try clear c14
                try clear c14b0
                try clear c15
                try clear c15b0
                try clear c16
                try clear c16b0
                try clear c18
                try clear c30
                try clear c30b0
                try clear c30b1
                try clear c31
                try clear c31b0
                try clear c31b1
                try clear c36
                try clear c36b0
                try clear c36b1
                try clear c37
                try clear c37b0
                try clear c37b1
                try clear c38
                try clear c38b0
                try clear c38b1
                try clear c44
                try clear c44b0
                try clear c44b1
                try clear c45
                try clear c45b0
                try clear c45b1
                try clear c46
                try clear c46b0
                try clear c46b1
                try clear c47
                try clear c47b0
                try clear c47b1
                try clear c54
                try clear c54b0
                try clear c54b1
                try clear hcz13_0
                try clear hcz13_1
                try clear hcz21_0
                try clear hcz21_1
                try clear hcz25_0
                try clear hcz25_1
                try clear hcz27_0
                try clear hcz27_1
                try clear hcz35_0
                try clear hcz35_1
                try clear hcz57_0
                try clear hcz57_1
                try clear hfz13_0
                try clear hfz13_1
                try clear hfz21_0
                try clear hfz21_1
                try clear hfz25_0
                try clear hfz25_1
                try clear hfz27_0
                try clear hfz27_1
                try clear hfz35_0
                try clear hfz35_1
                try clear hfz57_0
                try clear hfz57_1
                try clear hx500_0
                try clear hx500_1
                try clear hx504_0
                try clear hx504_1
                try clear hx508_0
                try clear hx508_1
                try clear hx509_0
                try clear hx509_1
                try clear hx513_0
                try clear hx513_1
                try clear hx514_0
                try clear hx514_1
                try clear hx515_0
                try clear hx515_1
                try clear p500
                try clear p504
                try clear p508
                try clear p509
                try clear p513
                try clear p514
                try clear p515
                try clear q500
                try clear q504
                try clear q508
                try clear q509
                try clear q513
                try clear q514
                try clear q515
                obtain ⟨kq, x89_52, rfl, HA, HJ52, BK496, BK503, HB⟩ := hcut
                cases kq with
                | zero => exact absurd HA.out (by simp [span_Of.j3])
                | succ kj52 =>
                  have H := HA.out
                  clear HA
                  simp only [span_Of.j3] at H
                  by_cases c59 : x89_52 = true
                  · subst c59
                    have H1 : (some (0, 0, 13)) = some (r1, r2, r3) := by rw [if_pos rfl] at H; exact H
                    clear H
                    have H := H1
                    clear H1
                    simp only [Option.some.injEq, Prod.mk.injEq] at H
                    obtain ⟨rfl, rfl, rfl⟩ := H
                    have hnb60 := NB496_503.out
                    have hnc60 := NB503_496.out
                    have hcz61_0 : wc.cell? ⟨gb496, 0, none⟩ = some (.int .i64 x497000_2) := (bC BK496.out 0).trans rfl
                    have hcz61_1 : wc.cell? ⟨gb496, 1, none⟩ = some (.int .i64 x497001_2) := (bC BK496.out 1).trans rfl
                    have hfz61_0 := bZ BK496.out 0
                    have hfz61_1 := bZ BK496.out 1
                    go_wp2
                    refine bodyPost_ret (results_ct rfl _ _ gb496 47 #[.int .i64 0, .int .i64 0] (0, 0) _ rfl (by (with_reducible repeat (first | apply bN | apply bD | apply bA)); refine bP (cs := #[.int .i64 0, .int .i64 x497001_2]) ?_ 1 _ rfl; (with_reducible repeat (first | apply bN | apply bD | apply bA)); refine bP (cs := #[.int .i64 x497000_2, .int .i64 x497001_2]) ?_ 0 _ rfl; (with_reducible repeat (first | apply bN | apply bD | apply bA)); exact BK496.out) Try.underlying47 rfl (by kernel_rfl)) rfl ?_
                    exact ⟨by first | rfl | (simp [errW_none, errW_some] <;> rfl) | (simp [*, errW_none, errW_some] <;> rfl), by repeat (first | (with_reducible first | exact HB.out | apply cA | apply cN | apply cD | refine cS ?_ GE496.out | refine cS ?_ GE503.out) | exact HB.out)⟩
                  replace c59 := Bool.eq_false_iff.mpr c59
                  subst c59
                  have H1 : (if x13_27 = 0 then (some (x504000_27, x504001_27, 0)) else (some (0, 0, x13_27))) = some (r1, r2, r3) := by rw [if_neg (show ¬ (false = true) by decide)] at H; exact H
                  clear H
                  have H := H1
                  clear H1
                  by_cases c62 : x13_27 = 0
                  · rw [if_pos c62] at H
                    have c62b0 : (x13_27 == 0) = true := beq_iff_eq.mpr c62
                    have c62b1 : (x13_27 != 0) = false := bne_eq_false_iff_eq.mpr c62
                    clear c62
                    simp only [Option.some.injEq, Prod.mk.injEq] at H
                    obtain ⟨rfl, rfl, rfl⟩ := H
                    have hnb63 := NB503_496.out
                    have hnc63 := NB496_503.out
                    have hcz64_0 : wc.cell? ⟨gb503, 0, none⟩ = some (.int .i64 x504000_27) := (bC BK503.out 0).trans rfl
                    have hcz64_1 : wc.cell? ⟨gb503, 1, none⟩ = some (.int .i64 x504001_27) := (bC BK503.out 1).trans rfl
                    have hfz64_0 := bZ BK503.out 0
                    have hfz64_1 := bZ BK503.out 1
                    have hcz65_0 : wc.cell? ⟨gb496, 0, none⟩ = some (.int .i64 x497000_2) := (bC BK496.out 0).trans rfl
                    have hcz65_1 : wc.cell? ⟨gb496, 1, none⟩ = some (.int .i64 x497001_2) := (bC BK496.out 1).trans rfl
                    have hfz65_0 := bZ BK496.out 0
                    have hfz65_1 := bZ BK496.out 1
                    go_wp2
                    refine bodyPost_ret (results_ct rfl _ _ gb496 47 #[.int .i64 x504000_27, .int .i64 x504001_27] (0, 0) _ rfl (by (with_reducible repeat (first | apply bN | apply bD | apply bA)); refine bP (cs := #[.int .i64 x504000_27, .int .i64 x497001_2]) ?_ 1 _ rfl; (with_reducible repeat (first | apply bN | apply bD | apply bA)); refine bP (cs := #[.int .i64 x497000_2, .int .i64 x497001_2]) ?_ 0 _ rfl; (with_reducible repeat (first | apply bN | apply bD | apply bA)); exact BK496.out) Try.underlying47 rfl (by kernel_rfl)) rfl ?_
                    exact ⟨by first | rfl | (simp [errW_none, errW_some] <;> rfl) | (simp [*, errW_none, errW_some] <;> rfl), by repeat (first | (with_reducible first | exact HB.out | apply cA | apply cN | apply cD | refine cS ?_ GE496.out | refine cS ?_ GE503.out) | exact HB.out)⟩
                  rw [if_neg c62] at H
                  have c62b0 : (x13_27 == 0) = false := beq_eq_false_iff_ne.mpr c62
                  have c62b1 : (x13_27 != 0) = true := bne_iff_ne.mpr c62
                  simp only [Option.some.injEq, Prod.mk.injEq] at H
                  obtain ⟨rfl, rfl, rfl⟩ := H
                  have hnb66 := NB496_503.out
                  have hnc66 := NB503_496.out
                  have hcz67_0 : wc.cell? ⟨gb496, 0, none⟩ = some (.int .i64 x497000_2) := (bC BK496.out 0).trans rfl
                  have hcz67_1 : wc.cell? ⟨gb496, 1, none⟩ = some (.int .i64 x497001_2) := (bC BK496.out 1).trans rfl
                  have hfz67_0 := bZ BK496.out 0
                  have hfz67_1 := bZ BK496.out 1
                  go_wp2
                  refine bodyPost_ret (results_ct rfl _ _ gb496 47 #[.int .i64 0, .int .i64 0] (0, 0) _ rfl (by (with_reducible repeat (first | apply bN | apply bD | apply bA)); refine bP (cs := #[.int .i64 0, .int .i64 x497001_2]) ?_ 1 _ rfl; (with_reducible repeat (first | apply bN | apply bD | apply bA)); refine bP (cs := #[.int .i64 x497000_2, .int .i64 x497001_2]) ?_ 0 _ rfl; (with_reducible repeat (first | apply bN | apply bD | apply bA)); exact BK496.out) Try.underlying47 rfl (by kernel_rfl)) rfl ?_
                  exact ⟨by first | rfl | (simp [errW_none, errW_some] <;> rfl) | (simp [*, errW_none, errW_some] <;> rfl), by repeat (first | (with_reducible first | exact HB.out | apply cA | apply cN | apply cD | refine cS ?_ GE496.out | refine cS ?_ GE503.out) | exact HB.out)⟩

end Go.Proofs.Ytpnldhimlpilhaa.F
