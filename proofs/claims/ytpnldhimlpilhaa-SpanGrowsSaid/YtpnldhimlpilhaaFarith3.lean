/- Written by wip/myprint.py of this session, out of Lean's print of the program: what Go functions come to, and that their calls come to it; no condition. -/
import Derived.Test.YtpnldhimlpilhaaF0
import Derived.Test.YtpnldhimlpilhaaFarith1
import Derived.Test.YtpnldhimlpilhaaFarith2
namespace Go.Proofs.Ytpnldhimlpilhaa.F
open Go.RowKit Go.Proofs.YtpnldhimlpilhaaW.PrintWords Go.Proofs.YtpnldhimlpilhaaW.PrintLast Go.Proofs.YtpnldhimlpilhaaW.PrintMore Go.Proofs.YtpnldhimlpilhaaW
attribute [local go_sem] max2_int min2_int max_two min_two max_three min_three max_four min_four   -- for this text's walks alone
set_option linter.unusedVariables false
set_option linter.unusedSimpArgs false

/-! ### arith_Value: function 23 -/
mutual
def arith_Value.j0 : Nat → Int → Int → Int → List Int → Bool → Option (Int × Int)
  | 0, _, _, _, _, _ => none
  | k + 1, x0, x1, x2, x3, x30 => if x30 = true then (some (0, 1)) else (arith_Value.l0 k x0 x1 x2 x3 x3 (x3.length : Int) 0)
def arith_Value.l0 : Nat → Int → Int → Int → List Int → List Int → Int → Int → Option (Int × Int)
  | 0, _, _, _, _, _, _, _ => none
  | k + 1, x0, x1, x2, x3, x31, x32, x33 => if x33 < x32 then (if 0 ≤ x33 then (if x33 < (x31.length : Int) then ((arith_Word.f (rd x31 x33)).bind fun t108 => (if t108 = true then (arith_Value.l0 k x0 x1 x2 x3 x31 x32 (wrap64 (x33 + 1))) else (some (0, 1)))) else (none)) else (none)) else (if (x3.length : Int) = 1 then (if 0 < (x3.length : Int) then ((arith_one.f x0 x1 x2 (rd x3 0)).bind fun bt110 => (arith_Value.j2 k bt110.1 bt110.2)) else (none)) else (if (x3.length : Int) = 2 then (if 0 < (x3.length : Int) then (if 1 < (x3.length : Int) then ((arith_two.f k x0 (rd x3 0) (rd x3 1)).bind fun bt114 => (arith_Value.j2 k bt114.1 bt114.2)) else (none)) else (none)) else (if (x3.length : Int) = 3 then (if 0 < (x3.length : Int) then (if 1 < (x3.length : Int) then (if 2 < (x3.length : Int) then ((arith_three.f x0 (rd x3 0) (rd x3 1) (rd x3 2)).bind fun t119 => (arith_Value.j2 k t119 0)) else (none)) else (none)) else (none)) else (arith_Value.j2 k 0 0))))
def arith_Value.j2 : Nat → Int → Int → Option (Int × Int)
  | 0, _, _ => none
  | k + 1, x12, x13 => if x13 = 0 then ((arith_Word.f x12).bind fun t120 => (arith_Value.j3 k x12 x13 (!t120))) else (arith_Value.j3 k x12 x13 false)
def arith_Value.j3 : Nat → Int → Int → Bool → Option (Int × Int)
  | 0, _, _, _ => none
  | k + 1, x12, x13, x87 => if x87 = true then (some (0, 13)) else (if x13 = 0 then (some (x12, 0)) else (some (0, x13)))
end
def arith_Value.f (k : Nat) (a0 : Int) (a1 : Int) (a2 : Int) (l3 : List Int) : Option (Int × Int) := (arith_Arity.f k a0).bind fun t104 => (if t104 < 1 then (arith_Value.j0 k a0 a1 a2 l3 true) else ((arith_Arity.f k a0).bind fun t105 => (if (l3.length : Int) = t105 then ((arith_Constants.f k a0 a1 a2).bind fun t106 => (arith_Value.j0 k a0 a1 a2 l3 (!t106))) else (arith_Value.j0 k a0 a1 a2 l3 true))))
theorem arith_Value.mono_l : ∀ k, (∀ y0 y1 y2 y3 y4, LeO (arith_Value.j0 k y0 y1 y2 y3 y4) (arith_Value.j0 (k + 1) y0 y1 y2 y3 y4)) ∧ (∀ y0 y1 y2 y3 y4 y5 y6, LeO (arith_Value.l0 k y0 y1 y2 y3 y4 y5 y6) (arith_Value.l0 (k + 1) y0 y1 y2 y3 y4 y5 y6)) ∧ (∀ y0 y1, LeO (arith_Value.j2 k y0 y1) (arith_Value.j2 (k + 1) y0 y1)) ∧ (∀ y0 y1 y2, LeO (arith_Value.j3 k y0 y1 y2) (arith_Value.j3 (k + 1) y0 y1 y2))
  | 0 => ⟨fun _ _ _ _ _ r h => by simp [arith_Value.j0] at h, fun _ _ _ _ _ _ _ r h => by simp [arith_Value.l0] at h, fun _ _ r h => by simp [arith_Value.j2] at h, fun _ _ _ r h => by simp [arith_Value.j3] at h⟩
  | k + 1 => by
    obtain ⟨ih0, ih1, ih2, ih3⟩ := arith_Value.mono_l k
    refine ⟨?_, ?_, ?_, ?_⟩
    · intro y0 y1 y2 y3 y4
      unfold arith_Value.j0
      repeat' first
      | (with_reducible exact ih0 _ _ _ _ _)
      | (with_reducible exact ih1 _ _ _ _ _ _ _)
      | (with_reducible exact ih2 _ _)
      | (with_reducible exact ih3 _ _ _)
      | (with_reducible exact arith_Arity.mono _ _)
      | (with_reducible exact arith_Constants.mono _ _ _ _)
      | (with_reducible exact arith_two.mono _ _ _ _)
      | (with_reducible exact LeO.refl _)
      | (with_reducible exact LeO.none _)
      | (with_reducible refine LeO.ite ?_ ?_)
      | (with_reducible refine LeO.bind ?_ (fun _ => ?_))
      | exact ih0 _ _ _ _ _
      | exact ih1 _ _ _ _ _ _ _
      | exact ih2 _ _
      | exact ih3 _ _ _
      | exact arith_Arity.mono _ _
      | exact arith_Constants.mono _ _ _ _
      | exact arith_two.mono _ _ _ _
      | exact LeO.none _
      | refine LeO.ite ?_ ?_
      | refine LeO.bind ?_ (fun _ => ?_)
    · intro y0 y1 y2 y3 y4 y5 y6
      unfold arith_Value.l0
      repeat' first
      | (with_reducible exact ih0 _ _ _ _ _)
      | (with_reducible exact ih1 _ _ _ _ _ _ _)
      | (with_reducible exact ih2 _ _)
      | (with_reducible exact ih3 _ _ _)
      | (with_reducible exact arith_Arity.mono _ _)
      | (with_reducible exact arith_Constants.mono _ _ _ _)
      | (with_reducible exact arith_two.mono _ _ _ _)
      | (with_reducible exact LeO.refl _)
      | (with_reducible exact LeO.none _)
      | (with_reducible refine LeO.ite ?_ ?_)
      | (with_reducible refine LeO.bind ?_ (fun _ => ?_))
      | exact ih0 _ _ _ _ _
      | exact ih1 _ _ _ _ _ _ _
      | exact ih2 _ _
      | exact ih3 _ _ _
      | exact arith_Arity.mono _ _
      | exact arith_Constants.mono _ _ _ _
      | exact arith_two.mono _ _ _ _
      | exact LeO.none _
      | refine LeO.ite ?_ ?_
      | refine LeO.bind ?_ (fun _ => ?_)
    · intro y0 y1
      unfold arith_Value.j2
      repeat' first
      | (with_reducible exact ih0 _ _ _ _ _)
      | (with_reducible exact ih1 _ _ _ _ _ _ _)
      | (with_reducible exact ih2 _ _)
      | (with_reducible exact ih3 _ _ _)
      | (with_reducible exact arith_Arity.mono _ _)
      | (with_reducible exact arith_Constants.mono _ _ _ _)
      | (with_reducible exact arith_two.mono _ _ _ _)
      | (with_reducible exact LeO.refl _)
      | (with_reducible exact LeO.none _)
      | (with_reducible refine LeO.ite ?_ ?_)
      | (with_reducible refine LeO.bind ?_ (fun _ => ?_))
      | exact ih0 _ _ _ _ _
      | exact ih1 _ _ _ _ _ _ _
      | exact ih2 _ _
      | exact ih3 _ _ _
      | exact arith_Arity.mono _ _
      | exact arith_Constants.mono _ _ _ _
      | exact arith_two.mono _ _ _ _
      | exact LeO.none _
      | refine LeO.ite ?_ ?_
      | refine LeO.bind ?_ (fun _ => ?_)
    · intro y0 y1 y2
      unfold arith_Value.j3
      repeat' first
      | (with_reducible exact ih0 _ _ _ _ _)
      | (with_reducible exact ih1 _ _ _ _ _ _ _)
      | (with_reducible exact ih2 _ _)
      | (with_reducible exact ih3 _ _ _)
      | (with_reducible exact arith_Arity.mono _ _)
      | (with_reducible exact arith_Constants.mono _ _ _ _)
      | (with_reducible exact arith_two.mono _ _ _ _)
      | (with_reducible exact LeO.refl _)
      | (with_reducible exact LeO.none _)
      | (with_reducible refine LeO.ite ?_ ?_)
      | (with_reducible refine LeO.bind ?_ (fun _ => ?_))
      | exact ih0 _ _ _ _ _
      | exact ih1 _ _ _ _ _ _ _
      | exact ih2 _ _
      | exact ih3 _ _ _
      | exact arith_Arity.mono _ _
      | exact arith_Constants.mono _ _ _ _
      | exact arith_two.mono _ _ _ _
      | exact LeO.none _
      | refine LeO.ite ?_ ?_
      | refine LeO.bind ?_ (fun _ => ?_)
theorem arith_Value.mono : ∀ a0 a1 a2 a3 k, LeO (arith_Value.f k a0 a1 a2 a3) (arith_Value.f (k + 1) a0 a1 a2 a3) := by
  intro a0 a1 a2 a3 k
  obtain ⟨ih0, ih1, ih2, ih3⟩ := arith_Value.mono_l k
  unfold arith_Value.f
  repeat' first
      | (with_reducible exact ih0 _ _ _ _ _)
      | (with_reducible exact ih1 _ _ _ _ _ _ _)
      | (with_reducible exact ih2 _ _)
      | (with_reducible exact ih3 _ _ _)
      | (with_reducible exact arith_Arity.mono _ _)
      | (with_reducible exact arith_Constants.mono _ _ _ _)
      | (with_reducible exact arith_two.mono _ _ _ _)
      | (with_reducible exact LeO.refl _)
      | (with_reducible exact LeO.none _)
      | (with_reducible refine LeO.ite ?_ ?_)
      | (with_reducible refine LeO.bind ?_ (fun _ => ?_))
      | exact ih0 _ _ _ _ _
      | exact ih1 _ _ _ _ _ _ _
      | exact ih2 _ _
      | exact ih3 _ _ _
      | exact arith_Arity.mono _ _
      | exact arith_Constants.mono _ _ _ _
      | exact arith_two.mono _ _ _ _
      | exact LeO.none _
      | refine LeO.ite ?_ ?_
      | refine LeO.bind ?_ (fun _ => ?_)
def arith_Value.T14 : Bool × List (List Nat × List Nat) := (true, [([], []), ([], []), ([1], [1]), ([2], [2]), ([], []), ([4], [4]), ([5], [5]), ([0, 3, 6], [0, 3, 6]), ([7], [7]), ([8], [8]), ([8], [8]), ([9, 7, 0, 1, 2, 3, 4, 5, 6, 7, 8, 9], [9]), ([10, 11, 0, 1, 2, 3, 4, 5, 6, 7, 8, 9, 10, 11], [10])])
def arith_Value.B14 : List Nat := [0, 0, 2, 6, 0, 16, 48, 127, 255, 511, 511, 1023, 4095]
theorem arith_Value.tab14 : rtab .any (opsOf Try.f23 14) = arith_Value.T14 := by kernel_rfl
theorem arith_Value.bits14 : waitsOk arith_Value.T14.2 arith_Value.B14 = true := by kernel_rfl
def arith_Value.T16 : Bool × List (List Nat × List Nat) := (true, [([], []), ([], []), ([1], [1]), ([2], [2]), ([], []), ([4], [4]), ([5], [5]), ([], []), ([7], [7]), ([8], [8]), ([0, 3, 6, 9], [0, 3, 6, 9]), ([10, 10, 0, 1, 2, 3, 4, 5, 6, 7, 8, 9, 10], [10])])
def arith_Value.B16 : List Nat := [0, 0, 2, 6, 0, 16, 48, 0, 128, 384, 1023, 2047]
theorem arith_Value.tab16 : rtab .any (opsOf Try.f23 16) = arith_Value.T16 := by kernel_rfl
theorem arith_Value.bits16 : waitsOk arith_Value.T16.2 arith_Value.B16 = true := by kernel_rfl
set_option maxHeartbeats 8000000 in
set_option maxRecDepth 100000 in
theorem arith_Value.calls (k : Nat) (a0 : Int) (a1 : Int) (a2 : Int) (A3 : Option Addr) (c3 : Nat) (l3 : List Int) (r1 : Int) (r2 : Int) (w : World) (hr3 : Kd.C (Kd.int .i64) w A3 l3.length l3) (hc3 : l3.length ≤ c3) (h : arith_Value.f k a0 a1 a2 l3 = some (r1, r2)) :
    Calls Try.prog 23 #[.int .i64 a0, .int .i64 a1, .int .i64 a2, .slice A3 l3.length c3] w fun e w' => e = .returned (.tuple #[.int .i64 r1, .int .i64 r2]) ∧ Below w.heap.size w w' := by
  have HR3 := Aside0.mk hr3
  have HC3 := Aside0.mk hc3
  clear hr3 hc3
  have HB := Aside0.mk (Below.refl w.heap.size w)
  have H : ((arith_Arity.f k a0).bind fun t104 => (if t104 < 1 then (arith_Value.j0 k a0 a1 a2 l3 true) else ((arith_Arity.f k a0).bind fun t105 => (if (l3.length : Int) = t105 then ((arith_Constants.f k a0 a1 a2).bind fun t106 => (arith_Value.j0 k a0 a1 a2 l3 (!t106))) else (arith_Value.j0 k a0 a1 a2 l3 true))))) = some (r1, r2) := h
  clear h
  have HC5 := Aside0.mk H
  clear H
  go_enter Try.func23, Try.ntmps23
  go_upto_region 1 with (fail)
  go_cut [30] (fun v30 wc => ∃ (kq : Nat) (x30_4 : Bool), v30 = .bool x30_4 ∧ Aside0 (arith_Value.j0 kq a0 a1 a2 l3 x30_4 = some (r1, r2)) ∧ Aside0 (kq ≤ k) ∧ Aside0 (Below w.heap.size w wc))
  case first =>
    have H := HC5.out
    clear HC5
    replace H := Option.bind_eq_some_iff.mp H
    obtain ⟨t104, A60, H⟩ := H
    replace H : (if t104 < 1 then (arith_Value.j0 k a0 a1 a2 l3 true) else ((arith_Arity.f k a0).bind fun t105 => (if (l3.length : Int) = t105 then ((arith_Constants.f k a0 a1 a2).bind fun t106 => (arith_Value.j0 k a0 a1 a2 l3 (!t106))) else (arith_Value.j0 k a0 a1 a2 l3 true)))) = some (r1, r2) := H
    have A6 := Aside0.mk A60
    clear A60
    by_cases c7 : t104 < 1
    · rw [if_pos c7] at H
      have c7b0 : decide (t104 < 1) = true := decide_eq_true c7
      clear c7
      (first | rw [c7b0] | (simp only [i64_w, i32_w]; rw [c7b0]) | skip)
      have H' := Aside0.mk H
      clear H
      go_wp2_with (first | ((with_reducible refine gate_callee (f := 17) rfl ?_); refine goesL_ (some 15) rfl rfl Try.func17 (by kernel_rfl) rfl #[.int .i64 a0] rfl (by (try simp only [List.map_toArray, List.map_cons, List.map_nil]); first | done | rfl | (simp only [List.length_drop, List.length_take]; rfl)) ?_; (with_reducible refine (arith_Arity.calls k a0 t104 _ A6.out).mono ?_); rintro e w' ⟨rfl, ⟨nd, rfl⟩⟩; refine ⟨_, rfl, ?_⟩))
      go_meet
      case rel => exact ⟨_, (true), (by first | rfl | (simp; done) | (simp [*]; done)), H', ⟨by first | omega | exact Nat.le_refl _⟩, ⟨by repeat (first | (with_reducible first | exact HB.out | apply cA | apply cN | apply cD) | exact HB.out)⟩⟩
    rw [if_neg c7] at H
    have c7b0 : decide (t104 < 1) = false := decide_eq_false c7
    clear c7
    (first | rw [c7b0] | (simp only [i64_w, i32_w]; rw [c7b0]) | skip)
    replace H := Option.bind_eq_some_iff.mp H
    obtain ⟨t105, A80, H⟩ := H
    replace H : (if (l3.length : Int) = t105 then ((arith_Constants.f k a0 a1 a2).bind fun t106 => (arith_Value.j0 k a0 a1 a2 l3 (!t106))) else (arith_Value.j0 k a0 a1 a2 l3 true)) = some (r1, r2) := H
    have A8 := Aside0.mk A80
    clear A80
    by_cases c9 : (l3.length : Int) = t105
    · rw [if_pos c9] at H
      have c9b0 : ((l3.length : Int) == t105) = true := beq_iff_eq.mpr c9
      have c9b1 : ((l3.length : Int) != t105) = false := bne_eq_false_iff_eq.mpr c9
      clear c9
      replace H := Option.bind_eq_some_iff.mp H
      obtain ⟨t106, A100, H⟩ := H
      replace H : (arith_Value.j0 k a0 a1 a2 l3 (!t106)) = some (r1, r2) := H
      have A10 := Aside0.mk A100
      clear A100
      have H' := Aside0.mk H
      clear H
      go_wp2_with (first | ((with_reducible refine gate_callee (f := 17) rfl ?_); refine goesL_ (some 15) rfl rfl Try.func17 (by kernel_rfl) rfl #[.int .i64 a0] rfl (by (try simp only [List.map_toArray, List.map_cons, List.map_nil]); first | done | rfl | (simp only [List.length_drop, List.length_take]; rfl)) ?_; (with_reducible refine (arith_Arity.calls k a0 t104 _ A6.out).mono ?_); rintro e w' ⟨rfl, ⟨nd, rfl⟩⟩; refine ⟨_, rfl, ?_⟩) | (go_at_call 17; (with_reducible refine (arith_Arity.calls k a0 t105 _ A8.out).mono ?_); rintro e w' ⟨rfl, ⟨nd, rfl⟩⟩) | (go_at_call 19; (with_reducible refine (arith_Constants.calls k a0 a1 a2 t106 _ A10.out).mono ?_); rintro e w' ⟨rfl, ⟨nd, rfl⟩⟩))
      go_meet
      case rel => exact ⟨_, (!t106), (by first | rfl | (simp; done) | (simp [*]; done)), H', ⟨by first | omega | exact Nat.le_refl _⟩, ⟨by repeat (first | (with_reducible first | exact HB.out | apply cA | apply cN | apply cD) | exact HB.out)⟩⟩
    rw [if_neg c9] at H
    have c9b0 : ((l3.length : Int) == t105) = false := beq_eq_false_iff_ne.mpr c9
    have c9b1 : ((l3.length : Int) != t105) = true := bne_iff_ne.mpr c9
    have H' := Aside0.mk H
    clear H
    go_wp2_with (first | ((with_reducible refine gate_callee (f := 17) rfl ?_); refine goesL_ (some 15) rfl rfl Try.func17 (by kernel_rfl) rfl #[.int .i64 a0] rfl (by (try simp only [List.map_toArray, List.map_cons, List.map_nil]); first | done | rfl | (simp only [List.length_drop, List.length_take]; rfl)) ?_; (with_reducible refine (arith_Arity.calls k a0 t104 _ A6.out).mono ?_); rintro e w' ⟨rfl, ⟨nd, rfl⟩⟩; refine ⟨_, rfl, ?_⟩) | (go_at_call 17; (with_reducible refine (arith_Arity.calls k a0 t105 _ A8.out).mono ?_); rintro e w' ⟨rfl, ⟨nd, rfl⟩⟩))
    go_meet
    case rel => exact ⟨_, (true), (by first | rfl | (simp; done) | (simp [*]; done)), H', ⟨by first | omega | exact Nat.le_refl _⟩, ⟨by repeat (first | (with_reducible first | exact HB.out | apply cA | apply cN | apply cD) | exact HB.out)⟩⟩
  case rest =>
    clear HC5
    try clear c3
    try clear c7
    try clear c7b0
    try clear c9
    try clear c9b0
    try clear c9b1
    obtain ⟨kq, x30_4, rfl, HA, HJ4, HB⟩ := hcut
    cases kq with
    | zero => exact absurd HA.out (by simp [arith_Value.j0])
    | succ kj4 =>
      have H := HA.out
      clear HA
      simp only [arith_Value.j0] at H
      by_cases c11 : x30_4 = true
      · subst c11
        have H1 : (some (0, 1)) = some (r1, r2) := by rw [if_pos rfl] at H; exact H
        clear H
        have H := H1
        clear H1
        simp only [Option.some.injEq, Prod.mk.injEq] at H
        obtain ⟨rfl, rfl⟩ := H
        go_wp2
        go_ret2
        exact ⟨by first | rfl | (simp [errW_none, errW_some] <;> rfl) | (simp [*, errW_none, errW_some] <;> rfl), by repeat (first | (with_reducible first | exact HB.out | apply cA | apply cN | apply cD) | exact HB.out)⟩
      replace c11 := Bool.eq_false_iff.mpr c11
      subst c11
      have H1 : (arith_Value.l0 kj4 a0 a1 a2 l3 l3 (l3.length : Int) 0) = some (r1, r2) := by rw [if_neg (show ¬ (false = true) by decide)] at H; exact H
      clear H
      have H := H1
      clear H1
      have H' := Aside0.mk H
      clear H
      go_wp2
      go_loopg [33] kj4 (fun kq v33 w' => ∃ (x33_2 : Int), v33 = .int .i64 x33_2 ∧ Aside0 (arith_Value.l0 kq a0 a1 a2 l3 l3 (l3.length : Int) x33_2 = some (r1, r2)) ∧ Aside0 (kq ≤ kj4) ∧ Aside0 (Below w.heap.size w w'))
      case atStart => exact ⟨(0), (by first | rfl | (simp; done) | (simp [*]; done)), H', ⟨Nat.le_refl _⟩, ⟨by repeat (first | (with_reducible first | exact HB.out | apply cA | apply cN | apply cD) | exact HB.out)⟩⟩
      case round =>
        clear H'
        try clear c3
        try clear c7
        try clear c7b0
        try clear c9
        try clear c9b0
        try clear c9b1
        try clear c11
        obtain ⟨x33_2, rfl, HA, HK2, HB⟩ := hrel
        cases gk with
        | zero => exact absurd HA.out (by simp [arith_Value.l0])
        | succ k2 =>
          have H := HA.out
          clear HA
          simp only [arith_Value.l0] at H
          by_cases c12 : x33_2 < (l3.length : Int)
          · rw [if_pos c12] at H
            have c12b0 : decide (x33_2 < (l3.length : Int)) = true := decide_eq_true c12
            clear c12
            by_cases c13 : 0 ≤ x33_2
            · rw [if_pos c13] at H
              have c13b0 : decide (0 ≤ x33_2) = true := decide_eq_true c13
              clear c13
              by_cases c14 : x33_2 < (l3.length : Int)
              · rw [if_pos c14] at H
                have c14b0 : decide (x33_2 < (l3.length : Int)) = true := decide_eq_true c14
                clear c14
                replace H := Option.bind_eq_some_iff.mp H
                obtain ⟨t108, A150, H⟩ := H
                replace H : (if t108 = true then (arith_Value.l0 k2 a0 a1 a2 l3 l3 (l3.length : Int) (wrap64 (x33_2 + 1))) else (some (0, 1))) = some (r1, r2) := H
                have A15 := Aside0.mk A150
                clear A150
                by_cases c16 : t108 = true
                · subst c16
                  have H1 : (arith_Value.l0 k2 a0 a1 a2 l3 l3 (l3.length : Int) (wrap64 (x33_2 + 1))) = some (r1, r2) := by rw [if_pos rfl] at H; exact H
                  clear H
                  have H := H1
                  clear H1
                  have H' := Aside0.mk H
                  clear H
                  have p107 : 0 ≤ (x33_2 : Int) := of_decide_eq_true (by first | (with_reducible assumption) | assumption)
                  have q107 : x33_2 < (l3.length : Int) := of_decide_eq_true (by first | (with_reducible assumption) | assumption)
                  obtain ⟨ad107, e107, hx107_0⟩ := Kd.at_int HR3.out x33_2 p107 q107
                  cases e107
                  replace hx107_0 := (HB.out.cell (wB w hx107_0)).trans hx107_0
                  replace p107 := eq_true p107
                  replace q107 := eq_true q107
                  go_wp2_with (first | ((with_reducible refine gate_callee (f := 21) rfl ?_); refine goesL_ (some 38) rfl rfl Try.func21 (by kernel_rfl) rfl #[.int .i64 (rd l3 x33_2)] rfl (by (try simp only [List.map_toArray, List.map_cons, List.map_nil]); first | done | rfl | (simp only [List.length_drop, List.length_take]; rfl)) ?_; (with_reducible refine (arith_Word.calls (rd l3 x33_2) true _ A15.out).mono ?_); rintro e w' ⟨rfl, ⟨nd, rfl⟩⟩; refine ⟨_, rfl, ?_⟩))
                  go_roundg k2
                  case measure => have := HJ4.out; have := HK2.out; omega
                  case rel => exact ⟨(wrap64 (x33_2 + 1)), (by first | rfl | (simp; done) | (simp [*]; done)), H', ⟨by have := HJ4.out; have := HK2.out; omega⟩, ⟨by repeat (first | (with_reducible first | exact HB.out | apply cA | apply cN | apply cD) | exact HB.out)⟩⟩
                replace c16 := Bool.eq_false_iff.mpr c16
                subst c16
                have H1 : (some (0, 1)) = some (r1, r2) := by rw [if_neg (show ¬ (false = true) by decide)] at H; exact H
                clear H
                have H := H1
                clear H1
                simp only [Option.some.injEq, Prod.mk.injEq] at H
                obtain ⟨rfl, rfl⟩ := H
                have p107 : 0 ≤ (x33_2 : Int) := of_decide_eq_true (by first | (with_reducible assumption) | assumption)
                have q107 : x33_2 < (l3.length : Int) := of_decide_eq_true (by first | (with_reducible assumption) | assumption)
                obtain ⟨ad107, e107, hx107_0⟩ := Kd.at_int HR3.out x33_2 p107 q107
                cases e107
                replace hx107_0 := (HB.out.cell (wB w hx107_0)).trans hx107_0
                replace p107 := eq_true p107
                replace q107 := eq_true q107
                go_wp2_with (first | ((with_reducible refine gate_callee (f := 21) rfl ?_); refine goesL_ (some 38) rfl rfl Try.func21 (by kernel_rfl) rfl #[.int .i64 (rd l3 x33_2)] rfl (by (try simp only [List.map_toArray, List.map_cons, List.map_nil]); first | done | rfl | (simp only [List.length_drop, List.length_take]; rfl)) ?_; (with_reducible refine (arith_Word.calls (rd l3 x33_2) false _ A15.out).mono ?_); rintro e w' ⟨rfl, ⟨nd, rfl⟩⟩; refine ⟨_, rfl, ?_⟩))
                go_ret2
                exact ⟨by first | rfl | (simp [errW_none, errW_some] <;> rfl) | (simp [*, errW_none, errW_some] <;> rfl), by repeat (first | (with_reducible first | exact HB.out | apply cA | apply cN | apply cD) | exact HB.out)⟩
              rw [if_neg c14] at H
              exact absurd H (by simp)
            rw [if_neg c13] at H
            exact absurd H (by simp)
          rw [if_neg c12] at H
          have c12b0 : decide (x33_2 < (l3.length : Int)) = false := decide_eq_false c12
          clear c12
          have HC17 := Aside0.mk H
          clear H
          go_upto_block 2 with (fail)
          go_cut [12, 13] (fun v12 v13 wc => ∃ (kq : Nat) (x12_16 : Int) (x13_16 : Int), v12 = .int .i64 x12_16 ∧ v13 = .int .i64 x13_16 ∧ Aside0 (arith_Value.j2 kq x12_16 x13_16 = some (r1, r2)) ∧ Aside0 (kq ≤ k2) ∧ Aside0 (Below w.heap.size w wc))
          case first =>
            have H := HC17.out
            clear HC17
            by_cases c18 : (l3.length : Int) = 1
            · rw [if_pos c18] at H
              have c18b0 : ((l3.length : Int) == 1) = true := beq_iff_eq.mpr c18
              have c18b1 : ((l3.length : Int) != 1) = false := bne_eq_false_iff_eq.mpr c18
              clear c18
              (first | rw [c18b0] | (simp only [i64_w, i32_w]; rw [c18b0]) | skip)
              by_cases c19 : 0 < (l3.length : Int)
              · rw [if_pos c19] at H
                have c19b0 : decide (0 < (l3.length : Int)) = true := decide_eq_true c19
                have c19b1 : decide (0 < l3.length) = true := decide_eq_true (by omega)
                clear c19
                replace H := Option.bind_eq_some_iff.mp H
                obtain ⟨⟨t110, t111⟩, A200, H⟩ := H
                replace H : (arith_Value.j2 k2 t110 t111) = some (r1, r2) := H
                have A20 := Aside0.mk A200
                clear A200
                have H' := Aside0.mk H
                clear H
                have p109 : 0 ≤ (0 : Int) := (by omega)
                have q109 : 0 < (l3.length : Int) := of_decide_eq_true (by first | (with_reducible assumption) | assumption)
                obtain ⟨ad109, e109, hx109_0⟩ := Kd.at_int HR3.out 0 p109 q109
                cases e109
                have qi109 : (0 < l3.length) = True := eq_true (by omega)
                (try rw [show ((0 : Int)).toNat = 0 from rfl] at hx109_0)
                (try rw [Addr.add_zero'] at hx109_0)
                replace hx109_0 := (HB.out.cell (wB w hx109_0)).trans hx109_0
                replace p109 := eq_true p109
                replace q109 := eq_true q109
                go_wp2_with (first | ((with_reducible refine gate_callee (f := 36) rfl ?_); refine goesL_ (some 52) rfl rfl Try.func36 (by kernel_rfl) rfl #[.int .i64 a0, .int .i64 a1, .int .i64 a2, .int .i64 (rd l3 0)] rfl (by (try simp only [List.map_toArray, List.map_cons, List.map_nil]); first | done | rfl | (simp only [List.length_drop, List.length_take]; rfl)) ?_; (with_reducible refine (arith_one.calls a0 a1 a2 (rd l3 0) t110 t111 _ A20.out).mono ?_); rintro e w21 ⟨rfl, hb⟩; refine ⟨_, rfl, ?_⟩; have n0_ := Aside0.mk (cT (by repeat (first | (with_reducible first | exact HB.out | apply cA | apply cN | apply cD) | exact HB.out)) hb); clear HB; have HB := n0_; clear n0_; (try clear hb); (try clear hb2); (try clear hk); (try clear hi)))
                go_meet
                case rel => exact ⟨_, (t110), (t111), (by first | rfl | (simp; done) | (simp [*]; done)), (by first | rfl | (simp; done) | (simp [*]; done)), H', ⟨by have := HJ4.out; have := HK2.out; first | omega | exact Nat.le_refl _⟩, ⟨by repeat (first | (with_reducible first | exact HB.out | apply cA | apply cN | apply cD) | exact HB.out)⟩⟩
              rw [if_neg c19] at H
              exact absurd H (by simp)
            rw [if_neg c18] at H
            have c18b0 : ((l3.length : Int) == 1) = false := beq_eq_false_iff_ne.mpr c18
            have c18b1 : ((l3.length : Int) != 1) = true := bne_iff_ne.mpr c18
            (first | rw [c18b0] | (simp only [i64_w, i32_w]; rw [c18b0]) | skip)
            by_cases c22 : (l3.length : Int) = 2
            · rw [if_pos c22] at H
              have c22b0 : ((l3.length : Int) == 2) = true := beq_iff_eq.mpr c22
              have c22b1 : ((l3.length : Int) != 2) = false := bne_eq_false_iff_eq.mpr c22
              clear c22
              by_cases c23 : 0 < (l3.length : Int)
              · rw [if_pos c23] at H
                have c23b0 : decide (0 < (l3.length : Int)) = true := decide_eq_true c23
                have c23b1 : decide (0 < l3.length) = true := decide_eq_true (by omega)
                clear c23
                by_cases c24 : 1 < (l3.length : Int)
                · rw [if_pos c24] at H
                  have c24b0 : decide (1 < (l3.length : Int)) = true := decide_eq_true c24
                  have c24b1 : decide (1 < l3.length) = true := decide_eq_true (by omega)
                  clear c24
                  replace H := Option.bind_eq_some_iff.mp H
                  obtain ⟨⟨t114, t115⟩, A250, H⟩ := H
                  replace H : (arith_Value.j2 k2 t114 t115) = some (r1, r2) := H
                  have A25 := Aside0.mk A250
                  clear A250
                  have H' := Aside0.mk H
                  clear H
                  try go_wp2
                  have n0_ := Aside0.mk (cD HB.out)
                  clear HB
                  have HB := n0_
                  clear n0_
                  have p112 : 0 ≤ (0 : Int) := (by omega)
                  have q112 : 0 < (l3.length : Int) := of_decide_eq_true (by first | (with_reducible assumption) | assumption)
                  obtain ⟨ad112, e112, hx112_0⟩ := Kd.at_int HR3.out 0 p112 q112
                  have hw112_0 := hx112_0
                  (try rw [show ((0 : Int)).toNat = 0 from rfl] at hw112_0)
                  (try rw [show 0 * 1 = 0 from rfl] at hw112_0)
                  (try rw [Addr.add_zero'] at hw112_0)
                  cases e112
                  have qi112 : (0 < l3.length) = True := eq_true (by omega)
                  (try rw [show ((0 : Int)).toNat = 0 from rfl] at hx112_0)
                  (try rw [Addr.add_zero'] at hx112_0)
                  replace hx112_0 := (HB.out.cell (wB w hx112_0)).trans hx112_0
                  replace p112 := eq_true p112
                  replace q112 := eq_true q112
                  have p113 : 0 ≤ (1 : Int) := (by omega)
                  have q113 : 1 < (l3.length : Int) := of_decide_eq_true (by first | (with_reducible assumption) | assumption)
                  obtain ⟨ad113, e113, hx113_0⟩ := Kd.at_int HR3.out 1 p113 q113
                  have hw113_0 := hx113_0
                  (try rw [show ((1 : Int)).toNat = 1 from rfl] at hw113_0)
                  (try rw [show 1 * 1 = 1 from rfl] at hw113_0)
                  (try simp only [Nat.reduceMul, Nat.reduceEqDiff, Go.Addr.add, ↓reduceIte] at hw113_0)
                  obtain rfl : ad112 = ad113 := (by injection e113)
                  (try simp only [show (1 : Int).toNat = 1 from rfl, Nat.reduceMul, Nat.reduceEqDiff, Go.Addr.add, ↓reduceIte] at hx113_0)
                  have qi113 : (1 < l3.length) = True := eq_true (by omega)
                  (try rw [show ((1 : Int)).toNat = 1 from rfl] at hx113_0)
                  replace hx113_0 := (HB.out.cell (wB w hx113_0)).trans hx113_0
                  replace p113 := eq_true p113
                  replace q113 := eq_true q113
                  refine start_ (n := 13) (S := fun w' => w'.cell? ad112 = some (.int .i64 (rd l3 0)) ∧ w'.cell? ⟨ad112.block, ad112.off + 1, none⟩ = some (.int .i64 (rd l3 1))) (ds := []) #[false, false, false, false, false, false, false, false, false, false, false, false, false] (by kernel_rfl) rfl rfl ⟨((HB.out.cell (wB w hw112_0)).trans hw112_0), ((HB.out.cell (wB w hw113_0)).trans hw113_0)⟩ (fun hHeld => ?_); refine with_tabW arith_Value.tab14 arith_Value.bits14 (fun HT_ HW_ => ?_)
                  generalize wr.drew = w26 at HB hx112_0 hx113_0 hHeld ⊢
                  refine pure_ (i := 0) (N := some 58) (v := ?_) (a' := ?_) #[true, false, false, false, false, false, false, false, false, false, false, false, false] rfl rfl (any_of HT_.out (by kernel_rfl)) (fun _ _ _ h => h) (Or.inl ⟨by rfl, ?_⟩) ?_ ?_
                  rotate_left
                  · intro w'
                    go_simp
                    with_reducible rfl
                  rotate_left
                  · simp only [Act.put, List.setIfInBounds_toArray, List.set_cons_zero, List.set_cons_succ, i64_w, i32_w]
                    rfl
                  refine pure_ (i := 1) (N := some 59) (v := ?_) (a' := ?_) #[true, true, false, false, false, false, false, false, false, false, false, false, false] rfl rfl (any_of HT_.out (by kernel_rfl)) (fun _ _ _ h => h) (Or.inl ⟨by rfl, ?_⟩) ?_ ?_
                  rotate_left
                  · intro w'
                    go_simp
                    with_reducible rfl
                  rotate_left
                  · simp only [Act.put, List.setIfInBounds_toArray, List.set_cons_zero, List.set_cons_succ, i64_w, i32_w]
                    rfl
                  refine pure_ (i := 2) (N := some 60) (v := ?_) (a' := ?_) #[true, true, true, false, false, false, false, false, false, false, false, false, false] rfl rfl (any_of HT_.out (by kernel_rfl)) (fun _ _ _ h => h) (Or.inl ⟨by rfl, ?_⟩) ?_ ?_
                  rotate_left
                  · intro w'
                    go_simp
                    with_reducible rfl
                  rotate_left
                  · simp only [Act.put, List.setIfInBounds_toArray, List.set_cons_zero, List.set_cons_succ, i64_w, i32_w]
                    rfl
                  refine pure_ (i := 4) (N := some 62) (v := ?_) (a' := ?_) #[true, true, true, false, true, false, false, false, false, false, false, false, false] rfl rfl (any_of HT_.out (by kernel_rfl)) (fun _ _ _ h => h) (Or.inl ⟨by rfl, ?_⟩) ?_ ?_
                  rotate_left
                  · intro w'
                    go_simp
                    with_reducible rfl
                  rotate_left
                  · simp only [Act.put, List.setIfInBounds_toArray, List.set_cons_zero, List.set_cons_succ, i64_w, i32_w]
                    rfl
                  refine pure_ (i := 5) (N := some 63) (v := ?_) (a' := ?_) #[true, true, true, false, true, true, false, false, false, false, false, false, false] rfl rfl (any_of HT_.out (by kernel_rfl)) (fun _ _ _ h => h) (Or.inl ⟨by rfl, ?_⟩) ?_ ?_
                  rotate_left
                  · intro w'
                    go_simp
                    with_reducible rfl
                  rotate_left
                  · simp only [Act.put, List.setIfInBounds_toArray, List.set_cons_zero, List.set_cons_succ, i64_w, i32_w]
                    rfl
                  refine take_ (i := 3) (N := some 61) (v := ?_) (a' := ?_) #[true, true, true, true, true, true, false, false, false, false, false, false, false] rfl rfl (take_ofW HT_.out HW_.out (by kernel_rfl)) (fun _ _ _ h => h) (Or.inl ⟨by rfl, ?_⟩) hHeld ?_ ?_
                  rotate_left
                  · rintro w' ⟨s0, s1⟩
                    go_simp
                    with_reducible rfl
                  rotate_left
                  · simp only [Act.put, List.setIfInBounds_toArray, List.set_cons_zero, List.set_cons_succ, i64_w, i32_w]
                    rfl
                  refine take_ (i := 6) (N := some 64) (v := ?_) (a' := ?_) #[true, true, true, true, true, true, true, false, false, false, false, false, false] rfl rfl (take_ofW HT_.out HW_.out (by kernel_rfl)) (fun _ _ _ h => h) (Or.inl ⟨by rfl, ?_⟩) hHeld ?_ ?_
                  rotate_left
                  · rintro w' ⟨s0, s1⟩
                    go_simp
                    with_reducible rfl
                  rotate_left
                  · simp only [Act.put, List.setIfInBounds_toArray, List.set_cons_zero, List.set_cons_succ, i64_w, i32_w]
                    rfl
                  refine one_ (i := 7) (N := some 65) #[true, true, true, true, true, true, true, true, false, false, false, false, false] rfl rfl (one_of HT_.out (by kernel_rfl)) (by decide) (fun K hK => ?_)
                  refine goes_ Try.func37 (by kernel_rfl) rfl #[.int .i64 a0, .int .i64 (rd l3 0), .int .i64 (rd l3 1)] (by rfl) rfl rfl (by (try simp only [List.map_toArray, List.map_cons, List.map_nil]); first | done | rfl | (simp only [List.length_drop, List.length_take]; rfl)) ?_
                  with_reducible refine (arith_two.calls k2 a0 (rd l3 0) (rd l3 1) t114 t115 _ A25.out).mono ?_
                  rintro e w27 ⟨rfl, hb⟩
                  refine ⟨_, rfl, ?_⟩
                  have n0_ := Aside0.mk (cT (by repeat (first | (with_reducible first | exact HB.out | apply cA | apply cN | apply cD) | exact HB.out)) hb)
                  clear HB
                  have HB := n0_
                  clear n0_
                  (try clear hb)
                  (try clear hb2)
                  (try clear hk)
                  (try clear hi)
                  refine hK.out _ _ ⟨((HB.out.cell (wB w hw112_0)).trans hw112_0), ((HB.out.cell (wB w hw113_0)).trans hw113_0)⟩ (fun hHeld => ?_)
                  clear hK K
                  refine norm_ (a' := ?_) ?_ ?_
                  rotate_left
                  · show Act.put _ (some 65) _ = _
                    simp only [Act.put, List.setIfInBounds_toArray, List.set_cons_zero, List.set_cons_succ, i64_w, i32_w]
                    rfl
                  refine pure_ (i := 8) (N := some 57) (v := ?_) (a' := ?_) #[true, true, true, true, true, true, true, true, true, false, false, false, false] rfl rfl (any_of HT_.out (by kernel_rfl)) (fun _ _ _ h => h) (Or.inl ⟨by rfl, ?_⟩) ?_ ?_
                  rotate_left
                  · intro w'
                    go_simp
                    with_reducible rfl
                  rotate_left
                  · simp only [Act.put, List.setIfInBounds_toArray, List.set_cons_zero, List.set_cons_succ, i64_w, i32_w]
                    rfl
                  refine pure_ (i := 9) (N := some 66) (v := ?_) (a' := ?_) #[true, true, true, true, true, true, true, true, true, true, false, false, false] rfl rfl (any_of HT_.out (by kernel_rfl)) (fun _ _ _ h => h) (Or.inl ⟨by rfl, ?_⟩) ?_ ?_
                  rotate_left
                  · intro w'
                    go_simp
                    with_reducible rfl
                  rotate_left
                  · simp only [Act.put, List.setIfInBounds_toArray, List.set_cons_zero, List.set_cons_succ, i64_w, i32_w]
                    rfl
                  refine pure_ (i := 10) (N := some 67) (v := ?_) (a' := ?_) #[true, true, true, true, true, true, true, true, true, true, true, false, false] rfl rfl (any_of HT_.out (by kernel_rfl)) (fun _ _ _ h => h) (Or.inl ⟨by rfl, ?_⟩) ?_ ?_
                  rotate_left
                  · intro w'
                    go_simp
                    with_reducible rfl
                  rotate_left
                  · simp only [Act.put, List.setIfInBounds_toArray, List.set_cons_zero, List.set_cons_succ, i64_w, i32_w]
                    rfl
                  refine pure_ (i := 11) (N := some 12) (v := ?_) (a' := ?_) #[true, true, true, true, true, true, true, true, true, true, true, true, false] rfl rfl (any_of HT_.out (by kernel_rfl)) (fun _ _ _ h => h) (Or.inl ⟨by rfl, ?_⟩) ?_ ?_
                  rotate_left
                  · intro w'
                    go_simp
                    with_reducible rfl
                  rotate_left
                  · simp only [Act.put, List.setIfInBounds_toArray, List.set_cons_zero, List.set_cons_succ, i64_w, i32_w]
                    rfl
                  refine pure_ (i := 12) (N := some 13) (v := ?_) (a' := ?_) #[true, true, true, true, true, true, true, true, true, true, true, true, true] rfl rfl (any_of HT_.out (by kernel_rfl)) (fun _ _ _ h => h) (Or.inl ⟨by rfl, ?_⟩) ?_ ?_
                  rotate_left
                  · intro w'
                    go_simp
                    with_reducible rfl
                  rotate_left
                  · simp only [Act.put, List.setIfInBounds_toArray, List.set_cons_zero, List.set_cons_succ, i64_w, i32_w]
                    rfl
                  refine done_ (done_of HT_.out (by kernel_rfl)) ?_
                  try go_wp2
                  go_meet
                  case rel => exact ⟨_, (t114), (t115), (by first | rfl | (simp; done) | (simp [*]; done)), (by first | rfl | (simp; done) | (simp [*]; done)), H', ⟨by have := HJ4.out; have := HK2.out; first | omega | exact Nat.le_refl _⟩, ⟨by repeat (first | (with_reducible first | exact HB.out | apply cA | apply cN | apply cD) | exact HB.out)⟩⟩
                rw [if_neg c24] at H
                exact absurd H (by simp)
              rw [if_neg c23] at H
              exact absurd H (by simp)
            rw [if_neg c22] at H
            have c22b0 : ((l3.length : Int) == 2) = false := beq_eq_false_iff_ne.mpr c22
            have c22b1 : ((l3.length : Int) != 2) = true := bne_iff_ne.mpr c22
            by_cases c28 : (l3.length : Int) = 3
            · rw [if_pos c28] at H
              have c28b0 : ((l3.length : Int) == 3) = true := beq_iff_eq.mpr c28
              have c28b1 : ((l3.length : Int) != 3) = false := bne_eq_false_iff_eq.mpr c28
              clear c28
              by_cases c29 : 0 < (l3.length : Int)
              · rw [if_pos c29] at H
                have c29b0 : decide (0 < (l3.length : Int)) = true := decide_eq_true c29
                have c29b1 : decide (0 < l3.length) = true := decide_eq_true (by omega)
                clear c29
                by_cases c30 : 1 < (l3.length : Int)
                · rw [if_pos c30] at H
                  have c30b0 : decide (1 < (l3.length : Int)) = true := decide_eq_true c30
                  have c30b1 : decide (1 < l3.length) = true := decide_eq_true (by omega)
                  clear c30
                  by_cases c31 : 2 < (l3.length : Int)
                  · rw [if_pos c31] at H
                    have c31b0 : decide (2 < (l3.length : Int)) = true := decide_eq_true c31
                    have c31b1 : decide (2 < l3.length) = true := decide_eq_true (by omega)
                    clear c31
                    replace H := Option.bind_eq_some_iff.mp H
                    obtain ⟨t119, A320, H⟩ := H
                    replace H : (arith_Value.j2 k2 t119 0) = some (r1, r2) := H
                    have A32 := Aside0.mk A320
                    clear A320
                    have H' := Aside0.mk H
                    clear H
                    try go_wp2
                    have n0_ := Aside0.mk (cD HB.out)
                    clear HB
                    have HB := n0_
                    clear n0_
                    have p116 : 0 ≤ (0 : Int) := (by omega)
                    have q116 : 0 < (l3.length : Int) := of_decide_eq_true (by first | (with_reducible assumption) | assumption)
                    obtain ⟨ad116, e116, hx116_0⟩ := Kd.at_int HR3.out 0 p116 q116
                    have hw116_0 := hx116_0
                    (try rw [show ((0 : Int)).toNat = 0 from rfl] at hw116_0)
                    (try rw [show 0 * 1 = 0 from rfl] at hw116_0)
                    (try rw [Addr.add_zero'] at hw116_0)
                    cases e116
                    have qi116 : (0 < l3.length) = True := eq_true (by omega)
                    (try rw [show ((0 : Int)).toNat = 0 from rfl] at hx116_0)
                    (try rw [Addr.add_zero'] at hx116_0)
                    replace hx116_0 := (HB.out.cell (wB w hx116_0)).trans hx116_0
                    replace p116 := eq_true p116
                    replace q116 := eq_true q116
                    have p117 : 0 ≤ (1 : Int) := (by omega)
                    have q117 : 1 < (l3.length : Int) := of_decide_eq_true (by first | (with_reducible assumption) | assumption)
                    obtain ⟨ad117, e117, hx117_0⟩ := Kd.at_int HR3.out 1 p117 q117
                    have hw117_0 := hx117_0
                    (try rw [show ((1 : Int)).toNat = 1 from rfl] at hw117_0)
                    (try rw [show 1 * 1 = 1 from rfl] at hw117_0)
                    (try simp only [Nat.reduceMul, Nat.reduceEqDiff, Go.Addr.add, ↓reduceIte] at hw117_0)
                    obtain rfl : ad116 = ad117 := (by injection e117)
                    (try simp only [show (1 : Int).toNat = 1 from rfl, Nat.reduceMul, Nat.reduceEqDiff, Go.Addr.add, ↓reduceIte] at hx117_0)
                    have qi117 : (1 < l3.length) = True := eq_true (by omega)
                    (try rw [show ((1 : Int)).toNat = 1 from rfl] at hx117_0)
                    replace hx117_0 := (HB.out.cell (wB w hx117_0)).trans hx117_0
                    replace p117 := eq_true p117
                    replace q117 := eq_true q117
                    have p118 : 0 ≤ (2 : Int) := (by omega)
                    have q118 : 2 < (l3.length : Int) := of_decide_eq_true (by first | (with_reducible assumption) | assumption)
                    obtain ⟨ad118, e118, hx118_0⟩ := Kd.at_int HR3.out 2 p118 q118
                    have hw118_0 := hx118_0
                    (try rw [show ((2 : Int)).toNat = 2 from rfl] at hw118_0)
                    (try rw [show 2 * 1 = 2 from rfl] at hw118_0)
                    (try simp only [Nat.reduceMul, Nat.reduceEqDiff, Go.Addr.add, ↓reduceIte] at hw118_0)
                    obtain rfl : ad116 = ad118 := (by injection e118)
                    (try simp only [show (2 : Int).toNat = 2 from rfl, Nat.reduceMul, Nat.reduceEqDiff, Go.Addr.add, ↓reduceIte] at hx118_0)
                    have qi118 : (2 < l3.length) = True := eq_true (by omega)
                    (try rw [show ((2 : Int)).toNat = 2 from rfl] at hx118_0)
                    replace hx118_0 := (HB.out.cell (wB w hx118_0)).trans hx118_0
                    replace p118 := eq_true p118
                    replace q118 := eq_true q118
                    refine start_ (n := 12) (S := fun w' => w'.cell? ad116 = some (.int .i64 (rd l3 0)) ∧ w'.cell? ⟨ad116.block, ad116.off + 1, none⟩ = some (.int .i64 (rd l3 1)) ∧ w'.cell? ⟨ad116.block, ad116.off + 2, none⟩ = some (.int .i64 (rd l3 2))) (ds := []) #[false, false, false, false, false, false, false, false, false, false, false, false] (by kernel_rfl) rfl rfl ⟨((HB.out.cell (wB w hw116_0)).trans hw116_0), ((HB.out.cell (wB w hw117_0)).trans hw117_0), ((HB.out.cell (wB w hw118_0)).trans hw118_0)⟩ (fun hHeld => ?_); refine with_tabW arith_Value.tab16 arith_Value.bits16 (fun HT_ HW_ => ?_)
                    generalize wr.drew = w33 at HB hx116_0 hx117_0 hx118_0 hHeld ⊢
                    refine pure_ (i := 0) (N := some 70) (v := ?_) (a' := ?_) #[true, false, false, false, false, false, false, false, false, false, false, false] rfl rfl (any_of HT_.out (by kernel_rfl)) (fun _ _ _ h => h) (Or.inl ⟨by rfl, ?_⟩) ?_ ?_
                    rotate_left
                    · intro w'
                      go_simp
                      with_reducible rfl
                    rotate_left
                    · simp only [Act.put, List.setIfInBounds_toArray, List.set_cons_zero, List.set_cons_succ, i64_w, i32_w]
                      rfl
                    refine pure_ (i := 1) (N := some 71) (v := ?_) (a' := ?_) #[true, true, false, false, false, false, false, false, false, false, false, false] rfl rfl (any_of HT_.out (by kernel_rfl)) (fun _ _ _ h => h) (Or.inl ⟨by rfl, ?_⟩) ?_ ?_
                    rotate_left
                    · intro w'
                      go_simp
                      with_reducible rfl
                    rotate_left
                    · simp only [Act.put, List.setIfInBounds_toArray, List.set_cons_zero, List.set_cons_succ, i64_w, i32_w]
                      rfl
                    refine pure_ (i := 2) (N := some 72) (v := ?_) (a' := ?_) #[true, true, true, false, false, false, false, false, false, false, false, false] rfl rfl (any_of HT_.out (by kernel_rfl)) (fun _ _ _ h => h) (Or.inl ⟨by rfl, ?_⟩) ?_ ?_
                    rotate_left
                    · intro w'
                      go_simp
                      with_reducible rfl
                    rotate_left
                    · simp only [Act.put, List.setIfInBounds_toArray, List.set_cons_zero, List.set_cons_succ, i64_w, i32_w]
                      rfl
                    refine pure_ (i := 4) (N := some 74) (v := ?_) (a' := ?_) #[true, true, true, false, true, false, false, false, false, false, false, false] rfl rfl (any_of HT_.out (by kernel_rfl)) (fun _ _ _ h => h) (Or.inl ⟨by rfl, ?_⟩) ?_ ?_
                    rotate_left
                    · intro w'
                      go_simp
                      with_reducible rfl
                    rotate_left
                    · simp only [Act.put, List.setIfInBounds_toArray, List.set_cons_zero, List.set_cons_succ, i64_w, i32_w]
                      rfl
                    refine pure_ (i := 5) (N := some 75) (v := ?_) (a' := ?_) #[true, true, true, false, true, true, false, false, false, false, false, false] rfl rfl (any_of HT_.out (by kernel_rfl)) (fun _ _ _ h => h) (Or.inl ⟨by rfl, ?_⟩) ?_ ?_
                    rotate_left
                    · intro w'
                      go_simp
                      with_reducible rfl
                    rotate_left
                    · simp only [Act.put, List.setIfInBounds_toArray, List.set_cons_zero, List.set_cons_succ, i64_w, i32_w]
                      rfl
                    refine pure_ (i := 7) (N := some 77) (v := ?_) (a' := ?_) #[true, true, true, false, true, true, false, true, false, false, false, false] rfl rfl (any_of HT_.out (by kernel_rfl)) (fun _ _ _ h => h) (Or.inl ⟨by rfl, ?_⟩) ?_ ?_
                    rotate_left
                    · intro w'
                      go_simp
                      with_reducible rfl
                    rotate_left
                    · simp only [Act.put, List.setIfInBounds_toArray, List.set_cons_zero, List.set_cons_succ, i64_w, i32_w]
                      rfl
                    refine pure_ (i := 8) (N := some 78) (v := ?_) (a' := ?_) #[true, true, true, false, true, true, false, true, true, false, false, false] rfl rfl (any_of HT_.out (by kernel_rfl)) (fun _ _ _ h => h) (Or.inl ⟨by rfl, ?_⟩) ?_ ?_
                    rotate_left
                    · intro w'
                      go_simp
                      with_reducible rfl
                    rotate_left
                    · simp only [Act.put, List.setIfInBounds_toArray, List.set_cons_zero, List.set_cons_succ, i64_w, i32_w]
                      rfl
                    refine take_ (i := 3) (N := some 73) (v := ?_) (a' := ?_) #[true, true, true, true, true, true, false, true, true, false, false, false] rfl rfl (take_ofW HT_.out HW_.out (by kernel_rfl)) (fun _ _ _ h => h) (Or.inl ⟨by rfl, ?_⟩) hHeld ?_ ?_
                    rotate_left
                    · rintro w' ⟨s0, s1, s2⟩
                      go_simp
                      with_reducible rfl
                    rotate_left
                    · simp only [Act.put, List.setIfInBounds_toArray, List.set_cons_zero, List.set_cons_succ, i64_w, i32_w]
                      rfl
                    refine take_ (i := 6) (N := some 76) (v := ?_) (a' := ?_) #[true, true, true, true, true, true, true, true, true, false, false, false] rfl rfl (take_ofW HT_.out HW_.out (by kernel_rfl)) (fun _ _ _ h => h) (Or.inl ⟨by rfl, ?_⟩) hHeld ?_ ?_
                    rotate_left
                    · rintro w' ⟨s0, s1, s2⟩
                      go_simp
                      with_reducible rfl
                    rotate_left
                    · simp only [Act.put, List.setIfInBounds_toArray, List.set_cons_zero, List.set_cons_succ, i64_w, i32_w]
                      rfl
                    refine take_ (i := 9) (N := some 79) (v := ?_) (a' := ?_) #[true, true, true, true, true, true, true, true, true, true, false, false] rfl rfl (take_ofW HT_.out HW_.out (by kernel_rfl)) (fun _ _ _ h => h) (Or.inl ⟨by rfl, ?_⟩) hHeld ?_ ?_
                    rotate_left
                    · rintro w' ⟨s0, s1, s2⟩
                      go_simp
                      with_reducible rfl
                    rotate_left
                    · simp only [Act.put, List.setIfInBounds_toArray, List.set_cons_zero, List.set_cons_succ, i64_w, i32_w]
                      rfl
                    refine one_ (i := 10) (N := some 80) #[true, true, true, true, true, true, true, true, true, true, true, false] rfl rfl (one_of HT_.out (by kernel_rfl)) (by decide) (fun K hK => ?_)
                    refine goes_ Try.func38 (by kernel_rfl) rfl #[.int .i64 a0, .int .i64 (rd l3 0), .int .i64 (rd l3 1), .int .i64 (rd l3 2)] (by rfl) rfl rfl (by (try simp only [List.map_toArray, List.map_cons, List.map_nil]); first | done | rfl | (simp only [List.length_drop, List.length_take]; rfl)) ?_
                    with_reducible refine (arith_three.calls a0 (rd l3 0) (rd l3 1) (rd l3 2) t119 _ A32.out).mono ?_
                    rintro e w34 ⟨rfl, hb⟩
                    refine ⟨_, rfl, ?_⟩
                    have n0_ := Aside0.mk (cT (by repeat (first | (with_reducible first | exact HB.out | apply cA | apply cN | apply cD) | exact HB.out)) hb)
                    clear HB
                    have HB := n0_
                    clear n0_
                    (try clear hb)
                    (try clear hb2)
                    (try clear hk)
                    (try clear hi)
                    refine hK.out _ _ ⟨((HB.out.cell (wB w hw116_0)).trans hw116_0), ((HB.out.cell (wB w hw117_0)).trans hw117_0), ((HB.out.cell (wB w hw118_0)).trans hw118_0)⟩ (fun hHeld => ?_)
                    clear hK K
                    refine norm_ (a' := ?_) ?_ ?_
                    rotate_left
                    · show Act.put _ (some 80) _ = _
                      simp only [Act.put, List.setIfInBounds_toArray, List.set_cons_zero, List.set_cons_succ, i64_w, i32_w]
                      rfl
                    refine pure_ (i := 11) (N := some 12) (v := ?_) (a' := ?_) #[true, true, true, true, true, true, true, true, true, true, true, true] rfl rfl (any_of HT_.out (by kernel_rfl)) (fun _ _ _ h => h) (Or.inl ⟨by rfl, ?_⟩) ?_ ?_
                    rotate_left
                    · intro w'
                      go_simp
                      with_reducible rfl
                    rotate_left
                    · simp only [Act.put, List.setIfInBounds_toArray, List.set_cons_zero, List.set_cons_succ, i64_w, i32_w]
                      rfl
                    refine done_ (done_of HT_.out (by kernel_rfl)) ?_
                    try go_wp2
                    go_meet
                    case rel => exact ⟨_, (t119), (0), (by first | rfl | (simp; done) | (simp [*]; done)), (by first | rfl | (simp; done) | (simp [*]; done)), H', ⟨by have := HJ4.out; have := HK2.out; first | omega | exact Nat.le_refl _⟩, ⟨by repeat (first | (with_reducible first | exact HB.out | apply cA | apply cN | apply cD) | exact HB.out)⟩⟩
                  rw [if_neg c31] at H
                  exact absurd H (by simp)
                rw [if_neg c30] at H
                exact absurd H (by simp)
              rw [if_neg c29] at H
              exact absurd H (by simp)
            rw [if_neg c28] at H
            have c28b0 : ((l3.length : Int) == 3) = false := beq_eq_false_iff_ne.mpr c28
            have c28b1 : ((l3.length : Int) != 3) = true := bne_iff_ne.mpr c28
            have H' := Aside0.mk H
            clear H
            go_wp2
            go_meet
            case rel => exact ⟨_, (0), (0), (by first | rfl | (simp; done) | (simp [*]; done)), (by first | rfl | (simp; done) | (simp [*]; done)), H', ⟨by have := HJ4.out; have := HK2.out; first | omega | exact Nat.le_refl _⟩, ⟨by repeat (first | (with_reducible first | exact HB.out | apply cA | apply cN | apply cD) | exact HB.out)⟩⟩
          case rest =>
            clear HC17
            try clear c3
            try clear c7
            try clear c7b0
            try clear c9
            try clear c9b0
            try clear c9b1
            try clear c11
            try clear c12
            try clear c12b0
            try clear c13
            try clear c13b0
            try clear c14
            try clear c14b0
            try clear c16
            try clear c18
            try clear c18b0
            try clear c18b1
            try clear c19
            try clear c19b0
            try clear c19b1
            try clear c22
            try clear c22b0
            try clear c22b1
            try clear c23
            try clear c23b0
            try clear c23b1
            try clear c24
            try clear c24b0
            try clear c24b1
            try clear c28
            try clear c28b0
            try clear c28b1
            try clear c29
            try clear c29b0
            try clear c29b1
            try clear c30
            try clear c30b0
            try clear c30b1
            try clear c31
            try clear c31b0
            try clear c31b1
            try clear hx107_0
            try clear hx109_0
            try clear hx112_0
            try clear hx113_0
            try clear hx116_0
            try clear hx117_0
            try clear hx118_0
            try clear p107
            try clear p109
            try clear p112
            try clear p113
            try clear p116
            try clear p117
            try clear p118
            try clear q107
            try clear q109
            try clear q112
            try clear q113
            try clear q116
            try clear q117
            try clear q118
            obtain ⟨kq, x12_16, x13_16, rfl, rfl, HA, HJ16, HB⟩ := hcut
            cases kq with
            | zero => exact absurd HA.out (by simp [arith_Value.j2])
            | succ kj16 =>
              have H := HA.out
              clear HA
              simp only [arith_Value.j2] at H
              have HC35 := Aside0.mk H
              clear H
              go_upto_region 17 with (fail)
              go_cut [87] (fun v87 wc => ∃ (kq : Nat) (x87_34 : Bool), v87 = .bool x87_34 ∧ Aside0 (arith_Value.j3 kq x12_16 x13_16 x87_34 = some (r1, r2)) ∧ Aside0 (kq ≤ kj16) ∧ Aside0 (Below w.heap.size w wc))
              case first =>
                have H := HC35.out
                clear HC35
                by_cases c36 : x13_16 = 0
                · rw [if_pos c36] at H
                  have c36b0 : (x13_16 == 0) = true := beq_iff_eq.mpr c36
                  have c36b1 : (x13_16 != 0) = false := bne_eq_false_iff_eq.mpr c36
                  clear c36
                  (first | rw [c36b0] | (simp only [i64_w, i32_w]; rw [c36b0]) | skip)
                  replace H := Option.bind_eq_some_iff.mp H
                  obtain ⟨t120, A370, H⟩ := H
                  replace H : (arith_Value.j3 kj16 x12_16 x13_16 (!t120)) = some (r1, r2) := H
                  have A37 := Aside0.mk A370
                  clear A370
                  have H' := Aside0.mk H
                  clear H
                  go_wp2_with (first | (go_at_call 21; (with_reducible refine (arith_Word.calls x12_16 t120 _ A37.out).mono ?_); rintro e w' ⟨rfl, ⟨nd, rfl⟩⟩))
                  go_meet
                  case rel => exact ⟨_, (!t120), (by first | rfl | (simp; done) | (simp [*]; done)), H', ⟨by have := HJ4.out; have := HK2.out; have := HJ16.out; first | omega | exact Nat.le_refl _⟩, ⟨by repeat (first | (with_reducible first | exact HB.out | apply cA | apply cN | apply cD) | exact HB.out)⟩⟩
                rw [if_neg c36] at H
                have c36b0 : (x13_16 == 0) = false := beq_eq_false_iff_ne.mpr c36
                have c36b1 : (x13_16 != 0) = true := bne_iff_ne.mpr c36
                (first | rw [c36b0] | (simp only [i64_w, i32_w]; rw [c36b0]) | skip)
                have H' := Aside0.mk H
                clear H
                go_wp2
                go_meet
                case rel => exact ⟨_, (false), (by first | rfl | (simp; done) | (simp [*]; done)), H', ⟨by have := HJ4.out; have := HK2.out; have := HJ16.out; first | omega | exact Nat.le_refl _⟩, ⟨by repeat (first | (with_reducible first | exact HB.out | apply cA | apply cN | apply cD) | exact HB.out)⟩⟩
              case rest =>
                clear HC35
                try clear c3
                try clear c7
                try clear c7b0
                try clear c9
                try clear c9b0
                try clear c9b1
                try clear c11
                try clear c12
                try clear c12b0
                try clear c13
                try clear c13b0
                try clear c14
                try clear c14b0
                try clear c16
                try clear c18
                try clear c18b0
                try clear c18b1
                try clear c19
                try clear c19b0
                try clear c19b1
                try clear c22
                try clear c22b0
                try clear c22b1
                try clear c23
                try clear c23b0
                try clear c23b1
                try clear c24
                try clear c24b0
                try clear c24b1
                try clear c28
                try clear c28b0
                try clear c28b1
                try clear c29
                try clear c29b0
                try clear c29b1
                try clear c30
                try clear c30b0
                try clear c30b1
                try clear c31
                try clear c31b0
                try clear c31b1
                try clear c36
                try clear c36b0
                try clear c36b1
                try clear hx107_0
                try clear hx109_0
                try clear hx112_0
                try clear hx113_0
                try clear hx116_0
                try clear hx117_0
                try clear hx118_0
                try clear p107
                try clear p109
                try clear p112
                try clear p113
                try clear p116
                try clear p117
                try clear p118
                try clear q107
                try clear q109
                try clear q112
                try clear q113
                try clear q116
                try clear q117
                try clear q118
                obtain ⟨kq, x87_34, rfl, HA, HJ34, HB⟩ := hcut
                cases kq with
                | zero => exact absurd HA.out (by simp [arith_Value.j3])
                | succ kj34 =>
                  have H := HA.out
                  clear HA
                  simp only [arith_Value.j3] at H
                  by_cases c38 : x87_34 = true
                  · subst c38
                    have H1 : (some (0, 13)) = some (r1, r2) := by rw [if_pos rfl] at H; exact H
                    clear H
                    have H := H1
                    clear H1
                    simp only [Option.some.injEq, Prod.mk.injEq] at H
                    obtain ⟨rfl, rfl⟩ := H
                    go_wp2
                    go_ret2
                    exact ⟨by first | rfl | (simp [errW_none, errW_some] <;> rfl) | (simp [*, errW_none, errW_some] <;> rfl), by repeat (first | (with_reducible first | exact HB.out | apply cA | apply cN | apply cD) | exact HB.out)⟩
                  replace c38 := Bool.eq_false_iff.mpr c38
                  subst c38
                  have H1 : (if x13_16 = 0 then (some (x12_16, 0)) else (some (0, x13_16))) = some (r1, r2) := by rw [if_neg (show ¬ (false = true) by decide)] at H; exact H
                  clear H
                  have H := H1
                  clear H1
                  by_cases c39 : x13_16 = 0
                  · rw [if_pos c39] at H
                    have c39b0 : (x13_16 == 0) = true := beq_iff_eq.mpr c39
                    have c39b1 : (x13_16 != 0) = false := bne_eq_false_iff_eq.mpr c39
                    clear c39
                    simp only [Option.some.injEq, Prod.mk.injEq] at H
                    obtain ⟨rfl, rfl⟩ := H
                    go_wp2
                    go_ret2
                    exact ⟨by first | rfl | (simp [errW_none, errW_some] <;> rfl) | (simp [*, errW_none, errW_some] <;> rfl), by repeat (first | (with_reducible first | exact HB.out | apply cA | apply cN | apply cD) | exact HB.out)⟩
                  rw [if_neg c39] at H
                  have c39b0 : (x13_16 == 0) = false := beq_eq_false_iff_ne.mpr c39
                  have c39b1 : (x13_16 != 0) = true := bne_iff_ne.mpr c39
                  simp only [Option.some.injEq, Prod.mk.injEq] at H
                  obtain ⟨rfl, rfl⟩ := H
                  go_wp2
                  go_ret2
                  exact ⟨by first | rfl | (simp [errW_none, errW_some] <;> rfl) | (simp [*, errW_none, errW_some] <;> rfl), by repeat (first | (with_reducible first | exact HB.out | apply cA | apply cN | apply cD) | exact HB.out)⟩

end Go.Proofs.Ytpnldhimlpilhaa.F
