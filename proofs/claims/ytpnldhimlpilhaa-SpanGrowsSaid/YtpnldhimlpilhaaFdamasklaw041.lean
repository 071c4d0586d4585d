/- Written by wip/myprint.py of this session, out of Lean's print of the program: what Go functions come to, and that their calls come to it; no condition. -/
import Derived.Test.YtpnldhimlpilhaaF0
import Derived.Test.YtpnldhimlpilhaaFarith1
import Derived.Test.YtpnldhimlpilhaaFarith3
namespace Go.Proofs.Ytpnldhimlpilhaa.F
open Go.RowKit Go.Proofs.YtpnldhimlpilhaaW.PrintWords Go.Proofs.YtpnldhimlpilhaaW.PrintLast Go.Proofs.YtpnldhimlpilhaaW.PrintMore Go.Proofs.YtpnldhimlpilhaaW
attribute [local go_sem] max2_int min2_int max_two min_two max_three min_three max_four min_four   -- for this text's walks alone
set_option linter.unusedVariables false
set_option linter.unusedSimpArgs false

/-! ### damasklaw04_awake: function 16 -/
def damasklaw04_awake.f (k : Nat)  : Option (Bool) := (arith_Value.f k 11 0 0 (([(-7), 2] : List Int))).bind fun bt124 => (if bt124.1 = (-3) then (if bt124.2 = 0 then ((arith_Arity.f k 27).bind fun t126 => (some (t126 == 3))) else (some false)) else (some false))
theorem damasklaw04_awake.mono : ∀ k, LeO (damasklaw04_awake.f k ) (damasklaw04_awake.f (k + 1) ) := by
  intro  k
  unfold damasklaw04_awake.f
  repeat' first
      | (with_reducible exact arith_Arity.mono _ _)
      | (with_reducible exact arith_Value.mono _ _ _ _ _)
      | (with_reducible exact LeO.refl _)
      | (with_reducible exact LeO.none _)
      | (with_reducible refine LeO.ite ?_ ?_)
      | (with_reducible refine LeO.bind ?_ (fun _ => ?_))
      | exact arith_Arity.mono _ _
      | exact arith_Value.mono _ _ _ _ _
      | exact LeO.none _
      | refine LeO.ite ?_ ?_
      | refine LeO.bind ?_ (fun _ => ?_)
set_option maxHeartbeats 8000000 in
set_option maxRecDepth 100000 in
theorem damasklaw04_awake.calls (k : Nat)  (r : Bool) (w : World) (h : damasklaw04_awake.f k  = some r) :
    Calls Try.prog 16 #[] w fun e w' => e = .returned (.bool r) ∧ Below w.heap.size w w' := by
  have HB := Aside0.mk (Below.refl w.heap.size w)
  have H : ((arith_Value.f k 11 0 0 (([(-7), 2] : List Int))).bind fun bt124 => (if bt124.1 = (-3) then (if bt124.2 = 0 then ((arith_Arity.f k 27).bind fun t126 => (some (t126 == 3))) else (some false)) else (some false))) = some r := h
  clear h
  obtain ⟨y121, hy121⟩ : ∃ y_ : List Int, y_ = (([(-7), 2] : List Int)) := ⟨_, rfl⟩
  replace H : ((arith_Value.f k 11 0 0 y121).bind fun bt124 => (if bt124.1 = (-3) then (if bt124.2 = 0 then ((arith_Arity.f k 27).bind fun t126 => (some (t126 == 3))) else (some false)) else (some false))) = some r := by first | (rw [hy121]; with_reducible exact H) | (have H2_ := (Option.bind_some _ _).symm.trans H; rw [hy121]; with_reducible exact H2_) | (have H2_ := (Option.bind_some _ _).symm.trans H; with_reducible exact H2_) | with_reducible exact H | (rw [hy121]; exact H) | exact H
  have Ny121 := Aside0.mk hy121
  clear hy121
  replace H := Option.bind_eq_some_iff.mp H
  obtain ⟨⟨t124, t125⟩, A10, H⟩ := H
  replace H : (if t124 = (-3) then (if t125 = 0 then ((arith_Arity.f k 27).bind fun t126 => (some (t126 == 3))) else (some false)) else (some false)) = some r := H
  have A1 := Aside0.mk A10
  clear A10
  have HF2 := Aside0.mk H
  clear H
  go_enter Try.func16, Try.ntmps16
  go_upto_region 2 with (first | ((with_reducible refine gate_dst (N := 4) rfl ?_); refine Kd.R_lit (Kd.int .i64) _ 3 ?hg (N := 4) ?hd (xs := ([(-7), 2] : List Int)) (inner := [.int .i64 (-7), .int .i64 2]) (ok := fun _ => True) (okp := fun _ => True) ?hr ?hp (fun _ hk => hk) trivial (Below.refl _ _) (Nat.le_refl _) (by simp) ?_; (case hd => rfl); (case hg => rfl); (case hr => first | (go_simp; done) | (go_simp; rfl)); (case hp => exact (Reps.one (show Kd.M (Kd.int .i64) _ _ _ (-7) [.int .i64 (-7)] from rfl) (Reps.one (show Kd.M (Kd.int .i64) _ _ _ 2 [.int .i64 2] from rfl) (Reps.none _ _)))); intro v122 w3 ho4 hb hg_ hnew_; clear hg_ hnew_; (first | rw [← Ny121.out] at ho4 | (simp only [Int.reduceToNat] at ho4; rw [← Ny121.out] at ho4)); have n0_ := Aside0.mk (Kd.R_lower ho4 (cZ (by repeat (first | (with_reducible first | exact HB.out | apply cA | apply cN | apply cD) | exact HB.out)))); have n1_ := Aside0.mk (cT (by repeat (first | (with_reducible first | exact HB.out | apply cA | apply cN | apply cD) | exact HB.out)) hb); clear HB; have HO123 := n0_; have HB := n1_; clear n0_ n1_; clear hb ho4; obtain ⟨Ao5, co5, eo5⟩ := Kd.R_slice HO123.out; subst eo5) | ((with_reducible refine gate_callee (f := 23) rfl ?_); refine goesL_ (some 5) rfl rfl Try.func23 (by kernel_rfl) rfl #[.int .i64 11, .int .i64 0, .int .i64 0, .slice Ao5 y121.length co5] rfl (by (try simp only [List.map_toArray, List.map_cons, List.map_nil]); first | done | rfl | (simp only [List.length_drop, List.length_take]; rfl)) ?_; (with_reducible refine (arith_Value.calls k 11 0 0 _ _ y121 t124 t125 _ ?side1 ?side2 A1.out).mono ?_); (case side1 => repeat (first | exact (Kd.R_reads' HO123.out).2.2 | (with_reducible refine Kd.C_alloc ?_ _) | (with_reducible refine Kd.C_drewN ?_ _) | (with_reducible refine Kd.C_drew ?_))); (case side2 => exact (Kd.R_reads' HO123.out).2.1); rintro e w6 ⟨rfl, hb⟩; refine ⟨_, rfl, ?_⟩; have n0_ := Aside0.mk (Kd.R_below (by (with_reducible repeat (first | apply Kd.R_alloc | apply Kd.R_drewN | apply Kd.R_drew)); exact HO123.out) hb); have n1_ := Aside0.mk (cT (by repeat (first | (with_reducible first | exact HB.out | apply cA | apply cN | apply cD) | exact HB.out)) hb); clear HO123; clear HB; have HO123 := n0_; have HB := n1_; clear n0_ n1_; (try clear hb); (try clear hb2); (try clear hk); (try clear hi)))
  (try simp only [Act.put, List.setIfInBounds_toArray, List.set_cons_zero, List.set_cons_succ])
  have H := HF2.out
  clear HF2
  by_cases c7 : t124 = (-3)
  · rw [if_pos c7] at H
    have c7b0 : (t124 == (-3)) = true := beq_iff_eq.mpr c7
    have c7b1 : (t124 != (-3)) = false := bne_eq_false_iff_eq.mpr c7
    clear c7
    (first | rw [c7b0] | (simp only [i64_w, i32_w]; rw [c7b0]) | skip)
    by_cases c8 : t125 = 0
    · rw [if_pos c8] at H
      have c8b0 : (t125 == 0) = true := beq_iff_eq.mpr c8
      have c8b1 : (t125 != 0) = false := bne_eq_false_iff_eq.mpr c8
      clear c8
      replace H := Option.bind_eq_some_iff.mp H
      obtain ⟨t126, A90, H⟩ := H
      replace H : (some (t126 == 3)) = some r := H
      have A9 := Aside0.mk A90
      clear A90
      obtain rfl := Option.some.inj H
      go_wp2_with (first | (go_at_call 17; (with_reducible refine (arith_Arity.calls k 27 t126 _ A9.out).mono ?_); rintro e w' ⟨rfl, ⟨nd, rfl⟩⟩))
      go_ret
      exact ⟨by first | rfl | (simp [errW_none, errW_some] <;> rfl) | (simp [*, errW_none, errW_some] <;> rfl), by repeat (first | (with_reducible first | exact HB.out | apply cA | apply cN | apply cD) | exact HB.out)⟩
    rw [if_neg c8] at H
    have c8b0 : (t125 == 0) = false := beq_eq_false_iff_ne.mpr c8
    have c8b1 : (t125 != 0) = true := bne_iff_ne.mpr c8
    obtain rfl := Option.some.inj H
    go_wp2
    go_ret
    exact ⟨by first | rfl | (simp [errW_none, errW_some] <;> rfl) | (simp [*, errW_none, errW_some] <;> rfl), by repeat (first | (with_reducible first | exact HB.out | apply cA | apply cN | apply cD) | exact HB.out)⟩
  rw [if_neg c7] at H
  have c7b0 : (t124 == (-3)) = false := beq_eq_false_iff_ne.mpr c7
  have c7b1 : (t124 != (-3)) = true := bne_iff_ne.mpr c7
  (first | rw [c7b0] | (simp only [i64_w, i32_w]; rw [c7b0]) | skip)
  obtain rfl := Option.some.inj H
  go_wp2
  go_ret
  exact ⟨by first | rfl | (simp [errW_none, errW_some] <;> rfl) | (simp [*, errW_none, errW_some] <;> rfl), by repeat (first | (with_reducible first | exact HB.out | apply cA | apply cN | apply cD) | exact HB.out)⟩

/-! ### damasklaw04_of: function 25 -/
def damasklaw04_of.f (k : Nat) (a0 : Int) (l1 : List Int) : Option (Int × Bool) := (arith_Value.f k a0 0 0 l1).bind fun bt184 => (some (bt184.1, (bt184.2 == 0)))
theorem damasklaw04_of.mono : ∀ a0 a1 k, LeO (damasklaw04_of.f k a0 a1) (damasklaw04_of.f (k + 1) a0 a1) := by
  intro a0 a1 k
  unfold damasklaw04_of.f
  repeat' first
      | (with_reducible exact arith_Value.mono _ _ _ _ _)
      | (with_reducible exact LeO.refl _)
      | (with_reducible exact LeO.none _)
      | (with_reducible refine LeO.ite ?_ ?_)
      | (with_reducible refine LeO.bind ?_ (fun _ => ?_))
      | exact arith_Value.mono _ _ _ _ _
      | exact LeO.none _
      | refine LeO.ite ?_ ?_
      | refine LeO.bind ?_ (fun _ => ?_)
set_option maxHeartbeats 8000000 in
set_option maxRecDepth 100000 in
theorem damasklaw04_of.calls (k : Nat) (a0 : Int) (A1 : Option Addr) (c1 : Nat) (l1 : List Int) (r1 : Int) (r2 : Bool) (w : World) (hr1 : Kd.C (Kd.int .i64) w A1 l1.length l1) (hc1 : l1.length ≤ c1) (h : damasklaw04_of.f k a0 l1 = some (r1, r2)) :
    Calls Try.prog 25 #[.int .i64 a0, .slice A1 l1.length c1] w fun e w' => e = .returned (.tuple #[.int .i64 r1, .bool r2]) ∧ Below w.heap.size w w' := by
  have HR1 := Aside0.mk hr1
  have HC1 := Aside0.mk hc1
  clear hr1 hc1
  have HB := Aside0.mk (Below.refl w.heap.size w)
  have H : ((arith_Value.f k a0 0 0 l1).bind fun bt184 => (some (bt184.1, (bt184.2 == 0)))) = some (r1, r2) := h
  clear h
  replace H := Option.bind_eq_some_iff.mp H
  obtain ⟨⟨t184, t185⟩, A30, H⟩ := H
  replace H : (some (t184, (t185 == 0))) = some (r1, r2) := H
  have A3 := Aside0.mk A30
  clear A30
  simp only [Option.some.injEq, Prod.mk.injEq] at H
  obtain ⟨rfl, rfl⟩ := H
  go_enter Try.func25, Try.ntmps25
  go_wp2_with (first | ((with_reducible refine gate_callee (f := 23) rfl ?_); refine goesL_ (some 11) rfl rfl Try.func23 (by kernel_rfl) rfl #[.int .i64 a0, .int .i64 0, .int .i64 0, .slice A1 l1.length c1] rfl (by (try simp only [List.map_toArray, List.map_cons, List.map_nil]); first | done | rfl | (simp only [List.length_drop, List.length_take]; rfl)) ?_; (with_reducible refine (arith_Value.calls k a0 0 0 _ _ l1 t184 t185 _ ?side1 ?side2 A3.out).mono ?_); (case side1 => repeat (first | exact HR1.out | (with_reducible refine Kd.C_alloc ?_ _) | (with_reducible refine Kd.C_drewN ?_ _) | (with_reducible refine Kd.C_drew ?_))); (case side2 => exact HC1.out); rintro e w4 ⟨rfl, hb⟩; refine ⟨_, rfl, ?_⟩; have n0_ := Aside0.mk (cT (by repeat (first | (with_reducible first | exact HB.out | apply cA | apply cN | apply cD) | exact HB.out)) hb); clear HB; have HB := n0_; clear n0_; (try clear hb); (try clear hb2); (try clear hk); (try clear hi)))
  go_ret2
  exact ⟨by first | rfl | (simp [errW_none, errW_some] <;> rfl) | (simp [*, errW_none, errW_some] <;> rfl), by repeat (first | (with_reducible first | exact HB.out | apply cA | apply cN | apply cD) | exact HB.out)⟩

end Go.Proofs.Ytpnldhimlpilhaa.F
