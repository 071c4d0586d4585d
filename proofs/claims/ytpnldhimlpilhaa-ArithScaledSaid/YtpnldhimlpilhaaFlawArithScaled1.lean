/- Written by wip/myprint.py of this session, out of Lean's print of the program: what Go functions come to, and that their calls come to it; no condition. -/
import Derived.Test.YtpnldhimlpilhaaF0
import Derived.Test.YtpnldhimlpilhaaFarith3
import Derived.Test.YtpnldhimlpilhaaFdamasklaw041
namespace Go.Proofs.Ytpnldhimlpilhaa.F
open Go.RowKit Go.Proofs.YtpnldhimlpilhaaW.PrintWords Go.Proofs.YtpnldhimlpilhaaW.PrintLast Go.Proofs.YtpnldhimlpilhaaW.PrintMore
attribute [local go_sem] max2_int min2_int max_two min_two max_three min_three max_four min_four   -- for this text's walks alone
set_option linter.unusedVariables false
set_option linter.unusedSimpArgs false

/-! ### damasklaw04_ArithScaled: function 9 -/
mutual
def damasklaw04_ArithScaled.j0 : Nat → Int → Int → Int → Int → Int → Bool → Option (Bool)
  | 0, _, _, _, _, _, _ => none
  | k + 1, x7, x8, x9, x10, x11, x33 => if x33 = true then ((damasklaw04_awake.f k).bind fun t376 => (if t376 = true then (if x11 = 1 then (some (x10 == 0)) else (some false)) else (some false))) else (if (wrap64 (x7 * (x8 / 4))) > 576460752303423488 then (damasklaw04_ArithScaled.j1 k x7 x8 x9 x10 x11 true) else (damasklaw04_ArithScaled.j1 k x7 x8 x9 x10 x11 (decide ((wrap64 (x7 * (x8 / 4))) < (-576460752303423488)))))
def damasklaw04_ArithScaled.j1 : Nat → Int → Int → Int → Int → Int → Bool → Option (Bool)
  | 0, _, _, _, _, _, _ => none
  | k + 1, x7, x8, x9, x10, x11, x52 => if x52 = true then (if x11 = 0 then (some true) else (if x11 = 13 then (some (x10 == 0)) else (some false))) else (if 0 ≤ x9 then (if (shr .i64 (wrap64 (x7 * x8)) x9) = (wrap64 (wrap32 (shr .i64 (wrap64 (x7 * x8)) x9))) then (if x11 = 0 then (some (x10 == (shr .i64 (wrap64 (x7 * x8)) x9))) else (some false)) else (if x11 = 13 then (some (x10 == 0)) else (some false))) else (none))
end
def damasklaw04_ArithScaled.f (k : Nat) (a0 : Int) (a1 : Int) (a2 : Int) : Option (Bool) := (arith_Value.f k 33 (wrap64 (a1)) (wrap64 (Int.tmod a2 63)) (([wrap64 (a0)] : List Int))).bind fun bt373 => ((damasklaw04_awake.f k).bind fun t375 => (if t375 = true then (damasklaw04_ArithScaled.j0 k (wrap64 (a0)) (wrap64 (a1)) (wrap64 (Int.tmod a2 63)) bt373.1 bt373.2 ((wrap64 (a1)) == 0)) else (damasklaw04_ArithScaled.j0 k (wrap64 (a0)) (wrap64 (a1)) (wrap64 (Int.tmod a2 63)) bt373.1 bt373.2 true)))
theorem damasklaw04_ArithScaled.mono_l : ∀ k, (∀ y0 y1 y2 y3 y4 y5, LeO (damasklaw04_ArithScaled.j0 k y0 y1 y2 y3 y4 y5) (damasklaw04_ArithScaled.j0 (k + 1) y0 y1 y2 y3 y4 y5)) ∧ (∀ y0 y1 y2 y3 y4 y5, LeO (damasklaw04_ArithScaled.j1 k y0 y1 y2 y3 y4 y5) (damasklaw04_ArithScaled.j1 (k + 1) y0 y1 y2 y3 y4 y5))
  | 0 => ⟨fun _ _ _ _ _ _ r h => by simp [damasklaw04_ArithScaled.j0] at h, fun _ _ _ _ _ _ r h => by simp [damasklaw04_ArithScaled.j1] at h⟩
  | k + 1 => by
    obtain ⟨ih0, ih1⟩ := damasklaw04_ArithScaled.mono_l k
    refine ⟨?_, ?_⟩
    · intro y0 y1 y2 y3 y4 y5
      unfold damasklaw04_ArithScaled.j0
      repeat' first
      | (with_reducible exact ih0 _ _ _ _ _ _)
      | (with_reducible exact ih1 _ _ _ _ _ _)
      | (with_reducible exact arith_Value.mono _ _ _ _ _)
      | (with_reducible exact damasklaw04_awake.mono _)
      | (with_reducible exact LeO.refl _)
      | (with_reducible exact LeO.none _)
      | (with_reducible refine LeO.ite ?_ ?_)
      | (with_reducible refine LeO.bind ?_ (fun _ => ?_))
      | exact ih0 _ _ _ _ _ _
      | exact ih1 _ _ _ _ _ _
      | exact arith_Value.mono _ _ _ _ _
      | exact damasklaw04_awake.mono _
      | exact LeO.none _
      | refine LeO.ite ?_ ?_
      | refine LeO.bind ?_ (fun _ => ?_)
    · intro y0 y1 y2 y3 y4 y5
      unfold damasklaw04_ArithScaled.j1
      repeat' first
      | (with_reducible exact ih0 _ _ _ _ _ _)
      | (with_reducible exact ih1 _ _ _ _ _ _)
      | (with_reducible exact arith_Value.mono _ _ _ _ _)
      | (with_reducible exact damasklaw04_awake.mono _)
      | (with_reducible exact LeO.refl _)
      | (with_reducible exact LeO.none _)
      | (with_reducible refine LeO.ite ?_ ?_)
      | (with_reducible refine LeO.bind ?_ (fun _ => ?_))
      | exact ih0 _ _ _ _ _ _
      | exact ih1 _ _ _ _ _ _
      | exact arith_Value.mono _ _ _ _ _
      | exact damasklaw04_awake.mono _
      | exact LeO.none _
      | refine LeO.ite ?_ ?_
      | refine LeO.bind ?_ (fun _ => ?_)
theorem damasklaw04_ArithScaled.mono : ∀ a0 a1 a2 k, LeO (damasklaw04_ArithScaled.f k a0 a1 a2) (damasklaw04_ArithScaled.f (k + 1) a0 a1 a2) := by
  intro a0 a1 a2 k
  obtain ⟨ih0, ih1⟩ := damasklaw04_ArithScaled.mono_l k
  unfold damasklaw04_ArithScaled.f
  repeat' first
      | (with_reducible exact ih0 _ _ _ _ _ _)
      | (with_reducible exact ih1 _ _ _ _ _ _)
      | (with_reducible exact arith_Value.mono _ _ _ _ _)
      | (with_reducible exact damasklaw04_awake.mono _)
      | (with_reducible exact LeO.refl _)
      | (with_reducible exact LeO.none _)
      | (with_reducible refine LeO.ite ?_ ?_)
      | (with_reducible refine LeO.bind ?_ (fun _ => ?_))
      | exact ih0 _ _ _ _ _ _
      | exact ih1 _ _ _ _ _ _
      | exact arith_Value.mono _ _ _ _ _
      | exact damasklaw04_awake.mono _
      | exact LeO.none _
      | refine LeO.ite ?_ ?_
      | refine LeO.bind ?_ (fun _ => ?_)
set_option maxHeartbeats 8000000 in
set_option maxRecDepth 100000 in
theorem damasklaw04_ArithScaled.calls (k : Nat) (a0 : Int) (a1 : Int) (a2 : Int) (r : Bool) (w : World) (hrT0 : r = true) (h : damasklaw04_ArithScaled.f k a0 a1 a2 = some r) :
    Calls Try.prog 9 #[.int .i32 a0, .int .u32 a1, .int .u8 a2] w fun e w' => e = .returned (.bool r) ∧ Below w.heap.size w w' := by
  have HB := Aside0.mk (Below.refl w.heap.size w)
  have hrT := Aside0.mk hrT0
  clear hrT0
  have H : ((arith_Value.f k 33 (wrap64 (a1)) (wrap64 (Int.tmod a2 63)) (([wrap64 (a0)] : List Int))).bind fun bt373 => ((damasklaw04_awake.f k).bind fun t375 => (if t375 = true then (damasklaw04_ArithScaled.j0 k (wrap64 (a0)) (wrap64 (a1)) (wrap64 (Int.tmod a2 63)) bt373.1 bt373.2 ((wrap64 (a1)) == 0)) else (damasklaw04_ArithScaled.j0 k (wrap64 (a0)) (wrap64 (a1)) (wrap64 (Int.tmod a2 63)) bt373.1 bt373.2 true)))) = some r := h
  clear h
  obtain ⟨y370, hy370⟩ : ∃ y_ : List Int, y_ = (([wrap64 (a0)] : List Int)) := ⟨_, rfl⟩
  replace H : ((arith_Value.f k 33 (wrap64 (a1)) (wrap64 (Int.tmod a2 63)) y370).bind fun bt373 => ((damasklaw04_awake.f k).bind fun t375 => (if t375 = true then (damasklaw04_ArithScaled.j0 k (wrap64 (a0)) (wrap64 (a1)) (wrap64 (Int.tmod a2 63)) bt373.1 bt373.2 ((wrap64 (a1)) == 0)) else (damasklaw04_ArithScaled.j0 k (wrap64 (a0)) (wrap64 (a1)) (wrap64 (Int.tmod a2 63)) bt373.1 bt373.2 true)))) = some r := by first | (rw [hy370]; with_reducible exact H) | (have H2_ := (Option.bind_some _ _).symm.trans H; rw [hy370]; with_reducible exact H2_) | (have H2_ := (Option.bind_some _ _).symm.trans H; with_reducible exact H2_) | with_reducible exact H | (rw [hy370]; exact H) | exact H
  have Ny370 := Aside0.mk hy370
  clear hy370
  replace H := Option.bind_eq_some_iff.mp H
  obtain ⟨⟨t373, t374⟩, A40, H⟩ := H
  replace H : ((damasklaw04_awake.f k).bind fun t375 => (if t375 = true then (damasklaw04_ArithScaled.j0 k (wrap64 (a0)) (wrap64 (a1)) (wrap64 (Int.tmod a2 63)) t373 t374 ((wrap64 (a1)) == 0)) else (damasklaw04_ArithScaled.j0 k (wrap64 (a0)) (wrap64 (a1)) (wrap64 (Int.tmod a2 63)) t373 t374 true))) = some r := H
  have A4 := Aside0.mk A40
  clear A40
  have HC5 := Aside0.mk H
  clear H
  go_enter Try.func9, Try.ntmps9
  go_upto_region 3 with (first | ((with_reducible refine gate_dst (N := 24) rfl ?_); refine Kd.R_lit (Kd.int .i64) _ 3 ?hg (N := 24) ?hd (xs := ([wrap64 (a0)] : List Int)) (inner := [.int .i64 (wrap64 (a0))]) (ok := fun _ => True) (okp := fun _ => True) ?hr ?hp (fun _ hk => hk) trivial (Below.refl _ _) (Nat.le_refl _) (by simp) ?_; (case hd => rfl); (case hg => rfl); (case hr => first | (go_simp; done) | (go_simp; rfl)); (case hp => exact (Reps.one (show Kd.M (Kd.int .i64) _ _ _ (wrap64 (a0)) [.int .i64 (wrap64 (a0))] from rfl) (Reps.none _ _))); intro v371 w6 ho7 hb hg_ hnew_; clear hg_ hnew_; (first | rw [← Ny370.out] at ho7 | (simp only [Int.reduceToNat] at ho7; rw [← Ny370.out] at ho7)); have n0_ := Aside0.mk (Kd.R_lower ho7 (below_size (by repeat (first | (with_reducible first | exact HB.out | apply below_alloc | apply pw_below_drewN | apply below_drew1) | exact HB.out)))); have n1_ := Aside0.mk (below_step (by repeat (first | (with_reducible first | exact HB.out | apply below_alloc | apply pw_below_drewN | apply below_drew1) | exact HB.out)) hb); clear HB; have HO372 := n0_; have HB := n1_; clear n0_ n1_; clear hb ho7; obtain ⟨Ao8, co8, eo8⟩ := Kd.R_slice HO372.out; subst eo8) | (go_at_call 23; (with_reducible refine (arith_Value.calls k 33 (wrap64 (a1)) (wrap64 (Int.tmod a2 63)) _ _ y370 t373 t374 _ ?side1 ?side2 A4.out).mono ?_); (case side1 => repeat (first | exact (Kd.R_reads' HO372.out).2.2 | (with_reducible refine Kd.C_alloc ?_ _) | (with_reducible refine Kd.C_drewN ?_ _) | (with_reducible refine Kd.C_drew ?_))); (case side2 => exact (Kd.R_reads' HO372.out).2.1); rintro e w9 ⟨rfl, hb⟩; have n0_ := Aside0.mk (Kd.R_below (by (with_reducible repeat (first | apply Kd.R_alloc | apply Kd.R_drewN | apply Kd.R_drew)); exact HO372.out) hb); have n1_ := Aside0.mk (below_step (by repeat (first | (with_reducible first | exact HB.out | apply below_alloc | apply pw_below_drewN | apply below_drew1) | exact HB.out)) hb); clear HO372; clear HB; have HO372 := n0_; have HB := n1_; clear n0_ n1_; (try clear hb); (try clear hb2); (try clear hk); (try clear hi)))
  repeat (go_quiet (first | ((with_reducible refine gate_dst (N := 24) rfl ?_); refine Kd.R_lit (Kd.int .i64) _ 3 ?hg (N := 24) ?hd (xs := ([wrap64 (a0)] : List Int)) (inner := [.int .i64 (wrap64 (a0))]) (ok := fun _ => True) (okp := fun _ => True) ?hr ?hp (fun _ hk => hk) trivial (Below.refl _ _) (Nat.le_refl _) (by simp) ?_; (case hd => rfl); (case hg => rfl); (case hr => first | (go_simp; done) | (go_simp; rfl)); (case hp => exact (Reps.one (show Kd.M (Kd.int .i64) _ _ _ (wrap64 (a0)) [.int .i64 (wrap64 (a0))] from rfl) (Reps.none _ _))); intro v371 w6 ho7 hb hg_ hnew_; clear hg_ hnew_; (first | rw [← Ny370.out] at ho7 | (simp only [Int.reduceToNat] at ho7; rw [← Ny370.out] at ho7)); have n0_ := Aside0.mk (Kd.R_lower ho7 (below_size (by repeat (first | (with_reducible first | exact HB.out | apply below_alloc | apply pw_below_drewN | apply below_drew1) | exact HB.out)))); have n1_ := Aside0.mk (below_step (by repeat (first | (with_reducible first | exact HB.out | apply below_alloc | apply pw_below_drewN | apply below_drew1) | exact HB.out)) hb); clear HB; have HO372 := n0_; have HB := n1_; clear n0_ n1_; clear hb ho7; obtain ⟨Ao8, co8, eo8⟩ := Kd.R_slice HO372.out; subst eo8) | (go_at_call 23; (with_reducible refine (arith_Value.calls k 33 (wrap64 (a1)) (wrap64 (Int.tmod a2 63)) _ _ y370 t373 t374 _ ?side1 ?side2 A4.out).mono ?_); (case side1 => repeat (first | exact (Kd.R_reads' HO372.out).2.2 | (with_reducible refine Kd.C_alloc ?_ _) | (with_reducible refine Kd.C_drewN ?_ _) | (with_reducible refine Kd.C_drew ?_))); (case side2 => exact (Kd.R_reads' HO372.out).2.1); rintro e w9 ⟨rfl, hb⟩; have n0_ := Aside0.mk (Kd.R_below (by (with_reducible repeat (first | apply Kd.R_alloc | apply Kd.R_drewN | apply Kd.R_drew)); exact HO372.out) hb); have n1_ := Aside0.mk (below_step (by repeat (first | (with_reducible first | exact HB.out | apply below_alloc | apply pw_below_drewN | apply below_drew1) | exact HB.out)) hb); clear HO372; clear HB; have HO372 := n0_; have HB := n1_; clear n0_ n1_; (try clear hb); (try clear hb2); (try clear hk); (try clear hi))); go_upto_region 3 with (first | ((with_reducible refine gate_dst (N := 24) rfl ?_); refine Kd.R_lit (Kd.int .i64) _ 3 ?hg (N := 24) ?hd (xs := ([wrap64 (a0)] : List Int)) (inner := [.int .i64 (wrap64 (a0))]) (ok := fun _ => True) (okp := fun _ => True) ?hr ?hp (fun _ hk => hk) trivial (Below.refl _ _) (Nat.le_refl _) (by simp) ?_; (case hd => rfl); (case hg => rfl); (case hr => first | (go_simp; done) | (go_simp; rfl)); (case hp => exact (Reps.one (show Kd.M (Kd.int .i64) _ _ _ (wrap64 (a0)) [.int .i64 (wrap64 (a0))] from rfl) (Reps.none _ _))); intro v371 w6 ho7 hb hg_ hnew_; clear hg_ hnew_; (first | rw [← Ny370.out] at ho7 | (simp only [Int.reduceToNat] at ho7; rw [← Ny370.out] at ho7)); have n0_ := Aside0.mk (Kd.R_lower ho7 (below_size (by repeat (first | (with_reducible first | exact HB.out | apply below_alloc | apply pw_below_drewN | apply below_drew1) | exact HB.out)))); have n1_ := Aside0.mk (below_step (by repeat (first | (with_reducible first | exact HB.out | apply below_alloc | apply pw_below_drewN | apply below_drew1) | exact HB.out)) hb); clear HB; have HO372 := n0_; have HB := n1_; clear n0_ n1_; clear hb ho7; obtain ⟨Ao8, co8, eo8⟩ := Kd.R_slice HO372.out; subst eo8) | (go_at_call 23; (with_reducible refine (arith_Value.calls k 33 (wrap64 (a1)) (wrap64 (Int.tmod a2 63)) _ _ y370 t373 t374 _ ?side1 ?side2 A4.out).mono ?_); (case side1 => repeat (first | exact (Kd.R_reads' HO372.out).2.2 | (with_reducible refine Kd.C_alloc ?_ _) | (with_reducible refine Kd.C_drewN ?_ _) | (with_reducible refine Kd.C_drew ?_))); (case side2 => exact (Kd.R_reads' HO372.out).2.1); rintro e w9 ⟨rfl, hb⟩; have n0_ := Aside0.mk (Kd.R_below (by (with_reducible repeat (first | apply Kd.R_alloc | apply Kd.R_drewN | apply Kd.R_drew)); exact HO372.out) hb); have n1_ := Aside0.mk (below_step (by repeat (first | (with_reducible first | exact HB.out | apply below_alloc | apply pw_below_drewN | apply below_drew1) | exact HB.out)) hb); clear HO372; clear HB; have HO372 := n0_; have HB := n1_; clear n0_ n1_; (try clear hb); (try clear hb2); (try clear hk); (try clear hi))))
  (try simp only [Act.put, List.setIfInBounds_toArray, List.set_cons_zero, List.set_cons_succ])
  go_cut [33] (fun v33 wc => ∃ (kq : Nat) (x33_4 : Bool), v33 = .bool x33_4 ∧ Aside0 (damasklaw04_ArithScaled.j0 kq (wrap64 (a0)) (wrap64 (a1)) (wrap64 (Int.tmod a2 63)) t373 t374 x33_4 = some r) ∧ Aside0 (kq ≤ k) ∧ Aside0 (Below w.heap.size w wc))
  case first =>
    have H := HC5.out
    clear HC5
    replace H := Option.bind_eq_some_iff.mp H
    obtain ⟨t375, A100, H⟩ := H
    replace H : (if t375 = true then (damasklaw04_ArithScaled.j0 k (wrap64 (a0)) (wrap64 (a1)) (wrap64 (Int.tmod a2 63)) t373 t374 ((wrap64 (a1)) == 0)) else (damasklaw04_ArithScaled.j0 k (wrap64 (a0)) (wrap64 (a1)) (wrap64 (Int.tmod a2 63)) t373 t374 true)) = some r := H
    have A10 := Aside0.mk A100
    clear A100
    by_cases c11 : t375 = true
    · subst c11
      have H1 : (damasklaw04_ArithScaled.j0 k (wrap64 (a0)) (wrap64 (a1)) (wrap64 (Int.tmod a2 63)) t373 t374 ((wrap64 (a1)) == 0)) = some r := by rw [if_pos rfl] at H; exact H
      clear H
      have H := H1
      clear H1
      have H' := Aside0.mk H
      clear H
      go_wp2_with (first | (go_at_call 16; (with_reducible refine (damasklaw04_awake.calls k  true _ A10.out).mono ?_); rintro e w12 ⟨rfl, hb⟩; have n0_ := Aside0.mk (Kd.R_below (by (with_reducible repeat (first | apply Kd.R_alloc | apply Kd.R_drewN | apply Kd.R_drew)); exact HO372.out) hb); have n1_ := Aside0.mk (below_step (by repeat (first | (with_reducible first | exact HB.out | apply below_alloc | apply pw_below_drewN | apply below_drew1) | exact HB.out)) hb); clear HO372; clear HB; have HO372 := n0_; have HB := n1_; clear n0_ n1_; (try clear hb); (try clear hb2); (try clear hk); (try clear hi)))
      repeat (go_quiet (first | (go_at_call 16; (with_reducible refine (damasklaw04_awake.calls k  true _ A10.out).mono ?_); rintro e w12 ⟨rfl, hb⟩; have n0_ := Aside0.mk (Kd.R_below (by (with_reducible repeat (first | apply Kd.R_alloc | apply Kd.R_drewN | apply Kd.R_drew)); exact HO372.out) hb); have n1_ := Aside0.mk (below_step (by repeat (first | (with_reducible first | exact HB.out | apply below_alloc | apply pw_below_drewN | apply below_drew1) | exact HB.out)) hb); clear HO372; clear HB; have HO372 := n0_; have HB := n1_; clear n0_ n1_; (try clear hb); (try clear hb2); (try clear hk); (try clear hi))); try go_wp2_with (first | (go_at_call 16; (with_reducible refine (damasklaw04_awake.calls k  true _ A10.out).mono ?_); rintro e w12 ⟨rfl, hb⟩; have n0_ := Aside0.mk (Kd.R_below (by (with_reducible repeat (first | apply Kd.R_alloc | apply Kd.R_drewN | apply Kd.R_drew)); exact HO372.out) hb); have n1_ := Aside0.mk (below_step (by repeat (first | (with_reducible first | exact HB.out | apply below_alloc | apply pw_below_drewN | apply below_drew1) | exact HB.out)) hb); clear HO372; clear HB; have HO372 := n0_; have HB := n1_; clear n0_ n1_; (try clear hb); (try clear hb2); (try clear hk); (try clear hi))))
      go_meet
      case rel => exact ⟨_, (((wrap64 (a1)) == 0)), (by first | rfl | (simp; done) | (simp [*]; done)), H', ⟨by first | omega | exact Nat.le_refl _⟩, ⟨by repeat (first | (with_reducible first | exact HB.out | apply below_alloc | apply pw_below_drewN | apply below_drew1) | exact HB.out)⟩⟩
    · replace c11 := Bool.eq_false_iff.mpr c11
      subst c11
      have H1 : (damasklaw04_ArithScaled.j0 k (wrap64 (a0)) (wrap64 (a1)) (wrap64 (Int.tmod a2 63)) t373 t374 true) = some r := by rw [if_neg (show ¬ (false = true) by decide)] at H; exact H
      clear H
      have H := H1
      clear H1
      have H' := Aside0.mk H
      clear H
      go_wp2_with (first | (go_at_call 16; (with_reducible refine (damasklaw04_awake.calls k  false _ A10.out).mono ?_); rintro e w13 ⟨rfl, hb⟩; have n0_ := Aside0.mk (Kd.R_below (by (with_reducible repeat (first | apply Kd.R_alloc | apply Kd.R_drewN | apply Kd.R_drew)); exact HO372.out) hb); have n1_ := Aside0.mk (below_step (by repeat (first | (with_reducible first | exact HB.out | apply below_alloc | apply pw_below_drewN | apply below_drew1) | exact HB.out)) hb); clear HO372; clear HB; have HO372 := n0_; have HB := n1_; clear n0_ n1_; (try clear hb); (try clear hb2); (try clear hk); (try clear hi)))
      repeat (go_quiet (first | (go_at_call 16; (with_reducible refine (damasklaw04_awake.calls k  false _ A10.out).mono ?_); rintro e w13 ⟨rfl, hb⟩; have n0_ := Aside0.mk (Kd.R_below (by (with_reducible repeat (first | apply Kd.R_alloc | apply Kd.R_drewN | apply Kd.R_drew)); exact HO372.out) hb); have n1_ := Aside0.mk (below_step (by repeat (first | (with_reducible first | exact HB.out | apply below_alloc | apply pw_below_drewN | apply below_drew1) | exact HB.out)) hb); clear HO372; clear HB; have HO372 := n0_; have HB := n1_; clear n0_ n1_; (try clear hb); (try clear hb2); (try clear hk); (try clear hi))); try go_wp2_with (first | (go_at_call 16; (with_reducible refine (damasklaw04_awake.calls k  false _ A10.out).mono ?_); rintro e w13 ⟨rfl, hb⟩; have n0_ := Aside0.mk (Kd.R_below (by (with_reducible repeat (first | apply Kd.R_alloc | apply Kd.R_drewN | apply Kd.R_drew)); exact HO372.out) hb); have n1_ := Aside0.mk (below_step (by repeat (first | (with_reducible first | exact HB.out | apply below_alloc | apply pw_below_drewN | apply below_drew1) | exact HB.out)) hb); clear HO372; clear HB; have HO372 := n0_; have HB := n1_; clear n0_ n1_; (try clear hb); (try clear hb2); (try clear hk); (try clear hi))))
      go_meet
      case rel => exact ⟨_, (true), (by first | rfl | (simp; done) | (simp [*]; done)), H', ⟨by first | omega | exact Nat.le_refl _⟩, ⟨by repeat (first | (with_reducible first | exact HB.out | apply below_alloc | apply pw_below_drewN | apply below_drew1) | exact HB.out)⟩⟩
  case rest =>
    clear HC5
    try clear c1
    try clear p2
    try clear p6
    try clear c9
    try clear c11
    obtain ⟨kq, x33_4, rfl, HA, HJ4, HB⟩ := hcut
    cases kq with
    | zero => exact absurd HA.out (by simp [damasklaw04_ArithScaled.j0])
    | succ kj4 =>
      have H := HA.out
      clear HA
      simp only [damasklaw04_ArithScaled.j0] at H
      by_cases c14 : x33_4 = true
      · subst c14
        have H1 : ((damasklaw04_awake.f kj4).bind fun t376 => (if t376 = true then (if t374 = 1 then (some (t373 == 0)) else (some false)) else (some false))) = some r := by rw [if_pos rfl] at H; exact H
        clear H
        have H := H1
        clear H1
        replace H := Option.bind_eq_some_iff.mp H
        obtain ⟨t376, A150, H⟩ := H
        replace H : (if t376 = true then (if t374 = 1 then (some (t373 == 0)) else (some false)) else (some false)) = some r := H
        have A15 := Aside0.mk A150
        clear A150
        by_cases c16 : t376 = true
        · subst c16
          have H1 : (if t374 = 1 then (some (t373 == 0)) else (some false)) = some r := by rw [if_pos rfl] at H; exact H
          clear H
          have H := H1
          clear H1
          by_cases c17 : t374 = 1
          · rw [if_pos c17] at H
            have c17b0 : (t374 == 1) = true := beq_iff_eq.mpr c17
            have c17b1 : (t374 != 1) = false := bne_eq_false_iff_eq.mpr c17
            clear c17
            obtain rfl := Option.some.inj H
            go_wp2_with (first | (go_at_call 16; (with_reducible refine (damasklaw04_awake.calls kj4  true _ A15.out).mono ?_); rintro e w18 ⟨rfl, hb⟩; have n0_ := Aside0.mk (below_step (by repeat (first | (with_reducible first | exact HB.out | apply below_alloc | apply pw_below_drewN | apply below_drew1) | exact HB.out)) hb); clear HB; have HB := n0_; clear n0_; (try clear hb); (try clear hb2); (try clear hk); (try clear hi)))
            repeat (go_quiet (first | (go_at_call 16; (with_reducible refine (damasklaw04_awake.calls kj4  true _ A15.out).mono ?_); rintro e w18 ⟨rfl, hb⟩; have n0_ := Aside0.mk (below_step (by repeat (first | (with_reducible first | exact HB.out | apply below_alloc | apply pw_below_drewN | apply below_drew1) | exact HB.out)) hb); clear HB; have HB := n0_; clear n0_; (try clear hb); (try clear hb2); (try clear hk); (try clear hi))); try go_wp2_with (first | (go_at_call 16; (with_reducible refine (damasklaw04_awake.calls kj4  true _ A15.out).mono ?_); rintro e w18 ⟨rfl, hb⟩; have n0_ := Aside0.mk (below_step (by repeat (first | (with_reducible first | exact HB.out | apply below_alloc | apply pw_below_drewN | apply below_drew1) | exact HB.out)) hb); clear HB; have HB := n0_; clear n0_; (try clear hb); (try clear hb2); (try clear hk); (try clear hi))))
            go_ret
            exact ⟨by first | rfl | (simp [errW_none, errW_some] <;> rfl) | (simp [*, errW_none, errW_some] <;> rfl), by repeat (first | (with_reducible first | exact HB.out | apply below_alloc | apply pw_below_drewN | apply below_drew1) | exact HB.out)⟩
          · rw [if_neg c17] at H
            have c17b0 : (t374 == 1) = false := beq_eq_false_iff_ne.mpr c17
            have c17b1 : (t374 != 1) = true := bne_iff_ne.mpr c17
            exact absurd hrT.out (by have h_ := Option.some.inj H; rw [← h_]; decide)
        · replace c16 := Bool.eq_false_iff.mpr c16
          subst c16
          have H1 : (some false) = some r := by rw [if_neg (show ¬ (false = true) by decide)] at H; exact H
          clear H
          have H := H1
          clear H1
          exact absurd hrT.out (by have h_ := Option.some.inj H; rw [← h_]; decide)
      · replace c14 := Bool.eq_false_iff.mpr c14
        subst c14
        have H1 : (if (wrap64 ((wrap64 (a0)) * ((wrap64 (a1)) / 4))) > 576460752303423488 then (damasklaw04_ArithScaled.j1 kj4 (wrap64 (a0)) (wrap64 (a1)) (wrap64 (Int.tmod a2 63)) t373 t374 true) else (damasklaw04_ArithScaled.j1 kj4 (wrap64 (a0)) (wrap64 (a1)) (wrap64 (Int.tmod a2 63)) t373 t374 (decide ((wrap64 ((wrap64 (a0)) * ((wrap64 (a1)) / 4))) < (-576460752303423488))))) = some r := by rw [if_neg (show ¬ (false = true) by decide)] at H; exact H
        clear H
        have H := H1
        clear H1
        have HC19 := Aside0.mk H
        clear H
        go_upto_region 6 with (fail)
        repeat (go_quiet (fail); go_upto_region 6 with (fail))
        go_cut [52] (fun v52 wc => ∃ (kq : Nat) (x52_18 : Bool), v52 = .bool x52_18 ∧ Aside0 (damasklaw04_ArithScaled.j1 kq (wrap64 (a0)) (wrap64 (a1)) (wrap64 (Int.tmod a2 63)) t373 t374 x52_18 = some r) ∧ Aside0 (kq ≤ kj4) ∧ Aside0 (Below w.heap.size w wc))
        case first =>
          have H := HC19.out
          clear HC19
          by_cases c20 : (wrap64 ((wrap64 (a0)) * ((wrap64 (a1)) / 4))) > 576460752303423488
          · rw [if_pos c20] at H
            have c20b0 : decide (576460752303423488 < (wrap64 ((wrap64 (a0)) * ((wrap64 (a1)) / 4)))) = true := decide_eq_true c20
            clear c20
            (first | rw [c20b0] | (simp only [i64_w, i32_w]; rw [c20b0]) | skip)
            have H' := Aside0.mk H
            clear H
            go_wp2
            repeat (go_quiet (fail); try go_wp2)
            go_meet
            case rel => exact ⟨_, (true), (by first | rfl | (simp; done) | (simp [*]; done)), H', ⟨by have := HJ4.out; first | omega | exact Nat.le_refl _⟩, ⟨by repeat (first | (with_reducible first | exact HB.out | apply below_alloc | apply pw_below_drewN | apply below_drew1) | exact HB.out)⟩⟩
          · rw [if_neg c20] at H
            have c20b0 : decide (576460752303423488 < (wrap64 ((wrap64 (a0)) * ((wrap64 (a1)) / 4)))) = false := decide_eq_false c20
            clear c20
            (first | rw [c20b0] | (simp only [i64_w, i32_w]; rw [c20b0]) | skip)
            have H' := Aside0.mk H
            clear H
            go_wp2
            repeat (go_quiet (fail); try go_wp2)
            go_meet
            case rel => exact ⟨_, (decide ((wrap64 ((wrap64 (a0)) * ((wrap64 (a1)) / 4))) < (-576460752303423488))), (by first | rfl | (simp; done) | (simp [*]; done)), H', ⟨by have := HJ4.out; first | omega | exact Nat.le_refl _⟩, ⟨by repeat (first | (with_reducible first | exact HB.out | apply below_alloc | apply pw_below_drewN | apply below_drew1) | exact HB.out)⟩⟩
        case rest =>
          clear HC19
          try clear c1
          try clear c2
          try clear p2
          try clear p6
          try clear c9
          try clear c11
          try clear c14
          try clear c16
          try clear c17
          try clear c17b0
          try clear c17b1
          try clear c20
          try clear c20b0
          try clear p2
          try clear p6
          obtain ⟨kq, x52_18, rfl, HA, HJ18, HB⟩ := hcut
          cases kq with
          | zero => exact absurd HA.out (by simp [damasklaw04_ArithScaled.j1])
          | succ kj18 =>
            have H := HA.out
            clear HA
            simp only [damasklaw04_ArithScaled.j1] at H
            by_cases c21 : x52_18 = true
            · subst c21
              have H1 : (if t374 = 0 then (some true) else (if t374 = 13 then (some (t373 == 0)) else (some false))) = some r := by rw [if_pos rfl] at H; exact H
              clear H
              have H := H1
              clear H1
              by_cases c22 : t374 = 0
              · rw [if_pos c22] at H
                have c22b0 : (t374 == 0) = true := beq_iff_eq.mpr c22
                have c22b1 : (t374 != 0) = false := bne_eq_false_iff_eq.mpr c22
                clear c22
                obtain rfl := Option.some.inj H
                go_wp2
                repeat (go_quiet (fail); try go_wp2)
                go_ret
                exact ⟨by first | rfl | (simp [errW_none, errW_some] <;> rfl) | (simp [*, errW_none, errW_some] <;> rfl), by repeat (first | (with_reducible first | exact HB.out | apply below_alloc | apply pw_below_drewN | apply below_drew1) | exact HB.out)⟩
              · rw [if_neg c22] at H
                have c22b0 : (t374 == 0) = false := beq_eq_false_iff_ne.mpr c22
                have c22b1 : (t374 != 0) = true := bne_iff_ne.mpr c22
                by_cases c23 : t374 = 13
                · rw [if_pos c23] at H
                  have c23b0 : (t374 == 13) = true := beq_iff_eq.mpr c23
                  have c23b1 : (t374 != 13) = false := bne_eq_false_iff_eq.mpr c23
                  clear c23
                  obtain rfl := Option.some.inj H
                  go_wp2
                  repeat (go_quiet (fail); try go_wp2)
                  go_ret
                  exact ⟨by first | rfl | (simp [errW_none, errW_some] <;> rfl) | (simp [*, errW_none, errW_some] <;> rfl), by repeat (first | (with_reducible first | exact HB.out | apply below_alloc | apply pw_below_drewN | apply below_drew1) | exact HB.out)⟩
                · rw [if_neg c23] at H
                  have c23b0 : (t374 == 13) = false := beq_eq_false_iff_ne.mpr c23
                  have c23b1 : (t374 != 13) = true := bne_iff_ne.mpr c23
                  exact absurd hrT.out (by have h_ := Option.some.inj H; rw [← h_]; decide)
            · replace c21 := Bool.eq_false_iff.mpr c21
              subst c21
              have H1 : (if 0 ≤ (wrap64 (Int.tmod a2 63)) then (if (shr .i64 (wrap64 ((wrap64 (a0)) * (wrap64 (a1)))) (wrap64 (Int.tmod a2 63))) = (wrap64 (wrap32 (shr .i64 (wrap64 ((wrap64 (a0)) * (wrap64 (a1)))) (wrap64 (Int.tmod a2 63))))) then (if t374 = 0 then (some (t373 == (shr .i64 (wrap64 ((wrap64 (a0)) * (wrap64 (a1)))) (wrap64 (Int.tmod a2 63))))) else (some false)) else (if t374 = 13 then (some (t373 == 0)) else (some false))) else (none)) = some r := by rw [if_neg (show ¬ (false = true) by decide)] at H; exact H
              clear H
              have H := H1
              clear H1
              obtain ⟨ji24, hji24⟩ : ∃ j_ : Int, (wrap64 (Int.tmod a2 63)) = j_ := ⟨_, rfl⟩
              replace H : (if 0 ≤ (ji24) then (if (shr .i64 (wrap64 ((wrap64 (a0)) * (wrap64 (a1)))) (ji24)) = (wrap64 (wrap32 (shr .i64 (wrap64 ((wrap64 (a0)) * (wrap64 (a1)))) (ji24)))) then (if t374 = 0 then (some (t373 == (shr .i64 (wrap64 ((wrap64 (a0)) * (wrap64 (a1)))) (ji24)))) else (some false)) else (if t374 = 13 then (some (t373 == 0)) else (some false))) else (none)) = some r := by first | (rw [hji24] at H; exact H) | (simp only [hji24] at H ⊢; exact H)
              have hji24w : (IntKind.i64.wrap (Int.tmod a2 63)) = ji24 := (i64_w _).trans hji24
              by_cases c25 : 0 ≤ (ji24)
              · rw [if_pos c25] at H
                have c25b0 := eq_true c25
                have c25b1 : decide (0 ≤ (ji24)) = true := decide_eq_true c25
                clear c25
                obtain ⟨ji26, hji26⟩ : ∃ j_ : Int, (shr .i64 (wrap64 ((wrap64 (a0)) * (wrap64 (a1)))) (ji24)) = j_ := ⟨_, rfl⟩
                replace H : (if (ji26) = (wrap64 (wrap32 (ji26))) then (if t374 = 0 then (some (t373 == (ji26))) else (some false)) else (if t374 = 13 then (some (t373 == 0)) else (some false))) = some r := by first | (rw [hji26] at H; exact H) | (simp only [hji26] at H ⊢; exact H)
                have hji26_ : ((wrap64 ((wrap64 (a0)) * (wrap64 (a1)))) / 2 ^ min (ji24).toNat 64) = ji26 := hji26
                have hji26z : (ji24) ≤ 64 → ((wrap64 ((wrap64 (a0)) * (wrap64 (a1)))) / 2 ^ (ji24).toNat) = ji26 := shr_small hji26
                have c27b0 := eq_true (of_decide_eq_true (by first | (with_reducible assumption) | assumption) : 0 ≤ (ji24))
                by_cases c28 : (ji26) = (wrap64 (wrap32 (ji26)))
                · rw [if_pos c28] at H
                  have c28b0 : ((ji26) == (wrap64 (wrap32 (ji26)))) = true := beq_iff_eq.mpr c28
                  have c28b1 : ((ji26) != (wrap64 (wrap32 (ji26)))) = false := bne_eq_false_iff_eq.mpr c28
                  clear c28
                  by_cases c29 : t374 = 0
                  · rw [if_pos c29] at H
                    have c29b0 : (t374 == 0) = true := beq_iff_eq.mpr c29
                    have c29b1 : (t374 != 0) = false := bne_eq_false_iff_eq.mpr c29
                    clear c29
                    have c30b0 := eq_true (of_decide_eq_true (by first | (with_reducible assumption) | assumption) : 0 ≤ (ji24))
                    obtain rfl := Option.some.inj H
                    go_wp2
                    repeat (go_quiet (fail); try go_wp2)
                    go_ret
                    exact ⟨by first | rfl | (simp [errW_none, errW_some] <;> rfl) | (simp only [← hji24, ← hji26]; first | rfl | (simp [errW_none, errW_some] <;> rfl)) | (simp [*, errW_none, errW_some] <;> rfl), by repeat (first | (with_reducible first | exact HB.out | apply below_alloc | apply pw_below_drewN | apply below_drew1) | exact HB.out)⟩
                  · rw [if_neg c29] at H
                    have c29b0 : (t374 == 0) = false := beq_eq_false_iff_ne.mpr c29
                    have c29b1 : (t374 != 0) = true := bne_iff_ne.mpr c29
                    exact absurd hrT.out (by have h_ := Option.some.inj H; rw [← h_]; decide)
                · rw [if_neg c28] at H
                  have c28b0 : ((ji26) == (wrap64 (wrap32 (ji26)))) = false := beq_eq_false_iff_ne.mpr c28
                  have c28b1 : ((ji26) != (wrap64 (wrap32 (ji26)))) = true := bne_iff_ne.mpr c28
                  by_cases c31 : t374 = 13
                  · rw [if_pos c31] at H
                    have c31b0 : (t374 == 13) = true := beq_iff_eq.mpr c31
                    have c31b1 : (t374 != 13) = false := bne_eq_false_iff_eq.mpr c31
                    clear c31
                    obtain rfl := Option.some.inj H
                    go_wp2
                    repeat (go_quiet (fail); try go_wp2)
                    go_ret
                    exact ⟨by first | rfl | (simp [errW_none, errW_some] <;> rfl) | (simp only [← hji24, ← hji26]; first | rfl | (simp [errW_none, errW_some] <;> rfl)) | (simp [*, errW_none, errW_some] <;> rfl), by repeat (first | (with_reducible first | exact HB.out | apply below_alloc | apply pw_below_drewN | apply below_drew1) | exact HB.out)⟩
                  · rw [if_neg c31] at H
                    have c31b0 : (t374 == 13) = false := beq_eq_false_iff_ne.mpr c31
                    have c31b1 : (t374 != 13) = true := bne_iff_ne.mpr c31
                    exact absurd hrT.out (by have h_ := Option.some.inj H; rw [← h_]; decide)
              · rw [if_neg c25] at H
                exact absurd H (by simp)

/-- THE ONE PURE STATEMENT of damasklaw04_ArithScaled: yours. -/
def damasklaw04_ArithScaled.Pure : Prop := ∀ (a0 : Int) (a1 : Int) (a2 : Int), (Lit.int .i32 a0).wf = true → (Lit.int .u32 a1).wf = true → (Lit.int .u8 a2).wf = true → ∃ k, damasklaw04_ArithScaled.f k a0 a1 a2 = some true
theorem damasklaw04_ArithScaled.walk (P : damasklaw04_ArithScaled.Pure) (a0 : Int) (a1 : Int) (a2 : Int) (w : World) (w0 : (Lit.int .i32 a0).wf = true) (w1 : (Lit.int .u32 a1).wf = true) (w2 : (Lit.int .u8 a2).wf = true) :
    Calls Try.prog 9 #[.int .i32 a0, .int .u32 a1, .int .u8 a2] w fun e w' => e = .returned (.bool true) ∧ Below w.heap.size w w' := by
  obtain ⟨k, h⟩ := P a0 a1 a2 w0 w1 w2
  refine (damasklaw04_ArithScaled.calls k a0 a1 a2 true w rfl h).mono ?_
  rintro e w' ⟨rfl, hd⟩
  exact ⟨rfl, hd⟩

end Go.Proofs.Ytpnldhimlpilhaa.F
