/- Written by wip/myprint.py of this session, out of Lean's print of the program: what Go functions come to, and that their calls come to it; no condition. -/
import Derived.Test.YtpnldhimlpilhaaF0
import Derived.Test.YtpnldhimlpilhaaFarith3
import Derived.Test.YtpnldhimlpilhaaFdamasklaw041
namespace Go.Proofs.Ytpnldhimlpilhaa.F
open Go.RowKit Go.Proofs.YtpnldhimlpilhaaW.PrintWords Go.Proofs.YtpnldhimlpilhaaW.PrintLast Go.Proofs.YtpnldhimlpilhaaW.PrintMore Go.Proofs.YtpnldhimlpilhaaW
attribute [local go_sem] max2_int min2_int max_two min_two max_three min_three max_four min_four   -- for this text's walks alone
set_option linter.unusedVariables false
set_option linter.unusedSimpArgs false

/-! ### damasklaw04_ArithShifts: function 6 -/
mutual
def damasklaw04_ArithShifts.j0 : Nat → Int → Int → Int → Int → Bool → Option (Bool)
  | 0, _, _, _, _, _ => none
  | k + 1, x5, x6, x7, x8, x46 => if x46 = true then (some false) else (if 0 ≤ x6 then (if (shl .i64 x5 x6) = (wrap64 (wrap32 (shl .i64 x5 x6))) then (if x8 = 0 then (damasklaw04_ArithShifts.j1 k x5 x6 x7 true false) else (damasklaw04_ArithShifts.j1 k x5 x6 x7 true true)) else (if x8 = 0 then (damasklaw04_ArithShifts.j3 k x5 x6 x7 false true) else (damasklaw04_ArithShifts.j3 k x5 x6 x7 false (x8 != 13)))) else (none))
def damasklaw04_ArithShifts.j1 : Nat → Int → Int → Int → Bool → Bool → Option (Bool)
  | 0, _, _, _, _, _ => none
  | k + 1, x5, x6, x7, x11, x67 => if x67 = true then (some false) else (if x11 = true then ((arith_Value.f k 30 x6 0 (([x7] : List Int))).bind fun bt261 => (if bt261.2 = 0 then (if bt261.1 = x5 then (if 0 ≤ x6 then (damasklaw04_ArithShifts.j2 k x5 x6 (x7 != (wrap64 (x5 * (shl .i64 1 x6))))) else (none)) else (damasklaw04_ArithShifts.j2 k x5 x6 true)) else (damasklaw04_ArithShifts.j2 k x5 x6 true))) else ((arith_Value.f k 14 0 0 (([x5, x6] : List Int))).bind fun bt276 => ((arith_Value.f k 30 x6 0 (([x5] : List Int))).bind fun bt281 => (if bt276.2 = 0 then (if bt281.2 = 0 then (if bt276.1 = bt281.1 then (if 0 ≤ x6 then (if (wrap64 (bt276.1 * (shl .i64 1 x6))) ≤ x5 then (if x5 < (wrap64 ((wrap64 (bt276.1 + 1)) * (shl .i64 1 x6))) then (some true) else (some false)) else (some false)) else (none)) else (some false)) else (some false)) else (some false)))))
def damasklaw04_ArithShifts.j2 : Nat → Int → Int → Bool → Option (Bool)
  | 0, _, _, _ => none
  | k + 1, x5, x6, x90 => if x90 = true then (some false) else ((arith_Value.f k 14 0 0 (([x5, x6] : List Int))).bind fun bt266 => ((arith_Value.f k 30 x6 0 (([x5] : List Int))).bind fun bt271 => (if bt266.2 = 0 then (if bt271.2 = 0 then (if bt266.1 = bt271.1 then (if 0 ≤ x6 then (if (wrap64 (bt266.1 * (shl .i64 1 x6))) ≤ x5 then (if x5 < (wrap64 ((wrap64 (bt266.1 + 1)) * (shl .i64 1 x6))) then (some true) else (some false)) else (some false)) else (none)) else (some false)) else (some false)) else (some false))))
def damasklaw04_ArithShifts.j3 : Nat → Int → Int → Int → Bool → Bool → Option (Bool)
  | 0, _, _, _, _, _ => none
  | k + 1, x5, x6, x7, x11, x67 => if x67 = true then (some false) else (if x11 = true then ((arith_Value.f k 30 x6 0 (([x7] : List Int))).bind fun bt286 => (if bt286.2 = 0 then (if bt286.1 = x5 then (if 0 ≤ x6 then (damasklaw04_ArithShifts.j4 k x5 x6 (x7 != (wrap64 (x5 * (shl .i64 1 x6))))) else (none)) else (damasklaw04_ArithShifts.j4 k x5 x6 true)) else (damasklaw04_ArithShifts.j4 k x5 x6 true))) else ((arith_Value.f k 14 0 0 (([x5, x6] : List Int))).bind fun bt301 => ((arith_Value.f k 30 x6 0 (([x5] : List Int))).bind fun bt306 => (if bt301.2 = 0 then (if bt306.2 = 0 then (if bt301.1 = bt306.1 then (if 0 ≤ x6 then (if (wrap64 (bt301.1 * (shl .i64 1 x6))) ≤ x5 then (if x5 < (wrap64 ((wrap64 (bt301.1 + 1)) * (shl .i64 1 x6))) then (some true) else (some false)) else (some false)) else (none)) else (some false)) else (some false)) else (some false)))))
def damasklaw04_ArithShifts.j4 : Nat → Int → Int → Bool → Option (Bool)
  | 0, _, _, _ => none
  | k + 1, x5, x6, x90 => if x90 = true then (some false) else ((arith_Value.f k 14 0 0 (([x5, x6] : List Int))).bind fun bt291 => ((arith_Value.f k 30 x6 0 (([x5] : List Int))).bind fun bt296 => (if bt291.2 = 0 then (if bt296.2 = 0 then (if bt291.1 = bt296.1 then (if 0 ≤ x6 then (if (wrap64 (bt291.1 * (shl .i64 1 x6))) ≤ x5 then (if x5 < (wrap64 ((wrap64 (bt291.1 + 1)) * (shl .i64 1 x6))) then (some true) else (some false)) else (some false)) else (none)) else (some false)) else (some false)) else (some false))))
end
def damasklaw04_ArithShifts.f (k : Nat) (a0 : Int) (a1 : Int) : Option (Bool) := (arith_Value.f k 13 0 0 (([wrap64 (a0), wrap64 (Int.tmod a1 32)] : List Int))).bind fun bt250 => ((arith_Value.f k 29 (wrap64 (Int.tmod a1 32)) 0 (([wrap64 (a0)] : List Int))).bind fun bt255 => ((damasklaw04_awake.f k).bind fun t257 => (if t257 = true then (if bt250.1 = bt255.1 then (damasklaw04_ArithShifts.j0 k (wrap64 (a0)) (wrap64 (Int.tmod a1 32)) bt250.1 bt250.2 (bt250.2 != bt255.2)) else (damasklaw04_ArithShifts.j0 k (wrap64 (a0)) (wrap64 (Int.tmod a1 32)) bt250.1 bt250.2 true)) else (damasklaw04_ArithShifts.j0 k (wrap64 (a0)) (wrap64 (Int.tmod a1 32)) bt250.1 bt250.2 true))))
theorem damasklaw04_ArithShifts.mono_l : ∀ k, (∀ y0 y1 y2 y3 y4, LeO (damasklaw04_ArithShifts.j0 k y0 y1 y2 y3 y4) (damasklaw04_ArithShifts.j0 (k + 1) y0 y1 y2 y3 y4)) ∧ (∀ y0 y1 y2 y3 y4, LeO (damasklaw04_ArithShifts.j1 k y0 y1 y2 y3 y4) (damasklaw04_ArithShifts.j1 (k + 1) y0 y1 y2 y3 y4)) ∧ (∀ y0 y1 y2, LeO (damasklaw04_ArithShifts.j2 k y0 y1 y2) (damasklaw04_ArithShifts.j2 (k + 1) y0 y1 y2)) ∧ (∀ y0 y1 y2 y3 y4, LeO (damasklaw04_ArithShifts.j3 k y0 y1 y2 y3 y4) (damasklaw04_ArithShifts.j3 (k + 1) y0 y1 y2 y3 y4)) ∧ (∀ y0 y1 y2, LeO (damasklaw04_ArithShifts.j4 k y0 y1 y2) (damasklaw04_ArithShifts.j4 (k + 1) y0 y1 y2))
  | 0 => ⟨fun _ _ _ _ _ r h => by simp [damasklaw04_ArithShifts.j0] at h, fun _ _ _ _ _ r h => by simp [damasklaw04_ArithShifts.j1] at h, fun _ _ _ r h => by simp [damasklaw04_ArithShifts.j2] at h, fun _ _ _ _ _ r h => by simp [damasklaw04_ArithShifts.j3] at h, fun _ _ _ r h => by simp [damasklaw04_ArithShifts.j4] at h⟩
  | k + 1 => by
    obtain ⟨ih0, ih1, ih2, ih3, ih4⟩ := damasklaw04_ArithShifts.mono_l k
    refine ⟨?_, ?_, ?_, ?_, ?_⟩
    · intro y0 y1 y2 y3 y4
      unfold damasklaw04_ArithShifts.j0
      repeat' first
      | (with_reducible exact ih0 _ _ _ _ _)
      | (with_reducible exact ih1 _ _ _ _ _)
      | (with_reducible exact ih2 _ _ _)
      | (with_reducible exact ih3 _ _ _ _ _)
      | (with_reducible exact ih4 _ _ _)
      | (with_reducible exact arith_Value.mono _ _ _ _ _)
      | (with_reducible exact damasklaw04_awake.mono _)
      | (with_reducible exact LeO.refl _)
      | (with_reducible exact LeO.none _)
      | (with_reducible refine LeO.ite ?_ ?_)
      | (with_reducible refine LeO.bind ?_ (fun _ => ?_))
      | exact ih0 _ _ _ _ _
      | exact ih1 _ _ _ _ _
      | exact ih2 _ _ _
      | exact ih3 _ _ _ _ _
      | exact ih4 _ _ _
      | exact arith_Value.mono _ _ _ _ _
      | exact damasklaw04_awake.mono _
      | exact LeO.none _
      | refine LeO.ite ?_ ?_
      | refine LeO.bind ?_ (fun _ => ?_)
    · intro y0 y1 y2 y3 y4
      unfold damasklaw04_ArithShifts.j1
      repeat' first
      | (with_reducible exact ih0 _ _ _ _ _)
      | (with_reducible exact ih1 _ _ _ _ _)
      | (with_reducible exact ih2 _ _ _)
      | (with_reducible exact ih3 _ _ _ _ _)
      | (with_reducible exact ih4 _ _ _)
      | (with_reducible exact arith_Value.mono _ _ _ _ _)
      | (with_reducible exact damasklaw04_awake.mono _)
      | (with_reducible exact LeO.refl _)
      | (with_reducible exact LeO.none _)
      | (with_reducible refine LeO.ite ?_ ?_)
      | (with_reducible refine LeO.bind ?_ (fun _ => ?_))
      | exact ih0 _ _ _ _ _
      | exact ih1 _ _ _ _ _
      | exact ih2 _ _ _
      | exact ih3 _ _ _ _ _
      | exact ih4 _ _ _
      | exact arith_Value.mono _ _ _ _ _
      | exact damasklaw04_awake.mono _
      | exact LeO.none _
      | refine LeO.ite ?_ ?_
      | refine LeO.bind ?_ (fun _ => ?_)
    · intro y0 y1 y2
      unfold damasklaw04_ArithShifts.j2
      repeat' first
      | (with_reducible exact ih0 _ _ _ _ _)
      | (with_reducible exact ih1 _ _ _ _ _)
      | (with_reducible exact ih2 _ _ _)
      | (with_reducible exact ih3 _ _ _ _ _)
      | (with_reducible exact ih4 _ _ _)
      | (with_reducible exact arith_Value.mono _ _ _ _ _)
      | (with_reducible exact damasklaw04_awake.mono _)
      | (with_reducible exact LeO.refl _)
      | (with_reducible exact LeO.none _)
      | (with_reducible refine LeO.ite ?_ ?_)
      | (with_reducible refine LeO.bind ?_ (fun _ => ?_))
      | exact ih0 _ _ _ _ _
      | exact ih1 _ _ _ _ _
      | exact ih2 _ _ _
      | exact ih3 _ _ _ _ _
      | exact ih4 _ _ _
      | exact arith_Value.mono _ _ _ _ _
      | exact damasklaw04_awake.mono _
      | exact LeO.none _
      | refine LeO.ite ?_ ?_
      | refine LeO.bind ?_ (fun _ => ?_)
    · intro y0 y1 y2 y3 y4
      unfold damasklaw04_ArithShifts.j3
      repeat' first
      | (with_reducible exact ih0 _ _ _ _ _)
      | (with_reducible exact ih1 _ _ _ _ _)
      | (with_reducible exact ih2 _ _ _)
      | (with_reducible exact ih3 _ _ _ _ _)
      | (with_reducible exact ih4 _ _ _)
      | (with_reducible exact arith_Value.mono _ _ _ _ _)
      | (with_reducible exact damasklaw04_awake.mono _)
      | (with_reducible exact LeO.refl _)
      | (with_reducible exact LeO.none _)
      | (with_reducible refine LeO.ite ?_ ?_)
      | (with_reducible refine LeO.bind ?_ (fun _ => ?_))
      | exact ih0 _ _ _ _ _
      | exact ih1 _ _ _ _ _
      | exact ih2 _ _ _
      | exact ih3 _ _ _ _ _
      | exact ih4 _ _ _
      | exact arith_Value.mono _ _ _ _ _
      | exact damasklaw04_awake.mono _
      | exact LeO.none _
      | refine LeO.ite ?_ ?_
      | refine LeO.bind ?_ (fun _ => ?_)
    · intro y0 y1 y2
      unfold damasklaw04_ArithShifts.j4
      repeat' first
      | (with_reducible exact ih0 _ _ _ _ _)
      | (with_reducible exact ih1 _ _ _ _ _)
      | (with_reducible exact ih2 _ _ _)
      | (with_reducible exact ih3 _ _ _ _ _)
      | (with_reducible exact ih4 _ _ _)
      | (with_reducible exact arith_Value.mono _ _ _ _ _)
      | (with_reducible exact damasklaw04_awake.mono _)
      | (with_reducible exact LeO.refl _)
      | (with_reducible exact LeO.none _)
      | (with_reducible refine LeO.ite ?_ ?_)
      | (with_reducible refine LeO.bind ?_ (fun _ => ?_))
      | exact ih0 _ _ _ _ _
      | exact ih1 _ _ _ _ _
      | exact ih2 _ _ _
      | exact ih3 _ _ _ _ _
      | exact ih4 _ _ _
      | exact arith_Value.mono _ _ _ _ _
      | exact damasklaw04_awake.mono _
      | exact LeO.none _
      | refine LeO.ite ?_ ?_
      | refine LeO.bind ?_ (fun _ => ?_)
theorem damasklaw04_ArithShifts.mono : ∀ a0 a1 k, LeO (damasklaw04_ArithShifts.f k a0 a1) (damasklaw04_ArithShifts.f (k + 1) a0 a1) := by
  intro a0 a1 k
  obtain ⟨ih0, ih1, ih2, ih3, ih4⟩ := damasklaw04_ArithShifts.mono_l k
  unfold damasklaw04_ArithShifts.f
  repeat' first
      | (with_reducible exact ih0 _ _ _ _ _)
      | (with_reducible exact ih1 _ _ _ _ _)
      | (with_reducible exact ih2 _ _ _)
      | (with_reducible exact ih3 _ _ _ _ _)
      | (with_reducible exact ih4 _ _ _)
      | (with_reducible exact arith_Value.mono _ _ _ _ _)
      | (with_reducible exact damasklaw04_awake.mono _)
      | (with_reducible exact LeO.refl _)
      | (with_reducible exact LeO.none _)
      | (with_reducible refine LeO.ite ?_ ?_)
      | (with_reducible refine LeO.bind ?_ (fun _ => ?_))
      | exact ih0 _ _ _ _ _
      | exact ih1 _ _ _ _ _
      | exact ih2 _ _ _
      | exact ih3 _ _ _ _ _
      | exact ih4 _ _ _
      | exact arith_Value.mono _ _ _ _ _
      | exact damasklaw04_awake.mono _
      | exact LeO.none _
      | refine LeO.ite ?_ ?_
      | refine LeO.bind ?_ (fun _ => ?_)
set_option maxHeartbeats 8000000 in
set_option maxRecDepth 100000 in
theorem damasklaw04_ArithShifts.calls (k : Nat) (a0 : Int) (a1 : Int) (r : Bool) (w : World) (hrT0 : r = true) (h : damasklaw04_ArithShifts.f k a0 a1 = some r) :
    Calls Try.prog 6 #[.int .i32 a0, .int .u8 a1] w fun e w' => e = .returned (.bool r) ∧ Below w.heap.size w w' := by
  have HB := Aside0.mk (Below.refl w.heap.size w)
  have hrT := Aside0.mk hrT0
  clear hrT0
  have H : ((arith_Value.f k 13 0 0 (([wrap64 (a0), wrap64 (Int.tmod a1 32)] : List Int))).bind fun bt250 => ((arith_Value.f k 29 (wrap64 (Int.tmod a1 32)) 0 (([wrap64 (a0)] : List Int))).bind fun bt255 => ((damasklaw04_awake.f k).bind fun t257 => (if t257 = true then (if bt250.1 = bt255.1 then (damasklaw04_ArithShifts.j0 k (wrap64 (a0)) (wrap64 (Int.tmod a1 32)) bt250.1 bt250.2 (bt250.2 != bt255.2)) else (damasklaw04_ArithShifts.j0 k (wrap64 (a0)) (wrap64 (Int.tmod a1 32)) bt250.1 bt250.2 true)) else (damasklaw04_ArithShifts.j0 k (wrap64 (a0)) (wrap64 (Int.tmod a1 32)) bt250.1 bt250.2 true))))) = some r := h
  clear h
  obtain ⟨y247, hy247⟩ : ∃ y_ : List Int, y_ = (([wrap64 (a0), wrap64 (Int.tmod a1 32)] : List Int)) := ⟨_, rfl⟩
  replace H : ((arith_Value.f k 13 0 0 y247).bind fun bt250 => ((arith_Value.f k 29 (wrap64 (Int.tmod a1 32)) 0 (([wrap64 (a0)] : List Int))).bind fun bt255 => ((damasklaw04_awake.f k).bind fun t257 => (if t257 = true then (if bt250.1 = bt255.1 then (damasklaw04_ArithShifts.j0 k (wrap64 (a0)) (wrap64 (Int.tmod a1 32)) bt250.1 bt250.2 (bt250.2 != bt255.2)) else (damasklaw04_ArithShifts.j0 k (wrap64 (a0)) (wrap64 (Int.tmod a1 32)) bt250.1 bt250.2 true)) else (damasklaw04_ArithShifts.j0 k (wrap64 (a0)) (wrap64 (Int.tmod a1 32)) bt250.1 bt250.2 true))))) = some r := by first | (rw [hy247]; with_reducible exact H) | (have H2_ := (Option.bind_some _ _).symm.trans H; rw [hy247]; with_reducible exact H2_) | (have H2_ := (Option.bind_some _ _).symm.trans H; with_reducible exact H2_) | with_reducible exact H | (rw [hy247]; exact H) | exact H
  have Ny247 := Aside0.mk hy247
  clear hy247
  replace H := Option.bind_eq_some_iff.mp H
  obtain ⟨⟨t250, t251⟩, A30, H⟩ := H
  replace H : ((arith_Value.f k 29 (wrap64 (Int.tmod a1 32)) 0 (([wrap64 (a0)] : List Int))).bind fun bt255 => ((damasklaw04_awake.f k).bind fun t257 => (if t257 = true then (if t250 = bt255.1 then (damasklaw04_ArithShifts.j0 k (wrap64 (a0)) (wrap64 (Int.tmod a1 32)) t250 t251 (t251 != bt255.2)) else (damasklaw04_ArithShifts.j0 k (wrap64 (a0)) (wrap64 (Int.tmod a1 32)) t250 t251 true)) else (damasklaw04_ArithShifts.j0 k (wrap64 (a0)) (wrap64 (Int.tmod a1 32)) t250 t251 true)))) = some r := H
  have A3 := Aside0.mk A30
  clear A30
  obtain ⟨y252, hy252⟩ : ∃ y_ : List Int, y_ = (([wrap64 (a0)] : List Int)) := ⟨_, rfl⟩
  replace H : ((arith_Value.f k 29 (wrap64 (Int.tmod a1 32)) 0 y252).bind fun bt255 => ((damasklaw04_awake.f k).bind fun t257 => (if t257 = true then (if t250 = bt255.1 then (damasklaw04_ArithShifts.j0 k (wrap64 (a0)) (wrap64 (Int.tmod a1 32)) t250 t251 (t251 != bt255.2)) else (damasklaw04_ArithShifts.j0 k (wrap64 (a0)) (wrap64 (Int.tmod a1 32)) t250 t251 true)) else (damasklaw04_ArithShifts.j0 k (wrap64 (a0)) (wrap64 (Int.tmod a1 32)) t250 t251 true)))) = some r := by first | (rw [hy252]; with_reducible exact H) | (have H2_ := (Option.bind_some _ _).symm.trans H; rw [hy252]; with_reducible exact H2_) | (have H2_ := (Option.bind_some _ _).symm.trans H; with_reducible exact H2_) | with_reducible exact H | (rw [hy252]; exact H) | exact H
  have Ny252 := Aside0.mk hy252
  clear hy252
  replace H := Option.bind_eq_some_iff.mp H
  obtain ⟨⟨t255, t256⟩, A40, H⟩ := H
  replace H : ((damasklaw04_awake.f k).bind fun t257 => (if t257 = true then (if t250 = t255 then (damasklaw04_ArithShifts.j0 k (wrap64 (a0)) (wrap64 (Int.tmod a1 32)) t250 t251 (t251 != t256)) else (damasklaw04_ArithShifts.j0 k (wrap64 (a0)) (wrap64 (Int.tmod a1 32)) t250 t251 true)) else (damasklaw04_ArithShifts.j0 k (wrap64 (a0)) (wrap64 (Int.tmod a1 32)) t250 t251 true))) = some r := H
  have A4 := Aside0.mk A40
  clear A40
  have HC5 := Aside0.mk H
  clear H
  go_enter Try.func6, Try.ntmps6
  go_upto_region 4 with (first | ((with_reducible refine gate_dst (N := 24) rfl ?_); refine Kd.R_lit (Kd.int .i64) _ 3 ?hg (N := 24) ?hd (xs := ([wrap64 (a0), wrap64 (Int.tmod a1 32)] : List Int)) (inner := [.int .i64 (wrap64 (a0)), .int .i64 (wrap64 (Int.tmod a1 32))]) (ok := fun _ => True) (okp := fun _ => True) ?hr ?hp (fun _ hk => hk) trivial (Below.refl _ _) (Nat.le_refl _) (by simp) ?_; (case hd => rfl); (case hg => rfl); (case hr => first | (go_simp; done) | (go_simp; rfl)); (case hp => exact (Reps.one (show Kd.M (Kd.int .i64) _ _ _ (wrap64 (a0)) [.int .i64 (wrap64 (a0))] from rfl) (Reps.one (show Kd.M (Kd.int .i64) _ _ _ (wrap64 (Int.tmod a1 32)) [.int .i64 (wrap64 (Int.tmod a1 32))] from rfl) (Reps.none _ _)))); intro v248 w6 ho7 hb hg_ hnew_; clear hg_ hnew_; (first | rw [← Ny247.out] at ho7 | (simp only [Int.reduceToNat] at ho7; rw [← Ny247.out] at ho7)); have n0_ := Aside0.mk (Kd.R_lower ho7 (below_size (by repeat (first | (with_reducible first | exact HB.out | apply below_alloc | apply pw_below_drewN | apply below_drew1) | exact HB.out)))); have n1_ := Aside0.mk (below_step (by repeat (first | (with_reducible first | exact HB.out | apply below_alloc | apply pw_below_drewN | apply below_drew1) | exact HB.out)) hb); clear HB; have HO249 := n0_; have HB := n1_; clear n0_ n1_; clear hb ho7; obtain ⟨Ao8, co8, eo8⟩ := Kd.R_slice HO249.out; subst eo8) | (go_at_call 23; (with_reducible refine (arith_Value.calls k 13 0 0 _ _ y247 t250 t251 _ ?side1 ?side2 A3.out).mono ?_); (case side1 => repeat (first | exact (Kd.R_reads' HO249.out).2.2 | (with_reducible refine Kd.C_alloc ?_ _) | (with_reducible refine Kd.C_drewN ?_ _) | (with_reducible refine Kd.C_drew ?_))); (case side2 => exact (Kd.R_reads' HO249.out).2.1); rintro e w9 ⟨rfl, hb⟩; have n0_ := Aside0.mk (Kd.R_below (by (with_reducible repeat (first | apply Kd.R_alloc | apply Kd.R_drewN | apply Kd.R_drew)); exact HO249.out) hb); have n1_ := Aside0.mk (below_step (by repeat (first | (with_reducible first | exact HB.out | apply below_alloc | apply pw_below_drewN | apply below_drew1) | exact HB.out)) hb); clear HO249; clear HB; have HO249 := n0_; have HB := n1_; clear n0_ n1_; (try clear hb); (try clear hb2); (try clear hk); (try clear hi)) | ((with_reducible refine gate_dst (N := 31) rfl ?_); refine Kd.R_lit (Kd.int .i64) _ 3 ?hg (N := 31) ?hd (xs := ([wrap64 (a0)] : List Int)) (inner := [.int .i64 (wrap64 (a0))]) (ok := fun _ => True) (okp := fun _ => True) ?hr ?hp (fun _ hk => hk) trivial (Below.refl _ _) (Nat.le_refl _) (by simp) ?_; (case hd => rfl); (case hg => rfl); (case hr => first | (go_simp; done) | (go_simp; rfl)); (case hp => exact (Reps.one (show Kd.M (Kd.int .i64) _ _ _ (wrap64 (a0)) [.int .i64 (wrap64 (a0))] from rfl) (Reps.none _ _))); intro v253 w10 ho11 hb hg_ hnew_; clear hg_ hnew_; (first | rw [← Ny252.out] at ho11 | (simp only [Int.reduceToNat] at ho11; rw [← Ny252.out] at ho11)); have n0_ := Aside0.mk (Kd.R_elder' (by (with_reducible repeat (first | apply Kd.R_alloc | apply Kd.R_drewN | apply Kd.R_drew)); exact HO249.out) (Kd.R_base ho11) hb); have n1_ := Aside0.mk (Kd.R_lower (Kd.R_new' ho11 (Kd.R_lt (by (with_reducible repeat (first | apply Kd.R_alloc | apply Kd.R_drewN | apply Kd.R_drew)); exact HO249.out))) (below_size (by repeat (first | (with_reducible first | exact HB.out | apply below_alloc | apply pw_below_drewN | apply below_drew1) | exact HB.out)))); have n2_ := Aside0.mk (below_step (by repeat (first | (with_reducible first | exact HB.out | apply below_alloc | apply pw_below_drewN | apply below_drew1) | exact HB.out)) hb); clear HO249; clear HB; have HO249 := n0_; have HO254 := n1_; have HB := n2_; clear n0_ n1_ n2_; clear hb ho11; obtain ⟨Ao12, co12, eo12⟩ := Kd.R_slice HO254.out; subst eo12) | (go_at_call 23; (with_reducible refine (arith_Value.calls k 29 (wrap64 (Int.tmod a1 32)) 0 _ _ y252 t255 t256 _ ?side1 ?side2 A4.out).mono ?_); (case side1 => repeat (first | exact (Kd.R_reads' HO254.out).2.2 | (with_reducible refine Kd.C_alloc ?_ _) | (with_reducible refine Kd.C_drewN ?_ _) | (with_reducible refine Kd.C_drew ?_))); (case side2 => exact (Kd.R_reads' HO254.out).2.1); rintro e w13 ⟨rfl, hb⟩; have n0_ := Aside0.mk (Kd.R_below (by (with_reducible repeat (first | apply Kd.R_alloc | apply Kd.R_drewN | apply Kd.R_drew)); exact HO249.out) hb); have n1_ := Aside0.mk (Kd.R_below (by (with_reducible repeat (first | apply Kd.R_alloc | apply Kd.R_drewN | apply Kd.R_drew)); exact HO254.out) hb); have n2_ := Aside0.mk (below_step (by repeat (first | (with_reducible first | exact HB.out | apply below_alloc | apply pw_below_drewN | apply below_drew1) | exact HB.out)) hb); clear HO249; clear HO254; clear HB; have HO249 := n0_; have HO254 := n1_; have HB := n2_; clear n0_ n1_ n2_; (try clear hb); (try clear hb2); (try clear hk); (try clear hi)))
  repeat (go_quiet (first | ((with_reducible refine gate_dst (N := 24) rfl ?_); refine Kd.R_lit (Kd.int .i64) _ 3 ?hg (N := 24) ?hd (xs := ([wrap64 (a0), wrap64 (Int.tmod a1 32)] : List Int)) (inner := [.int .i64 (wrap64 (a0)), .int .i64 (wrap64 (Int.tmod a1 32))]) (ok := fun _ => True) (okp := fun _ => True) ?hr ?hp (fun _ hk => hk) trivial (Below.refl _ _) (Nat.le_refl _) (by simp) ?_; (case hd => rfl); (case hg => rfl); (case hr => first | (go_simp; done) | (go_simp; rfl)); (case hp => exact (Reps.one (show Kd.M (Kd.int .i64) _ _ _ (wrap64 (a0)) [.int .i64 (wrap64 (a0))] from rfl) (Reps.one (show Kd.M (Kd.int .i64) _ _ _ (wrap64 (Int.tmod a1 32)) [.int .i64 (wrap64 (Int.tmod a1 32))] from rfl) (Reps.none _ _)))); intro v248 w6 ho7 hb hg_ hnew_; clear hg_ hnew_; (first | rw [← Ny247.out] at ho7 | (simp only [Int.reduceToNat] at ho7; rw [← Ny247.out] at ho7)); have n0_ := Aside0.mk (Kd.R_lower ho7 (below_size (by repeat (first | (with_reducible first | exact HB.out | apply below_alloc | apply pw_below_drewN | apply below_drew1) | exact HB.out)))); have n1_ := Aside0.mk (below_step (by repeat (first | (with_reducible first | exact HB.out | apply below_alloc | apply pw_below_drewN | apply below_drew1) | exact HB.out)) hb); clear HB; have HO249 := n0_; have HB := n1_; clear n0_ n1_; clear hb ho7; obtain ⟨Ao8, co8, eo8⟩ := Kd.R_slice HO249.out; subst eo8) | (go_at_call 23; (with_reducible refine (arith_Value.calls k 13 0 0 _ _ y247 t250 t251 _ ?side1 ?side2 A3.out).mono ?_); (case side1 => repeat (first | exact (Kd.R_reads' HO249.out).2.2 | (with_reducible refine Kd.C_alloc ?_ _) | (with_reducible refine Kd.C_drewN ?_ _) | (with_reducible refine Kd.C_drew ?_))); (case side2 => exact (Kd.R_reads' HO249.out).2.1); rintro e w9 ⟨rfl, hb⟩; have n0_ := Aside0.mk (Kd.R_below (by (with_reducible repeat (first | apply Kd.R_alloc | apply Kd.R_drewN | apply Kd.R_drew)); exact HO249.out) hb); have n1_ := Aside0.mk (below_step (by repeat (first | (with_reducible first | exact HB.out | apply below_alloc | apply pw_below_drewN | apply below_drew1) | exact HB.out)) hb); clear HO249; clear HB; have HO249 := n0_; have HB := n1_; clear n0_ n1_; (try clear hb); (try clear hb2); (try clear hk); (try clear hi)) | ((with_reducible refine gate_dst (N := 31) rfl ?_); refine Kd.R_lit (Kd.int .i64) _ 3 ?hg (N := 31) ?hd (xs := ([wrap64 (a0)] : List Int)) (inner := [.int .i64 (wrap64 (a0))]) (ok := fun _ => True) (okp := fun _ => True) ?hr ?hp (fun _ hk => hk) trivial (Below.refl _ _) (Nat.le_refl _) (by simp) ?_; (case hd => rfl); (case hg => rfl); (case hr => first | (go_simp; done) | (go_simp; rfl)); (case hp => exact (Reps.one (show Kd.M (Kd.int .i64) _ _ _ (wrap64 (a0)) [.int .i64 (wrap64 (a0))] from rfl) (Reps.none _ _))); intro v253 w10 ho11 hb hg_ hnew_; clear hg_ hnew_; (first | rw [← Ny252.out] at ho11 | (simp only [Int.reduceToNat] at ho11; rw [← Ny252.out] at ho11)); have n0_ := Aside0.mk (Kd.R_elder' (by (with_reducible repeat (first | apply Kd.R_alloc | apply Kd.R_drewN | apply Kd.R_drew)); exact HO249.out) (Kd.R_base ho11) hb); have n1_ := Aside0.mk (Kd.R_lower (Kd.R_new' ho11 (Kd.R_lt (by (with_reducible repeat (first | apply Kd.R_alloc | apply Kd.R_drewN | apply Kd.R_drew)); exact HO249.out))) (below_size (by repeat (first | (with_reducible first | exact HB.out | apply below_alloc | apply pw_below_drewN | apply below_drew1) | exact HB.out)))); have n2_ := Aside0.mk (below_step (by repeat (first | (with_reducible first | exact HB.out | apply below_alloc | apply pw_below_drewN | apply below_drew1) | exact HB.out)) hb); clear HO249; clear HB; have HO249 := n0_; have HO254 := n1_; have HB := n2_; clear n0_ n1_ n2_; clear hb ho11; obtain ⟨Ao12, co12, eo12⟩ := Kd.R_slice HO254.out; subst eo12) | (go_at_call 23; (with_reducible refine (arith_Value.calls k 29 (wrap64 (Int.tmod a1 32)) 0 _ _ y252 t255 t256 _ ?side1 ?side2 A4.out).mono ?_); (case side1 => repeat (first | exact (Kd.R_reads' HO254.out).2.2 | (with_reducible refine Kd.C_alloc ?_ _) | (with_reducible refine Kd.C_drewN ?_ _) | (with_reducible refine Kd.C_drew ?_))); (case side2 => exact (Kd.R_reads' HO254.out).2.1); rintro e w13 ⟨rfl, hb⟩; have n0_ := Aside0.mk (Kd.R_below (by (with_reducible repeat (first | apply Kd.R_alloc | apply Kd.R_drewN | apply Kd.R_drew)); exact HO249.out) hb); have n1_ := Aside0.mk (Kd.R_below (by (with_reducible repeat (first | apply Kd.R_alloc | apply Kd.R_drewN | apply Kd.R_drew)); exact HO254.out) hb); have n2_ := Aside0.mk (below_step (by repeat (first | (with_reducible first | exact HB.out | apply below_alloc | apply pw_below_drewN | apply below_drew1) | exact HB.out)) hb); clear HO249; clear HO254; clear HB; have HO249 := n0_; have HO254 := n1_; have HB := n2_; clear n0_ n1_ n2_; (try clear hb); (try clear hb2); (try clear hk); (try clear hi))); go_upto_region 4 with (first | ((with_reducible refine gate_dst (N := 24) rfl ?_); refine Kd.R_lit (Kd.int .i64) _ 3 ?hg (N := 24) ?hd (xs := ([wrap64 (a0), wrap64 (Int.tmod a1 32)] : List Int)) (inner := [.int .i64 (wrap64 (a0)), .int .i64 (wrap64 (Int.tmod a1 32))]) (ok := fun _ => True) (okp := fun _ => True) ?hr ?hp (fun _ hk => hk) trivial (Below.refl _ _) (Nat.le_refl _) (by simp) ?_; (case hd => rfl); (case hg => rfl); (case hr => first | (go_simp; done) | (go_simp; rfl)); (case hp => exact (Reps.one (show Kd.M (Kd.int .i64) _ _ _ (wrap64 (a0)) [.int .i64 (wrap64 (a0))] from rfl) (Reps.one (show Kd.M (Kd.int .i64) _ _ _ (wrap64 (Int.tmod a1 32)) [.int .i64 (wrap64 (Int.tmod a1 32))] from rfl) (Reps.none _ _)))); intro v248 w6 ho7 hb hg_ hnew_; clear hg_ hnew_; (first | rw [← Ny247.out] at ho7 | (simp only [Int.reduceToNat] at ho7; rw [← Ny247.out] at ho7)); have n0_ := Aside0.mk (Kd.R_lower ho7 (below_size (by repeat (first | (with_reducible first | exact HB.out | apply below_alloc | apply pw_below_drewN | apply below_drew1) | exact HB.out)))); have n1_ := Aside0.mk (below_step (by repeat (first | (with_reducible first | exact HB.out | apply below_alloc | apply pw_below_drewN | apply below_drew1) | exact HB.out)) hb); clear HB; have HO249 := n0_; have HB := n1_; clear n0_ n1_; clear hb ho7; obtain ⟨Ao8, co8, eo8⟩ := Kd.R_slice HO249.out; subst eo8) | (go_at_call 23; (with_reducible refine (arith_Value.calls k 13 0 0 _ _ y247 t250 t251 _ ?side1 ?side2 A3.out).mono ?_); (case side1 => repeat (first | exact (Kd.R_reads' HO249.out).2.2 | (with_reducible refine Kd.C_alloc ?_ _) | (with_reducible refine Kd.C_drewN ?_ _) | (with_reducible refine Kd.C_drew ?_))); (case side2 => exact (Kd.R_reads' HO249.out).2.1); rintro e w9 ⟨rfl, hb⟩; have n0_ := Aside0.mk (Kd.R_below (by (with_reducible repeat (first | apply Kd.R_alloc | apply Kd.R_drewN | apply Kd.R_drew)); exact HO249.out) hb); have n1_ := Aside0.mk (below_step (by repeat (first | (with_reducible first | exact HB.out | apply below_alloc | apply pw_below_drewN | apply below_drew1) | exact HB.out)) hb); clear HO249; clear HB; have HO249 := n0_; have HB := n1_; clear n0_ n1_; (try clear hb); (try clear hb2); (try clear hk); (try clear hi)) | ((with_reducible refine gate_dst (N := 31) rfl ?_); refine Kd.R_lit (Kd.int .i64) _ 3 ?hg (N := 31) ?hd (xs := ([wrap64 (a0)] : List Int)) (inner := [.int .i64 (wrap64 (a0))]) (ok := fun _ => True) (okp := fun _ => True) ?hr ?hp (fun _ hk => hk) trivial (Below.refl _ _) (Nat.le_refl _) (by simp) ?_; (case hd => rfl); (case hg => rfl); (case hr => first | (go_simp; done) | (go_simp; rfl)); (case hp => exact (Reps.one (show Kd.M (Kd.int .i64) _ _ _ (wrap64 (a0)) [.int .i64 (wrap64 (a0))] from rfl) (Reps.none _ _))); intro v253 w10 ho11 hb hg_ hnew_; clear hg_ hnew_; (first | rw [← Ny252.out] at ho11 | (simp only [Int.reduceToNat] at ho11; rw [← Ny252.out] at ho11)); have n0_ := Aside0.mk (Kd.R_elder' (by (with_reducible repeat (first | apply Kd.R_alloc | apply Kd.R_drewN | apply Kd.R_drew)); exact HO249.out) (Kd.R_base ho11) hb); have n1_ := Aside0.mk (Kd.R_lower (Kd.R_new' ho11 (Kd.R_lt (by (with_reducible repeat (first | apply Kd.R_alloc | apply Kd.R_drewN | apply Kd.R_drew)); exact HO249.out))) (below_size (by repeat (first | (with_reducible first | exact HB.out | apply below_alloc | apply pw_below_drewN | apply below_drew1) | exact HB.out)))); have n2_ := Aside0.mk (below_step (by repeat (first | (with_reducible first | exact HB.out | apply below_alloc | apply pw_below_drewN | apply below_drew1) | exact HB.out)) hb); clear HO249; clear HB; have HO249 := n0_; have HO254 := n1_; have HB := n2_; clear n0_ n1_ n2_; clear hb ho11; obtain ⟨Ao12, co12, eo12⟩ := Kd.R_slice HO254.out; subst eo12) | (go_at_call 23; (with_reducible refine (arith_Value.calls k 29 (wrap64 (Int.tmod a1 32)) 0 _ _ y252 t255 t256 _ ?side1 ?side2 A4.out).mono ?_); (case side1 => repeat (first | exact (Kd.R_reads' HO254.out).2.2 | (with_reducible refine Kd.C_alloc ?_ _) | (with_reducible refine Kd.C_drewN ?_ _) | (with_reducible refine Kd.C_drew ?_))); (case side2 => exact (Kd.R_reads' HO254.out).2.1); rintro e w13 ⟨rfl, hb⟩; have n0_ := Aside0.mk (Kd.R_below (by (with_reducible repeat (first | apply Kd.R_alloc | apply Kd.R_drewN | apply Kd.R_drew)); exact HO249.out) hb); have n1_ := Aside0.mk (Kd.R_below (by (with_reducible repeat (first | apply Kd.R_alloc | apply Kd.R_drewN | apply Kd.R_drew)); exact HO254.out) hb); have n2_ := Aside0.mk (below_step (by repeat (first | (with_reducible first | exact HB.out | apply below_alloc | apply pw_below_drewN | apply below_drew1) | exact HB.out)) hb); clear HO249; clear HO254; clear HB; have HO249 := n0_; have HO254 := n1_; have HB := n2_; clear n0_ n1_ n2_; (try clear hb); (try clear hb2); (try clear hk); (try clear hi))))
  (try simp only [Act.put, List.setIfInBounds_toArray, List.set_cons_zero, List.set_cons_succ])
  go_cut [46] (fun v46 wc => ∃ (kq : Nat) (x46_4 : Bool), v46 = .bool x46_4 ∧ Aside0 (damasklaw04_ArithShifts.j0 kq (wrap64 (a0)) (wrap64 (Int.tmod a1 32)) t250 t251 x46_4 = some r) ∧ Aside0 (kq ≤ k) ∧ Aside0 (Below w.heap.size w wc))
  case first =>
    have H := HC5.out
    clear HC5
    replace H := Option.bind_eq_some_iff.mp H
    obtain ⟨t257, A140, H⟩ := H
    replace H : (if t257 = true then (if t250 = t255 then (damasklaw04_ArithShifts.j0 k (wrap64 (a0)) (wrap64 (Int.tmod a1 32)) t250 t251 (t251 != t256)) else (damasklaw04_ArithShifts.j0 k (wrap64 (a0)) (wrap64 (Int.tmod a1 32)) t250 t251 true)) else (damasklaw04_ArithShifts.j0 k (wrap64 (a0)) (wrap64 (Int.tmod a1 32)) t250 t251 true)) = some r := H
    have A14 := Aside0.mk A140
    clear A140
    by_cases c15 : t257 = true
    · subst c15
      have H1 : (if t250 = t255 then (damasklaw04_ArithShifts.j0 k (wrap64 (a0)) (wrap64 (Int.tmod a1 32)) t250 t251 (t251 != t256)) else (damasklaw04_ArithShifts.j0 k (wrap64 (a0)) (wrap64 (Int.tmod a1 32)) t250 t251 true)) = some r := by rw [if_pos rfl] at H; exact H
      clear H
      have H := H1
      clear H1
      by_cases c16 : t250 = t255
      · rw [if_pos c16] at H
        have c16b0 : (t250 == t255) = true := beq_iff_eq.mpr c16
        have c16b1 : (t250 != t255) = false := bne_eq_false_iff_eq.mpr c16
        clear c16
        (first | rw [c16b0] | (simp only [i64_w, i32_w]; rw [c16b0]) | skip)
        have H' := Aside0.mk H
        clear H
        go_wp2_with (first | (go_at_call 16; (with_reducible refine (damasklaw04_awake.calls k  true _ A14.out).mono ?_); rintro e w17 ⟨rfl, hb⟩; have n0_ := Aside0.mk (Kd.R_below (by (with_reducible repeat (first | apply Kd.R_alloc | apply Kd.R_drewN | apply Kd.R_drew)); exact HO249.out) hb); have n1_ := Aside0.mk (Kd.R_below (by (with_reducible repeat (first | apply Kd.R_alloc | apply Kd.R_drewN | apply Kd.R_drew)); exact HO254.out) hb); have n2_ := Aside0.mk (below_step (by repeat (first | (with_reducible first | exact HB.out | apply below_alloc | apply pw_below_drewN | apply below_drew1) | exact HB.out)) hb); clear HO249; clear HO254; clear HB; have HO249 := n0_; have HO254 := n1_; have HB := n2_; clear n0_ n1_ n2_; (try clear hb); (try clear hb2); (try clear hk); (try clear hi)))
        repeat (go_quiet (first | (go_at_call 16; (with_reducible refine (damasklaw04_awake.calls k  true _ A14.out).mono ?_); rintro e w17 ⟨rfl, hb⟩; have n0_ := Aside0.mk (Kd.R_below (by (with_reducible repeat (first | apply Kd.R_alloc | apply Kd.R_drewN | apply Kd.R_drew)); exact HO249.out) hb); have n1_ := Aside0.mk (Kd.R_below (by (with_reducible repeat (first | apply Kd.R_alloc | apply Kd.R_drewN | apply Kd.R_drew)); exact HO254.out) hb); have n2_ := Aside0.mk (below_step (by repeat (first | (with_reducible first | exact HB.out | apply below_alloc | apply pw_below_drewN | apply below_drew1) | exact HB.out)) hb); clear HO249; clear HO254; clear HB; have HO249 := n0_; have HO254 := n1_; have HB := n2_; clear n0_ n1_ n2_; (try clear hb); (try clear hb2); (try clear hk); (try clear hi))); try go_wp2_with (first | (go_at_call 16; (with_reducible refine (damasklaw04_awake.calls k  true _ A14.out).mono ?_); rintro e w17 ⟨rfl, hb⟩; have n0_ := Aside0.mk (Kd.R_below (by (with_reducible repeat (first | apply Kd.R_alloc | apply Kd.R_drewN | apply Kd.R_drew)); exact HO249.out) hb); have n1_ := Aside0.mk (Kd.R_below (by (with_reducible repeat (first | apply Kd.R_alloc | apply Kd.R_drewN | apply Kd.R_drew)); exact HO254.out) hb); have n2_ := Aside0.mk (below_step (by repeat (first | (with_reducible first | exact HB.out | apply below_alloc | apply pw_below_drewN | apply below_drew1) | exact HB.out)) hb); clear HO249; clear HO254; clear HB; have HO249 := n0_; have HO254 := n1_; have HB := n2_; clear n0_ n1_ n2_; (try clear hb); (try clear hb2); (try clear hk); (try clear hi))))
        go_meet
        case rel => exact ⟨_, ((t251 != t256)), (by first | rfl | (simp; done) | (simp [*]; done)), H', ⟨by first | omega | exact Nat.le_refl _⟩, ⟨by repeat (first | (with_reducible first | exact HB.out | apply below_alloc | apply pw_below_drewN | apply below_drew1) | exact HB.out)⟩⟩
      · rw [if_neg c16] at H
        have c16b0 : (t250 == t255) = false := beq_eq_false_iff_ne.mpr c16
        have c16b1 : (t250 != t255) = true := bne_iff_ne.mpr c16
        (first | rw [c16b0] | (simp only [i64_w, i32_w]; rw [c16b0]) | skip)
        exact absurd H (by have h_ := hrT.out; subst h_; clear hrT; cases k <;> simp [damasklaw04_ArithShifts.j0])
    · replace c15 := Bool.eq_false_iff.mpr c15
      subst c15
      have H1 : (damasklaw04_ArithShifts.j0 k (wrap64 (a0)) (wrap64 (Int.tmod a1 32)) t250 t251 true) = some r := by rw [if_neg (show ¬ (false = true) by decide)] at H; exact H
      clear H
      have H := H1
      clear H1
      exact absurd H (by have h_ := hrT.out; subst h_; clear hrT; cases k <;> simp [damasklaw04_ArithShifts.j0])
  case rest =>
    clear HC5
    try clear c1
    try clear p2
    try clear c6
    try clear p6
    try clear c15
    try clear c16
    try clear c16b0
    try clear c16b1
    obtain ⟨kq, x46_4, rfl, HA, HJ4, HB⟩ := hcut
    cases kq with
    | zero => exact absurd HA.out (by simp [damasklaw04_ArithShifts.j0])
    | succ kj4 =>
      have H := HA.out
      clear HA
      simp only [damasklaw04_ArithShifts.j0] at H
      by_cases c18 : x46_4 = true
      · subst c18
        have H1 : (some false) = some r := by rw [if_pos rfl] at H; exact H
        clear H
        have H := H1
        clear H1
        exact absurd hrT.out (by have h_ := Option.some.inj H; rw [← h_]; decide)
      · replace c18 := Bool.eq_false_iff.mpr c18
        subst c18
        have H1 : (if 0 ≤ (wrap64 (Int.tmod a1 32)) then (if (shl .i64 (wrap64 (a0)) (wrap64 (Int.tmod a1 32))) = (wrap64 (wrap32 (shl .i64 (wrap64 (a0)) (wrap64 (Int.tmod a1 32))))) then (if t251 = 0 then (damasklaw04_ArithShifts.j1 kj4 (wrap64 (a0)) (wrap64 (Int.tmod a1 32)) t250 true false) else (damasklaw04_ArithShifts.j1 kj4 (wrap64 (a0)) (wrap64 (Int.tmod a1 32)) t250 true true)) else (if t251 = 0 then (damasklaw04_ArithShifts.j3 kj4 (wrap64 (a0)) (wrap64 (Int.tmod a1 32)) t250 false true) else (damasklaw04_ArithShifts.j3 kj4 (wrap64 (a0)) (wrap64 (Int.tmod a1 32)) t250 false (t251 != 13)))) else (none)) = some r := by rw [if_neg (show ¬ (false = true) by decide)] at H; exact H
        clear H
        have H := H1
        clear H1
        obtain ⟨ji19, hji19⟩ : ∃ j_ : Int, (wrap64 (Int.tmod a1 32)) = j_ := ⟨_, rfl⟩
        replace H : (if 0 ≤ (ji19) then (if (shl .i64 (wrap64 (a0)) (ji19)) = (wrap64 (wrap32 (shl .i64 (wrap64 (a0)) (ji19)))) then (if t251 = 0 then (damasklaw04_ArithShifts.j1 kj4 (wrap64 (a0)) (ji19) t250 true false) else (damasklaw04_ArithShifts.j1 kj4 (wrap64 (a0)) (ji19) t250 true true)) else (if t251 = 0 then (damasklaw04_ArithShifts.j3 kj4 (wrap64 (a0)) (ji19) t250 false true) else (damasklaw04_ArithShifts.j3 kj4 (wrap64 (a0)) (ji19) t250 false (t251 != 13)))) else (none)) = some r := by first | (rw [hji19] at H; exact H) | (simp only [hji19] at H ⊢; exact H)
        have hji19w : (IntKind.i64.wrap (Int.tmod a1 32)) = ji19 := (i64_w _).trans hji19
        by_cases c20 : 0 ≤ (ji19)
        · rw [if_pos c20] at H
          have c20b0 := eq_true c20
          have c20b1 : decide (0 ≤ (ji19)) = true := decide_eq_true c20
          clear c20
          obtain ⟨ji21, hji21⟩ : ∃ j_ : Int, (shl .i64 (wrap64 (a0)) (ji19)) = j_ := ⟨_, rfl⟩
          replace H : (if (ji21) = (wrap64 (wrap32 (ji21))) then (if t251 = 0 then (damasklaw04_ArithShifts.j1 kj4 (wrap64 (a0)) (ji19) t250 true false) else (damasklaw04_ArithShifts.j1 kj4 (wrap64 (a0)) (ji19) t250 true true)) else (if t251 = 0 then (damasklaw04_ArithShifts.j3 kj4 (wrap64 (a0)) (ji19) t250 false true) else (damasklaw04_ArithShifts.j3 kj4 (wrap64 (a0)) (ji19) t250 false (t251 != 13)))) = some r := by first | (rw [hji21] at H; exact H) | (simp only [hji21] at H ⊢; exact H)
          have hji21_ : (IntKind.i64.wrap ((wrap64 (a0)) * 2 ^ min (ji19).toNat 64)) = ji21 := hji21
          have hji21z : (ji19) ≤ 64 → (IntKind.i64.wrap ((wrap64 (a0)) * 2 ^ (ji19).toNat)) = ji21 := shl_small hji21
          have hji21y : (wrap64 ((wrap64 (a0)) * 2 ^ min (ji19).toNat 64)) = ji21 := (i64_w _).symm.trans hji21_
          have hji21x : (ji19) ≤ 64 → (wrap64 ((wrap64 (a0)) * 2 ^ (ji19).toNat)) = ji21 := fun h_ => (i64_w _).symm.trans (hji21z h_)
          have c22b0 := eq_true (of_decide_eq_true (by first | (with_reducible assumption) | assumption) : 0 ≤ (ji19))
          by_cases c23 : (ji21) = (wrap64 (wrap32 (ji21)))
          · rw [if_pos c23] at H
            have c23b0 : ((ji21) == (wrap64 (wrap32 (ji21)))) = true := beq_iff_eq.mpr c23
            have c23b1 : ((ji21) != (wrap64 (wrap32 (ji21)))) = false := bne_eq_false_iff_eq.mpr c23
            clear c23
            have HC24 := Aside0.mk H
            clear H
            go_upto_region 7 with (fail)
            repeat (go_quiet (fail); go_upto_region 7 with (fail))
            go_cut [67] (fun v67 wc => ∃ (kq : Nat) (x67_23 : Bool), v67 = .bool x67_23 ∧ Aside0 (damasklaw04_ArithShifts.j1 kq (wrap64 (a0)) (ji19) t250 true x67_23 = some r) ∧ Aside0 (kq ≤ kj4) ∧ Aside0 (Below w.heap.size w wc))
            case first =>
              have H := HC24.out
              clear HC24
              by_cases c25 : t251 = 0
              · rw [if_pos c25] at H
                have c25b0 : (t251 == 0) = true := beq_iff_eq.mpr c25
                have c25b1 : (t251 != 0) = false := bne_eq_false_iff_eq.mpr c25
                clear c25
                (first | rw [c25b0] | (simp only [i64_w, i32_w]; rw [c25b0]) | skip)
                have H' := Aside0.mk H
                clear H
                go_wp2
                repeat (go_quiet (fail); try go_wp2)
                go_meet
                case rel => exact ⟨_, (false), (by first | rfl | (simp; done) | (simp [*]; done)), H', ⟨by have := HJ4.out; first | omega | exact Nat.le_refl _⟩, ⟨by repeat (first | (with_reducible first | exact HB.out | apply below_alloc | apply pw_below_drewN | apply below_drew1) | exact HB.out)⟩⟩
              · rw [if_neg c25] at H
                have c25b0 : (t251 == 0) = false := beq_eq_false_iff_ne.mpr c25
                have c25b1 : (t251 != 0) = true := bne_iff_ne.mpr c25
                (first | rw [c25b0] | (simp only [i64_w, i32_w]; rw [c25b0]) | skip)
                exact absurd H (by have h_ := hrT.out; subst h_; clear hrT; cases kj4 <;> simp [damasklaw04_ArithShifts.j1])
            case rest =>
              clear HC24
              try clear c1
              try clear c2
              try clear p2
              try clear p3
              try clear c6
              try clear p6
              try clear c15
              try clear c16
              try clear c16b0
              try clear c16b1
              try clear c18
              try clear c20
              try clear c20b0
              try clear c20b1
              try clear c22
              try clear c22b0
              try clear c23
              try clear c23b0
              try clear c23b1
              try clear c25
              try clear c25b0
              try clear c25b1
              try clear p2
              try clear p6
              obtain ⟨kq, x67_23, rfl, HA, HJ23, HB⟩ := hcut
              cases kq with
              | zero => exact absurd HA.out (by simp [damasklaw04_ArithShifts.j1])
              | succ kj23 =>
                have H := HA.out
                clear HA
                simp only [damasklaw04_ArithShifts.j1] at H
                by_cases c26 : x67_23 = true
                · subst c26
                  have H1 : (some false) = some r := by rw [if_pos rfl] at H; exact H
                  clear H
                  have H := H1
                  clear H1
                  exact absurd hrT.out (by have h_ := Option.some.inj H; rw [← h_]; decide)
                · replace c26 := Bool.eq_false_iff.mpr c26
                  subst c26
                  have H1 : (if true = true then ((arith_Value.f kj23 30 (ji19) 0 (([t250] : List Int))).bind fun bt261 => (if bt261.2 = 0 then (if bt261.1 = (wrap64 (a0)) then (if 0 ≤ (ji19) then (damasklaw04_ArithShifts.j2 kj23 (wrap64 (a0)) (ji19) (t250 != (wrap64 ((wrap64 (a0)) * (shl .i64 1 (ji19)))))) else (none)) else (damasklaw04_ArithShifts.j2 kj23 (wrap64 (a0)) (ji19) true)) else (damasklaw04_ArithShifts.j2 kj23 (wrap64 (a0)) (ji19) true))) else ((arith_Value.f kj23 14 0 0 (([(wrap64 (a0)), (ji19)] : List Int))).bind fun bt276 => ((arith_Value.f kj23 30 (ji19) 0 (([(wrap64 (a0))] : List Int))).bind fun bt281 => (if bt276.2 = 0 then (if bt281.2 = 0 then (if bt276.1 = bt281.1 then (if 0 ≤ (ji19) then (if (wrap64 (bt276.1 * (shl .i64 1 (ji19)))) ≤ (wrap64 (a0)) then (if (wrap64 (a0)) < (wrap64 ((wrap64 (bt276.1 + 1)) * (shl .i64 1 (ji19)))) then (some true) else (some false)) else (some false)) else (none)) else (some false)) else (some false)) else (some false))))) = some r := by rw [if_neg (show ¬ (false = true) by decide)] at H; exact H
                  clear H
                  have H := H1
                  clear H1
                  have H1 : ((arith_Value.f kj23 30 (ji19) 0 (([t250] : List Int))).bind fun bt261 => (if bt261.2 = 0 then (if bt261.1 = (wrap64 (a0)) then (if 0 ≤ (ji19) then (damasklaw04_ArithShifts.j2 kj23 (wrap64 (a0)) (ji19) (t250 != (wrap64 ((wrap64 (a0)) * (shl .i64 1 (ji19)))))) else (none)) else (damasklaw04_ArithShifts.j2 kj23 (wrap64 (a0)) (ji19) true)) else (damasklaw04_ArithShifts.j2 kj23 (wrap64 (a0)) (ji19) true))) = some r := by rw [if_pos rfl] at H; exact H
                  clear H
                  have H := H1
                  clear H1
                  obtain ⟨y258, hy258⟩ : ∃ y_ : List Int, y_ = (([t250] : List Int)) := ⟨_, rfl⟩
                  replace H : ((arith_Value.f kj23 30 (ji19) 0 y258).bind fun bt261 => (if bt261.2 = 0 then (if bt261.1 = (wrap64 (a0)) then (if 0 ≤ (ji19) then (damasklaw04_ArithShifts.j2 kj23 (wrap64 (a0)) (ji19) (t250 != (wrap64 ((wrap64 (a0)) * (shl .i64 1 (ji19)))))) else (none)) else (damasklaw04_ArithShifts.j2 kj23 (wrap64 (a0)) (ji19) true)) else (damasklaw04_ArithShifts.j2 kj23 (wrap64 (a0)) (ji19) true))) = some r := by first | (rw [hy258]; with_reducible exact H) | (have H2_ := (Option.bind_some _ _).symm.trans H; rw [hy258]; with_reducible exact H2_) | (have H2_ := (Option.bind_some _ _).symm.trans H; with_reducible exact H2_) | with_reducible exact H | (rw [hy258]; exact H) | exact H
                  have Ny258 := Aside0.mk hy258
                  clear hy258
                  replace H := Option.bind_eq_some_iff.mp H
                  obtain ⟨⟨t261, t262⟩, A270, H⟩ := H
                  replace H : (if t262 = 0 then (if t261 = (wrap64 (a0)) then (if 0 ≤ (ji19) then (damasklaw04_ArithShifts.j2 kj23 (wrap64 (a0)) (ji19) (t250 != (wrap64 ((wrap64 (a0)) * (shl .i64 1 (ji19)))))) else (none)) else (damasklaw04_ArithShifts.j2 kj23 (wrap64 (a0)) (ji19) true)) else (damasklaw04_ArithShifts.j2 kj23 (wrap64 (a0)) (ji19) true)) = some r := H
                  have A27 := Aside0.mk A270
                  clear A270
                  have HC28 := Aside0.mk H
                  clear H
                  go_upto_region 11 with (first | ((with_reducible refine gate_dst (N := 72) rfl ?_); refine Kd.R_lit (Kd.int .i64) _ 3 ?hg (N := 72) ?hd (xs := ([t250] : List Int)) (inner := [.int .i64 t250]) (ok := fun _ => True) (okp := fun _ => True) ?hr ?hp (fun _ hk => hk) trivial (Below.refl _ _) (Nat.le_refl _) (by simp) ?_; (case hd => rfl); (case hg => rfl); (case hr => first | (go_simp; done) | (go_simp; rfl)); (case hp => exact (Reps.one (show Kd.M (Kd.int .i64) _ _ _ t250 [.int .i64 t250] from rfl) (Reps.none _ _))); intro v259 w29 ho30 hb hg_ hnew_; clear hg_ hnew_; (first | rw [← Ny258.out] at ho30 | (simp only [Int.reduceToNat] at ho30; rw [← Ny258.out] at ho30)); have n0_ := Aside0.mk (Kd.R_lower ho30 (below_size (by repeat (first | (with_reducible first | exact HB.out | apply below_alloc | apply pw_below_drewN | apply below_drew1) | exact HB.out)))); have n1_ := Aside0.mk (below_step (by repeat (first | (with_reducible first | exact HB.out | apply below_alloc | apply pw_below_drewN | apply below_drew1) | exact HB.out)) hb); clear HB; have HO260 := n0_; have HB := n1_; clear n0_ n1_; clear hb ho30; obtain ⟨Ao31, co31, eo31⟩ := Kd.R_slice HO260.out; subst eo31) | (go_at_call 23; (with_reducible refine (arith_Value.calls kj23 30 (ji19) 0 _ _ y258 t261 t262 _ ?side1 ?side2 A27.out).mono ?_); (case side1 => repeat (first | exact (Kd.R_reads' HO260.out).2.2 | (with_reducible refine Kd.C_alloc ?_ _) | (with_reducible refine Kd.C_drewN ?_ _) | (with_reducible refine Kd.C_drew ?_))); (case side2 => exact (Kd.R_reads' HO260.out).2.1); rintro e w32 ⟨rfl, hb⟩; have n0_ := Aside0.mk (Kd.R_below (by (with_reducible repeat (first | apply Kd.R_alloc | apply Kd.R_drewN | apply Kd.R_drew)); exact HO260.out) hb); have n1_ := Aside0.mk (below_step (by repeat (first | (with_reducible first | exact HB.out | apply below_alloc | apply pw_below_drewN | apply below_drew1) | exact HB.out)) hb); clear HO260; clear HB; have HO260 := n0_; have HB := n1_; clear n0_ n1_; (try clear hb); (try clear hb2); (try clear hk); (try clear hi)))
                  repeat (go_quiet (first | ((with_reducible refine gate_dst (N := 72) rfl ?_); refine Kd.R_lit (Kd.int .i64) _ 3 ?hg (N := 72) ?hd (xs := ([t250] : List Int)) (inner := [.int .i64 t250]) (ok := fun _ => True) (okp := fun _ => True) ?hr ?hp (fun _ hk => hk) trivial (Below.refl _ _) (Nat.le_refl _) (by simp) ?_; (case hd => rfl); (case hg => rfl); (case hr => first | (go_simp; done) | (go_simp; rfl)); (case hp => exact (Reps.one (show Kd.M (Kd.int .i64) _ _ _ t250 [.int .i64 t250] from rfl) (Reps.none _ _))); intro v259 w29 ho30 hb hg_ hnew_; clear hg_ hnew_; (first | rw [← Ny258.out] at ho30 | (simp only [Int.reduceToNat] at ho30; rw [← Ny258.out] at ho30)); have n0_ := Aside0.mk (Kd.R_lower ho30 (below_size (by repeat (first | (with_reducible first | exact HB.out | apply below_alloc | apply pw_below_drewN | apply below_drew1) | exact HB.out)))); have n1_ := Aside0.mk (below_step (by repeat (first | (with_reducible first | exact HB.out | apply below_alloc | apply pw_below_drewN | apply below_drew1) | exact HB.out)) hb); clear HB; have HO260 := n0_; have HB := n1_; clear n0_ n1_; clear hb ho30; obtain ⟨Ao31, co31, eo31⟩ := Kd.R_slice HO260.out; subst eo31) | (go_at_call 23; (with_reducible refine (arith_Value.calls kj23 30 (ji19) 0 _ _ y258 t261 t262 _ ?side1 ?side2 A27.out).mono ?_); (case side1 => repeat (first | exact (Kd.R_reads' HO260.out).2.2 | (with_reducible refine Kd.C_alloc ?_ _) | (with_reducible refine Kd.C_drewN ?_ _) | (with_reducible refine Kd.C_drew ?_))); (case side2 => exact (Kd.R_reads' HO260.out).2.1); rintro e w32 ⟨rfl, hb⟩; have n0_ := Aside0.mk (Kd.R_below (by (with_reducible repeat (first | apply Kd.R_alloc | apply Kd.R_drewN | apply Kd.R_drew)); exact HO260.out) hb); have n1_ := Aside0.mk (below_step (by repeat (first | (with_reducible first | exact HB.out | apply below_alloc | apply pw_below_drewN | apply below_drew1) | exact HB.out)) hb); clear HO260; clear HB; have HO260 := n0_; have HB := n1_; clear n0_ n1_; (try clear hb); (try clear hb2); (try clear hk); (try clear hi))); go_upto_region 11 with (first | ((with_reducible refine gate_dst (N := 72) rfl ?_); refine Kd.R_lit (Kd.int .i64) _ 3 ?hg (N := 72) ?hd (xs := ([t250] : List Int)) (inner := [.int .i64 t250]) (ok := fun _ => True) (okp := fun _ => True) ?hr ?hp (fun _ hk => hk) trivial (Below.refl _ _) (Nat.le_refl _) (by simp) ?_; (case hd => rfl); (case hg => rfl); (case hr => first | (go_simp; done) | (go_simp; rfl)); (case hp => exact (Reps.one (show Kd.M (Kd.int .i64) _ _ _ t250 [.int .i64 t250] from rfl) (Reps.none _ _))); intro v259 w29 ho30 hb hg_ hnew_; clear hg_ hnew_; (first | rw [← Ny258.out] at ho30 | (simp only [Int.reduceToNat] at ho30; rw [← Ny258.out] at ho30)); have n0_ := Aside0.mk (Kd.R_lower ho30 (below_size (by repeat (first | (with_reducible first | exact HB.out | apply below_alloc | apply pw_below_drewN | apply below_drew1) | exact HB.out)))); have n1_ := Aside0.mk (below_step (by repeat (first | (with_reducible first | exact HB.out | apply below_alloc | apply pw_below_drewN | apply below_drew1) | exact HB.out)) hb); clear HB; have HO260 := n0_; have HB := n1_; clear n0_ n1_; clear hb ho30; obtain ⟨Ao31, co31, eo31⟩ := Kd.R_slice HO260.out; subst eo31) | (go_at_call 23; (with_reducible refine (arith_Value.calls kj23 30 (ji19) 0 _ _ y258 t261 t262 _ ?side1 ?side2 A27.out).mono ?_); (case side1 => repeat (first | exact (Kd.R_reads' HO260.out).2.2 | (with_reducible refine Kd.C_alloc ?_ _) | (with_reducible refine Kd.C_drewN ?_ _) | (with_reducible refine Kd.C_drew ?_))); (case side2 => exact (Kd.R_reads' HO260.out).2.1); rintro e w32 ⟨rfl, hb⟩; have n0_ := Aside0.mk (Kd.R_below (by (with_reducible repeat (first | apply Kd.R_alloc | apply Kd.R_drewN | apply Kd.R_drew)); exact HO260.out) hb); have n1_ := Aside0.mk (below_step (by repeat (first | (with_reducible first | exact HB.out | apply below_alloc | apply pw_below_drewN | apply below_drew1) | exact HB.out)) hb); clear HO260; clear HB; have HO260 := n0_; have HB := n1_; clear n0_ n1_; (try clear hb); (try clear hb2); (try clear hk); (try clear hi))))
                  (try simp only [Act.put, List.setIfInBounds_toArray, List.set_cons_zero, List.set_cons_succ])
                  go_cut [90] (fun v90 wc => ∃ (kq : Nat) (x90_27 : Bool), v90 = .bool x90_27 ∧ Aside0 (damasklaw04_ArithShifts.j2 kq (wrap64 (a0)) (ji19) x90_27 = some r) ∧ Aside0 (kq ≤ kj23) ∧ Aside0 (Below w.heap.size w wc))
                  case first =>
                    have H := HC28.out
                    clear HC28
                    by_cases c33 : t262 = 0
                    · rw [if_pos c33] at H
                      have c33b0 : (t262 == 0) = true := beq_iff_eq.mpr c33
                      have c33b1 : (t262 != 0) = false := bne_eq_false_iff_eq.mpr c33
                      clear c33
                      (first | rw [c33b0] | (simp only [i64_w, i32_w]; rw [c33b0]) | skip)
                      by_cases c34 : t261 = (wrap64 (a0))
                      · rw [if_pos c34] at H
                        have c34b0 : (t261 == (wrap64 (a0))) = true := beq_iff_eq.mpr c34
                        have c34b1 : (t261 != (wrap64 (a0))) = false := bne_eq_false_iff_eq.mpr c34
                        clear c34
                        by_cases c35 : 0 ≤ (ji19)
                        · rw [if_pos c35] at H
                          have c35b0 := eq_true c35
                          have c35b1 : decide (0 ≤ (ji19)) = true := decide_eq_true c35
                          clear c35
                          obtain ⟨ji36, hji36⟩ : ∃ j_ : Int, (shl .i64 1 (ji19)) = j_ := ⟨_, rfl⟩
                          replace H : (damasklaw04_ArithShifts.j2 kj23 (wrap64 (a0)) (ji19) (t250 != (wrap64 ((wrap64 (a0)) * (ji36))))) = some r := by first | (rw [hji36] at H; exact H) | (simp only [hji36] at H ⊢; exact H)
                          have hji36_ : (IntKind.i64.wrap (1 * 2 ^ min (ji19).toNat 64)) = ji36 := hji36
                          have hji36z : (ji19) ≤ 64 → (IntKind.i64.wrap (1 * 2 ^ (ji19).toNat)) = ji36 := shl_small hji36
                          have hji36u : (IntKind.i64.wrap (2 ^ min (ji19).toNat 64)) = ji36 := by have h_ := hji36_; rw [Int.one_mul] at h_; exact h_
                          have hji36v : (ji19) ≤ 64 → (IntKind.i64.wrap (2 ^ (ji19).toNat)) = ji36 := fun hle_ => by have h_ := hji36z hle_; rw [Int.one_mul] at h_; exact h_
                          have hji36y : (wrap64 (1 * 2 ^ min (ji19).toNat 64)) = ji36 := (i64_w _).symm.trans hji36_
                          have hji36x : (ji19) ≤ 64 → (wrap64 (1 * 2 ^ (ji19).toNat)) = ji36 := fun h_ => (i64_w _).symm.trans (hji36z h_)
                          have H' := Aside0.mk H
                          clear H
                          go_wp2
                          repeat (go_quiet (fail); try go_wp2)
                          go_meet
                          case rel => exact ⟨_, ((t250 != (wrap64 ((wrap64 (a0)) * (ji36))))), (by first | rfl | (simp; done) | (simp only [← hji36] <;> (first | rfl | simp)) | (simp [*]; done)), H', ⟨by have := HJ4.out; have := HJ23.out; first | omega | exact Nat.le_refl _⟩, ⟨by repeat (first | (with_reducible first | exact HB.out | apply below_alloc | apply pw_below_drewN | apply below_drew1) | exact HB.out)⟩⟩
                        · rw [if_neg c35] at H
                          exact absurd H (by simp)
                      · rw [if_neg c34] at H
                        have c34b0 : (t261 == (wrap64 (a0))) = false := beq_eq_false_iff_ne.mpr c34
                        have c34b1 : (t261 != (wrap64 (a0))) = true := bne_iff_ne.mpr c34
                        exact absurd H (by have h_ := hrT.out; subst h_; clear hrT; cases kj23 <;> simp [damasklaw04_ArithShifts.j2])
                    · rw [if_neg c33] at H
                      have c33b0 : (t262 == 0) = false := beq_eq_false_iff_ne.mpr c33
                      have c33b1 : (t262 != 0) = true := bne_iff_ne.mpr c33
                      (first | rw [c33b0] | (simp only [i64_w, i32_w]; rw [c33b0]) | skip)
                      exact absurd H (by have h_ := hrT.out; subst h_; clear hrT; cases kj23 <;> simp [damasklaw04_ArithShifts.j2])
                  case rest =>
                    clear HC28
                    try clear c1
                    try clear c2
                    try clear p2
                    try clear c3
                    try clear p3
                    try clear c6
                    try clear p6
                    try clear c15
                    try clear c16
                    try clear c16b0
                    try clear c16b1
                    try clear c18
                    try clear c20
                    try clear c20b0
                    try clear c20b1
                    try clear c22
                    try clear c22b0
                    try clear c23
                    try clear c23b0
                    try clear c23b1
                    try clear c25
                    try clear c25b0
                    try clear c25b1
                    try clear c26
                    try clear p32
                    try clear c33
                    try clear c33b0
                    try clear c33b1
                    try clear c34
                    try clear c34b0
                    try clear c34b1
                    try clear c35
                    try clear c35b0
                    try clear c35b1
                    try clear p2
                    try clear p3
                    try clear p6
                    obtain ⟨kq, x90_27, rfl, HA, HJ27, HB⟩ := hcut
                    cases kq with
                    | zero => exact absurd HA.out (by simp [damasklaw04_ArithShifts.j2])
                    | succ kj27 =>
                      have H := HA.out
                      clear HA
                      simp only [damasklaw04_ArithShifts.j2] at H
                      by_cases c37 : x90_27 = true
                      · subst c37
                        have H1 : (some false) = some r := by rw [if_pos rfl] at H; exact H
                        clear H
                        have H := H1
                        clear H1
                        exact absurd hrT.out (by have h_ := Option.some.inj H; rw [← h_]; decide)
                      · replace c37 := Bool.eq_false_iff.mpr c37
                        subst c37
                        have H1 : ((arith_Value.f kj27 14 0 0 (([(wrap64 (a0)), (ji19)] : List Int))).bind fun bt266 => ((arith_Value.f kj27 30 (ji19) 0 (([(wrap64 (a0))] : List Int))).bind fun bt271 => (if bt266.2 = 0 then (if bt271.2 = 0 then (if bt266.1 = bt271.1 then (if 0 ≤ (ji19) then (if (wrap64 (bt266.1 * (shl .i64 1 (ji19)))) ≤ (wrap64 (a0)) then (if (wrap64 (a0)) < (wrap64 ((wrap64 (bt266.1 + 1)) * (shl .i64 1 (ji19)))) then (some true) else (some false)) else (some false)) else (none)) else (some false)) else (some false)) else (some false)))) = some r := by rw [if_neg (show ¬ (false = true) by decide)] at H; exact H
                        clear H
                        have H := H1
                        clear H1
                        obtain ⟨y263, hy263⟩ : ∃ y_ : List Int, y_ = (([(wrap64 (a0)), (ji19)] : List Int)) := ⟨_, rfl⟩
                        replace H : ((arith_Value.f kj27 14 0 0 y263).bind fun bt266 => ((arith_Value.f kj27 30 (ji19) 0 (([(wrap64 (a0))] : List Int))).bind fun bt271 => (if bt266.2 = 0 then (if bt271.2 = 0 then (if bt266.1 = bt271.1 then (if 0 ≤ (ji19) then (if (wrap64 (bt266.1 * (shl .i64 1 (ji19)))) ≤ (wrap64 (a0)) then (if (wrap64 (a0)) < (wrap64 ((wrap64 (bt266.1 + 1)) * (shl .i64 1 (ji19)))) then (some true) else (some false)) else (some false)) else (none)) else (some false)) else (some false)) else (some false)))) = some r := by first | (rw [hy263]; with_reducible exact H) | (have H2_ := (Option.bind_some _ _).symm.trans H; rw [hy263]; with_reducible exact H2_) | (have H2_ := (Option.bind_some _ _).symm.trans H; with_reducible exact H2_) | with_reducible exact H | (rw [hy263]; exact H) | exact H
                        have Ny263 := Aside0.mk hy263
                        clear hy263
                        replace H := Option.bind_eq_some_iff.mp H
                        obtain ⟨⟨t266, t267⟩, A380, H⟩ := H
                        replace H : ((arith_Value.f kj27 30 (ji19) 0 (([(wrap64 (a0))] : List Int))).bind fun bt271 => (if t267 = 0 then (if bt271.2 = 0 then (if t266 = bt271.1 then (if 0 ≤ (ji19) then (if (wrap64 (t266 * (shl .i64 1 (ji19)))) ≤ (wrap64 (a0)) then (if (wrap64 (a0)) < (wrap64 ((wrap64 (t266 + 1)) * (shl .i64 1 (ji19)))) then (some true) else (some false)) else (some false)) else (none)) else (some false)) else (some false)) else (some false))) = some r := H
                        have A38 := Aside0.mk A380
                        clear A380
                        obtain ⟨y268, hy268⟩ : ∃ y_ : List Int, y_ = (([(wrap64 (a0))] : List Int)) := ⟨_, rfl⟩
                        replace H : ((arith_Value.f kj27 30 (ji19) 0 y268).bind fun bt271 => (if t267 = 0 then (if bt271.2 = 0 then (if t266 = bt271.1 then (if 0 ≤ (ji19) then (if (wrap64 (t266 * (shl .i64 1 (ji19)))) ≤ (wrap64 (a0)) then (if (wrap64 (a0)) < (wrap64 ((wrap64 (t266 + 1)) * (shl .i64 1 (ji19)))) then (some true) else (some false)) else (some false)) else (none)) else (some false)) else (some false)) else (some false))) = some r := by first | (rw [hy268]; with_reducible exact H) | (have H2_ := (Option.bind_some _ _).symm.trans H; rw [hy268]; with_reducible exact H2_) | (have H2_ := (Option.bind_some _ _).symm.trans H; with_reducible exact H2_) | with_reducible exact H | (rw [hy268]; exact H) | exact H
                        have Ny268 := Aside0.mk hy268
                        clear hy268
                        replace H := Option.bind_eq_some_iff.mp H
                        obtain ⟨⟨t271, t272⟩, A390, H⟩ := H
                        replace H : (if t267 = 0 then (if t272 = 0 then (if t266 = t271 then (if 0 ≤ (ji19) then (if (wrap64 (t266 * (shl .i64 1 (ji19)))) ≤ (wrap64 (a0)) then (if (wrap64 (a0)) < (wrap64 ((wrap64 (t266 + 1)) * (shl .i64 1 (ji19)))) then (some true) else (some false)) else (some false)) else (none)) else (some false)) else (some false)) else (some false)) = some r := H
                        have A39 := Aside0.mk A390
                        clear A390
                        by_cases c40 : t267 = 0
                        · rw [if_pos c40] at H
                          have c40b0 : (t267 == 0) = true := beq_iff_eq.mpr c40
                          have c40b1 : (t267 != 0) = false := bne_eq_false_iff_eq.mpr c40
                          clear c40
                          by_cases c41 : t272 = 0
                          · rw [if_pos c41] at H
                            have c41b0 : (t272 == 0) = true := beq_iff_eq.mpr c41
                            have c41b1 : (t272 != 0) = false := bne_eq_false_iff_eq.mpr c41
                            clear c41
                            by_cases c42 : t266 = t271
                            · rw [if_pos c42] at H
                              have c42b0 : (t266 == t271) = true := beq_iff_eq.mpr c42
                              have c42b1 : (t266 != t271) = false := bne_eq_false_iff_eq.mpr c42
                              clear c42
                              by_cases c43 : 0 ≤ (ji19)
                              · rw [if_pos c43] at H
                                have c43b0 := eq_true c43
                                have c43b1 : decide (0 ≤ (ji19)) = true := decide_eq_true c43
                                clear c43
                                obtain ⟨ji44, hji44⟩ : ∃ j_ : Int, (shl .i64 1 (ji19)) = j_ := ⟨_, rfl⟩
                                replace H : (if (wrap64 (t266 * (ji44))) ≤ (wrap64 (a0)) then (if (wrap64 (a0)) < (wrap64 ((wrap64 (t266 + 1)) * (ji44))) then (some true) else (some false)) else (some false)) = some r := by first | (rw [hji44] at H; exact H) | (simp only [hji44] at H ⊢; exact H)
                                (try rw [hji44] at A38)
                                (try rw [hji44] at A39)
                                have hji44_ : (IntKind.i64.wrap (1 * 2 ^ min (ji19).toNat 64)) = ji44 := hji44
                                have hji44z : (ji19) ≤ 64 → (IntKind.i64.wrap (1 * 2 ^ (ji19).toNat)) = ji44 := shl_small hji44
                                have hji44u : (IntKind.i64.wrap (2 ^ min (ji19).toNat 64)) = ji44 := by have h_ := hji44_; rw [Int.one_mul] at h_; exact h_
                                have hji44v : (ji19) ≤ 64 → (IntKind.i64.wrap (2 ^ (ji19).toNat)) = ji44 := fun hle_ => by have h_ := hji44z hle_; rw [Int.one_mul] at h_; exact h_
                                have hji44y : (wrap64 (1 * 2 ^ min (ji19).toNat 64)) = ji44 := (i64_w _).symm.trans hji44_
                                have hji44x : (ji19) ≤ 64 → (wrap64 (1 * 2 ^ (ji19).toNat)) = ji44 := fun h_ => (i64_w _).symm.trans (hji44z h_)
                                by_cases c45 : (wrap64 (t266 * (ji44))) ≤ (wrap64 (a0))
                                · rw [if_pos c45] at H
                                  have c45b0 : decide ((wrap64 (t266 * (ji44))) ≤ (wrap64 (a0))) = true := decide_eq_true c45
                                  clear c45
                                  have c46b0 := eq_true (of_decide_eq_true (by first | (with_reducible assumption) | assumption) : 0 ≤ (ji19))
                                  by_cases c47 : (wrap64 (a0)) < (wrap64 ((wrap64 (t266 + 1)) * (ji44)))
                                  · rw [if_pos c47] at H
                                    have c47b0 : decide ((wrap64 (a0)) < (wrap64 ((wrap64 (t266 + 1)) * (ji44)))) = true := decide_eq_true c47
                                    clear c47
                                    obtain rfl := Option.some.inj H
                                    go_wp2_with (first | ((with_reducible refine gate_dst (N := 94) rfl ?_); refine Kd.R_lit (Kd.int .i64) _ 3 ?hg (N := 94) ?hd (xs := ([(wrap64 (a0)), (ji19)] : List Int)) (inner := [.int .i64 (wrap64 (a0)), .int .i64 (ji19)]) (ok := fun _ => True) (okp := fun _ => True) ?hr ?hp (fun _ hk => hk) trivial (Below.refl _ _) (Nat.le_refl _) (by simp) ?_; (case hd => rfl); (case hg => rfl); (case hr => first | (go_simp; done) | (go_simp; rfl)); (case hp => exact (Reps.one (show Kd.M (Kd.int .i64) _ _ _ (wrap64 (a0)) [.int .i64 (wrap64 (a0))] from rfl) (Reps.one (show Kd.M (Kd.int .i64) _ _ _ (ji19) [.int .i64 (ji19)] from rfl) (Reps.none _ _)))); intro v264 w48 ho49 hb hg_ hnew_; clear hg_ hnew_; (first | rw [← Ny263.out] at ho49 | (simp only [Int.reduceToNat] at ho49; rw [← Ny263.out] at ho49)); have n0_ := Aside0.mk (Kd.R_lower ho49 (below_size (by repeat (first | (with_reducible first | exact HB.out | apply below_alloc | apply pw_below_drewN | apply below_drew1) | exact HB.out)))); have n1_ := Aside0.mk (below_step (by repeat (first | (with_reducible first | exact HB.out | apply below_alloc | apply pw_below_drewN | apply below_drew1) | exact HB.out)) hb); clear HB; have HO265 := n0_; have HB := n1_; clear n0_ n1_; clear hb ho49; obtain ⟨Ao50, co50, eo50⟩ := Kd.R_slice HO265.out; subst eo50) | (go_at_call 23; (with_reducible refine (arith_Value.calls kj27 14 0 0 _ _ y263 t266 t267 _ ?side1 ?side2 A38.out).mono ?_); (case side1 => repeat (first | exact (Kd.R_reads' HO265.out).2.2 | (with_reducible refine Kd.C_alloc ?_ _) | (with_reducible refine Kd.C_drewN ?_ _) | (with_reducible refine Kd.C_drew ?_))); (case side2 => exact (Kd.R_reads' HO265.out).2.1); rintro e w51 ⟨rfl, hb⟩; have n0_ := Aside0.mk (Kd.R_below (by (with_reducible repeat (first | apply Kd.R_alloc | apply Kd.R_drewN | apply Kd.R_drew)); exact HO265.out) hb); have n1_ := Aside0.mk (below_step (by repeat (first | (with_reducible first | exact HB.out | apply below_alloc | apply pw_below_drewN | apply below_drew1) | exact HB.out)) hb); clear HO265; clear HB; have HO265 := n0_; have HB := n1_; clear n0_ n1_; (try clear hb); (try clear hb2); (try clear hk); (try clear hi)) | ((with_reducible refine gate_dst (N := 101) rfl ?_); refine Kd.R_lit (Kd.int .i64) _ 3 ?hg (N := 101) ?hd (xs := ([(wrap64 (a0))] : List Int)) (inner := [.int .i64 (wrap64 (a0))]) (ok := fun _ => True) (okp := fun _ => True) ?hr ?hp (fun _ hk => hk) trivial (Below.refl _ _) (Nat.le_refl _) (by simp) ?_; (case hd => rfl); (case hg => rfl); (case hr => first | (go_simp; done) | (go_simp; rfl)); (case hp => exact (Reps.one (show Kd.M (Kd.int .i64) _ _ _ (wrap64 (a0)) [.int .i64 (wrap64 (a0))] from rfl) (Reps.none _ _))); intro v269 w52 ho53 hb hg_ hnew_; clear hg_ hnew_; (first | rw [← Ny268.out] at ho53 | (simp only [Int.reduceToNat] at ho53; rw [← Ny268.out] at ho53)); have n0_ := Aside0.mk (Kd.R_elder' (by (with_reducible repeat (first | apply Kd.R_alloc | apply Kd.R_drewN | apply Kd.R_drew)); exact HO265.out) (Kd.R_base ho53) hb); have n1_ := Aside0.mk (Kd.R_lower (Kd.R_new' ho53 (Kd.R_lt (by (with_reducible repeat (first | apply Kd.R_alloc | apply Kd.R_drewN | apply Kd.R_drew)); exact HO265.out))) (below_size (by repeat (first | (with_reducible first | exact HB.out | apply below_alloc | apply pw_below_drewN | apply below_drew1) | exact HB.out)))); have n2_ := Aside0.mk (below_step (by repeat (first | (with_reducible first | exact HB.out | apply below_alloc | apply pw_below_drewN | apply below_drew1) | exact HB.out)) hb); clear HO265; clear HB; have HO265 := n0_; have HO270 := n1_; have HB := n2_; clear n0_ n1_ n2_; clear hb ho53; obtain ⟨Ao54, co54, eo54⟩ := Kd.R_slice HO270.out; subst eo54) | (go_at_call 23; (with_reducible refine (arith_Value.calls kj27 30 (ji19) 0 _ _ y268 t271 t272 _ ?side1 ?side2 A39.out).mono ?_); (case side1 => repeat (first | exact (Kd.R_reads' HO270.out).2.2 | (with_reducible refine Kd.C_alloc ?_ _) | (with_reducible refine Kd.C_drewN ?_ _) | (with_reducible refine Kd.C_drew ?_))); (case side2 => exact (Kd.R_reads' HO270.out).2.1); rintro e w55 ⟨rfl, hb⟩; have n0_ := Aside0.mk (Kd.R_below (by (with_reducible repeat (first | apply Kd.R_alloc | apply Kd.R_drewN | apply Kd.R_drew)); exact HO265.out) hb); have n1_ := Aside0.mk (Kd.R_below (by (with_reducible repeat (first | apply Kd.R_alloc | apply Kd.R_drewN | apply Kd.R_drew)); exact HO270.out) hb); have n2_ := Aside0.mk (below_step (by repeat (first | (with_reducible first | exact HB.out | apply below_alloc | apply pw_below_drewN | apply below_drew1) | exact HB.out)) hb); clear HO265; clear HO270; clear HB; have HO265 := n0_; have HO270 := n1_; have HB := n2_; clear n0_ n1_ n2_; (try clear hb); (try clear hb2); (try clear hk); (try clear hi)))
                                    repeat (go_quiet (first | ((with_reducible refine gate_dst (N := 94) rfl ?_); refine Kd.R_lit (Kd.int .i64) _ 3 ?hg (N := 94) ?hd (xs := ([(wrap64 (a0)), (ji19)] : List Int)) (inner := [.int .i64 (wrap64 (a0)), .int .i64 (ji19)]) (ok := fun _ => True) (okp := fun _ => True) ?hr ?hp (fun _ hk => hk) trivial (Below.refl _ _) (Nat.le_refl _) (by simp) ?_; (case hd => rfl); (case hg => rfl); (case hr => first | (go_simp; done) | (go_simp; rfl)); (case hp => exact (Reps.one (show Kd.M (Kd.int .i64) _ _ _ (wrap64 (a0)) [.int .i64 (wrap64 (a0))] from rfl) (Reps.one (show Kd.M (Kd.int .i64) _ _ _ (ji19) [.int .i64 (ji19)] from rfl) (Reps.none _ _)))); intro v264 w48 ho49 hb hg_ hnew_; clear hg_ hnew_; (first | rw [← Ny263.out] at ho49 | (simp only [Int.reduceToNat] at ho49; rw [← Ny263.out] at ho49)); have n0_ := Aside0.mk (Kd.R_lower ho49 (below_size (by repeat (first | (with_reducible first | exact HB.out | apply below_alloc | apply pw_below_drewN | apply below_drew1) | exact HB.out)))); have n1_ := Aside0.mk (below_step (by repeat (first | (with_reducible first | exact HB.out | apply below_alloc | apply pw_below_drewN | apply below_drew1) | exact HB.out)) hb); clear HB; have HO265 := n0_; have HB := n1_; clear n0_ n1_; clear hb ho49; obtain ⟨Ao50, co50, eo50⟩ := Kd.R_slice HO265.out; subst eo50) | (go_at_call 23; (with_reducible refine (arith_Value.calls kj27 14 0 0 _ _ y263 t266 t267 _ ?side1 ?side2 A38.out).mono ?_); (case side1 => repeat (first | exact (Kd.R_reads' HO265.out).2.2 | (with_reducible refine Kd.C_alloc ?_ _) | (with_reducible refine Kd.C_drewN ?_ _) | (with_reducible refine Kd.C_drew ?_))); (case side2 => exact (Kd.R_reads' HO265.out).2.1); rintro e w51 ⟨rfl, hb⟩; have n0_ := Aside0.mk (Kd.R_below (by (with_reducible repeat (first | apply Kd.R_alloc | apply Kd.R_drewN | apply Kd.R_drew)); exact HO265.out) hb); have n1_ := Aside0.mk (below_step (by repeat (first | (with_reducible first | exact HB.out | apply below_alloc | apply pw_below_drewN | apply below_drew1) | exact HB.out)) hb); clear HO265; clear HB; have HO265 := n0_; have HB := n1_; clear n0_ n1_; (try clear hb); (try clear hb2); (try clear hk); (try clear hi)) | ((with_reducible refine gate_dst (N := 101) rfl ?_); refine Kd.R_lit (Kd.int .i64) _ 3 ?hg (N := 101) ?hd (xs := ([(wrap64 (a0))] : List Int)) (inner := [.int .i64 (wrap64 (a0))]) (ok := fun _ => True) (okp := fun _ => True) ?hr ?hp (fun _ hk => hk) trivial (Below.refl _ _) (Nat.le_refl _) (by simp) ?_; (case hd => rfl); (case hg => rfl); (case hr => first | (go_simp; done) | (go_simp; rfl)); (case hp => exact (Reps.one (show Kd.M (Kd.int .i64) _ _ _ (wrap64 (a0)) [.int .i64 (wrap64 (a0))] from rfl) (Reps.none _ _))); intro v269 w52 ho53 hb hg_ hnew_; clear hg_ hnew_; (first | rw [← Ny268.out] at ho53 | (simp only [Int.reduceToNat] at ho53; rw [← Ny268.out] at ho53)); have n0_ := Aside0.mk (Kd.R_elder' (by (with_reducible repeat (first | apply Kd.R_alloc | apply Kd.R_drewN | apply Kd.R_drew)); exact HO265.out) (Kd.R_base ho53) hb); have n1_ := Aside0.mk (Kd.R_lower (Kd.R_new' ho53 (Kd.R_lt (by (with_reducible repeat (first | apply Kd.R_alloc | apply Kd.R_drewN | apply Kd.R_drew)); exact HO265.out))) (below_size (by repeat (first | (with_reducible first | exact HB.out | apply below_alloc | apply pw_below_drewN | apply below_drew1) | exact HB.out)))); have n2_ := Aside0.mk (below_step (by repeat (first | (with_reducible first | exact HB.out | apply below_alloc | apply pw_below_drewN | apply below_drew1) | exact HB.out)) hb); clear HO265; clear HB; have HO265 := n0_; have HO270 := n1_; have HB := n2_; clear n0_ n1_ n2_; clear hb ho53; obtain ⟨Ao54, co54, eo54⟩ := Kd.R_slice HO270.out; subst eo54) | (go_at_call 23; (with_reducible refine (arith_Value.calls kj27 30 (ji19) 0 _ _ y268 t271 t272 _ ?side1 ?side2 A39.out).mono ?_); (case side1 => repeat (first | exact (Kd.R_reads' HO270.out).2.2 | (with_reducible refine Kd.C_alloc ?_ _) | (with_reducible refine Kd.C_drewN ?_ _) | (with_reducible refine Kd.C_drew ?_))); (case side2 => exact (Kd.R_reads' HO270.out).2.1); rintro e w55 ⟨rfl, hb⟩; have n0_ := Aside0.mk (Kd.R_below (by (with_reducible repeat (first | apply Kd.R_alloc | apply Kd.R_drewN | apply Kd.R_drew)); exact HO265.out) hb); have n1_ := Aside0.mk (Kd.R_below (by (with_reducible repeat (first | apply Kd.R_alloc | apply Kd.R_drewN | apply Kd.R_drew)); exact HO270.out) hb); have n2_ := Aside0.mk (below_step (by repeat (first | (with_reducible first | exact HB.out | apply below_alloc | apply pw_below_drewN | apply below_drew1) | exact HB.out)) hb); clear HO265; clear HO270; clear HB; have HO265 := n0_; have HO270 := n1_; have HB := n2_; clear n0_ n1_ n2_; (try clear hb); (try clear hb2); (try clear hk); (try clear hi))); try go_wp2_with (first | ((with_reducible refine gate_dst (N := 94) rfl ?_); refine Kd.R_lit (Kd.int .i64) _ 3 ?hg (N := 94) ?hd (xs := ([(wrap64 (a0)), (ji19)] : List Int)) (inner := [.int .i64 (wrap64 (a0)), .int .i64 (ji19)]) (ok := fun _ => True) (okp := fun _ => True) ?hr ?hp (fun _ hk => hk) trivial (Below.refl _ _) (Nat.le_refl _) (by simp) ?_; (case hd => rfl); (case hg => rfl); (case hr => first | (go_simp; done) | (go_simp; rfl)); (case hp => exact (Reps.one (show Kd.M (Kd.int .i64) _ _ _ (wrap64 (a0)) [.int .i64 (wrap64 (a0))] from rfl) (Reps.one (show Kd.M (Kd.int .i64) _ _ _ (ji19) [.int .i64 (ji19)] from rfl) (Reps.none _ _)))); intro v264 w48 ho49 hb hg_ hnew_; clear hg_ hnew_; (first | rw [← Ny263.out] at ho49 | (simp only [Int.reduceToNat] at ho49; rw [← Ny263.out] at ho49)); have n0_ := Aside0.mk (Kd.R_lower ho49 (below_size (by repeat (first | (with_reducible first | exact HB.out | apply below_alloc | apply pw_below_drewN | apply below_drew1) | exact HB.out)))); have n1_ := Aside0.mk (below_step (by repeat (first | (with_reducible first | exact HB.out | apply below_alloc | apply pw_below_drewN | apply below_drew1) | exact HB.out)) hb); clear HB; have HO265 := n0_; have HB := n1_; clear n0_ n1_; clear hb ho49; obtain ⟨Ao50, co50, eo50⟩ := Kd.R_slice HO265.out; subst eo50) | (go_at_call 23; (with_reducible refine (arith_Value.calls kj27 14 0 0 _ _ y263 t266 t267 _ ?side1 ?side2 A38.out).mono ?_); (case side1 => repeat (first | exact (Kd.R_reads' HO265.out).2.2 | (with_reducible refine Kd.C_alloc ?_ _) | (with_reducible refine Kd.C_drewN ?_ _) | (with_reducible refine Kd.C_drew ?_))); (case side2 => exact (Kd.R_reads' HO265.out).2.1); rintro e w51 ⟨rfl, hb⟩; have n0_ := Aside0.mk (Kd.R_below (by (with_reducible repeat (first | apply Kd.R_alloc | apply Kd.R_drewN | apply Kd.R_drew)); exact HO265.out) hb); have n1_ := Aside0.mk (below_step (by repeat (first | (with_reducible first | exact HB.out | apply below_alloc | apply pw_below_drewN | apply below_drew1) | exact HB.out)) hb); clear HO265; clear HB; have HO265 := n0_; have HB := n1_; clear n0_ n1_; (try clear hb); (try clear hb2); (try clear hk); (try clear hi)) | ((with_reducible refine gate_dst (N := 101) rfl ?_); refine Kd.R_lit (Kd.int .i64) _ 3 ?hg (N := 101) ?hd (xs := ([(wrap64 (a0))] : List Int)) (inner := [.int .i64 (wrap64 (a0))]) (ok := fun _ => True) (okp := fun _ => True) ?hr ?hp (fun _ hk => hk) trivial (Below.refl _ _) (Nat.le_refl _) (by simp) ?_; (case hd => rfl); (case hg => rfl); (case hr => first | (go_simp; done) | (go_simp; rfl)); (case hp => exact (Reps.one (show Kd.M (Kd.int .i64) _ _ _ (wrap64 (a0)) [.int .i64 (wrap64 (a0))] from rfl) (Reps.none _ _))); intro v269 w52 ho53 hb hg_ hnew_; clear hg_ hnew_; (first | rw [← Ny268.out] at ho53 | (simp only [Int.reduceToNat] at ho53; rw [← Ny268.out] at ho53)); have n0_ := Aside0.mk (Kd.R_elder' (by (with_reducible repeat (first | apply Kd.R_alloc | apply Kd.R_drewN | apply Kd.R_drew)); exact HO265.out) (Kd.R_base ho53) hb); have n1_ := Aside0.mk (Kd.R_lower (Kd.R_new' ho53 (Kd.R_lt (by (with_reducible repeat (first | apply Kd.R_alloc | apply Kd.R_drewN | apply Kd.R_drew)); exact HO265.out))) (below_size (by repeat (first | (with_reducible first | exact HB.out | apply below_alloc | apply pw_below_drewN | apply below_drew1) | exact HB.out)))); have n2_ := Aside0.mk (below_step (by repeat (first | (with_reducible first | exact HB.out | apply below_alloc | apply pw_below_drewN | apply below_drew1) | exact HB.out)) hb); clear HO265; clear HB; have HO265 := n0_; have HO270 := n1_; have HB := n2_; clear n0_ n1_ n2_; clear hb ho53; obtain ⟨Ao54, co54, eo54⟩ := Kd.R_slice HO270.out; subst eo54) | (go_at_call 23; (with_reducible refine (arith_Value.calls kj27 30 (ji19) 0 _ _ y268 t271 t272 _ ?side1 ?side2 A39.out).mono ?_); (case side1 => repeat (first | exact (Kd.R_reads' HO270.out).2.2 | (with_reducible refine Kd.C_alloc ?_ _) | (with_reducible refine Kd.C_drewN ?_ _) | (with_reducible refine Kd.C_drew ?_))); (case side2 => exact (Kd.R_reads' HO270.out).2.1); rintro e w55 ⟨rfl, hb⟩; have n0_ := Aside0.mk (Kd.R_below (by (with_reducible repeat (first | apply Kd.R_alloc | apply Kd.R_drewN | apply Kd.R_drew)); exact HO265.out) hb); have n1_ := Aside0.mk (Kd.R_below (by (with_reducible repeat (first | apply Kd.R_alloc | apply Kd.R_drewN | apply Kd.R_drew)); exact HO270.out) hb); have n2_ := Aside0.mk (below_step (by repeat (first | (with_reducible first | exact HB.out | apply below_alloc | apply pw_below_drewN | apply below_drew1) | exact HB.out)) hb); clear HO265; clear HO270; clear HB; have HO265 := n0_; have HO270 := n1_; have HB := n2_; clear n0_ n1_ n2_; (try clear hb); (try clear hb2); (try clear hk); (try clear hi))))
                                    go_ret
                                    exact ⟨by first | rfl | (simp [errW_none, errW_some] <;> rfl) | (simp only [← hji19, ← hji21, ← hji44]; first | rfl | (simp [errW_none, errW_some] <;> rfl)) | (simp [*, errW_none, errW_some] <;> rfl), by repeat (first | (with_reducible first | exact HB.out | apply below_alloc | apply pw_below_drewN | apply below_drew1) | exact HB.out)⟩
                                  · rw [if_neg c47] at H
                                    have c47b0 : decide ((wrap64 (a0)) < (wrap64 ((wrap64 (t266 + 1)) * (ji44)))) = false := decide_eq_false c47
                                    clear c47
                                    exact absurd hrT.out (by have h_ := Option.some.inj H; rw [← h_]; decide)
                                · rw [if_neg c45] at H
                                  have c45b0 : decide ((wrap64 (t266 * (ji44))) ≤ (wrap64 (a0))) = false := decide_eq_false c45
                                  clear c45
                                  exact absurd hrT.out (by have h_ := Option.some.inj H; rw [← h_]; decide)
                              · rw [if_neg c43] at H
                                exact absurd H (by simp)
                            · rw [if_neg c42] at H
                              have c42b0 : (t266 == t271) = false := beq_eq_false_iff_ne.mpr c42
                              have c42b1 : (t266 != t271) = true := bne_iff_ne.mpr c42
                              exact absurd hrT.out (by have h_ := Option.some.inj H; rw [← h_]; decide)
                          · rw [if_neg c41] at H
                            have c41b0 : (t272 == 0) = false := beq_eq_false_iff_ne.mpr c41
                            have c41b1 : (t272 != 0) = true := bne_iff_ne.mpr c41
                            exact absurd hrT.out (by have h_ := Option.some.inj H; rw [← h_]; decide)
                        · rw [if_neg c40] at H
                          have c40b0 : (t267 == 0) = false := beq_eq_false_iff_ne.mpr c40
                          have c40b1 : (t267 != 0) = true := bne_iff_ne.mpr c40
                          exact absurd hrT.out (by have h_ := Option.some.inj H; rw [← h_]; decide)
          · rw [if_neg c23] at H
            have c23b0 : ((ji21) == (wrap64 (wrap32 (ji21)))) = false := beq_eq_false_iff_ne.mpr c23
            have c23b1 : ((ji21) != (wrap64 (wrap32 (ji21)))) = true := bne_iff_ne.mpr c23
            have HC56 := Aside0.mk H
            clear H
            go_upto_region 7 with (fail)
            repeat (go_quiet (fail); go_upto_region 7 with (fail))
            go_cut [67] (fun v67 wc => ∃ (kq : Nat) (x67_55 : Bool), v67 = .bool x67_55 ∧ Aside0 (damasklaw04_ArithShifts.j3 kq (wrap64 (a0)) (ji19) t250 false x67_55 = some r) ∧ Aside0 (kq ≤ kj4) ∧ Aside0 (Below w.heap.size w wc))
            case first =>
              have H := HC56.out
              clear HC56
              by_cases c57 : t251 = 0
              · rw [if_pos c57] at H
                have c57b0 : (t251 == 0) = true := beq_iff_eq.mpr c57
                have c57b1 : (t251 != 0) = false := bne_eq_false_iff_eq.mpr c57
                clear c57
                (first | rw [c57b0] | (simp only [i64_w, i32_w]; rw [c57b0]) | skip)
                exact absurd H (by have h_ := hrT.out; subst h_; clear hrT; cases kj4 <;> simp [damasklaw04_ArithShifts.j3])
              · rw [if_neg c57] at H
                have c57b0 : (t251 == 0) = false := beq_eq_false_iff_ne.mpr c57
                have c57b1 : (t251 != 0) = true := bne_iff_ne.mpr c57
                (first | rw [c57b0] | (simp only [i64_w, i32_w]; rw [c57b0]) | skip)
                have H' := Aside0.mk H
                clear H
                go_wp2
                repeat (go_quiet (fail); try go_wp2)
                go_meet
                case rel => exact ⟨_, ((t251 != 13)), (by first | rfl | (simp; done) | (simp [*]; done)), H', ⟨by have := HJ4.out; first | omega | exact Nat.le_refl _⟩, ⟨by repeat (first | (with_reducible first | exact HB.out | apply below_alloc | apply pw_below_drewN | apply below_drew1) | exact HB.out)⟩⟩
            case rest =>
              clear HC56
              try clear c1
              try clear c2
              try clear p2
              try clear c3
              try clear p3
              try clear c4
              try clear c5
              try clear c6
              try clear p6
              try clear c15
              try clear c16
              try clear c16b0
              try clear c16b1
              try clear c18
              try clear c20
              try clear c20b0
              try clear c20b1
              try clear c22
              try clear c22b0
              try clear c23
              try clear c23b0
              try clear c23b1
              try clear c25
              try clear c25b0
              try clear c25b1
              try clear c26
              try clear p32
              try clear c33
              try clear c33b0
              try clear c33b1
              try clear c34
              try clear c34b0
              try clear c34b1
              try clear c35
              try clear c35b0
              try clear c35b1
              try clear c37
              try clear c40
              try clear c40b0
              try clear c40b1
              try clear c41
              try clear c41b0
              try clear c41b1
              try clear c42
              try clear c42b0
              try clear c42b1
              try clear c43
              try clear c43b0
              try clear c43b1
              try clear c45
              try clear c45b0
              try clear c46
              try clear c46b0
              try clear c47
              try clear c47b0
              try clear c57
              try clear c57b0
              try clear c57b1
              try clear p2
              try clear p3
              try clear p32
              try clear p6
              obtain ⟨kq, x67_55, rfl, HA, HJ55, HB⟩ := hcut
              cases kq with
              | zero => exact absurd HA.out (by simp [damasklaw04_ArithShifts.j3])
              | succ kj55 =>
                have H := HA.out
                clear HA
                simp only [damasklaw04_ArithShifts.j3] at H
                by_cases c58 : x67_55 = true
                · subst c58
                  have H1 : (some false) = some r := by rw [if_pos rfl] at H; exact H
                  clear H
                  have H := H1
                  clear H1
                  exact absurd hrT.out (by have h_ := Option.some.inj H; rw [← h_]; decide)
                · replace c58 := Bool.eq_false_iff.mpr c58
                  subst c58
                  have H1 : (if false = true then ((arith_Value.f kj55 30 (ji19) 0 (([t250] : List Int))).bind fun bt286 => (if bt286.2 = 0 then (if bt286.1 = (wrap64 (a0)) then (if 0 ≤ (ji19) then (damasklaw04_ArithShifts.j4 kj55 (wrap64 (a0)) (ji19) (t250 != (wrap64 ((wrap64 (a0)) * (shl .i64 1 (ji19)))))) else (none)) else (damasklaw04_ArithShifts.j4 kj55 (wrap64 (a0)) (ji19) true)) else (damasklaw04_ArithShifts.j4 kj55 (wrap64 (a0)) (ji19) true))) else ((arith_Value.f kj55 14 0 0 (([(wrap64 (a0)), (ji19)] : List Int))).bind fun bt301 => ((arith_Value.f kj55 30 (ji19) 0 (([(wrap64 (a0))] : List Int))).bind fun bt306 => (if bt301.2 = 0 then (if bt306.2 = 0 then (if bt301.1 = bt306.1 then (if 0 ≤ (ji19) then (if (wrap64 (bt301.1 * (shl .i64 1 (ji19)))) ≤ (wrap64 (a0)) then (if (wrap64 (a0)) < (wrap64 ((wrap64 (bt301.1 + 1)) * (shl .i64 1 (ji19)))) then (some true) else (some false)) else (some false)) else (none)) else (some false)) else (some false)) else (some false))))) = some r := by rw [if_neg (show ¬ (false = true) by decide)] at H; exact H
                  clear H
                  have H := H1
                  clear H1
                  have H1 : ((arith_Value.f kj55 14 0 0 (([(wrap64 (a0)), (ji19)] : List Int))).bind fun bt301 => ((arith_Value.f kj55 30 (ji19) 0 (([(wrap64 (a0))] : List Int))).bind fun bt306 => (if bt301.2 = 0 then (if bt306.2 = 0 then (if bt301.1 = bt306.1 then (if 0 ≤ (ji19) then (if (wrap64 (bt301.1 * (shl .i64 1 (ji19)))) ≤ (wrap64 (a0)) then (if (wrap64 (a0)) < (wrap64 ((wrap64 (bt301.1 + 1)) * (shl .i64 1 (ji19)))) then (some true) else (some false)) else (some false)) else (none)) else (some false)) else (some false)) else (some false)))) = some r := by rw [if_neg (show ¬ (false = true) by decide)] at H; exact H
                  clear H
                  have H := H1
                  clear H1
                  obtain ⟨y298, hy298⟩ : ∃ y_ : List Int, y_ = (([(wrap64 (a0)), (ji19)] : List Int)) := ⟨_, rfl⟩
                  replace H : ((arith_Value.f kj55 14 0 0 y298).bind fun bt301 => ((arith_Value.f kj55 30 (ji19) 0 (([(wrap64 (a0))] : List Int))).bind fun bt306 => (if bt301.2 = 0 then (if bt306.2 = 0 then (if bt301.1 = bt306.1 then (if 0 ≤ (ji19) then (if (wrap64 (bt301.1 * (shl .i64 1 (ji19)))) ≤ (wrap64 (a0)) then (if (wrap64 (a0)) < (wrap64 ((wrap64 (bt301.1 + 1)) * (shl .i64 1 (ji19)))) then (some true) else (some false)) else (some false)) else (none)) else (some false)) else (some false)) else (some false)))) = some r := by first | (rw [hy298]; with_reducible exact H) | (have H2_ := (Option.bind_some _ _).symm.trans H; rw [hy298]; with_reducible exact H2_) | (have H2_ := (Option.bind_some _ _).symm.trans H; with_reducible exact H2_) | with_reducible exact H | (rw [hy298]; exact H) | exact H
                  have Ny298 := Aside0.mk hy298
                  clear hy298
                  replace H := Option.bind_eq_some_iff.mp H
                  obtain ⟨⟨t301, t302⟩, A590, H⟩ := H
                  replace H : ((arith_Value.f kj55 30 (ji19) 0 (([(wrap64 (a0))] : List Int))).bind fun bt306 => (if t302 = 0 then (if bt306.2 = 0 then (if t301 = bt306.1 then (if 0 ≤ (ji19) then (if (wrap64 (t301 * (shl .i64 1 (ji19)))) ≤ (wrap64 (a0)) then (if (wrap64 (a0)) < (wrap64 ((wrap64 (t301 + 1)) * (shl .i64 1 (ji19)))) then (some true) else (some false)) else (some false)) else (none)) else (some false)) else (some false)) else (some false))) = some r := H
                  have A59 := Aside0.mk A590
                  clear A590
                  obtain ⟨y303, hy303⟩ : ∃ y_ : List Int, y_ = (([(wrap64 (a0))] : List Int)) := ⟨_, rfl⟩
                  replace H : ((arith_Value.f kj55 30 (ji19) 0 y303).bind fun bt306 => (if t302 = 0 then (if bt306.2 = 0 then (if t301 = bt306.1 then (if 0 ≤ (ji19) then (if (wrap64 (t301 * (shl .i64 1 (ji19)))) ≤ (wrap64 (a0)) then (if (wrap64 (a0)) < (wrap64 ((wrap64 (t301 + 1)) * (shl .i64 1 (ji19)))) then (some true) else (some false)) else (some false)) else (none)) else (some false)) else (some false)) else (some false))) = some r := by first | (rw [hy303]; with_reducible exact H) | (have H2_ := (Option.bind_some _ _).symm.trans H; rw [hy303]; with_reducible exact H2_) | (have H2_ := (Option.bind_some _ _).symm.trans H; with_reducible exact H2_) | with_reducible exact H | (rw [hy303]; exact H) | exact H
                  have Ny303 := Aside0.mk hy303
                  clear hy303
                  replace H := Option.bind_eq_some_iff.mp H
                  obtain ⟨⟨t306, t307⟩, A600, H⟩ := H
                  replace H : (if t302 = 0 then (if t307 = 0 then (if t301 = t306 then (if 0 ≤ (ji19) then (if (wrap64 (t301 * (shl .i64 1 (ji19)))) ≤ (wrap64 (a0)) then (if (wrap64 (a0)) < (wrap64 ((wrap64 (t301 + 1)) * (shl .i64 1 (ji19)))) then (some true) else (some false)) else (some false)) else (none)) else (some false)) else (some false)) else (some false)) = some r := H
                  have A60 := Aside0.mk A600
                  clear A600
                  by_cases c61 : t302 = 0
                  · rw [if_pos c61] at H
                    have c61b0 : (t302 == 0) = true := beq_iff_eq.mpr c61
                    have c61b1 : (t302 != 0) = false := bne_eq_false_iff_eq.mpr c61
                    clear c61
                    by_cases c62 : t307 = 0
                    · rw [if_pos c62] at H
                      have c62b0 : (t307 == 0) = true := beq_iff_eq.mpr c62
                      have c62b1 : (t307 != 0) = false := bne_eq_false_iff_eq.mpr c62
                      clear c62
                      by_cases c63 : t301 = t306
                      · rw [if_pos c63] at H
                        have c63b0 : (t301 == t306) = true := beq_iff_eq.mpr c63
                        have c63b1 : (t301 != t306) = false := bne_eq_false_iff_eq.mpr c63
                        clear c63
                        by_cases c64 : 0 ≤ (ji19)
                        · rw [if_pos c64] at H
                          have c64b0 := eq_true c64
                          have c64b1 : decide (0 ≤ (ji19)) = true := decide_eq_true c64
                          clear c64
                          obtain ⟨ji65, hji65⟩ : ∃ j_ : Int, (shl .i64 1 (ji19)) = j_ := ⟨_, rfl⟩
                          replace H : (if (wrap64 (t301 * (ji65))) ≤ (wrap64 (a0)) then (if (wrap64 (a0)) < (wrap64 ((wrap64 (t301 + 1)) * (ji65))) then (some true) else (some false)) else (some false)) = some r := by first | (rw [hji65] at H; exact H) | (simp only [hji65] at H ⊢; exact H)
                          (try rw [hji65] at A59)
                          (try rw [hji65] at A60)
                          have hji65_ : (IntKind.i64.wrap (1 * 2 ^ min (ji19).toNat 64)) = ji65 := hji65
                          have hji65z : (ji19) ≤ 64 → (IntKind.i64.wrap (1 * 2 ^ (ji19).toNat)) = ji65 := shl_small hji65
                          have hji65u : (IntKind.i64.wrap (2 ^ min (ji19).toNat 64)) = ji65 := by have h_ := hji65_; rw [Int.one_mul] at h_; exact h_
                          have hji65v : (ji19) ≤ 64 → (IntKind.i64.wrap (2 ^ (ji19).toNat)) = ji65 := fun hle_ => by have h_ := hji65z hle_; rw [Int.one_mul] at h_; exact h_
                          have hji65y : (wrap64 (1 * 2 ^ min (ji19).toNat 64)) = ji65 := (i64_w _).symm.trans hji65_
                          have hji65x : (ji19) ≤ 64 → (wrap64 (1 * 2 ^ (ji19).toNat)) = ji65 := fun h_ => (i64_w _).symm.trans (hji65z h_)
                          by_cases c66 : (wrap64 (t301 * (ji65))) ≤ (wrap64 (a0))
                          · rw [if_pos c66] at H
                            have c66b0 : decide ((wrap64 (t301 * (ji65))) ≤ (wrap64 (a0))) = true := decide_eq_true c66
                            clear c66
                            have c67b0 := eq_true (of_decide_eq_true (by first | (with_reducible assumption) | assumption) : 0 ≤ (ji19))
                            by_cases c68 : (wrap64 (a0)) < (wrap64 ((wrap64 (t301 + 1)) * (ji65)))
                            · rw [if_pos c68] at H
                              have c68b0 : decide ((wrap64 (a0)) < (wrap64 ((wrap64 (t301 + 1)) * (ji65)))) = true := decide_eq_true c68
                              clear c68
                              obtain rfl := Option.some.inj H
                              go_wp2_with (first | ((with_reducible refine gate_dst (N := 94) rfl ?_); refine Kd.R_lit (Kd.int .i64) _ 3 ?hg (N := 94) ?hd (xs := ([(wrap64 (a0)), (ji19)] : List Int)) (inner := [.int .i64 (wrap64 (a0)), .int .i64 (ji19)]) (ok := fun _ => True) (okp := fun _ => True) ?hr ?hp (fun _ hk => hk) trivial (Below.refl _ _) (Nat.le_refl _) (by simp) ?_; (case hd => rfl); (case hg => rfl); (case hr => first | (go_simp; done) | (go_simp; rfl)); (case hp => exact (Reps.one (show Kd.M (Kd.int .i64) _ _ _ (wrap64 (a0)) [.int .i64 (wrap64 (a0))] from rfl) (Reps.one (show Kd.M (Kd.int .i64) _ _ _ (ji19) [.int .i64 (ji19)] from rfl) (Reps.none _ _)))); intro v299 w69 ho70 hb hg_ hnew_; clear hg_ hnew_; (first | rw [← Ny298.out] at ho70 | (simp only [Int.reduceToNat] at ho70; rw [← Ny298.out] at ho70)); have n0_ := Aside0.mk (Kd.R_lower ho70 (below_size (by repeat (first | (with_reducible first | exact HB.out | apply below_alloc | apply pw_below_drewN | apply below_drew1) | exact HB.out)))); have n1_ := Aside0.mk (below_step (by repeat (first | (with_reducible first | exact HB.out | apply below_alloc | apply pw_below_drewN | apply below_drew1) | exact HB.out)) hb); clear HB; have HO300 := n0_; have HB := n1_; clear n0_ n1_; clear hb ho70; obtain ⟨Ao71, co71, eo71⟩ := Kd.R_slice HO300.out; subst eo71) | (go_at_call 23; (with_reducible refine (arith_Value.calls kj55 14 0 0 _ _ y298 t301 t302 _ ?side1 ?side2 A59.out).mono ?_); (case side1 => repeat (first | exact (Kd.R_reads' HO300.out).2.2 | (with_reducible refine Kd.C_alloc ?_ _) | (with_reducible refine Kd.C_drewN ?_ _) | (with_reducible refine Kd.C_drew ?_))); (case side2 => exact (Kd.R_reads' HO300.out).2.1); rintro e w72 ⟨rfl, hb⟩; have n0_ := Aside0.mk (Kd.R_below (by (with_reducible repeat (first | apply Kd.R_alloc | apply Kd.R_drewN | apply Kd.R_drew)); exact HO300.out) hb); have n1_ := Aside0.mk (below_step (by repeat (first | (with_reducible first | exact HB.out | apply below_alloc | apply pw_below_drewN | apply below_drew1) | exact HB.out)) hb); clear HO300; clear HB; have HO300 := n0_; have HB := n1_; clear n0_ n1_; (try clear hb); (try clear hb2); (try clear hk); (try clear hi)) | ((with_reducible refine gate_dst (N := 101) rfl ?_); refine Kd.R_lit (Kd.int .i64) _ 3 ?hg (N := 101) ?hd (xs := ([(wrap64 (a0))] : List Int)) (inner := [.int .i64 (wrap64 (a0))]) (ok := fun _ => True) (okp := fun _ => True) ?hr ?hp (fun _ hk => hk) trivial (Below.refl _ _) (Nat.le_refl _) (by simp) ?_; (case hd => rfl); (case hg => rfl); (case hr => first | (go_simp; done) | (go_simp; rfl)); (case hp => exact (Reps.one (show Kd.M (Kd.int .i64) _ _ _ (wrap64 (a0)) [.int .i64 (wrap64 (a0))] from rfl) (Reps.none _ _))); intro v304 w73 ho74 hb hg_ hnew_; clear hg_ hnew_; (first | rw [← Ny303.out] at ho74 | (simp only [Int.reduceToNat] at ho74; rw [← Ny303.out] at ho74)); have n0_ := Aside0.mk (Kd.R_elder' (by (with_reducible repeat (first | apply Kd.R_alloc | apply Kd.R_drewN | apply Kd.R_drew)); exact HO300.out) (Kd.R_base ho74) hb); have n1_ := Aside0.mk (Kd.R_lower (Kd.R_new' ho74 (Kd.R_lt (by (with_reducible repeat (first | apply Kd.R_alloc | apply Kd.R_drewN | apply Kd.R_drew)); exact HO300.out))) (below_size (by repeat (first | (with_reducible first | exact HB.out | apply below_alloc | apply pw_below_drewN | apply below_drew1) | exact HB.out)))); have n2_ := Aside0.mk (below_step (by repeat (first | (with_reducible first | exact HB.out | apply below_alloc | apply pw_below_drewN | apply below_drew1) | exact HB.out)) hb); clear HO300; clear HB; have HO300 := n0_; have HO305 := n1_; have HB := n2_; clear n0_ n1_ n2_; clear hb ho74; obtain ⟨Ao75, co75, eo75⟩ := Kd.R_slice HO305.out; subst eo75) | (go_at_call 23; (with_reducible refine (arith_Value.calls kj55 30 (ji19) 0 _ _ y303 t306 t307 _ ?side1 ?side2 A60.out).mono ?_); (case side1 => repeat (first | exact (Kd.R_reads' HO305.out).2.2 | (with_reducible refine Kd.C_alloc ?_ _) | (with_reducible refine Kd.C_drewN ?_ _) | (with_reducible refine Kd.C_drew ?_))); (case side2 => exact (Kd.R_reads' HO305.out).2.1); rintro e w76 ⟨rfl, hb⟩; have n0_ := Aside0.mk (Kd.R_below (by (with_reducible repeat (first | apply Kd.R_alloc | apply Kd.R_drewN | apply Kd.R_drew)); exact HO300.out) hb); have n1_ := Aside0.mk (Kd.R_below (by (with_reducible repeat (first | apply Kd.R_alloc | apply Kd.R_drewN | apply Kd.R_drew)); exact HO305.out) hb); have n2_ := Aside0.mk (below_step (by repeat (first | (with_reducible first | exact HB.out | apply below_alloc | apply pw_below_drewN | apply below_drew1) | exact HB.out)) hb); clear HO300; clear HO305; clear HB; have HO300 := n0_; have HO305 := n1_; have HB := n2_; clear n0_ n1_ n2_; (try clear hb); (try clear hb2); (try clear hk); (try clear hi)))
                              repeat (go_quiet (first | ((with_reducible refine gate_dst (N := 94) rfl ?_); refine Kd.R_lit (Kd.int .i64) _ 3 ?hg (N := 94) ?hd (xs := ([(wrap64 (a0)), (ji19)] : List Int)) (inner := [.int .i64 (wrap64 (a0)), .int .i64 (ji19)]) (ok := fun _ => True) (okp := fun _ => True) ?hr ?hp (fun _ hk => hk) trivial (Below.refl _ _) (Nat.le_refl _) (by simp) ?_; (case hd => rfl); (case hg => rfl); (case hr => first | (go_simp; done) | (go_simp; rfl)); (case hp => exact (Reps.one (show Kd.M (Kd.int .i64) _ _ _ (wrap64 (a0)) [.int .i64 (wrap64 (a0))] from rfl) (Reps.one (show Kd.M (Kd.int .i64) _ _ _ (ji19) [.int .i64 (ji19)] from rfl) (Reps.none _ _)))); intro v299 w69 ho70 hb hg_ hnew_; clear hg_ hnew_; (first | rw [← Ny298.out] at ho70 | (simp only [Int.reduceToNat] at ho70; rw [← Ny298.out] at ho70)); have n0_ := Aside0.mk (Kd.R_lower ho70 (below_size (by repeat (first | (with_reducible first | exact HB.out | apply below_alloc | apply pw_below_drewN | apply below_drew1) | exact HB.out)))); have n1_ := Aside0.mk (below_step (by repeat (first | (with_reducible first | exact HB.out | apply below_alloc | apply pw_below_drewN | apply below_drew1) | exact HB.out)) hb); clear HB; have HO300 := n0_; have HB := n1_; clear n0_ n1_; clear hb ho70; obtain ⟨Ao71, co71, eo71⟩ := Kd.R_slice HO300.out; subst eo71) | (go_at_call 23; (with_reducible refine (arith_Value.calls kj55 14 0 0 _ _ y298 t301 t302 _ ?side1 ?side2 A59.out).mono ?_); (case side1 => repeat (first | exact (Kd.R_reads' HO300.out).2.2 | (with_reducible refine Kd.C_alloc ?_ _) | (with_reducible refine Kd.C_drewN ?_ _) | (with_reducible refine Kd.C_drew ?_))); (case side2 => exact (Kd.R_reads' HO300.out).2.1); rintro e w72 ⟨rfl, hb⟩; have n0_ := Aside0.mk (Kd.R_below (by (with_reducible repeat (first | apply Kd.R_alloc | apply Kd.R_drewN | apply Kd.R_drew)); exact HO300.out) hb); have n1_ := Aside0.mk (below_step (by repeat (first | (with_reducible first | exact HB.out | apply below_alloc | apply pw_below_drewN | apply below_drew1) | exact HB.out)) hb); clear HO300; clear HB; have HO300 := n0_; have HB := n1_; clear n0_ n1_; (try clear hb); (try clear hb2); (try clear hk); (try clear hi)) | ((with_reducible refine gate_dst (N := 101) rfl ?_); refine Kd.R_lit (Kd.int .i64) _ 3 ?hg (N := 101) ?hd (xs := ([(wrap64 (a0))] : List Int)) (inner := [.int .i64 (wrap64 (a0))]) (ok := fun _ => True) (okp := fun _ => True) ?hr ?hp (fun _ hk => hk) trivial (Below.refl _ _) (Nat.le_refl _) (by simp) ?_; (case hd => rfl); (case hg => rfl); (case hr => first | (go_simp; done) | (go_simp; rfl)); (case hp => exact (Reps.one (show Kd.M (Kd.int .i64) _ _ _ (wrap64 (a0)) [.int .i64 (wrap64 (a0))] from rfl) (Reps.none _ _))); intro v304 w73 ho74 hb hg_ hnew_; clear hg_ hnew_; (first | rw [← Ny303.out] at ho74 | (simp only [Int.reduceToNat] at ho74; rw [← Ny303.out] at ho74)); have n0_ := Aside0.mk (Kd.R_elder' (by (with_reducible repeat (first | apply Kd.R_alloc | apply Kd.R_drewN | apply Kd.R_drew)); exact HO300.out) (Kd.R_base ho74) hb); have n1_ := Aside0.mk (Kd.R_lower (Kd.R_new' ho74 (Kd.R_lt (by (with_reducible repeat (first | apply Kd.R_alloc | apply Kd.R_drewN | apply Kd.R_drew)); exact HO300.out))) (below_size (by repeat (first | (with_reducible first | exact HB.out | apply below_alloc | apply pw_below_drewN | apply below_drew1) | exact HB.out)))); have n2_ := Aside0.mk (below_step (by repeat (first | (with_reducible first | exact HB.out | apply below_alloc | apply pw_below_drewN | apply below_drew1) | exact HB.out)) hb); clear HO300; clear HB; have HO300 := n0_; have HO305 := n1_; have HB := n2_; clear n0_ n1_ n2_; clear hb ho74; obtain ⟨Ao75, co75, eo75⟩ := Kd.R_slice HO305.out; subst eo75) | (go_at_call 23; (with_reducible refine (arith_Value.calls kj55 30 (ji19) 0 _ _ y303 t306 t307 _ ?side1 ?side2 A60.out).mono ?_); (case side1 => repeat (first | exact (Kd.R_reads' HO305.out).2.2 | (with_reducible refine Kd.C_alloc ?_ _) | (with_reducible refine Kd.C_drewN ?_ _) | (with_reducible refine Kd.C_drew ?_))); (case side2 => exact (Kd.R_reads' HO305.out).2.1); rintro e w76 ⟨rfl, hb⟩; have n0_ := Aside0.mk (Kd.R_below (by (with_reducible repeat (first | apply Kd.R_alloc | apply Kd.R_drewN | apply Kd.R_drew)); exact HO300.out) hb); have n1_ := Aside0.mk (Kd.R_below (by (with_reducible repeat (first | apply Kd.R_alloc | apply Kd.R_drewN | apply Kd.R_drew)); exact HO305.out) hb); have n2_ := Aside0.mk (below_step (by repeat (first | (with_reducible first | exact HB.out | apply below_alloc | apply pw_below_drewN | apply below_drew1) | exact HB.out)) hb); clear HO300; clear HO305; clear HB; have HO300 := n0_; have HO305 := n1_; have HB := n2_; clear n0_ n1_ n2_; (try clear hb); (try clear hb2); (try clear hk); (try clear hi))); try go_wp2_with (first | ((with_reducible refine gate_dst (N := 94) rfl ?_); refine Kd.R_lit (Kd.int .i64) _ 3 ?hg (N := 94) ?hd (xs := ([(wrap64 (a0)), (ji19)] : List Int)) (inner := [.int .i64 (wrap64 (a0)), .int .i64 (ji19)]) (ok := fun _ => True) (okp := fun _ => True) ?hr ?hp (fun _ hk => hk) trivial (Below.refl _ _) (Nat.le_refl _) (by simp) ?_; (case hd => rfl); (case hg => rfl); (case hr => first | (go_simp; done) | (go_simp; rfl)); (case hp => exact (Reps.one (show Kd.M (Kd.int .i64) _ _ _ (wrap64 (a0)) [.int .i64 (wrap64 (a0))] from rfl) (Reps.one (show Kd.M (Kd.int .i64) _ _ _ (ji19) [.int .i64 (ji19)] from rfl) (Reps.none _ _)))); intro v299 w69 ho70 hb hg_ hnew_; clear hg_ hnew_; (first | rw [← Ny298.out] at ho70 | (simp only [Int.reduceToNat] at ho70; rw [← Ny298.out] at ho70)); have n0_ := Aside0.mk (Kd.R_lower ho70 (below_size (by repeat (first | (with_reducible first | exact HB.out | apply below_alloc | apply pw_below_drewN | apply below_drew1) | exact HB.out)))); have n1_ := Aside0.mk (below_step (by repeat (first | (with_reducible first | exact HB.out | apply below_alloc | apply pw_below_drewN | apply below_drew1) | exact HB.out)) hb); clear HB; have HO300 := n0_; have HB := n1_; clear n0_ n1_; clear hb ho70; obtain ⟨Ao71, co71, eo71⟩ := Kd.R_slice HO300.out; subst eo71) | (go_at_call 23; (with_reducible refine (arith_Value.calls kj55 14 0 0 _ _ y298 t301 t302 _ ?side1 ?side2 A59.out).mono ?_); (case side1 => repeat (first | exact (Kd.R_reads' HO300.out).2.2 | (with_reducible refine Kd.C_alloc ?_ _) | (with_reducible refine Kd.C_drewN ?_ _) | (with_reducible refine Kd.C_drew ?_))); (case side2 => exact (Kd.R_reads' HO300.out).2.1); rintro e w72 ⟨rfl, hb⟩; have n0_ := Aside0.mk (Kd.R_below (by (with_reducible repeat (first | apply Kd.R_alloc | apply Kd.R_drewN | apply Kd.R_drew)); exact HO300.out) hb); have n1_ := Aside0.mk (below_step (by repeat (first | (with_reducible first | exact HB.out | apply below_alloc | apply pw_below_drewN | apply below_drew1) | exact HB.out)) hb); clear HO300; clear HB; have HO300 := n0_; have HB := n1_; clear n0_ n1_; (try clear hb); (try clear hb2); (try clear hk); (try clear hi)) | ((with_reducible refine gate_dst (N := 101) rfl ?_); refine Kd.R_lit (Kd.int .i64) _ 3 ?hg (N := 101) ?hd (xs := ([(wrap64 (a0))] : List Int)) (inner := [.int .i64 (wrap64 (a0))]) (ok := fun _ => True) (okp := fun _ => True) ?hr ?hp (fun _ hk => hk) trivial (Below.refl _ _) (Nat.le_refl _) (by simp) ?_; (case hd => rfl); (case hg => rfl); (case hr => first | (go_simp; done) | (go_simp; rfl)); (case hp => exact (Reps.one (show Kd.M (Kd.int .i64) _ _ _ (wrap64 (a0)) [.int .i64 (wrap64 (a0))] from rfl) (Reps.none _ _))); intro v304 w73 ho74 hb hg_ hnew_; clear hg_ hnew_; (first | rw [← Ny303.out] at ho74 | (simp only [Int.reduceToNat] at ho74; rw [← Ny303.out] at ho74)); have n0_ := Aside0.mk (Kd.R_elder' (by (with_reducible repeat (first | apply Kd.R_alloc | apply Kd.R_drewN | apply Kd.R_drew)); exact HO300.out) (Kd.R_base ho74) hb); have n1_ := Aside0.mk (Kd.R_lower (Kd.R_new' ho74 (Kd.R_lt (by (with_reducible repeat (first | apply Kd.R_alloc | apply Kd.R_drewN | apply Kd.R_drew)); exact HO300.out))) (below_size (by repeat (first | (with_reducible first | exact HB.out | apply below_alloc | apply pw_below_drewN | apply below_drew1) | exact HB.out)))); have n2_ := Aside0.mk (below_step (by repeat (first | (with_reducible first | exact HB.out | apply below_alloc | apply pw_below_drewN | apply below_drew1) | exact HB.out)) hb); clear HO300; clear HB; have HO300 := n0_; have HO305 := n1_; have HB := n2_; clear n0_ n1_ n2_; clear hb ho74; obtain ⟨Ao75, co75, eo75⟩ := Kd.R_slice HO305.out; subst eo75) | (go_at_call 23; (with_reducible refine (arith_Value.calls kj55 30 (ji19) 0 _ _ y303 t306 t307 _ ?side1 ?side2 A60.out).mono ?_); (case side1 => repeat (first | exact (Kd.R_reads' HO305.out).2.2 | (with_reducible refine Kd.C_alloc ?_ _) | (with_reducible refine Kd.C_drewN ?_ _) | (with_reducible refine Kd.C_drew ?_))); (case side2 => exact (Kd.R_reads' HO305.out).2.1); rintro e w76 ⟨rfl, hb⟩; have n0_ := Aside0.mk (Kd.R_below (by (with_reducible repeat (first | apply Kd.R_alloc | apply Kd.R_drewN | apply Kd.R_drew)); exact HO300.out) hb); have n1_ := Aside0.mk (Kd.R_below (by (with_reducible repeat (first | apply Kd.R_alloc | apply Kd.R_drewN | apply Kd.R_drew)); exact HO305.out) hb); have n2_ := Aside0.mk (below_step (by repeat (first | (with_reducible first | exact HB.out | apply below_alloc | apply pw_below_drewN | apply below_drew1) | exact HB.out)) hb); clear HO300; clear HO305; clear HB; have HO300 := n0_; have HO305 := n1_; have HB := n2_; clear n0_ n1_ n2_; (try clear hb); (try clear hb2); (try clear hk); (try clear hi))))
                              go_ret
                              exact ⟨by first | rfl | (simp [errW_none, errW_some] <;> rfl) | (simp only [← hji19, ← hji21, ← hji65]; first | rfl | (simp [errW_none, errW_some] <;> rfl)) | (simp [*, errW_none, errW_some] <;> rfl), by repeat (first | (with_reducible first | exact HB.out | apply below_alloc | apply pw_below_drewN | apply below_drew1) | exact HB.out)⟩
                            · rw [if_neg c68] at H
                              have c68b0 : decide ((wrap64 (a0)) < (wrap64 ((wrap64 (t301 + 1)) * (ji65)))) = false := decide_eq_false c68
                              clear c68
                              exact absurd hrT.out (by have h_ := Option.some.inj H; rw [← h_]; decide)
                          · rw [if_neg c66] at H
                            have c66b0 : decide ((wrap64 (t301 * (ji65))) ≤ (wrap64 (a0))) = false := decide_eq_false c66
                            clear c66
                            exact absurd hrT.out (by have h_ := Option.some.inj H; rw [← h_]; decide)
                        · rw [if_neg c64] at H
                          exact absurd H (by simp)
                      · rw [if_neg c63] at H
                        have c63b0 : (t301 == t306) = false := beq_eq_false_iff_ne.mpr c63
                        have c63b1 : (t301 != t306) = true := bne_iff_ne.mpr c63
                        exact absurd hrT.out (by have h_ := Option.some.inj H; rw [← h_]; decide)
                    · rw [if_neg c62] at H
                      have c62b0 : (t307 == 0) = false := beq_eq_false_iff_ne.mpr c62
                      have c62b1 : (t307 != 0) = true := bne_iff_ne.mpr c62
                      exact absurd hrT.out (by have h_ := Option.some.inj H; rw [← h_]; decide)
                  · rw [if_neg c61] at H
                    have c61b0 : (t302 == 0) = false := beq_eq_false_iff_ne.mpr c61
                    have c61b1 : (t302 != 0) = true := bne_iff_ne.mpr c61
                    exact absurd hrT.out (by have h_ := Option.some.inj H; rw [← h_]; decide)
        · rw [if_neg c20] at H
          exact absurd H (by simp)

/-- THE ONE PURE STATEMENT of damasklaw04_ArithShifts: yours. -/
def damasklaw04_ArithShifts.Pure : Prop := ∀ (a0 : Int) (a1 : Int), (Lit.int .i32 a0).wf = true → (Lit.int .u8 a1).wf = true → ∃ k, damasklaw04_ArithShifts.f k a0 a1 = some true
theorem damasklaw04_ArithShifts.walk (P : damasklaw04_ArithShifts.Pure) (a0 : Int) (a1 : Int) (w : World) (w0 : (Lit.int .i32 a0).wf = true) (w1 : (Lit.int .u8 a1).wf = true) :
    Calls Try.prog 6 #[.int .i32 a0, .int .u8 a1] w fun e w' => e = .returned (.bool true) ∧ Below w.heap.size w w' := by
  obtain ⟨k, h⟩ := P a0 a1 w0 w1
  refine (damasklaw04_ArithShifts.calls k a0 a1 true w rfl h).mono ?_
  rintro e w' ⟨rfl, hd⟩
  exact ⟨rfl, hd⟩

end Go.Proofs.Ytpnldhimlpilhaa.F
