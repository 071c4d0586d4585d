/- Written by wip/myprint.py of this session, out of Lean's print of the program: what Go functions come to, and that their calls come to it; no condition. -/
import Derived.Test.YtpnldhimlpilhaaF0
import Derived.Test.YtpnldhimlpilhaaFarith3
import Derived.Test.YtpnldhimlpilhaaFdamasklaw041
namespace Go.Proofs.Ytpnldhimlpilhaa.F
open Go.RowKit Go.Proofs.YtpnldhimlpilhaaW.PrintWords Go.Proofs.YtpnldhimlpilhaaW.PrintLast Go.Proofs.YtpnldhimlpilhaaW.PrintMore
attribute [local go_sem] max2_int min2_int max_two min_two max_three min_three max_four min_four   -- for this text's walks alone
set_option linter.unusedVariables false
set_option linter.unusedSimpArgs false

/-! ### damasklaw04_ArithBits: function 7 -/
def damasklaw04_ArithBits.j0 : Nat → Int → Int → Int → Bool → Option (Bool)
  | 0, _, _, _, _ => none
  | k + 1, x5, x6, x7, x105 => if x105 = true then (some false) else (if x6 < 0 then (some true) else ((arith_Value.f k 31 x6 0 (([x5] : List Int))).bind fun bt312 => (if bt312.2 = 0 then (if bt312.1 = x7 then (if bt312.1 ≥ 0 then (some (decide (bt312.1 ≤ x6))) else (some false)) else (some false)) else (some false))))
def damasklaw04_ArithBits.f (k : Nat) (a0 : Int) (a1 : Int) : Option (Bool) := (damasklaw04_of.f k 15 (([wrap64 (a0), wrap64 (a1)] : List Int))).bind fun bt286 => ((damasklaw04_of.f k 16 (([wrap64 (a0), wrap64 (a1)] : List Int))).bind fun bt291 => ((damasklaw04_of.f k 17 (([wrap64 (a0), wrap64 (a1)] : List Int))).bind fun bt296 => ((damasklaw04_of.f k 17 (([wrap64 (a0), (-1)] : List Int))).bind fun bt301 => ((damasklaw04_of.f k 15 (([wrap64 (a0), bt301.1] : List Int))).bind fun bt306 => ((damasklaw04_awake.f k).bind fun t308 => (if t308 = true then (if bt286.2 = true then (if bt291.2 = true then (if bt296.2 = true then (if bt301.2 = true then (if bt306.2 = true then (if (wrap64 (bt286.1 + bt291.1)) = (wrap64 ((wrap64 (a0)) + (wrap64 (a1)))) then (if (wrap64 (bt291.1 - bt286.1)) = bt296.1 then (if bt306.1 = 0 then (damasklaw04_ArithBits.j0 k (wrap64 (a0)) (wrap64 (a1)) bt286.1 (bt301.1 != (wrap64 ((wrap64 (-(wrap64 (a0)))) - 1)))) else (damasklaw04_ArithBits.j0 k (wrap64 (a0)) (wrap64 (a1)) bt286.1 true)) else (damasklaw04_ArithBits.j0 k (wrap64 (a0)) (wrap64 (a1)) bt286.1 true)) else (damasklaw04_ArithBits.j0 k (wrap64 (a0)) (wrap64 (a1)) bt286.1 true)) else (damasklaw04_ArithBits.j0 k (wrap64 (a0)) (wrap64 (a1)) bt286.1 true)) else (damasklaw04_ArithBits.j0 k (wrap64 (a0)) (wrap64 (a1)) bt286.1 true)) else (damasklaw04_ArithBits.j0 k (wrap64 (a0)) (wrap64 (a1)) bt286.1 true)) else (damasklaw04_ArithBits.j0 k (wrap64 (a0)) (wrap64 (a1)) bt286.1 true)) else (damasklaw04_ArithBits.j0 k (wrap64 (a0)) (wrap64 (a1)) bt286.1 true)) else (damasklaw04_ArithBits.j0 k (wrap64 (a0)) (wrap64 (a1)) bt286.1 true)))))))
theorem damasklaw04_ArithBits.mono_l : ∀ k, (∀ y0 y1 y2 y3, LeO (damasklaw04_ArithBits.j0 k y0 y1 y2 y3) (damasklaw04_ArithBits.j0 (k + 1) y0 y1 y2 y3))
  | 0 => fun _ _ _ _ r h => by simp [damasklaw04_ArithBits.j0] at h
  | k + 1 => by
    have ih0 := damasklaw04_ArithBits.mono_l k
    · intro y0 y1 y2 y3
      unfold damasklaw04_ArithBits.j0
      repeat' first
      | (with_reducible exact ih0 _ _ _ _)
      | (with_reducible exact arith_Value.mono _ _ _ _ _)
      | (with_reducible exact damasklaw04_awake.mono _)
      | (with_reducible exact damasklaw04_of.mono _ _ _)
      | (with_reducible exact LeO.refl _)
      | (with_reducible exact LeO.none _)
      | (with_reducible refine LeO.ite ?_ ?_)
      | (with_reducible refine LeO.bind ?_ (fun _ => ?_))
      | exact ih0 _ _ _ _
      | exact arith_Value.mono _ _ _ _ _
      | exact damasklaw04_awake.mono _
      | exact damasklaw04_of.mono _ _ _
      | exact LeO.none _
      | refine LeO.ite ?_ ?_
      | refine LeO.bind ?_ (fun _ => ?_)
theorem damasklaw04_ArithBits.mono : ∀ a0 a1 k, LeO (damasklaw04_ArithBits.f k a0 a1) (damasklaw04_ArithBits.f (k + 1) a0 a1) := by
  intro a0 a1 k
  have ih0 := damasklaw04_ArithBits.mono_l k
  unfold damasklaw04_ArithBits.f
  repeat' first
      | (with_reducible exact ih0 _ _ _ _)
      | (with_reducible exact arith_Value.mono _ _ _ _ _)
      | (with_reducible exact damasklaw04_awake.mono _)
      | (with_reducible exact damasklaw04_of.mono _ _ _)
      | (with_reducible exact LeO.refl _)
      | (with_reducible exact LeO.none _)
      | (with_reducible refine LeO.ite ?_ ?_)
      | (with_reducible refine LeO.bind ?_ (fun _ => ?_))
      | exact ih0 _ _ _ _
      | exact arith_Value.mono _ _ _ _ _
      | exact damasklaw04_awake.mono _
      | exact damasklaw04_of.mono _ _ _
      | exact LeO.none _
      | refine LeO.ite ?_ ?_
      | refine LeO.bind ?_ (fun _ => ?_)
set_option maxHeartbeats 8000000 in
set_option maxRecDepth 100000 in
theorem damasklaw04_ArithBits.calls (k : Nat) (a0 : Int) (a1 : Int) (r : Bool) (w : World) (hrT0 : r = true) (h : damasklaw04_ArithBits.f k a0 a1 = some r) :
    Calls Try.prog 7 #[.int .i32 a0, .int .i32 a1] w fun e w' => e = .returned (.bool r) ∧ Below w.heap.size w w' := by
  have HB := Aside0.mk (Below.refl w.heap.size w)
  have hrT := Aside0.mk hrT0
  clear hrT0
  have H : ((damasklaw04_of.f k 15 (([wrap64 (a0), wrap64 (a1)] : List Int))).bind fun bt286 => ((damasklaw04_of.f k 16 (([wrap64 (a0), wrap64 (a1)] : List Int))).bind fun bt291 => ((damasklaw04_of.f k 17 (([wrap64 (a0), wrap64 (a1)] : List Int))).bind fun bt296 => ((damasklaw04_of.f k 17 (([wrap64 (a0), (-1)] : List Int))).bind fun bt301 => ((damasklaw04_of.f k 15 (([wrap64 (a0), bt301.1] : List Int))).bind fun bt306 => ((damasklaw04_awake.f k).bind fun t308 => (if t308 = true then (if bt286.2 = true then (if bt291.2 = true then (if bt296.2 = true then (if bt301.2 = true then (if bt306.2 = true then (if (wrap64 (bt286.1 + bt291.1)) = (wrap64 ((wrap64 (a0)) + (wrap64 (a1)))) then (if (wrap64 (bt291.1 - bt286.1)) = bt296.1 then (if bt306.1 = 0 then (damasklaw04_ArithBits.j0 k (wrap64 (a0)) (wrap64 (a1)) bt286.1 (bt301.1 != (wrap64 ((wrap64 (-(wrap64 (a0)))) - 1)))) else (damasklaw04_ArithBits.j0 k (wrap64 (a0)) (wrap64 (a1)) bt286.1 true)) else (damasklaw04_ArithBits.j0 k (wrap64 (a0)) (wrap64 (a1)) bt286.1 true)) else (damasklaw04_ArithBits.j0 k (wrap64 (a0)) (wrap64 (a1)) bt286.1 true)) else (damasklaw04_ArithBits.j0 k (wrap64 (a0)) (wrap64 (a1)) bt286.1 true)) else (damasklaw04_ArithBits.j0 k (wrap64 (a0)) (wrap64 (a1)) bt286.1 true)) else (damasklaw04_ArithBits.j0 k (wrap64 (a0)) (wrap64 (a1)) bt286.1 true)) else (damasklaw04_ArithBits.j0 k (wrap64 (a0)) (wrap64 (a1)) bt286.1 true)) else (damasklaw04_ArithBits.j0 k (wrap64 (a0)) (wrap64 (a1)) bt286.1 true)) else (damasklaw04_ArithBits.j0 k (wrap64 (a0)) (wrap64 (a1)) bt286.1 true)))))))) = some r := h
  clear h
  obtain ⟨y283, hy283⟩ : ∃ y_ : List Int, y_ = (([wrap64 (a0), wrap64 (a1)] : List Int)) := ⟨_, rfl⟩
  replace H : ((damasklaw04_of.f k 15 y283).bind fun bt286 => ((damasklaw04_of.f k 16 (([wrap64 (a0), wrap64 (a1)] : List Int))).bind fun bt291 => ((damasklaw04_of.f k 17 (([wrap64 (a0), wrap64 (a1)] : List Int))).bind fun bt296 => ((damasklaw04_of.f k 17 (([wrap64 (a0), (-1)] : List Int))).bind fun bt301 => ((damasklaw04_of.f k 15 (([wrap64 (a0), bt301.1] : List Int))).bind fun bt306 => ((damasklaw04_awake.f k).bind fun t308 => (if t308 = true then (if bt286.2 = true then (if bt291.2 = true then (if bt296.2 = true then (if bt301.2 = true then (if bt306.2 = true then (if (wrap64 (bt286.1 + bt291.1)) = (wrap64 ((wrap64 (a0)) + (wrap64 (a1)))) then (if (wrap64 (bt291.1 - bt286.1)) = bt296.1 then (if bt306.1 = 0 then (damasklaw04_ArithBits.j0 k (wrap64 (a0)) (wrap64 (a1)) bt286.1 (bt301.1 != (wrap64 ((wrap64 (-(wrap64 (a0)))) - 1)))) else (damasklaw04_ArithBits.j0 k (wrap64 (a0)) (wrap64 (a1)) bt286.1 true)) else (damasklaw04_ArithBits.j0 k (wrap64 (a0)) (wrap64 (a1)) bt286.1 true)) else (damasklaw04_ArithBits.j0 k (wrap64 (a0)) (wrap64 (a1)) bt286.1 true)) else (damasklaw04_ArithBits.j0 k (wrap64 (a0)) (wrap64 (a1)) bt286.1 true)) else (damasklaw04_ArithBits.j0 k (wrap64 (a0)) (wrap64 (a1)) bt286.1 true)) else (damasklaw04_ArithBits.j0 k (wrap64 (a0)) (wrap64 (a1)) bt286.1 true)) else (damasklaw04_ArithBits.j0 k (wrap64 (a0)) (wrap64 (a1)) bt286.1 true)) else (damasklaw04_ArithBits.j0 k (wrap64 (a0)) (wrap64 (a1)) bt286.1 true)) else (damasklaw04_ArithBits.j0 k (wrap64 (a0)) (wrap64 (a1)) bt286.1 true)))))))) = some r := by first | (rw [hy283]; with_reducible exact H) | (have H2_ := (Option.bind_some _ _).symm.trans H; rw [hy283]; with_reducible exact H2_) | (have H2_ := (Option.bind_some _ _).symm.trans H; with_reducible exact H2_) | with_reducible exact H | (rw [hy283]; exact H) | exact H
  have Ny283 := Aside0.mk hy283
  clear hy283
  replace H := Option.bind_eq_some_iff.mp H
  obtain ⟨⟨t286, t287⟩, A30, H⟩ := H
  replace H : ((damasklaw04_of.f k 16 (([wrap64 (a0), wrap64 (a1)] : List Int))).bind fun bt291 => ((damasklaw04_of.f k 17 (([wrap64 (a0), wrap64 (a1)] : List Int))).bind fun bt296 => ((damasklaw04_of.f k 17 (([wrap64 (a0), (-1)] : List Int))).bind fun bt301 => ((damasklaw04_of.f k 15 (([wrap64 (a0), bt301.1] : List Int))).bind fun bt306 => ((damasklaw04_awake.f k).bind fun t308 => (if t308 = true then (if t287 = true then (if bt291.2 = true then (if bt296.2 = true then (if bt301.2 = true then (if bt306.2 = true then (if (wrap64 (t286 + bt291.1)) = (wrap64 ((wrap64 (a0)) + (wrap64 (a1)))) then (if (wrap64 (bt291.1 - t286)) = bt296.1 then (if bt306.1 = 0 then (damasklaw04_ArithBits.j0 k (wrap64 (a0)) (wrap64 (a1)) t286 (bt301.1 != (wrap64 ((wrap64 (-(wrap64 (a0)))) - 1)))) else (damasklaw04_ArithBits.j0 k (wrap64 (a0)) (wrap64 (a1)) t286 true)) else (damasklaw04_ArithBits.j0 k (wrap64 (a0)) (wrap64 (a1)) t286 true)) else (damasklaw04_ArithBits.j0 k (wrap64 (a0)) (wrap64 (a1)) t286 true)) else (damasklaw04_ArithBits.j0 k (wrap64 (a0)) (wrap64 (a1)) t286 true)) else (damasklaw04_ArithBits.j0 k (wrap64 (a0)) (wrap64 (a1)) t286 true)) else (damasklaw04_ArithBits.j0 k (wrap64 (a0)) (wrap64 (a1)) t286 true)) else (damasklaw04_ArithBits.j0 k (wrap64 (a0)) (wrap64 (a1)) t286 true)) else (damasklaw04_ArithBits.j0 k (wrap64 (a0)) (wrap64 (a1)) t286 true)) else (damasklaw04_ArithBits.j0 k (wrap64 (a0)) (wrap64 (a1)) t286 true))))))) = some r := H
  have A3 := Aside0.mk A30
  clear A30
  obtain ⟨y288, hy288⟩ : ∃ y_ : List Int, y_ = (([wrap64 (a0), wrap64 (a1)] : List Int)) := ⟨_, rfl⟩
  replace H : ((damasklaw04_of.f k 16 y288).bind fun bt291 => ((damasklaw04_of.f k 17 (([wrap64 (a0), wrap64 (a1)] : List Int))).bind fun bt296 => ((damasklaw04_of.f k 17 (([wrap64 (a0), (-1)] : List Int))).bind fun bt301 => ((damasklaw04_of.f k 15 (([wrap64 (a0), bt301.1] : List Int))).bind fun bt306 => ((damasklaw04_awake.f k).bind fun t308 => (if t308 = true then (if t287 = true then (if bt291.2 = true then (if bt296.2 = true then (if bt301.2 = true then (if bt306.2 = true then (if (wrap64 (t286 + bt291.1)) = (wrap64 ((wrap64 (a0)) + (wrap64 (a1)))) then (if (wrap64 (bt291.1 - t286)) = bt296.1 then (if bt306.1 = 0 then (damasklaw04_ArithBits.j0 k (wrap64 (a0)) (wrap64 (a1)) t286 (bt301.1 != (wrap64 ((wrap64 (-(wrap64 (a0)))) - 1)))) else (damasklaw04_ArithBits.j0 k (wrap64 (a0)) (wrap64 (a1)) t286 true)) else (damasklaw04_ArithBits.j0 k (wrap64 (a0)) (wrap64 (a1)) t286 true)) else (damasklaw04_ArithBits.j0 k (wrap64 (a0)) (wrap64 (a1)) t286 true)) else (damasklaw04_ArithBits.j0 k (wrap64 (a0)) (wrap64 (a1)) t286 true)) else (damasklaw04_ArithBits.j0 k (wrap64 (a0)) (wrap64 (a1)) t286 true)) else (damasklaw04_ArithBits.j0 k (wrap64 (a0)) (wrap64 (a1)) t286 true)) else (damasklaw04_ArithBits.j0 k (wrap64 (a0)) (wrap64 (a1)) t286 true)) else (damasklaw04_ArithBits.j0 k (wrap64 (a0)) (wrap64 (a1)) t286 true)) else (damasklaw04_ArithBits.j0 k (wrap64 (a0)) (wrap64 (a1)) t286 true))))))) = some r := by first | (rw [hy288]; with_reducible exact H) | (have H2_ := (Option.bind_some _ _).symm.trans H; rw [hy288]; with_reducible exact H2_) | (have H2_ := (Option.bind_some _ _).symm.trans H; with_reducible exact H2_) | with_reducible exact H | (rw [hy288]; exact H) | exact H
  have Ny288 := Aside0.mk hy288
  clear hy288
  replace H := Option.bind_eq_some_iff.mp H
  obtain ⟨⟨t291, t292⟩, A40, H⟩ := H
  replace H : ((damasklaw04_of.f k 17 (([wrap64 (a0), wrap64 (a1)] : List Int))).bind fun bt296 => ((damasklaw04_of.f k 17 (([wrap64 (a0), (-1)] : List Int))).bind fun bt301 => ((damasklaw04_of.f k 15 (([wrap64 (a0), bt301.1] : List Int))).bind fun bt306 => ((damasklaw04_awake.f k).bind fun t308 => (if t308 = true then (if t287 = true then (if t292 = true then (if bt296.2 = true then (if bt301.2 = true then (if bt306.2 = true then (if (wrap64 (t286 + t291)) = (wrap64 ((wrap64 (a0)) + (wrap64 (a1)))) then (if (wrap64 (t291 - t286)) = bt296.1 then (if bt306.1 = 0 then (damasklaw04_ArithBits.j0 k (wrap64 (a0)) (wrap64 (a1)) t286 (bt301.1 != (wrap64 ((wrap64 (-(wrap64 (a0)))) - 1)))) else (damasklaw04_ArithBits.j0 k (wrap64 (a0)) (wrap64 (a1)) t286 true)) else (damasklaw04_ArithBits.j0 k (wrap64 (a0)) (wrap64 (a1)) t286 true)) else (damasklaw04_ArithBits.j0 k (wrap64 (a0)) (wrap64 (a1)) t286 true)) else (damasklaw04_ArithBits.j0 k (wrap64 (a0)) (wrap64 (a1)) t286 true)) else (damasklaw04_ArithBits.j0 k (wrap64 (a0)) (wrap64 (a1)) t286 true)) else (damasklaw04_ArithBits.j0 k (wrap64 (a0)) (wrap64 (a1)) t286 true)) else (damasklaw04_ArithBits.j0 k (wrap64 (a0)) (wrap64 (a1)) t286 true)) else (damasklaw04_ArithBits.j0 k (wrap64 (a0)) (wrap64 (a1)) t286 true)) else (damasklaw04_ArithBits.j0 k (wrap64 (a0)) (wrap64 (a1)) t286 true)))))) = some r := H
  have A4 := Aside0.mk A40
  clear A40
  obtain ⟨y293, hy293⟩ : ∃ y_ : List Int, y_ = (([wrap64 (a0), wrap64 (a1)] : List Int)) := ⟨_, rfl⟩
  replace H : ((damasklaw04_of.f k 17 y293).bind fun bt296 => ((damasklaw04_of.f k 17 (([wrap64 (a0), (-1)] : List Int))).bind fun bt301 => ((damasklaw04_of.f k 15 (([wrap64 (a0), bt301.1] : List Int))).bind fun bt306 => ((damasklaw04_awake.f k).bind fun t308 => (if t308 = true then (if t287 = true then (if t292 = true then (if bt296.2 = true then (if bt301.2 = true then (if bt306.2 = true then (if (wrap64 (t286 + t291)) = (wrap64 ((wrap64 (a0)) + (wrap64 (a1)))) then (if (wrap64 (t291 - t286)) = bt296.1 then (if bt306.1 = 0 then (damasklaw04_ArithBits.j0 k (wrap64 (a0)) (wrap64 (a1)) t286 (bt301.1 != (wrap64 ((wrap64 (-(wrap64 (a0)))) - 1)))) else (damasklaw04_ArithBits.j0 k (wrap64 (a0)) (wrap64 (a1)) t286 true)) else (damasklaw04_ArithBits.j0 k (wrap64 (a0)) (wrap64 (a1)) t286 true)) else (damasklaw04_ArithBits.j0 k (wrap64 (a0)) (wrap64 (a1)) t286 true)) else (damasklaw04_ArithBits.j0 k (wrap64 (a0)) (wrap64 (a1)) t286 true)) else (damasklaw04_ArithBits.j0 k (wrap64 (a0)) (wrap64 (a1)) t286 true)) else (damasklaw04_ArithBits.j0 k (wrap64 (a0)) (wrap64 (a1)) t286 true)) else (damasklaw04_ArithBits.j0 k (wrap64 (a0)) (wrap64 (a1)) t286 true)) else (damasklaw04_ArithBits.j0 k (wrap64 (a0)) (wrap64 (a1)) t286 true)) else (damasklaw04_ArithBits.j0 k (wrap64 (a0)) (wrap64 (a1)) t286 true)))))) = some r := by first | (rw [hy293]; with_reducible exact H) | (have H2_ := (Option.bind_some _ _).symm.trans H; rw [hy293]; with_reducible exact H2_) | (have H2_ := (Option.bind_some _ _).symm.trans H; with_reducible exact H2_) | with_reducible exact H | (rw [hy293]; exact H) | exact H
  have Ny293 := Aside0.mk hy293
  clear hy293
  replace H := Option.bind_eq_some_iff.mp H
  obtain ⟨⟨t296, t297⟩, A50, H⟩ := H
  replace H : ((damasklaw04_of.f k 17 (([wrap64 (a0), (-1)] : List Int))).bind fun bt301 => ((damasklaw04_of.f k 15 (([wrap64 (a0), bt301.1] : List Int))).bind fun bt306 => ((damasklaw04_awake.f k).bind fun t308 => (if t308 = true then (if t287 = true then (if t292 = true then (if t297 = true then (if bt301.2 = true then (if bt306.2 = true then (if (wrap64 (t286 + t291)) = (wrap64 ((wrap64 (a0)) + (wrap64 (a1)))) then (if (wrap64 (t291 - t286)) = t296 then (if bt306.1 = 0 then (damasklaw04_ArithBits.j0 k (wrap64 (a0)) (wrap64 (a1)) t286 (bt301.1 != (wrap64 ((wrap64 (-(wrap64 (a0)))) - 1)))) else (damasklaw04_ArithBits.j0 k (wrap64 (a0)) (wrap64 (a1)) t286 true)) else (damasklaw04_ArithBits.j0 k (wrap64 (a0)) (wrap64 (a1)) t286 true)) else (damasklaw04_ArithBits.j0 k (wrap64 (a0)) (wrap64 (a1)) t286 true)) else (damasklaw04_ArithBits.j0 k (wrap64 (a0)) (wrap64 (a1)) t286 true)) else (damasklaw04_ArithBits.j0 k (wrap64 (a0)) (wrap64 (a1)) t286 true)) else (damasklaw04_ArithBits.j0 k (wrap64 (a0)) (wrap64 (a1)) t286 true)) else (damasklaw04_ArithBits.j0 k (wrap64 (a0)) (wrap64 (a1)) t286 true)) else (damasklaw04_ArithBits.j0 k (wrap64 (a0)) (wrap64 (a1)) t286 true)) else (damasklaw04_ArithBits.j0 k (wrap64 (a0)) (wrap64 (a1)) t286 true))))) = some r := H
  have A5 := Aside0.mk A50
  clear A50
  obtain ⟨y298, hy298⟩ : ∃ y_ : List Int, y_ = (([wrap64 (a0), (-1)] : List Int)) := ⟨_, rfl⟩
  replace H : ((damasklaw04_of.f k 17 y298).bind fun bt301 => ((damasklaw04_of.f k 15 (([wrap64 (a0), bt301.1] : List Int))).bind fun bt306 => ((damasklaw04_awake.f k).bind fun t308 => (if t308 = true then (if t287 = true then (if t292 = true then (if t297 = true then (if bt301.2 = true then (if bt306.2 = true then (if (wrap64 (t286 + t291)) = (wrap64 ((wrap64 (a0)) + (wrap64 (a1)))) then (if (wrap64 (t291 - t286)) = t296 then (if bt306.1 = 0 then (damasklaw04_ArithBits.j0 k (wrap64 (a0)) (wrap64 (a1)) t286 (bt301.1 != (wrap64 ((wrap64 (-(wrap64 (a0)))) - 1)))) else (damasklaw04_ArithBits.j0 k (wrap64 (a0)) (wrap64 (a1)) t286 true)) else (damasklaw04_ArithBits.j0 k (wrap64 (a0)) (wrap64 (a1)) t286 true)) else (damasklaw04_ArithBits.j0 k (wrap64 (a0)) (wrap64 (a1)) t286 true)) else (damasklaw04_ArithBits.j0 k (wrap64 (a0)) (wrap64 (a1)) t286 true)) else (damasklaw04_ArithBits.j0 k (wrap64 (a0)) (wrap64 (a1)) t286 true)) else (damasklaw04_ArithBits.j0 k (wrap64 (a0)) (wrap64 (a1)) t286 true)) else (damasklaw04_ArithBits.j0 k (wrap64 (a0)) (wrap64 (a1)) t286 true)) else (damasklaw04_ArithBits.j0 k (wrap64 (a0)) (wrap64 (a1)) t286 true)) else (damasklaw04_ArithBits.j0 k (wrap64 (a0)) (wrap64 (a1)) t286 true))))) = some r := by first | (rw [hy298]; with_reducible exact H) | (have H2_ := (Option.bind_some _ _).symm.trans H; rw [hy298]; with_reducible exact H2_) | (have H2_ := (Option.bind_some _ _).symm.trans H; with_reducible exact H2_) | with_reducible exact H | (rw [hy298]; exact H) | exact H
  have Ny298 := Aside0.mk hy298
  clear hy298
  replace H := Option.bind_eq_some_iff.mp H
  obtain ⟨⟨t301, t302⟩, A60, H⟩ := H
  replace H : ((damasklaw04_of.f k 15 (([wrap64 (a0), t301] : List Int))).bind fun bt306 => ((damasklaw04_awake.f k).bind fun t308 => (if t308 = true then (if t287 = true then (if t292 = true then (if t297 = true then (if t302 = true then (if bt306.2 = true then (if (wrap64 (t286 + t291)) = (wrap64 ((wrap64 (a0)) + (wrap64 (a1)))) then (if (wrap64 (t291 - t286)) = t296 then (if bt306.1 = 0 then (damasklaw04_ArithBits.j0 k (wrap64 (a0)) (wrap64 (a1)) t286 (t301 != (wrap64 ((wrap64 (-(wrap64 (a0)))) - 1)))) else (damasklaw04_ArithBits.j0 k (wrap64 (a0)) (wrap64 (a1)) t286 true)) else (damasklaw04_ArithBits.j0 k (wrap64 (a0)) (wrap64 (a1)) t286 true)) else (damasklaw04_ArithBits.j0 k (wrap64 (a0)) (wrap64 (a1)) t286 true)) else (damasklaw04_ArithBits.j0 k (wrap64 (a0)) (wrap64 (a1)) t286 true)) else (damasklaw04_ArithBits.j0 k (wrap64 (a0)) (wrap64 (a1)) t286 true)) else (damasklaw04_ArithBits.j0 k (wrap64 (a0)) (wrap64 (a1)) t286 true)) else (damasklaw04_ArithBits.j0 k (wrap64 (a0)) (wrap64 (a1)) t286 true)) else (damasklaw04_ArithBits.j0 k (wrap64 (a0)) (wrap64 (a1)) t286 true)) else (damasklaw04_ArithBits.j0 k (wrap64 (a0)) (wrap64 (a1)) t286 true)))) = some r := H
  have A6 := Aside0.mk A60
  clear A60
  obtain ⟨y303, hy303⟩ : ∃ y_ : List Int, y_ = (([wrap64 (a0), t301] : List Int)) := ⟨_, rfl⟩
  replace H : ((damasklaw04_of.f k 15 y303).bind fun bt306 => ((damasklaw04_awake.f k).bind fun t308 => (if t308 = true then (if t287 = true then (if t292 = true then (if t297 = true then (if t302 = true then (if bt306.2 = true then (if (wrap64 (t286 + t291)) = (wrap64 ((wrap64 (a0)) + (wrap64 (a1)))) then (if (wrap64 (t291 - t286)) = t296 then (if bt306.1 = 0 then (damasklaw04_ArithBits.j0 k (wrap64 (a0)) (wrap64 (a1)) t286 (t301 != (wrap64 ((wrap64 (-(wrap64 (a0)))) - 1)))) else (damasklaw04_ArithBits.j0 k (wrap64 (a0)) (wrap64 (a1)) t286 true)) else (damasklaw04_ArithBits.j0 k (wrap64 (a0)) (wrap64 (a1)) t286 true)) else (damasklaw04_ArithBits.j0 k (wrap64 (a0)) (wrap64 (a1)) t286 true)) else (damasklaw04_ArithBits.j0 k (wrap64 (a0)) (wrap64 (a1)) t286 true)) else (damasklaw04_ArithBits.j0 k (wrap64 (a0)) (wrap64 (a1)) t286 true)) else (damasklaw04_ArithBits.j0 k (wrap64 (a0)) (wrap64 (a1)) t286 true)) else (damasklaw04_ArithBits.j0 k (wrap64 (a0)) (wrap64 (a1)) t286 true)) else (damasklaw04_ArithBits.j0 k (wrap64 (a0)) (wrap64 (a1)) t286 true)) else (damasklaw04_ArithBits.j0 k (wrap64 (a0)) (wrap64 (a1)) t286 true)))) = some r := by first | (rw [hy303]; with_reducible exact H) | (have H2_ := (Option.bind_some _ _).symm.trans H; rw [hy303]; with_reducible exact H2_) | (have H2_ := (Option.bind_some _ _).symm.trans H; with_reducible exact H2_) | with_reducible exact H | (rw [hy303]; exact H) | exact H
  have Ny303 := Aside0.mk hy303
  clear hy303
  replace H := Option.bind_eq_some_iff.mp H
  obtain ⟨⟨t306, t307⟩, A70, H⟩ := H
  replace H : ((damasklaw04_awake.f k).bind fun t308 => (if t308 = true then (if t287 = true then (if t292 = true then (if t297 = true then (if t302 = true then (if t307 = true then (if (wrap64 (t286 + t291)) = (wrap64 ((wrap64 (a0)) + (wrap64 (a1)))) then (if (wrap64 (t291 - t286)) = t296 then (if t306 = 0 then (damasklaw04_ArithBits.j0 k (wrap64 (a0)) (wrap64 (a1)) t286 (t301 != (wrap64 ((wrap64 (-(wrap64 (a0)))) - 1)))) else (damasklaw04_ArithBits.j0 k (wrap64 (a0)) (wrap64 (a1)) t286 true)) else (damasklaw04_ArithBits.j0 k (wrap64 (a0)) (wrap64 (a1)) t286 true)) else (damasklaw04_ArithBits.j0 k (wrap64 (a0)) (wrap64 (a1)) t286 true)) else (damasklaw04_ArithBits.j0 k (wrap64 (a0)) (wrap64 (a1)) t286 true)) else (damasklaw04_ArithBits.j0 k (wrap64 (a0)) (wrap64 (a1)) t286 true)) else (damasklaw04_ArithBits.j0 k (wrap64 (a0)) (wrap64 (a1)) t286 true)) else (damasklaw04_ArithBits.j0 k (wrap64 (a0)) (wrap64 (a1)) t286 true)) else (damasklaw04_ArithBits.j0 k (wrap64 (a0)) (wrap64 (a1)) t286 true)) else (damasklaw04_ArithBits.j0 k (wrap64 (a0)) (wrap64 (a1)) t286 true))) = some r := H
  have A7 := Aside0.mk A70
  clear A70
  have HC8 := Aside0.mk H
  clear H
  go_enter Try.func7, Try.ntmps7
  go_upto_region 7 with (first | ((with_reducible refine gate_dst (N := 26) rfl ?_); refine Kd.R_lit (Kd.int .i64) _ 3 ?hg (N := 26) ?hd (xs := ([wrap64 (a0), wrap64 (a1)] : List Int)) (inner := [.int .i64 (wrap64 (a0)), .int .i64 (wrap64 (a1))]) (ok := fun _ => True) (okp := fun _ => True) ?hr ?hp (fun _ hk => hk) trivial (Below.refl _ _) (Nat.le_refl _) (by simp) ?_; (case hd => rfl); (case hg => rfl); (case hr => first | (go_simp; done) | (go_simp; rfl)); (case hp => exact (Reps.one (show Kd.M (Kd.int .i64) _ _ _ (wrap64 (a0)) [.int .i64 (wrap64 (a0))] from rfl) (Reps.one (show Kd.M (Kd.int .i64) _ _ _ (wrap64 (a1)) [.int .i64 (wrap64 (a1))] from rfl) (Reps.none _ _)))); intro v284 w9 ho10 hb hg_ hnew_; clear hg_ hnew_; (first | rw [← Ny283.out] at ho10 | (simp only [Int.reduceToNat] at ho10; rw [← Ny283.out] at ho10)); have n0_ := Aside0.mk (Kd.R_lower ho10 (below_size (by repeat (first | (with_reducible first | exact HB.out | apply below_alloc | apply pw_below_drewN | apply below_drew1) | exact HB.out)))); have n1_ := Aside0.mk (below_step (by repeat (first | (with_reducible first | exact HB.out | apply below_alloc | apply pw_below_drewN | apply below_drew1) | exact HB.out)) hb); clear HB; have HO285 := n0_; have HB := n1_; clear n0_ n1_; clear hb ho10; obtain ⟨Ao11, co11, eo11⟩ := Kd.R_slice HO285.out; subst eo11) | ((with_reducible refine gate_callee (f := 25) rfl ?_); refine goesL_ (some 27) rfl rfl Try.func25 (by kernel_rfl) rfl #[.int .i64 15, .slice Ao11 y283.length co11] rfl (by (try simp only [List.map_toArray, List.map_cons, List.map_nil]); first | done | rfl | (simp only [List.length_drop, List.length_take]; rfl)) ?_; (with_reducible refine (damasklaw04_of.calls k 15 _ _ y283 t286 t287 _ ?side1 ?side2 A3.out).mono ?_); (case side1 => repeat (first | exact (Kd.R_reads' HO285.out).2.2 | (with_reducible refine Kd.C_alloc ?_ _) | (with_reducible refine Kd.C_drewN ?_ _) | (with_reducible refine Kd.C_drew ?_))); (case side2 => exact (Kd.R_reads' HO285.out).2.1); rintro e w12 ⟨rfl, hb⟩; refine ⟨_, rfl, ?_⟩; have n0_ := Aside0.mk (Kd.R_below (by (with_reducible repeat (first | apply Kd.R_alloc | apply Kd.R_drewN | apply Kd.R_drew)); exact HO285.out) hb); have n1_ := Aside0.mk (below_step (by repeat (first | (with_reducible first | exact HB.out | apply below_alloc | apply pw_below_drewN | apply below_drew1) | exact HB.out)) hb); clear HO285; clear HB; have HO285 := n0_; have HB := n1_; clear n0_ n1_; (try clear hb); (try clear hb2); (try clear hk); (try clear hi)) | ((with_reducible refine gate_dst (N := 33) rfl ?_); refine Kd.R_lit (Kd.int .i64) _ 3 ?hg (N := 33) ?hd (xs := ([wrap64 (a0), wrap64 (a1)] : List Int)) (inner := [.int .i64 (wrap64 (a0)), .int .i64 (wrap64 (a1))]) (ok := fun _ => True) (okp := fun _ => True) ?hr ?hp (fun _ hk => hk) trivial (Below.refl _ _) (Nat.le_refl _) (by simp) ?_; (case hd => rfl); (case hg => rfl); (case hr => first | (go_simp; done) | (go_simp; rfl)); (case hp => exact (Reps.one (show Kd.M (Kd.int .i64) _ _ _ (wrap64 (a0)) [.int .i64 (wrap64 (a0))] from rfl) (Reps.one (show Kd.M (Kd.int .i64) _ _ _ (wrap64 (a1)) [.int .i64 (wrap64 (a1))] from rfl) (Reps.none _ _)))); intro v289 w13 ho14 hb hg_ hnew_; clear hg_ hnew_; (first | rw [← Ny288.out] at ho14 | (simp only [Int.reduceToNat] at ho14; rw [← Ny288.out] at ho14)); have n0_ := Aside0.mk (Kd.R_elder' (by (with_reducible repeat (first | apply Kd.R_alloc | apply Kd.R_drewN | apply Kd.R_drew)); exact HO285.out) (Kd.R_base ho14) hb); have n1_ := Aside0.mk (Kd.R_lower (Kd.R_new' ho14 (Kd.R_lt (by (with_reducible repeat (first | apply Kd.R_alloc | apply Kd.R_drewN | apply Kd.R_drew)); exact HO285.out))) (below_size (by repeat (first | (with_reducible first | exact HB.out | apply below_alloc | apply pw_below_drewN | apply below_drew1) | exact HB.out)))); have n2_ := Aside0.mk (below_step (by repeat (first | (with_reducible first | exact HB.out | apply below_alloc | apply pw_below_drewN | apply below_drew1) | exact HB.out)) hb); clear HO285; clear HB; have HO285 := n0_; have HO290 := n1_; have HB := n2_; clear n0_ n1_ n2_; clear hb ho14; obtain ⟨Ao15, co15, eo15⟩ := Kd.R_slice HO290.out; subst eo15) | ((with_reducible refine gate_callee (f := 25) rfl ?_); refine goesL_ (some 34) rfl rfl Try.func25 (by kernel_rfl) rfl #[.int .i64 16, .slice Ao15 y288.length co15] rfl (by (try simp only [List.map_toArray, List.map_cons, List.map_nil]); first | done | rfl | (simp only [List.length_drop, List.length_take]; rfl)) ?_; (with_reducible refine (damasklaw04_of.calls k 16 _ _ y288 t291 t292 _ ?side1 ?side2 A4.out).mono ?_); (case side1 => repeat (first | exact (Kd.R_reads' HO290.out).2.2 | (with_reducible refine Kd.C_alloc ?_ _) | (with_reducible refine Kd.C_drewN ?_ _) | (with_reducible refine Kd.C_drew ?_))); (case side2 => exact (Kd.R_reads' HO290.out).2.1); rintro e w16 ⟨rfl, hb⟩; refine ⟨_, rfl, ?_⟩; have n0_ := Aside0.mk (Kd.R_below (by (with_reducible repeat (first | apply Kd.R_alloc | apply Kd.R_drewN | apply Kd.R_drew)); exact HO285.out) hb); have n1_ := Aside0.mk (Kd.R_below (by (with_reducible repeat (first | apply Kd.R_alloc | apply Kd.R_drewN | apply Kd.R_drew)); exact HO290.out) hb); have n2_ := Aside0.mk (below_step (by repeat (first | (with_reducible first | exact HB.out | apply below_alloc | apply pw_below_drewN | apply below_drew1) | exact HB.out)) hb); clear HO285; clear HO290; clear HB; have HO285 := n0_; have HO290 := n1_; have HB := n2_; clear n0_ n1_ n2_; (try clear hb); (try clear hb2); (try clear hk); (try clear hi)) | ((with_reducible refine gate_dst (N := 40) rfl ?_); refine Kd.R_lit (Kd.int .i64) _ 3 ?hg (N := 40) ?hd (xs := ([wrap64 (a0), wrap64 (a1)] : List Int)) (inner := [.int .i64 (wrap64 (a0)), .int .i64 (wrap64 (a1))]) (ok := fun _ => True) (okp := fun _ => True) ?hr ?hp (fun _ hk => hk) trivial (Below.refl _ _) (Nat.le_refl _) (by simp) ?_; (case hd => rfl); (case hg => rfl); (case hr => first | (go_simp; done) | (go_simp; rfl)); (case hp => exact (Reps.one (show Kd.M (Kd.int .i64) _ _ _ (wrap64 (a0)) [.int .i64 (wrap64 (a0))] from rfl) (Reps.one (show Kd.M (Kd.int .i64) _ _ _ (wrap64 (a1)) [.int .i64 (wrap64 (a1))] from rfl) (Reps.none _ _)))); intro v294 w17 ho18 hb hg_ hnew_; clear hg_ hnew_; (first | rw [← Ny293.out] at ho18 | (simp only [Int.reduceToNat] at ho18; rw [← Ny293.out] at ho18)); have n0_ := Aside0.mk (Kd.R_elder' (by (with_reducible repeat (first | apply Kd.R_alloc | apply Kd.R_drewN | apply Kd.R_drew)); exact HO285.out) (Kd.R_base ho18) hb); have n1_ := Aside0.mk (Kd.R_elder' (by (with_reducible repeat (first | apply Kd.R_alloc | apply Kd.R_drewN | apply Kd.R_drew)); exact HO290.out) (Kd.R_base ho18) hb); have n2_ := Aside0.mk (Kd.R_lower (Kd.R_new' (Kd.R_new' ho18 (Kd.R_lt (by (with_reducible repeat (first | apply Kd.R_alloc | apply Kd.R_drewN | apply Kd.R_drew)); exact HO285.out))) (Kd.R_lt (by (with_reducible repeat (first | apply Kd.R_alloc | apply Kd.R_drewN | apply Kd.R_drew)); exact HO290.out))) (below_size (by repeat (first | (with_reducible first | exact HB.out | apply below_alloc | apply pw_below_drewN | apply below_drew1) | exact HB.out)))); have n3_ := Aside0.mk (below_step (by repeat (first | (with_reducible first | exact HB.out | apply below_alloc | apply pw_below_drewN | apply below_drew1) | exact HB.out)) hb); clear HO285; clear HO290; clear HB; have HO285 := n0_; have HO290 := n1_; have HO295 := n2_; have HB := n3_; clear n0_ n1_ n2_ n3_; clear hb ho18; obtain ⟨Ao19, co19, eo19⟩ := Kd.R_slice HO295.out; subst eo19) | ((with_reducible refine gate_callee (f := 25) rfl ?_); refine goesL_ (some 41) rfl rfl Try.func25 (by kernel_rfl) rfl #[.int .i64 17, .slice Ao19 y293.length co19] rfl (by (try simp only [List.map_toArray, List.map_cons, List.map_nil]); first | done | rfl | (simp only [List.length_drop, List.length_take]; rfl)) ?_; (with_reducible refine (damasklaw04_of.calls k 17 _ _ y293 t296 t297 _ ?side1 ?side2 A5.out).mono ?_); (case side1 => repeat (first | exact (Kd.R_reads' HO295.out).2.2 | (with_reducible refine Kd.C_alloc ?_ _) | (with_reducible refine Kd.C_drewN ?_ _) | (with_reducible refine Kd.C_drew ?_))); (case side2 => exact (Kd.R_reads' HO295.out).2.1); rintro e w20 ⟨rfl, hb⟩; refine ⟨_, rfl, ?_⟩; have n0_ := Aside0.mk (Kd.R_below (by (with_reducible repeat (first | apply Kd.R_alloc | apply Kd.R_drewN | apply Kd.R_drew)); exact HO285.out) hb); have n1_ := Aside0.mk (Kd.R_below (by (with_reducible repeat (first | apply Kd.R_alloc | apply Kd.R_drewN | apply Kd.R_drew)); exact HO290.out) hb); have n2_ := Aside0.mk (Kd.R_below (by (with_reducible repeat (first | apply Kd.R_alloc | apply Kd.R_drewN | apply Kd.R_drew)); exact HO295.out) hb); have n3_ := Aside0.mk (below_step (by repeat (first | (with_reducible first | exact HB.out | apply below_alloc | apply pw_below_drewN | apply below_drew1) | exact HB.out)) hb); clear HO285; clear HO290; clear HO295; clear HB; have HO285 := n0_; have HO290 := n1_; have HO295 := n2_; have HB := n3_; clear n0_ n1_ n2_ n3_; (try clear hb); (try clear hb2); (try clear hk); (try clear hi)) | ((with_reducible refine gate_dst (N := 46) rfl ?_); refine Kd.R_lit (Kd.int .i64) _ 3 ?hg (N := 46) ?hd (xs := ([wrap64 (a0), (-1)] : List Int)) (inner := [.int .i64 (wrap64 (a0)), .int .i64 (-1)]) (ok := fun _ => True) (okp := fun _ => True) ?hr ?hp (fun _ hk => hk) trivial (Below.refl _ _) (Nat.le_refl _) (by simp) ?_; (case hd => rfl); (case hg => rfl); (case hr => first | (go_simp; done) | (go_simp; rfl)); (case hp => exact (Reps.one (show Kd.M (Kd.int .i64) _ _ _ (wrap64 (a0)) [.int .i64 (wrap64 (a0))] from rfl) (Reps.one (show Kd.M (Kd.int .i64) _ _ _ (-1) [.int .i64 (-1)] from rfl) (Reps.none _ _)))); intro v299 w21 ho22 hb hg_ hnew_; clear hg_ hnew_; (first | rw [← Ny298.out] at ho22 | (simp only [Int.reduceToNat] at ho22; rw [← Ny298.out] at ho22)); have n0_ := Aside0.mk (Kd.R_elder' (by (with_reducible repeat (first | apply Kd.R_alloc | apply Kd.R_drewN | apply Kd.R_drew)); exact HO285.out) (Kd.R_base ho22) hb); have n1_ := Aside0.mk (Kd.R_elder' (by (with_reducible repeat (first | apply Kd.R_alloc | apply Kd.R_drewN | apply Kd.R_drew)); exact HO290.out) (Kd.R_base ho22) hb); have n2_ := Aside0.mk (Kd.R_elder' (by (with_reducible repeat (first | apply Kd.R_alloc | apply Kd.R_drewN | apply Kd.R_drew)); exact HO295.out) (Kd.R_base ho22) hb); have n3_ := Aside0.mk (Kd.R_lower (Kd.R_new' (Kd.R_new' (Kd.R_new' ho22 (Kd.R_lt (by (with_reducible repeat (first | apply Kd.R_alloc | apply Kd.R_drewN | apply Kd.R_drew)); exact HO285.out))) (Kd.R_lt (by (with_reducible repeat (first | apply Kd.R_alloc | apply Kd.R_drewN | apply Kd.R_drew)); exact HO290.out))) (Kd.R_lt (by (with_reducible repeat (first | apply Kd.R_alloc | apply Kd.R_drewN | apply Kd.R_drew)); exact HO295.out))) (below_size (by repeat (first | (with_reducible first | exact HB.out | apply below_alloc | apply pw_below_drewN | apply below_drew1) | exact HB.out)))); have n4_ := Aside0.mk (below_step (by repeat (first | (with_reducible first | exact HB.out | apply below_alloc | apply pw_below_drewN | apply below_drew1) | exact HB.out)) hb); clear HO285; clear HO290; clear HO295; clear HB; have HO285 := n0_; have HO290 := n1_; have HO295 := n2_; have HO300 := n3_; have HB := n4_; clear n0_ n1_ n2_ n3_ n4_; clear hb ho22; obtain ⟨Ao23, co23, eo23⟩ := Kd.R_slice HO300.out; subst eo23) | ((with_reducible refine gate_callee (f := 25) rfl ?_); refine goesL_ (some 47) rfl rfl Try.func25 (by kernel_rfl) rfl #[.int .i64 17, .slice Ao23 y298.length co23] rfl (by (try simp only [List.map_toArray, List.map_cons, List.map_nil]); first | done | rfl | (simp only [List.length_drop, List.length_take]; rfl)) ?_; (with_reducible refine (damasklaw04_of.calls k 17 _ _ y298 t301 t302 _ ?side1 ?side2 A6.out).mono ?_); (case side1 => repeat (first | exact (Kd.R_reads' HO300.out).2.2 | (with_reducible refine Kd.C_alloc ?_ _) | (with_reducible refine Kd.C_drewN ?_ _) | (with_reducible refine Kd.C_drew ?_))); (case side2 => exact (Kd.R_reads' HO300.out).2.1); rintro e w24 ⟨rfl, hb⟩; refine ⟨_, rfl, ?_⟩; have n0_ := Aside0.mk (Kd.R_below (by (with_reducible repeat (first | apply Kd.R_alloc | apply Kd.R_drewN | apply Kd.R_drew)); exact HO285.out) hb); have n1_ := Aside0.mk (Kd.R_below (by (with_reducible repeat (first | apply Kd.R_alloc | apply Kd.R_drewN | apply Kd.R_drew)); exact HO290.out) hb); have n2_ := Aside0.mk (Kd.R_below (by (with_reducible repeat (first | apply Kd.R_alloc | apply Kd.R_drewN | apply Kd.R_drew)); exact HO295.out) hb); have n3_ := Aside0.mk (Kd.R_below (by (with_reducible repeat (first | apply Kd.R_alloc | apply Kd.R_drewN | apply Kd.R_drew)); exact HO300.out) hb); have n4_ := Aside0.mk (below_step (by repeat (first | (with_reducible first | exact HB.out | apply below_alloc | apply pw_below_drewN | apply below_drew1) | exact HB.out)) hb); clear HO285; clear HO290; clear HO295; clear HO300; clear HB; have HO285 := n0_; have HO290 := n1_; have HO295 := n2_; have HO300 := n3_; have HB := n4_; clear n0_ n1_ n2_ n3_ n4_; (try clear hb); (try clear hb2); (try clear hk); (try clear hi)) | ((with_reducible refine gate_dst (N := 53) rfl ?_); refine Kd.R_lit (Kd.int .i64) _ 3 ?hg (N := 53) ?hd (xs := ([wrap64 (a0), t301] : List Int)) (inner := [.int .i64 (wrap64 (a0)), .int .i64 t301]) (ok := fun _ => True) (okp := fun _ => True) ?hr ?hp (fun _ hk => hk) trivial (Below.refl _ _) (Nat.le_refl _) (by simp) ?_; (case hd => rfl); (case hg => rfl); (case hr => first | (go_simp; done) | (go_simp; rfl)); (case hp => exact (Reps.one (show Kd.M (Kd.int .i64) _ _ _ (wrap64 (a0)) [.int .i64 (wrap64 (a0))] from rfl) (Reps.one (show Kd.M (Kd.int .i64) _ _ _ t301 [.int .i64 t301] from rfl) (Reps.none _ _)))); intro v304 w25 ho26 hb hg_ hnew_; clear hg_ hnew_; (first | rw [← Ny303.out] at ho26 | (simp only [Int.reduceToNat] at ho26; rw [← Ny303.out] at ho26)); have n0_ := Aside0.mk (Kd.R_elder' (by (with_reducible repeat (first | apply Kd.R_alloc | apply Kd.R_drewN | apply Kd.R_drew)); exact HO285.out) (Kd.R_base ho26) hb); have n1_ := Aside0.mk (Kd.R_elder' (by (with_reducible repeat (first | apply Kd.R_alloc | apply Kd.R_drewN | apply Kd.R_drew)); exact HO290.out) (Kd.R_base ho26) hb); have n2_ := Aside0.mk (Kd.R_elder' (by (with_reducible repeat (first | apply Kd.R_alloc | apply Kd.R_drewN | apply Kd.R_drew)); exact HO295.out) (Kd.R_base ho26) hb); have n3_ := Aside0.mk (Kd.R_elder' (by (with_reducible repeat (first | apply Kd.R_alloc | apply Kd.R_drewN | apply Kd.R_drew)); exact HO300.out) (Kd.R_base ho26) hb); have n4_ := Aside0.mk (Kd.R_lower (Kd.R_new' (Kd.R_new' (Kd.R_new' (Kd.R_new' ho26 (Kd.R_lt (by (with_reducible repeat (first | apply Kd.R_alloc | apply Kd.R_drewN | apply Kd.R_drew)); exact HO285.out))) (Kd.R_lt (by (with_reducible repeat (first | apply Kd.R_alloc | apply Kd.R_drewN | apply Kd.R_drew)); exact HO290.out))) (Kd.R_lt (by (with_reducible repeat (first | apply Kd.R_alloc | apply Kd.R_drewN | apply Kd.R_drew)); exact HO295.out))) (Kd.R_lt (by (with_reducible repeat (first | apply Kd.R_alloc | apply Kd.R_drewN | apply Kd.R_drew)); exact HO300.out))) (below_size (by repeat (first | (with_reducible first | exact HB.out | apply below_alloc | apply pw_below_drewN | apply below_drew1) | exact HB.out)))); have n5_ := Aside0.mk (below_step (by repeat (first | (with_reducible first | exact HB.out | apply below_alloc | apply pw_below_drewN | apply below_drew1) | exact HB.out)) hb); clear HO285; clear HO290; clear HO295; clear HO300; clear HB; have HO285 := n0_; have HO290 := n1_; have HO295 := n2_; have HO300 := n3_; have HO305 := n4_; have HB := n5_; clear n0_ n1_ n2_ n3_ n4_ n5_; clear hb ho26; obtain ⟨Ao27, co27, eo27⟩ := Kd.R_slice HO305.out; subst eo27) | ((with_reducible refine gate_callee (f := 25) rfl ?_); refine goesL_ (some 54) rfl rfl Try.func25 (by kernel_rfl) rfl #[.int .i64 15, .slice Ao27 y303.length co27] rfl (by (try simp only [List.map_toArray, List.map_cons, List.map_nil]); first | done | rfl | (simp only [List.length_drop, List.length_take]; rfl)) ?_; (with_reducible refine (damasklaw04_of.calls k 15 _ _ y303 t306 t307 _ ?side1 ?side2 A7.out).mono ?_); (case side1 => repeat (first | exact (Kd.R_reads' HO305.out).2.2 | (with_reducible refine Kd.C_alloc ?_ _) | (with_reducible refine Kd.C_drewN ?_ _) | (with_reducible refine Kd.C_drew ?_))); (case side2 => exact (Kd.R_reads' HO305.out).2.1); rintro e w28 ⟨rfl, hb⟩; refine ⟨_, rfl, ?_⟩; have n0_ := Aside0.mk (Kd.R_below (by (with_reducible repeat (first | apply Kd.R_alloc | apply Kd.R_drewN | apply Kd.R_drew)); exact HO285.out) hb); have n1_ := Aside0.mk (Kd.R_below (by (with_reducible repeat (first | apply Kd.R_alloc | apply Kd.R_drewN | apply Kd.R_drew)); exact HO290.out) hb); have n2_ := Aside0.mk (Kd.R_below (by (with_reducible repeat (first | apply Kd.R_alloc | apply Kd.R_drewN | apply Kd.R_drew)); exact HO295.out) hb); have n3_ := Aside0.mk (Kd.R_below (by (with_reducible repeat (first | apply Kd.R_alloc | apply Kd.R_drewN | apply Kd.R_drew)); exact HO300.out) hb); have n4_ := Aside0.mk (Kd.R_below (by (with_reducible repeat (first | apply Kd.R_alloc | apply Kd.R_drewN | apply Kd.R_drew)); exact HO305.out) hb); have n5_ := Aside0.mk (below_step (by repeat (first | (with_reducible first | exact HB.out | apply below_alloc | apply pw_below_drewN | apply below_drew1) | exact HB.out)) hb); clear HO285; clear HO290; clear HO295; clear HO300; clear HO305; clear HB; have HO285 := n0_; have HO290 := n1_; have HO295 := n2_; have HO300 := n3_; have HO305 := n4_; have HB := n5_; clear n0_ n1_ n2_ n3_ n4_ n5_; (try clear hb); (try clear hb2); (try clear hk); (try clear hi)))
  (try simp only [Act.put, List.setIfInBounds_toArray, List.set_cons_zero, List.set_cons_succ])
  go_cut [105] (fun v105 wc => ∃ (kq : Nat) (x105_7 : Bool), v105 = .bool x105_7 ∧ Aside0 (damasklaw04_ArithBits.j0 kq (wrap64 (a0)) (wrap64 (a1)) t286 x105_7 = some r) ∧ Aside0 (kq ≤ k) ∧ Aside0 (Below w.heap.size w wc))
  case first =>
    have H := HC8.out
    clear HC8
    replace H := Option.bind_eq_some_iff.mp H
    obtain ⟨t308, A290, H⟩ := H
    replace H : (if t308 = true then (if t287 = true then (if t292 = true then (if t297 = true then (if t302 = true then (if t307 = true then (if (wrap64 (t286 + t291)) = (wrap64 ((wrap64 (a0)) + (wrap64 (a1)))) then (if (wrap64 (t291 - t286)) = t296 then (if t306 = 0 then (damasklaw04_ArithBits.j0 k (wrap64 (a0)) (wrap64 (a1)) t286 (t301 != (wrap64 ((wrap64 (-(wrap64 (a0)))) - 1)))) else (damasklaw04_ArithBits.j0 k (wrap64 (a0)) (wrap64 (a1)) t286 true)) else (damasklaw04_ArithBits.j0 k (wrap64 (a0)) (wrap64 (a1)) t286 true)) else (damasklaw04_ArithBits.j0 k (wrap64 (a0)) (wrap64 (a1)) t286 true)) else (damasklaw04_ArithBits.j0 k (wrap64 (a0)) (wrap64 (a1)) t286 true)) else (damasklaw04_ArithBits.j0 k (wrap64 (a0)) (wrap64 (a1)) t286 true)) else (damasklaw04_ArithBits.j0 k (wrap64 (a0)) (wrap64 (a1)) t286 true)) else (damasklaw04_ArithBits.j0 k (wrap64 (a0)) (wrap64 (a1)) t286 true)) else (damasklaw04_ArithBits.j0 k (wrap64 (a0)) (wrap64 (a1)) t286 true)) else (damasklaw04_ArithBits.j0 k (wrap64 (a0)) (wrap64 (a1)) t286 true)) = some r := H
    have A29 := Aside0.mk A290
    clear A290
    by_cases c30 : t308 = true
    · subst c30
      have H1 : (if t287 = true then (if t292 = true then (if t297 = true then (if t302 = true then (if t307 = true then (if (wrap64 (t286 + t291)) = (wrap64 ((wrap64 (a0)) + (wrap64 (a1)))) then (if (wrap64 (t291 - t286)) = t296 then (if t306 = 0 then (damasklaw04_ArithBits.j0 k (wrap64 (a0)) (wrap64 (a1)) t286 (t301 != (wrap64 ((wrap64 (-(wrap64 (a0)))) - 1)))) else (damasklaw04_ArithBits.j0 k (wrap64 (a0)) (wrap64 (a1)) t286 true)) else (damasklaw04_ArithBits.j0 k (wrap64 (a0)) (wrap64 (a1)) t286 true)) else (damasklaw04_ArithBits.j0 k (wrap64 (a0)) (wrap64 (a1)) t286 true)) else (damasklaw04_ArithBits.j0 k (wrap64 (a0)) (wrap64 (a1)) t286 true)) else (damasklaw04_ArithBits.j0 k (wrap64 (a0)) (wrap64 (a1)) t286 true)) else (damasklaw04_ArithBits.j0 k (wrap64 (a0)) (wrap64 (a1)) t286 true)) else (damasklaw04_ArithBits.j0 k (wrap64 (a0)) (wrap64 (a1)) t286 true)) else (damasklaw04_ArithBits.j0 k (wrap64 (a0)) (wrap64 (a1)) t286 true)) = some r := by rw [if_pos rfl] at H; exact H
      clear H
      have H := H1
      clear H1
      by_cases c31 : t287 = true
      · subst c31
        have H1 : (if t292 = true then (if t297 = true then (if t302 = true then (if t307 = true then (if (wrap64 (t286 + t291)) = (wrap64 ((wrap64 (a0)) + (wrap64 (a1)))) then (if (wrap64 (t291 - t286)) = t296 then (if t306 = 0 then (damasklaw04_ArithBits.j0 k (wrap64 (a0)) (wrap64 (a1)) t286 (t301 != (wrap64 ((wrap64 (-(wrap64 (a0)))) - 1)))) else (damasklaw04_ArithBits.j0 k (wrap64 (a0)) (wrap64 (a1)) t286 true)) else (damasklaw04_ArithBits.j0 k (wrap64 (a0)) (wrap64 (a1)) t286 true)) else (damasklaw04_ArithBits.j0 k (wrap64 (a0)) (wrap64 (a1)) t286 true)) else (damasklaw04_ArithBits.j0 k (wrap64 (a0)) (wrap64 (a1)) t286 true)) else (damasklaw04_ArithBits.j0 k (wrap64 (a0)) (wrap64 (a1)) t286 true)) else (damasklaw04_ArithBits.j0 k (wrap64 (a0)) (wrap64 (a1)) t286 true)) else (damasklaw04_ArithBits.j0 k (wrap64 (a0)) (wrap64 (a1)) t286 true)) = some r := by rw [if_pos rfl] at H; exact H
        clear H
        have H := H1
        clear H1
        by_cases c32 : t292 = true
        · subst c32
          have H1 : (if t297 = true then (if t302 = true then (if t307 = true then (if (wrap64 (t286 + t291)) = (wrap64 ((wrap64 (a0)) + (wrap64 (a1)))) then (if (wrap64 (t291 - t286)) = t296 then (if t306 = 0 then (damasklaw04_ArithBits.j0 k (wrap64 (a0)) (wrap64 (a1)) t286 (t301 != (wrap64 ((wrap64 (-(wrap64 (a0)))) - 1)))) else (damasklaw04_ArithBits.j0 k (wrap64 (a0)) (wrap64 (a1)) t286 true)) else (damasklaw04_ArithBits.j0 k (wrap64 (a0)) (wrap64 (a1)) t286 true)) else (damasklaw04_ArithBits.j0 k (wrap64 (a0)) (wrap64 (a1)) t286 true)) else (damasklaw04_ArithBits.j0 k (wrap64 (a0)) (wrap64 (a1)) t286 true)) else (damasklaw04_ArithBits.j0 k (wrap64 (a0)) (wrap64 (a1)) t286 true)) else (damasklaw04_ArithBits.j0 k (wrap64 (a0)) (wrap64 (a1)) t286 true)) = some r := by rw [if_pos rfl] at H; exact H
          clear H
          have H := H1
          clear H1
          by_cases c33 : t297 = true
          · subst c33
            have H1 : (if t302 = true then (if t307 = true then (if (wrap64 (t286 + t291)) = (wrap64 ((wrap64 (a0)) + (wrap64 (a1)))) then (if (wrap64 (t291 - t286)) = t296 then (if t306 = 0 then (damasklaw04_ArithBits.j0 k (wrap64 (a0)) (wrap64 (a1)) t286 (t301 != (wrap64 ((wrap64 (-(wrap64 (a0)))) - 1)))) else (damasklaw04_ArithBits.j0 k (wrap64 (a0)) (wrap64 (a1)) t286 true)) else (damasklaw04_ArithBits.j0 k (wrap64 (a0)) (wrap64 (a1)) t286 true)) else (damasklaw04_ArithBits.j0 k (wrap64 (a0)) (wrap64 (a1)) t286 true)) else (damasklaw04_ArithBits.j0 k (wrap64 (a0)) (wrap64 (a1)) t286 true)) else (damasklaw04_ArithBits.j0 k (wrap64 (a0)) (wrap64 (a1)) t286 true)) = some r := by rw [if_pos rfl] at H; exact H
            clear H
            have H := H1
            clear H1
            by_cases c34 : t302 = true
            · subst c34
              have H1 : (if t307 = true then (if (wrap64 (t286 + t291)) = (wrap64 ((wrap64 (a0)) + (wrap64 (a1)))) then (if (wrap64 (t291 - t286)) = t296 then (if t306 = 0 then (damasklaw04_ArithBits.j0 k (wrap64 (a0)) (wrap64 (a1)) t286 (t301 != (wrap64 ((wrap64 (-(wrap64 (a0)))) - 1)))) else (damasklaw04_ArithBits.j0 k (wrap64 (a0)) (wrap64 (a1)) t286 true)) else (damasklaw04_ArithBits.j0 k (wrap64 (a0)) (wrap64 (a1)) t286 true)) else (damasklaw04_ArithBits.j0 k (wrap64 (a0)) (wrap64 (a1)) t286 true)) else (damasklaw04_ArithBits.j0 k (wrap64 (a0)) (wrap64 (a1)) t286 true)) = some r := by rw [if_pos rfl] at H; exact H
              clear H
              have H := H1
              clear H1
              by_cases c35 : t307 = true
              · subst c35
                have H1 : (if (wrap64 (t286 + t291)) = (wrap64 ((wrap64 (a0)) + (wrap64 (a1)))) then (if (wrap64 (t291 - t286)) = t296 then (if t306 = 0 then (damasklaw04_ArithBits.j0 k (wrap64 (a0)) (wrap64 (a1)) t286 (t301 != (wrap64 ((wrap64 (-(wrap64 (a0)))) - 1)))) else (damasklaw04_ArithBits.j0 k (wrap64 (a0)) (wrap64 (a1)) t286 true)) else (damasklaw04_ArithBits.j0 k (wrap64 (a0)) (wrap64 (a1)) t286 true)) else (damasklaw04_ArithBits.j0 k (wrap64 (a0)) (wrap64 (a1)) t286 true)) = some r := by rw [if_pos rfl] at H; exact H
                clear H
                have H := H1
                clear H1
                by_cases c36 : (wrap64 (t286 + t291)) = (wrap64 ((wrap64 (a0)) + (wrap64 (a1))))
                · rw [if_pos c36] at H
                  have c36b0 : ((wrap64 (t286 + t291)) == (wrap64 ((wrap64 (a0)) + (wrap64 (a1))))) = true := beq_iff_eq.mpr c36
                  have c36b1 : ((wrap64 (t286 + t291)) != (wrap64 ((wrap64 (a0)) + (wrap64 (a1))))) = false := bne_eq_false_iff_eq.mpr c36
                  clear c36
                  (first | rw [c36b0] | (simp only [i64_w, i32_w]; rw [c36b0]) | skip)
                  by_cases c37 : (wrap64 (t291 - t286)) = t296
                  · rw [if_pos c37] at H
                    have c37b0 : ((wrap64 (t291 - t286)) == t296) = true := beq_iff_eq.mpr c37
                    have c37b1 : ((wrap64 (t291 - t286)) != t296) = false := bne_eq_false_iff_eq.mpr c37
                    clear c37
                    by_cases c38 : t306 = 0
                    · rw [if_pos c38] at H
                      have c38b0 : (t306 == 0) = true := beq_iff_eq.mpr c38
                      have c38b1 : (t306 != 0) = false := bne_eq_false_iff_eq.mpr c38
                      clear c38
                      have H' := Aside0.mk H
                      clear H
                      go_wp2_with (first | ((with_reducible refine gate_callee (f := 16) rfl ?_); refine goesL_ (some 57) rfl rfl Try.func16 (by kernel_rfl) rfl #[] rfl (by (try simp only [List.map_toArray, List.map_cons, List.map_nil]); first | done | rfl | (simp only [List.length_drop, List.length_take]; rfl)) ?_; (with_reducible refine (damasklaw04_awake.calls k  true _ A29.out).mono ?_); rintro e w39 ⟨rfl, hb⟩; refine ⟨_, rfl, ?_⟩; have n0_ := Aside0.mk (Kd.R_below (by (with_reducible repeat (first | apply Kd.R_alloc | apply Kd.R_drewN | apply Kd.R_drew)); exact HO285.out) hb); have n1_ := Aside0.mk (Kd.R_below (by (with_reducible repeat (first | apply Kd.R_alloc | apply Kd.R_drewN | apply Kd.R_drew)); exact HO290.out) hb); have n2_ := Aside0.mk (Kd.R_below (by (with_reducible repeat (first | apply Kd.R_alloc | apply Kd.R_drewN | apply Kd.R_drew)); exact HO295.out) hb); have n3_ := Aside0.mk (Kd.R_below (by (with_reducible repeat (first | apply Kd.R_alloc | apply Kd.R_drewN | apply Kd.R_drew)); exact HO300.out) hb); have n4_ := Aside0.mk (Kd.R_below (by (with_reducible repeat (first | apply Kd.R_alloc | apply Kd.R_drewN | apply Kd.R_drew)); exact HO305.out) hb); have n5_ := Aside0.mk (below_step (by repeat (first | (with_reducible first | exact HB.out | apply below_alloc | apply pw_below_drewN | apply below_drew1) | exact HB.out)) hb); clear HO285; clear HO290; clear HO295; clear HO300; clear HO305; clear HB; have HO285 := n0_; have HO290 := n1_; have HO295 := n2_; have HO300 := n3_; have HO305 := n4_; have HB := n5_; clear n0_ n1_ n2_ n3_ n4_ n5_; (try clear hb); (try clear hb2); (try clear hk); (try clear hi)))
                      go_meet
                      case rel => exact ⟨_, ((t301 != (wrap64 ((wrap64 (-(wrap64 (a0)))) - 1)))), (by first | rfl | (simp; done) | (simp [*]; done)), H', ⟨by first | omega | exact Nat.le_refl _⟩, ⟨by repeat (first | (with_reducible first | exact HB.out | apply below_alloc | apply pw_below_drewN | apply below_drew1) | exact HB.out)⟩⟩
                    · rw [if_neg c38] at H
                      have c38b0 : (t306 == 0) = false := beq_eq_false_iff_ne.mpr c38
                      have c38b1 : (t306 != 0) = true := bne_iff_ne.mpr c38
                      exact absurd H (by have h_ := hrT.out; subst h_; clear hrT; cases k <;> simp [damasklaw04_ArithBits.j0])
                  · rw [if_neg c37] at H
                    have c37b0 : ((wrap64 (t291 - t286)) == t296) = false := beq_eq_false_iff_ne.mpr c37
                    have c37b1 : ((wrap64 (t291 - t286)) != t296) = true := bne_iff_ne.mpr c37
                    exact absurd H (by have h_ := hrT.out; subst h_; clear hrT; cases k <;> simp [damasklaw04_ArithBits.j0])
                · rw [if_neg c36] at H
                  have c36b0 : ((wrap64 (t286 + t291)) == (wrap64 ((wrap64 (a0)) + (wrap64 (a1))))) = false := beq_eq_false_iff_ne.mpr c36
                  have c36b1 : ((wrap64 (t286 + t291)) != (wrap64 ((wrap64 (a0)) + (wrap64 (a1))))) = true := bne_iff_ne.mpr c36
                  (first | rw [c36b0] | (simp only [i64_w, i32_w]; rw [c36b0]) | skip)
                  exact absurd H (by have h_ := hrT.out; subst h_; clear hrT; cases k <;> simp [damasklaw04_ArithBits.j0])
              · replace c35 := Bool.eq_false_iff.mpr c35
                subst c35
                have H1 : (damasklaw04_ArithBits.j0 k (wrap64 (a0)) (wrap64 (a1)) t286 true) = some r := by rw [if_neg (show ¬ (false = true) by decide)] at H; exact H
                clear H
                have H := H1
                clear H1
                exact absurd H (by have h_ := hrT.out; subst h_; clear hrT; cases k <;> simp [damasklaw04_ArithBits.j0])
            · replace c34 := Bool.eq_false_iff.mpr c34
              subst c34
              have H1 : (damasklaw04_ArithBits.j0 k (wrap64 (a0)) (wrap64 (a1)) t286 true) = some r := by rw [if_neg (show ¬ (false = true) by decide)] at H; exact H
              clear H
              have H := H1
              clear H1
              exact absurd H (by have h_ := hrT.out; subst h_; clear hrT; cases k <;> simp [damasklaw04_ArithBits.j0])
          · replace c33 := Bool.eq_false_iff.mpr c33
            subst c33
            have H1 : (damasklaw04_ArithBits.j0 k (wrap64 (a0)) (wrap64 (a1)) t286 true) = some r := by rw [if_neg (show ¬ (false = true) by decide)] at H; exact H
            clear H
            have H := H1
            clear H1
            exact absurd H (by have h_ := hrT.out; subst h_; clear hrT; cases k <;> simp [damasklaw04_ArithBits.j0])
        · replace c32 := Bool.eq_false_iff.mpr c32
          subst c32
          have H1 : (damasklaw04_ArithBits.j0 k (wrap64 (a0)) (wrap64 (a1)) t286 true) = some r := by rw [if_neg (show ¬ (false = true) by decide)] at H; exact H
          clear H
          have H := H1
          clear H1
          exact absurd H (by have h_ := hrT.out; subst h_; clear hrT; cases k <;> simp [damasklaw04_ArithBits.j0])
      · replace c31 := Bool.eq_false_iff.mpr c31
        subst c31
        have H1 : (damasklaw04_ArithBits.j0 k (wrap64 (a0)) (wrap64 (a1)) t286 true) = some r := by rw [if_neg (show ¬ (false = true) by decide)] at H; exact H
        clear H
        have H := H1
        clear H1
        exact absurd H (by have h_ := hrT.out; subst h_; clear hrT; cases k <;> simp [damasklaw04_ArithBits.j0])
    · replace c30 := Bool.eq_false_iff.mpr c30
      subst c30
      have H1 : (damasklaw04_ArithBits.j0 k (wrap64 (a0)) (wrap64 (a1)) t286 true) = some r := by rw [if_neg (show ¬ (false = true) by decide)] at H; exact H
      clear H
      have H := H1
      clear H1
      exact absurd H (by have h_ := hrT.out; subst h_; clear hrT; cases k <;> simp [damasklaw04_ArithBits.j0])
  case rest =>
    clear HC8
    try clear c1
    try clear c2
    try clear p2
    try clear c3
    try clear p6
    try clear c7
    try clear c16
    try clear c25
    try clear c30
    try clear c31
    try clear c32
    try clear c33
    try clear c34
    try clear c35
    try clear c36
    try clear c36b0
    try clear c36b1
    try clear c37
    try clear c37b0
    try clear c37b1
    try clear c38
    try clear c38b0
    try clear c38b1
    obtain ⟨kq, x105_7, rfl, HA, HJ7, HB⟩ := hcut
    cases kq with
    | zero => exact absurd HA.out (by simp [damasklaw04_ArithBits.j0])
    | succ kj7 =>
      have H := HA.out
      clear HA
      simp only [damasklaw04_ArithBits.j0] at H
      by_cases c40 : x105_7 = true
      · subst c40
        have H1 : (some false) = some r := by rw [if_pos rfl] at H; exact H
        clear H
        have H := H1
        clear H1
        exact absurd hrT.out (by have h_ := Option.some.inj H; rw [← h_]; decide)
      · replace c40 := Bool.eq_false_iff.mpr c40
        subst c40
        have H1 : (if (wrap64 (a1)) < 0 then (some true) else ((arith_Value.f kj7 31 (wrap64 (a1)) 0 (([(wrap64 (a0))] : List Int))).bind fun bt312 => (if bt312.2 = 0 then (if bt312.1 = t286 then (if bt312.1 ≥ 0 then (some (decide (bt312.1 ≤ (wrap64 (a1))))) else (some false)) else (some false)) else (some false)))) = some r := by rw [if_neg (show ¬ (false = true) by decide)] at H; exact H
        clear H
        have H := H1
        clear H1
        by_cases c41 : (wrap64 (a1)) < 0
        · rw [if_pos c41] at H
          have c41b0 : decide ((wrap64 (a1)) < 0) = true := decide_eq_true c41
          clear c41
          obtain rfl := Option.some.inj H
          go_wp2
          go_ret
          exact ⟨by first | rfl | (simp [errW_none, errW_some] <;> rfl) | (simp [*, errW_none, errW_some] <;> rfl), by repeat (first | (with_reducible first | exact HB.out | apply below_alloc | apply pw_below_drewN | apply below_drew1) | exact HB.out)⟩
        · rw [if_neg c41] at H
          have c41b0 : decide ((wrap64 (a1)) < 0) = false := decide_eq_false c41
          clear c41
          obtain ⟨y309, hy309⟩ : ∃ y_ : List Int, y_ = (([(wrap64 (a0))] : List Int)) := ⟨_, rfl⟩
          replace H : ((arith_Value.f kj7 31 (wrap64 (a1)) 0 y309).bind fun bt312 => (if bt312.2 = 0 then (if bt312.1 = t286 then (if bt312.1 ≥ 0 then (some (decide (bt312.1 ≤ (wrap64 (a1))))) else (some false)) else (some false)) else (some false))) = some r := by first | (rw [hy309]; with_reducible exact H) | (have H2_ := (Option.bind_some _ _).symm.trans H; rw [hy309]; with_reducible exact H2_) | (have H2_ := (Option.bind_some _ _).symm.trans H; with_reducible exact H2_) | with_reducible exact H | (rw [hy309]; exact H) | exact H
          have Ny309 := Aside0.mk hy309
          clear hy309
          replace H := Option.bind_eq_some_iff.mp H
          obtain ⟨⟨t312, t313⟩, A420, H⟩ := H
          replace H : (if t313 = 0 then (if t312 = t286 then (if t312 ≥ 0 then (some (decide (t312 ≤ (wrap64 (a1))))) else (some false)) else (some false)) else (some false)) = some r := H
          have A42 := Aside0.mk A420
          clear A420
          by_cases c43 : t313 = 0
          · rw [if_pos c43] at H
            have c43b0 : (t313 == 0) = true := beq_iff_eq.mpr c43
            have c43b1 : (t313 != 0) = false := bne_eq_false_iff_eq.mpr c43
            clear c43
            by_cases c44 : t312 = t286
            · rw [if_pos c44] at H
              have c44b0 : (t312 == t286) = true := beq_iff_eq.mpr c44
              have c44b1 : (t312 != t286) = false := bne_eq_false_iff_eq.mpr c44
              clear c44
              by_cases c45 : t312 ≥ 0
              · rw [if_pos c45] at H
                have c45b0 : decide (0 ≤ t312) = true := decide_eq_true c45
                clear c45
                obtain rfl := Option.some.inj H
                go_wp2_with (first | ((with_reducible refine gate_dst (N := 111) rfl ?_); refine Kd.R_lit (Kd.int .i64) _ 3 ?hg (N := 111) ?hd (xs := ([(wrap64 (a0))] : List Int)) (inner := [.int .i64 (wrap64 (a0))]) (ok := fun _ => True) (okp := fun _ => True) ?hr ?hp (fun _ hk => hk) trivial (Below.refl _ _) (Nat.le_refl _) (by simp) ?_; (case hd => rfl); (case hg => rfl); (case hr => first | (go_simp; done) | (go_simp; rfl)); (case hp => exact (Reps.one (show Kd.M (Kd.int .i64) _ _ _ (wrap64 (a0)) [.int .i64 (wrap64 (a0))] from rfl) (Reps.none _ _))); intro v310 w46 ho47 hb hg_ hnew_; clear hg_ hnew_; (first | rw [← Ny309.out] at ho47 | (simp only [Int.reduceToNat] at ho47; rw [← Ny309.out] at ho47)); have n0_ := Aside0.mk (Kd.R_lower ho47 (below_size (by repeat (first | (with_reducible first | exact HB.out | apply below_alloc | apply pw_below_drewN | apply below_drew1) | exact HB.out)))); have n1_ := Aside0.mk (below_step (by repeat (first | (with_reducible first | exact HB.out | apply below_alloc | apply pw_below_drewN | apply below_drew1) | exact HB.out)) hb); clear HB; have HO311 := n0_; have HB := n1_; clear n0_ n1_; clear hb ho47; obtain ⟨Ao48, co48, eo48⟩ := Kd.R_slice HO311.out; subst eo48) | ((with_reducible refine gate_callee (f := 23) rfl ?_); refine goesL_ (some 112) rfl rfl Try.func23 (by kernel_rfl) rfl #[.int .i64 31, .int .i64 (wrap64 (a1)), .int .i64 0, .slice Ao48 y309.length co48] rfl (by (try simp only [List.map_toArray, List.map_cons, List.map_nil]); first | done | rfl | (simp only [List.length_drop, List.length_take]; rfl)) ?_; (with_reducible refine (arith_Value.calls kj7 31 (wrap64 (a1)) 0 _ _ y309 t312 t313 _ ?side1 ?side2 A42.out).mono ?_); (case side1 => repeat (first | exact (Kd.R_reads' HO311.out).2.2 | (with_reducible refine Kd.C_alloc ?_ _) | (with_reducible refine Kd.C_drewN ?_ _) | (with_reducible refine Kd.C_drew ?_))); (case side2 => exact (Kd.R_reads' HO311.out).2.1); rintro e w49 ⟨rfl, hb⟩; refine ⟨_, rfl, ?_⟩; have n0_ := Aside0.mk (Kd.R_below (by (with_reducible repeat (first | apply Kd.R_alloc | apply Kd.R_drewN | apply Kd.R_drew)); exact HO311.out) hb); have n1_ := Aside0.mk (below_step (by repeat (first | (with_reducible first | exact HB.out | apply below_alloc | apply pw_below_drewN | apply below_drew1) | exact HB.out)) hb); clear HO311; clear HB; have HO311 := n0_; have HB := n1_; clear n0_ n1_; (try clear hb); (try clear hb2); (try clear hk); (try clear hi)))
                go_ret
                exact ⟨by first | rfl | (simp [errW_none, errW_some] <;> rfl) | (simp [*, errW_none, errW_some] <;> rfl), by repeat (first | (with_reducible first | exact HB.out | apply below_alloc | apply pw_below_drewN | apply below_drew1) | exact HB.out)⟩
              · rw [if_neg c45] at H
                have c45b0 : decide (0 ≤ t312) = false := decide_eq_false c45
                clear c45
                exact absurd hrT.out (by have h_ := Option.some.inj H; rw [← h_]; decide)
            · rw [if_neg c44] at H
              have c44b0 : (t312 == t286) = false := beq_eq_false_iff_ne.mpr c44
              have c44b1 : (t312 != t286) = true := bne_iff_ne.mpr c44
              exact absurd hrT.out (by have h_ := Option.some.inj H; rw [← h_]; decide)
          · rw [if_neg c43] at H
            have c43b0 : (t313 == 0) = false := beq_eq_false_iff_ne.mpr c43
            have c43b1 : (t313 != 0) = true := bne_iff_ne.mpr c43
            exact absurd hrT.out (by have h_ := Option.some.inj H; rw [← h_]; decide)

/-- THE ONE PURE STATEMENT of damasklaw04_ArithBits: yours. -/
def damasklaw04_ArithBits.Pure : Prop := ∀ (a0 : Int) (a1 : Int), (Lit.int .i32 a0).wf = true → (Lit.int .i32 a1).wf = true → ∃ k, damasklaw04_ArithBits.f k a0 a1 = some true
theorem damasklaw04_ArithBits.walk (P : damasklaw04_ArithBits.Pure) (a0 : Int) (a1 : Int) (w : World) (w0 : (Lit.int .i32 a0).wf = true) (w1 : (Lit.int .i32 a1).wf = true) :
    Calls Try.prog 7 #[.int .i32 a0, .int .i32 a1] w fun e w' => e = .returned (.bool true) ∧ Below w.heap.size w w' := by
  obtain ⟨k, h⟩ := P a0 a1 w0 w1
  refine (damasklaw04_ArithBits.calls k a0 a1 true w rfl h).mono ?_
  rintro e w' ⟨rfl, hd⟩
  exact ⟨rfl, hd⟩

end Go.Proofs.Ytpnldhimlpilhaa.F
