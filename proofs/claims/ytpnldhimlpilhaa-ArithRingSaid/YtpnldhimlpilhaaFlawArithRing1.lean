/- Written by wip/myprint.py of this session, out of Lean's print of the program: what Go functions come to, and that their calls come to it; no condition. -/
import Derived.Test.YtpnldhimlpilhaaF0
import Derived.Test.YtpnldhimlpilhaaFarith3
import Derived.Test.YtpnldhimlpilhaaFdamasklaw041
namespace Go.Proofs.Ytpnldhimlpilhaa.F
open Go.RowKit Go.Proofs.YtpnldhimlpilhaaW.PrintWords Go.Proofs.YtpnldhimlpilhaaW.PrintLast Go.Proofs.YtpnldhimlpilhaaW.PrintMore
attribute [local go_sem] max2_int min2_int max_two min_two max_three min_three max_four min_four   -- for this text's walks alone
set_option linter.unusedVariables false
set_option linter.unusedSimpArgs false

/-! ### damasklaw04_ArithRing: function 5 -/
mutual
def damasklaw04_ArithRing.j0 : Nat → Int → Int → Int → Int → Bool → Option (Bool)
  | 0, _, _, _, _, _ => none
  | k + 1, x7, x9, x16, x20, x118 => if x118 = true then (some false) else ((damasklaw04_of.f k 8 (([x7, x20] : List Int))).bind fun bt220 => ((damasklaw04_of.f k 7 (([x7] : List Int))).bind fun bt225 => ((damasklaw04_of.f k 6 (([x7] : List Int))).bind fun bt230 => ((damasklaw04_of.f k 10 (([bt225.1, bt230.1] : List Int))).bind fun bt235 => (if bt220.2 = true then (if bt225.2 = true then (if bt230.2 = true then (if bt235.2 = true then (if bt220.1 = 0 then (if bt235.1 = x7 then (if bt230.1 < 0 then (damasklaw04_ArithRing.j1 k x9 x16 true) else (if bt225.1 < (-1) then (damasklaw04_ArithRing.j1 k x9 x16 true) else (damasklaw04_ArithRing.j1 k x9 x16 (decide (bt225.1 > 1))))) else (damasklaw04_ArithRing.j1 k x9 x16 true)) else (damasklaw04_ArithRing.j1 k x9 x16 true)) else (damasklaw04_ArithRing.j1 k x9 x16 true)) else (damasklaw04_ArithRing.j1 k x9 x16 true)) else (damasklaw04_ArithRing.j1 k x9 x16 true)) else (damasklaw04_ArithRing.j1 k x9 x16 true))))))
def damasklaw04_ArithRing.j1 : Nat → Int → Int → Bool → Option (Bool)
  | 0, _, _, _ => none
  | k + 1, x9, x16, x179 => if x179 = true then (some false) else ((arith_Value.f k 11 0 0 (([x16, x9] : List Int))).bind fun bt240 => ((arith_Value.f k 12 0 0 (([x16, x9] : List Int))).bind fun bt245 => (if x9 = 0 then (if bt240.2 = 12 then (if bt245.2 = 12 then (if bt240.1 = 0 then (some (bt245.1 == 0)) else (some false)) else (some false)) else (some false)) else (if bt240.2 = 13 then (if x9 = (-1) then (if x16 = (-2147483648) then (if bt245.2 = 0 then (some (bt245.1 == 0)) else (some false)) else (some false)) else (some false)) else (if bt240.2 = 0 then (if bt245.2 = 0 then (if (wrap64 ((wrap64 (bt240.1 * x9)) + bt245.1)) = x16 then (if (wrap64 (bt245.1 * bt245.1)) < (wrap64 (x9 * x9)) then (some (decide ((wrap64 (bt245.1 * x16)) ≥ 0))) else (some false)) else (some false)) else (some false)) else (some false))))))
end
def damasklaw04_ArithRing.f (k : Nat) (a0 : Int) (a1 : Int) (a2 : Int) : Option (Bool) := (damasklaw04_of.f k 8 (([wrap64 (a0), wrap64 (a1)] : List Int))).bind fun bt189 => ((damasklaw04_of.f k 8 (([wrap64 (a1), wrap64 (a0)] : List Int))).bind fun bt194 => ((damasklaw04_of.f k 9 (([bt189.1, wrap64 (a1)] : List Int))).bind fun bt199 => ((damasklaw04_of.f k 10 (([wrap64 (a0), wrap64 (a1)] : List Int))).bind fun bt204 => ((damasklaw04_of.f k 10 (([wrap64 (a1), wrap64 (a0)] : List Int))).bind fun bt209 => ((damasklaw04_of.f k 5 (([wrap64 (a0)] : List Int))).bind fun bt214 => ((damasklaw04_awake.f k).bind fun t216 => (if t216 = true then (if bt189.2 = true then (if bt194.2 = true then (if bt199.2 = true then (if bt204.2 = true then (if bt209.2 = true then (if bt214.2 = true then (if bt189.1 = bt194.1 then (if bt199.1 = (wrap64 (a0)) then (damasklaw04_ArithRing.j0 k (wrap64 (a0)) (wrap64 (a2)) bt204.1 bt214.1 (bt204.1 != bt209.1)) else (damasklaw04_ArithRing.j0 k (wrap64 (a0)) (wrap64 (a2)) bt204.1 bt214.1 true)) else (damasklaw04_ArithRing.j0 k (wrap64 (a0)) (wrap64 (a2)) bt204.1 bt214.1 true)) else (damasklaw04_ArithRing.j0 k (wrap64 (a0)) (wrap64 (a2)) bt204.1 bt214.1 true)) else (damasklaw04_ArithRing.j0 k (wrap64 (a0)) (wrap64 (a2)) bt204.1 bt214.1 true)) else (damasklaw04_ArithRing.j0 k (wrap64 (a0)) (wrap64 (a2)) bt204.1 bt214.1 true)) else (damasklaw04_ArithRing.j0 k (wrap64 (a0)) (wrap64 (a2)) bt204.1 bt214.1 true)) else (damasklaw04_ArithRing.j0 k (wrap64 (a0)) (wrap64 (a2)) bt204.1 bt214.1 true)) else (damasklaw04_ArithRing.j0 k (wrap64 (a0)) (wrap64 (a2)) bt204.1 bt214.1 true)) else (damasklaw04_ArithRing.j0 k (wrap64 (a0)) (wrap64 (a2)) bt204.1 bt214.1 true))))))))
theorem damasklaw04_ArithRing.mono_l : ∀ k, (∀ y0 y1 y2 y3 y4, LeO (damasklaw04_ArithRing.j0 k y0 y1 y2 y3 y4) (damasklaw04_ArithRing.j0 (k + 1) y0 y1 y2 y3 y4)) ∧ (∀ y0 y1 y2, LeO (damasklaw04_ArithRing.j1 k y0 y1 y2) (damasklaw04_ArithRing.j1 (k + 1) y0 y1 y2))
  | 0 => ⟨fun _ _ _ _ _ r h => by simp [damasklaw04_ArithRing.j0] at h, fun _ _ _ r h => by simp [damasklaw04_ArithRing.j1] at h⟩
  | k + 1 => by
    obtain ⟨ih0, ih1⟩ := damasklaw04_ArithRing.mono_l k
    refine ⟨?_, ?_⟩
    · intro y0 y1 y2 y3 y4
      unfold damasklaw04_ArithRing.j0
      repeat' first
      | (with_reducible exact ih0 _ _ _ _ _)
      | (with_reducible exact ih1 _ _ _)
      | (with_reducible exact arith_Value.mono _ _ _ _ _)
      | (with_reducible exact damasklaw04_awake.mono _)
      | (with_reducible exact damasklaw04_of.mono _ _ _)
      | (with_reducible exact LeO.refl _)
      | (with_reducible exact LeO.none _)
      | (with_reducible refine LeO.ite ?_ ?_)
      | (with_reducible refine LeO.bind ?_ (fun _ => ?_))
      | exact ih0 _ _ _ _ _
      | exact ih1 _ _ _
      | exact arith_Value.mono _ _ _ _ _
      | exact damasklaw04_awake.mono _
      | exact damasklaw04_of.mono _ _ _
      | exact LeO.none _
      | refine LeO.ite ?_ ?_
      | refine LeO.bind ?_ (fun _ => ?_)
    · intro y0 y1 y2
      unfold damasklaw04_ArithRing.j1
      repeat' first
      | (with_reducible exact ih0 _ _ _ _ _)
      | (with_reducible exact ih1 _ _ _)
      | (with_reducible exact arith_Value.mono _ _ _ _ _)
      | (with_reducible exact damasklaw04_awake.mono _)
      | (with_reducible exact damasklaw04_of.mono _ _ _)
      | (with_reducible exact LeO.refl _)
      | (with_reducible exact LeO.none _)
      | (with_reducible refine LeO.ite ?_ ?_)
      | (with_reducible refine LeO.bind ?_ (fun _ => ?_))
      | exact ih0 _ _ _ _ _
      | exact ih1 _ _ _
      | exact arith_Value.mono _ _ _ _ _
      | exact damasklaw04_awake.mono _
      | exact damasklaw04_of.mono _ _ _
      | exact LeO.none _
      | refine LeO.ite ?_ ?_
      | refine LeO.bind ?_ (fun _ => ?_)
theorem damasklaw04_ArithRing.mono : ∀ a0 a1 a2 k, LeO (damasklaw04_ArithRing.f k a0 a1 a2) (damasklaw04_ArithRing.f (k + 1) a0 a1 a2) := by
  intro a0 a1 a2 k
  obtain ⟨ih0, ih1⟩ := damasklaw04_ArithRing.mono_l k
  unfold damasklaw04_ArithRing.f
  repeat' first
      | (with_reducible exact ih0 _ _ _ _ _)
      | (with_reducible exact ih1 _ _ _)
      | (with_reducible exact arith_Value.mono _ _ _ _ _)
      | (with_reducible exact damasklaw04_awake.mono _)
      | (with_reducible exact damasklaw04_of.mono _ _ _)
      | (with_reducible exact LeO.refl _)
      | (with_reducible exact LeO.none _)
      | (with_reducible refine LeO.ite ?_ ?_)
      | (with_reducible refine LeO.bind ?_ (fun _ => ?_))
      | exact ih0 _ _ _ _ _
      | exact ih1 _ _ _
      | exact arith_Value.mono _ _ _ _ _
      | exact damasklaw04_awake.mono _
      | exact damasklaw04_of.mono _ _ _
      | exact LeO.none _
      | refine LeO.ite ?_ ?_
      | refine LeO.bind ?_ (fun _ => ?_)
set_option maxHeartbeats 8000000 in
set_option maxRecDepth 100000 in
theorem damasklaw04_ArithRing.calls (k : Nat) (a0 : Int) (a1 : Int) (a2 : Int) (r : Bool) (w : World) (hrT0 : r = true) (h : damasklaw04_ArithRing.f k a0 a1 a2 = some r) :
    Calls Try.prog 5 #[.int .i16 a0, .int .i16 a1, .int .i16 a2] w fun e w' => e = .returned (.bool r) ∧ Below w.heap.size w w' := by
  have HB := Aside0.mk (Below.refl w.heap.size w)
  have hrT := Aside0.mk hrT0
  clear hrT0
  have H : ((damasklaw04_of.f k 8 (([wrap64 (a0), wrap64 (a1)] : List Int))).bind fun bt189 => ((damasklaw04_of.f k 8 (([wrap64 (a1), wrap64 (a0)] : List Int))).bind fun bt194 => ((damasklaw04_of.f k 9 (([bt189.1, wrap64 (a1)] : List Int))).bind fun bt199 => ((damasklaw04_of.f k 10 (([wrap64 (a0), wrap64 (a1)] : List Int))).bind fun bt204 => ((damasklaw04_of.f k 10 (([wrap64 (a1), wrap64 (a0)] : List Int))).bind fun bt209 => ((damasklaw04_of.f k 5 (([wrap64 (a0)] : List Int))).bind fun bt214 => ((damasklaw04_awake.f k).bind fun t216 => (if t216 = true then (if bt189.2 = true then (if bt194.2 = true then (if bt199.2 = true then (if bt204.2 = true then (if bt209.2 = true then (if bt214.2 = true then (if bt189.1 = bt194.1 then (if bt199.1 = (wrap64 (a0)) then (damasklaw04_ArithRing.j0 k (wrap64 (a0)) (wrap64 (a2)) bt204.1 bt214.1 (bt204.1 != bt209.1)) else (damasklaw04_ArithRing.j0 k (wrap64 (a0)) (wrap64 (a2)) bt204.1 bt214.1 true)) else (damasklaw04_ArithRing.j0 k (wrap64 (a0)) (wrap64 (a2)) bt204.1 bt214.1 true)) else (damasklaw04_ArithRing.j0 k (wrap64 (a0)) (wrap64 (a2)) bt204.1 bt214.1 true)) else (damasklaw04_ArithRing.j0 k (wrap64 (a0)) (wrap64 (a2)) bt204.1 bt214.1 true)) else (damasklaw04_ArithRing.j0 k (wrap64 (a0)) (wrap64 (a2)) bt204.1 bt214.1 true)) else (damasklaw04_ArithRing.j0 k (wrap64 (a0)) (wrap64 (a2)) bt204.1 bt214.1 true)) else (damasklaw04_ArithRing.j0 k (wrap64 (a0)) (wrap64 (a2)) bt204.1 bt214.1 true)) else (damasklaw04_ArithRing.j0 k (wrap64 (a0)) (wrap64 (a2)) bt204.1 bt214.1 true)) else (damasklaw04_ArithRing.j0 k (wrap64 (a0)) (wrap64 (a2)) bt204.1 bt214.1 true))))))))) = some r := h
  clear h
  obtain ⟨y186, hy186⟩ : ∃ y_ : List Int, y_ = (([wrap64 (a0), wrap64 (a1)] : List Int)) := ⟨_, rfl⟩
  replace H : ((damasklaw04_of.f k 8 y186).bind fun bt189 => ((damasklaw04_of.f k 8 (([wrap64 (a1), wrap64 (a0)] : List Int))).bind fun bt194 => ((damasklaw04_of.f k 9 (([bt189.1, wrap64 (a1)] : List Int))).bind fun bt199 => ((damasklaw04_of.f k 10 (([wrap64 (a0), wrap64 (a1)] : List Int))).bind fun bt204 => ((damasklaw04_of.f k 10 (([wrap64 (a1), wrap64 (a0)] : List Int))).bind fun bt209 => ((damasklaw04_of.f k 5 (([wrap64 (a0)] : List Int))).bind fun bt214 => ((damasklaw04_awake.f k).bind fun t216 => (if t216 = true then (if bt189.2 = true then (if bt194.2 = true then (if bt199.2 = true then (if bt204.2 = true then (if bt209.2 = true then (if bt214.2 = true then (if bt189.1 = bt194.1 then (if bt199.1 = (wrap64 (a0)) then (damasklaw04_ArithRing.j0 k (wrap64 (a0)) (wrap64 (a2)) bt204.1 bt214.1 (bt204.1 != bt209.1)) else (damasklaw04_ArithRing.j0 k (wrap64 (a0)) (wrap64 (a2)) bt204.1 bt214.1 true)) else (damasklaw04_ArithRing.j0 k (wrap64 (a0)) (wrap64 (a2)) bt204.1 bt214.1 true)) else (damasklaw04_ArithRing.j0 k (wrap64 (a0)) (wrap64 (a2)) bt204.1 bt214.1 true)) else (damasklaw04_ArithRing.j0 k (wrap64 (a0)) (wrap64 (a2)) bt204.1 bt214.1 true)) else (damasklaw04_ArithRing.j0 k (wrap64 (a0)) (wrap64 (a2)) bt204.1 bt214.1 true)) else (damasklaw04_ArithRing.j0 k (wrap64 (a0)) (wrap64 (a2)) bt204.1 bt214.1 true)) else (damasklaw04_ArithRing.j0 k (wrap64 (a0)) (wrap64 (a2)) bt204.1 bt214.1 true)) else (damasklaw04_ArithRing.j0 k (wrap64 (a0)) (wrap64 (a2)) bt204.1 bt214.1 true)) else (damasklaw04_ArithRing.j0 k (wrap64 (a0)) (wrap64 (a2)) bt204.1 bt214.1 true))))))))) = some r := by first | (rw [hy186]; with_reducible exact H) | (have H2_ := (Option.bind_some _ _).symm.trans H; rw [hy186]; with_reducible exact H2_) | (have H2_ := (Option.bind_some _ _).symm.trans H; with_reducible exact H2_) | with_reducible exact H | (rw [hy186]; exact H) | exact H
  have Ny186 := Aside0.mk hy186
  clear hy186
  replace H := Option.bind_eq_some_iff.mp H
  obtain ⟨⟨t189, t190⟩, A40, H⟩ := H
  replace H : ((damasklaw04_of.f k 8 (([wrap64 (a1), wrap64 (a0)] : List Int))).bind fun bt194 => ((damasklaw04_of.f k 9 (([t189, wrap64 (a1)] : List Int))).bind fun bt199 => ((damasklaw04_of.f k 10 (([wrap64 (a0), wrap64 (a1)] : List Int))).bind fun bt204 => ((damasklaw04_of.f k 10 (([wrap64 (a1), wrap64 (a0)] : List Int))).bind fun bt209 => ((damasklaw04_of.f k 5 (([wrap64 (a0)] : List Int))).bind fun bt214 => ((damasklaw04_awake.f k).bind fun t216 => (if t216 = true then (if t190 = true then (if bt194.2 = true then (if bt199.2 = true then (if bt204.2 = true then (if bt209.2 = true then (if bt214.2 = true then (if t189 = bt194.1 then (if bt199.1 = (wrap64 (a0)) then (damasklaw04_ArithRing.j0 k (wrap64 (a0)) (wrap64 (a2)) bt204.1 bt214.1 (bt204.1 != bt209.1)) else (damasklaw04_ArithRing.j0 k (wrap64 (a0)) (wrap64 (a2)) bt204.1 bt214.1 true)) else (damasklaw04_ArithRing.j0 k (wrap64 (a0)) (wrap64 (a2)) bt204.1 bt214.1 true)) else (damasklaw04_ArithRing.j0 k (wrap64 (a0)) (wrap64 (a2)) bt204.1 bt214.1 true)) else (damasklaw04_ArithRing.j0 k (wrap64 (a0)) (wrap64 (a2)) bt204.1 bt214.1 true)) else (damasklaw04_ArithRing.j0 k (wrap64 (a0)) (wrap64 (a2)) bt204.1 bt214.1 true)) else (damasklaw04_ArithRing.j0 k (wrap64 (a0)) (wrap64 (a2)) bt204.1 bt214.1 true)) else (damasklaw04_ArithRing.j0 k (wrap64 (a0)) (wrap64 (a2)) bt204.1 bt214.1 true)) else (damasklaw04_ArithRing.j0 k (wrap64 (a0)) (wrap64 (a2)) bt204.1 bt214.1 true)) else (damasklaw04_ArithRing.j0 k (wrap64 (a0)) (wrap64 (a2)) bt204.1 bt214.1 true)))))))) = some r := H
  have A4 := Aside0.mk A40
  clear A40
  obtain ⟨y191, hy191⟩ : ∃ y_ : List Int, y_ = (([wrap64 (a1), wrap64 (a0)] : List Int)) := ⟨_, rfl⟩
  replace H : ((damasklaw04_of.f k 8 y191).bind fun bt194 => ((damasklaw04_of.f k 9 (([t189, wrap64 (a1)] : List Int))).bind fun bt199 => ((damasklaw04_of.f k 10 (([wrap64 (a0), wrap64 (a1)] : List Int))).bind fun bt204 => ((damasklaw04_of.f k 10 (([wrap64 (a1), wrap64 (a0)] : List Int))).bind fun bt209 => ((damasklaw04_of.f k 5 (([wrap64 (a0)] : List Int))).bind fun bt214 => ((damasklaw04_awake.f k).bind fun t216 => (if t216 = true then (if t190 = true then (if bt194.2 = true then (if bt199.2 = true then (if bt204.2 = true then (if bt209.2 = true then (if bt214.2 = true then (if t189 = bt194.1 then (if bt199.1 = (wrap64 (a0)) then (damasklaw04_ArithRing.j0 k (wrap64 (a0)) (wrap64 (a2)) bt204.1 bt214.1 (bt204.1 != bt209.1)) else (damasklaw04_ArithRing.j0 k (wrap64 (a0)) (wrap64 (a2)) bt204.1 bt214.1 true)) else (damasklaw04_ArithRing.j0 k (wrap64 (a0)) (wrap64 (a2)) bt204.1 bt214.1 true)) else (damasklaw04_ArithRing.j0 k (wrap64 (a0)) (wrap64 (a2)) bt204.1 bt214.1 true)) else (damasklaw04_ArithRing.j0 k (wrap64 (a0)) (wrap64 (a2)) bt204.1 bt214.1 true)) else (damasklaw04_ArithRing.j0 k (wrap64 (a0)) (wrap64 (a2)) bt204.1 bt214.1 true)) else (damasklaw04_ArithRing.j0 k (wrap64 (a0)) (wrap64 (a2)) bt204.1 bt214.1 true)) else (damasklaw04_ArithRing.j0 k (wrap64 (a0)) (wrap64 (a2)) bt204.1 bt214.1 true)) else (damasklaw04_ArithRing.j0 k (wrap64 (a0)) (wrap64 (a2)) bt204.1 bt214.1 true)) else (damasklaw04_ArithRing.j0 k (wrap64 (a0)) (wrap64 (a2)) bt204.1 bt214.1 true)))))))) = some r := by first | (rw [hy191]; with_reducible exact H) | (have H2_ := (Option.bind_some _ _).symm.trans H; rw [hy191]; with_reducible exact H2_) | (have H2_ := (Option.bind_some _ _).symm.trans H; with_reducible exact H2_) | with_reducible exact H | (rw [hy191]; exact H) | exact H
  have Ny191 := Aside0.mk hy191
  clear hy191
  replace H := Option.bind_eq_some_iff.mp H
  obtain ⟨⟨t194, t195⟩, A50, H⟩ := H
  replace H : ((damasklaw04_of.f k 9 (([t189, wrap64 (a1)] : List Int))).bind fun bt199 => ((damasklaw04_of.f k 10 (([wrap64 (a0), wrap64 (a1)] : List Int))).bind fun bt204 => ((damasklaw04_of.f k 10 (([wrap64 (a1), wrap64 (a0)] : List Int))).bind fun bt209 => ((damasklaw04_of.f k 5 (([wrap64 (a0)] : List Int))).bind fun bt214 => ((damasklaw04_awake.f k).bind fun t216 => (if t216 = true then (if t190 = true then (if t195 = true then (if bt199.2 = true then (if bt204.2 = true then (if bt209.2 = true then (if bt214.2 = true then (if t189 = t194 then (if bt199.1 = (wrap64 (a0)) then (damasklaw04_ArithRing.j0 k (wrap64 (a0)) (wrap64 (a2)) bt204.1 bt214.1 (bt204.1 != bt209.1)) else (damasklaw04_ArithRing.j0 k (wrap64 (a0)) (wrap64 (a2)) bt204.1 bt214.1 true)) else (damasklaw04_ArithRing.j0 k (wrap64 (a0)) (wrap64 (a2)) bt204.1 bt214.1 true)) else (damasklaw04_ArithRing.j0 k (wrap64 (a0)) (wrap64 (a2)) bt204.1 bt214.1 true)) else (damasklaw04_ArithRing.j0 k (wrap64 (a0)) (wrap64 (a2)) bt204.1 bt214.1 true)) else (damasklaw04_ArithRing.j0 k (wrap64 (a0)) (wrap64 (a2)) bt204.1 bt214.1 true)) else (damasklaw04_ArithRing.j0 k (wrap64 (a0)) (wrap64 (a2)) bt204.1 bt214.1 true)) else (damasklaw04_ArithRing.j0 k (wrap64 (a0)) (wrap64 (a2)) bt204.1 bt214.1 true)) else (damasklaw04_ArithRing.j0 k (wrap64 (a0)) (wrap64 (a2)) bt204.1 bt214.1 true)) else (damasklaw04_ArithRing.j0 k (wrap64 (a0)) (wrap64 (a2)) bt204.1 bt214.1 true))))))) = some r := H
  have A5 := Aside0.mk A50
  clear A50
  obtain ⟨y196, hy196⟩ : ∃ y_ : List Int, y_ = (([t189, wrap64 (a1)] : List Int)) := ⟨_, rfl⟩
  replace H : ((damasklaw04_of.f k 9 y196).bind fun bt199 => ((damasklaw04_of.f k 10 (([wrap64 (a0), wrap64 (a1)] : List Int))).bind fun bt204 => ((damasklaw04_of.f k 10 (([wrap64 (a1), wrap64 (a0)] : List Int))).bind fun bt209 => ((damasklaw04_of.f k 5 (([wrap64 (a0)] : List Int))).bind fun bt214 => ((damasklaw04_awake.f k).bind fun t216 => (if t216 = true then (if t190 = true then (if t195 = true then (if bt199.2 = true then (if bt204.2 = true then (if bt209.2 = true then (if bt214.2 = true then (if t189 = t194 then (if bt199.1 = (wrap64 (a0)) then (damasklaw04_ArithRing.j0 k (wrap64 (a0)) (wrap64 (a2)) bt204.1 bt214.1 (bt204.1 != bt209.1)) else (damasklaw04_ArithRing.j0 k (wrap64 (a0)) (wrap64 (a2)) bt204.1 bt214.1 true)) else (damasklaw04_ArithRing.j0 k (wrap64 (a0)) (wrap64 (a2)) bt204.1 bt214.1 true)) else (damasklaw04_ArithRing.j0 k (wrap64 (a0)) (wrap64 (a2)) bt204.1 bt214.1 true)) else (damasklaw04_ArithRing.j0 k (wrap64 (a0)) (wrap64 (a2)) bt204.1 bt214.1 true)) else (damasklaw04_ArithRing.j0 k (wrap64 (a0)) (wrap64 (a2)) bt204.1 bt214.1 true)) else (damasklaw04_ArithRing.j0 k (wrap64 (a0)) (wrap64 (a2)) bt204.1 bt214.1 true)) else (damasklaw04_ArithRing.j0 k (wrap64 (a0)) (wrap64 (a2)) bt204.1 bt214.1 true)) else (damasklaw04_ArithRing.j0 k (wrap64 (a0)) (wrap64 (a2)) bt204.1 bt214.1 true)) else (damasklaw04_ArithRing.j0 k (wrap64 (a0)) (wrap64 (a2)) bt204.1 bt214.1 true))))))) = some r := by first | (rw [hy196]; with_reducible exact H) | (have H2_ := (Option.bind_some _ _).symm.trans H; rw [hy196]; with_reducible exact H2_) | (have H2_ := (Option.bind_some _ _).symm.trans H; with_reducible exact H2_) | with_reducible exact H | (rw [hy196]; exact H) | exact H
  have Ny196 := Aside0.mk hy196
  clear hy196
  replace H := Option.bind_eq_some_iff.mp H
  obtain ⟨⟨t199, t200⟩, A60, H⟩ := H
  replace H : ((damasklaw04_of.f k 10 (([wrap64 (a0), wrap64 (a1)] : List Int))).bind fun bt204 => ((damasklaw04_of.f k 10 (([wrap64 (a1), wrap64 (a0)] : List Int))).bind fun bt209 => ((damasklaw04_of.f k 5 (([wrap64 (a0)] : List Int))).bind fun bt214 => ((damasklaw04_awake.f k).bind fun t216 => (if t216 = true then (if t190 = true then (if t195 = true then (if t200 = true then (if bt204.2 = true then (if bt209.2 = true then (if bt214.2 = true then (if t189 = t194 then (if t199 = (wrap64 (a0)) then (damasklaw04_ArithRing.j0 k (wrap64 (a0)) (wrap64 (a2)) bt204.1 bt214.1 (bt204.1 != bt209.1)) else (damasklaw04_ArithRing.j0 k (wrap64 (a0)) (wrap64 (a2)) bt204.1 bt214.1 true)) else (damasklaw04_ArithRing.j0 k (wrap64 (a0)) (wrap64 (a2)) bt204.1 bt214.1 true)) else (damasklaw04_ArithRing.j0 k (wrap64 (a0)) (wrap64 (a2)) bt204.1 bt214.1 true)) else (damasklaw04_ArithRing.j0 k (wrap64 (a0)) (wrap64 (a2)) bt204.1 bt214.1 true)) else (damasklaw04_ArithRing.j0 k (wrap64 (a0)) (wrap64 (a2)) bt204.1 bt214.1 true)) else (damasklaw04_ArithRing.j0 k (wrap64 (a0)) (wrap64 (a2)) bt204.1 bt214.1 true)) else (damasklaw04_ArithRing.j0 k (wrap64 (a0)) (wrap64 (a2)) bt204.1 bt214.1 true)) else (damasklaw04_ArithRing.j0 k (wrap64 (a0)) (wrap64 (a2)) bt204.1 bt214.1 true)) else (damasklaw04_ArithRing.j0 k (wrap64 (a0)) (wrap64 (a2)) bt204.1 bt214.1 true)))))) = some r := H
  have A6 := Aside0.mk A60
  clear A60
  obtain ⟨y201, hy201⟩ : ∃ y_ : List Int, y_ = (([wrap64 (a0), wrap64 (a1)] : List Int)) := ⟨_, rfl⟩
  replace H : ((damasklaw04_of.f k 10 y201).bind fun bt204 => ((damasklaw04_of.f k 10 (([wrap64 (a1), wrap64 (a0)] : List Int))).bind fun bt209 => ((damasklaw04_of.f k 5 (([wrap64 (a0)] : List Int))).bind fun bt214 => ((damasklaw04_awake.f k).bind fun t216 => (if t216 = true then (if t190 = true then (if t195 = true then (if t200 = true then (if bt204.2 = true then (if bt209.2 = true then (if bt214.2 = true then (if t189 = t194 then (if t199 = (wrap64 (a0)) then (damasklaw04_ArithRing.j0 k (wrap64 (a0)) (wrap64 (a2)) bt204.1 bt214.1 (bt204.1 != bt209.1)) else (damasklaw04_ArithRing.j0 k (wrap64 (a0)) (wrap64 (a2)) bt204.1 bt214.1 true)) else (damasklaw04_ArithRing.j0 k (wrap64 (a0)) (wrap64 (a2)) bt204.1 bt214.1 true)) else (damasklaw04_ArithRing.j0 k (wrap64 (a0)) (wrap64 (a2)) bt204.1 bt214.1 true)) else (damasklaw04_ArithRing.j0 k (wrap64 (a0)) (wrap64 (a2)) bt204.1 bt214.1 true)) else (damasklaw04_ArithRing.j0 k (wrap64 (a0)) (wrap64 (a2)) bt204.1 bt214.1 true)) else (damasklaw04_ArithRing.j0 k (wrap64 (a0)) (wrap64 (a2)) bt204.1 bt214.1 true)) else (damasklaw04_ArithRing.j0 k (wrap64 (a0)) (wrap64 (a2)) bt204.1 bt214.1 true)) else (damasklaw04_ArithRing.j0 k (wrap64 (a0)) (wrap64 (a2)) bt204.1 bt214.1 true)) else (damasklaw04_ArithRing.j0 k (wrap64 (a0)) (wrap64 (a2)) bt204.1 bt214.1 true)))))) = some r := by first | (rw [hy201]; with_reducible exact H) | (have H2_ := (Option.bind_some _ _).symm.trans H; rw [hy201]; with_reducible exact H2_) | (have H2_ := (Option.bind_some _ _).symm.trans H; with_reducible exact H2_) | with_reducible exact H | (rw [hy201]; exact H) | exact H
  have Ny201 := Aside0.mk hy201
  clear hy201
  replace H := Option.bind_eq_some_iff.mp H
  obtain ⟨⟨t204, t205⟩, A70, H⟩ := H
  replace H : ((damasklaw04_of.f k 10 (([wrap64 (a1), wrap64 (a0)] : List Int))).bind fun bt209 => ((damasklaw04_of.f k 5 (([wrap64 (a0)] : List Int))).bind fun bt214 => ((damasklaw04_awake.f k).bind fun t216 => (if t216 = true then (if t190 = true then (if t195 = true then (if t200 = true then (if t205 = true then (if bt209.2 = true then (if bt214.2 = true then (if t189 = t194 then (if t199 = (wrap64 (a0)) then (damasklaw04_ArithRing.j0 k (wrap64 (a0)) (wrap64 (a2)) t204 bt214.1 (t204 != bt209.1)) else (damasklaw04_ArithRing.j0 k (wrap64 (a0)) (wrap64 (a2)) t204 bt214.1 true)) else (damasklaw04_ArithRing.j0 k (wrap64 (a0)) (wrap64 (a2)) t204 bt214.1 true)) else (damasklaw04_ArithRing.j0 k (wrap64 (a0)) (wrap64 (a2)) t204 bt214.1 true)) else (damasklaw04_ArithRing.j0 k (wrap64 (a0)) (wrap64 (a2)) t204 bt214.1 true)) else (damasklaw04_ArithRing.j0 k (wrap64 (a0)) (wrap64 (a2)) t204 bt214.1 true)) else (damasklaw04_ArithRing.j0 k (wrap64 (a0)) (wrap64 (a2)) t204 bt214.1 true)) else (damasklaw04_ArithRing.j0 k (wrap64 (a0)) (wrap64 (a2)) t204 bt214.1 true)) else (damasklaw04_ArithRing.j0 k (wrap64 (a0)) (wrap64 (a2)) t204 bt214.1 true)) else (damasklaw04_ArithRing.j0 k (wrap64 (a0)) (wrap64 (a2)) t204 bt214.1 true))))) = some r := H
  have A7 := Aside0.mk A70
  clear A70
  obtain ⟨y206, hy206⟩ : ∃ y_ : List Int, y_ = (([wrap64 (a1), wrap64 (a0)] : List Int)) := ⟨_, rfl⟩
  replace H : ((damasklaw04_of.f k 10 y206).bind fun bt209 => ((damasklaw04_of.f k 5 (([wrap64 (a0)] : List Int))).bind fun bt214 => ((damasklaw04_awake.f k).bind fun t216 => (if t216 = true then (if t190 = true then (if t195 = true then (if t200 = true then (if t205 = true then (if bt209.2 = true then (if bt214.2 = true then (if t189 = t194 then (if t199 = (wrap64 (a0)) then (damasklaw04_ArithRing.j0 k (wrap64 (a0)) (wrap64 (a2)) t204 bt214.1 (t204 != bt209.1)) else (damasklaw04_ArithRing.j0 k (wrap64 (a0)) (wrap64 (a2)) t204 bt214.1 true)) else (damasklaw04_ArithRing.j0 k (wrap64 (a0)) (wrap64 (a2)) t204 bt214.1 true)) else (damasklaw04_ArithRing.j0 k (wrap64 (a0)) (wrap64 (a2)) t204 bt214.1 true)) else (damasklaw04_ArithRing.j0 k (wrap64 (a0)) (wrap64 (a2)) t204 bt214.1 true)) else (damasklaw04_ArithRing.j0 k (wrap64 (a0)) (wrap64 (a2)) t204 bt214.1 true)) else (damasklaw04_ArithRing.j0 k (wrap64 (a0)) (wrap64 (a2)) t204 bt214.1 true)) else (damasklaw04_ArithRing.j0 k (wrap64 (a0)) (wrap64 (a2)) t204 bt214.1 true)) else (damasklaw04_ArithRing.j0 k (wrap64 (a0)) (wrap64 (a2)) t204 bt214.1 true)) else (damasklaw04_ArithRing.j0 k (wrap64 (a0)) (wrap64 (a2)) t204 bt214.1 true))))) = some r := by first | (rw [hy206]; with_reducible exact H) | (have H2_ := (Option.bind_some _ _).symm.trans H; rw [hy206]; with_reducible exact H2_) | (have H2_ := (Option.bind_some _ _).symm.trans H; with_reducible exact H2_) | with_reducible exact H | (rw [hy206]; exact H) | exact H
  have Ny206 := Aside0.mk hy206
  clear hy206
  replace H := Option.bind_eq_some_iff.mp H
  obtain ⟨⟨t209, t210⟩, A80, H⟩ := H
  replace H : ((damasklaw04_of.f k 5 (([wrap64 (a0)] : List Int))).bind fun bt214 => ((damasklaw04_awake.f k).bind fun t216 => (if t216 = true then (if t190 = true then (if t195 = true then (if t200 = true then (if t205 = true then (if t210 = true then (if bt214.2 = true then (if t189 = t194 then (if t199 = (wrap64 (a0)) then (damasklaw04_ArithRing.j0 k (wrap64 (a0)) (wrap64 (a2)) t204 bt214.1 (t204 != t209)) else (damasklaw04_ArithRing.j0 k (wrap64 (a0)) (wrap64 (a2)) t204 bt214.1 true)) else (damasklaw04_ArithRing.j0 k (wrap64 (a0)) (wrap64 (a2)) t204 bt214.1 true)) else (damasklaw04_ArithRing.j0 k (wrap64 (a0)) (wrap64 (a2)) t204 bt214.1 true)) else (damasklaw04_ArithRing.j0 k (wrap64 (a0)) (wrap64 (a2)) t204 bt214.1 true)) else (damasklaw04_ArithRing.j0 k (wrap64 (a0)) (wrap64 (a2)) t204 bt214.1 true)) else (damasklaw04_ArithRing.j0 k (wrap64 (a0)) (wrap64 (a2)) t204 bt214.1 true)) else (damasklaw04_ArithRing.j0 k (wrap64 (a0)) (wrap64 (a2)) t204 bt214.1 true)) else (damasklaw04_ArithRing.j0 k (wrap64 (a0)) (wrap64 (a2)) t204 bt214.1 true)) else (damasklaw04_ArithRing.j0 k (wrap64 (a0)) (wrap64 (a2)) t204 bt214.1 true)))) = some r := H
  have A8 := Aside0.mk A80
  clear A80
  obtain ⟨y211, hy211⟩ : ∃ y_ : List Int, y_ = (([wrap64 (a0)] : List Int)) := ⟨_, rfl⟩
  replace H : ((damasklaw04_of.f k 5 y211).bind fun bt214 => ((damasklaw04_awake.f k).bind fun t216 => (if t216 = true then (if t190 = true then (if t195 = true then (if t200 = true then (if t205 = true then (if t210 = true then (if bt214.2 = true then (if t189 = t194 then (if t199 = (wrap64 (a0)) then (damasklaw04_ArithRing.j0 k (wrap64 (a0)) (wrap64 (a2)) t204 bt214.1 (t204 != t209)) else (damasklaw04_ArithRing.j0 k (wrap64 (a0)) (wrap64 (a2)) t204 bt214.1 true)) else (damasklaw04_ArithRing.j0 k (wrap64 (a0)) (wrap64 (a2)) t204 bt214.1 true)) else (damasklaw04_ArithRing.j0 k (wrap64 (a0)) (wrap64 (a2)) t204 bt214.1 true)) else (damasklaw04_ArithRing.j0 k (wrap64 (a0)) (wrap64 (a2)) t204 bt214.1 true)) else (damasklaw04_ArithRing.j0 k (wrap64 (a0)) (wrap64 (a2)) t204 bt214.1 true)) else (damasklaw04_ArithRing.j0 k (wrap64 (a0)) (wrap64 (a2)) t204 bt214.1 true)) else (damasklaw04_ArithRing.j0 k (wrap64 (a0)) (wrap64 (a2)) t204 bt214.1 true)) else (damasklaw04_ArithRing.j0 k (wrap64 (a0)) (wrap64 (a2)) t204 bt214.1 true)) else (damasklaw04_ArithRing.j0 k (wrap64 (a0)) (wrap64 (a2)) t204 bt214.1 true)))) = some r := by first | (rw [hy211]; with_reducible exact H) | (have H2_ := (Option.bind_some _ _).symm.trans H; rw [hy211]; with_reducible exact H2_) | (have H2_ := (Option.bind_some _ _).symm.trans H; with_reducible exact H2_) | with_reducible exact H | (rw [hy211]; exact H) | exact H
  have Ny211 := Aside0.mk hy211
  clear hy211
  replace H := Option.bind_eq_some_iff.mp H
  obtain ⟨⟨t214, t215⟩, A90, H⟩ := H
  replace H : ((damasklaw04_awake.f k).bind fun t216 => (if t216 = true then (if t190 = true then (if t195 = true then (if t200 = true then (if t205 = true then (if t210 = true then (if t215 = true then (if t189 = t194 then (if t199 = (wrap64 (a0)) then (damasklaw04_ArithRing.j0 k (wrap64 (a0)) (wrap64 (a2)) t204 t214 (t204 != t209)) else (damasklaw04_ArithRing.j0 k (wrap64 (a0)) (wrap64 (a2)) t204 t214 true)) else (damasklaw04_ArithRing.j0 k (wrap64 (a0)) (wrap64 (a2)) t204 t214 true)) else (damasklaw04_ArithRing.j0 k (wrap64 (a0)) (wrap64 (a2)) t204 t214 true)) else (damasklaw04_ArithRing.j0 k (wrap64 (a0)) (wrap64 (a2)) t204 t214 true)) else (damasklaw04_ArithRing.j0 k (wrap64 (a0)) (wrap64 (a2)) t204 t214 true)) else (damasklaw04_ArithRing.j0 k (wrap64 (a0)) (wrap64 (a2)) t204 t214 true)) else (damasklaw04_ArithRing.j0 k (wrap64 (a0)) (wrap64 (a2)) t204 t214 true)) else (damasklaw04_ArithRing.j0 k (wrap64 (a0)) (wrap64 (a2)) t204 t214 true)) else (damasklaw04_ArithRing.j0 k (wrap64 (a0)) (wrap64 (a2)) t204 t214 true))) = some r := H
  have A9 := Aside0.mk A90
  clear A90
  have HC10 := Aside0.mk H
  clear H
  go_enter Try.func5, Try.ntmps5
  go_upto_region 8 with (first | ((with_reducible refine gate_dst (N := 40) rfl ?_); refine Kd.R_lit (Kd.int .i64) _ 3 ?hg (N := 40) ?hd (xs := ([wrap64 (a0), wrap64 (a1)] : List Int)) (inner := [.int .i64 (wrap64 (a0)), .int .i64 (wrap64 (a1))]) (ok := fun _ => True) (okp := fun _ => True) ?hr ?hp (fun _ hk => hk) trivial (Below.refl _ _) (Nat.le_refl _) (by simp) ?_; (case hd => rfl); (case hg => rfl); (case hr => first | (go_simp; done) | (go_simp; rfl)); (case hp => exact (Reps.one (show Kd.M (Kd.int .i64) _ _ _ (wrap64 (a0)) [.int .i64 (wrap64 (a0))] from rfl) (Reps.one (show Kd.M (Kd.int .i64) _ _ _ (wrap64 (a1)) [.int .i64 (wrap64 (a1))] from rfl) (Reps.none _ _)))); intro v187 w11 ho12 hb hg_ hnew_; clear hg_ hnew_; (first | rw [← Ny186.out] at ho12 | (simp only [Int.reduceToNat] at ho12; rw [← Ny186.out] at ho12)); have n0_ := Aside0.mk (Kd.R_lower ho12 (below_size (by repeat (first | (with_reducible first | exact HB.out | apply below_alloc | apply pw_below_drewN | apply below_drew1) | exact HB.out)))); have n1_ := Aside0.mk (below_step (by repeat (first | (with_reducible first | exact HB.out | apply below_alloc | apply pw_below_drewN | apply below_drew1) | exact HB.out)) hb); clear HB; have HO188 := n0_; have HB := n1_; clear n0_ n1_; clear hb ho12; obtain ⟨Ao13, co13, eo13⟩ := Kd.R_slice HO188.out; subst eo13) | ((with_reducible refine gate_callee (f := 25) rfl ?_); refine goesL_ (some 41) rfl rfl Try.func25 (by kernel_rfl) rfl #[.int .i64 8, .slice Ao13 y186.length co13] rfl (by (try simp only [List.map_toArray, List.map_cons, List.map_nil]); first | done | rfl | (simp only [List.length_drop, List.length_take]; rfl)) ?_; (with_reducible refine (damasklaw04_of.calls k 8 _ _ y186 t189 t190 _ ?side1 ?side2 A4.out).mono ?_); (case side1 => repeat (first | exact (Kd.R_reads' HO188.out).2.2 | (with_reducible refine Kd.C_alloc ?_ _) | (with_reducible refine Kd.C_drewN ?_ _) | (with_reducible refine Kd.C_drew ?_))); (case side2 => exact (Kd.R_reads' HO188.out).2.1); rintro e w14 ⟨rfl, hb⟩; refine ⟨_, rfl, ?_⟩; have n0_ := Aside0.mk (Kd.R_below (by (with_reducible repeat (first | apply Kd.R_alloc | apply Kd.R_drewN | apply Kd.R_drew)); exact HO188.out) hb); have n1_ := Aside0.mk (below_step (by repeat (first | (with_reducible first | exact HB.out | apply below_alloc | apply pw_below_drewN | apply below_drew1) | exact HB.out)) hb); clear HO188; clear HB; have HO188 := n0_; have HB := n1_; clear n0_ n1_; (try clear hb); (try clear hb2); (try clear hk); (try clear hi)) | ((with_reducible refine gate_dst (N := 47) rfl ?_); refine Kd.R_lit (Kd.int .i64) _ 3 ?hg (N := 47) ?hd (xs := ([wrap64 (a1), wrap64 (a0)] : List Int)) (inner := [.int .i64 (wrap64 (a1)), .int .i64 (wrap64 (a0))]) (ok := fun _ => True) (okp := fun _ => True) ?hr ?hp (fun _ hk => hk) trivial (Below.refl _ _) (Nat.le_refl _) (by simp) ?_; (case hd => rfl); (case hg => rfl); (case hr => first | (go_simp; done) | (go_simp; rfl)); (case hp => exact (Reps.one (show Kd.M (Kd.int .i64) _ _ _ (wrap64 (a1)) [.int .i64 (wrap64 (a1))] from rfl) (Reps.one (show Kd.M (Kd.int .i64) _ _ _ (wrap64 (a0)) [.int .i64 (wrap64 (a0))] from rfl) (Reps.none _ _)))); intro v192 w15 ho16 hb hg_ hnew_; clear hg_ hnew_; (first | rw [← Ny191.out] at ho16 | (simp only [Int.reduceToNat] at ho16; rw [← Ny191.out] at ho16)); have n0_ := Aside0.mk (Kd.R_elder' (by (with_reducible repeat (first | apply Kd.R_alloc | apply Kd.R_drewN | apply Kd.R_drew)); exact HO188.out) (Kd.R_base ho16) hb); have n1_ := Aside0.mk (Kd.R_lower (Kd.R_new' ho16 (Kd.R_lt (by (with_reducible repeat (first | apply Kd.R_alloc | apply Kd.R_drewN | apply Kd.R_drew)); exact HO188.out))) (below_size (by repeat (first | (with_reducible first | exact HB.out | apply below_alloc | apply pw_below_drewN | apply below_drew1) | exact HB.out)))); have n2_ := Aside0.mk (below_step (by repeat (first | (with_reducible first | exact HB.out | apply below_alloc | apply pw_below_drewN | apply below_drew1) | exact HB.out)) hb); clear HO188; clear HB; have HO188 := n0_; have HO193 := n1_; have HB := n2_; clear n0_ n1_ n2_; clear hb ho16; obtain ⟨Ao17, co17, eo17⟩ := Kd.R_slice HO193.out; subst eo17) | ((with_reducible refine gate_callee (f := 25) rfl ?_); refine goesL_ (some 48) rfl rfl Try.func25 (by kernel_rfl) rfl #[.int .i64 8, .slice Ao17 y191.length co17] rfl (by (try simp only [List.map_toArray, List.map_cons, List.map_nil]); first | done | rfl | (simp only [List.length_drop, List.length_take]; rfl)) ?_; (with_reducible refine (damasklaw04_of.calls k 8 _ _ y191 t194 t195 _ ?side1 ?side2 A5.out).mono ?_); (case side1 => repeat (first | exact (Kd.R_reads' HO193.out).2.2 | (with_reducible refine Kd.C_alloc ?_ _) | (with_reducible refine Kd.C_drewN ?_ _) | (with_reducible refine Kd.C_drew ?_))); (case side2 => exact (Kd.R_reads' HO193.out).2.1); rintro e w18 ⟨rfl, hb⟩; refine ⟨_, rfl, ?_⟩; have n0_ := Aside0.mk (Kd.R_below (by (with_reducible repeat (first | apply Kd.R_alloc | apply Kd.R_drewN | apply Kd.R_drew)); exact HO188.out) hb); have n1_ := Aside0.mk (Kd.R_below (by (with_reducible repeat (first | apply Kd.R_alloc | apply Kd.R_drewN | apply Kd.R_drew)); exact HO193.out) hb); have n2_ := Aside0.mk (below_step (by repeat (first | (with_reducible first | exact HB.out | apply below_alloc | apply pw_below_drewN | apply below_drew1) | exact HB.out)) hb); clear HO188; clear HO193; clear HB; have HO188 := n0_; have HO193 := n1_; have HB := n2_; clear n0_ n1_ n2_; (try clear hb); (try clear hb2); (try clear hk); (try clear hi)) | ((with_reducible refine gate_dst (N := 54) rfl ?_); refine Kd.R_lit (Kd.int .i64) _ 3 ?hg (N := 54) ?hd (xs := ([t189, wrap64 (a1)] : List Int)) (inner := [.int .i64 t189, .int .i64 (wrap64 (a1))]) (ok := fun _ => True) (okp := fun _ => True) ?hr ?hp (fun _ hk => hk) trivial (Below.refl _ _) (Nat.le_refl _) (by simp) ?_; (case hd => rfl); (case hg => rfl); (case hr => first | (go_simp; done) | (go_simp; rfl)); (case hp => exact (Reps.one (show Kd.M (Kd.int .i64) _ _ _ t189 [.int .i64 t189] from rfl) (Reps.one (show Kd.M (Kd.int .i64) _ _ _ (wrap64 (a1)) [.int .i64 (wrap64 (a1))] from rfl) (Reps.none _ _)))); intro v197 w19 ho20 hb hg_ hnew_; clear hg_ hnew_; (first | rw [← Ny196.out] at ho20 | (simp only [Int.reduceToNat] at ho20; rw [← Ny196.out] at ho20)); have n0_ := Aside0.mk (Kd.R_elder' (by (with_reducible repeat (first | apply Kd.R_alloc | apply Kd.R_drewN | apply Kd.R_drew)); exact HO188.out) (Kd.R_base ho20) hb); have n1_ := Aside0.mk (Kd.R_elder' (by (with_reducible repeat (first | apply Kd.R_alloc | apply Kd.R_drewN | apply Kd.R_drew)); exact HO193.out) (Kd.R_base ho20) hb); have n2_ := Aside0.mk (Kd.R_lower (Kd.R_new' (Kd.R_new' ho20 (Kd.R_lt (by (with_reducible repeat (first | apply Kd.R_alloc | apply Kd.R_drewN | apply Kd.R_drew)); exact HO188.out))) (Kd.R_lt (by (with_reducible repeat (first | apply Kd.R_alloc | apply Kd.R_drewN | apply Kd.R_drew)); exact HO193.out))) (below_size (by repeat (first | (with_reducible first | exact HB.out | apply below_alloc | apply pw_below_drewN | apply below_drew1) | exact HB.out)))); have n3_ := Aside0.mk (below_step (by repeat (first | (with_reducible first | exact HB.out | apply below_alloc | apply pw_below_drewN | apply below_drew1) | exact HB.out)) hb); clear HO188; clear HO193; clear HB; have HO188 := n0_; have HO193 := n1_; have HO198 := n2_; have HB := n3_; clear n0_ n1_ n2_ n3_; clear hb ho20; obtain ⟨Ao21, co21, eo21⟩ := Kd.R_slice HO198.out; subst eo21) | ((with_reducible refine gate_callee (f := 25) rfl ?_); refine goesL_ (some 55) rfl rfl Try.func25 (by kernel_rfl) rfl #[.int .i64 9, .slice Ao21 y196.length co21] rfl (by (try simp only [List.map_toArray, List.map_cons, List.map_nil]); first | done | rfl | (simp only [List.length_drop, List.length_take]; rfl)) ?_; (with_reducible refine (damasklaw04_of.calls k 9 _ _ y196 t199 t200 _ ?side1 ?side2 A6.out).mono ?_); (case side1 => repeat (first | exact (Kd.R_reads' HO198.out).2.2 | (with_reducible refine Kd.C_alloc ?_ _) | (with_reducible refine Kd.C_drewN ?_ _) | (with_reducible refine Kd.C_drew ?_))); (case side2 => exact (Kd.R_reads' HO198.out).2.1); rintro e w22 ⟨rfl, hb⟩; refine ⟨_, rfl, ?_⟩; have n0_ := Aside0.mk (Kd.R_below (by (with_reducible repeat (first | apply Kd.R_alloc | apply Kd.R_drewN | apply Kd.R_drew)); exact HO188.out) hb); have n1_ := Aside0.mk (Kd.R_below (by (with_reducible repeat (first | apply Kd.R_alloc | apply Kd.R_drewN | apply Kd.R_drew)); exact HO193.out) hb); have n2_ := Aside0.mk (Kd.R_below (by (with_reducible repeat (first | apply Kd.R_alloc | apply Kd.R_drewN | apply Kd.R_drew)); exact HO198.out) hb); have n3_ := Aside0.mk (below_step (by repeat (first | (with_reducible first | exact HB.out | apply below_alloc | apply pw_below_drewN | apply below_drew1) | exact HB.out)) hb); clear HO188; clear HO193; clear HO198; clear HB; have HO188 := n0_; have HO193 := n1_; have HO198 := n2_; have HB := n3_; clear n0_ n1_ n2_ n3_; (try clear hb); (try clear hb2); (try clear hk); (try clear hi)) | ((with_reducible refine gate_dst (N := 61) rfl ?_); refine Kd.R_lit (Kd.int .i64) _ 3 ?hg (N := 61) ?hd (xs := ([wrap64 (a0), wrap64 (a1)] : List Int)) (inner := [.int .i64 (wrap64 (a0)), .int .i64 (wrap64 (a1))]) (ok := fun _ => True) (okp := fun _ => True) ?hr ?hp (fun _ hk => hk) trivial (Below.refl _ _) (Nat.le_refl _) (by simp) ?_; (case hd => rfl); (case hg => rfl); (case hr => first | (go_simp; done) | (go_simp; rfl)); (case hp => exact (Reps.one (show Kd.M (Kd.int .i64) _ _ _ (wrap64 (a0)) [.int .i64 (wrap64 (a0))] from rfl) (Reps.one (show Kd.M (Kd.int .i64) _ _ _ (wrap64 (a1)) [.int .i64 (wrap64 (a1))] from rfl) (Reps.none _ _)))); intro v202 w23 ho24 hb hg_ hnew_; clear hg_ hnew_; (first | rw [← Ny201.out] at ho24 | (simp only [Int.reduceToNat] at ho24; rw [← Ny201.out] at ho24)); have n0_ := Aside0.mk (Kd.R_elder' (by (with_reducible repeat (first | apply Kd.R_alloc | apply Kd.R_drewN | apply Kd.R_drew)); exact HO188.out) (Kd.R_base ho24) hb); have n1_ := Aside0.mk (Kd.R_elder' (by (with_reducible repeat (first | apply Kd.R_alloc | apply Kd.R_drewN | apply Kd.R_drew)); exact HO193.out) (Kd.R_base ho24) hb); have n2_ := Aside0.mk (Kd.R_elder' (by (with_reducible repeat (first | apply Kd.R_alloc | apply Kd.R_drewN | apply Kd.R_drew)); exact HO198.out) (Kd.R_base ho24) hb); have n3_ := Aside0.mk (Kd.R_lower (Kd.R_new' (Kd.R_new' (Kd.R_new' ho24 (Kd.R_lt (by (with_reducible repeat (first | apply Kd.R_alloc | apply Kd.R_drewN | apply Kd.R_drew)); exact HO188.out))) (Kd.R_lt (by (with_reducible repeat (first | apply Kd.R_alloc | apply Kd.R_drewN | apply Kd.R_drew)); exact HO193.out))) (Kd.R_lt (by (with_reducible repeat (first | apply Kd.R_alloc | apply Kd.R_drewN | apply Kd.R_drew)); exact HO198.out))) (below_size (by repeat (first | (with_reducible first | exact HB.out | apply below_alloc | apply pw_below_drewN | apply below_drew1) | exact HB.out)))); have n4_ := Aside0.mk (below_step (by repeat (first | (with_reducible first | exact HB.out | apply below_alloc | apply pw_below_drewN | apply below_drew1) | exact HB.out)) hb); clear HO188; clear HO193; clear HO198; clear HB; have HO188 := n0_; have HO193 := n1_; have HO198 := n2_; have HO203 := n3_; have HB := n4_; clear n0_ n1_ n2_ n3_ n4_; clear hb ho24; obtain ⟨Ao25, co25, eo25⟩ := Kd.R_slice HO203.out; subst eo25) | ((with_reducible refine gate_callee (f := 25) rfl ?_); refine goesL_ (some 62) rfl rfl Try.func25 (by kernel_rfl) rfl #[.int .i64 10, .slice Ao25 y201.length co25] rfl (by (try simp only [List.map_toArray, List.map_cons, List.map_nil]); first | done | rfl | (simp only [List.length_drop, List.length_take]; rfl)) ?_; (with_reducible refine (damasklaw04_of.calls k 10 _ _ y201 t204 t205 _ ?side1 ?side2 A7.out).mono ?_); (case side1 => repeat (first | exact (Kd.R_reads' HO203.out).2.2 | (with_reducible refine Kd.C_alloc ?_ _) | (with_reducible refine Kd.C_drewN ?_ _) | (with_reducible refine Kd.C_drew ?_))); (case side2 => exact (Kd.R_reads' HO203.out).2.1); rintro e w26 ⟨rfl, hb⟩; refine ⟨_, rfl, ?_⟩; have n0_ := Aside0.mk (Kd.R_below (by (with_reducible repeat (first | apply Kd.R_alloc | apply Kd.R_drewN | apply Kd.R_drew)); exact HO188.out) hb); have n1_ := Aside0.mk (Kd.R_below (by (with_reducible repeat (first | apply Kd.R_alloc | apply Kd.R_drewN | apply Kd.R_drew)); exact HO193.out) hb); have n2_ := Aside0.mk (Kd.R_below (by (with_reducible repeat (first | apply Kd.R_alloc | apply Kd.R_drewN | apply Kd.R_drew)); exact HO198.out) hb); have n3_ := Aside0.mk (Kd.R_below (by (with_reducible repeat (first | apply Kd.R_alloc | apply Kd.R_drewN | apply Kd.R_drew)); exact HO203.out) hb); have n4_ := Aside0.mk (below_step (by repeat (first | (with_reducible first | exact HB.out | apply below_alloc | apply pw_below_drewN | apply below_drew1) | exact HB.out)) hb); clear HO188; clear HO193; clear HO198; clear HO203; clear HB; have HO188 := n0_; have HO193 := n1_; have HO198 := n2_; have HO203 := n3_; have HB := n4_; clear n0_ n1_ n2_ n3_ n4_; (try clear hb); (try clear hb2); (try clear hk); (try clear hi)) | ((with_reducible refine gate_dst (N := 68) rfl ?_); refine Kd.R_lit (Kd.int .i64) _ 3 ?hg (N := 68) ?hd (xs := ([wrap64 (a1), wrap64 (a0)] : List Int)) (inner := [.int .i64 (wrap64 (a1)), .int .i64 (wrap64 (a0))]) (ok := fun _ => True) (okp := fun _ => True) ?hr ?hp (fun _ hk => hk) trivial (Below.refl _ _) (Nat.le_refl _) (by simp) ?_; (case hd => rfl); (case hg => rfl); (case hr => first | (go_simp; done) | (go_simp; rfl)); (case hp => exact (Reps.one (show Kd.M (Kd.int .i64) _ _ _ (wrap64 (a1)) [.int .i64 (wrap64 (a1))] from rfl) (Reps.one (show Kd.M (Kd.int .i64) _ _ _ (wrap64 (a0)) [.int .i64 (wrap64 (a0))] from rfl) (Reps.none _ _)))); intro v207 w27 ho28 hb hg_ hnew_; clear hg_ hnew_; (first | rw [← Ny206.out] at ho28 | (simp only [Int.reduceToNat] at ho28; rw [← Ny206.out] at ho28)); have n0_ := Aside0.mk (Kd.R_elder' (by (with_reducible repeat (first | apply Kd.R_alloc | apply Kd.R_drewN | apply Kd.R_drew)); exact HO188.out) (Kd.R_base ho28) hb); have n1_ := Aside0.mk (Kd.R_elder' (by (with_reducible repeat (first | apply Kd.R_alloc | apply Kd.R_drewN | apply Kd.R_drew)); exact HO193.out) (Kd.R_base ho28) hb); have n2_ := Aside0.mk (Kd.R_elder' (by (with_reducible repeat (first | apply Kd.R_alloc | apply Kd.R_drewN | apply Kd.R_drew)); exact HO198.out) (Kd.R_base ho28) hb); have n3_ := Aside0.mk (Kd.R_elder' (by (with_reducible repeat (first | apply Kd.R_alloc | apply Kd.R_drewN | apply Kd.R_drew)); exact HO203.out) (Kd.R_base ho28) hb); have n4_ := Aside0.mk (Kd.R_lower (Kd.R_new' (Kd.R_new' (Kd.R_new' (Kd.R_new' ho28 (Kd.R_lt (by (with_reducible repeat (first | apply Kd.R_alloc | apply Kd.R_drewN | apply Kd.R_drew)); exact HO188.out))) (Kd.R_lt (by (with_reducible repeat (first | apply Kd.R_alloc | apply Kd.R_drewN | apply Kd.R_drew)); exact HO193.out))) (Kd.R_lt (by (with_reducible repeat (first | apply Kd.R_alloc | apply Kd.R_drewN | apply Kd.R_drew)); exact HO198.out))) (Kd.R_lt (by (with_reducible repeat (first | apply Kd.R_alloc | apply Kd.R_drewN | apply Kd.R_drew)); exact HO203.out))) (below_size (by repeat (first | (with_reducible first | exact HB.out | apply below_alloc | apply pw_below_drewN | apply below_drew1) | exact HB.out)))); have n5_ := Aside0.mk (below_step (by repeat (first | (with_reducible first | exact HB.out | apply below_alloc | apply pw_below_drewN | apply below_drew1) | exact HB.out)) hb); clear HO188; clear HO193; clear HO198; clear HO203; clear HB; have HO188 := n0_; have HO193 := n1_; have HO198 := n2_; have HO203 := n3_; have HO208 := n4_; have HB := n5_; clear n0_ n1_ n2_ n3_ n4_ n5_; clear hb ho28; obtain ⟨Ao29, co29, eo29⟩ := Kd.R_slice HO208.out; subst eo29) | ((with_reducible refine gate_callee (f := 25) rfl ?_); refine goesL_ (some 69) rfl rfl Try.func25 (by kernel_rfl) rfl #[.int .i64 10, .slice Ao29 y206.length co29] rfl (by (try simp only [List.map_toArray, List.map_cons, List.map_nil]); first | done | rfl | (simp only [List.length_drop, List.length_take]; rfl)) ?_; (with_reducible refine (damasklaw04_of.calls k 10 _ _ y206 t209 t210 _ ?side1 ?side2 A8.out).mono ?_); (case side1 => repeat (first | exact (Kd.R_reads' HO208.out).2.2 | (with_reducible refine Kd.C_alloc ?_ _) | (with_reducible refine Kd.C_drewN ?_ _) | (with_reducible refine Kd.C_drew ?_))); (case side2 => exact (Kd.R_reads' HO208.out).2.1); rintro e w30 ⟨rfl, hb⟩; refine ⟨_, rfl, ?_⟩; have n0_ := Aside0.mk (Kd.R_below (by (with_reducible repeat (first | apply Kd.R_alloc | apply Kd.R_drewN | apply Kd.R_drew)); exact HO188.out) hb); have n1_ := Aside0.mk (Kd.R_below (by (with_reducible repeat (first | apply Kd.R_alloc | apply Kd.R_drewN | apply Kd.R_drew)); exact HO193.out) hb); have n2_ := Aside0.mk (Kd.R_below (by (with_reducible repeat (first | apply Kd.R_alloc | apply Kd.R_drewN | apply Kd.R_drew)); exact HO198.out) hb); have n3_ := Aside0.mk (Kd.R_below (by (with_reducible repeat (first | apply Kd.R_alloc | apply Kd.R_drewN | apply Kd.R_drew)); exact HO203.out) hb); have n4_ := Aside0.mk (Kd.R_below (by (with_reducible repeat (first | apply Kd.R_alloc | apply Kd.R_drewN | apply Kd.R_drew)); exact HO208.out) hb); have n5_ := Aside0.mk (below_step (by repeat (first | (with_reducible first | exact HB.out | apply below_alloc | apply pw_below_drewN | apply below_drew1) | exact HB.out)) hb); clear HO188; clear HO193; clear HO198; clear HO203; clear HO208; clear HB; have HO188 := n0_; have HO193 := n1_; have HO198 := n2_; have HO203 := n3_; have HO208 := n4_; have HB := n5_; clear n0_ n1_ n2_ n3_ n4_ n5_; (try clear hb); (try clear hb2); (try clear hk); (try clear hi)) | ((with_reducible refine gate_dst (N := 74) rfl ?_); refine Kd.R_lit (Kd.int .i64) _ 3 ?hg (N := 74) ?hd (xs := ([wrap64 (a0)] : List Int)) (inner := [.int .i64 (wrap64 (a0))]) (ok := fun _ => True) (okp := fun _ => True) ?hr ?hp (fun _ hk => hk) trivial (Below.refl _ _) (Nat.le_refl _) (by simp) ?_; (case hd => rfl); (case hg => rfl); (case hr => first | (go_simp; done) | (go_simp; rfl)); (case hp => exact (Reps.one (show Kd.M (Kd.int .i64) _ _ _ (wrap64 (a0)) [.int .i64 (wrap64 (a0))] from rfl) (Reps.none _ _))); intro v212 w31 ho32 hb hg_ hnew_; clear hg_ hnew_; (first | rw [← Ny211.out] at ho32 | (simp only [Int.reduceToNat] at ho32; rw [← Ny211.out] at ho32)); have n0_ := Aside0.mk (Kd.R_elder' (by (with_reducible repeat (first | apply Kd.R_alloc | apply Kd.R_drewN | apply Kd.R_drew)); exact HO188.out) (Kd.R_base ho32) hb); have n1_ := Aside0.mk (Kd.R_elder' (by (with_reducible repeat (first | apply Kd.R_alloc | apply Kd.R_drewN | apply Kd.R_drew)); exact HO193.out) (Kd.R_base ho32) hb); have n2_ := Aside0.mk (Kd.R_elder' (by (with_reducible repeat (first | apply Kd.R_alloc | apply Kd.R_drewN | apply Kd.R_drew)); exact HO198.out) (Kd.R_base ho32) hb); have n3_ := Aside0.mk (Kd.R_elder' (by (with_reducible repeat (first | apply Kd.R_alloc | apply Kd.R_drewN | apply Kd.R_drew)); exact HO203.out) (Kd.R_base ho32) hb); have n4_ := Aside0.mk (Kd.R_elder' (by (with_reducible repeat (first | apply Kd.R_alloc | apply Kd.R_drewN | apply Kd.R_drew)); exact HO208.out) (Kd.R_base ho32) hb); have n5_ := Aside0.mk (Kd.R_lower (Kd.R_new' (Kd.R_new' (Kd.R_new' (Kd.R_new' (Kd.R_new' ho32 (Kd.R_lt (by (with_reducible repeat (first | apply Kd.R_alloc | apply Kd.R_drewN | apply Kd.R_drew)); exact HO188.out))) (Kd.R_lt (by (with_reducible repeat (first | apply Kd.R_alloc | apply Kd.R_drewN | apply Kd.R_drew)); exact HO193.out))) (Kd.R_lt (by (with_reducible repeat (first | apply Kd.R_alloc | apply Kd.R_drewN | apply Kd.R_drew)); exact HO198.out))) (Kd.R_lt (by (with_reducible repeat (first | apply Kd.R_alloc | apply Kd.R_drewN | apply Kd.R_drew)); exact HO203.out))) (Kd.R_lt (by (with_reducible repeat (first | apply Kd.R_alloc | apply Kd.R_drewN | apply Kd.R_drew)); exact HO208.out))) (below_size (by repeat (first | (with_reducible first | exact HB.out | apply below_alloc | apply pw_below_drewN | apply below_drew1) | exact HB.out)))); have n6_ := Aside0.mk (below_step (by repeat (first | (with_reducible first | exact HB.out | apply below_alloc | apply pw_below_drewN | apply below_drew1) | exact HB.out)) hb); clear HO188; clear HO193; clear HO198; clear HO203; clear HO208; clear HB; have HO188 := n0_; have HO193 := n1_; have HO198 := n2_; have HO203 := n3_; have HO208 := n4_; have HO213 := n5_; have HB := n6_; clear n0_ n1_ n2_ n3_ n4_ n5_ n6_; clear hb ho32; obtain ⟨Ao33, co33, eo33⟩ := Kd.R_slice HO213.out; subst eo33) | ((with_reducible refine gate_callee (f := 25) rfl ?_); refine goesL_ (some 75) rfl rfl Try.func25 (by kernel_rfl) rfl #[.int .i64 5, .slice Ao33 y211.length co33] rfl (by (try simp only [List.map_toArray, List.map_cons, List.map_nil]); first | done | rfl | (simp only [List.length_drop, List.length_take]; rfl)) ?_; (with_reducible refine (damasklaw04_of.calls k 5 _ _ y211 t214 t215 _ ?side1 ?side2 A9.out).mono ?_); (case side1 => repeat (first | exact (Kd.R_reads' HO213.out).2.2 | (with_reducible refine Kd.C_alloc ?_ _) | (with_reducible refine Kd.C_drewN ?_ _) | (with_reducible refine Kd.C_drew ?_))); (case side2 => exact (Kd.R_reads' HO213.out).2.1); rintro e w34 ⟨rfl, hb⟩; refine ⟨_, rfl, ?_⟩; have n0_ := Aside0.mk (Kd.R_below (by (with_reducible repeat (first | apply Kd.R_alloc | apply Kd.R_drewN | apply Kd.R_drew)); exact HO188.out) hb); have n1_ := Aside0.mk (Kd.R_below (by (with_reducible repeat (first | apply Kd.R_alloc | apply Kd.R_drewN | apply Kd.R_drew)); exact HO193.out) hb); have n2_ := Aside0.mk (Kd.R_below (by (with_reducible repeat (first | apply Kd.R_alloc | apply Kd.R_drewN | apply Kd.R_drew)); exact HO198.out) hb); have n3_ := Aside0.mk (Kd.R_below (by (with_reducible repeat (first | apply Kd.R_alloc | apply Kd.R_drewN | apply Kd.R_drew)); exact HO203.out) hb); have n4_ := Aside0.mk (Kd.R_below (by (with_reducible repeat (first | apply Kd.R_alloc | apply Kd.R_drewN | apply Kd.R_drew)); exact HO208.out) hb); have n5_ := Aside0.mk (Kd.R_below (by (with_reducible repeat (first | apply Kd.R_alloc | apply Kd.R_drewN | apply Kd.R_drew)); exact HO213.out) hb); have n6_ := Aside0.mk (below_step (by repeat (first | (with_reducible first | exact HB.out | apply below_alloc | apply pw_below_drewN | apply below_drew1) | exact HB.out)) hb); clear HO188; clear HO193; clear HO198; clear HO203; clear HO208; clear HO213; clear HB; have HO188 := n0_; have HO193 := n1_; have HO198 := n2_; have HO203 := n3_; have HO208 := n4_; have HO213 := n5_; have HB := n6_; clear n0_ n1_ n2_ n3_ n4_ n5_ n6_; (try clear hb); (try clear hb2); (try clear hk); (try clear hi)))
  (try simp only [Act.put, List.setIfInBounds_toArray, List.set_cons_zero, List.set_cons_succ])
  go_cut [118] (fun v118 wc => ∃ (kq : Nat) (x118_9 : Bool), v118 = .bool x118_9 ∧ Aside0 (damasklaw04_ArithRing.j0 kq (wrap64 (a0)) (wrap64 (a2)) t204 t214 x118_9 = some r) ∧ Aside0 (kq ≤ k) ∧ Aside0 (Below w.heap.size w wc))
  case first =>
    have H := HC10.out
    clear HC10
    replace H := Option.bind_eq_some_iff.mp H
    obtain ⟨t216, A350, H⟩ := H
    replace H : (if t216 = true then (if t190 = true then (if t195 = true then (if t200 = true then (if t205 = true then (if t210 = true then (if t215 = true then (if t189 = t194 then (if t199 = (wrap64 (a0)) then (damasklaw04_ArithRing.j0 k (wrap64 (a0)) (wrap64 (a2)) t204 t214 (t204 != t209)) else (damasklaw04_ArithRing.j0 k (wrap64 (a0)) (wrap64 (a2)) t204 t214 true)) else (damasklaw04_ArithRing.j0 k (wrap64 (a0)) (wrap64 (a2)) t204 t214 true)) else (damasklaw04_ArithRing.j0 k (wrap64 (a0)) (wrap64 (a2)) t204 t214 true)) else (damasklaw04_ArithRing.j0 k (wrap64 (a0)) (wrap64 (a2)) t204 t214 true)) else (damasklaw04_ArithRing.j0 k (wrap64 (a0)) (wrap64 (a2)) t204 t214 true)) else (damasklaw04_ArithRing.j0 k (wrap64 (a0)) (wrap64 (a2)) t204 t214 true)) else (damasklaw04_ArithRing.j0 k (wrap64 (a0)) (wrap64 (a2)) t204 t214 true)) else (damasklaw04_ArithRing.j0 k (wrap64 (a0)) (wrap64 (a2)) t204 t214 true)) else (damasklaw04_ArithRing.j0 k (wrap64 (a0)) (wrap64 (a2)) t204 t214 true)) = some r := H
    have A35 := Aside0.mk A350
    clear A350
    by_cases c36 : t216 = true
    · subst c36
      have H1 : (if t190 = true then (if t195 = true then (if t200 = true then (if t205 = true then (if t210 = true then (if t215 = true then (if t189 = t194 then (if t199 = (wrap64 (a0)) then (damasklaw04_ArithRing.j0 k (wrap64 (a0)) (wrap64 (a2)) t204 t214 (t204 != t209)) else (damasklaw04_ArithRing.j0 k (wrap64 (a0)) (wrap64 (a2)) t204 t214 true)) else (damasklaw04_ArithRing.j0 k (wrap64 (a0)) (wrap64 (a2)) t204 t214 true)) else (damasklaw04_ArithRing.j0 k (wrap64 (a0)) (wrap64 (a2)) t204 t214 true)) else (damasklaw04_ArithRing.j0 k (wrap64 (a0)) (wrap64 (a2)) t204 t214 true)) else (damasklaw04_ArithRing.j0 k (wrap64 (a0)) (wrap64 (a2)) t204 t214 true)) else (damasklaw04_ArithRing.j0 k (wrap64 (a0)) (wrap64 (a2)) t204 t214 true)) else (damasklaw04_ArithRing.j0 k (wrap64 (a0)) (wrap64 (a2)) t204 t214 true)) else (damasklaw04_ArithRing.j0 k (wrap64 (a0)) (wrap64 (a2)) t204 t214 true)) = some r := by rw [if_pos rfl] at H; exact H
      clear H
      have H := H1
      clear H1
      by_cases c37 : t190 = true
      · subst c37
        have H1 : (if t195 = true then (if t200 = true then (if t205 = true then (if t210 = true then (if t215 = true then (if t189 = t194 then (if t199 = (wrap64 (a0)) then (damasklaw04_ArithRing.j0 k (wrap64 (a0)) (wrap64 (a2)) t204 t214 (t204 != t209)) else (damasklaw04_ArithRing.j0 k (wrap64 (a0)) (wrap64 (a2)) t204 t214 true)) else (damasklaw04_ArithRing.j0 k (wrap64 (a0)) (wrap64 (a2)) t204 t214 true)) else (damasklaw04_ArithRing.j0 k (wrap64 (a0)) (wrap64 (a2)) t204 t214 true)) else (damasklaw04_ArithRing.j0 k (wrap64 (a0)) (wrap64 (a2)) t204 t214 true)) else (damasklaw04_ArithRing.j0 k (wrap64 (a0)) (wrap64 (a2)) t204 t214 true)) else (damasklaw04_ArithRing.j0 k (wrap64 (a0)) (wrap64 (a2)) t204 t214 true)) else (damasklaw04_ArithRing.j0 k (wrap64 (a0)) (wrap64 (a2)) t204 t214 true)) = some r := by rw [if_pos rfl] at H; exact H
        clear H
        have H := H1
        clear H1
        by_cases c38 : t195 = true
        · subst c38
          have H1 : (if t200 = true then (if t205 = true then (if t210 = true then (if t215 = true then (if t189 = t194 then (if t199 = (wrap64 (a0)) then (damasklaw04_ArithRing.j0 k (wrap64 (a0)) (wrap64 (a2)) t204 t214 (t204 != t209)) else (damasklaw04_ArithRing.j0 k (wrap64 (a0)) (wrap64 (a2)) t204 t214 true)) else (damasklaw04_ArithRing.j0 k (wrap64 (a0)) (wrap64 (a2)) t204 t214 true)) else (damasklaw04_ArithRing.j0 k (wrap64 (a0)) (wrap64 (a2)) t204 t214 true)) else (damasklaw04_ArithRing.j0 k (wrap64 (a0)) (wrap64 (a2)) t204 t214 true)) else (damasklaw04_ArithRing.j0 k (wrap64 (a0)) (wrap64 (a2)) t204 t214 true)) else (damasklaw04_ArithRing.j0 k (wrap64 (a0)) (wrap64 (a2)) t204 t214 true)) = some r := by rw [if_pos rfl] at H; exact H
          clear H
          have H := H1
          clear H1
          by_cases c39 : t200 = true
          · subst c39
            have H1 : (if t205 = true then (if t210 = true then (if t215 = true then (if t189 = t194 then (if t199 = (wrap64 (a0)) then (damasklaw04_ArithRing.j0 k (wrap64 (a0)) (wrap64 (a2)) t204 t214 (t204 != t209)) else (damasklaw04_ArithRing.j0 k (wrap64 (a0)) (wrap64 (a2)) t204 t214 true)) else (damasklaw04_ArithRing.j0 k (wrap64 (a0)) (wrap64 (a2)) t204 t214 true)) else (damasklaw04_ArithRing.j0 k (wrap64 (a0)) (wrap64 (a2)) t204 t214 true)) else (damasklaw04_ArithRing.j0 k (wrap64 (a0)) (wrap64 (a2)) t204 t214 true)) else (damasklaw04_ArithRing.j0 k (wrap64 (a0)) (wrap64 (a2)) t204 t214 true)) = some r := by rw [if_pos rfl] at H; exact H
            clear H
            have H := H1
            clear H1
            by_cases c40 : t205 = true
            · subst c40
              have H1 : (if t210 = true then (if t215 = true then (if t189 = t194 then (if t199 = (wrap64 (a0)) then (damasklaw04_ArithRing.j0 k (wrap64 (a0)) (wrap64 (a2)) t204 t214 (t204 != t209)) else (damasklaw04_ArithRing.j0 k (wrap64 (a0)) (wrap64 (a2)) t204 t214 true)) else (damasklaw04_ArithRing.j0 k (wrap64 (a0)) (wrap64 (a2)) t204 t214 true)) else (damasklaw04_ArithRing.j0 k (wrap64 (a0)) (wrap64 (a2)) t204 t214 true)) else (damasklaw04_ArithRing.j0 k (wrap64 (a0)) (wrap64 (a2)) t204 t214 true)) = some r := by rw [if_pos rfl] at H; exact H
              clear H
              have H := H1
              clear H1
              by_cases c41 : t210 = true
              · subst c41
                have H1 : (if t215 = true then (if t189 = t194 then (if t199 = (wrap64 (a0)) then (damasklaw04_ArithRing.j0 k (wrap64 (a0)) (wrap64 (a2)) t204 t214 (t204 != t209)) else (damasklaw04_ArithRing.j0 k (wrap64 (a0)) (wrap64 (a2)) t204 t214 true)) else (damasklaw04_ArithRing.j0 k (wrap64 (a0)) (wrap64 (a2)) t204 t214 true)) else (damasklaw04_ArithRing.j0 k (wrap64 (a0)) (wrap64 (a2)) t204 t214 true)) = some r := by rw [if_pos rfl] at H; exact H
                clear H
                have H := H1
                clear H1
                by_cases c42 : t215 = true
                · subst c42
                  have H1 : (if t189 = t194 then (if t199 = (wrap64 (a0)) then (damasklaw04_ArithRing.j0 k (wrap64 (a0)) (wrap64 (a2)) t204 t214 (t204 != t209)) else (damasklaw04_ArithRing.j0 k (wrap64 (a0)) (wrap64 (a2)) t204 t214 true)) else (damasklaw04_ArithRing.j0 k (wrap64 (a0)) (wrap64 (a2)) t204 t214 true)) = some r := by rw [if_pos rfl] at H; exact H
                  clear H
                  have H := H1
                  clear H1
                  by_cases c43 : t189 = t194
                  · rw [if_pos c43] at H
                    have c43b0 : (t189 == t194) = true := beq_iff_eq.mpr c43
                    have c43b1 : (t189 != t194) = false := bne_eq_false_iff_eq.mpr c43
                    clear c43
                    (first | rw [c43b0] | (simp only [i64_w, i32_w]; rw [c43b0]) | skip)
                    by_cases c44 : t199 = (wrap64 (a0))
                    · rw [if_pos c44] at H
                      have c44b0 : (t199 == (wrap64 (a0))) = true := beq_iff_eq.mpr c44
                      have c44b1 : (t199 != (wrap64 (a0))) = false := bne_eq_false_iff_eq.mpr c44
                      clear c44
                      have H' := Aside0.mk H
                      clear H
                      go_wp2_with (first | ((with_reducible refine gate_callee (f := 16) rfl ?_); refine goesL_ (some 78) rfl rfl Try.func16 (by kernel_rfl) rfl #[] rfl (by (try simp only [List.map_toArray, List.map_cons, List.map_nil]); first | done | rfl | (simp only [List.length_drop, List.length_take]; rfl)) ?_; (with_reducible refine (damasklaw04_awake.calls k  true _ A35.out).mono ?_); rintro e w45 ⟨rfl, hb⟩; refine ⟨_, rfl, ?_⟩; have n0_ := Aside0.mk (Kd.R_below (by (with_reducible repeat (first | apply Kd.R_alloc | apply Kd.R_drewN | apply Kd.R_drew)); exact HO188.out) hb); have n1_ := Aside0.mk (Kd.R_below (by (with_reducible repeat (first | apply Kd.R_alloc | apply Kd.R_drewN | apply Kd.R_drew)); exact HO193.out) hb); have n2_ := Aside0.mk (Kd.R_below (by (with_reducible repeat (first | apply Kd.R_alloc | apply Kd.R_drewN | apply Kd.R_drew)); exact HO198.out) hb); have n3_ := Aside0.mk (Kd.R_below (by (with_reducible repeat (first | apply Kd.R_alloc | apply Kd.R_drewN | apply Kd.R_drew)); exact HO203.out) hb); have n4_ := Aside0.mk (Kd.R_below (by (with_reducible repeat (first | apply Kd.R_alloc | apply Kd.R_drewN | apply Kd.R_drew)); exact HO208.out) hb); have n5_ := Aside0.mk (Kd.R_below (by (with_reducible repeat (first | apply Kd.R_alloc | apply Kd.R_drewN | apply Kd.R_drew)); exact HO213.out) hb); have n6_ := Aside0.mk (below_step (by repeat (first | (with_reducible first | exact HB.out | apply below_alloc | apply pw_below_drewN | apply below_drew1) | exact HB.out)) hb); clear HO188; clear HO193; clear HO198; clear HO203; clear HO208; clear HO213; clear HB; have HO188 := n0_; have HO193 := n1_; have HO198 := n2_; have HO203 := n3_; have HO208 := n4_; have HO213 := n5_; have HB := n6_; clear n0_ n1_ n2_ n3_ n4_ n5_ n6_; (try clear hb); (try clear hb2); (try clear hk); (try clear hi)))
                      go_meet
                      case rel => exact ⟨_, ((t204 != t209)), (by first | rfl | (simp; done) | (simp [*]; done)), H', ⟨by first | omega | exact Nat.le_refl _⟩, ⟨by repeat (first | (with_reducible first | exact HB.out | apply below_alloc | apply pw_below_drewN | apply below_drew1) | exact HB.out)⟩⟩
                    · rw [if_neg c44] at H
                      have c44b0 : (t199 == (wrap64 (a0))) = false := beq_eq_false_iff_ne.mpr c44
                      have c44b1 : (t199 != (wrap64 (a0))) = true := bne_iff_ne.mpr c44
                      exact absurd H (by have h_ := hrT.out; subst h_; clear hrT; cases k <;> simp [damasklaw04_ArithRing.j0])
                  · rw [if_neg c43] at H
                    have c43b0 : (t189 == t194) = false := beq_eq_false_iff_ne.mpr c43
                    have c43b1 : (t189 != t194) = true := bne_iff_ne.mpr c43
                    (first | rw [c43b0] | (simp only [i64_w, i32_w]; rw [c43b0]) | skip)
                    exact absurd H (by have h_ := hrT.out; subst h_; clear hrT; cases k <;> simp [damasklaw04_ArithRing.j0])
                · replace c42 := Bool.eq_false_iff.mpr c42
                  subst c42
                  have H1 : (damasklaw04_ArithRing.j0 k (wrap64 (a0)) (wrap64 (a2)) t204 t214 true) = some r := by rw [if_neg (show ¬ (false = true) by decide)] at H; exact H
                  clear H
                  have H := H1
                  clear H1
                  exact absurd H (by have h_ := hrT.out; subst h_; clear hrT; cases k <;> simp [damasklaw04_ArithRing.j0])
              · replace c41 := Bool.eq_false_iff.mpr c41
                subst c41
                have H1 : (damasklaw04_ArithRing.j0 k (wrap64 (a0)) (wrap64 (a2)) t204 t214 true) = some r := by rw [if_neg (show ¬ (false = true) by decide)] at H; exact H
                clear H
                have H := H1
                clear H1
                exact absurd H (by have h_ := hrT.out; subst h_; clear hrT; cases k <;> simp [damasklaw04_ArithRing.j0])
            · replace c40 := Bool.eq_false_iff.mpr c40
              subst c40
              have H1 : (damasklaw04_ArithRing.j0 k (wrap64 (a0)) (wrap64 (a2)) t204 t214 true) = some r := by rw [if_neg (show ¬ (false = true) by decide)] at H; exact H
              clear H
              have H := H1
              clear H1
              exact absurd H (by have h_ := hrT.out; subst h_; clear hrT; cases k <;> simp [damasklaw04_ArithRing.j0])
          · replace c39 := Bool.eq_false_iff.mpr c39
            subst c39
            have H1 : (damasklaw04_ArithRing.j0 k (wrap64 (a0)) (wrap64 (a2)) t204 t214 true) = some r := by rw [if_neg (show ¬ (false = true) by decide)] at H; exact H
            clear H
            have H := H1
            clear H1
            exact absurd H (by have h_ := hrT.out; subst h_; clear hrT; cases k <;> simp [damasklaw04_ArithRing.j0])
        · replace c38 := Bool.eq_false_iff.mpr c38
          subst c38
          have H1 : (damasklaw04_ArithRing.j0 k (wrap64 (a0)) (wrap64 (a2)) t204 t214 true) = some r := by rw [if_neg (show ¬ (false = true) by decide)] at H; exact H
          clear H
          have H := H1
          clear H1
          exact absurd H (by have h_ := hrT.out; subst h_; clear hrT; cases k <;> simp [damasklaw04_ArithRing.j0])
      · replace c37 := Bool.eq_false_iff.mpr c37
        subst c37
        have H1 : (damasklaw04_ArithRing.j0 k (wrap64 (a0)) (wrap64 (a2)) t204 t214 true) = some r := by rw [if_neg (show ¬ (false = true) by decide)] at H; exact H
        clear H
        have H := H1
        clear H1
        exact absurd H (by have h_ := hrT.out; subst h_; clear hrT; cases k <;> simp [damasklaw04_ArithRing.j0])
    · replace c36 := Bool.eq_false_iff.mpr c36
      subst c36
      have H1 : (damasklaw04_ArithRing.j0 k (wrap64 (a0)) (wrap64 (a2)) t204 t214 true) = some r := by rw [if_neg (show ¬ (false = true) by decide)] at H; exact H
      clear H
      have H := H1
      clear H1
      exact absurd H (by have h_ := hrT.out; subst h_; clear hrT; cases k <;> simp [damasklaw04_ArithRing.j0])
  case rest =>
    clear HC10
    try clear c1
    try clear c2
    try clear p2
    try clear c3
    try clear c4
    try clear c5
    try clear p6
    try clear c16
    try clear c25
    try clear c36
    try clear c37
    try clear c38
    try clear c39
    try clear c40
    try clear c41
    try clear c42
    try clear c43
    try clear c43b0
    try clear c43b1
    try clear c44
    try clear c44b0
    try clear c44b1
    obtain ⟨kq, x118_9, rfl, HA, HJ9, HB⟩ := hcut
    cases kq with
    | zero => exact absurd HA.out (by simp [damasklaw04_ArithRing.j0])
    | succ kj9 =>
      have H := HA.out
      clear HA
      simp only [damasklaw04_ArithRing.j0] at H
      by_cases c46 : x118_9 = true
      · subst c46
        have H1 : (some false) = some r := by rw [if_pos rfl] at H; exact H
        clear H
        have H := H1
        clear H1
        exact absurd hrT.out (by have h_ := Option.some.inj H; rw [← h_]; decide)
      · replace c46 := Bool.eq_false_iff.mpr c46
        subst c46
        have H1 : ((damasklaw04_of.f kj9 8 (([(wrap64 (a0)), t214] : List Int))).bind fun bt220 => ((damasklaw04_of.f kj9 7 (([(wrap64 (a0))] : List Int))).bind fun bt225 => ((damasklaw04_of.f kj9 6 (([(wrap64 (a0))] : List Int))).bind fun bt230 => ((damasklaw04_of.f kj9 10 (([bt225.1, bt230.1] : List Int))).bind fun bt235 => (if bt220.2 = true then (if bt225.2 = true then (if bt230.2 = true then (if bt235.2 = true then (if bt220.1 = 0 then (if bt235.1 = (wrap64 (a0)) then (if bt230.1 < 0 then (damasklaw04_ArithRing.j1 kj9 (wrap64 (a2)) t204 true) else (if bt225.1 < (-1) then (damasklaw04_ArithRing.j1 kj9 (wrap64 (a2)) t204 true) else (damasklaw04_ArithRing.j1 kj9 (wrap64 (a2)) t204 (decide (bt225.1 > 1))))) else (damasklaw04_ArithRing.j1 kj9 (wrap64 (a2)) t204 true)) else (damasklaw04_ArithRing.j1 kj9 (wrap64 (a2)) t204 true)) else (damasklaw04_ArithRing.j1 kj9 (wrap64 (a2)) t204 true)) else (damasklaw04_ArithRing.j1 kj9 (wrap64 (a2)) t204 true)) else (damasklaw04_ArithRing.j1 kj9 (wrap64 (a2)) t204 true)) else (damasklaw04_ArithRing.j1 kj9 (wrap64 (a2)) t204 true)))))) = some r := by rw [if_neg (show ¬ (false = true) by decide)] at H; exact H
        clear H
        have H := H1
        clear H1
        obtain ⟨y217, hy217⟩ : ∃ y_ : List Int, y_ = (([(wrap64 (a0)), t214] : List Int)) := ⟨_, rfl⟩
        replace H : ((damasklaw04_of.f kj9 8 y217).bind fun bt220 => ((damasklaw04_of.f kj9 7 (([(wrap64 (a0))] : List Int))).bind fun bt225 => ((damasklaw04_of.f kj9 6 (([(wrap64 (a0))] : List Int))).bind fun bt230 => ((damasklaw04_of.f kj9 10 (([bt225.1, bt230.1] : List Int))).bind fun bt235 => (if bt220.2 = true then (if bt225.2 = true then (if bt230.2 = true then (if bt235.2 = true then (if bt220.1 = 0 then (if bt235.1 = (wrap64 (a0)) then (if bt230.1 < 0 then (damasklaw04_ArithRing.j1 kj9 (wrap64 (a2)) t204 true) else (if bt225.1 < (-1) then (damasklaw04_ArithRing.j1 kj9 (wrap64 (a2)) t204 true) else (damasklaw04_ArithRing.j1 kj9 (wrap64 (a2)) t204 (decide (bt225.1 > 1))))) else (damasklaw04_ArithRing.j1 kj9 (wrap64 (a2)) t204 true)) else (damasklaw04_ArithRing.j1 kj9 (wrap64 (a2)) t204 true)) else (damasklaw04_ArithRing.j1 kj9 (wrap64 (a2)) t204 true)) else (damasklaw04_ArithRing.j1 kj9 (wrap64 (a2)) t204 true)) else (damasklaw04_ArithRing.j1 kj9 (wrap64 (a2)) t204 true)) else (damasklaw04_ArithRing.j1 kj9 (wrap64 (a2)) t204 true)))))) = some r := by first | (rw [hy217]; with_reducible exact H) | (have H2_ := (Option.bind_some _ _).symm.trans H; rw [hy217]; with_reducible exact H2_) | (have H2_ := (Option.bind_some _ _).symm.trans H; with_reducible exact H2_) | with_reducible exact H | (rw [hy217]; exact H) | exact H
        have Ny217 := Aside0.mk hy217
        clear hy217
        replace H := Option.bind_eq_some_iff.mp H
        obtain ⟨⟨t220, t221⟩, A470, H⟩ := H
        replace H : ((damasklaw04_of.f kj9 7 (([(wrap64 (a0))] : List Int))).bind fun bt225 => ((damasklaw04_of.f kj9 6 (([(wrap64 (a0))] : List Int))).bind fun bt230 => ((damasklaw04_of.f kj9 10 (([bt225.1, bt230.1] : List Int))).bind fun bt235 => (if t221 = true then (if bt225.2 = true then (if bt230.2 = true then (if bt235.2 = true then (if t220 = 0 then (if bt235.1 = (wrap64 (a0)) then (if bt230.1 < 0 then (damasklaw04_ArithRing.j1 kj9 (wrap64 (a2)) t204 true) else (if bt225.1 < (-1) then (damasklaw04_ArithRing.j1 kj9 (wrap64 (a2)) t204 true) else (damasklaw04_ArithRing.j1 kj9 (wrap64 (a2)) t204 (decide (bt225.1 > 1))))) else (damasklaw04_ArithRing.j1 kj9 (wrap64 (a2)) t204 true)) else (damasklaw04_ArithRing.j1 kj9 (wrap64 (a2)) t204 true)) else (damasklaw04_ArithRing.j1 kj9 (wrap64 (a2)) t204 true)) else (damasklaw04_ArithRing.j1 kj9 (wrap64 (a2)) t204 true)) else (damasklaw04_ArithRing.j1 kj9 (wrap64 (a2)) t204 true)) else (damasklaw04_ArithRing.j1 kj9 (wrap64 (a2)) t204 true))))) = some r := H
        have A47 := Aside0.mk A470
        clear A470
        obtain ⟨y222, hy222⟩ : ∃ y_ : List Int, y_ = (([(wrap64 (a0))] : List Int)) := ⟨_, rfl⟩
        replace H : ((damasklaw04_of.f kj9 7 y222).bind fun bt225 => ((damasklaw04_of.f kj9 6 (([(wrap64 (a0))] : List Int))).bind fun bt230 => ((damasklaw04_of.f kj9 10 (([bt225.1, bt230.1] : List Int))).bind fun bt235 => (if t221 = true then (if bt225.2 = true then (if bt230.2 = true then (if bt235.2 = true then (if t220 = 0 then (if bt235.1 = (wrap64 (a0)) then (if bt230.1 < 0 then (damasklaw04_ArithRing.j1 kj9 (wrap64 (a2)) t204 true) else (if bt225.1 < (-1) then (damasklaw04_ArithRing.j1 kj9 (wrap64 (a2)) t204 true) else (damasklaw04_ArithRing.j1 kj9 (wrap64 (a2)) t204 (decide (bt225.1 > 1))))) else (damasklaw04_ArithRing.j1 kj9 (wrap64 (a2)) t204 true)) else (damasklaw04_ArithRing.j1 kj9 (wrap64 (a2)) t204 true)) else (damasklaw04_ArithRing.j1 kj9 (wrap64 (a2)) t204 true)) else (damasklaw04_ArithRing.j1 kj9 (wrap64 (a2)) t204 true)) else (damasklaw04_ArithRing.j1 kj9 (wrap64 (a2)) t204 true)) else (damasklaw04_ArithRing.j1 kj9 (wrap64 (a2)) t204 true))))) = some r := by first | (rw [hy222]; with_reducible exact H) | (have H2_ := (Option.bind_some _ _).symm.trans H; rw [hy222]; with_reducible exact H2_) | (have H2_ := (Option.bind_some _ _).symm.trans H; with_reducible exact H2_) | with_reducible exact H | (rw [hy222]; exact H) | exact H
        have Ny222 := Aside0.mk hy222
        clear hy222
        replace H := Option.bind_eq_some_iff.mp H
        obtain ⟨⟨t225, t226⟩, A480, H⟩ := H
        replace H : ((damasklaw04_of.f kj9 6 (([(wrap64 (a0))] : List Int))).bind fun bt230 => ((damasklaw04_of.f kj9 10 (([t225, bt230.1] : List Int))).bind fun bt235 => (if t221 = true then (if t226 = true then (if bt230.2 = true then (if bt235.2 = true then (if t220 = 0 then (if bt235.1 = (wrap64 (a0)) then (if bt230.1 < 0 then (damasklaw04_ArithRing.j1 kj9 (wrap64 (a2)) t204 true) else (if t225 < (-1) then (damasklaw04_ArithRing.j1 kj9 (wrap64 (a2)) t204 true) else (damasklaw04_ArithRing.j1 kj9 (wrap64 (a2)) t204 (decide (t225 > 1))))) else (damasklaw04_ArithRing.j1 kj9 (wrap64 (a2)) t204 true)) else (damasklaw04_ArithRing.j1 kj9 (wrap64 (a2)) t204 true)) else (damasklaw04_ArithRing.j1 kj9 (wrap64 (a2)) t204 true)) else (damasklaw04_ArithRing.j1 kj9 (wrap64 (a2)) t204 true)) else (damasklaw04_ArithRing.j1 kj9 (wrap64 (a2)) t204 true)) else (damasklaw04_ArithRing.j1 kj9 (wrap64 (a2)) t204 true)))) = some r := H
        have A48 := Aside0.mk A480
        clear A480
        obtain ⟨y227, hy227⟩ : ∃ y_ : List Int, y_ = (([(wrap64 (a0))] : List Int)) := ⟨_, rfl⟩
        replace H : ((damasklaw04_of.f kj9 6 y227).bind fun bt230 => ((damasklaw04_of.f kj9 10 (([t225, bt230.1] : List Int))).bind fun bt235 => (if t221 = true then (if t226 = true then (if bt230.2 = true then (if bt235.2 = true then (if t220 = 0 then (if bt235.1 = (wrap64 (a0)) then (if bt230.1 < 0 then (damasklaw04_ArithRing.j1 kj9 (wrap64 (a2)) t204 true) else (if t225 < (-1) then (damasklaw04_ArithRing.j1 kj9 (wrap64 (a2)) t204 true) else (damasklaw04_ArithRing.j1 kj9 (wrap64 (a2)) t204 (decide (t225 > 1))))) else (damasklaw04_ArithRing.j1 kj9 (wrap64 (a2)) t204 true)) else (damasklaw04_ArithRing.j1 kj9 (wrap64 (a2)) t204 true)) else (damasklaw04_ArithRing.j1 kj9 (wrap64 (a2)) t204 true)) else (damasklaw04_ArithRing.j1 kj9 (wrap64 (a2)) t204 true)) else (damasklaw04_ArithRing.j1 kj9 (wrap64 (a2)) t204 true)) else (damasklaw04_ArithRing.j1 kj9 (wrap64 (a2)) t204 true)))) = some r := by first | (rw [hy227]; with_reducible exact H) | (have H2_ := (Option.bind_some _ _).symm.trans H; rw [hy227]; with_reducible exact H2_) | (have H2_ := (Option.bind_some _ _).symm.trans H; with_reducible exact H2_) | with_reducible exact H | (rw [hy227]; exact H) | exact H
        have Ny227 := Aside0.mk hy227
        clear hy227
        replace H := Option.bind_eq_some_iff.mp H
        obtain ⟨⟨t230, t231⟩, A490, H⟩ := H
        replace H : ((damasklaw04_of.f kj9 10 (([t225, t230] : List Int))).bind fun bt235 => (if t221 = true then (if t226 = true then (if t231 = true then (if bt235.2 = true then (if t220 = 0 then (if bt235.1 = (wrap64 (a0)) then (if t230 < 0 then (damasklaw04_ArithRing.j1 kj9 (wrap64 (a2)) t204 true) else (if t225 < (-1) then (damasklaw04_ArithRing.j1 kj9 (wrap64 (a2)) t204 true) else (damasklaw04_ArithRing.j1 kj9 (wrap64 (a2)) t204 (decide (t225 > 1))))) else (damasklaw04_ArithRing.j1 kj9 (wrap64 (a2)) t204 true)) else (damasklaw04_ArithRing.j1 kj9 (wrap64 (a2)) t204 true)) else (damasklaw04_ArithRing.j1 kj9 (wrap64 (a2)) t204 true)) else (damasklaw04_ArithRing.j1 kj9 (wrap64 (a2)) t204 true)) else (damasklaw04_ArithRing.j1 kj9 (wrap64 (a2)) t204 true)) else (damasklaw04_ArithRing.j1 kj9 (wrap64 (a2)) t204 true))) = some r := H
        have A49 := Aside0.mk A490
        clear A490
        obtain ⟨y232, hy232⟩ : ∃ y_ : List Int, y_ = (([t225, t230] : List Int)) := ⟨_, rfl⟩
        replace H : ((damasklaw04_of.f kj9 10 y232).bind fun bt235 => (if t221 = true then (if t226 = true then (if t231 = true then (if bt235.2 = true then (if t220 = 0 then (if bt235.1 = (wrap64 (a0)) then (if t230 < 0 then (damasklaw04_ArithRing.j1 kj9 (wrap64 (a2)) t204 true) else (if t225 < (-1) then (damasklaw04_ArithRing.j1 kj9 (wrap64 (a2)) t204 true) else (damasklaw04_ArithRing.j1 kj9 (wrap64 (a2)) t204 (decide (t225 > 1))))) else (damasklaw04_ArithRing.j1 kj9 (wrap64 (a2)) t204 true)) else (damasklaw04_ArithRing.j1 kj9 (wrap64 (a2)) t204 true)) else (damasklaw04_ArithRing.j1 kj9 (wrap64 (a2)) t204 true)) else (damasklaw04_ArithRing.j1 kj9 (wrap64 (a2)) t204 true)) else (damasklaw04_ArithRing.j1 kj9 (wrap64 (a2)) t204 true)) else (damasklaw04_ArithRing.j1 kj9 (wrap64 (a2)) t204 true))) = some r := by first | (rw [hy232]; with_reducible exact H) | (have H2_ := (Option.bind_some _ _).symm.trans H; rw [hy232]; with_reducible exact H2_) | (have H2_ := (Option.bind_some _ _).symm.trans H; with_reducible exact H2_) | with_reducible exact H | (rw [hy232]; exact H) | exact H
        have Ny232 := Aside0.mk hy232
        clear hy232
        replace H := Option.bind_eq_some_iff.mp H
        obtain ⟨⟨t235, t236⟩, A500, H⟩ := H
        replace H : (if t221 = true then (if t226 = true then (if t231 = true then (if t236 = true then (if t220 = 0 then (if t235 = (wrap64 (a0)) then (if t230 < 0 then (damasklaw04_ArithRing.j1 kj9 (wrap64 (a2)) t204 true) else (if t225 < (-1) then (damasklaw04_ArithRing.j1 kj9 (wrap64 (a2)) t204 true) else (damasklaw04_ArithRing.j1 kj9 (wrap64 (a2)) t204 (decide (t225 > 1))))) else (damasklaw04_ArithRing.j1 kj9 (wrap64 (a2)) t204 true)) else (damasklaw04_ArithRing.j1 kj9 (wrap64 (a2)) t204 true)) else (damasklaw04_ArithRing.j1 kj9 (wrap64 (a2)) t204 true)) else (damasklaw04_ArithRing.j1 kj9 (wrap64 (a2)) t204 true)) else (damasklaw04_ArithRing.j1 kj9 (wrap64 (a2)) t204 true)) else (damasklaw04_ArithRing.j1 kj9 (wrap64 (a2)) t204 true)) = some r := H
        have A50 := Aside0.mk A500
        clear A500
        have HC51 := Aside0.mk H
        clear H
        go_upto_region 14 with (first | ((with_reducible refine gate_dst (N := 122) rfl ?_); refine Kd.R_lit (Kd.int .i64) _ 3 ?hg (N := 122) ?hd (xs := ([(wrap64 (a0)), t214] : List Int)) (inner := [.int .i64 (wrap64 (a0)), .int .i64 t214]) (ok := fun _ => True) (okp := fun _ => True) ?hr ?hp (fun _ hk => hk) trivial (Below.refl _ _) (Nat.le_refl _) (by simp) ?_; (case hd => rfl); (case hg => rfl); (case hr => first | (go_simp; done) | (go_simp; rfl)); (case hp => exact (Reps.one (show Kd.M (Kd.int .i64) _ _ _ (wrap64 (a0)) [.int .i64 (wrap64 (a0))] from rfl) (Reps.one (show Kd.M (Kd.int .i64) _ _ _ t214 [.int .i64 t214] from rfl) (Reps.none _ _)))); intro v218 w52 ho53 hb hg_ hnew_; clear hg_ hnew_; (first | rw [← Ny217.out] at ho53 | (simp only [Int.reduceToNat] at ho53; rw [← Ny217.out] at ho53)); have n0_ := Aside0.mk (Kd.R_lower ho53 (below_size (by repeat (first | (with_reducible first | exact HB.out | apply below_alloc | apply pw_below_drewN | apply below_drew1) | exact HB.out)))); have n1_ := Aside0.mk (below_step (by repeat (first | (with_reducible first | exact HB.out | apply below_alloc | apply pw_below_drewN | apply below_drew1) | exact HB.out)) hb); clear HB; have HO219 := n0_; have HB := n1_; clear n0_ n1_; clear hb ho53; obtain ⟨Ao54, co54, eo54⟩ := Kd.R_slice HO219.out; subst eo54) | ((with_reducible refine gate_callee (f := 25) rfl ?_); refine goesL_ (some 123) rfl rfl Try.func25 (by kernel_rfl) rfl #[.int .i64 8, .slice Ao54 y217.length co54] rfl (by (try simp only [List.map_toArray, List.map_cons, List.map_nil]); first | done | rfl | (simp only [List.length_drop, List.length_take]; rfl)) ?_; (with_reducible refine (damasklaw04_of.calls kj9 8 _ _ y217 t220 t221 _ ?side1 ?side2 A47.out).mono ?_); (case side1 => repeat (first | exact (Kd.R_reads' HO219.out).2.2 | (with_reducible refine Kd.C_alloc ?_ _) | (with_reducible refine Kd.C_drewN ?_ _) | (with_reducible refine Kd.C_drew ?_))); (case side2 => exact (Kd.R_reads' HO219.out).2.1); rintro e w55 ⟨rfl, hb⟩; refine ⟨_, rfl, ?_⟩; have n0_ := Aside0.mk (Kd.R_below (by (with_reducible repeat (first | apply Kd.R_alloc | apply Kd.R_drewN | apply Kd.R_drew)); exact HO219.out) hb); have n1_ := Aside0.mk (below_step (by repeat (first | (with_reducible first | exact HB.out | apply below_alloc | apply pw_below_drewN | apply below_drew1) | exact HB.out)) hb); clear HO219; clear HB; have HO219 := n0_; have HB := n1_; clear n0_ n1_; (try clear hb); (try clear hb2); (try clear hk); (try clear hi)) | ((with_reducible refine gate_dst (N := 128) rfl ?_); refine Kd.R_lit (Kd.int .i64) _ 3 ?hg (N := 128) ?hd (xs := ([(wrap64 (a0))] : List Int)) (inner := [.int .i64 (wrap64 (a0))]) (ok := fun _ => True) (okp := fun _ => True) ?hr ?hp (fun _ hk => hk) trivial (Below.refl _ _) (Nat.le_refl _) (by simp) ?_; (case hd => rfl); (case hg => rfl); (case hr => first | (go_simp; done) | (go_simp; rfl)); (case hp => exact (Reps.one (show Kd.M (Kd.int .i64) _ _ _ (wrap64 (a0)) [.int .i64 (wrap64 (a0))] from rfl) (Reps.none _ _))); intro v223 w56 ho57 hb hg_ hnew_; clear hg_ hnew_; (first | rw [← Ny222.out] at ho57 | (simp only [Int.reduceToNat] at ho57; rw [← Ny222.out] at ho57)); have n0_ := Aside0.mk (Kd.R_elder' (by (with_reducible repeat (first | apply Kd.R_alloc | apply Kd.R_drewN | apply Kd.R_drew)); exact HO219.out) (Kd.R_base ho57) hb); have n1_ := Aside0.mk (Kd.R_lower (Kd.R_new' ho57 (Kd.R_lt (by (with_reducible repeat (first | apply Kd.R_alloc | apply Kd.R_drewN | apply Kd.R_drew)); exact HO219.out))) (below_size (by repeat (first | (with_reducible first | exact HB.out | apply below_alloc | apply pw_below_drewN | apply below_drew1) | exact HB.out)))); have n2_ := Aside0.mk (below_step (by repeat (first | (with_reducible first | exact HB.out | apply below_alloc | apply pw_below_drewN | apply below_drew1) | exact HB.out)) hb); clear HO219; clear HB; have HO219 := n0_; have HO224 := n1_; have HB := n2_; clear n0_ n1_ n2_; clear hb ho57; obtain ⟨Ao58, co58, eo58⟩ := Kd.R_slice HO224.out; subst eo58) | ((with_reducible refine gate_callee (f := 25) rfl ?_); refine goesL_ (some 129) rfl rfl Try.func25 (by kernel_rfl) rfl #[.int .i64 7, .slice Ao58 y222.length co58] rfl (by (try simp only [List.map_toArray, List.map_cons, List.map_nil]); first | done | rfl | (simp only [List.length_drop, List.length_take]; rfl)) ?_; (with_reducible refine (damasklaw04_of.calls kj9 7 _ _ y222 t225 t226 _ ?side1 ?side2 A48.out).mono ?_); (case side1 => repeat (first | exact (Kd.R_reads' HO224.out).2.2 | (with_reducible refine Kd.C_alloc ?_ _) | (with_reducible refine Kd.C_drewN ?_ _) | (with_reducible refine Kd.C_drew ?_))); (case side2 => exact (Kd.R_reads' HO224.out).2.1); rintro e w59 ⟨rfl, hb⟩; refine ⟨_, rfl, ?_⟩; have n0_ := Aside0.mk (Kd.R_below (by (with_reducible repeat (first | apply Kd.R_alloc | apply Kd.R_drewN | apply Kd.R_drew)); exact HO219.out) hb); have n1_ := Aside0.mk (Kd.R_below (by (with_reducible repeat (first | apply Kd.R_alloc | apply Kd.R_drewN | apply Kd.R_drew)); exact HO224.out) hb); have n2_ := Aside0.mk (below_step (by repeat (first | (with_reducible first | exact HB.out | apply below_alloc | apply pw_below_drewN | apply below_drew1) | exact HB.out)) hb); clear HO219; clear HO224; clear HB; have HO219 := n0_; have HO224 := n1_; have HB := n2_; clear n0_ n1_ n2_; (try clear hb); (try clear hb2); (try clear hk); (try clear hi)) | ((with_reducible refine gate_dst (N := 134) rfl ?_); refine Kd.R_lit (Kd.int .i64) _ 3 ?hg (N := 134) ?hd (xs := ([(wrap64 (a0))] : List Int)) (inner := [.int .i64 (wrap64 (a0))]) (ok := fun _ => True) (okp := fun _ => True) ?hr ?hp (fun _ hk => hk) trivial (Below.refl _ _) (Nat.le_refl _) (by simp) ?_; (case hd => rfl); (case hg => rfl); (case hr => first | (go_simp; done) | (go_simp; rfl)); (case hp => exact (Reps.one (show Kd.M (Kd.int .i64) _ _ _ (wrap64 (a0)) [.int .i64 (wrap64 (a0))] from rfl) (Reps.none _ _))); intro v228 w60 ho61 hb hg_ hnew_; clear hg_ hnew_; (first | rw [← Ny227.out] at ho61 | (simp only [Int.reduceToNat] at ho61; rw [← Ny227.out] at ho61)); have n0_ := Aside0.mk (Kd.R_elder' (by (with_reducible repeat (first | apply Kd.R_alloc | apply Kd.R_drewN | apply Kd.R_drew)); exact HO219.out) (Kd.R_base ho61) hb); have n1_ := Aside0.mk (Kd.R_elder' (by (with_reducible repeat (first | apply Kd.R_alloc | apply Kd.R_drewN | apply Kd.R_drew)); exact HO224.out) (Kd.R_base ho61) hb); have n2_ := Aside0.mk (Kd.R_lower (Kd.R_new' (Kd.R_new' ho61 (Kd.R_lt (by (with_reducible repeat (first | apply Kd.R_alloc | apply Kd.R_drewN | apply Kd.R_drew)); exact HO219.out))) (Kd.R_lt (by (with_reducible repeat (first | apply Kd.R_alloc | apply Kd.R_drewN | apply Kd.R_drew)); exact HO224.out))) (below_size (by repeat (first | (with_reducible first | exact HB.out | apply below_alloc | apply pw_below_drewN | apply below_drew1) | exact HB.out)))); have n3_ := Aside0.mk (below_step (by repeat (first | (with_reducible first | exact HB.out | apply below_alloc | apply pw_below_drewN | apply below_drew1) | exact HB.out)) hb); clear HO219; clear HO224; clear HB; have HO219 := n0_; have HO224 := n1_; have HO229 := n2_; have HB := n3_; clear n0_ n1_ n2_ n3_; clear hb ho61; obtain ⟨Ao62, co62, eo62⟩ := Kd.R_slice HO229.out; subst eo62) | ((with_reducible refine gate_callee (f := 25) rfl ?_); refine goesL_ (some 135) rfl rfl Try.func25 (by kernel_rfl) rfl #[.int .i64 6, .slice Ao62 y227.length co62] rfl (by (try simp only [List.map_toArray, List.map_cons, List.map_nil]); first | done | rfl | (simp only [List.length_drop, List.length_take]; rfl)) ?_; (with_reducible refine (damasklaw04_of.calls kj9 6 _ _ y227 t230 t231 _ ?side1 ?side2 A49.out).mono ?_); (case side1 => repeat (first | exact (Kd.R_reads' HO229.out).2.2 | (with_reducible refine Kd.C_alloc ?_ _) | (with_reducible refine Kd.C_drewN ?_ _) | (with_reducible refine Kd.C_drew ?_))); (case side2 => exact (Kd.R_reads' HO229.out).2.1); rintro e w63 ⟨rfl, hb⟩; refine ⟨_, rfl, ?_⟩; have n0_ := Aside0.mk (Kd.R_below (by (with_reducible repeat (first | apply Kd.R_alloc | apply Kd.R_drewN | apply Kd.R_drew)); exact HO219.out) hb); have n1_ := Aside0.mk (Kd.R_below (by (with_reducible repeat (first | apply Kd.R_alloc | apply Kd.R_drewN | apply Kd.R_drew)); exact HO224.out) hb); have n2_ := Aside0.mk (Kd.R_below (by (with_reducible repeat (first | apply Kd.R_alloc | apply Kd.R_drewN | apply Kd.R_drew)); exact HO229.out) hb); have n3_ := Aside0.mk (below_step (by repeat (first | (with_reducible first | exact HB.out | apply below_alloc | apply pw_below_drewN | apply below_drew1) | exact HB.out)) hb); clear HO219; clear HO224; clear HO229; clear HB; have HO219 := n0_; have HO224 := n1_; have HO229 := n2_; have HB := n3_; clear n0_ n1_ n2_ n3_; (try clear hb); (try clear hb2); (try clear hk); (try clear hi)) | ((with_reducible refine gate_dst (N := 141) rfl ?_); refine Kd.R_lit (Kd.int .i64) _ 3 ?hg (N := 141) ?hd (xs := ([t225, t230] : List Int)) (inner := [.int .i64 t225, .int .i64 t230]) (ok := fun _ => True) (okp := fun _ => True) ?hr ?hp (fun _ hk => hk) trivial (Below.refl _ _) (Nat.le_refl _) (by simp) ?_; (case hd => rfl); (case hg => rfl); (case hr => first | (go_simp; done) | (go_simp; rfl)); (case hp => exact (Reps.one (show Kd.M (Kd.int .i64) _ _ _ t225 [.int .i64 t225] from rfl) (Reps.one (show Kd.M (Kd.int .i64) _ _ _ t230 [.int .i64 t230] from rfl) (Reps.none _ _)))); intro v233 w64 ho65 hb hg_ hnew_; clear hg_ hnew_; (first | rw [← Ny232.out] at ho65 | (simp only [Int.reduceToNat] at ho65; rw [← Ny232.out] at ho65)); have n0_ := Aside0.mk (Kd.R_elder' (by (with_reducible repeat (first | apply Kd.R_alloc | apply Kd.R_drewN | apply Kd.R_drew)); exact HO219.out) (Kd.R_base ho65) hb); have n1_ := Aside0.mk (Kd.R_elder' (by (with_reducible repeat (first | apply Kd.R_alloc | apply Kd.R_drewN | apply Kd.R_drew)); exact HO224.out) (Kd.R_base ho65) hb); have n2_ := Aside0.mk (Kd.R_elder' (by (with_reducible repeat (first | apply Kd.R_alloc | apply Kd.R_drewN | apply Kd.R_drew)); exact HO229.out) (Kd.R_base ho65) hb); have n3_ := Aside0.mk (Kd.R_lower (Kd.R_new' (Kd.R_new' (Kd.R_new' ho65 (Kd.R_lt (by (with_reducible repeat (first | apply Kd.R_alloc | apply Kd.R_drewN | apply Kd.R_drew)); exact HO219.out))) (Kd.R_lt (by (with_reducible repeat (first | apply Kd.R_alloc | apply Kd.R_drewN | apply Kd.R_drew)); exact HO224.out))) (Kd.R_lt (by (with_reducible repeat (first | apply Kd.R_alloc | apply Kd.R_drewN | apply Kd.R_drew)); exact HO229.out))) (below_size (by repeat (first | (with_reducible first | exact HB.out | apply below_alloc | apply pw_below_drewN | apply below_drew1) | exact HB.out)))); have n4_ := Aside0.mk (below_step (by repeat (first | (with_reducible first | exact HB.out | apply below_alloc | apply pw_below_drewN | apply below_drew1) | exact HB.out)) hb); clear HO219; clear HO224; clear HO229; clear HB; have HO219 := n0_; have HO224 := n1_; have HO229 := n2_; have HO234 := n3_; have HB := n4_; clear n0_ n1_ n2_ n3_ n4_; clear hb ho65; obtain ⟨Ao66, co66, eo66⟩ := Kd.R_slice HO234.out; subst eo66) | ((with_reducible refine gate_callee (f := 25) rfl ?_); refine goesL_ (some 142) rfl rfl Try.func25 (by kernel_rfl) rfl #[.int .i64 10, .slice Ao66 y232.length co66] rfl (by (try simp only [List.map_toArray, List.map_cons, List.map_nil]); first | done | rfl | (simp only [List.length_drop, List.length_take]; rfl)) ?_; (with_reducible refine (damasklaw04_of.calls kj9 10 _ _ y232 t235 t236 _ ?side1 ?side2 A50.out).mono ?_); (case side1 => repeat (first | exact (Kd.R_reads' HO234.out).2.2 | (with_reducible refine Kd.C_alloc ?_ _) | (with_reducible refine Kd.C_drewN ?_ _) | (with_reducible refine Kd.C_drew ?_))); (case side2 => exact (Kd.R_reads' HO234.out).2.1); rintro e w67 ⟨rfl, hb⟩; refine ⟨_, rfl, ?_⟩; have n0_ := Aside0.mk (Kd.R_below (by (with_reducible repeat (first | apply Kd.R_alloc | apply Kd.R_drewN | apply Kd.R_drew)); exact HO219.out) hb); have n1_ := Aside0.mk (Kd.R_below (by (with_reducible repeat (first | apply Kd.R_alloc | apply Kd.R_drewN | apply Kd.R_drew)); exact HO224.out) hb); have n2_ := Aside0.mk (Kd.R_below (by (with_reducible repeat (first | apply Kd.R_alloc | apply Kd.R_drewN | apply Kd.R_drew)); exact HO229.out) hb); have n3_ := Aside0.mk (Kd.R_below (by (with_reducible repeat (first | apply Kd.R_alloc | apply Kd.R_drewN | apply Kd.R_drew)); exact HO234.out) hb); have n4_ := Aside0.mk (below_step (by repeat (first | (with_reducible first | exact HB.out | apply below_alloc | apply pw_below_drewN | apply below_drew1) | exact HB.out)) hb); clear HO219; clear HO224; clear HO229; clear HO234; clear HB; have HO219 := n0_; have HO224 := n1_; have HO229 := n2_; have HO234 := n3_; have HB := n4_; clear n0_ n1_ n2_ n3_ n4_; (try clear hb); (try clear hb2); (try clear hk); (try clear hi)))
        (try simp only [Act.put, List.setIfInBounds_toArray, List.set_cons_zero, List.set_cons_succ])
        go_cut [179] (fun v179 wc => ∃ (kq : Nat) (x179_50 : Bool), v179 = .bool x179_50 ∧ Aside0 (damasklaw04_ArithRing.j1 kq (wrap64 (a2)) t204 x179_50 = some r) ∧ Aside0 (kq ≤ kj9) ∧ Aside0 (Below w.heap.size w wc))
        case first =>
          have H := HC51.out
          clear HC51
          by_cases c68 : t221 = true
          · subst c68
            have H1 : (if t226 = true then (if t231 = true then (if t236 = true then (if t220 = 0 then (if t235 = (wrap64 (a0)) then (if t230 < 0 then (damasklaw04_ArithRing.j1 kj9 (wrap64 (a2)) t204 true) else (if t225 < (-1) then (damasklaw04_ArithRing.j1 kj9 (wrap64 (a2)) t204 true) else (damasklaw04_ArithRing.j1 kj9 (wrap64 (a2)) t204 (decide (t225 > 1))))) else (damasklaw04_ArithRing.j1 kj9 (wrap64 (a2)) t204 true)) else (damasklaw04_ArithRing.j1 kj9 (wrap64 (a2)) t204 true)) else (damasklaw04_ArithRing.j1 kj9 (wrap64 (a2)) t204 true)) else (damasklaw04_ArithRing.j1 kj9 (wrap64 (a2)) t204 true)) else (damasklaw04_ArithRing.j1 kj9 (wrap64 (a2)) t204 true)) = some r := by rw [if_pos rfl] at H; exact H
            clear H
            have H := H1
            clear H1
            by_cases c69 : t226 = true
            · subst c69
              have H1 : (if t231 = true then (if t236 = true then (if t220 = 0 then (if t235 = (wrap64 (a0)) then (if t230 < 0 then (damasklaw04_ArithRing.j1 kj9 (wrap64 (a2)) t204 true) else (if t225 < (-1) then (damasklaw04_ArithRing.j1 kj9 (wrap64 (a2)) t204 true) else (damasklaw04_ArithRing.j1 kj9 (wrap64 (a2)) t204 (decide (t225 > 1))))) else (damasklaw04_ArithRing.j1 kj9 (wrap64 (a2)) t204 true)) else (damasklaw04_ArithRing.j1 kj9 (wrap64 (a2)) t204 true)) else (damasklaw04_ArithRing.j1 kj9 (wrap64 (a2)) t204 true)) else (damasklaw04_ArithRing.j1 kj9 (wrap64 (a2)) t204 true)) = some r := by rw [if_pos rfl] at H; exact H
              clear H
              have H := H1
              clear H1
              by_cases c70 : t231 = true
              · subst c70
                have H1 : (if t236 = true then (if t220 = 0 then (if t235 = (wrap64 (a0)) then (if t230 < 0 then (damasklaw04_ArithRing.j1 kj9 (wrap64 (a2)) t204 true) else (if t225 < (-1) then (damasklaw04_ArithRing.j1 kj9 (wrap64 (a2)) t204 true) else (damasklaw04_ArithRing.j1 kj9 (wrap64 (a2)) t204 (decide (t225 > 1))))) else (damasklaw04_ArithRing.j1 kj9 (wrap64 (a2)) t204 true)) else (damasklaw04_ArithRing.j1 kj9 (wrap64 (a2)) t204 true)) else (damasklaw04_ArithRing.j1 kj9 (wrap64 (a2)) t204 true)) = some r := by rw [if_pos rfl] at H; exact H
                clear H
                have H := H1
                clear H1
                by_cases c71 : t236 = true
                · subst c71
                  have H1 : (if t220 = 0 then (if t235 = (wrap64 (a0)) then (if t230 < 0 then (damasklaw04_ArithRing.j1 kj9 (wrap64 (a2)) t204 true) else (if t225 < (-1) then (damasklaw04_ArithRing.j1 kj9 (wrap64 (a2)) t204 true) else (damasklaw04_ArithRing.j1 kj9 (wrap64 (a2)) t204 (decide (t225 > 1))))) else (damasklaw04_ArithRing.j1 kj9 (wrap64 (a2)) t204 true)) else (damasklaw04_ArithRing.j1 kj9 (wrap64 (a2)) t204 true)) = some r := by rw [if_pos rfl] at H; exact H
                  clear H
                  have H := H1
                  clear H1
                  by_cases c72 : t220 = 0
                  · rw [if_pos c72] at H
                    have c72b0 : (t220 == 0) = true := beq_iff_eq.mpr c72
                    have c72b1 : (t220 != 0) = false := bne_eq_false_iff_eq.mpr c72
                    clear c72
                    (first | rw [c72b0] | (simp only [i64_w, i32_w]; rw [c72b0]) | skip)
                    by_cases c73 : t235 = (wrap64 (a0))
                    · rw [if_pos c73] at H
                      have c73b0 : (t235 == (wrap64 (a0))) = true := beq_iff_eq.mpr c73
                      have c73b1 : (t235 != (wrap64 (a0))) = false := bne_eq_false_iff_eq.mpr c73
                      clear c73
                      by_cases c74 : t230 < 0
                      · rw [if_pos c74] at H
                        have c74b0 : decide (t230 < 0) = true := decide_eq_true c74
                        clear c74
                        exact absurd H (by have h_ := hrT.out; subst h_; clear hrT; cases kj9 <;> simp [damasklaw04_ArithRing.j1])
                      · rw [if_neg c74] at H
                        have c74b0 : decide (t230 < 0) = false := decide_eq_false c74
                        clear c74
                        by_cases c75 : t225 < (-1)
                        · rw [if_pos c75] at H
                          have c75b0 : decide (t225 < (-1)) = true := decide_eq_true c75
                          clear c75
                          exact absurd H (by have h_ := hrT.out; subst h_; clear hrT; cases kj9 <;> simp [damasklaw04_ArithRing.j1])
                        · rw [if_neg c75] at H
                          have c75b0 : decide (t225 < (-1)) = false := decide_eq_false c75
                          clear c75
                          have H' := Aside0.mk H
                          clear H
                          go_wp2
                          go_meet
                          case rel => exact ⟨_, (decide (t225 > 1)), (by first | rfl | (simp; done) | (simp [*]; done)), H', ⟨by have := HJ9.out; first | omega | exact Nat.le_refl _⟩, ⟨by repeat (first | (with_reducible first | exact HB.out | apply below_alloc | apply pw_below_drewN | apply below_drew1) | exact HB.out)⟩⟩
                    · rw [if_neg c73] at H
                      have c73b0 : (t235 == (wrap64 (a0))) = false := beq_eq_false_iff_ne.mpr c73
                      have c73b1 : (t235 != (wrap64 (a0))) = true := bne_iff_ne.mpr c73
                      exact absurd H (by have h_ := hrT.out; subst h_; clear hrT; cases kj9 <;> simp [damasklaw04_ArithRing.j1])
                  · rw [if_neg c72] at H
                    have c72b0 : (t220 == 0) = false := beq_eq_false_iff_ne.mpr c72
                    have c72b1 : (t220 != 0) = true := bne_iff_ne.mpr c72
                    (first | rw [c72b0] | (simp only [i64_w, i32_w]; rw [c72b0]) | skip)
                    exact absurd H (by have h_ := hrT.out; subst h_; clear hrT; cases kj9 <;> simp [damasklaw04_ArithRing.j1])
                · replace c71 := Bool.eq_false_iff.mpr c71
                  subst c71
                  have H1 : (damasklaw04_ArithRing.j1 kj9 (wrap64 (a2)) t204 true) = some r := by rw [if_neg (show ¬ (false = true) by decide)] at H; exact H
                  clear H
                  have H := H1
                  clear H1
                  exact absurd H (by have h_ := hrT.out; subst h_; clear hrT; cases kj9 <;> simp [damasklaw04_ArithRing.j1])
              · replace c70 := Bool.eq_false_iff.mpr c70
                subst c70
                have H1 : (damasklaw04_ArithRing.j1 kj9 (wrap64 (a2)) t204 true) = some r := by rw [if_neg (show ¬ (false = true) by decide)] at H; exact H
                clear H
                have H := H1
                clear H1
                exact absurd H (by have h_ := hrT.out; subst h_; clear hrT; cases kj9 <;> simp [damasklaw04_ArithRing.j1])
            · replace c69 := Bool.eq_false_iff.mpr c69
              subst c69
              have H1 : (damasklaw04_ArithRing.j1 kj9 (wrap64 (a2)) t204 true) = some r := by rw [if_neg (show ¬ (false = true) by decide)] at H; exact H
              clear H
              have H := H1
              clear H1
              exact absurd H (by have h_ := hrT.out; subst h_; clear hrT; cases kj9 <;> simp [damasklaw04_ArithRing.j1])
          · replace c68 := Bool.eq_false_iff.mpr c68
            subst c68
            have H1 : (damasklaw04_ArithRing.j1 kj9 (wrap64 (a2)) t204 true) = some r := by rw [if_neg (show ¬ (false = true) by decide)] at H; exact H
            clear H
            have H := H1
            clear H1
            exact absurd H (by have h_ := hrT.out; subst h_; clear hrT; cases kj9 <;> simp [damasklaw04_ArithRing.j1])
        case rest =>
          clear HC51
          try clear c1
          try clear c2
          try clear p2
          try clear c3
          try clear c4
          try clear c5
          try clear c6
          try clear p6
          try clear c7
          try clear c16
          try clear c25
          try clear c36
          try clear c37
          try clear c38
          try clear c39
          try clear c40
          try clear c41
          try clear c42
          try clear c43
          try clear c43b0
          try clear c43b1
          try clear c44
          try clear c44b0
          try clear c44b1
          try clear c46
          try clear p64
          try clear c68
          try clear c69
          try clear c70
          try clear c71
          try clear c72
          try clear c72b0
          try clear c72b1
          try clear c73
          try clear c73b0
          try clear c73b1
          try clear c74
          try clear c74b0
          try clear c75
          try clear c75b0
          try clear p2
          try clear p6
          obtain ⟨kq, x179_50, rfl, HA, HJ50, HB⟩ := hcut
          cases kq with
          | zero => exact absurd HA.out (by simp [damasklaw04_ArithRing.j1])
          | succ kj50 =>
            have H := HA.out
            clear HA
            simp only [damasklaw04_ArithRing.j1] at H
            by_cases c76 : x179_50 = true
            · subst c76
              have H1 : (some false) = some r := by rw [if_pos rfl] at H; exact H
              clear H
              have H := H1
              clear H1
              exact absurd hrT.out (by have h_ := Option.some.inj H; rw [← h_]; decide)
            · replace c76 := Bool.eq_false_iff.mpr c76
              subst c76
              have H1 : ((arith_Value.f kj50 11 0 0 (([t204, (wrap64 (a2))] : List Int))).bind fun bt240 => ((arith_Value.f kj50 12 0 0 (([t204, (wrap64 (a2))] : List Int))).bind fun bt245 => (if (wrap64 (a2)) = 0 then (if bt240.2 = 12 then (if bt245.2 = 12 then (if bt240.1 = 0 then (some (bt245.1 == 0)) else (some false)) else (some false)) else (some false)) else (if bt240.2 = 13 then (if (wrap64 (a2)) = (-1) then (if t204 = (-2147483648) then (if bt245.2 = 0 then (some (bt245.1 == 0)) else (some false)) else (some false)) else (some false)) else (if bt240.2 = 0 then (if bt245.2 = 0 then (if (wrap64 ((wrap64 (bt240.1 * (wrap64 (a2)))) + bt245.1)) = t204 then (if (wrap64 (bt245.1 * bt245.1)) < (wrap64 ((wrap64 (a2)) * (wrap64 (a2)))) then (some (decide ((wrap64 (bt245.1 * t204)) ≥ 0))) else (some false)) else (some false)) else (some false)) else (some false)))))) = some r := by rw [if_neg (show ¬ (false = true) by decide)] at H; exact H
              clear H
              have H := H1
              clear H1
              obtain ⟨y237, hy237⟩ : ∃ y_ : List Int, y_ = (([t204, (wrap64 (a2))] : List Int)) := ⟨_, rfl⟩
              replace H : ((arith_Value.f kj50 11 0 0 y237).bind fun bt240 => ((arith_Value.f kj50 12 0 0 (([t204, (wrap64 (a2))] : List Int))).bind fun bt245 => (if (wrap64 (a2)) = 0 then (if bt240.2 = 12 then (if bt245.2 = 12 then (if bt240.1 = 0 then (some (bt245.1 == 0)) else (some false)) else (some false)) else (some false)) else (if bt240.2 = 13 then (if (wrap64 (a2)) = (-1) then (if t204 = (-2147483648) then (if bt245.2 = 0 then (some (bt245.1 == 0)) else (some false)) else (some false)) else (some false)) else (if bt240.2 = 0 then (if bt245.2 = 0 then (if (wrap64 ((wrap64 (bt240.1 * (wrap64 (a2)))) + bt245.1)) = t204 then (if (wrap64 (bt245.1 * bt245.1)) < (wrap64 ((wrap64 (a2)) * (wrap64 (a2)))) then (some (decide ((wrap64 (bt245.1 * t204)) ≥ 0))) else (some false)) else (some false)) else (some false)) else (some false)))))) = some r := by first | (rw [hy237]; with_reducible exact H) | (have H2_ := (Option.bind_some _ _).symm.trans H; rw [hy237]; with_reducible exact H2_) | (have H2_ := (Option.bind_some _ _).symm.trans H; with_reducible exact H2_) | with_reducible exact H | (rw [hy237]; exact H) | exact H
              have Ny237 := Aside0.mk hy237
              clear hy237
              replace H := Option.bind_eq_some_iff.mp H
              obtain ⟨⟨t240, t241⟩, A770, H⟩ := H
              replace H : ((arith_Value.f kj50 12 0 0 (([t204, (wrap64 (a2))] : List Int))).bind fun bt245 => (if (wrap64 (a2)) = 0 then (if t241 = 12 then (if bt245.2 = 12 then (if t240 = 0 then (some (bt245.1 == 0)) else (some false)) else (some false)) else (some false)) else (if t241 = 13 then (if (wrap64 (a2)) = (-1) then (if t204 = (-2147483648) then (if bt245.2 = 0 then (some (bt245.1 == 0)) else (some false)) else (some false)) else (some false)) else (if t241 = 0 then (if bt245.2 = 0 then (if (wrap64 ((wrap64 (t240 * (wrap64 (a2)))) + bt245.1)) = t204 then (if (wrap64 (bt245.1 * bt245.1)) < (wrap64 ((wrap64 (a2)) * (wrap64 (a2)))) then (some (decide ((wrap64 (bt245.1 * t204)) ≥ 0))) else (some false)) else (some false)) else (some false)) else (some false))))) = some r := H
              have A77 := Aside0.mk A770
              clear A770
              obtain ⟨y242, hy242⟩ : ∃ y_ : List Int, y_ = (([t204, (wrap64 (a2))] : List Int)) := ⟨_, rfl⟩
              replace H : ((arith_Value.f kj50 12 0 0 y242).bind fun bt245 => (if (wrap64 (a2)) = 0 then (if t241 = 12 then (if bt245.2 = 12 then (if t240 = 0 then (some (bt245.1 == 0)) else (some false)) else (some false)) else (some false)) else (if t241 = 13 then (if (wrap64 (a2)) = (-1) then (if t204 = (-2147483648) then (if bt245.2 = 0 then (some (bt245.1 == 0)) else (some false)) else (some false)) else (some false)) else (if t241 = 0 then (if bt245.2 = 0 then (if (wrap64 ((wrap64 (t240 * (wrap64 (a2)))) + bt245.1)) = t204 then (if (wrap64 (bt245.1 * bt245.1)) < (wrap64 ((wrap64 (a2)) * (wrap64 (a2)))) then (some (decide ((wrap64 (bt245.1 * t204)) ≥ 0))) else (some false)) else (some false)) else (some false)) else (some false))))) = some r := by first | (rw [hy242]; with_reducible exact H) | (have H2_ := (Option.bind_some _ _).symm.trans H; rw [hy242]; with_reducible exact H2_) | (have H2_ := (Option.bind_some _ _).symm.trans H; with_reducible exact H2_) | with_reducible exact H | (rw [hy242]; exact H) | exact H
              have Ny242 := Aside0.mk hy242
              clear hy242
              replace H := Option.bind_eq_some_iff.mp H
              obtain ⟨⟨t245, t246⟩, A780, H⟩ := H
              replace H : (if (wrap64 (a2)) = 0 then (if t241 = 12 then (if t246 = 12 then (if t240 = 0 then (some (t245 == 0)) else (some false)) else (some false)) else (some false)) else (if t241 = 13 then (if (wrap64 (a2)) = (-1) then (if t204 = (-2147483648) then (if t246 = 0 then (some (t245 == 0)) else (some false)) else (some false)) else (some false)) else (if t241 = 0 then (if t246 = 0 then (if (wrap64 ((wrap64 (t240 * (wrap64 (a2)))) + t245)) = t204 then (if (wrap64 (t245 * t245)) < (wrap64 ((wrap64 (a2)) * (wrap64 (a2)))) then (some (decide ((wrap64 (t245 * t204)) ≥ 0))) else (some false)) else (some false)) else (some false)) else (some false)))) = some r := H
              have A78 := Aside0.mk A780
              clear A780
              by_cases c79 : (wrap64 (a2)) = 0
              · rw [if_pos c79] at H
                have c79b0 : ((wrap64 (a2)) == 0) = true := beq_iff_eq.mpr c79
                have c79b1 : ((wrap64 (a2)) != 0) = false := bne_eq_false_iff_eq.mpr c79
                clear c79
                by_cases c80 : t241 = 12
                · rw [if_pos c80] at H
                  have c80b0 : (t241 == 12) = true := beq_iff_eq.mpr c80
                  have c80b1 : (t241 != 12) = false := bne_eq_false_iff_eq.mpr c80
                  clear c80
                  by_cases c81 : t246 = 12
                  · rw [if_pos c81] at H
                    have c81b0 : (t246 == 12) = true := beq_iff_eq.mpr c81
                    have c81b1 : (t246 != 12) = false := bne_eq_false_iff_eq.mpr c81
                    clear c81
                    by_cases c82 : t240 = 0
                    · rw [if_pos c82] at H
                      have c82b0 : (t240 == 0) = true := beq_iff_eq.mpr c82
                      have c82b1 : (t240 != 0) = false := bne_eq_false_iff_eq.mpr c82
                      clear c82
                      obtain rfl := Option.some.inj H
                      go_wp2_with (first | ((with_reducible refine gate_dst (N := 183) rfl ?_); refine Kd.R_lit (Kd.int .i64) _ 3 ?hg (N := 183) ?hd (xs := ([t204, (wrap64 (a2))] : List Int)) (inner := [.int .i64 t204, .int .i64 (wrap64 (a2))]) (ok := fun _ => True) (okp := fun _ => True) ?hr ?hp (fun _ hk => hk) trivial (Below.refl _ _) (Nat.le_refl _) (by simp) ?_; (case hd => rfl); (case hg => rfl); (case hr => first | (go_simp; done) | (go_simp; rfl)); (case hp => exact (Reps.one (show Kd.M (Kd.int .i64) _ _ _ t204 [.int .i64 t204] from rfl) (Reps.one (show Kd.M (Kd.int .i64) _ _ _ (wrap64 (a2)) [.int .i64 (wrap64 (a2))] from rfl) (Reps.none _ _)))); intro v238 w83 ho84 hb hg_ hnew_; clear hg_ hnew_; (first | rw [← Ny237.out] at ho84 | (simp only [Int.reduceToNat] at ho84; rw [← Ny237.out] at ho84)); have n0_ := Aside0.mk (Kd.R_lower ho84 (below_size (by repeat (first | (with_reducible first | exact HB.out | apply below_alloc | apply pw_below_drewN | apply below_drew1) | exact HB.out)))); have n1_ := Aside0.mk (below_step (by repeat (first | (with_reducible first | exact HB.out | apply below_alloc | apply pw_below_drewN | apply below_drew1) | exact HB.out)) hb); clear HB; have HO239 := n0_; have HB := n1_; clear n0_ n1_; clear hb ho84; obtain ⟨Ao85, co85, eo85⟩ := Kd.R_slice HO239.out; subst eo85) | ((with_reducible refine gate_callee (f := 23) rfl ?_); refine goesL_ (some 184) rfl rfl Try.func23 (by kernel_rfl) rfl #[.int .i64 11, .int .i64 0, .int .i64 0, .slice Ao85 y237.length co85] rfl (by (try simp only [List.map_toArray, List.map_cons, List.map_nil]); first | done | rfl | (simp only [List.length_drop, List.length_take]; rfl)) ?_; (with_reducible refine (arith_Value.calls kj50 11 0 0 _ _ y237 t240 t241 _ ?side1 ?side2 A77.out).mono ?_); (case side1 => repeat (first | exact (Kd.R_reads' HO239.out).2.2 | (with_reducible refine Kd.C_alloc ?_ _) | (with_reducible refine Kd.C_drewN ?_ _) | (with_reducible refine Kd.C_drew ?_))); (case side2 => exact (Kd.R_reads' HO239.out).2.1); rintro e w86 ⟨rfl, hb⟩; refine ⟨_, rfl, ?_⟩; have n0_ := Aside0.mk (Kd.R_below (by (with_reducible repeat (first | apply Kd.R_alloc | apply Kd.R_drewN | apply Kd.R_drew)); exact HO239.out) hb); have n1_ := Aside0.mk (below_step (by repeat (first | (with_reducible first | exact HB.out | apply below_alloc | apply pw_below_drewN | apply below_drew1) | exact HB.out)) hb); clear HO239; clear HB; have HO239 := n0_; have HB := n1_; clear n0_ n1_; (try clear hb); (try clear hb2); (try clear hk); (try clear hi)) | ((with_reducible refine gate_dst (N := 190) rfl ?_); refine Kd.R_lit (Kd.int .i64) _ 3 ?hg (N := 190) ?hd (xs := ([t204, (wrap64 (a2))] : List Int)) (inner := [.int .i64 t204, .int .i64 (wrap64 (a2))]) (ok := fun _ => True) (okp := fun _ => True) ?hr ?hp (fun _ hk => hk) trivial (Below.refl _ _) (Nat.le_refl _) (by simp) ?_; (case hd => rfl); (case hg => rfl); (case hr => first | (go_simp; done) | (go_simp; rfl)); (case hp => exact (Reps.one (show Kd.M (Kd.int .i64) _ _ _ t204 [.int .i64 t204] from rfl) (Reps.one (show Kd.M (Kd.int .i64) _ _ _ (wrap64 (a2)) [.int .i64 (wrap64 (a2))] from rfl) (Reps.none _ _)))); intro v243 w87 ho88 hb hg_ hnew_; clear hg_ hnew_; (first | rw [← Ny242.out] at ho88 | (simp only [Int.reduceToNat] at ho88; rw [← Ny242.out] at ho88)); have n0_ := Aside0.mk (Kd.R_elder' (by (with_reducible repeat (first | apply Kd.R_alloc | apply Kd.R_drewN | apply Kd.R_drew)); exact HO239.out) (Kd.R_base ho88) hb); have n1_ := Aside0.mk (Kd.R_lower (Kd.R_new' ho88 (Kd.R_lt (by (with_reducible repeat (first | apply Kd.R_alloc | apply Kd.R_drewN | apply Kd.R_drew)); exact HO239.out))) (below_size (by repeat (first | (with_reducible first | exact HB.out | apply below_alloc | apply pw_below_drewN | apply below_drew1) | exact HB.out)))); have n2_ := Aside0.mk (below_step (by repeat (first | (with_reducible first | exact HB.out | apply below_alloc | apply pw_below_drewN | apply below_drew1) | exact HB.out)) hb); clear HO239; clear HB; have HO239 := n0_; have HO244 := n1_; have HB := n2_; clear n0_ n1_ n2_; clear hb ho88; obtain ⟨Ao89, co89, eo89⟩ := Kd.R_slice HO244.out; subst eo89) | ((with_reducible refine gate_callee (f := 23) rfl ?_); refine goesL_ (some 191) rfl rfl Try.func23 (by kernel_rfl) rfl #[.int .i64 12, .int .i64 0, .int .i64 0, .slice Ao89 y242.length co89] rfl (by (try simp only [List.map_toArray, List.map_cons, List.map_nil]); first | done | rfl | (simp only [List.length_drop, List.length_take]; rfl)) ?_; (with_reducible refine (arith_Value.calls kj50 12 0 0 _ _ y242 t245 t246 _ ?side1 ?side2 A78.out).mono ?_); (case side1 => repeat (first | exact (Kd.R_reads' HO244.out).2.2 | (with_reducible refine Kd.C_alloc ?_ _) | (with_reducible refine Kd.C_drewN ?_ _) | (with_reducible refine Kd.C_drew ?_))); (case side2 => exact (Kd.R_reads' HO244.out).2.1); rintro e w90 ⟨rfl, hb⟩; refine ⟨_, rfl, ?_⟩; have n0_ := Aside0.mk (Kd.R_below (by (with_reducible repeat (first | apply Kd.R_alloc | apply Kd.R_drewN | apply Kd.R_drew)); exact HO239.out) hb); have n1_ := Aside0.mk (Kd.R_below (by (with_reducible repeat (first | apply Kd.R_alloc | apply Kd.R_drewN | apply Kd.R_drew)); exact HO244.out) hb); have n2_ := Aside0.mk (below_step (by repeat (first | (with_reducible first | exact HB.out | apply below_alloc | apply pw_below_drewN | apply below_drew1) | exact HB.out)) hb); clear HO239; clear HO244; clear HB; have HO239 := n0_; have HO244 := n1_; have HB := n2_; clear n0_ n1_ n2_; (try clear hb); (try clear hb2); (try clear hk); (try clear hi)))
                      go_ret
                      exact ⟨by first | rfl | (simp [errW_none, errW_some] <;> rfl) | (simp [*, errW_none, errW_some] <;> rfl), by repeat (first | (with_reducible first | exact HB.out | apply below_alloc | apply pw_below_drewN | apply below_drew1) | exact HB.out)⟩
                    · rw [if_neg c82] at H
                      have c82b0 : (t240 == 0) = false := beq_eq_false_iff_ne.mpr c82
                      have c82b1 : (t240 != 0) = true := bne_iff_ne.mpr c82
                      exact absurd hrT.out (by have h_ := Option.some.inj H; rw [← h_]; decide)
                  · rw [if_neg c81] at H
                    have c81b0 : (t246 == 12) = false := beq_eq_false_iff_ne.mpr c81
                    have c81b1 : (t246 != 12) = true := bne_iff_ne.mpr c81
                    exact absurd hrT.out (by have h_ := Option.some.inj H; rw [← h_]; decide)
                · rw [if_neg c80] at H
                  have c80b0 : (t241 == 12) = false := beq_eq_false_iff_ne.mpr c80
                  have c80b1 : (t241 != 12) = true := bne_iff_ne.mpr c80
                  exact absurd hrT.out (by have h_ := Option.some.inj H; rw [← h_]; decide)
              · rw [if_neg c79] at H
                have c79b0 : ((wrap64 (a2)) == 0) = false := beq_eq_false_iff_ne.mpr c79
                have c79b1 : ((wrap64 (a2)) != 0) = true := bne_iff_ne.mpr c79
                by_cases c91 : t241 = 13
                · rw [if_pos c91] at H
                  have c91b0 : (t241 == 13) = true := beq_iff_eq.mpr c91
                  have c91b1 : (t241 != 13) = false := bne_eq_false_iff_eq.mpr c91
                  clear c91
                  by_cases c92 : (wrap64 (a2)) = (-1)
                  · rw [if_pos c92] at H
                    have c92b0 : ((wrap64 (a2)) == (-1)) = true := beq_iff_eq.mpr c92
                    have c92b1 : ((wrap64 (a2)) != (-1)) = false := bne_eq_false_iff_eq.mpr c92
                    clear c92
                    by_cases c93 : t204 = (-2147483648)
                    · rw [if_pos c93] at H
                      have c93b0 : (t204 == (-2147483648)) = true := beq_iff_eq.mpr c93
                      have c93b1 : (t204 != (-2147483648)) = false := bne_eq_false_iff_eq.mpr c93
                      clear c93
                      by_cases c94 : t246 = 0
                      · rw [if_pos c94] at H
                        have c94b0 : (t246 == 0) = true := beq_iff_eq.mpr c94
                        have c94b1 : (t246 != 0) = false := bne_eq_false_iff_eq.mpr c94
                        clear c94
                        obtain rfl := Option.some.inj H
                        go_wp2_with (first | ((with_reducible refine gate_dst (N := 183) rfl ?_); refine Kd.R_lit (Kd.int .i64) _ 3 ?hg (N := 183) ?hd (xs := ([t204, (wrap64 (a2))] : List Int)) (inner := [.int .i64 t204, .int .i64 (wrap64 (a2))]) (ok := fun _ => True) (okp := fun _ => True) ?hr ?hp (fun _ hk => hk) trivial (Below.refl _ _) (Nat.le_refl _) (by simp) ?_; (case hd => rfl); (case hg => rfl); (case hr => first | (go_simp; done) | (go_simp; rfl)); (case hp => exact (Reps.one (show Kd.M (Kd.int .i64) _ _ _ t204 [.int .i64 t204] from rfl) (Reps.one (show Kd.M (Kd.int .i64) _ _ _ (wrap64 (a2)) [.int .i64 (wrap64 (a2))] from rfl) (Reps.none _ _)))); intro v238 w95 ho96 hb hg_ hnew_; clear hg_ hnew_; (first | rw [← Ny237.out] at ho96 | (simp only [Int.reduceToNat] at ho96; rw [← Ny237.out] at ho96)); have n0_ := Aside0.mk (Kd.R_lower ho96 (below_size (by repeat (first | (with_reducible first | exact HB.out | apply below_alloc | apply pw_below_drewN | apply below_drew1) | exact HB.out)))); have n1_ := Aside0.mk (below_step (by repeat (first | (with_reducible first | exact HB.out | apply below_alloc | apply pw_below_drewN | apply below_drew1) | exact HB.out)) hb); clear HB; have HO239 := n0_; have HB := n1_; clear n0_ n1_; clear hb ho96; obtain ⟨Ao97, co97, eo97⟩ := Kd.R_slice HO239.out; subst eo97) | ((with_reducible refine gate_callee (f := 23) rfl ?_); refine goesL_ (some 184) rfl rfl Try.func23 (by kernel_rfl) rfl #[.int .i64 11, .int .i64 0, .int .i64 0, .slice Ao97 y237.length co97] rfl (by (try simp only [List.map_toArray, List.map_cons, List.map_nil]); first | done | rfl | (simp only [List.length_drop, List.length_take]; rfl)) ?_; (with_reducible refine (arith_Value.calls kj50 11 0 0 _ _ y237 t240 t241 _ ?side1 ?side2 A77.out).mono ?_); (case side1 => repeat (first | exact (Kd.R_reads' HO239.out).2.2 | (with_reducible refine Kd.C_alloc ?_ _) | (with_reducible refine Kd.C_drewN ?_ _) | (with_reducible refine Kd.C_drew ?_))); (case side2 => exact (Kd.R_reads' HO239.out).2.1); rintro e w98 ⟨rfl, hb⟩; refine ⟨_, rfl, ?_⟩; have n0_ := Aside0.mk (Kd.R_below (by (with_reducible repeat (first | apply Kd.R_alloc | apply Kd.R_drewN | apply Kd.R_drew)); exact HO239.out) hb); have n1_ := Aside0.mk (below_step (by repeat (first | (with_reducible first | exact HB.out | apply below_alloc | apply pw_below_drewN | apply below_drew1) | exact HB.out)) hb); clear HO239; clear HB; have HO239 := n0_; have HB := n1_; clear n0_ n1_; (try clear hb); (try clear hb2); (try clear hk); (try clear hi)) | ((with_reducible refine gate_dst (N := 190) rfl ?_); refine Kd.R_lit (Kd.int .i64) _ 3 ?hg (N := 190) ?hd (xs := ([t204, (wrap64 (a2))] : List Int)) (inner := [.int .i64 t204, .int .i64 (wrap64 (a2))]) (ok := fun _ => True) (okp := fun _ => True) ?hr ?hp (fun _ hk => hk) trivial (Below.refl _ _) (Nat.le_refl _) (by simp) ?_; (case hd => rfl); (case hg => rfl); (case hr => first | (go_simp; done) | (go_simp; rfl)); (case hp => exact (Reps.one (show Kd.M (Kd.int .i64) _ _ _ t204 [.int .i64 t204] from rfl) (Reps.one (show Kd.M (Kd.int .i64) _ _ _ (wrap64 (a2)) [.int .i64 (wrap64 (a2))] from rfl) (Reps.none _ _)))); intro v243 w99 ho100 hb hg_ hnew_; clear hg_ hnew_; (first | rw [← Ny242.out] at ho100 | (simp only [Int.reduceToNat] at ho100; rw [← Ny242.out] at ho100)); have n0_ := Aside0.mk (Kd.R_elder' (by (with_reducible repeat (first | apply Kd.R_alloc | apply Kd.R_drewN | apply Kd.R_drew)); exact HO239.out) (Kd.R_base ho100) hb); have n1_ := Aside0.mk (Kd.R_lower (Kd.R_new' ho100 (Kd.R_lt (by (with_reducible repeat (first | apply Kd.R_alloc | apply Kd.R_drewN | apply Kd.R_drew)); exact HO239.out))) (below_size (by repeat (first | (with_reducible first | exact HB.out | apply below_alloc | apply pw_below_drewN | apply below_drew1) | exact HB.out)))); have n2_ := Aside0.mk (below_step (by repeat (first | (with_reducible first | exact HB.out | apply below_alloc | apply pw_below_drewN | apply below_drew1) | exact HB.out)) hb); clear HO239; clear HB; have HO239 := n0_; have HO244 := n1_; have HB := n2_; clear n0_ n1_ n2_; clear hb ho100; obtain ⟨Ao101, co101, eo101⟩ := Kd.R_slice HO244.out; subst eo101) | ((with_reducible refine gate_callee (f := 23) rfl ?_); refine goesL_ (some 191) rfl rfl Try.func23 (by kernel_rfl) rfl #[.int .i64 12, .int .i64 0, .int .i64 0, .slice Ao101 y242.length co101] rfl (by (try simp only [List.map_toArray, List.map_cons, List.map_nil]); first | done | rfl | (simp only [List.length_drop, List.length_take]; rfl)) ?_; (with_reducible refine (arith_Value.calls kj50 12 0 0 _ _ y242 t245 t246 _ ?side1 ?side2 A78.out).mono ?_); (case side1 => repeat (first | exact (Kd.R_reads' HO244.out).2.2 | (with_reducible refine Kd.C_alloc ?_ _) | (with_reducible refine Kd.C_drewN ?_ _) | (with_reducible refine Kd.C_drew ?_))); (case side2 => exact (Kd.R_reads' HO244.out).2.1); rintro e w102 ⟨rfl, hb⟩; refine ⟨_, rfl, ?_⟩; have n0_ := Aside0.mk (Kd.R_below (by (with_reducible repeat (first | apply Kd.R_alloc | apply Kd.R_drewN | apply Kd.R_drew)); exact HO239.out) hb); have n1_ := Aside0.mk (Kd.R_below (by (with_reducible repeat (first | apply Kd.R_alloc | apply Kd.R_drewN | apply Kd.R_drew)); exact HO244.out) hb); have n2_ := Aside0.mk (below_step (by repeat (first | (with_reducible first | exact HB.out | apply below_alloc | apply pw_below_drewN | apply below_drew1) | exact HB.out)) hb); clear HO239; clear HO244; clear HB; have HO239 := n0_; have HO244 := n1_; have HB := n2_; clear n0_ n1_ n2_; (try clear hb); (try clear hb2); (try clear hk); (try clear hi)))
                        go_ret
                        exact ⟨by first | rfl | (simp [errW_none, errW_some] <;> rfl) | (simp [*, errW_none, errW_some] <;> rfl), by repeat (first | (with_reducible first | exact HB.out | apply below_alloc | apply pw_below_drewN | apply below_drew1) | exact HB.out)⟩
                      · rw [if_neg c94] at H
                        have c94b0 : (t246 == 0) = false := beq_eq_false_iff_ne.mpr c94
                        have c94b1 : (t246 != 0) = true := bne_iff_ne.mpr c94
                        exact absurd hrT.out (by have h_ := Option.some.inj H; rw [← h_]; decide)
                    · rw [if_neg c93] at H
                      have c93b0 : (t204 == (-2147483648)) = false := beq_eq_false_iff_ne.mpr c93
                      have c93b1 : (t204 != (-2147483648)) = true := bne_iff_ne.mpr c93
                      exact absurd hrT.out (by have h_ := Option.some.inj H; rw [← h_]; decide)
                  · rw [if_neg c92] at H
                    have c92b0 : ((wrap64 (a2)) == (-1)) = false := beq_eq_false_iff_ne.mpr c92
                    have c92b1 : ((wrap64 (a2)) != (-1)) = true := bne_iff_ne.mpr c92
                    exact absurd hrT.out (by have h_ := Option.some.inj H; rw [← h_]; decide)
                · rw [if_neg c91] at H
                  have c91b0 : (t241 == 13) = false := beq_eq_false_iff_ne.mpr c91
                  have c91b1 : (t241 != 13) = true := bne_iff_ne.mpr c91
                  by_cases c103 : t241 = 0
                  · rw [if_pos c103] at H
                    have c103b0 : (t241 == 0) = true := beq_iff_eq.mpr c103
                    have c103b1 : (t241 != 0) = false := bne_eq_false_iff_eq.mpr c103
                    clear c103
                    by_cases c104 : t246 = 0
                    · rw [if_pos c104] at H
                      have c104b0 : (t246 == 0) = true := beq_iff_eq.mpr c104
                      have c104b1 : (t246 != 0) = false := bne_eq_false_iff_eq.mpr c104
                      clear c104
                      by_cases c105 : (wrap64 ((wrap64 (t240 * (wrap64 (a2)))) + t245)) = t204
                      · rw [if_pos c105] at H
                        have c105b0 : ((wrap64 ((wrap64 (t240 * (wrap64 (a2)))) + t245)) == t204) = true := beq_iff_eq.mpr c105
                        have c105b1 : ((wrap64 ((wrap64 (t240 * (wrap64 (a2)))) + t245)) != t204) = false := bne_eq_false_iff_eq.mpr c105
                        clear c105
                        by_cases c106 : (wrap64 (t245 * t245)) < (wrap64 ((wrap64 (a2)) * (wrap64 (a2))))
                        · rw [if_pos c106] at H
                          have c106b0 : decide ((wrap64 (t245 * t245)) < (wrap64 ((wrap64 (a2)) * (wrap64 (a2))))) = true := decide_eq_true c106
                          clear c106
                          obtain rfl := Option.some.inj H
                          go_wp2_with (first | ((with_reducible refine gate_dst (N := 183) rfl ?_); refine Kd.R_lit (Kd.int .i64) _ 3 ?hg (N := 183) ?hd (xs := ([t204, (wrap64 (a2))] : List Int)) (inner := [.int .i64 t204, .int .i64 (wrap64 (a2))]) (ok := fun _ => True) (okp := fun _ => True) ?hr ?hp (fun _ hk => hk) trivial (Below.refl _ _) (Nat.le_refl _) (by simp) ?_; (case hd => rfl); (case hg => rfl); (case hr => first | (go_simp; done) | (go_simp; rfl)); (case hp => exact (Reps.one (show Kd.M (Kd.int .i64) _ _ _ t204 [.int .i64 t204] from rfl) (Reps.one (show Kd.M (Kd.int .i64) _ _ _ (wrap64 (a2)) [.int .i64 (wrap64 (a2))] from rfl) (Reps.none _ _)))); intro v238 w107 ho108 hb hg_ hnew_; clear hg_ hnew_; (first | rw [← Ny237.out] at ho108 | (simp only [Int.reduceToNat] at ho108; rw [← Ny237.out] at ho108)); have n0_ := Aside0.mk (Kd.R_lower ho108 (below_size (by repeat (first | (with_reducible first | exact HB.out | apply below_alloc | apply pw_below_drewN | apply below_drew1) | exact HB.out)))); have n1_ := Aside0.mk (below_step (by repeat (first | (with_reducible first | exact HB.out | apply below_alloc | apply pw_below_drewN | apply below_drew1) | exact HB.out)) hb); clear HB; have HO239 := n0_; have HB := n1_; clear n0_ n1_; clear hb ho108; obtain ⟨Ao109, co109, eo109⟩ := Kd.R_slice HO239.out; subst eo109) | ((with_reducible refine gate_callee (f := 23) rfl ?_); refine goesL_ (some 184) rfl rfl Try.func23 (by kernel_rfl) rfl #[.int .i64 11, .int .i64 0, .int .i64 0, .slice Ao109 y237.length co109] rfl (by (try simp only [List.map_toArray, List.map_cons, List.map_nil]); first | done | rfl | (simp only [List.length_drop, List.length_take]; rfl)) ?_; (with_reducible refine (arith_Value.calls kj50 11 0 0 _ _ y237 t240 t241 _ ?side1 ?side2 A77.out).mono ?_); (case side1 => repeat (first | exact (Kd.R_reads' HO239.out).2.2 | (with_reducible refine Kd.C_alloc ?_ _) | (with_reducible refine Kd.C_drewN ?_ _) | (with_reducible refine Kd.C_drew ?_))); (case side2 => exact (Kd.R_reads' HO239.out).2.1); rintro e w110 ⟨rfl, hb⟩; refine ⟨_, rfl, ?_⟩; have n0_ := Aside0.mk (Kd.R_below (by (with_reducible repeat (first | apply Kd.R_alloc | apply Kd.R_drewN | apply Kd.R_drew)); exact HO239.out) hb); have n1_ := Aside0.mk (below_step (by repeat (first | (with_reducible first | exact HB.out | apply below_alloc | apply pw_below_drewN | apply below_drew1) | exact HB.out)) hb); clear HO239; clear HB; have HO239 := n0_; have HB := n1_; clear n0_ n1_; (try clear hb); (try clear hb2); (try clear hk); (try clear hi)) | ((with_reducible refine gate_dst (N := 190) rfl ?_); refine Kd.R_lit (Kd.int .i64) _ 3 ?hg (N := 190) ?hd (xs := ([t204, (wrap64 (a2))] : List Int)) (inner := [.int .i64 t204, .int .i64 (wrap64 (a2))]) (ok := fun _ => True) (okp := fun _ => True) ?hr ?hp (fun _ hk => hk) trivial (Below.refl _ _) (Nat.le_refl _) (by simp) ?_; (case hd => rfl); (case hg => rfl); (case hr => first | (go_simp; done) | (go_simp; rfl)); (case hp => exact (Reps.one (show Kd.M (Kd.int .i64) _ _ _ t204 [.int .i64 t204] from rfl) (Reps.one (show Kd.M (Kd.int .i64) _ _ _ (wrap64 (a2)) [.int .i64 (wrap64 (a2))] from rfl) (Reps.none _ _)))); intro v243 w111 ho112 hb hg_ hnew_; clear hg_ hnew_; (first | rw [← Ny242.out] at ho112 | (simp only [Int.reduceToNat] at ho112; rw [← Ny242.out] at ho112)); have n0_ := Aside0.mk (Kd.R_elder' (by (with_reducible repeat (first | apply Kd.R_alloc | apply Kd.R_drewN | apply Kd.R_drew)); exact HO239.out) (Kd.R_base ho112) hb); have n1_ := Aside0.mk (Kd.R_lower (Kd.R_new' ho112 (Kd.R_lt (by (with_reducible repeat (first | apply Kd.R_alloc | apply Kd.R_drewN | apply Kd.R_drew)); exact HO239.out))) (below_size (by repeat (first | (with_reducible first | exact HB.out | apply below_alloc | apply pw_below_drewN | apply below_drew1) | exact HB.out)))); have n2_ := Aside0.mk (below_step (by repeat (first | (with_reducible first | exact HB.out | apply below_alloc | apply pw_below_drewN | apply below_drew1) | exact HB.out)) hb); clear HO239; clear HB; have HO239 := n0_; have HO244 := n1_; have HB := n2_; clear n0_ n1_ n2_; clear hb ho112; obtain ⟨Ao113, co113, eo113⟩ := Kd.R_slice HO244.out; subst eo113) | ((with_reducible refine gate_callee (f := 23) rfl ?_); refine goesL_ (some 191) rfl rfl Try.func23 (by kernel_rfl) rfl #[.int .i64 12, .int .i64 0, .int .i64 0, .slice Ao113 y242.length co113] rfl (by (try simp only [List.map_toArray, List.map_cons, List.map_nil]); first | done | rfl | (simp only [List.length_drop, List.length_take]; rfl)) ?_; (with_reducible refine (arith_Value.calls kj50 12 0 0 _ _ y242 t245 t246 _ ?side1 ?side2 A78.out).mono ?_); (case side1 => repeat (first | exact (Kd.R_reads' HO244.out).2.2 | (with_reducible refine Kd.C_alloc ?_ _) | (with_reducible refine Kd.C_drewN ?_ _) | (with_reducible refine Kd.C_drew ?_))); (case side2 => exact (Kd.R_reads' HO244.out).2.1); rintro e w114 ⟨rfl, hb⟩; refine ⟨_, rfl, ?_⟩; have n0_ := Aside0.mk (Kd.R_below (by (with_reducible repeat (first | apply Kd.R_alloc | apply Kd.R_drewN | apply Kd.R_drew)); exact HO239.out) hb); have n1_ := Aside0.mk (Kd.R_below (by (with_reducible repeat (first | apply Kd.R_alloc | apply Kd.R_drewN | apply Kd.R_drew)); exact HO244.out) hb); have n2_ := Aside0.mk (below_step (by repeat (first | (with_reducible first | exact HB.out | apply below_alloc | apply pw_below_drewN | apply below_drew1) | exact HB.out)) hb); clear HO239; clear HO244; clear HB; have HO239 := n0_; have HO244 := n1_; have HB := n2_; clear n0_ n1_ n2_; (try clear hb); (try clear hb2); (try clear hk); (try clear hi)))
                          go_ret
                          exact ⟨by first | rfl | (simp [errW_none, errW_some] <;> rfl) | (simp [*, errW_none, errW_some] <;> rfl), by repeat (first | (with_reducible first | exact HB.out | apply below_alloc | apply pw_below_drewN | apply below_drew1) | exact HB.out)⟩
                        · rw [if_neg c106] at H
                          have c106b0 : decide ((wrap64 (t245 * t245)) < (wrap64 ((wrap64 (a2)) * (wrap64 (a2))))) = false := decide_eq_false c106
                          clear c106
                          exact absurd hrT.out (by have h_ := Option.some.inj H; rw [← h_]; decide)
                      · rw [if_neg c105] at H
                        have c105b0 : ((wrap64 ((wrap64 (t240 * (wrap64 (a2)))) + t245)) == t204) = false := beq_eq_false_iff_ne.mpr c105
                        have c105b1 : ((wrap64 ((wrap64 (t240 * (wrap64 (a2)))) + t245)) != t204) = true := bne_iff_ne.mpr c105
                        exact absurd hrT.out (by have h_ := Option.some.inj H; rw [← h_]; decide)
                    · rw [if_neg c104] at H
                      have c104b0 : (t246 == 0) = false := beq_eq_false_iff_ne.mpr c104
                      have c104b1 : (t246 != 0) = true := bne_iff_ne.mpr c104
                      exact absurd hrT.out (by have h_ := Option.some.inj H; rw [← h_]; decide)
                  · rw [if_neg c103] at H
                    have c103b0 : (t241 == 0) = false := beq_eq_false_iff_ne.mpr c103
                    have c103b1 : (t241 != 0) = true := bne_iff_ne.mpr c103
                    exact absurd hrT.out (by have h_ := Option.some.inj H; rw [← h_]; decide)

/-- THE ONE PURE STATEMENT of damasklaw04_ArithRing: yours. -/
def damasklaw04_ArithRing.Pure : Prop := ∀ (a0 : Int) (a1 : Int) (a2 : Int), (Lit.int .i16 a0).wf = true → (Lit.int .i16 a1).wf = true → (Lit.int .i16 a2).wf = true → ∃ k, damasklaw04_ArithRing.f k a0 a1 a2 = some true
theorem damasklaw04_ArithRing.walk (P : damasklaw04_ArithRing.Pure) (a0 : Int) (a1 : Int) (a2 : Int) (w : World) (w0 : (Lit.int .i16 a0).wf = true) (w1 : (Lit.int .i16 a1).wf = true) (w2 : (Lit.int .i16 a2).wf = true) :
    Calls Try.prog 5 #[.int .i16 a0, .int .i16 a1, .int .i16 a2] w fun e w' => e = .returned (.bool true) ∧ Below w.heap.size w w' := by
  obtain ⟨k, h⟩ := P a0 a1 a2 w0 w1 w2
  refine (damasklaw04_ArithRing.calls k a0 a1 a2 true w rfl h).mono ?_
  rintro e w' ⟨rfl, hd⟩
  exact ⟨rfl, hd⟩

end Go.Proofs.Ytpnldhimlpilhaa.F
