/- Written by wip/myprint.py of this session, out of Lean's print of the program: what Go functions come to, and that their calls come to it; no condition. -/
import Derived.Test.YtpnldhimlpilhaaF0
import Derived.Test.YtpnldhimlpilhaaFspan1
import Derived.Test.YtpnldhimlpilhaaFspan3
import Derived.Test.YtpnldhimlpilhaaFspan4
import Derived.Test.YtpnldhimlpilhaaFspan5
namespace Go.Proofs.Ytpnldhimlpilhaa.F
open Go.RowKit Go.Proofs.YtpnldhimlpilhaaW.PrintWords Go.Proofs.YtpnldhimlpilhaaW.PrintLast Go.Proofs.YtpnldhimlpilhaaW.PrintMore Go.Proofs.YtpnldhimlpilhaaW
attribute [local go_sem] max2_int min2_int max_two min_two max_three min_three max_four min_four   -- for this text's walks alone
set_option linter.unusedVariables false
set_option linter.unusedSimpArgs false

/-! ### span_two: function 41 -/
mutual
def span_two.j0 : Nat → Int → Int → Bool → Int → Int → Int → Int → Option (Int × Int × Int)
  | 0, _, _, _, _, _, _, _ => none
  | k + 1, x0, x9, x10, x465000, x465001, x466000, x466001 => if x10 = true then ((span_Has.f x466000 x466001 0).bind fun t467 => (if t467 = true then (some (0, 0, 12)) else (if x0 = 11 then ((span_corners_with56.f x465000 x465001 x466000 x466001).bind fun bt468 => (some (bt468.1, bt468.2, 0))) else (some (mn 0 (mx x465000 (wrap64 (-(wrap64 ((mx (wrap64 (-x466000)) x466001) - 1))))), mx 0 (mn x465001 (wrap64 ((mx (wrap64 (-x466000)) x466001) - 1))), 0))))) else (if x9 = 13 then (span_two.j1 k x0 x9 (x9 == 13) x465000 x465001 x466000 x466001) else (span_two.j1 k x0 x9 (x9 == 14) x465000 x465001 x466000 x466001))
def span_two.j1 : Nat → Int → Int → Bool → Int → Int → Int → Int → Option (Int × Int × Int)
  | 0, _, _, _, _, _, _, _ => none
  | k + 1, x0, x9, x40, x465000, x465001, x466000, x466001 => if x40 = true then (if x466000 < 0 then (span_two.j2 k x0 true x465000 x465001 x466000 x466001) else (span_two.j2 k x0 (decide (x466001 > 31)) x465000 x465001 x466000 x466001)) else (if x9 = 8 then (some (wrap64 (x465000 + x466000), wrap64 (x465001 + x466001), 0)) else (if x9 = 9 then (some (wrap64 (x465000 - x466001), wrap64 (x465001 - x466000), 0)) else (if x9 = 10 then ((span_corners_with59.f x465000 x465001 x466000 x466001).bind fun bt474 => (some (bt474.1, bt474.2, 0))) else (if x9 = 15 then ((span_both.f k x465000 x465001 x466000 x466001).bind fun bt476 => (some (bt476.1, bt476.2, 0))) else (if x9 = 16 then (span_two.j3 k x0 x9 (x9 == 16) x465000 x465001 x466000 x466001) else (span_two.j3 k x0 x9 (x9 == 17) x465000 x465001 x466000 x466001))))))
def span_two.j2 : Nat → Int → Bool → Int → Int → Int → Int → Option (Int × Int × Int)
  | 0, _, _, _, _, _, _ => none
  | k + 1, x0, x50, x465000, x465001, x466000, x466001 => if x50 = true then (some (0, 0, 13)) else (if x0 = 13 then ((span_corners_with57.f x465000 x465001 x466000 x466001).bind fun bt470 => (some (bt470.1, bt470.2, 0))) else ((span_corners_with58.f x465000 x465001 x466000 x466001).bind fun bt472 => (some (bt472.1, bt472.2, 0))))
def span_two.j3 : Nat → Int → Int → Bool → Int → Int → Int → Int → Option (Int × Int × Int)
  | 0, _, _, _, _, _, _, _ => none
  | k + 1, x0, x9, x96, x465000, x465001, x466000, x466001 => if x96 = true then ((span_either.f k x0 x465000 x465001 x466000 x466001).bind fun bt478 => (some (bt478.1, bt478.2, 0))) else (if x9 = 24 then (some (mn x465000 x466000, mn x465001 x466001, 0)) else (if x9 = 25 then (some (mx x465000 x466000, mx x465001 x466001, 0)) else ((span_compared.f k x0 x465000 x465001 x466000 x466001).bind fun bt480 => (some (bt480.1, bt480.2, 0)))))
end
def span_two.f (k : Nat) (a0 : Int) (a1_0 : Int) (a1_1 : Int) (a2_0 : Int) (a2_1 : Int) : Option (Int × Int × Int) := if a0 = 11 then (span_two.j0 k a0 a0 (a0 == 11) a1_0 a1_1 a2_0 a2_1) else (span_two.j0 k a0 a0 (a0 == 12) a1_0 a1_1 a2_0 a2_1)
theorem span_two.mono_l : ∀ k, (∀ y0 y1 y2 y3 y4 y5 y6, LeO (span_two.j0 k y0 y1 y2 y3 y4 y5 y6) (span_two.j0 (k + 1) y0 y1 y2 y3 y4 y5 y6)) ∧ (∀ y0 y1 y2 y3 y4 y5 y6, LeO (span_two.j1 k y0 y1 y2 y3 y4 y5 y6) (span_two.j1 (k + 1) y0 y1 y2 y3 y4 y5 y6)) ∧ (∀ y0 y1 y2 y3 y4 y5, LeO (span_two.j2 k y0 y1 y2 y3 y4 y5) (span_two.j2 (k + 1) y0 y1 y2 y3 y4 y5)) ∧ (∀ y0 y1 y2 y3 y4 y5 y6, LeO (span_two.j3 k y0 y1 y2 y3 y4 y5 y6) (span_two.j3 (k + 1) y0 y1 y2 y3 y4 y5 y6))
  | 0 => ⟨fun _ _ _ _ _ _ _ r h => by simp [span_two.j0] at h, fun _ _ _ _ _ _ _ r h => by simp [span_two.j1] at h, fun _ _ _ _ _ _ r h => by simp [span_two.j2] at h, fun _ _ _ _ _ _ _ r h => by simp [span_two.j3] at h⟩
  | k + 1 => by
    obtain ⟨ih0, ih1, ih2, ih3⟩ := span_two.mono_l k
    refine ⟨?_, ?_, ?_, ?_⟩
    · intro y0 y1 y2 y3 y4 y5 y6
      unfold span_two.j0
      repeat' first
      | (with_reducible exact ih0 _ _ _ _ _ _ _)
      | (with_reducible exact ih1 _ _ _ _ _ _ _)
      | (with_reducible exact ih2 _ _ _ _ _ _)
      | (with_reducible exact ih3 _ _ _ _ _ _ _)
      | (with_reducible exact span_both.mono _ _ _ _ _)
      | (with_reducible exact span_compared.mono _ _ _ _ _ _)
      | (with_reducible exact span_either.mono _ _ _ _ _ _)
      | (with_reducible exact LeO.refl _)
      | (with_reducible exact LeO.none _)
      | (with_reducible refine LeO.ite ?_ ?_)
      | (with_reducible refine LeO.bind ?_ (fun _ => ?_))
      | exact ih0 _ _ _ _ _ _ _
      | exact ih1 _ _ _ _ _ _ _
      | exact ih2 _ _ _ _ _ _
      | exact ih3 _ _ _ _ _ _ _
      | exact span_both.mono _ _ _ _ _
      | exact span_compared.mono _ _ _ _ _ _
      | exact span_either.mono _ _ _ _ _ _
      | exact LeO.none _
      | refine LeO.ite ?_ ?_
      | refine LeO.bind ?_ (fun _ => ?_)
    · intro y0 y1 y2 y3 y4 y5 y6
      unfold span_two.j1
      repeat' first
      | (with_reducible exact ih0 _ _ _ _ _ _ _)
      | (with_reducible exact ih1 _ _ _ _ _ _ _)
      | (with_reducible exact ih2 _ _ _ _ _ _)
      | (with_reducible exact ih3 _ _ _ _ _ _ _)
      | (with_reducible exact span_both.mono _ _ _ _ _)
      | (with_reducible exact span_compared.mono _ _ _ _ _ _)
      | (with_reducible exact span_either.mono _ _ _ _ _ _)
      | (with_reducible exact LeO.refl _)
      | (with_reducible exact LeO.none _)
      | (with_reducible refine LeO.ite ?_ ?_)
      | (with_reducible refine LeO.bind ?_ (fun _ => ?_))
      | exact ih0 _ _ _ _ _ _ _
      | exact ih1 _ _ _ _ _ _ _
      | exact ih2 _ _ _ _ _ _
      | exact ih3 _ _ _ _ _ _ _
      | exact span_both.mono _ _ _ _ _
      | exact span_compared.mono _ _ _ _ _ _
      | exact span_either.mono _ _ _ _ _ _
      | exact LeO.none _
      | refine LeO.ite ?_ ?_
      | refine LeO.bind ?_ (fun _ => ?_)
    · intro y0 y1 y2 y3 y4 y5
      unfold span_two.j2
      repeat' first
      | (with_reducible exact ih0 _ _ _ _ _ _ _)
      | (with_reducible exact ih1 _ _ _ _ _ _ _)
      | (with_reducible exact ih2 _ _ _ _ _ _)
      | (with_reducible exact ih3 _ _ _ _ _ _ _)
      | (with_reducible exact span_both.mono _ _ _ _ _)
      | (with_reducible exact span_compared.mono _ _ _ _ _ _)
      | (with_reducible exact span_either.mono _ _ _ _ _ _)
      | (with_reducible exact LeO.refl _)
      | (with_reducible exact LeO.none _)
      | (with_reducible refine LeO.ite ?_ ?_)
      | (with_reducible refine LeO.bind ?_ (fun _ => ?_))
      | exact ih0 _ _ _ _ _ _ _
      | exact ih1 _ _ _ _ _ _ _
      | exact ih2 _ _ _ _ _ _
      | exact ih3 _ _ _ _ _ _ _
      | exact span_both.mono _ _ _ _ _
      | exact span_compared.mono _ _ _ _ _ _
      | exact span_either.mono _ _ _ _ _ _
      | exact LeO.none _
      | refine LeO.ite ?_ ?_
      | refine LeO.bind ?_ (fun _ => ?_)
    · intro y0 y1 y2 y3 y4 y5 y6
      unfold span_two.j3
      repeat' first
      | (with_reducible exact ih0 _ _ _ _ _ _ _)
      | (with_reducible exact ih1 _ _ _ _ _ _ _)
      | (with_reducible exact ih2 _ _ _ _ _ _)
      | (with_reducible exact ih3 _ _ _ _ _ _ _)
      | (with_reducible exact span_both.mono _ _ _ _ _)
      | (with_reducible exact span_compared.mono _ _ _ _ _ _)
      | (with_reducible exact span_either.mono _ _ _ _ _ _)
      | (with_reducible exact LeO.refl _)
      | (with_reducible exact LeO.none _)
      | (with_reducible refine LeO.ite ?_ ?_)
      | (with_reducible refine LeO.bind ?_ (fun _ => ?_))
      | exact ih0 _ _ _ _ _ _ _
      | exact ih1 _ _ _ _ _ _ _
      | exact ih2 _ _ _ _ _ _
      | exact ih3 _ _ _ _ _ _ _
      | exact span_both.mono _ _ _ _ _
      | exact span_compared.mono _ _ _ _ _ _
      | exact span_either.mono _ _ _ _ _ _
      | exact LeO.none _
      | refine LeO.ite ?_ ?_
      | refine LeO.bind ?_ (fun _ => ?_)
theorem span_two.mono : ∀ a0 a1 a2 a3 a4 k, LeO (span_two.f k a0 a1 a2 a3 a4) (span_two.f (k + 1) a0 a1 a2 a3 a4) := by
  intro a0 a1 a2 a3 a4 k
  obtain ⟨ih0, ih1, ih2, ih3⟩ := span_two.mono_l k
  unfold span_two.f
  repeat' first
      | (with_reducible exact ih0 _ _ _ _ _ _ _)
      | (with_reducible exact ih1 _ _ _ _ _ _ _)
      | (with_reducible exact ih2 _ _ _ _ _ _)
      | (with_reducible exact ih3 _ _ _ _ _ _ _)
      | (with_reducible exact span_both.mono _ _ _ _ _)
      | (with_reducible exact span_compared.mono _ _ _ _ _ _)
      | (with_reducible exact span_either.mono _ _ _ _ _ _)
      | (with_reducible exact LeO.refl _)
      | (with_reducible exact LeO.none _)
      | (with_reducible refine LeO.ite ?_ ?_)
      | (with_reducible refine LeO.bind ?_ (fun _ => ?_))
      | exact ih0 _ _ _ _ _ _ _
      | exact ih1 _ _ _ _ _ _ _
      | exact ih2 _ _ _ _ _ _
      | exact ih3 _ _ _ _ _ _ _
      | exact span_both.mono _ _ _ _ _
      | exact span_compared.mono _ _ _ _ _ _
      | exact span_either.mono _ _ _ _ _ _
      | exact LeO.none _
      | refine LeO.ite ?_ ?_
      | refine LeO.bind ?_ (fun _ => ?_)
set_option maxHeartbeats 8000000 in
set_option maxRecDepth 100000 in
theorem span_two.calls (k : Nat) (a0 : Int) (a1_0 : Int) (a1_1 : Int) (a2_0 : Int) (a2_1 : Int) (r1 : Int) (r2 : Int) (r3 : Int) (w : World) (h : span_two.f k a0 a1_0 a1_1 a2_0 a2_1 = some (r1, r2, r3)) :
    Calls Try.prog 41 #[.int .i64 a0, .agg #[.int .i64 a1_0, .int .i64 a1_1], .agg #[.int .i64 a2_0, .int .i64 a2_1]] w fun e w' => e = .returned (.tuple #[.agg #[.int .i64 r1, .int .i64 r2], .int .i64 r3]) ∧ Below w.heap.size w w' := by
  have hu47 := Try.underlying47
  have HB := Aside0.mk (Below.refl w.heap.size w)
  have H : (if a0 = 11 then (span_two.j0 k a0 a0 (a0 == 11) a1_0 a1_1 a2_0 a2_1) else (span_two.j0 k a0 a0 (a0 == 12) a1_0 a1_1 a2_0 a2_1)) = some (r1, r2, r3) := h
  clear h
  have HC4 := Aside0.mk H
  clear H
  go_enter Try.func41, Try.ntmps41
  go_upto_if 10 with (first | ((with_reducible refine gate_dst (N := 4) rfl ?_); refine box_event ?hg (N := 4) ?hd (cs := #[.int .i64 a1_0, .int .i64 a1_1]) (t := 47) ?hr ?_; (case hd => rfl); (case hg => rfl); (case hr => first | (go_simp; done) | (go_simp; rfl)); intro gb464 hg w5 hbox hb; have n0_ := Aside0.mk (cT (by repeat (first | (with_reducible first | exact HB.out | apply cA | apply cN | apply cD) | exact HB.out)) hb); have n1_ := Aside0.mk (hbox); have n2_ := Aside0.mk ((by rw [hg]; exact (cZ (by repeat (first | (with_reducible first | exact HB.out | apply cA | apply cN | apply cD) | exact HB.out))) : w.heap.size ≤ gb464)); have n3_ := n2_; clear HB; have HB := n0_; have BK464 := n1_; have GW464 := n2_; have GE464 := n3_; clear n0_ n1_ n2_ n3_; clear hb hbox hg) | ((with_reducible refine gate_dst (N := 5) rfl ?_); refine box_event ?hg (N := 5) ?hd (cs := #[.int .i64 a2_0, .int .i64 a2_1]) (t := 47) ?hr ?_; (case hd => rfl); (case hg => rfl); (case hr => first | (go_simp; done) | (go_simp; rfl)); intro gb465 hg w6 hbox hb; have n0_ := Aside0.mk (bB (g := gb464) (o := .cells #[.int .i64 a1_0, .int .i64 a1_1] 47 (0, 0)) (by (with_reducible repeat (first | apply bN | apply bD | apply bA)); exact BK464.out) hb); have n1_ := Aside0.mk (cT (by repeat (first | (with_reducible first | exact HB.out | apply cA | apply cN | apply cD | refine cS ?_ GE464.out) | exact HB.out)) hb); have n2_ := Aside0.mk (hbox); have n3_ := Aside0.mk ((by rw [hg]; exact (cZ (by repeat (first | (with_reducible first | exact HB.out | apply cA | apply cN | apply cD | refine cS ?_ GE464.out) | exact HB.out))) : w.heap.size ≤ gb465)); have n4_ := n3_; have n5_ := Aside0.mk ((by rw [hg]; exact Nat.ne_of_lt (blk_lt (g := gb464) (o := .cells #[.int .i64 a1_0, .int .i64 a1_1] 47 (0, 0)) (by (with_reducible repeat (first | apply bN | apply bD | apply bA)); exact BK464.out)) : gb464 ≠ gb465)); have n6_ := Aside0.mk ((by rw [hg]; exact Nat.ne_of_gt (blk_lt (g := gb464) (o := .cells #[.int .i64 a1_0, .int .i64 a1_1] 47 (0, 0)) (by (with_reducible repeat (first | apply bN | apply bD | apply bA)); exact BK464.out)) : gb465 ≠ gb464)); clear BK464; clear HB; have BK464 := n0_; have HB := n1_; have BK465 := n2_; have GW465 := n3_; have GE465 := n4_; have NB464_465 := n5_; have NB465_464 := n6_; clear n0_ n1_ n2_ n3_ n4_ n5_ n6_; clear hb hbox hg) | ((with_reducible refine gate_dst (N := 6) rfl ?_); refine box_event ?hg (N := 6) ?hd (cs := #[.int .i64 0, .int .i64 0]) (t := 47) ?hr ?_; (case hd => rfl); (case hg => rfl); (case hr => first | (go_simp; done) | (go_simp; rfl)); intro gb466 hg w7 hbox hb; have n0_ := Aside0.mk (bB (g := gb464) (o := .cells #[.int .i64 a1_0, .int .i64 a1_1] 47 (0, 0)) (by (with_reducible repeat (first | apply bN | apply bD | apply bA)); exact BK464.out) hb); have n1_ := Aside0.mk (bB (g := gb465) (o := .cells #[.int .i64 a2_0, .int .i64 a2_1] 47 (0, 0)) (by (with_reducible repeat (first | apply bN | apply bD | apply bA)); exact BK465.out) hb); have n2_ := Aside0.mk (cT (by repeat (first | (with_reducible first | exact HB.out | apply cA | apply cN | apply cD | refine cS ?_ GE464.out | refine cS ?_ GE465.out) | exact HB.out)) hb); have n3_ := Aside0.mk (hbox); have n4_ := Aside0.mk ((by rw [hg]; exact (cZ (by repeat (first | (with_reducible first | exact HB.out | apply cA | apply cN | apply cD | refine cS ?_ GE464.out | refine cS ?_ GE465.out) | exact HB.out))) : w.heap.size ≤ gb466)); have n5_ := n4_; have n6_ := Aside0.mk ((by rw [hg]; exact Nat.ne_of_lt (blk_lt (g := gb464) (o := .cells #[.int .i64 a1_0, .int .i64 a1_1] 47 (0, 0)) (by (with_reducible repeat (first | apply bN | apply bD | apply bA)); exact BK464.out)) : gb464 ≠ gb466)); have n7_ := Aside0.mk ((by rw [hg]; exact Nat.ne_of_gt (blk_lt (g := gb464) (o := .cells #[.int .i64 a1_0, .int .i64 a1_1] 47 (0, 0)) (by (with_reducible repeat (first | apply bN | apply bD | apply bA)); exact BK464.out)) : gb466 ≠ gb464)); have n8_ := Aside0.mk ((by rw [hg]; exact Nat.ne_of_lt (blk_lt (g := gb465) (o := .cells #[.int .i64 a2_0, .int .i64 a2_1] 47 (0, 0)) (by (with_reducible repeat (first | apply bN | apply bD | apply bA)); exact BK465.out)) : gb465 ≠ gb466)); have n9_ := Aside0.mk ((by rw [hg]; exact Nat.ne_of_gt (blk_lt (g := gb465) (o := .cells #[.int .i64 a2_0, .int .i64 a2_1] 47 (0, 0)) (by (with_reducible repeat (first | apply bN | apply bD | apply bA)); exact BK465.out)) : gb466 ≠ gb465)); clear BK464; clear BK465; clear HB; have BK464 := n0_; have BK465 := n1_; have HB := n2_; have BK466 := n3_; have GW466 := n4_; have GE466 := n5_; have NB464_466 := n6_; have NB466_464 := n7_; have NB465_466 := n8_; have NB466_465 := n9_; clear n0_ n1_ n2_ n3_ n4_ n5_ n6_ n7_ n8_ n9_; clear hb hbox hg))
  (try simp only [Act.put, List.setIfInBounds_toArray, List.set_cons_zero, List.set_cons_succ])
  go_cut [10] (fun v10 wc => ∃ (kq : Nat) (x10_3 : Bool), v10 = .bool x10_3 ∧ Aside0 (span_two.j0 kq a0 a0 x10_3 a1_0 a1_1 a2_0 a2_1 = some (r1, r2, r3)) ∧ Aside0 (kq ≤ k) ∧ Aside0 (wc.heap[gb464]? = some (.cells #[.int .i64 a1_0, .int .i64 a1_1] 47 (0, 0))) ∧ Aside0 (wc.heap[gb465]? = some (.cells #[.int .i64 a2_0, .int .i64 a2_1] 47 (0, 0))) ∧ Aside0 (wc.heap[gb466]? = some (.cells #[.int .i64 0, .int .i64 0] 47 (0, 0))) ∧ Aside0 (Below w.heap.size w wc))
  case first =>
    have H := HC4.out
    clear HC4
    by_cases c8 : a0 = 11
    · rw [if_pos c8] at H
      have c8b0 : (a0 == 11) = true := beq_iff_eq.mpr c8
      have c8b1 : (a0 != 11) = false := bne_eq_false_iff_eq.mpr c8
      clear c8
      (first | rw [c8b0] | (simp only [i64_w, i32_w]; rw [c8b0]) | skip)
      have H' := Aside0.mk H
      clear H
      go_wp2
      go_meet
      case rel => exact ⟨_, ((a0 == 11)), (by first | rfl | (simp; done) | (simp [*]; done)), H', ⟨by first | omega | exact Nat.le_refl _⟩, ⟨by (with_reducible repeat (first | apply bN | apply bD | apply bA)); exact BK464.out⟩, ⟨by (with_reducible repeat (first | apply bN | apply bD | apply bA)); exact BK465.out⟩, ⟨by (with_reducible repeat (first | apply bN | apply bD | apply bA)); exact BK466.out⟩, ⟨by repeat (first | (with_reducible first | exact HB.out | apply cA | apply cN | apply cD | refine cS ?_ GE464.out | refine cS ?_ GE465.out | refine cS ?_ GE466.out) | exact HB.out)⟩⟩
    rw [if_neg c8] at H
    have c8b0 : (a0 == 11) = false := beq_eq_false_iff_ne.mpr c8
    have c8b1 : (a0 != 11) = true := bne_iff_ne.mpr c8
    (first | rw [c8b0] | (simp only [i64_w, i32_w]; rw [c8b0]) | skip)
    have H' := Aside0.mk H
    clear H
    go_wp2
    go_meet
    case rel => exact ⟨_, ((a0 == 12)), (by first | rfl | (simp; done) | (simp [*]; done)), H', ⟨by first | omega | exact Nat.le_refl _⟩, ⟨by (with_reducible repeat (first | apply bN | apply bD | apply bA)); exact BK464.out⟩, ⟨by (with_reducible repeat (first | apply bN | apply bD | apply bA)); exact BK465.out⟩, ⟨by (with_reducible repeat (first | apply bN | apply bD | apply bA)); exact BK466.out⟩, ⟨by repeat (first | (with_reducible first | exact HB.out | apply cA | apply cN | apply cD | refine cS ?_ GE464.out | refine cS ?_ GE465.out | refine cS ?_ GE466.out) | exact HB.out)⟩⟩
  case rest =>
    clear HC4
    try clear c8
    try clear c8b0
    try clear c8b1
    obtain ⟨kq, x10_3, rfl, HA, HJ3, BK464, BK465, BK466, HB⟩ := hcut
    cases kq with
    | zero => exact absurd HA.out (by simp [span_two.j0])
    | succ kj3 =>
      have H := HA.out
      clear HA
      simp only [span_two.j0] at H
      by_cases c9 : x10_3 = true
      · subst c9
        have H1 : ((span_Has.f a2_0 a2_1 0).bind fun t467 => (if t467 = true then (some (0, 0, 12)) else (if a0 = 11 then ((span_corners_with56.f a1_0 a1_1 a2_0 a2_1).bind fun bt468 => (some (bt468.1, bt468.2, 0))) else (some (mn 0 (mx a1_0 (wrap64 (-(wrap64 ((mx (wrap64 (-a2_0)) a2_1) - 1))))), mx 0 (mn a1_1 (wrap64 ((mx (wrap64 (-a2_0)) a2_1) - 1))), 0))))) = some (r1, r2, r3) := by rw [if_pos rfl] at H; exact H
        clear H
        have H := H1
        clear H1
        replace H := Option.bind_eq_some_iff.mp H
        obtain ⟨t467, A100, H⟩ := H
        replace H : (if t467 = true then (some (0, 0, 12)) else (if a0 = 11 then ((span_corners_with56.f a1_0 a1_1 a2_0 a2_1).bind fun bt468 => (some (bt468.1, bt468.2, 0))) else (some (mn 0 (mx a1_0 (wrap64 (-(wrap64 ((mx (wrap64 (-a2_0)) a2_1) - 1))))), mx 0 (mn a1_1 (wrap64 ((mx (wrap64 (-a2_0)) a2_1) - 1))), 0)))) = some (r1, r2, r3) := H
        have A10 := Aside0.mk A100
        clear A100
        by_cases c11 : t467 = true
        · subst c11
          have H1 : (some (0, 0, 12)) = some (r1, r2, r3) := by rw [if_pos rfl] at H; exact H
          clear H
          have H := H1
          clear H1
          simp only [Option.some.injEq, Prod.mk.injEq] at H
          obtain ⟨rfl, rfl, rfl⟩ := H
          have hnb12 := NB465_464.out
          have hnc12 := NB464_465.out
          have hnb13 := NB465_466.out
          have hnc13 := NB466_465.out
          have hcz14_0 : wc.cell? ⟨gb465, 0, none⟩ = some (.int .i64 a2_0) := (bC BK465.out 0).trans rfl
          have hcz14_1 : wc.cell? ⟨gb465, 1, none⟩ = some (.int .i64 a2_1) := (bC BK465.out 1).trans rfl
          have hfz14_0 := bZ BK465.out 0
          have hfz14_1 := bZ BK465.out 1
          go_wp2_with (first | ((with_reducible refine gate_callee (f := 32) rfl ?_); refine goesL_ (some 14) rfl rfl Try.func32 (by kernel_rfl) rfl #[.agg #[.int .i64 a2_0, .int .i64 a2_1], .int .i64 0] rfl (by (try simp only [List.map_toArray, List.map_cons, List.map_nil]); first | done | rfl | (simp only [List.length_drop, List.length_take]; rfl)) ?_; (with_reducible refine (span_Has.calls a2_0 a2_1 0 true _ A10.out).mono ?_); rintro e w15 ⟨rfl, hb⟩; refine ⟨_, rfl, ?_⟩; have n0_ := Aside0.mk (bB (g := gb464) (o := .cells #[.int .i64 a1_0, .int .i64 a1_1] 47 (0, 0)) (by (with_reducible repeat (first | apply bN | apply bD | apply bA)); exact BK464.out) hb); have n1_ := Aside0.mk (bB (g := gb465) (o := .cells #[.int .i64 a2_0, .int .i64 a2_1] 47 (0, 0)) (by (with_reducible repeat (first | apply bN | apply bD | apply bA)); exact BK465.out) hb); have n2_ := Aside0.mk (bB (g := gb466) (o := .cells #[.int .i64 0, .int .i64 0] 47 (0, 0)) (by (with_reducible repeat (first | apply bN | apply bD | apply bA)); exact BK466.out) hb); have n3_ := Aside0.mk (cT (by repeat (first | (with_reducible first | exact HB.out | apply cA | apply cN | apply cD | refine cS ?_ GE464.out | refine cS ?_ GE465.out | refine cS ?_ GE466.out) | exact HB.out)) hb); clear BK464; clear BK465; clear BK466; clear HB; have BK464 := n0_; have BK465 := n1_; have BK466 := n2_; have HB := n3_; clear n0_ n1_ n2_ n3_; (try clear hb); (try clear hb2); (try clear hk); (try clear hi); have hnb16 := NB466_464.out; have hnc16 := NB464_466.out; have hcz17_0 : w15.cell? ⟨gb466, 0, none⟩ = some (.int .i64 0) := (bC BK466.out 0).trans rfl; have hcz17_1 : w15.cell? ⟨gb466, 1, none⟩ = some (.int .i64 0) := (bC BK466.out 1).trans rfl; have hfz17_0 := bZ BK466.out 0; have hfz17_1 := bZ BK466.out 1))
          refine bodyPost_ret (results_ct rfl _ _ gb466 47 #[.int .i64 0, .int .i64 0] (0, 0) _ rfl (by (with_reducible repeat (first | apply bN | apply bD | apply bA)); refine bP (cs := #[.int .i64 0, .int .i64 0]) ?_ 1 _ rfl; (with_reducible repeat (first | apply bN | apply bD | apply bA)); refine bP (cs := #[.int .i64 0, .int .i64 0]) ?_ 0 _ rfl; (with_reducible repeat (first | apply bN | apply bD | apply bA)); exact BK466.out) Try.underlying47 rfl (by kernel_rfl)) rfl ?_
          exact ⟨by first | rfl | (simp [errW_none, errW_some] <;> rfl) | (simp [*, errW_none, errW_some] <;> rfl), by repeat (first | (with_reducible first | exact HB.out | apply cA | apply cN | apply cD | refine cS ?_ GE464.out | refine cS ?_ GE465.out | refine cS ?_ GE466.out) | exact HB.out)⟩
        replace c11 := Bool.eq_false_iff.mpr c11
        subst c11
        have H1 : (if a0 = 11 then ((span_corners_with56.f a1_0 a1_1 a2_0 a2_1).bind fun bt468 => (some (bt468.1, bt468.2, 0))) else (some (mn 0 (mx a1_0 (wrap64 (-(wrap64 ((mx (wrap64 (-a2_0)) a2_1) - 1))))), mx 0 (mn a1_1 (wrap64 ((mx (wrap64 (-a2_0)) a2_1) - 1))), 0))) = some (r1, r2, r3) := by rw [if_neg (show ¬ (false = true) by decide)] at H; exact H
        clear H
        have H := H1
        clear H1
        by_cases c18 : a0 = 11
        · rw [if_pos c18] at H
          have c18b0 : (a0 == 11) = true := beq_iff_eq.mpr c18
          have c18b1 : (a0 != 11) = false := bne_eq_false_iff_eq.mpr c18
          clear c18
          replace H := Option.bind_eq_some_iff.mp H
          obtain ⟨⟨t468, t469⟩, A190, H⟩ := H
          replace H : (some (t468, t469, 0)) = some (r1, r2, r3) := H
          have A19 := Aside0.mk A190
          clear A190
          simp only [Option.some.injEq, Prod.mk.injEq] at H
          obtain ⟨rfl, rfl, rfl⟩ := H
          have hnb20 := NB465_464.out
          have hnc20 := NB464_465.out
          have hnb21 := NB465_466.out
          have hnc21 := NB466_465.out
          have hcz22_0 : wc.cell? ⟨gb465, 0, none⟩ = some (.int .i64 a2_0) := (bC BK465.out 0).trans rfl
          have hcz22_1 : wc.cell? ⟨gb465, 1, none⟩ = some (.int .i64 a2_1) := (bC BK465.out 1).trans rfl
          have hfz22_0 := bZ BK465.out 0
          have hfz22_1 := bZ BK465.out 1
          go_wp2_with (first | ((with_reducible refine gate_callee (f := 32) rfl ?_); refine goesL_ (some 14) rfl rfl Try.func32 (by kernel_rfl) rfl #[.agg #[.int .i64 a2_0, .int .i64 a2_1], .int .i64 0] rfl (by (try simp only [List.map_toArray, List.map_cons, List.map_nil]); first | done | rfl | (simp only [List.length_drop, List.length_take]; rfl)) ?_; (with_reducible refine (span_Has.calls a2_0 a2_1 0 false _ A10.out).mono ?_); rintro e w23 ⟨rfl, hb⟩; refine ⟨_, rfl, ?_⟩; have n0_ := Aside0.mk (bB (g := gb464) (o := .cells #[.int .i64 a1_0, .int .i64 a1_1] 47 (0, 0)) (by (with_reducible repeat (first | apply bN | apply bD | apply bA)); exact BK464.out) hb); have n1_ := Aside0.mk (bB (g := gb465) (o := .cells #[.int .i64 a2_0, .int .i64 a2_1] 47 (0, 0)) (by (with_reducible repeat (first | apply bN | apply bD | apply bA)); exact BK465.out) hb); have n2_ := Aside0.mk (bB (g := gb466) (o := .cells #[.int .i64 0, .int .i64 0] 47 (0, 0)) (by (with_reducible repeat (first | apply bN | apply bD | apply bA)); exact BK466.out) hb); have n3_ := Aside0.mk (cT (by repeat (first | (with_reducible first | exact HB.out | apply cA | apply cN | apply cD | refine cS ?_ GE464.out | refine cS ?_ GE465.out | refine cS ?_ GE466.out) | exact HB.out)) hb); clear BK464; clear BK465; clear BK466; clear HB; have BK464 := n0_; have BK465 := n1_; have BK466 := n2_; have HB := n3_; clear n0_ n1_ n2_ n3_; (try clear hb); (try clear hb2); (try clear hk); (try clear hi); have hnb24 := NB464_466.out; have hnc24 := NB466_464.out; have hcz25_0 : w23.cell? ⟨gb464, 0, none⟩ = some (.int .i64 a1_0) := (bC BK464.out 0).trans rfl; have hcz25_1 : w23.cell? ⟨gb464, 1, none⟩ = some (.int .i64 a1_1) := (bC BK464.out 1).trans rfl; have hfz25_0 := bZ BK464.out 0; have hfz25_1 := bZ BK464.out 1; have hcz26_0 : w23.cell? ⟨gb465, 0, none⟩ = some (.int .i64 a2_0) := (bC BK465.out 0).trans rfl; have hcz26_1 : w23.cell? ⟨gb465, 1, none⟩ = some (.int .i64 a2_1) := (bC BK465.out 1).trans rfl; have hfz26_0 := bZ BK465.out 0; have hfz26_1 := bZ BK465.out 1) | ((with_reducible refine gate_callee (f := 54) rfl ?_); refine goesL_ (some 20) rfl rfl Try.func54 (by kernel_rfl) rfl #[.agg #[.int .i64 a1_0, .int .i64 a1_1], .agg #[.int .i64 a2_0, .int .i64 a2_1], .func (.func 56) #[] #[]] rfl (by (try simp only [List.map_toArray, List.map_cons, List.map_nil]); first | done | rfl | (simp only [List.length_drop, List.length_take]; rfl)) ?_; (with_reducible refine (span_corners_with56.calls a1_0 a1_1 a2_0 a2_1  t468 t469 _ A19.out).mono ?_); rintro e w27 ⟨rfl, hb⟩; refine ⟨_, rfl, ?_⟩; have n0_ := Aside0.mk (bB (g := gb464) (o := .cells #[.int .i64 a1_0, .int .i64 a1_1] 47 (0, 0)) (by (with_reducible repeat (first | apply bN | apply bD | apply bA)); exact BK464.out) hb); have n1_ := Aside0.mk (bB (g := gb465) (o := .cells #[.int .i64 a2_0, .int .i64 a2_1] 47 (0, 0)) (by (with_reducible repeat (first | apply bN | apply bD | apply bA)); exact BK465.out) hb); have n2_ := Aside0.mk (bB (g := gb466) (o := .cells #[.int .i64 0, .int .i64 0] 47 (0, 0)) (by (with_reducible repeat (first | apply bN | apply bD | apply bA)); exact BK466.out) hb); have n3_ := Aside0.mk (cT (by repeat (first | (with_reducible first | exact HB.out | apply cA | apply cN | apply cD | refine cS ?_ GE464.out | refine cS ?_ GE465.out | refine cS ?_ GE466.out) | exact HB.out)) hb); clear BK464; clear BK465; clear BK466; clear HB; have BK464 := n0_; have BK465 := n1_; have BK466 := n2_; have HB := n3_; clear n0_ n1_ n2_ n3_; (try clear hb); (try clear hb2); (try clear hk); (try clear hi); have hcz28_0 : w27.cell? ⟨gb466, 0, none⟩ = some (.int .i64 0) := (bC BK466.out 0).trans rfl; have hcz28_1 : w27.cell? ⟨gb466, 1, none⟩ = some (.int .i64 0) := (bC BK466.out 1).trans rfl; have hfz28_0 := bZ BK466.out 0; have hfz28_1 := bZ BK466.out 1))
          refine bodyPost_ret (results_ct rfl _ _ gb466 47 #[.int .i64 t468, .int .i64 t469] (0, 0) _ rfl (by (with_reducible repeat (first | apply bN | apply bD | apply bA)); refine bP (cs := #[.int .i64 t468, .int .i64 0]) ?_ 1 _ rfl; (with_reducible repeat (first | apply bN | apply bD | apply bA)); refine bP (cs := #[.int .i64 0, .int .i64 0]) ?_ 0 _ rfl; (with_reducible repeat (first | apply bN | apply bD | apply bA)); exact BK466.out) Try.underlying47 rfl (by kernel_rfl)) rfl ?_
          exact ⟨by first | rfl | (simp [errW_none, errW_some] <;> rfl) | (simp [*, errW_none, errW_some] <;> rfl), by repeat (first | (with_reducible first | exact HB.out | apply cA | apply cN | apply cD | refine cS ?_ GE464.out | refine cS ?_ GE465.out | refine cS ?_ GE466.out) | exact HB.out)⟩
        rw [if_neg c18] at H
        have c18b0 : (a0 == 11) = false := beq_eq_false_iff_ne.mpr c18
        have c18b1 : (a0 != 11) = true := bne_iff_ne.mpr c18
        obtain ⟨ji29, hji29⟩ : ∃ j_ : Int, (mx (wrap64 (-a2_0)) a2_1) = j_ := ⟨_, rfl⟩
        replace H : (some (mn 0 (mx a1_0 (wrap64 (-(wrap64 ((ji29) - 1))))), mx 0 (mn a1_1 (wrap64 ((ji29) - 1))), 0)) = some (r1, r2, r3) := by first | (rw [hji29] at H; exact H) | (simp only [hji29] at H ⊢; exact H)
        (try rw [hji29] at A10)
        have hji29_ : (if (wrap64 (-a2_0)) < a2_1 then a2_1 else (wrap64 (-a2_0))) = ji29 := hji29
        obtain ⟨ji30, hji30⟩ : ∃ j_ : Int, (mx a1_0 (wrap64 (-(wrap64 ((ji29) - 1))))) = j_ := ⟨_, rfl⟩
        replace H : (some (mn 0 (ji30), mx 0 (mn a1_1 (wrap64 ((ji29) - 1))), 0)) = some (r1, r2, r3) := by first | (rw [hji30] at H; exact H) | (simp only [hji30] at H ⊢; exact H)
        (try rw [hji30] at A10)
        have hji30_ : (if a1_0 < (wrap64 (-(wrap64 ((ji29) - 1)))) then (wrap64 (-(wrap64 ((ji29) - 1)))) else a1_0) = ji30 := hji30
        obtain ⟨ji31, hji31⟩ : ∃ j_ : Int, (mn 0 (ji30)) = j_ := ⟨_, rfl⟩
        replace H : (some (ji31, mx 0 (mn a1_1 (wrap64 ((ji29) - 1))), 0)) = some (r1, r2, r3) := by first | (rw [hji31] at H; exact H) | (simp only [hji31] at H ⊢; exact H)
        (try rw [hji31] at A10)
        have hji31_ : (if (ji30) < 0 then (ji30) else 0) = ji31 := hji31
        obtain ⟨ji32, hji32⟩ : ∃ j_ : Int, (mn a1_1 (wrap64 ((ji29) - 1))) = j_ := ⟨_, rfl⟩
        replace H : (some (ji31, mx 0 (ji32), 0)) = some (r1, r2, r3) := by first | (rw [hji32] at H; exact H) | (simp only [hji32] at H ⊢; exact H)
        (try rw [hji32] at A10)
        have hji32_ : (if (wrap64 ((ji29) - 1)) < a1_1 then (wrap64 ((ji29) - 1)) else a1_1) = ji32 := hji32
        obtain ⟨ji33, hji33⟩ : ∃ j_ : Int, (mx 0 (ji32)) = j_ := ⟨_, rfl⟩
        replace H : (some (ji31, ji33, 0)) = some (r1, r2, r3) := by first | (rw [hji33] at H; exact H) | (simp only [hji33] at H ⊢; exact H)
        (try rw [hji33] at A10)
        have hji33_ : (if 0 < (ji32) then (ji32) else 0) = ji33 := hji33
        simp only [Option.some.injEq, Prod.mk.injEq] at H
        obtain ⟨rfl, rfl, rfl⟩ := H
        have hnb34 := NB465_464.out
        have hnc34 := NB464_465.out
        have hnb35 := NB465_466.out
        have hnc35 := NB466_465.out
        have hcz36_0 : wc.cell? ⟨gb465, 0, none⟩ = some (.int .i64 a2_0) := (bC BK465.out 0).trans rfl
        have hcz36_1 : wc.cell? ⟨gb465, 1, none⟩ = some (.int .i64 a2_1) := (bC BK465.out 1).trans rfl
        have hfz36_0 := bZ BK465.out 0
        have hfz36_1 := bZ BK465.out 1
        go_wp2_with (first | ((with_reducible refine gate_callee (f := 32) rfl ?_); refine goesL_ (some 14) rfl rfl Try.func32 (by kernel_rfl) rfl #[.agg #[.int .i64 a2_0, .int .i64 a2_1], .int .i64 0] rfl (by (try simp only [List.map_toArray, List.map_cons, List.map_nil]); first | done | rfl | (simp only [List.length_drop, List.length_take]; rfl)) ?_; (with_reducible refine (span_Has.calls a2_0 a2_1 0 false _ A10.out).mono ?_); rintro e w37 ⟨rfl, hb⟩; refine ⟨_, rfl, ?_⟩; have n0_ := Aside0.mk (bB (g := gb464) (o := .cells #[.int .i64 a1_0, .int .i64 a1_1] 47 (0, 0)) (by (with_reducible repeat (first | apply bN | apply bD | apply bA)); exact BK464.out) hb); have n1_ := Aside0.mk (bB (g := gb465) (o := .cells #[.int .i64 a2_0, .int .i64 a2_1] 47 (0, 0)) (by (with_reducible repeat (first | apply bN | apply bD | apply bA)); exact BK465.out) hb); have n2_ := Aside0.mk (bB (g := gb466) (o := .cells #[.int .i64 0, .int .i64 0] 47 (0, 0)) (by (with_reducible repeat (first | apply bN | apply bD | apply bA)); exact BK466.out) hb); have n3_ := Aside0.mk (cT (by repeat (first | (with_reducible first | exact HB.out | apply cA | apply cN | apply cD | refine cS ?_ GE464.out | refine cS ?_ GE465.out | refine cS ?_ GE466.out) | exact HB.out)) hb); clear BK464; clear BK465; clear BK466; clear HB; have BK464 := n0_; have BK465 := n1_; have BK466 := n2_; have HB := n3_; clear n0_ n1_ n2_ n3_; (try clear hb); (try clear hb2); (try clear hk); (try clear hi); have hcz38_0 : w37.cell? ⟨gb465, 0, none⟩ = some (.int .i64 a2_0) := (bC BK465.out 0).trans rfl; have hcz38_1 : w37.cell? ⟨gb465, 1, none⟩ = some (.int .i64 a2_1) := (bC BK465.out 1).trans rfl; have hfz38_0 := bZ BK465.out 0; have hfz38_1 := bZ BK465.out 1; have hnb39 := NB464_466.out; have hnc39 := NB466_464.out; have hcz40_0 : w37.cell? ⟨gb464, 0, none⟩ = some (.int .i64 a1_0) := (bC BK464.out 0).trans rfl; have hcz40_1 : w37.cell? ⟨gb464, 1, none⟩ = some (.int .i64 a1_1) := (bC BK464.out 1).trans rfl; have hfz40_0 := bZ BK464.out 0; have hfz40_1 := bZ BK464.out 1; have hcz41_0 : w37.cell? ⟨gb466, 0, none⟩ = some (.int .i64 0) := (bC BK466.out 0).trans rfl; have hcz41_1 : w37.cell? ⟨gb466, 1, none⟩ = some (.int .i64 0) := (bC BK466.out 1).trans rfl; have hfz41_0 := bZ BK466.out 0; have hfz41_1 := bZ BK466.out 1))
        refine bodyPost_ret (results_ct rfl _ _ gb466 47 #[.int .i64 ji31, .int .i64 ji33] (0, 0) _ rfl (by (with_reducible repeat (first | apply bN | apply bD | apply bA)); refine bP (cs := #[.int .i64 ji31, .int .i64 0]) ?_ 1 _ rfl; (with_reducible repeat (first | apply bN | apply bD | apply bA)); refine bP (cs := #[.int .i64 0, .int .i64 0]) ?_ 0 _ rfl; (with_reducible repeat (first | apply bN | apply bD | apply bA)); exact BK466.out) Try.underlying47 rfl (by kernel_rfl)) rfl ?_
        exact ⟨by first | rfl | (simp [errW_none, errW_some] <;> rfl) | (simp only [← hji29, ← hji30, ← hji31, ← hji32, ← hji33]; first | rfl | (simp [errW_none, errW_some] <;> rfl)) | (simp [*, errW_none, errW_some] <;> rfl), by repeat (first | (with_reducible first | exact HB.out | apply cA | apply cN | apply cD | refine cS ?_ GE464.out | refine cS ?_ GE465.out | refine cS ?_ GE466.out) | exact HB.out)⟩
      replace c9 := Bool.eq_false_iff.mpr c9
      subst c9
      have H1 : (if a0 = 13 then (span_two.j1 kj3 a0 a0 (a0 == 13) a1_0 a1_1 a2_0 a2_1) else (span_two.j1 kj3 a0 a0 (a0 == 14) a1_0 a1_1 a2_0 a2_1)) = some (r1, r2, r3) := by rw [if_neg (show ¬ (false = true) by decide)] at H; exact H
      clear H
      have H := H1
      clear H1
      have HC42 := Aside0.mk H
      clear H
      go_upto_if 40 with (fail)
      go_cut [40] (fun v40 wc => ∃ (kq : Nat) (x40_41 : Bool), v40 = .bool x40_41 ∧ Aside0 (span_two.j1 kq a0 a0 x40_41 a1_0 a1_1 a2_0 a2_1 = some (r1, r2, r3)) ∧ Aside0 (kq ≤ kj3) ∧ Aside0 (wc.heap[gb464]? = some (.cells #[.int .i64 a1_0, .int .i64 a1_1] 47 (0, 0))) ∧ Aside0 (wc.heap[gb465]? = some (.cells #[.int .i64 a2_0, .int .i64 a2_1] 47 (0, 0))) ∧ Aside0 (wc.heap[gb466]? = some (.cells #[.int .i64 0, .int .i64 0] 47 (0, 0))) ∧ Aside0 (Below w.heap.size w wc))
      case first =>
        have H := HC42.out
        clear HC42
        by_cases c43 : a0 = 13
        · rw [if_pos c43] at H
          have c43b0 : (a0 == 13) = true := beq_iff_eq.mpr c43
          have c43b1 : (a0 != 13) = false := bne_eq_false_iff_eq.mpr c43
          clear c43
          (first | rw [c43b0] | (simp only [i64_w, i32_w]; rw [c43b0]) | skip)
          have H' := Aside0.mk H
          clear H
          go_wp2
          go_meet
          case rel => exact ⟨_, ((a0 == 13)), (by first | rfl | (simp; done) | (simp [*]; done)), H', ⟨by have := HJ3.out; first | omega | exact Nat.le_refl _⟩, ⟨by (with_reducible repeat (first | apply bN | apply bD | apply bA)); exact BK464.out⟩, ⟨by (with_reducible repeat (first | apply bN | apply bD | apply bA)); exact BK465.out⟩, ⟨by (with_reducible repeat (first | apply bN | apply bD | apply bA)); exact BK466.out⟩, ⟨by repeat (first | (with_reducible first | exact HB.out | apply cA | apply cN | apply cD | refine cS ?_ GE464.out | refine cS ?_ GE465.out | refine cS ?_ GE466.out) | exact HB.out)⟩⟩
        rw [if_neg c43] at H
        have c43b0 : (a0 == 13) = false := beq_eq_false_iff_ne.mpr c43
        have c43b1 : (a0 != 13) = true := bne_iff_ne.mpr c43
        (first | rw [c43b0] | (simp only [i64_w, i32_w]; rw [c43b0]) | skip)
        have H' := Aside0.mk H
        clear H
        go_wp2
        go_meet
        case rel => exact ⟨_, ((a0 == 14)), (by first | rfl | (simp; done) | (simp [*]; done)), H', ⟨by have := HJ3.out; first | omega | exact Nat.le_refl _⟩, ⟨by (with_reducible repeat (first | apply bN | apply bD | apply bA)); exact BK464.out⟩, ⟨by (with_reducible repeat (first | apply bN | apply bD | apply bA)); exact BK465.out⟩, ⟨by (with_reducible repeat (first | apply bN | apply bD | apply bA)); exact BK466.out⟩, ⟨by repeat (first | (with_reducible first | exact HB.out | apply cA | apply cN | apply cD | refine cS ?_ GE464.out | refine cS ?_ GE465.out | refine cS ?_ GE466.out) | exact HB.out)⟩⟩
      case rest =>
        clear HC42
        try clear c8
        try clear c8b0
        try clear c8b1
        try clear c9
        try clear c11
        try clear c18
        try clear c18b0
        try clear c18b1
        try clear c43
        try clear c43b0
        try clear c43b1
        try clear hcz14_0
        try clear hcz14_1
        try clear hcz17_0
        try clear hcz17_1
        try clear hcz22_0
        try clear hcz22_1
        try clear hcz25_0
        try clear hcz25_1
        try clear hcz26_0
        try clear hcz26_1
        try clear hcz28_0
        try clear hcz28_1
        try clear hcz36_0
        try clear hcz36_1
        try clear hcz38_0
        try clear hcz38_1
        try clear hcz40_0
        try clear hcz40_1
        try clear hcz41_0
        try clear hcz41_1
        try clear hfz14_0
        try clear hfz14_1
        try clear hfz17_0
        try clear hfz17_1
        try clear hfz22_0
        try clear hfz22_1
        try clear hfz25_0
        try clear hfz25_1
        try clear hfz26_0
        try clear hfz26_1
        try clear hfz28_0
        try clear hfz28_1
        try clear hfz36_0
        try clear hfz36_1
        try clear hfz38_0
        try clear hfz38_1
        try clear hfz40_0
        try clear hfz40_1
        try clear hfz41_0
        try clear hfz41_1
        obtain ⟨kq, x40_41, rfl, HA, HJ41, BK464, BK465, BK466, HB⟩ := hcut
        cases kq with
        | zero => exact absurd HA.out (by simp [span_two.j1])
        | succ kj41 =>
          have H := HA.out
          clear HA
          simp only [span_two.j1] at H
          by_cases c44 : x40_41 = true
          · subst c44
            have H1 : (if a2_0 < 0 then (span_two.j2 kj41 a0 true a1_0 a1_1 a2_0 a2_1) else (span_two.j2 kj41 a0 (decide (a2_1 > 31)) a1_0 a1_1 a2_0 a2_1)) = some (r1, r2, r3) := by rw [if_pos rfl] at H; exact H
            clear H
            have H := H1
            clear H1
            have HC45 := Aside0.mk H
            clear H
            go_upto_region 12 with (fail)
            go_cut [50] (fun v50 wc => ∃ (kq : Nat) (x50_44 : Bool), v50 = .bool x50_44 ∧ Aside0 (span_two.j2 kq a0 x50_44 a1_0 a1_1 a2_0 a2_1 = some (r1, r2, r3)) ∧ Aside0 (kq ≤ kj41) ∧ Aside0 (wc.heap[gb464]? = some (.cells #[.int .i64 a1_0, .int .i64 a1_1] 47 (0, 0))) ∧ Aside0 (wc.heap[gb465]? = some (.cells #[.int .i64 a2_0, .int .i64 a2_1] 47 (0, 0))) ∧ Aside0 (wc.heap[gb466]? = some (.cells #[.int .i64 0, .int .i64 0] 47 (0, 0))) ∧ Aside0 (Below w.heap.size w wc))
            case first =>
              have H := HC45.out
              clear HC45
              by_cases c46 : a2_0 < 0
              · rw [if_pos c46] at H
                have c46b0 : decide (a2_0 < 0) = true := decide_eq_true c46
                clear c46
                (first | rw [c46b0] | (simp only [i64_w, i32_w]; rw [c46b0]) | skip)
                have H' := Aside0.mk H
                clear H
                have hnb47 := NB465_464.out
                have hnc47 := NB464_465.out
                have hnb48 := NB465_466.out
                have hnc48 := NB466_465.out
                have hcz49_0 : wc.cell? ⟨gb465, 0, none⟩ = some (.int .i64 a2_0) := (bC BK465.out 0).trans rfl
                have hcz49_1 : wc.cell? ⟨gb465, 1, none⟩ = some (.int .i64 a2_1) := (bC BK465.out 1).trans rfl
                have hfz49_0 := bZ BK465.out 0
                have hfz49_1 := bZ BK465.out 1
                go_wp2
                go_meet
                case rel => exact ⟨_, (true), (by first | rfl | (simp; done) | (simp [*]; done)), H', ⟨by have := HJ3.out; have := HJ41.out; first | omega | exact Nat.le_refl _⟩, ⟨by (with_reducible repeat (first | apply bN | apply bD | apply bA)); exact BK464.out⟩, ⟨by (with_reducible repeat (first | apply bN | apply bD | apply bA)); exact BK465.out⟩, ⟨by (with_reducible repeat (first | apply bN | apply bD | apply bA)); exact BK466.out⟩, ⟨by repeat (first | (with_reducible first | exact HB.out | apply cA | apply cN | apply cD | refine cS ?_ GE464.out | refine cS ?_ GE465.out | refine cS ?_ GE466.out) | exact HB.out)⟩⟩
              rw [if_neg c46] at H
              have c46b0 : decide (a2_0 < 0) = false := decide_eq_false c46
              clear c46
              (first | rw [c46b0] | (simp only [i64_w, i32_w]; rw [c46b0]) | skip)
              have H' := Aside0.mk H
              clear H
              have hnb50 := NB465_464.out
              have hnc50 := NB464_465.out
              have hnb51 := NB465_466.out
              have hnc51 := NB466_465.out
              have hcz52_0 : wc.cell? ⟨gb465, 0, none⟩ = some (.int .i64 a2_0) := (bC BK465.out 0).trans rfl
              have hcz52_1 : wc.cell? ⟨gb465, 1, none⟩ = some (.int .i64 a2_1) := (bC BK465.out 1).trans rfl
              have hfz52_0 := bZ BK465.out 0
              have hfz52_1 := bZ BK465.out 1
              go_wp2
              go_meet
              case rel => exact ⟨_, (decide (a2_1 > 31)), (by first | rfl | (simp; done) | (simp [*]; done)), H', ⟨by have := HJ3.out; have := HJ41.out; first | omega | exact Nat.le_refl _⟩, ⟨by (with_reducible repeat (first | apply bN | apply bD | apply bA)); exact BK464.out⟩, ⟨by (with_reducible repeat (first | apply bN | apply bD | apply bA)); exact BK465.out⟩, ⟨by (with_reducible repeat (first | apply bN | apply bD | apply bA)); exact BK466.out⟩, ⟨by repeat (first | (with_reducible first | exact HB.out | apply cA | apply cN | apply cD | refine cS ?_ GE464.out | refine cS ?_ GE465.out | refine cS ?_ GE466.out) | exact HB.out)⟩⟩
            case rest =>
              clear HC45
              try clear c8
              try clear c8b0
              try clear c8b1
              try clear c9
              try clear c11
              try clear c18
              try clear c18b0
              try clear c18b1
              try clear c43
              try clear c43b0
              try clear c43b1
              try clear c44
              try clear c46
              try clear c46b0
              try clear hcz14_0
              try clear hcz14_1
              try clear hcz17_0
              try clear hcz17_1
              try clear hcz22_0
              try clear hcz22_1
              try clear hcz25_0
              try clear hcz25_1
              try clear hcz26_0
              try clear hcz26_1
              try clear hcz28_0
              try clear hcz28_1
              try clear hcz36_0
              try clear hcz36_1
              try clear hcz38_0
              try clear hcz38_1
              try clear hcz40_0
              try clear hcz40_1
              try clear hcz41_0
              try clear hcz41_1
              try clear hcz49_0
              try clear hcz49_1
              try clear hcz52_0
              try clear hcz52_1
              try clear hfz14_0
              try clear hfz14_1
              try clear hfz17_0
              try clear hfz17_1
              try clear hfz22_0
              try clear hfz22_1
              try clear hfz25_0
              try clear hfz25_1
              try clear hfz26_0
              try clear hfz26_1
              try clear hfz28_0
              try clear hfz28_1
              try clear hfz36_0
              try clear hfz36_1
              try clear hfz38_0
              try clear hfz38_1
              try clear hfz40_0
              try clear hfz40_1
              try clear hfz41_0
              try clear hfz41_1
              try clear hfz49_0
              try clear hfz49_1
              try clear hfz52_0
              try clear hfz52_1
              obtain ⟨kq, x50_44, rfl, HA, HJ44, BK464, BK465, BK466, HB⟩ := hcut
              cases kq with
              | zero => exact absurd HA.out (by simp [span_two.j2])
              | succ kj44 =>
                have H := HA.out
                clear HA
                simp only [span_two.j2] at H
                by_cases c53 : x50_44 = true
                · subst c53
                  have H1 : (some (0, 0, 13)) = some (r1, r2, r3) := by rw [if_pos rfl] at H; exact H
                  clear H
                  have H := H1
                  clear H1
                  simp only [Option.some.injEq, Prod.mk.injEq] at H
                  obtain ⟨rfl, rfl, rfl⟩ := H
                  have hnb54 := NB466_464.out
                  have hnc54 := NB464_466.out
                  have hnb55 := NB466_465.out
                  have hnc55 := NB465_466.out
                  have hcz56_0 : wc.cell? ⟨gb466, 0, none⟩ = some (.int .i64 0) := (bC BK466.out 0).trans rfl
                  have hcz56_1 : wc.cell? ⟨gb466, 1, none⟩ = some (.int .i64 0) := (bC BK466.out 1).trans rfl
                  have hfz56_0 := bZ BK466.out 0
                  have hfz56_1 := bZ BK466.out 1
                  go_wp2
                  refine bodyPost_ret (results_ct rfl _ _ gb466 47 #[.int .i64 0, .int .i64 0] (0, 0) _ rfl (by (with_reducible repeat (first | apply bN | apply bD | apply bA)); refine bP (cs := #[.int .i64 0, .int .i64 0]) ?_ 1 _ rfl; (with_reducible repeat (first | apply bN | apply bD | apply bA)); refine bP (cs := #[.int .i64 0, .int .i64 0]) ?_ 0 _ rfl; (with_reducible repeat (first | apply bN | apply bD | apply bA)); exact BK466.out) Try.underlying47 rfl (by kernel_rfl)) rfl ?_
                  exact ⟨by first | rfl | (simp [errW_none, errW_some] <;> rfl) | (simp [*, errW_none, errW_some] <;> rfl), by repeat (first | (with_reducible first | exact HB.out | apply cA | apply cN | apply cD | refine cS ?_ GE464.out | refine cS ?_ GE465.out | refine cS ?_ GE466.out) | exact HB.out)⟩
                replace c53 := Bool.eq_false_iff.mpr c53
                subst c53
                have H1 : (if a0 = 13 then ((span_corners_with57.f a1_0 a1_1 a2_0 a2_1).bind fun bt470 => (some (bt470.1, bt470.2, 0))) else ((span_corners_with58.f a1_0 a1_1 a2_0 a2_1).bind fun bt472 => (some (bt472.1, bt472.2, 0)))) = some (r1, r2, r3) := by rw [if_neg (show ¬ (false = true) by decide)] at H; exact H
                clear H
                have H := H1
                clear H1
                by_cases c57 : a0 = 13
                · rw [if_pos c57] at H
                  have c57b0 : (a0 == 13) = true := beq_iff_eq.mpr c57
                  have c57b1 : (a0 != 13) = false := bne_eq_false_iff_eq.mpr c57
                  clear c57
                  replace H := Option.bind_eq_some_iff.mp H
                  obtain ⟨⟨t470, t471⟩, A580, H⟩ := H
                  replace H : (some (t470, t471, 0)) = some (r1, r2, r3) := H
                  have A58 := Aside0.mk A580
                  clear A580
                  simp only [Option.some.injEq, Prod.mk.injEq] at H
                  obtain ⟨rfl, rfl, rfl⟩ := H
                  have hnb59 := NB464_465.out
                  have hnc59 := NB465_464.out
                  have hnb60 := NB464_466.out
                  have hnc60 := NB466_464.out
                  have hcz61_0 : wc.cell? ⟨gb464, 0, none⟩ = some (.int .i64 a1_0) := (bC BK464.out 0).trans rfl
                  have hcz61_1 : wc.cell? ⟨gb464, 1, none⟩ = some (.int .i64 a1_1) := (bC BK464.out 1).trans rfl
                  have hfz61_0 := bZ BK464.out 0
                  have hfz61_1 := bZ BK464.out 1
                  have hnb62 := NB465_466.out
                  have hnc62 := NB466_465.out
                  have hcz63_0 : wc.cell? ⟨gb465, 0, none⟩ = some (.int .i64 a2_0) := (bC BK465.out 0).trans rfl
                  have hcz63_1 : wc.cell? ⟨gb465, 1, none⟩ = some (.int .i64 a2_1) := (bC BK465.out 1).trans rfl
                  have hfz63_0 := bZ BK465.out 0
                  have hfz63_1 := bZ BK465.out 1
                  go_wp2_with (first | ((with_reducible refine gate_callee (f := 54) rfl ?_); refine goesL_ (some 56) rfl rfl Try.func54 (by kernel_rfl) rfl #[.agg #[.int .i64 a1_0, .int .i64 a1_1], .agg #[.int .i64 a2_0, .int .i64 a2_1], .func (.func 57) #[] #[]] rfl (by (try simp only [List.map_toArray, List.map_cons, List.map_nil]); first | done | rfl | (simp only [List.length_drop, List.length_take]; rfl)) ?_; (with_reducible refine (span_corners_with57.calls a1_0 a1_1 a2_0 a2_1  t470 t471 _ A58.out).mono ?_); rintro e w64 ⟨rfl, hb⟩; refine ⟨_, rfl, ?_⟩; have n0_ := Aside0.mk (bB (g := gb464) (o := .cells #[.int .i64 a1_0, .int .i64 a1_1] 47 (0, 0)) (by (with_reducible repeat (first | apply bN | apply bD | apply bA)); exact BK464.out) hb); have n1_ := Aside0.mk (bB (g := gb465) (o := .cells #[.int .i64 a2_0, .int .i64 a2_1] 47 (0, 0)) (by (with_reducible repeat (first | apply bN | apply bD | apply bA)); exact BK465.out) hb); have n2_ := Aside0.mk (bB (g := gb466) (o := .cells #[.int .i64 0, .int .i64 0] 47 (0, 0)) (by (with_reducible repeat (first | apply bN | apply bD | apply bA)); exact BK466.out) hb); have n3_ := Aside0.mk (cT (by repeat (first | (with_reducible first | exact HB.out | apply cA | apply cN | apply cD | refine cS ?_ GE464.out | refine cS ?_ GE465.out | refine cS ?_ GE466.out) | exact HB.out)) hb); clear BK464; clear BK465; clear BK466; clear HB; have BK464 := n0_; have BK465 := n1_; have BK466 := n2_; have HB := n3_; clear n0_ n1_ n2_ n3_; (try clear hb); (try clear hb2); (try clear hk); (try clear hi); have hcz65_0 : w64.cell? ⟨gb466, 0, none⟩ = some (.int .i64 0) := (bC BK466.out 0).trans rfl; have hcz65_1 : w64.cell? ⟨gb466, 1, none⟩ = some (.int .i64 0) := (bC BK466.out 1).trans rfl; have hfz65_0 := bZ BK466.out 0; have hfz65_1 := bZ BK466.out 1))
                  refine bodyPost_ret (results_ct rfl _ _ gb466 47 #[.int .i64 t470, .int .i64 t471] (0, 0) _ rfl (by (with_reducible repeat (first | apply bN | apply bD | apply bA)); refine bP (cs := #[.int .i64 t470, .int .i64 0]) ?_ 1 _ rfl; (with_reducible repeat (first | apply bN | apply bD | apply bA)); refine bP (cs := #[.int .i64 0, .int .i64 0]) ?_ 0 _ rfl; (with_reducible repeat (first | apply bN | apply bD | apply bA)); exact BK466.out) Try.underlying47 rfl (by kernel_rfl)) rfl ?_
                  exact ⟨by first | rfl | (simp [errW_none, errW_some] <;> rfl) | (simp [*, errW_none, errW_some] <;> rfl), by repeat (first | (with_reducible first | exact HB.out | apply cA | apply cN | apply cD | refine cS ?_ GE464.out | refine cS ?_ GE465.out | refine cS ?_ GE466.out) | exact HB.out)⟩
                rw [if_neg c57] at H
                have c57b0 : (a0 == 13) = false := beq_eq_false_iff_ne.mpr c57
                have c57b1 : (a0 != 13) = true := bne_iff_ne.mpr c57
                replace H := Option.bind_eq_some_iff.mp H
                obtain ⟨⟨t472, t473⟩, A660, H⟩ := H
                replace H : (some (t472, t473, 0)) = some (r1, r2, r3) := H
                have A66 := Aside0.mk A660
                clear A660
                simp only [Option.some.injEq, Prod.mk.injEq] at H
                obtain ⟨rfl, rfl, rfl⟩ := H
                have hnb67 := NB464_465.out
                have hnc67 := NB465_464.out
                have hnb68 := NB464_466.out
                have hnc68 := NB466_464.out
                have hcz69_0 : wc.cell? ⟨gb464, 0, none⟩ = some (.int .i64 a1_0) := (bC BK464.out 0).trans rfl
                have hcz69_1 : wc.cell? ⟨gb464, 1, none⟩ = some (.int .i64 a1_1) := (bC BK464.out 1).trans rfl
                have hfz69_0 := bZ BK464.out 0
                have hfz69_1 := bZ BK464.out 1
                have hnb70 := NB465_466.out
                have hnc70 := NB466_465.out
                have hcz71_0 : wc.cell? ⟨gb465, 0, none⟩ = some (.int .i64 a2_0) := (bC BK465.out 0).trans rfl
                have hcz71_1 : wc.cell? ⟨gb465, 1, none⟩ = some (.int .i64 a2_1) := (bC BK465.out 1).trans rfl
                have hfz71_0 := bZ BK465.out 0
                have hfz71_1 := bZ BK465.out 1
                go_wp2_with (first | ((with_reducible refine gate_callee (f := 54) rfl ?_); refine goesL_ (some 59) rfl rfl Try.func54 (by kernel_rfl) rfl #[.agg #[.int .i64 a1_0, .int .i64 a1_1], .agg #[.int .i64 a2_0, .int .i64 a2_1], .func (.func 58) #[] #[]] rfl (by (try simp only [List.map_toArray, List.map_cons, List.map_nil]); first | done | rfl | (simp only [List.length_drop, List.length_take]; rfl)) ?_; (with_reducible refine (span_corners_with58.calls a1_0 a1_1 a2_0 a2_1  t472 t473 _ A66.out).mono ?_); rintro e w72 ⟨rfl, hb⟩; refine ⟨_, rfl, ?_⟩; have n0_ := Aside0.mk (bB (g := gb464) (o := .cells #[.int .i64 a1_0, .int .i64 a1_1] 47 (0, 0)) (by (with_reducible repeat (first | apply bN | apply bD | apply bA)); exact BK464.out) hb); have n1_ := Aside0.mk (bB (g := gb465) (o := .cells #[.int .i64 a2_0, .int .i64 a2_1] 47 (0, 0)) (by (with_reducible repeat (first | apply bN | apply bD | apply bA)); exact BK465.out) hb); have n2_ := Aside0.mk (bB (g := gb466) (o := .cells #[.int .i64 0, .int .i64 0] 47 (0, 0)) (by (with_reducible repeat (first | apply bN | apply bD | apply bA)); exact BK466.out) hb); have n3_ := Aside0.mk (cT (by repeat (first | (with_reducible first | exact HB.out | apply cA | apply cN | apply cD | refine cS ?_ GE464.out | refine cS ?_ GE465.out | refine cS ?_ GE466.out) | exact HB.out)) hb); clear BK464; clear BK465; clear BK466; clear HB; have BK464 := n0_; have BK465 := n1_; have BK466 := n2_; have HB := n3_; clear n0_ n1_ n2_ n3_; (try clear hb); (try clear hb2); (try clear hk); (try clear hi); have hcz73_0 : w72.cell? ⟨gb466, 0, none⟩ = some (.int .i64 0) := (bC BK466.out 0).trans rfl; have hcz73_1 : w72.cell? ⟨gb466, 1, none⟩ = some (.int .i64 0) := (bC BK466.out 1).trans rfl; have hfz73_0 := bZ BK466.out 0; have hfz73_1 := bZ BK466.out 1))
                refine bodyPost_ret (results_ct rfl _ _ gb466 47 #[.int .i64 t472, .int .i64 t473] (0, 0) _ rfl (by (with_reducible repeat (first | apply bN | apply bD | apply bA)); refine bP (cs := #[.int .i64 t472, .int .i64 0]) ?_ 1 _ rfl; (with_reducible repeat (first | apply bN | apply bD | apply bA)); refine bP (cs := #[.int .i64 0, .int .i64 0]) ?_ 0 _ rfl; (with_reducible repeat (first | apply bN | apply bD | apply bA)); exact BK466.out) Try.underlying47 rfl (by kernel_rfl)) rfl ?_
                exact ⟨by first | rfl | (simp [errW_none, errW_some] <;> rfl) | (simp [*, errW_none, errW_some] <;> rfl), by repeat (first | (with_reducible first | exact HB.out | apply cA | apply cN | apply cD | refine cS ?_ GE464.out | refine cS ?_ GE465.out | refine cS ?_ GE466.out) | exact HB.out)⟩
          replace c44 := Bool.eq_false_iff.mpr c44
          subst c44
          have H1 : (if a0 = 8 then (some (wrap64 (a1_0 + a2_0), wrap64 (a1_1 + a2_1), 0)) else (if a0 = 9 then (some (wrap64 (a1_0 - a2_1), wrap64 (a1_1 - a2_0), 0)) else (if a0 = 10 then ((span_corners_with59.f a1_0 a1_1 a2_0 a2_1).bind fun bt474 => (some (bt474.1, bt474.2, 0))) else (if a0 = 15 then ((span_both.f kj41 a1_0 a1_1 a2_0 a2_1).bind fun bt476 => (some (bt476.1, bt476.2, 0))) else (if a0 = 16 then (span_two.j3 kj41 a0 a0 (a0 == 16) a1_0 a1_1 a2_0 a2_1) else (span_two.j3 kj41 a0 a0 (a0 == 17) a1_0 a1_1 a2_0 a2_1)))))) = some (r1, r2, r3) := by rw [if_neg (show ¬ (false = true) by decide)] at H; exact H
          clear H
          have H := H1
          clear H1
          by_cases c74 : a0 = 8
          · rw [if_pos c74] at H
            have c74b0 : (a0 == 8) = true := beq_iff_eq.mpr c74
            have c74b1 : (a0 != 8) = false := bne_eq_false_iff_eq.mpr c74
            clear c74
            simp only [Option.some.injEq, Prod.mk.injEq] at H
            obtain ⟨rfl, rfl, rfl⟩ := H
            have hnb75 := NB464_465.out
            have hnc75 := NB465_464.out
            have hnb76 := NB464_466.out
            have hnc76 := NB466_464.out
            have hcz77_0 : wc.cell? ⟨gb464, 0, none⟩ = some (.int .i64 a1_0) := (bC BK464.out 0).trans rfl
            have hcz77_1 : wc.cell? ⟨gb464, 1, none⟩ = some (.int .i64 a1_1) := (bC BK464.out 1).trans rfl
            have hfz77_0 := bZ BK464.out 0
            have hfz77_1 := bZ BK464.out 1
            have hnb78 := NB465_466.out
            have hnc78 := NB466_465.out
            have hcz79_0 : wc.cell? ⟨gb465, 0, none⟩ = some (.int .i64 a2_0) := (bC BK465.out 0).trans rfl
            have hcz79_1 : wc.cell? ⟨gb465, 1, none⟩ = some (.int .i64 a2_1) := (bC BK465.out 1).trans rfl
            have hfz79_0 := bZ BK465.out 0
            have hfz79_1 := bZ BK465.out 1
            have hcz80_0 : wc.cell? ⟨gb466, 0, none⟩ = some (.int .i64 0) := (bC BK466.out 0).trans rfl
            have hcz80_1 : wc.cell? ⟨gb466, 1, none⟩ = some (.int .i64 0) := (bC BK466.out 1).trans rfl
            have hfz80_0 := bZ BK466.out 0
            have hfz80_1 := bZ BK466.out 1
            go_wp2
            refine bodyPost_ret (results_ct rfl _ _ gb466 47 #[.int .i64 (wrap64 (a1_0 + a2_0)), .int .i64 (wrap64 (a1_1 + a2_1))] (0, 0) _ rfl (by (with_reducible repeat (first | apply bN | apply bD | apply bA)); refine bP (cs := #[.int .i64 (wrap64 (a1_0 + a2_0)), .int .i64 0]) ?_ 1 _ rfl; (with_reducible repeat (first | apply bN | apply bD | apply bA)); refine bP (cs := #[.int .i64 0, .int .i64 0]) ?_ 0 _ rfl; (with_reducible repeat (first | apply bN | apply bD | apply bA)); exact BK466.out) Try.underlying47 rfl (by kernel_rfl)) rfl ?_
            exact ⟨by first | rfl | (simp [errW_none, errW_some] <;> rfl) | (simp [*, errW_none, errW_some] <;> rfl), by repeat (first | (with_reducible first | exact HB.out | apply cA | apply cN | apply cD | refine cS ?_ GE464.out | refine cS ?_ GE465.out | refine cS ?_ GE466.out) | exact HB.out)⟩
          rw [if_neg c74] at H
          have c74b0 : (a0 == 8) = false := beq_eq_false_iff_ne.mpr c74
          have c74b1 : (a0 != 8) = true := bne_iff_ne.mpr c74
          by_cases c81 : a0 = 9
          · rw [if_pos c81] at H
            have c81b0 : (a0 == 9) = true := beq_iff_eq.mpr c81
            have c81b1 : (a0 != 9) = false := bne_eq_false_iff_eq.mpr c81
            clear c81
            simp only [Option.some.injEq, Prod.mk.injEq] at H
            obtain ⟨rfl, rfl, rfl⟩ := H
            have hnb82 := NB464_465.out
            have hnc82 := NB465_464.out
            have hnb83 := NB464_466.out
            have hnc83 := NB466_464.out
            have hcz84_0 : wc.cell? ⟨gb464, 0, none⟩ = some (.int .i64 a1_0) := (bC BK464.out 0).trans rfl
            have hcz84_1 : wc.cell? ⟨gb464, 1, none⟩ = some (.int .i64 a1_1) := (bC BK464.out 1).trans rfl
            have hfz84_0 := bZ BK464.out 0
            have hfz84_1 := bZ BK464.out 1
            have hnb85 := NB465_466.out
            have hnc85 := NB466_465.out
            have hcz86_0 : wc.cell? ⟨gb465, 0, none⟩ = some (.int .i64 a2_0) := (bC BK465.out 0).trans rfl
            have hcz86_1 : wc.cell? ⟨gb465, 1, none⟩ = some (.int .i64 a2_1) := (bC BK465.out 1).trans rfl
            have hfz86_0 := bZ BK465.out 0
            have hfz86_1 := bZ BK465.out 1
            have hcz87_0 : wc.cell? ⟨gb466, 0, none⟩ = some (.int .i64 0) := (bC BK466.out 0).trans rfl
            have hcz87_1 : wc.cell? ⟨gb466, 1, none⟩ = some (.int .i64 0) := (bC BK466.out 1).trans rfl
            have hfz87_0 := bZ BK466.out 0
            have hfz87_1 := bZ BK466.out 1
            go_wp2
            refine bodyPost_ret (results_ct rfl _ _ gb466 47 #[.int .i64 (wrap64 (a1_0 - a2_1)), .int .i64 (wrap64 (a1_1 - a2_0))] (0, 0) _ rfl (by (with_reducible repeat (first | apply bN | apply bD | apply bA)); refine bP (cs := #[.int .i64 (wrap64 (a1_0 - a2_1)), .int .i64 0]) ?_ 1 _ rfl; (with_reducible repeat (first | apply bN | apply bD | apply bA)); refine bP (cs := #[.int .i64 0, .int .i64 0]) ?_ 0 _ rfl; (with_reducible repeat (first | apply bN | apply bD | apply bA)); exact BK466.out) Try.underlying47 rfl (by kernel_rfl)) rfl ?_
            exact ⟨by first | rfl | (simp [errW_none, errW_some] <;> rfl) | (simp [*, errW_none, errW_some] <;> rfl), by repeat (first | (with_reducible first | exact HB.out | apply cA | apply cN | apply cD | refine cS ?_ GE464.out | refine cS ?_ GE465.out | refine cS ?_ GE466.out) | exact HB.out)⟩
          rw [if_neg c81] at H
          have c81b0 : (a0 == 9) = false := beq_eq_false_iff_ne.mpr c81
          have c81b1 : (a0 != 9) = true := bne_iff_ne.mpr c81
          by_cases c88 : a0 = 10
          · rw [if_pos c88] at H
            have c88b0 : (a0 == 10) = true := beq_iff_eq.mpr c88
            have c88b1 : (a0 != 10) = false := bne_eq_false_iff_eq.mpr c88
            clear c88
            replace H := Option.bind_eq_some_iff.mp H
            obtain ⟨⟨t474, t475⟩, A890, H⟩ := H
            replace H : (some (t474, t475, 0)) = some (r1, r2, r3) := H
            have A89 := Aside0.mk A890
            clear A890
            simp only [Option.some.injEq, Prod.mk.injEq] at H
            obtain ⟨rfl, rfl, rfl⟩ := H
            have hnb90 := NB464_465.out
            have hnc90 := NB465_464.out
            have hnb91 := NB464_466.out
            have hnc91 := NB466_464.out
            have hcz92_0 : wc.cell? ⟨gb464, 0, none⟩ = some (.int .i64 a1_0) := (bC BK464.out 0).trans rfl
            have hcz92_1 : wc.cell? ⟨gb464, 1, none⟩ = some (.int .i64 a1_1) := (bC BK464.out 1).trans rfl
            have hfz92_0 := bZ BK464.out 0
            have hfz92_1 := bZ BK464.out 1
            have hnb93 := NB465_466.out
            have hnc93 := NB466_465.out
            have hcz94_0 : wc.cell? ⟨gb465, 0, none⟩ = some (.int .i64 a2_0) := (bC BK465.out 0).trans rfl
            have hcz94_1 : wc.cell? ⟨gb465, 1, none⟩ = some (.int .i64 a2_1) := (bC BK465.out 1).trans rfl
            have hfz94_0 := bZ BK465.out 0
            have hfz94_1 := bZ BK465.out 1
            go_wp2_with (first | ((with_reducible refine gate_callee (f := 54) rfl ?_); refine goesL_ (some 90) rfl rfl Try.func54 (by kernel_rfl) rfl #[.agg #[.int .i64 a1_0, .int .i64 a1_1], .agg #[.int .i64 a2_0, .int .i64 a2_1], .func (.func 59) #[] #[]] rfl (by (try simp only [List.map_toArray, List.map_cons, List.map_nil]); first | done | rfl | (simp only [List.length_drop, List.length_take]; rfl)) ?_; (with_reducible refine (span_corners_with59.calls a1_0 a1_1 a2_0 a2_1  t474 t475 _ A89.out).mono ?_); rintro e w95 ⟨rfl, hb⟩; refine ⟨_, rfl, ?_⟩; have n0_ := Aside0.mk (bB (g := gb464) (o := .cells #[.int .i64 a1_0, .int .i64 a1_1] 47 (0, 0)) (by (with_reducible repeat (first | apply bN | apply bD | apply bA)); exact BK464.out) hb); have n1_ := Aside0.mk (bB (g := gb465) (o := .cells #[.int .i64 a2_0, .int .i64 a2_1] 47 (0, 0)) (by (with_reducible repeat (first | apply bN | apply bD | apply bA)); exact BK465.out) hb); have n2_ := Aside0.mk (bB (g := gb466) (o := .cells #[.int .i64 0, .int .i64 0] 47 (0, 0)) (by (with_reducible repeat (first | apply bN | apply bD | apply bA)); exact BK466.out) hb); have n3_ := Aside0.mk (cT (by repeat (first | (with_reducible first | exact HB.out | apply cA | apply cN | apply cD | refine cS ?_ GE464.out | refine cS ?_ GE465.out | refine cS ?_ GE466.out) | exact HB.out)) hb); clear BK464; clear BK465; clear BK466; clear HB; have BK464 := n0_; have BK465 := n1_; have BK466 := n2_; have HB := n3_; clear n0_ n1_ n2_ n3_; (try clear hb); (try clear hb2); (try clear hk); (try clear hi); have hcz96_0 : w95.cell? ⟨gb466, 0, none⟩ = some (.int .i64 0) := (bC BK466.out 0).trans rfl; have hcz96_1 : w95.cell? ⟨gb466, 1, none⟩ = some (.int .i64 0) := (bC BK466.out 1).trans rfl; have hfz96_0 := bZ BK466.out 0; have hfz96_1 := bZ BK466.out 1))
            refine bodyPost_ret (results_ct rfl _ _ gb466 47 #[.int .i64 t474, .int .i64 t475] (0, 0) _ rfl (by (with_reducible repeat (first | apply bN | apply bD | apply bA)); refine bP (cs := #[.int .i64 t474, .int .i64 0]) ?_ 1 _ rfl; (with_reducible repeat (first | apply bN | apply bD | apply bA)); refine bP (cs := #[.int .i64 0, .int .i64 0]) ?_ 0 _ rfl; (with_reducible repeat (first | apply bN | apply bD | apply bA)); exact BK466.out) Try.underlying47 rfl (by kernel_rfl)) rfl ?_
            exact ⟨by first | rfl | (simp [errW_none, errW_some] <;> rfl) | (simp [*, errW_none, errW_some] <;> rfl), by repeat (first | (with_reducible first | exact HB.out | apply cA | apply cN | apply cD | refine cS ?_ GE464.out | refine cS ?_ GE465.out | refine cS ?_ GE466.out) | exact HB.out)⟩
          rw [if_neg c88] at H
          have c88b0 : (a0 == 10) = false := beq_eq_false_iff_ne.mpr c88
          have c88b1 : (a0 != 10) = true := bne_iff_ne.mpr c88
          by_cases c97 : a0 = 15
          · rw [if_pos c97] at H
            have c97b0 : (a0 == 15) = true := beq_iff_eq.mpr c97
            have c97b1 : (a0 != 15) = false := bne_eq_false_iff_eq.mpr c97
            clear c97
            replace H := Option.bind_eq_some_iff.mp H
            obtain ⟨⟨t476, t477⟩, A980, H⟩ := H
            replace H : (some (t476, t477, 0)) = some (r1, r2, r3) := H
            have A98 := Aside0.mk A980
            clear A980
            simp only [Option.some.injEq, Prod.mk.injEq] at H
            obtain ⟨rfl, rfl, rfl⟩ := H
            have hnb99 := NB464_465.out
            have hnc99 := NB465_464.out
            have hnb100 := NB464_466.out
            have hnc100 := NB466_464.out
            have hcz101_0 : wc.cell? ⟨gb464, 0, none⟩ = some (.int .i64 a1_0) := (bC BK464.out 0).trans rfl
            have hcz101_1 : wc.cell? ⟨gb464, 1, none⟩ = some (.int .i64 a1_1) := (bC BK464.out 1).trans rfl
            have hfz101_0 := bZ BK464.out 0
            have hfz101_1 := bZ BK464.out 1
            have hnb102 := NB465_466.out
            have hnc102 := NB466_465.out
            have hcz103_0 : wc.cell? ⟨gb465, 0, none⟩ = some (.int .i64 a2_0) := (bC BK465.out 0).trans rfl
            have hcz103_1 : wc.cell? ⟨gb465, 1, none⟩ = some (.int .i64 a2_1) := (bC BK465.out 1).trans rfl
            have hfz103_0 := bZ BK465.out 0
            have hfz103_1 := bZ BK465.out 1
            go_wp2_with (first | ((with_reducible refine gate_callee (f := 53) rfl ?_); refine goesL_ (some 95) rfl rfl Try.func53 (by kernel_rfl) rfl #[.agg #[.int .i64 a1_0, .int .i64 a1_1], .agg #[.int .i64 a2_0, .int .i64 a2_1]] rfl (by (try simp only [List.map_toArray, List.map_cons, List.map_nil]); first | done | rfl | (simp only [List.length_drop, List.length_take]; rfl)) ?_; (with_reducible refine (span_both.calls kj41 a1_0 a1_1 a2_0 a2_1 t476 t477 _ A98.out).mono ?_); rintro e w104 ⟨rfl, hb⟩; refine ⟨_, rfl, ?_⟩; have n0_ := Aside0.mk (bB (g := gb464) (o := .cells #[.int .i64 a1_0, .int .i64 a1_1] 47 (0, 0)) (by (with_reducible repeat (first | apply bN | apply bD | apply bA)); exact BK464.out) hb); have n1_ := Aside0.mk (bB (g := gb465) (o := .cells #[.int .i64 a2_0, .int .i64 a2_1] 47 (0, 0)) (by (with_reducible repeat (first | apply bN | apply bD | apply bA)); exact BK465.out) hb); have n2_ := Aside0.mk (bB (g := gb466) (o := .cells #[.int .i64 0, .int .i64 0] 47 (0, 0)) (by (with_reducible repeat (first | apply bN | apply bD | apply bA)); exact BK466.out) hb); have n3_ := Aside0.mk (cT (by repeat (first | (with_reducible first | exact HB.out | apply cA | apply cN | apply cD | refine cS ?_ GE464.out | refine cS ?_ GE465.out | refine cS ?_ GE466.out) | exact HB.out)) hb); clear BK464; clear BK465; clear BK466; clear HB; have BK464 := n0_; have BK465 := n1_; have BK466 := n2_; have HB := n3_; clear n0_ n1_ n2_ n3_; (try clear hb); (try clear hb2); (try clear hk); (try clear hi); have hcz105_0 : w104.cell? ⟨gb466, 0, none⟩ = some (.int .i64 0) := (bC BK466.out 0).trans rfl; have hcz105_1 : w104.cell? ⟨gb466, 1, none⟩ = some (.int .i64 0) := (bC BK466.out 1).trans rfl; have hfz105_0 := bZ BK466.out 0; have hfz105_1 := bZ BK466.out 1))
            refine bodyPost_ret (results_ct rfl _ _ gb466 47 #[.int .i64 t476, .int .i64 t477] (0, 0) _ rfl (by (with_reducible repeat (first | apply bN | apply bD | apply bA)); refine bP (cs := #[.int .i64 t476, .int .i64 0]) ?_ 1 _ rfl; (with_reducible repeat (first | apply bN | apply bD | apply bA)); refine bP (cs := #[.int .i64 0, .int .i64 0]) ?_ 0 _ rfl; (with_reducible repeat (first | apply bN | apply bD | apply bA)); exact BK466.out) Try.underlying47 rfl (by kernel_rfl)) rfl ?_
            exact ⟨by first | rfl | (simp [errW_none, errW_some] <;> rfl) | (simp [*, errW_none, errW_some] <;> rfl), by repeat (first | (with_reducible first | exact HB.out | apply cA | apply cN | apply cD | refine cS ?_ GE464.out | refine cS ?_ GE465.out | refine cS ?_ GE466.out) | exact HB.out)⟩
          rw [if_neg c97] at H
          have c97b0 : (a0 == 15) = false := beq_eq_false_iff_ne.mpr c97
          have c97b1 : (a0 != 15) = true := bne_iff_ne.mpr c97
          have HC106 := Aside0.mk H
          clear H
          go_upto_if 96 with (fail)
          go_cut [96] (fun v96 wc => ∃ (kq : Nat) (x96_105 : Bool), v96 = .bool x96_105 ∧ Aside0 (span_two.j3 kq a0 a0 x96_105 a1_0 a1_1 a2_0 a2_1 = some (r1, r2, r3)) ∧ Aside0 (kq ≤ kj41) ∧ Aside0 (wc.heap[gb464]? = some (.cells #[.int .i64 a1_0, .int .i64 a1_1] 47 (0, 0))) ∧ Aside0 (wc.heap[gb465]? = some (.cells #[.int .i64 a2_0, .int .i64 a2_1] 47 (0, 0))) ∧ Aside0 (wc.heap[gb466]? = some (.cells #[.int .i64 0, .int .i64 0] 47 (0, 0))) ∧ Aside0 (Below w.heap.size w wc))
          case first =>
            have H := HC106.out
            clear HC106
            by_cases c107 : a0 = 16
            · rw [if_pos c107] at H
              have c107b0 : (a0 == 16) = true := beq_iff_eq.mpr c107
              have c107b1 : (a0 != 16) = false := bne_eq_false_iff_eq.mpr c107
              clear c107
              (first | rw [c107b0] | (simp only [i64_w, i32_w]; rw [c107b0]) | skip)
              have H' := Aside0.mk H
              clear H
              go_wp2
              go_meet
              case rel => exact ⟨_, ((a0 == 16)), (by first | rfl | (simp; done) | (simp [*]; done)), H', ⟨by have := HJ3.out; have := HJ41.out; first | omega | exact Nat.le_refl _⟩, ⟨by (with_reducible repeat (first | apply bN | apply bD | apply bA)); exact BK464.out⟩, ⟨by (with_reducible repeat (first | apply bN | apply bD | apply bA)); exact BK465.out⟩, ⟨by (with_reducible repeat (first | apply bN | apply bD | apply bA)); exact BK466.out⟩, ⟨by repeat (first | (with_reducible first | exact HB.out | apply cA | apply cN | apply cD | refine cS ?_ GE464.out | refine cS ?_ GE465.out | refine cS ?_ GE466.out) | exact HB.out)⟩⟩
            rw [if_neg c107] at H
            have c107b0 : (a0 == 16) = false := beq_eq_false_iff_ne.mpr c107
            have c107b1 : (a0 != 16) = true := bne_iff_ne.mpr c107
            (first | rw [c107b0] | (simp only [i64_w, i32_w]; rw [c107b0]) | skip)
            have H' := Aside0.mk H
            clear H
            go_wp2
            go_meet
            case rel => exact ⟨_, ((a0 == 17)), (by first | rfl | (simp; done) | (simp [*]; done)), H', ⟨by have := HJ3.out; have := HJ41.out; first | omega | exact Nat.le_refl _⟩, ⟨by (with_reducible repeat (first | apply bN | apply bD | apply bA)); exact BK464.out⟩, ⟨by (with_reducible repeat (first | apply bN | apply bD | apply bA)); exact BK465.out⟩, ⟨by (with_reducible repeat (first | apply bN | apply bD | apply bA)); exact BK466.out⟩, ⟨by repeat (first | (with_reducible first | exact HB.out | apply cA | apply cN | apply cD | refine cS ?_ GE464.out | refine cS ?_ GE465.out | refine cS ?_ GE466.out) | exact HB.out)⟩⟩
          case rest =>
            clear HC106
            try clear c8
            try clear c8b0
            try clear c8b1
            try clear c9
            try clear c11
            try clear c18
            try clear c18b0
            try clear c18b1
            try clear c43
            try clear c43b0
            try clear c43b1
            try clear c44
            try clear c46
            try clear c46b0
            try clear c53
            try clear c57
            try clear c57b0
            try clear c57b1
            try clear c74
            try clear c74b0
            try clear c74b1
            try clear c81
            try clear c81b0
            try clear c81b1
            try clear c88
            try clear c88b0
            try clear c88b1
            try clear c97
            try clear c97b0
            try clear c97b1
            try clear c107
            try clear c107b0
            try clear c107b1
            try clear hcz101_0
            try clear hcz101_1
            try clear hcz103_0
            try clear hcz103_1
            try clear hcz105_0
            try clear hcz105_1
            try clear hcz14_0
            try clear hcz14_1
            try clear hcz17_0
            try clear hcz17_1
            try clear hcz22_0
            try clear hcz22_1
            try clear hcz25_0
            try clear hcz25_1
            try clear hcz26_0
            try clear hcz26_1
            try clear hcz28_0
            try clear hcz28_1
            try clear hcz36_0
            try clear hcz36_1
            try clear hcz38_0
            try clear hcz38_1
            try clear hcz40_0
            try clear hcz40_1
            try clear hcz41_0
            try clear hcz41_1
            try clear hcz49_0
            try clear hcz49_1
            try clear hcz52_0
            try clear hcz52_1
            try clear hcz56_0
            try clear hcz56_1
            try clear hcz61_0
            try clear hcz61_1
            try clear hcz63_0
            try clear hcz63_1
            try clear hcz65_0
            try clear hcz65_1
            try clear hcz69_0
            try clear hcz69_1
            try clear hcz71_0
            try clear hcz71_1
            try clear hcz73_0
            try clear hcz73_1
            try clear hcz77_0
            try clear hcz77_1
            try clear hcz79_0
            try clear hcz79_1
            try clear hcz80_0
            try clear hcz80_1
            try clear hcz84_0
            try clear hcz84_1
            try clear hcz86_0
            try clear hcz86_1
            try clear hcz87_0
            try clear hcz87_1
            try clear hcz92_0
            try clear hcz92_1
            try clear hcz94_0
            try clear hcz94_1
            try clear hcz96_0
            try clear hcz96_1
            try clear hfz101_0
            try clear hfz101_1
            try clear hfz103_0
            try clear hfz103_1
            try clear hfz105_0
            try clear hfz105_1
            try clear hfz14_0
            try clear hfz14_1
            try clear hfz17_0
            try clear hfz17_1
            try clear hfz22_0
            try clear hfz22_1
            try clear hfz25_0
            try clear hfz25_1
            try clear hfz26_0
            try clear hfz26_1
            try clear hfz28_0
            try clear hfz28_1
            try clear hfz36_0
            try clear hfz36_1
            try clear hfz38_0
            try clear hfz38_1
            try clear hfz40_0
            try clear hfz40_1
            try clear hfz41_0
            try clear hfz41_1
            try clear hfz49_0
            try clear hfz49_1
            try clear hfz52_0
            try clear hfz52_1
            try clear hfz56_0
            try clear hfz56_1
            try clear hfz61_0
            try clear hfz61_1
            try clear hfz63_0
            try clear hfz63_1
            try clear hfz65_0
            try clear hfz65_1
            try clear hfz69_0
            try clear hfz69_1
            try clear hfz71_0
            try clear hfz71_1
            try clear hfz73_0
            try clear hfz73_1
            try clear hfz77_0
            try clear hfz77_1
            try clear hfz79_0
            try clear hfz79_1
            try clear hfz80_0
            try clear hfz80_1
            try clear hfz84_0
            try clear hfz84_1
            try clear hfz86_0
            try clear hfz86_1
            try clear hfz87_0
            try clear hfz87_1
            try clear hfz92_0
            try clear hfz92_1
            try clear hfz94_0
            try clear hfz94_1
            try clear hfz96_0
            try clear hfz96_1
            obtain ⟨kq, x96_105, rfl, HA, HJ105, BK464, BK465, BK466, HB⟩ := hcut
            cases kq with
            | zero => exact absurd HA.out (by simp [span_two.j3])
            | succ kj105 =>
              have H := HA.out
              clear HA
              simp only [span_two.j3] at H
              by_cases c108 : x96_105 = true
              · subst c108
                have H1 : ((span_either.f kj105 a0 a1_0 a1_1 a2_0 a2_1).bind fun bt478 => (some (bt478.1, bt478.2, 0))) = some (r1, r2, r3) := by rw [if_pos rfl] at H; exact H
                clear H
                have H := H1
                clear H1
                replace H := Option.bind_eq_some_iff.mp H
                obtain ⟨⟨t478, t479⟩, A1090, H⟩ := H
                replace H : (some (t478, t479, 0)) = some (r1, r2, r3) := H
                have A109 := Aside0.mk A1090
                clear A1090
                simp only [Option.some.injEq, Prod.mk.injEq] at H
                obtain ⟨rfl, rfl, rfl⟩ := H
                have hnb110 := NB464_465.out
                have hnc110 := NB465_464.out
                have hnb111 := NB464_466.out
                have hnc111 := NB466_464.out
                have hcz112_0 : wc.cell? ⟨gb464, 0, none⟩ = some (.int .i64 a1_0) := (bC BK464.out 0).trans rfl
                have hcz112_1 : wc.cell? ⟨gb464, 1, none⟩ = some (.int .i64 a1_1) := (bC BK464.out 1).trans rfl
                have hfz112_0 := bZ BK464.out 0
                have hfz112_1 := bZ BK464.out 1
                have hnb113 := NB465_466.out
                have hnc113 := NB466_465.out
                have hcz114_0 : wc.cell? ⟨gb465, 0, none⟩ = some (.int .i64 a2_0) := (bC BK465.out 0).trans rfl
                have hcz114_1 : wc.cell? ⟨gb465, 1, none⟩ = some (.int .i64 a2_1) := (bC BK465.out 1).trans rfl
                have hfz114_0 := bZ BK465.out 0
                have hfz114_1 := bZ BK465.out 1
                go_wp2_with (first | ((with_reducible refine gate_callee (f := 60) rfl ?_); refine goesL_ (some 102) rfl rfl Try.func60 (by kernel_rfl) rfl #[.int .i64 a0, .agg #[.int .i64 a1_0, .int .i64 a1_1], .agg #[.int .i64 a2_0, .int .i64 a2_1]] rfl (by (try simp only [List.map_toArray, List.map_cons, List.map_nil]); first | done | rfl | (simp only [List.length_drop, List.length_take]; rfl)) ?_; (with_reducible refine (span_either.calls kj105 a0 a1_0 a1_1 a2_0 a2_1 t478 t479 _ A109.out).mono ?_); rintro e w115 ⟨rfl, hb⟩; refine ⟨_, rfl, ?_⟩; have n0_ := Aside0.mk (bB (g := gb464) (o := .cells #[.int .i64 a1_0, .int .i64 a1_1] 47 (0, 0)) (by (with_reducible repeat (first | apply bN | apply bD | apply bA)); exact BK464.out) hb); have n1_ := Aside0.mk (bB (g := gb465) (o := .cells #[.int .i64 a2_0, .int .i64 a2_1] 47 (0, 0)) (by (with_reducible repeat (first | apply bN | apply bD | apply bA)); exact BK465.out) hb); have n2_ := Aside0.mk (bB (g := gb466) (o := .cells #[.int .i64 0, .int .i64 0] 47 (0, 0)) (by (with_reducible repeat (first | apply bN | apply bD | apply bA)); exact BK466.out) hb); have n3_ := Aside0.mk (cT (by repeat (first | (with_reducible first | exact HB.out | apply cA | apply cN | apply cD | refine cS ?_ GE464.out | refine cS ?_ GE465.out | refine cS ?_ GE466.out) | exact HB.out)) hb); clear BK464; clear BK465; clear BK466; clear HB; have BK464 := n0_; have BK465 := n1_; have BK466 := n2_; have HB := n3_; clear n0_ n1_ n2_ n3_; (try clear hb); (try clear hb2); (try clear hk); (try clear hi); have hcz116_0 : w115.cell? ⟨gb466, 0, none⟩ = some (.int .i64 0) := (bC BK466.out 0).trans rfl; have hcz116_1 : w115.cell? ⟨gb466, 1, none⟩ = some (.int .i64 0) := (bC BK466.out 1).trans rfl; have hfz116_0 := bZ BK466.out 0; have hfz116_1 := bZ BK466.out 1))
                refine bodyPost_ret (results_ct rfl _ _ gb466 47 #[.int .i64 t478, .int .i64 t479] (0, 0) _ rfl (by (with_reducible repeat (first | apply bN | apply bD | apply bA)); refine bP (cs := #[.int .i64 t478, .int .i64 0]) ?_ 1 _ rfl; (with_reducible repeat (first | apply bN | apply bD | apply bA)); refine bP (cs := #[.int .i64 0, .int .i64 0]) ?_ 0 _ rfl; (with_reducible repeat (first | apply bN | apply bD | apply bA)); exact BK466.out) Try.underlying47 rfl (by kernel_rfl)) rfl ?_
                exact ⟨by first | rfl | (simp [errW_none, errW_some] <;> rfl) | (simp [*, errW_none, errW_some] <;> rfl), by repeat (first | (with_reducible first | exact HB.out | apply cA | apply cN | apply cD | refine cS ?_ GE464.out | refine cS ?_ GE465.out | refine cS ?_ GE466.out) | exact HB.out)⟩
              replace c108 := Bool.eq_false_iff.mpr c108
              subst c108
              have H1 : (if a0 = 24 then (some (mn a1_0 a2_0, mn a1_1 a2_1, 0)) else (if a0 = 25 then (some (mx a1_0 a2_0, mx a1_1 a2_1, 0)) else ((span_compared.f kj105 a0 a1_0 a1_1 a2_0 a2_1).bind fun bt480 => (some (bt480.1, bt480.2, 0))))) = some (r1, r2, r3) := by rw [if_neg (show ¬ (false = true) by decide)] at H; exact H
              clear H
              have H := H1
              clear H1
              by_cases c117 : a0 = 24
              · rw [if_pos c117] at H
                have c117b0 : (a0 == 24) = true := beq_iff_eq.mpr c117
                have c117b1 : (a0 != 24) = false := bne_eq_false_iff_eq.mpr c117
                clear c117
                obtain ⟨ji118, hji118⟩ : ∃ j_ : Int, (mn a1_0 a2_0) = j_ := ⟨_, rfl⟩
                replace H : (some (ji118, mn a1_1 a2_1, 0)) = some (r1, r2, r3) := by first | (rw [hji118] at H; exact H) | (simp only [hji118] at H ⊢; exact H)
                have hji118_ : (if a2_0 < a1_0 then a2_0 else a1_0) = ji118 := hji118
                obtain ⟨ji119, hji119⟩ : ∃ j_ : Int, (mn a1_1 a2_1) = j_ := ⟨_, rfl⟩
                replace H : (some (ji118, ji119, 0)) = some (r1, r2, r3) := by first | (rw [hji119] at H; exact H) | (simp only [hji119] at H ⊢; exact H)
                have hji119_ : (if a2_1 < a1_1 then a2_1 else a1_1) = ji119 := hji119
                simp only [Option.some.injEq, Prod.mk.injEq] at H
                obtain ⟨rfl, rfl, rfl⟩ := H
                have hnb120 := NB464_465.out
                have hnc120 := NB465_464.out
                have hnb121 := NB464_466.out
                have hnc121 := NB466_464.out
                have hcz122_0 : wc.cell? ⟨gb464, 0, none⟩ = some (.int .i64 a1_0) := (bC BK464.out 0).trans rfl
                have hcz122_1 : wc.cell? ⟨gb464, 1, none⟩ = some (.int .i64 a1_1) := (bC BK464.out 1).trans rfl
                have hfz122_0 := bZ BK464.out 0
                have hfz122_1 := bZ BK464.out 1
                have hnb123 := NB465_466.out
                have hnc123 := NB466_465.out
                have hcz124_0 : wc.cell? ⟨gb465, 0, none⟩ = some (.int .i64 a2_0) := (bC BK465.out 0).trans rfl
                have hcz124_1 : wc.cell? ⟨gb465, 1, none⟩ = some (.int .i64 a2_1) := (bC BK465.out 1).trans rfl
                have hfz124_0 := bZ BK465.out 0
                have hfz124_1 := bZ BK465.out 1
                have hcz125_0 : wc.cell? ⟨gb466, 0, none⟩ = some (.int .i64 0) := (bC BK466.out 0).trans rfl
                have hcz125_1 : wc.cell? ⟨gb466, 1, none⟩ = some (.int .i64 0) := (bC BK466.out 1).trans rfl
                have hfz125_0 := bZ BK466.out 0
                have hfz125_1 := bZ BK466.out 1
                go_wp2
                refine bodyPost_ret (results_ct rfl _ _ gb466 47 #[.int .i64 ji118, .int .i64 ji119] (0, 0) _ rfl (by (with_reducible repeat (first | apply bN | apply bD | apply bA)); refine bP (cs := #[.int .i64 ji118, .int .i64 0]) ?_ 1 _ rfl; (with_reducible repeat (first | apply bN | apply bD | apply bA)); refine bP (cs := #[.int .i64 0, .int .i64 0]) ?_ 0 _ rfl; (with_reducible repeat (first | apply bN | apply bD | apply bA)); exact BK466.out) Try.underlying47 rfl (by kernel_rfl)) rfl ?_
                exact ⟨by first | rfl | (simp [errW_none, errW_some] <;> rfl) | (simp only [← hji118, ← hji119]; first | rfl | (simp [errW_none, errW_some] <;> rfl)) | (simp [*, errW_none, errW_some] <;> rfl), by repeat (first | (with_reducible first | exact HB.out | apply cA | apply cN | apply cD | refine cS ?_ GE464.out | refine cS ?_ GE465.out | refine cS ?_ GE466.out) | exact HB.out)⟩
              rw [if_neg c117] at H
              have c117b0 : (a0 == 24) = false := beq_eq_false_iff_ne.mpr c117
              have c117b1 : (a0 != 24) = true := bne_iff_ne.mpr c117
              by_cases c126 : a0 = 25
              · rw [if_pos c126] at H
                have c126b0 : (a0 == 25) = true := beq_iff_eq.mpr c126
                have c126b1 : (a0 != 25) = false := bne_eq_false_iff_eq.mpr c126
                clear c126
                obtain ⟨ji127, hji127⟩ : ∃ j_ : Int, (mx a1_0 a2_0) = j_ := ⟨_, rfl⟩
                replace H : (some (ji127, mx a1_1 a2_1, 0)) = some (r1, r2, r3) := by first | (rw [hji127] at H; exact H) | (simp only [hji127] at H ⊢; exact H)
                have hji127_ : (if a1_0 < a2_0 then a2_0 else a1_0) = ji127 := hji127
                obtain ⟨ji128, hji128⟩ : ∃ j_ : Int, (mx a1_1 a2_1) = j_ := ⟨_, rfl⟩
                replace H : (some (ji127, ji128, 0)) = some (r1, r2, r3) := by first | (rw [hji128] at H; exact H) | (simp only [hji128] at H ⊢; exact H)
                have hji128_ : (if a1_1 < a2_1 then a2_1 else a1_1) = ji128 := hji128
                simp only [Option.some.injEq, Prod.mk.injEq] at H
                obtain ⟨rfl, rfl, rfl⟩ := H
                have hnb129 := NB464_465.out
                have hnc129 := NB465_464.out
                have hnb130 := NB464_466.out
                have hnc130 := NB466_464.out
                have hcz131_0 : wc.cell? ⟨gb464, 0, none⟩ = some (.int .i64 a1_0) := (bC BK464.out 0).trans rfl
                have hcz131_1 : wc.cell? ⟨gb464, 1, none⟩ = some (.int .i64 a1_1) := (bC BK464.out 1).trans rfl
                have hfz131_0 := bZ BK464.out 0
                have hfz131_1 := bZ BK464.out 1
                have hnb132 := NB465_466.out
                have hnc132 := NB466_465.out
                have hcz133_0 : wc.cell? ⟨gb465, 0, none⟩ = some (.int .i64 a2_0) := (bC BK465.out 0).trans rfl
                have hcz133_1 : wc.cell? ⟨gb465, 1, none⟩ = some (.int .i64 a2_1) := (bC BK465.out 1).trans rfl
                have hfz133_0 := bZ BK465.out 0
                have hfz133_1 := bZ BK465.out 1
                have hcz134_0 : wc.cell? ⟨gb466, 0, none⟩ = some (.int .i64 0) := (bC BK466.out 0).trans rfl
                have hcz134_1 : wc.cell? ⟨gb466, 1, none⟩ = some (.int .i64 0) := (bC BK466.out 1).trans rfl
                have hfz134_0 := bZ BK466.out 0
                have hfz134_1 := bZ BK466.out 1
                go_wp2
                refine bodyPost_ret (results_ct rfl _ _ gb466 47 #[.int .i64 ji127, .int .i64 ji128] (0, 0) _ rfl (by (with_reducible repeat (first | apply bN | apply bD | apply bA)); refine bP (cs := #[.int .i64 ji127, .int .i64 0]) ?_ 1 _ rfl; (with_reducible repeat (first | apply bN | apply bD | apply bA)); refine bP (cs := #[.int .i64 0, .int .i64 0]) ?_ 0 _ rfl; (with_reducible repeat (first | apply bN | apply bD | apply bA)); exact BK466.out) Try.underlying47 rfl (by kernel_rfl)) rfl ?_
                exact ⟨by first | rfl | (simp [errW_none, errW_some] <;> rfl) | (simp only [← hji127, ← hji128]; first | rfl | (simp [errW_none, errW_some] <;> rfl)) | (simp [*, errW_none, errW_some] <;> rfl), by repeat (first | (with_reducible first | exact HB.out | apply cA | apply cN | apply cD | refine cS ?_ GE464.out | refine cS ?_ GE465.out | refine cS ?_ GE466.out) | exact HB.out)⟩
              rw [if_neg c126] at H
              have c126b0 : (a0 == 25) = false := beq_eq_false_iff_ne.mpr c126
              have c126b1 : (a0 != 25) = true := bne_iff_ne.mpr c126
              replace H := Option.bind_eq_some_iff.mp H
              obtain ⟨⟨t480, t481⟩, A1350, H⟩ := H
              replace H : (some (t480, t481, 0)) = some (r1, r2, r3) := H
              have A135 := Aside0.mk A1350
              clear A1350
              simp only [Option.some.injEq, Prod.mk.injEq] at H
              obtain ⟨rfl, rfl, rfl⟩ := H
              have hnb136 := NB464_465.out
              have hnc136 := NB465_464.out
              have hnb137 := NB464_466.out
              have hnc137 := NB466_464.out
              have hcz138_0 : wc.cell? ⟨gb464, 0, none⟩ = some (.int .i64 a1_0) := (bC BK464.out 0).trans rfl
              have hcz138_1 : wc.cell? ⟨gb464, 1, none⟩ = some (.int .i64 a1_1) := (bC BK464.out 1).trans rfl
              have hfz138_0 := bZ BK464.out 0
              have hfz138_1 := bZ BK464.out 1
              have hnb139 := NB465_466.out
              have hnc139 := NB466_465.out
              have hcz140_0 : wc.cell? ⟨gb465, 0, none⟩ = some (.int .i64 a2_0) := (bC BK465.out 0).trans rfl
              have hcz140_1 : wc.cell? ⟨gb465, 1, none⟩ = some (.int .i64 a2_1) := (bC BK465.out 1).trans rfl
              have hfz140_0 := bZ BK465.out 0
              have hfz140_1 := bZ BK465.out 1
              go_wp2_with (first | ((with_reducible refine gate_callee (f := 61) rfl ?_); refine goesL_ (some 132) rfl rfl Try.func61 (by kernel_rfl) rfl #[.int .i64 a0, .agg #[.int .i64 a1_0, .int .i64 a1_1], .agg #[.int .i64 a2_0, .int .i64 a2_1]] rfl (by (try simp only [List.map_toArray, List.map_cons, List.map_nil]); first | done | rfl | (simp only [List.length_drop, List.length_take]; rfl)) ?_; (with_reducible refine (span_compared.calls kj105 a0 a1_0 a1_1 a2_0 a2_1 t480 t481 _ A135.out).mono ?_); rintro e w141 ⟨rfl, hb⟩; refine ⟨_, rfl, ?_⟩; have n0_ := Aside0.mk (bB (g := gb464) (o := .cells #[.int .i64 a1_0, .int .i64 a1_1] 47 (0, 0)) (by (with_reducible repeat (first | apply bN | apply bD | apply bA)); exact BK464.out) hb); have n1_ := Aside0.mk (bB (g := gb465) (o := .cells #[.int .i64 a2_0, .int .i64 a2_1] 47 (0, 0)) (by (with_reducible repeat (first | apply bN | apply bD | apply bA)); exact BK465.out) hb); have n2_ := Aside0.mk (bB (g := gb466) (o := .cells #[.int .i64 0, .int .i64 0] 47 (0, 0)) (by (with_reducible repeat (first | apply bN | apply bD | apply bA)); exact BK466.out) hb); have n3_ := Aside0.mk (cT (by repeat (first | (with_reducible first | exact HB.out | apply cA | apply cN | apply cD | refine cS ?_ GE464.out | refine cS ?_ GE465.out | refine cS ?_ GE466.out) | exact HB.out)) hb); clear BK464; clear BK465; clear BK466; clear HB; have BK464 := n0_; have BK465 := n1_; have BK466 := n2_; have HB := n3_; clear n0_ n1_ n2_ n3_; (try clear hb); (try clear hb2); (try clear hk); (try clear hi); have hcz142_0 : w141.cell? ⟨gb466, 0, none⟩ = some (.int .i64 0) := (bC BK466.out 0).trans rfl; have hcz142_1 : w141.cell? ⟨gb466, 1, none⟩ = some (.int .i64 0) := (bC BK466.out 1).trans rfl; have hfz142_0 := bZ BK466.out 0; have hfz142_1 := bZ BK466.out 1))
              refine bodyPost_ret (results_ct rfl _ _ gb466 47 #[.int .i64 t480, .int .i64 t481] (0, 0) _ rfl (by (with_reducible repeat (first | apply bN | apply bD | apply bA)); refine bP (cs := #[.int .i64 t480, .int .i64 0]) ?_ 1 _ rfl; (with_reducible repeat (first | apply bN | apply bD | apply bA)); refine bP (cs := #[.int .i64 0, .int .i64 0]) ?_ 0 _ rfl; (with_reducible repeat (first | apply bN | apply bD | apply bA)); exact BK466.out) Try.underlying47 rfl (by kernel_rfl)) rfl ?_
              exact ⟨by first | rfl | (simp [errW_none, errW_some] <;> rfl) | (simp [*, errW_none, errW_some] <;> rfl), by repeat (first | (with_reducible first | exact HB.out | apply cA | apply cN | apply cD | refine cS ?_ GE464.out | refine cS ?_ GE465.out | refine cS ?_ GE466.out) | exact HB.out)⟩

end Go.Proofs.Ytpnldhimlpilhaa.F
