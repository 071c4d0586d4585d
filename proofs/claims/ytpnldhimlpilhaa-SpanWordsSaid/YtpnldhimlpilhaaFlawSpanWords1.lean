/- Written by wip/myprint.py of this session, out of Lean's print of the program: what Go functions come to, and that their calls come to it; no condition. -/
import Derived.Test.YtpnldhimlpilhaaF0
import Derived.Test.YtpnldhimlpilhaaFdamasklaw051
import Derived.Test.YtpnldhimlpilhaaFdamaskref051
import Derived.Test.YtpnldhimlpilhaaFeq1
import Derived.Test.YtpnldhimlpilhaaFspan1
import Derived.Test.YtpnldhimlpilhaaFspan3
import Derived.Test.YtpnldhimlpilhaaFspan7
namespace Go.Proofs.Ytpnldhimlpilhaa.F
open Go.RowKit Go.Proofs.YtpnldhimlpilhaaW.PrintWords Go.Proofs.YtpnldhimlpilhaaW.PrintLast Go.Proofs.YtpnldhimlpilhaaW.PrintMore Go.Proofs.YtpnldhimlpilhaaW
attribute [local go_sem] max2_int min2_int max_two min_two max_three min_three max_four min_four   -- for this text's walks alone
set_option linter.unusedVariables false
set_option linter.unusedSimpArgs false

attribute [local go_sem high] eqA47
/-! ### damasklaw05_SpanWords: function 11 -/
def damasklaw05_SpanWords.j0 : Nat → Int → Bool → Int → Int → Int → Int → Int → Int → Option (Bool)
  | 0, _, _, _, _, _, _, _, _ => none
  | k + 1, x2, x35, x741000, x741001, x742000, x742001, x745000, x745001 => if x35 = true then (some false) else ((span_Has.f x741000 x741001 x2).bind fun t752 => (if t752 = true then ((span_Has.f x745000 x745001 x2).bind fun t753 => (if t753 = true then (if x745000 = x741000 then (if x745001 = x741001 then (if x745000 ≤ x741000 then (if x745000 ≤ x742000 then (if x745001 ≥ x741001 then (some (decide (x745001 ≥ x742001))) else (some false)) else (some false)) else (some false)) else (if x745001 = x742001 then (if x745000 ≤ x741000 then (if x745000 ≤ x742000 then (if x745001 ≥ x741001 then (some (decide (x745001 ≥ x742001))) else (some false)) else (some false)) else (some false)) else (some false))) else (if x745000 = x742000 then (if x745001 = x741001 then (if x745000 ≤ x741000 then (if x745000 ≤ x742000 then (if x745001 ≥ x741001 then (some (decide (x745001 ≥ x742001))) else (some false)) else (some false)) else (some false)) else (if x745001 = x742001 then (if x745000 ≤ x741000 then (if x745000 ≤ x742000 then (if x745001 ≥ x741001 then (some (decide (x745001 ≥ x742001))) else (some false)) else (some false)) else (some false)) else (some false))) else (some false))) else (some false))) else ((span_Has.f x742000 x742001 x2).bind fun t754 => (if t754 = true then ((span_Has.f x745000 x745001 x2).bind fun t755 => (if t755 = true then (if x745000 = x741000 then (if x745001 = x741001 then (if x745000 ≤ x741000 then (if x745000 ≤ x742000 then (if x745001 ≥ x741001 then (some (decide (x745001 ≥ x742001))) else (some false)) else (some false)) else (some false)) else (if x745001 = x742001 then (if x745000 ≤ x741000 then (if x745000 ≤ x742000 then (if x745001 ≥ x741001 then (some (decide (x745001 ≥ x742001))) else (some false)) else (some false)) else (some false)) else (some false))) else (if x745000 = x742000 then (if x745001 = x741001 then (if x745000 ≤ x741000 then (if x745000 ≤ x742000 then (if x745001 ≥ x741001 then (some (decide (x745001 ≥ x742001))) else (some false)) else (some false)) else (some false)) else (if x745001 = x742001 then (if x745000 ≤ x741000 then (if x745000 ≤ x742000 then (if x745001 ≥ x741001 then (some (decide (x745001 ≥ x742001))) else (some false)) else (some false)) else (some false)) else (some false))) else (some false))) else (some false))) else (if x745000 = x741000 then (if x745001 = x741001 then (if x745000 ≤ x741000 then (if x745000 ≤ x742000 then (if x745001 ≥ x741001 then (some (decide (x745001 ≥ x742001))) else (some false)) else (some false)) else (some false)) else (if x745001 = x742001 then (if x745000 ≤ x741000 then (if x745000 ≤ x742000 then (if x745001 ≥ x741001 then (some (decide (x745001 ≥ x742001))) else (some false)) else (some false)) else (some false)) else (some false))) else (if x745000 = x742000 then (if x745001 = x741001 then (if x745000 ≤ x741000 then (if x745000 ≤ x742000 then (if x745001 ≥ x741001 then (some (decide (x745001 ≥ x742001))) else (some false)) else (some false)) else (some false)) else (if x745001 = x742001 then (if x745000 ≤ x741000 then (if x745000 ≤ x742000 then (if x745001 ≥ x741001 then (some (decide (x745001 ≥ x742001))) else (some false)) else (some false)) else (some false)) else (some false))) else (some false)))))))
def damasklaw05_SpanWords.f (k : Nat) (a0_0 : Int) (a0_1 : Int) (a1_0 : Int) (a1_1 : Int) (a2 : Int) : Option (Bool) := (span_Join.f a0_0 a0_1 a1_0 a1_1).bind fun bt742 => ((damasklaw05_awake.f k).bind fun t745 => (if t745 = true then ((span_Whole.f a0_0 a0_1).bind fun t746 => ((damaskref05_Whole.f a0_0 a0_1).bind fun t747 => (if (t746 != t747) = true then (damasklaw05_SpanWords.j0 k a2 true a0_0 a0_1 a1_0 a1_1 bt742.1 bt742.2) else ((span_Has.f a0_0 a0_1 a2).bind fun t748 => ((damaskref05_Has.f a0_0 a0_1 a2).bind fun t749 => (if (t748 != t749) = true then (damasklaw05_SpanWords.j0 k a2 true a0_0 a0_1 a1_0 a1_1 bt742.1 bt742.2) else ((span_Join.f a1_0 a1_1 a0_0 a0_1).bind fun bt750 => (damasklaw05_SpanWords.j0 k a2 (!(bt750.1 == bt742.1) || (!(bt750.2 == bt742.2))) a0_0 a0_1 a1_0 a1_1 bt742.1 bt742.2)))))))) else (damasklaw05_SpanWords.j0 k a2 true a0_0 a0_1 a1_0 a1_1 bt742.1 bt742.2)))
theorem damasklaw05_SpanWords.mono_l : ∀ k, (∀ y0 y1 y2 y3 y4 y5 y6 y7, LeO (damasklaw05_SpanWords.j0 k y0 y1 y2 y3 y4 y5 y6 y7) (damasklaw05_SpanWords.j0 (k + 1) y0 y1 y2 y3 y4 y5 y6 y7))
  | 0 => fun _ _ _ _ _ _ _ _ r h => by simp [damasklaw05_SpanWords.j0] at h
  | k + 1 => by
    have ih0 := damasklaw05_SpanWords.mono_l k
    · intro y0 y1 y2 y3 y4 y5 y6 y7
      unfold damasklaw05_SpanWords.j0
      repeat' first
      | (with_reducible exact ih0 _ _ _ _ _ _ _ _)
      | (with_reducible exact damasklaw05_awake.mono _)
      | (with_reducible exact LeO.refl _)
      | (with_reducible exact LeO.none _)
      | (with_reducible refine LeO.ite ?_ ?_)
      | (with_reducible refine LeO.bind ?_ (fun _ => ?_))
      | exact ih0 _ _ _ _ _ _ _ _
      | exact damasklaw05_awake.mono _
      | exact LeO.none _
      | refine LeO.ite ?_ ?_
      | refine LeO.bind ?_ (fun _ => ?_)
theorem damasklaw05_SpanWords.mono : ∀ a0 a1 a2 a3 a4 k, LeO (damasklaw05_SpanWords.f k a0 a1 a2 a3 a4) (damasklaw05_SpanWords.f (k + 1) a0 a1 a2 a3 a4) := by
  intro a0 a1 a2 a3 a4 k
  have ih0 := damasklaw05_SpanWords.mono_l k
  unfold damasklaw05_SpanWords.f
  repeat' first
      | (with_reducible exact ih0 _ _ _ _ _ _ _ _)
      | (with_reducible exact damasklaw05_awake.mono _)
      | (with_reducible exact LeO.refl _)
      | (with_reducible exact LeO.none _)
      | (with_reducible refine LeO.ite ?_ ?_)
      | (with_reducible refine LeO.bind ?_ (fun _ => ?_))
      | exact ih0 _ _ _ _ _ _ _ _
      | exact damasklaw05_awake.mono _
      | exact LeO.none _
      | refine LeO.ite ?_ ?_
      | refine LeO.bind ?_ (fun _ => ?_)
def damasklaw05_SpanWords.T2 : Bool × List (List Nat × List Nat) := (true, [([], []), ([0], [0]), ([1, 0], [1]), ([2], [2]), ([3, 2, 2], [2, 3]), ([2], [2]), ([5, 4, 2], [2, 5]), ([4, 6, 2], [2, 4, 6]), ([2, 7], [2, 7]), ([8, 6], [8]), ([9], [9]), ([9], [9]), ([10, 11, 9, 9], [9, 10, 11]), ([9], [9]), ([9], [9]), ([13, 14, 12, 9], [9, 13, 14]), ([12, 15, 9], [9, 12, 15]), ([9, 16], [9, 16]), ([17, 15], [17]), ([18], [18]), ([18], [18]), ([19, 20, 18, 18], [18, 19, 20]), ([18], [18]), ([21, 22, 18], [18, 21, 22]), ([18, 23], [18, 23])])
def damasklaw05_SpanWords.B2 : List Nat := [0, 1, 3, 7, 15, 7, 63, 127, 255, 511, 1023, 1023, 4095, 1023, 1023, 32767, 65535, 131071, 262143, 524287, 524287, 2097151, 524287, 8388607, 16777215]
theorem damasklaw05_SpanWords.tab2 : rtab .any (opsOf Try.f11 2) = damasklaw05_SpanWords.T2 := by kernel_rfl
theorem damasklaw05_SpanWords.bits2 : waitsOk damasklaw05_SpanWords.T2.2 damasklaw05_SpanWords.B2 = true := by kernel_rfl
set_option maxHeartbeats 8000000 in
set_option maxRecDepth 100000 in
theorem damasklaw05_SpanWords.calls (k : Nat) (a0_0 : Int) (a0_1 : Int) (a1_0 : Int) (a1_1 : Int) (a2 : Int) (r : Bool) (w : World) (hrT0 : r = true) (h : damasklaw05_SpanWords.f k a0_0 a0_1 a1_0 a1_1 a2 = some r) :
    Calls Try.prog 11 #[.agg #[.int .i64 a0_0, .int .i64 a0_1], .agg #[.int .i64 a1_0, .int .i64 a1_1], .int .i64 a2] w fun e w' => e = .returned (.bool r) ∧ Below w.heap.size w w' := by
  have hu47 := Try.underlying47
  have HB := Aside0.mk (Below.refl w.heap.size w)
  have hrT := Aside0.mk hrT0
  clear hrT0
  have H : ((span_Join.f a0_0 a0_1 a1_0 a1_1).bind fun bt742 => ((damasklaw05_awake.f k).bind fun t745 => (if t745 = true then ((span_Whole.f a0_0 a0_1).bind fun t746 => ((damaskref05_Whole.f a0_0 a0_1).bind fun t747 => (if (t746 != t747) = true then (damasklaw05_SpanWords.j0 k a2 true a0_0 a0_1 a1_0 a1_1 bt742.1 bt742.2) else ((span_Has.f a0_0 a0_1 a2).bind fun t748 => ((damaskref05_Has.f a0_0 a0_1 a2).bind fun t749 => (if (t748 != t749) = true then (damasklaw05_SpanWords.j0 k a2 true a0_0 a0_1 a1_0 a1_1 bt742.1 bt742.2) else ((span_Join.f a1_0 a1_1 a0_0 a0_1).bind fun bt750 => (damasklaw05_SpanWords.j0 k a2 (!(bt750.1 == bt742.1) || (!(bt750.2 == bt742.2))) a0_0 a0_1 a1_0 a1_1 bt742.1 bt742.2)))))))) else (damasklaw05_SpanWords.j0 k a2 true a0_0 a0_1 a1_0 a1_1 bt742.1 bt742.2)))) = some r := h
  clear h
  replace H := Option.bind_eq_some_iff.mp H
  obtain ⟨⟨t742, t743⟩, A40, H⟩ := H
  replace H : ((damasklaw05_awake.f k).bind fun t745 => (if t745 = true then ((span_Whole.f a0_0 a0_1).bind fun t746 => ((damaskref05_Whole.f a0_0 a0_1).bind fun t747 => (if (t746 != t747) = true then (damasklaw05_SpanWords.j0 k a2 true a0_0 a0_1 a1_0 a1_1 t742 t743) else ((span_Has.f a0_0 a0_1 a2).bind fun t748 => ((damaskref05_Has.f a0_0 a0_1 a2).bind fun t749 => (if (t748 != t749) = true then (damasklaw05_SpanWords.j0 k a2 true a0_0 a0_1 a1_0 a1_1 t742 t743) else ((span_Join.f a1_0 a1_1 a0_0 a0_1).bind fun bt750 => (damasklaw05_SpanWords.j0 k a2 (!(bt750.1 == t742) || (!(bt750.2 == t743))) a0_0 a0_1 a1_0 a1_1 t742 t743)))))))) else (damasklaw05_SpanWords.j0 k a2 true a0_0 a0_1 a1_0 a1_1 t742 t743))) = some r := H
  have A4 := Aside0.mk A40
  clear A40
  have HC5 := Aside0.mk H
  clear H
  go_enter Try.func11, Try.ntmps11
  go_upto_region 2 with (first | ((with_reducible refine gate_dst (N := 3) rfl ?_); refine box_event ?hg (N := 3) ?hd (cs := #[.int .i64 a0_0, .int .i64 a0_1]) (t := 47) ?hr ?_; (case hd => rfl); (case hg => rfl); (case hr => first | (go_simp; done) | (go_simp; rfl)); intro gb740 hg w6 hbox hb; have n0_ := Aside0.mk (cT (by repeat (first | (with_reducible first | exact HB.out | apply cA | apply cN | apply cD) | exact HB.out)) hb); have n1_ := Aside0.mk (hbox); have n2_ := Aside0.mk ((by rw [hg]; exact (cZ (by repeat (first | (with_reducible first | exact HB.out | apply cA | apply cN | apply cD) | exact HB.out))) : w.heap.size ≤ gb740)); have n3_ := n2_; clear HB; have HB := n0_; have BK740 := n1_; have GW740 := n2_; have GE740 := n3_; clear n0_ n1_ n2_ n3_; clear hb hbox hg) | ((with_reducible refine gate_dst (N := 4) rfl ?_); refine box_event ?hg (N := 4) ?hd (cs := #[.int .i64 a1_0, .int .i64 a1_1]) (t := 47) ?hr ?_; (case hd => rfl); (case hg => rfl); (case hr => first | (go_simp; done) | (go_simp; rfl)); intro gb741 hg w7 hbox hb; have n0_ := Aside0.mk (bB (g := gb740) (o := .cells #[.int .i64 a0_0, .int .i64 a0_1] 47 (0, 0)) (by (with_reducible repeat (first | apply bN | apply bD | apply bA)); exact BK740.out) hb); have n1_ := Aside0.mk (cT (by repeat (first | (with_reducible first | exact HB.out | apply cA | apply cN | apply cD | refine cS ?_ GE740.out) | exact HB.out)) hb); have n2_ := Aside0.mk (hbox); have n3_ := Aside0.mk ((by rw [hg]; exact (cZ (by repeat (first | (with_reducible first | exact HB.out | apply cA | apply cN | apply cD | refine cS ?_ GE740.out) | exact HB.out))) : w.heap.size ≤ gb741)); have n4_ := n3_; have n5_ := Aside0.mk ((by rw [hg]; exact Nat.ne_of_lt (blk_lt (g := gb740) (o := .cells #[.int .i64 a0_0, .int .i64 a0_1] 47 (0, 0)) (by (with_reducible repeat (first | apply bN | apply bD | apply bA)); exact BK740.out)) : gb740 ≠ gb741)); have n6_ := Aside0.mk ((by rw [hg]; exact Nat.ne_of_gt (blk_lt (g := gb740) (o := .cells #[.int .i64 a0_0, .int .i64 a0_1] 47 (0, 0)) (by (with_reducible repeat (first | apply bN | apply bD | apply bA)); exact BK740.out)) : gb741 ≠ gb740)); clear BK740; clear HB; have BK740 := n0_; have HB := n1_; have BK741 := n2_; have GW741 := n3_; have GE741 := n4_; have NB740_741 := n5_; have NB741_740 := n6_; clear n0_ n1_ n2_ n3_ n4_ n5_ n6_; clear hb hbox hg; have hnb8 := NB740_741.out; have hnc8 := NB741_740.out; have hcz9_0 : w7.cell? ⟨gb740, 0, none⟩ = some (.int .i64 a0_0) := (bC BK740.out 0).trans rfl; have hcz9_1 : w7.cell? ⟨gb740, 1, none⟩ = some (.int .i64 a0_1) := (bC BK740.out 1).trans rfl; have hfz9_0 := bZ BK740.out 0; have hfz9_1 := bZ BK740.out 1; have hcz10_0 : w7.cell? ⟨gb741, 0, none⟩ = some (.int .i64 a1_0) := (bC BK741.out 0).trans rfl; have hcz10_1 : w7.cell? ⟨gb741, 1, none⟩ = some (.int .i64 a1_1) := (bC BK741.out 1).trans rfl; have hfz10_0 := bZ BK741.out 0; have hfz10_1 := bZ BK741.out 1) | ((with_reducible refine gate_callee (f := 29) rfl ?_); refine goesL_ (some 10) rfl rfl Try.func29 (by kernel_rfl) rfl #[.agg #[.int .i64 a0_0, .int .i64 a0_1], .agg #[.int .i64 a1_0, .int .i64 a1_1]] rfl (by (try simp only [List.map_toArray, List.map_cons, List.map_nil]); first | done | rfl | (simp only [List.length_drop, List.length_take]; rfl)) ?_; (with_reducible refine (span_Join.calls a0_0 a0_1 a1_0 a1_1 t742 t743 _ A4.out).mono ?_); rintro e w11 ⟨rfl, hb⟩; refine ⟨_, rfl, ?_⟩; have n0_ := Aside0.mk (bB (g := gb740) (o := .cells #[.int .i64 a0_0, .int .i64 a0_1] 47 (0, 0)) (by (with_reducible repeat (first | apply bN | apply bD | apply bA)); exact BK740.out) hb); have n1_ := Aside0.mk (bB (g := gb741) (o := .cells #[.int .i64 a1_0, .int .i64 a1_1] 47 (0, 0)) (by (with_reducible repeat (first | apply bN | apply bD | apply bA)); exact BK741.out) hb); have n2_ := Aside0.mk (cT (by repeat (first | (with_reducible first | exact HB.out | apply cA | apply cN | apply cD | refine cS ?_ GE740.out | refine cS ?_ GE741.out) | exact HB.out)) hb); clear BK740; clear BK741; clear HB; have BK740 := n0_; have BK741 := n1_; have HB := n2_; clear n0_ n1_ n2_; (try clear hb); (try clear hb2); (try clear hk); (try clear hi)) | ((with_reducible refine gate_dst (N := 7) rfl ?_); refine box_event ?hg (N := 7) ?hd (cs := #[.int .i64 0, .int .i64 0]) (t := 47) ?hr ?_; (case hd => rfl); (case hg => rfl); (case hr => first | (go_simp; done) | (go_simp; rfl)); intro gb744 hg w12 hbox hb; have n0_ := Aside0.mk (bB (g := gb740) (o := .cells #[.int .i64 a0_0, .int .i64 a0_1] 47 (0, 0)) (by (with_reducible repeat (first | apply bN | apply bD | apply bA)); exact BK740.out) hb); have n1_ := Aside0.mk (bB (g := gb741) (o := .cells #[.int .i64 a1_0, .int .i64 a1_1] 47 (0, 0)) (by (with_reducible repeat (first | apply bN | apply bD | apply bA)); exact BK741.out) hb); have n2_ := Aside0.mk (cT (by repeat (first | (with_reducible first | exact HB.out | apply cA | apply cN | apply cD | refine cS ?_ GE740.out | refine cS ?_ GE741.out) | exact HB.out)) hb); have n3_ := Aside0.mk (hbox); have n4_ := Aside0.mk ((by rw [hg]; exact (cZ (by repeat (first | (with_reducible first | exact HB.out | apply cA | apply cN | apply cD | refine cS ?_ GE740.out | refine cS ?_ GE741.out) | exact HB.out))) : w.heap.size ≤ gb744)); have n5_ := n4_; have n6_ := Aside0.mk ((by rw [hg]; exact Nat.ne_of_lt (blk_lt (g := gb740) (o := .cells #[.int .i64 a0_0, .int .i64 a0_1] 47 (0, 0)) (by (with_reducible repeat (first | apply bN | apply bD | apply bA)); exact BK740.out)) : gb740 ≠ gb744)); have n7_ := Aside0.mk ((by rw [hg]; exact Nat.ne_of_gt (blk_lt (g := gb740) (o := .cells #[.int .i64 a0_0, .int .i64 a0_1] 47 (0, 0)) (by (with_reducible repeat (first | apply bN | apply bD | apply bA)); exact BK740.out)) : gb744 ≠ gb740)); have n8_ := Aside0.mk ((by rw [hg]; exact Nat.ne_of_lt (blk_lt (g := gb741) (o := .cells #[.int .i64 a1_0, .int .i64 a1_1] 47 (0, 0)) (by (with_reducible repeat (first | apply bN | apply bD | apply bA)); exact BK741.out)) : gb741 ≠ gb744)); have n9_ := Aside0.mk ((by rw [hg]; exact Nat.ne_of_gt (blk_lt (g := gb741) (o := .cells #[.int .i64 a1_0, .int .i64 a1_1] 47 (0, 0)) (by (with_reducible repeat (first | apply bN | apply bD | apply bA)); exact BK741.out)) : gb744 ≠ gb741)); clear BK740; clear BK741; clear HB; have BK740 := n0_; have BK741 := n1_; have HB := n2_; have BK744 := n3_; have GW744 := n4_; have GE744 := n5_; have NB740_744 := n6_; have NB744_740 := n7_; have NB741_744 := n8_; have NB744_741 := n9_; clear n0_ n1_ n2_ n3_ n4_ n5_ n6_ n7_ n8_ n9_; clear hb hbox hg; have hnb13 := NB744_740.out; have hnc13 := NB740_744.out; have hnb14 := NB744_741.out; have hnc14 := NB741_744.out; have hcz15_0 : w12.cell? ⟨gb744, 0, none⟩ = some (.int .i64 0) := (bC BK744.out 0).trans rfl; have hcz15_1 : w12.cell? ⟨gb744, 1, none⟩ = some (.int .i64 0) := (bC BK744.out 1).trans rfl; have hfz15_0 := bZ BK744.out 0; have hfz15_1 := bZ BK744.out 1))
  (try simp only [Act.put, List.setIfInBounds_toArray, List.set_cons_zero, List.set_cons_succ])
  go_cut [35] (fun v35 wc => ∃ (kq : Nat) (x35_4 : Bool), v35 = .bool x35_4 ∧ Aside0 (damasklaw05_SpanWords.j0 kq a2 x35_4 a0_0 a0_1 a1_0 a1_1 t742 t743 = some r) ∧ Aside0 (kq ≤ k) ∧ Aside0 (wc.heap[gb740]? = some (.cells #[.int .i64 a0_0, .int .i64 a0_1] 47 (0, 0))) ∧ Aside0 (wc.heap[gb741]? = some (.cells #[.int .i64 a1_0, .int .i64 a1_1] 47 (0, 0))) ∧ Aside0 (wc.heap[gb744]? = some (.cells #[.int .i64 t742, .int .i64 t743] 47 (0, 0))) ∧ Aside0 (Below w.heap.size w wc))
  case first =>
    have H := HC5.out
    clear HC5
    replace H := Option.bind_eq_some_iff.mp H
    obtain ⟨t745, A160, H⟩ := H
    replace H : (if t745 = true then ((span_Whole.f a0_0 a0_1).bind fun t746 => ((damaskref05_Whole.f a0_0 a0_1).bind fun t747 => (if (t746 != t747) = true then (damasklaw05_SpanWords.j0 k a2 true a0_0 a0_1 a1_0 a1_1 t742 t743) else ((span_Has.f a0_0 a0_1 a2).bind fun t748 => ((damaskref05_Has.f a0_0 a0_1 a2).bind fun t749 => (if (t748 != t749) = true then (damasklaw05_SpanWords.j0 k a2 true a0_0 a0_1 a1_0 a1_1 t742 t743) else ((span_Join.f a1_0 a1_1 a0_0 a0_1).bind fun bt750 => (damasklaw05_SpanWords.j0 k a2 (!(bt750.1 == t742) || (!(bt750.2 == t743))) a0_0 a0_1 a1_0 a1_1 t742 t743)))))))) else (damasklaw05_SpanWords.j0 k a2 true a0_0 a0_1 a1_0 a1_1 t742 t743)) = some r := H
    have A16 := Aside0.mk A160
    clear A160
    by_cases c17 : t745 = true
    · subst c17
      have H1 : ((span_Whole.f a0_0 a0_1).bind fun t746 => ((damaskref05_Whole.f a0_0 a0_1).bind fun t747 => (if (t746 != t747) = true then (damasklaw05_SpanWords.j0 k a2 true a0_0 a0_1 a1_0 a1_1 t742 t743) else ((span_Has.f a0_0 a0_1 a2).bind fun t748 => ((damaskref05_Has.f a0_0 a0_1 a2).bind fun t749 => (if (t748 != t749) = true then (damasklaw05_SpanWords.j0 k a2 true a0_0 a0_1 a1_0 a1_1 t742 t743) else ((span_Join.f a1_0 a1_1 a0_0 a0_1).bind fun bt750 => (damasklaw05_SpanWords.j0 k a2 (!(bt750.1 == t742) || (!(bt750.2 == t743))) a0_0 a0_1 a1_0 a1_1 t742 t743)))))))) = some r := by rw [if_pos rfl] at H; exact H
      clear H
      have H := H1
      clear H1
      replace H := Option.bind_eq_some_iff.mp H
      obtain ⟨t746, A180, H⟩ := H
      replace H : ((damaskref05_Whole.f a0_0 a0_1).bind fun t747 => (if (t746 != t747) = true then (damasklaw05_SpanWords.j0 k a2 true a0_0 a0_1 a1_0 a1_1 t742 t743) else ((span_Has.f a0_0 a0_1 a2).bind fun t748 => ((damaskref05_Has.f a0_0 a0_1 a2).bind fun t749 => (if (t748 != t749) = true then (damasklaw05_SpanWords.j0 k a2 true a0_0 a0_1 a1_0 a1_1 t742 t743) else ((span_Join.f a1_0 a1_1 a0_0 a0_1).bind fun bt750 => (damasklaw05_SpanWords.j0 k a2 (!(bt750.1 == t742) || (!(bt750.2 == t743))) a0_0 a0_1 a1_0 a1_1 t742 t743))))))) = some r := H
      have A18 := Aside0.mk A180
      clear A180
      replace H := Option.bind_eq_some_iff.mp H
      obtain ⟨t747, A190, H⟩ := H
      replace H : (if (t746 != t747) = true then (damasklaw05_SpanWords.j0 k a2 true a0_0 a0_1 a1_0 a1_1 t742 t743) else ((span_Has.f a0_0 a0_1 a2).bind fun t748 => ((damaskref05_Has.f a0_0 a0_1 a2).bind fun t749 => (if (t748 != t749) = true then (damasklaw05_SpanWords.j0 k a2 true a0_0 a0_1 a1_0 a1_1 t742 t743) else ((span_Join.f a1_0 a1_1 a0_0 a0_1).bind fun bt750 => (damasklaw05_SpanWords.j0 k a2 (!(bt750.1 == t742) || (!(bt750.2 == t743))) a0_0 a0_1 a1_0 a1_1 t742 t743)))))) = some r := H
      have A19 := Aside0.mk A190
      clear A190
      by_cases c20 : (t746 != t747) = true
      · rw [if_pos c20] at H
        have c20b0 : (t746 != t747) = true := c20
        (try (have c20b1 : decide (t746 = t747) = false := by simpa using c20))
        (try (have c20b2 : (t746 == t747) = false := by simpa using c20))
        (try (have c20b3 : ¬ (t746 = t747) := by simpa using c20))
        clear c20
        (first | rw [c20b0] | (simp only [i64_w, i32_w]; rw [c20b0]) | skip)
        exact absurd H (by have h_ := hrT.out; subst h_; clear hrT; cases k <;> simp [damasklaw05_SpanWords.j0])
      rw [if_neg c20] at H
      have c20b0 : (t746 != t747) = false := by simpa using c20
      (try (have c20b1 : decide (t746 = t747) = true := by simpa using c20))
      (try (have c20b2 : (t746 == t747) = true := by simpa using c20))
      clear c20
      (first | rw [c20b0] | (simp only [i64_w, i32_w]; rw [c20b0]) | skip)
      replace H := Option.bind_eq_some_iff.mp H
      obtain ⟨t748, A210, H⟩ := H
      replace H : ((damaskref05_Has.f a0_0 a0_1 a2).bind fun t749 => (if (t748 != t749) = true then (damasklaw05_SpanWords.j0 k a2 true a0_0 a0_1 a1_0 a1_1 t742 t743) else ((span_Join.f a1_0 a1_1 a0_0 a0_1).bind fun bt750 => (damasklaw05_SpanWords.j0 k a2 (!(bt750.1 == t742) || (!(bt750.2 == t743))) a0_0 a0_1 a1_0 a1_1 t742 t743)))) = some r := H
      have A21 := Aside0.mk A210
      clear A210
      replace H := Option.bind_eq_some_iff.mp H
      obtain ⟨t749, A220, H⟩ := H
      replace H : (if (t748 != t749) = true then (damasklaw05_SpanWords.j0 k a2 true a0_0 a0_1 a1_0 a1_1 t742 t743) else ((span_Join.f a1_0 a1_1 a0_0 a0_1).bind fun bt750 => (damasklaw05_SpanWords.j0 k a2 (!(bt750.1 == t742) || (!(bt750.2 == t743))) a0_0 a0_1 a1_0 a1_1 t742 t743))) = some r := H
      have A22 := Aside0.mk A220
      clear A220
      by_cases c23 : (t748 != t749) = true
      · rw [if_pos c23] at H
        have c23b0 : (t748 != t749) = true := c23
        (try (have c23b1 : decide (t748 = t749) = false := by simpa using c23))
        (try (have c23b2 : (t748 == t749) = false := by simpa using c23))
        (try (have c23b3 : ¬ (t748 = t749) := by simpa using c23))
        clear c23
        exact absurd H (by have h_ := hrT.out; subst h_; clear hrT; cases k <;> simp [damasklaw05_SpanWords.j0])
      rw [if_neg c23] at H
      have c23b0 : (t748 != t749) = false := by simpa using c23
      (try (have c23b1 : decide (t748 = t749) = true := by simpa using c23))
      (try (have c23b2 : (t748 == t749) = true := by simpa using c23))
      clear c23
      replace H := Option.bind_eq_some_iff.mp H
      obtain ⟨⟨t750, t751⟩, A240, H⟩ := H
      replace H : (damasklaw05_SpanWords.j0 k a2 (!(t750 == t742) || (!(t751 == t743))) a0_0 a0_1 a1_0 a1_1 t742 t743) = some r := H
      have A24 := Aside0.mk A240
      clear A240
      have H' := Aside0.mk H
      clear H
      (try simp only [List.append])
      try go_wp2
      have n0_ : Aside0 (((w12.setCell ⟨gb744, 0, none⟩ (.int .i64 t742)).setCell ⟨gb744, 1, none⟩ (.int .i64 t743)).heap[gb740]? = some (.cells #[.int .i64 a0_0, .int .i64 a0_1] 47 (0, 0))) := ⟨by (with_reducible repeat (first | apply bN | apply bD | apply bA)); refine bF ?_ NB740_744.out _; (with_reducible repeat (first | apply bN | apply bD | apply bA)); refine bF ?_ NB740_744.out _; (with_reducible repeat (first | apply bN | apply bD | apply bA)); exact BK740.out⟩
      have n1_ : Aside0 (((w12.setCell ⟨gb744, 0, none⟩ (.int .i64 t742)).setCell ⟨gb744, 1, none⟩ (.int .i64 t743)).heap[gb741]? = some (.cells #[.int .i64 a1_0, .int .i64 a1_1] 47 (0, 0))) := ⟨by (with_reducible repeat (first | apply bN | apply bD | apply bA)); refine bF ?_ NB741_744.out _; (with_reducible repeat (first | apply bN | apply bD | apply bA)); refine bF ?_ NB741_744.out _; (with_reducible repeat (first | apply bN | apply bD | apply bA)); exact BK741.out⟩
      have n2_ : Aside0 (((w12.setCell ⟨gb744, 0, none⟩ (.int .i64 t742)).setCell ⟨gb744, 1, none⟩ (.int .i64 t743)).heap[gb744]? = some (.cells #[.int .i64 t742, .int .i64 t743] 47 (0, 0))) := ⟨by (with_reducible repeat (first | apply bN | apply bD | apply bA)); refine bP (cs := #[.int .i64 t742, .int .i64 0]) ?_ 1 _ rfl; (with_reducible repeat (first | apply bN | apply bD | apply bA)); refine bP (cs := #[.int .i64 0, .int .i64 0]) ?_ 0 _ rfl; (with_reducible repeat (first | apply bN | apply bD | apply bA)); exact BK744.out⟩
      have n3_ : Aside0 (Below w.heap.size w ((w12.setCell ⟨gb744, 0, none⟩ (.int .i64 t742)).setCell ⟨gb744, 1, none⟩ (.int .i64 t743))) := ⟨by repeat (first | (with_reducible first | exact HB.out | apply cA | apply cN | apply cD | refine cS ?_ GE740.out | refine cS ?_ GE741.out | refine cS ?_ GE744.out) | exact HB.out)⟩
      (try clear BK740)
      (try clear BK741)
      (try clear BK744)
      (try clear HB)
      generalize ((w12.setCell ⟨gb744, 0, none⟩ (.int .i64 t742)).setCell ⟨gb744, 1, none⟩ (.int .i64 t743)) = w25 at n0_ n1_ n2_ n3_ ⊢
      have BK740 := n0_
      have BK741 := n1_
      have BK744 := n2_
      have HB := n3_
      clear n0_ n1_ n2_ n3_
      have n0_ := Aside0.mk (bD BK740.out)
      have n1_ := Aside0.mk (bD BK741.out)
      have n2_ := Aside0.mk (bD BK744.out)
      have n3_ := Aside0.mk (cD HB.out)
      clear BK740
      clear BK741
      clear BK744
      clear HB
      have BK740 := n0_
      have BK741 := n1_
      have BK744 := n2_
      have HB := n3_
      clear n0_ n1_ n2_ n3_
      refine start_ (n := 25) (S := fun w' => w'.cell? ⟨gb740, 0, none⟩ = some (.int .i64 a0_0) ∧ w'.cell? ⟨gb740, 1, none⟩ = some (.int .i64 a0_1) ∧ w'.cell? ⟨gb741, 0, none⟩ = some (.int .i64 a1_0) ∧ w'.cell? ⟨gb741, 1, none⟩ = some (.int .i64 a1_1) ∧ w'.cell? ⟨gb744, 0, none⟩ = some (.int .i64 t742) ∧ w'.cell? ⟨gb744, 1, none⟩ = some (.int .i64 t743)) (ds := []) #[false, false, false, false, false, false, false, false, false, false, false, false, false, false, false, false, false, false, false, false, false, false, false, false, false] (by kernel_rfl) rfl rfl ⟨(bC BK740.out 0).trans rfl, (bC BK740.out 1).trans rfl, (bC BK741.out 0).trans rfl, (bC BK741.out 1).trans rfl, (bC BK744.out 0).trans rfl, (bC BK744.out 1).trans rfl⟩ (fun hHeld => ?_); refine with_tabW damasklaw05_SpanWords.tab2 damasklaw05_SpanWords.bits2 (fun HT_ HW_ => ?_)
      generalize w25.drew = w26 at BK740 BK741 BK744 HB hHeld ⊢
      refine one_ (i := 0) (N := some 11) #[true, false, false, false, false, false, false, false, false, false, false, false, false, false, false, false, false, false, false, false, false, false, false, false, false] rfl rfl (one_of HT_.out (by kernel_rfl)) (by decide) (fun K hK => ?_)
      refine goes_ Try.func28 (by kernel_rfl) rfl #[] (by rfl) rfl rfl (by (try simp only [List.map_toArray, List.map_cons, List.map_nil]); first | done | rfl | (simp only [List.length_drop, List.length_take]; rfl)) ?_
      with_reducible refine (damasklaw05_awake.calls k  true _ A16.out).mono ?_
      rintro e w27 ⟨rfl, hb⟩
      refine ⟨_, rfl, ?_⟩
      have n0_ := Aside0.mk (bB (g := gb740) (o := .cells #[.int .i64 a0_0, .int .i64 a0_1] 47 (0, 0)) (by (with_reducible repeat (first | apply bN | apply bD | apply bA)); exact BK740.out) hb)
      have n1_ := Aside0.mk (bB (g := gb741) (o := .cells #[.int .i64 a1_0, .int .i64 a1_1] 47 (0, 0)) (by (with_reducible repeat (first | apply bN | apply bD | apply bA)); exact BK741.out) hb)
      have n2_ := Aside0.mk (bB (g := gb744) (o := .cells #[.int .i64 t742, .int .i64 t743] 47 (0, 0)) (by (with_reducible repeat (first | apply bN | apply bD | apply bA)); exact BK744.out) hb)
      have n3_ := Aside0.mk (cT (by repeat (first | (with_reducible first | exact HB.out | apply cA | apply cN | apply cD | refine cS ?_ GE740.out | refine cS ?_ GE741.out | refine cS ?_ GE744.out) | exact HB.out)) hb)
      clear BK740
      clear BK741
      clear BK744
      clear HB
      have BK740 := n0_
      have BK741 := n1_
      have BK744 := n2_
      have HB := n3_
      clear n0_ n1_ n2_ n3_
      (try clear hb)
      (try clear hb2)
      (try clear hk)
      (try clear hi)
      refine hK.out _ _ ⟨(bC BK740.out 0).trans rfl, (bC BK740.out 1).trans rfl, (bC BK741.out 0).trans rfl, (bC BK741.out 1).trans rfl, (bC BK744.out 0).trans rfl, (bC BK744.out 1).trans rfl⟩ (fun hHeld => ?_)
      clear hK K
      refine norm_ (a' := ?_) ?_ ?_
      rotate_left
      · show Act.put _ (some 11) _ = _
        simp only [Act.put, List.setIfInBounds_toArray, List.set_cons_zero, List.set_cons_succ, i64_w, i32_w]
        rfl
      refine pure_ (i := 1) (N := some 12) (v := ?_) (a' := ?_) #[true, true, false, false, false, false, false, false, false, false, false, false, false, false, false, false, false, false, false, false, false, false, false, false, false] rfl rfl (any_of HT_.out (by kernel_rfl)) (fun _ _ _ h => h) (Or.inl ⟨by rfl, ?_⟩) ?_ ?_
      rotate_left
      · intro w'
        go_simp
        with_reducible rfl
      rotate_left
      · simp only [Act.put, List.setIfInBounds_toArray, List.set_cons_zero, List.set_cons_succ, i64_w, i32_w]
        rfl
      refine pure_ (i := 2) (N := some 13) (v := ?_) (a' := ?_) #[true, true, true, false, false, false, false, false, false, false, false, false, false, false, false, false, false, false, false, false, false, false, false, false, false] rfl rfl (any_of HT_.out (by kernel_rfl)) (fun _ _ _ h => h) (Or.inl ⟨by rfl, ?_⟩) ?_ ?_
      rotate_left
      · intro w'
        go_simp
        with_reducible rfl
      rotate_left
      · simp only [Act.put, List.setIfInBounds_toArray, List.set_cons_zero, List.set_cons_succ, i64_w, i32_w]
        rfl
      refine take_ (i := 3) (N := some 14) (v := ?_) (a' := ?_) #[true, true, true, true, false, false, false, false, false, false, false, false, false, false, false, false, false, false, false, false, false, false, false, false, false] rfl rfl (take_ofW HT_.out HW_.out (by kernel_rfl)) (fun _ _ _ h => h) (Or.inl ⟨by rfl, ?_⟩) hHeld ?_ ?_
      rotate_left
      · rintro w' ⟨s0, s1, s2, s3, s4, s5⟩
        go_simp
        with_reducible rfl
      rotate_left
      · simp only [Act.put, List.setIfInBounds_toArray, List.set_cons_zero, List.set_cons_succ, i64_w, i32_w]
        rfl
      refine take_ (i := 5) (N := some 16) (v := ?_) (a' := ?_) #[true, true, true, true, false, true, false, false, false, false, false, false, false, false, false, false, false, false, false, false, false, false, false, false, false] rfl rfl (take_ofW HT_.out HW_.out (by kernel_rfl)) (fun _ _ _ h => h) (Or.inl ⟨by rfl, ?_⟩) hHeld ?_ ?_
      rotate_left
      · rintro w' ⟨s0, s1, s2, s3, s4, s5⟩
        go_simp
        with_reducible rfl
      rotate_left
      · simp only [Act.put, List.setIfInBounds_toArray, List.set_cons_zero, List.set_cons_succ, i64_w, i32_w]
        rfl
      refine one_ (i := 4) (N := some 15) #[true, true, true, true, true, true, false, false, false, false, false, false, false, false, false, false, false, false, false, false, false, false, false, false, false] rfl rfl (one_of HT_.out (by kernel_rfl)) (by decide) (fun K hK => ?_)
      refine goes_ Try.func30 (by kernel_rfl) rfl #[.agg #[.int .i64 a0_0, .int .i64 a0_1]] (by rfl) rfl rfl (by (try simp only [List.map_toArray, List.map_cons, List.map_nil]); first | done | rfl | (simp only [List.length_drop, List.length_take]; rfl)) ?_
      with_reducible refine (span_Whole.calls a0_0 a0_1 t746 _ A18.out).mono ?_
      rintro e w28 ⟨rfl, hb⟩
      refine ⟨_, rfl, ?_⟩
      have n0_ := Aside0.mk (bB (g := gb740) (o := .cells #[.int .i64 a0_0, .int .i64 a0_1] 47 (0, 0)) (by (with_reducible repeat (first | apply bN | apply bD | apply bA)); exact BK740.out) hb)
      have n1_ := Aside0.mk (bB (g := gb741) (o := .cells #[.int .i64 a1_0, .int .i64 a1_1] 47 (0, 0)) (by (with_reducible repeat (first | apply bN | apply bD | apply bA)); exact BK741.out) hb)
      have n2_ := Aside0.mk (bB (g := gb744) (o := .cells #[.int .i64 t742, .int .i64 t743] 47 (0, 0)) (by (with_reducible repeat (first | apply bN | apply bD | apply bA)); exact BK744.out) hb)
      have n3_ := Aside0.mk (cT (by repeat (first | (with_reducible first | exact HB.out | apply cA | apply cN | apply cD | refine cS ?_ GE740.out | refine cS ?_ GE741.out | refine cS ?_ GE744.out) | exact HB.out)) hb)
      clear BK740
      clear BK741
      clear BK744
      clear HB
      have BK740 := n0_
      have BK741 := n1_
      have BK744 := n2_
      have HB := n3_
      clear n0_ n1_ n2_ n3_
      (try clear hb)
      (try clear hb2)
      (try clear hk)
      (try clear hi)
      refine hK.out _ _ ⟨(bC BK740.out 0).trans rfl, (bC BK740.out 1).trans rfl, (bC BK741.out 0).trans rfl, (bC BK741.out 1).trans rfl, (bC BK744.out 0).trans rfl, (bC BK744.out 1).trans rfl⟩ (fun hHeld => ?_)
      clear hK K
      refine norm_ (a' := ?_) ?_ ?_
      rotate_left
      · show Act.put _ (some 15) _ = _
        simp only [Act.put, List.setIfInBounds_toArray, List.set_cons_zero, List.set_cons_succ, i64_w, i32_w]
        rfl
      refine one_ (i := 6) (N := some 17) #[true, true, true, true, true, true, true, false, false, false, false, false, false, false, false, false, false, false, false, false, false, false, false, false, false] rfl rfl (one_of HT_.out (by kernel_rfl)) (by decide) (fun K hK => ?_)
      refine goes_ Try.func31 (by kernel_rfl) rfl #[.agg #[.int .i64 a0_0, .int .i64 a0_1]] (by rfl) rfl rfl (by (try simp only [List.map_toArray, List.map_cons, List.map_nil]); first | done | rfl | (simp only [List.length_drop, List.length_take]; rfl)) ?_
      with_reducible refine (damaskref05_Whole.calls a0_0 a0_1 t747 _ A19.out).mono ?_
      rintro e w29 ⟨rfl, hb⟩
      refine ⟨_, rfl, ?_⟩
      have n0_ := Aside0.mk (bB (g := gb740) (o := .cells #[.int .i64 a0_0, .int .i64 a0_1] 47 (0, 0)) (by (with_reducible repeat (first | apply bN | apply bD | apply bA)); exact BK740.out) hb)
      have n1_ := Aside0.mk (bB (g := gb741) (o := .cells #[.int .i64 a1_0, .int .i64 a1_1] 47 (0, 0)) (by (with_reducible repeat (first | apply bN | apply bD | apply bA)); exact BK741.out) hb)
      have n2_ := Aside0.mk (bB (g := gb744) (o := .cells #[.int .i64 t742, .int .i64 t743] 47 (0, 0)) (by (with_reducible repeat (first | apply bN | apply bD | apply bA)); exact BK744.out) hb)
      have n3_ := Aside0.mk (cT (by repeat (first | (with_reducible first | exact HB.out | apply cA | apply cN | apply cD | refine cS ?_ GE740.out | refine cS ?_ GE741.out | refine cS ?_ GE744.out) | exact HB.out)) hb)
      clear BK740
      clear BK741
      clear BK744
      clear HB
      have BK740 := n0_
      have BK741 := n1_
      have BK744 := n2_
      have HB := n3_
      clear n0_ n1_ n2_ n3_
      (try clear hb)
      (try clear hb2)
      (try clear hk)
      (try clear hi)
      refine hK.out _ _ ⟨(bC BK740.out 0).trans rfl, (bC BK740.out 1).trans rfl, (bC BK741.out 0).trans rfl, (bC BK741.out 1).trans rfl, (bC BK744.out 0).trans rfl, (bC BK744.out 1).trans rfl⟩ (fun hHeld => ?_)
      clear hK K
      refine norm_ (a' := ?_) ?_ ?_
      rotate_left
      · show Act.put _ (some 17) _ = _
        simp only [Act.put, List.setIfInBounds_toArray, List.set_cons_zero, List.set_cons_succ, i64_w, i32_w]
        rfl
      refine pure_ (i := 7) (N := some 18) (v := ?_) (a' := ?_) #[true, true, true, true, true, true, true, true, false, false, false, false, false, false, false, false, false, false, false, false, false, false, false, false, false] rfl rfl (any_of HT_.out (by kernel_rfl)) (fun _ _ _ h => h) (Or.inl ⟨by rfl, ?_⟩) ?_ ?_
      rotate_left
      · intro w'
        go_simp
        with_reducible rfl
      rotate_left
      · simp only [Act.put, List.setIfInBounds_toArray, List.set_cons_zero, List.set_cons_succ, i64_w, i32_w]
        rfl
      refine pure_ (i := 8) (N := some 19) (v := ?_) (a' := ?_) #[true, true, true, true, true, true, true, true, true, false, false, false, false, false, false, false, false, false, false, false, false, false, false, false, false] rfl rfl (any_of HT_.out (by kernel_rfl)) (fun _ _ _ h => h) (Or.inl ⟨by rfl, ?_⟩) ?_ ?_
      rotate_left
      · intro w'
        go_simp
        with_reducible rfl
      rotate_left
      · simp only [Act.put, List.setIfInBounds_toArray, List.set_cons_zero, List.set_cons_succ, i64_w, i32_w]
        rfl
      refine pure_ (i := 9) (N := some 20) (v := ?_) (a' := ?_) #[true, true, true, true, true, true, true, true, true, true, false, false, false, false, false, false, false, false, false, false, false, false, false, false, false] rfl rfl (any_of HT_.out (by kernel_rfl)) (fun _ _ _ h => h) (Or.inl ⟨by rfl, ?_⟩) ?_ ?_
      rotate_left
      · intro w'
        go_simp
        with_reducible rfl
      rotate_left
      · simp only [Act.put, List.setIfInBounds_toArray, List.set_cons_zero, List.set_cons_succ, i64_w, i32_w]
        rfl
      refine pure_ (i := 11) (N := some 22) (v := ?_) (a' := ?_) #[true, true, true, true, true, true, true, true, true, true, false, true, false, false, false, false, false, false, false, false, false, false, false, false, false] rfl rfl (any_of HT_.out (by kernel_rfl)) (fun _ _ _ h => h) (Or.inl ⟨by rfl, ?_⟩) ?_ ?_
      rotate_left
      · intro w'
        go_simp
        with_reducible rfl
      rotate_left
      · simp only [Act.put, List.setIfInBounds_toArray, List.set_cons_zero, List.set_cons_succ, i64_w, i32_w]
        rfl
      refine pure_ (i := 14) (N := some 25) (v := ?_) (a' := ?_) #[true, true, true, true, true, true, true, true, true, true, false, true, false, false, true, false, false, false, false, false, false, false, false, false, false] rfl rfl (any_of HT_.out (by kernel_rfl)) (fun _ _ _ h => h) (Or.inl ⟨by rfl, ?_⟩) ?_ ?_
      rotate_left
      · intro w'
        go_simp
        with_reducible rfl
      rotate_left
      · simp only [Act.put, List.setIfInBounds_toArray, List.set_cons_zero, List.set_cons_succ, i64_w, i32_w]
        rfl
      refine take_ (i := 10) (N := some 21) (v := ?_) (a' := ?_) #[true, true, true, true, true, true, true, true, true, true, true, true, false, false, true, false, false, false, false, false, false, false, false, false, false] rfl rfl (take_ofW HT_.out HW_.out (by kernel_rfl)) (fun _ _ _ h => h) (Or.inl ⟨by rfl, ?_⟩) hHeld ?_ ?_
      rotate_left
      · rintro w' ⟨s0, s1, s2, s3, s4, s5⟩
        go_simp
        with_reducible rfl
      rotate_left
      · simp only [Act.put, List.setIfInBounds_toArray, List.set_cons_zero, List.set_cons_succ, i64_w, i32_w]
        rfl
      refine take_ (i := 13) (N := some 24) (v := ?_) (a' := ?_) #[true, true, true, true, true, true, true, true, true, true, true, true, false, true, true, false, false, false, false, false, false, false, false, false, false] rfl rfl (take_ofW HT_.out HW_.out (by kernel_rfl)) (fun _ _ _ h => h) (Or.inl ⟨by rfl, ?_⟩) hHeld ?_ ?_
      rotate_left
      · rintro w' ⟨s0, s1, s2, s3, s4, s5⟩
        go_simp
        with_reducible rfl
      rotate_left
      · simp only [Act.put, List.setIfInBounds_toArray, List.set_cons_zero, List.set_cons_succ, i64_w, i32_w]
        rfl
      refine one_ (i := 12) (N := some 23) #[true, true, true, true, true, true, true, true, true, true, true, true, true, true, true, false, false, false, false, false, false, false, false, false, false] rfl rfl (one_of HT_.out (by kernel_rfl)) (by decide) (fun K hK => ?_)
      refine goes_ Try.func32 (by kernel_rfl) rfl #[.agg #[.int .i64 a0_0, .int .i64 a0_1], .int .i64 a2] (by rfl) rfl rfl (by (try simp only [List.map_toArray, List.map_cons, List.map_nil]); first | done | rfl | (simp only [List.length_drop, List.length_take]; rfl)) ?_
      with_reducible refine (span_Has.calls a0_0 a0_1 a2 t748 _ A21.out).mono ?_
      rintro e w30 ⟨rfl, hb⟩
      refine ⟨_, rfl, ?_⟩
      have n0_ := Aside0.mk (bB (g := gb740) (o := .cells #[.int .i64 a0_0, .int .i64 a0_1] 47 (0, 0)) (by (with_reducible repeat (first | apply bN | apply bD | apply bA)); exact BK740.out) hb)
      have n1_ := Aside0.mk (bB (g := gb741) (o := .cells #[.int .i64 a1_0, .int .i64 a1_1] 47 (0, 0)) (by (with_reducible repeat (first | apply bN | apply bD | apply bA)); exact BK741.out) hb)
      have n2_ := Aside0.mk (bB (g := gb744) (o := .cells #[.int .i64 t742, .int .i64 t743] 47 (0, 0)) (by (with_reducible repeat (first | apply bN | apply bD | apply bA)); exact BK744.out) hb)
      have n3_ := Aside0.mk (cT (by repeat (first | (with_reducible first | exact HB.out | apply cA | apply cN | apply cD | refine cS ?_ GE740.out | refine cS ?_ GE741.out | refine cS ?_ GE744.out) | exact HB.out)) hb)
      clear BK740
      clear BK741
      clear BK744
      clear HB
      have BK740 := n0_
      have BK741 := n1_
      have BK744 := n2_
      have HB := n3_
      clear n0_ n1_ n2_ n3_
      (try clear hb)
      (try clear hb2)
      (try clear hk)
      (try clear hi)
      refine hK.out _ _ ⟨(bC BK740.out 0).trans rfl, (bC BK740.out 1).trans rfl, (bC BK741.out 0).trans rfl, (bC BK741.out 1).trans rfl, (bC BK744.out 0).trans rfl, (bC BK744.out 1).trans rfl⟩ (fun hHeld => ?_)
      clear hK K
      refine norm_ (a' := ?_) ?_ ?_
      rotate_left
      · show Act.put _ (some 23) _ = _
        simp only [Act.put, List.setIfInBounds_toArray, List.set_cons_zero, List.set_cons_succ, i64_w, i32_w]
        rfl
      refine one_ (i := 15) (N := some 26) #[true, true, true, true, true, true, true, true, true, true, true, true, true, true, true, true, false, false, false, false, false, false, false, false, false] rfl rfl (one_of HT_.out (by kernel_rfl)) (by decide) (fun K hK => ?_)
      refine goes_ Try.func33 (by kernel_rfl) rfl #[.agg #[.int .i64 a0_0, .int .i64 a0_1], .int .i64 a2] (by rfl) rfl rfl (by (try simp only [List.map_toArray, List.map_cons, List.map_nil]); first | done | rfl | (simp only [List.length_drop, List.length_take]; rfl)) ?_
      with_reducible refine (damaskref05_Has.calls a0_0 a0_1 a2 t749 _ A22.out).mono ?_
      rintro e w31 ⟨rfl, hb⟩
      refine ⟨_, rfl, ?_⟩
      have n0_ := Aside0.mk (bB (g := gb740) (o := .cells #[.int .i64 a0_0, .int .i64 a0_1] 47 (0, 0)) (by (with_reducible repeat (first | apply bN | apply bD | apply bA)); exact BK740.out) hb)
      have n1_ := Aside0.mk (bB (g := gb741) (o := .cells #[.int .i64 a1_0, .int .i64 a1_1] 47 (0, 0)) (by (with_reducible repeat (first | apply bN | apply bD | apply bA)); exact BK741.out) hb)
      have n2_ := Aside0.mk (bB (g := gb744) (o := .cells #[.int .i64 t742, .int .i64 t743] 47 (0, 0)) (by (with_reducible repeat (first | apply bN | apply bD | apply bA)); exact BK744.out) hb)
      have n3_ := Aside0.mk (cT (by repeat (first | (with_reducible first | exact HB.out | apply cA | apply cN | apply cD | refine cS ?_ GE740.out | refine cS ?_ GE741.out | refine cS ?_ GE744.out) | exact HB.out)) hb)
      clear BK740
      clear BK741
      clear BK744
      clear HB
      have BK740 := n0_
      have BK741 := n1_
      have BK744 := n2_
      have HB := n3_
      clear n0_ n1_ n2_ n3_
      (try clear hb)
      (try clear hb2)
      (try clear hk)
      (try clear hi)
      refine hK.out _ _ ⟨(bC BK740.out 0).trans rfl, (bC BK740.out 1).trans rfl, (bC BK741.out 0).trans rfl, (bC BK741.out 1).trans rfl, (bC BK744.out 0).trans rfl, (bC BK744.out 1).trans rfl⟩ (fun hHeld => ?_)
      clear hK K
      refine norm_ (a' := ?_) ?_ ?_
      rotate_left
      · show Act.put _ (some 26) _ = _
        simp only [Act.put, List.setIfInBounds_toArray, List.set_cons_zero, List.set_cons_succ, i64_w, i32_w]
        rfl
      refine pure_ (i := 16) (N := some 27) (v := ?_) (a' := ?_) #[true, true, true, true, true, true, true, true, true, true, true, true, true, true, true, true, true, false, false, false, false, false, false, false, false] rfl rfl (any_of HT_.out (by kernel_rfl)) (fun _ _ _ h => h) (Or.inl ⟨by rfl, ?_⟩) ?_ ?_
      rotate_left
      · intro w'
        go_simp
        with_reducible rfl
      rotate_left
      · simp only [Act.put, List.setIfInBounds_toArray, List.set_cons_zero, List.set_cons_succ, i64_w, i32_w]
        rfl
      refine pure_ (i := 17) (N := some 28) (v := ?_) (a' := ?_) #[true, true, true, true, true, true, true, true, true, true, true, true, true, true, true, true, true, true, false, false, false, false, false, false, false] rfl rfl (any_of HT_.out (by kernel_rfl)) (fun _ _ _ h => h) (Or.inl ⟨by rfl, ?_⟩) ?_ ?_
      rotate_left
      · intro w'
        go_simp
        with_reducible rfl
      rotate_left
      · simp only [Act.put, List.setIfInBounds_toArray, List.set_cons_zero, List.set_cons_succ, i64_w, i32_w]
        rfl
      refine pure_ (i := 18) (N := some 29) (v := ?_) (a' := ?_) #[true, true, true, true, true, true, true, true, true, true, true, true, true, true, true, true, true, true, true, false, false, false, false, false, false] rfl rfl (any_of HT_.out (by kernel_rfl)) (fun _ _ _ h => h) (Or.inl ⟨by rfl, ?_⟩) ?_ ?_
      rotate_left
      · intro w'
        go_simp
        with_reducible rfl
      rotate_left
      · simp only [Act.put, List.setIfInBounds_toArray, List.set_cons_zero, List.set_cons_succ, i64_w, i32_w]
        rfl
      refine take_ (i := 19) (N := some 30) (v := ?_) (a' := ?_) #[true, true, true, true, true, true, true, true, true, true, true, true, true, true, true, true, true, true, true, true, false, false, false, false, false] rfl rfl (take_ofW HT_.out HW_.out (by kernel_rfl)) (fun _ _ _ h => h) (Or.inl ⟨by rfl, ?_⟩) hHeld ?_ ?_
      rotate_left
      · rintro w' ⟨s0, s1, s2, s3, s4, s5⟩
        go_simp
        with_reducible rfl
      rotate_left
      · simp only [Act.put, List.setIfInBounds_toArray, List.set_cons_zero, List.set_cons_succ, i64_w, i32_w]
        rfl
      refine take_ (i := 20) (N := some 31) (v := ?_) (a' := ?_) #[true, true, true, true, true, true, true, true, true, true, true, true, true, true, true, true, true, true, true, true, true, false, false, false, false] rfl rfl (take_ofW HT_.out HW_.out (by kernel_rfl)) (fun _ _ _ h => h) (Or.inl ⟨by rfl, ?_⟩) hHeld ?_ ?_
      rotate_left
      · rintro w' ⟨s0, s1, s2, s3, s4, s5⟩
        go_simp
        with_reducible rfl
      rotate_left
      · simp only [Act.put, List.setIfInBounds_toArray, List.set_cons_zero, List.set_cons_succ, i64_w, i32_w]
        rfl
      refine take_ (i := 22) (N := some 33) (v := ?_) (a' := ?_) #[true, true, true, true, true, true, true, true, true, true, true, true, true, true, true, true, true, true, true, true, true, false, true, false, false] rfl rfl (take_ofW HT_.out HW_.out (by kernel_rfl)) (fun _ _ _ h => h) (Or.inl ⟨by rfl, ?_⟩) hHeld ?_ ?_
      rotate_left
      · rintro w' ⟨s0, s1, s2, s3, s4, s5⟩
        go_simp
        with_reducible rfl
      rotate_left
      · simp only [Act.put, List.setIfInBounds_toArray, List.set_cons_zero, List.set_cons_succ, i64_w, i32_w]
        rfl
      refine one_ (i := 21) (N := some 32) #[true, true, true, true, true, true, true, true, true, true, true, true, true, true, true, true, true, true, true, true, true, true, true, false, false] rfl rfl (one_of HT_.out (by kernel_rfl)) (by decide) (fun K hK => ?_)
      refine goes_ Try.func29 (by kernel_rfl) rfl #[.agg #[.int .i64 a1_0, .int .i64 a1_1], .agg #[.int .i64 a0_0, .int .i64 a0_1]] (by rfl) rfl rfl (by (try simp only [List.map_toArray, List.map_cons, List.map_nil]); first | done | rfl | (simp only [List.length_drop, List.length_take]; rfl)) ?_
      with_reducible refine (span_Join.calls a1_0 a1_1 a0_0 a0_1 t750 t751 _ A24.out).mono ?_
      rintro e w32 ⟨rfl, hb⟩
      refine ⟨_, rfl, ?_⟩
      have n0_ := Aside0.mk (bB (g := gb740) (o := .cells #[.int .i64 a0_0, .int .i64 a0_1] 47 (0, 0)) (by (with_reducible repeat (first | apply bN | apply bD | apply bA)); exact BK740.out) hb)
      have n1_ := Aside0.mk (bB (g := gb741) (o := .cells #[.int .i64 a1_0, .int .i64 a1_1] 47 (0, 0)) (by (with_reducible repeat (first | apply bN | apply bD | apply bA)); exact BK741.out) hb)
      have n2_ := Aside0.mk (bB (g := gb744) (o := .cells #[.int .i64 t742, .int .i64 t743] 47 (0, 0)) (by (with_reducible repeat (first | apply bN | apply bD | apply bA)); exact BK744.out) hb)
      have n3_ := Aside0.mk (cT (by repeat (first | (with_reducible first | exact HB.out | apply cA | apply cN | apply cD | refine cS ?_ GE740.out | refine cS ?_ GE741.out | refine cS ?_ GE744.out) | exact HB.out)) hb)
      clear BK740
      clear BK741
      clear BK744
      clear HB
      have BK740 := n0_
      have BK741 := n1_
      have BK744 := n2_
      have HB := n3_
      clear n0_ n1_ n2_ n3_
      (try clear hb)
      (try clear hb2)
      (try clear hk)
      (try clear hi)
      refine hK.out _ _ ⟨(bC BK740.out 0).trans rfl, (bC BK740.out 1).trans rfl, (bC BK741.out 0).trans rfl, (bC BK741.out 1).trans rfl, (bC BK744.out 0).trans rfl, (bC BK744.out 1).trans rfl⟩ (fun hHeld => ?_)
      clear hK K
      refine norm_ (a' := ?_) ?_ ?_
      rotate_left
      · show Act.put _ (some 32) _ = _
        simp only [Act.put, List.setIfInBounds_toArray, List.set_cons_zero, List.set_cons_succ, i64_w, i32_w]
        rfl
      refine pure_ (i := 23) (N := some 34) (v := ?_) (a' := ?_) #[true, true, true, true, true, true, true, true, true, true, true, true, true, true, true, true, true, true, true, true, true, true, true, true, false] rfl rfl (any_of HT_.out (by kernel_rfl)) (fun _ _ _ h => h) (Or.inl ⟨by rfl, ?_⟩) ?_ ?_
      rotate_left
      · intro w'
        go_simp
        with_reducible rfl
      rotate_left
      · simp only [Act.put, List.setIfInBounds_toArray, List.set_cons_zero, List.set_cons_succ, i64_w, i32_w]
        rfl
      refine pure_ (i := 24) (N := some 35) (v := ?_) (a' := ?_) #[true, true, true, true, true, true, true, true, true, true, true, true, true, true, true, true, true, true, true, true, true, true, true, true, true] rfl rfl (any_of HT_.out (by kernel_rfl)) (fun _ _ _ h => h) (Or.inl ⟨by rfl, ?_⟩) ?_ ?_
      rotate_left
      · intro w'
        go_simp
        with_reducible rfl
      rotate_left
      · simp only [Act.put, List.setIfInBounds_toArray, List.set_cons_zero, List.set_cons_succ, i64_w, i32_w]
        rfl
      refine done_ (done_of HT_.out (by kernel_rfl)) ?_
      (try simp only [List.append])
      try go_wp2
      go_meet
      case rel => exact ⟨_, ((!(t750 == t742) || (!(t751 == t743)))), (by first | rfl | (simp; done) | (simp [*]; done)), H', ⟨by first | omega | exact Nat.le_refl _⟩, ⟨by (with_reducible repeat (first | apply bN | apply bD | apply bA)); exact BK740.out⟩, ⟨by (with_reducible repeat (first | apply bN | apply bD | apply bA)); exact BK741.out⟩, ⟨by (with_reducible repeat (first | apply bN | apply bD | apply bA)); exact BK744.out⟩, ⟨by repeat (first | (with_reducible first | exact HB.out | apply cA | apply cN | apply cD | refine cS ?_ GE740.out | refine cS ?_ GE741.out | refine cS ?_ GE744.out) | exact HB.out)⟩⟩
    replace c17 := Bool.eq_false_iff.mpr c17
    subst c17
    have H1 : (damasklaw05_SpanWords.j0 k a2 true a0_0 a0_1 a1_0 a1_1 t742 t743) = some r := by rw [if_neg (show ¬ (false = true) by decide)] at H; exact H
    clear H
    have H := H1
    clear H1
    exact absurd H (by have h_ := hrT.out; subst h_; clear hrT; cases k <;> simp [damasklaw05_SpanWords.j0])
  case rest =>
    clear HC5
    try clear c17
    try clear c20
    try clear c20b0
    try clear c20b1
    try clear c20b2
    try clear c23
    try clear c23b0
    try clear c23b1
    try clear c23b2
    try clear hcz10_0
    try clear hcz10_1
    try clear hcz15_0
    try clear hcz15_1
    try clear hcz9_0
    try clear hcz9_1
    try clear hfz10_0
    try clear hfz10_1
    try clear hfz15_0
    try clear hfz15_1
    try clear hfz9_0
    try clear hfz9_1
    obtain ⟨kq, x35_4, rfl, HA, HJ4, BK740, BK741, BK744, HB⟩ := hcut
    cases kq with
    | zero => exact absurd HA.out (by simp [damasklaw05_SpanWords.j0])
    | succ kj4 =>
      have H := HA.out
      clear HA
      simp only [damasklaw05_SpanWords.j0] at H
      by_cases c33 : x35_4 = true
      · subst c33
        have H1 : (some false) = some r := by rw [if_pos rfl] at H; exact H
        clear H
        have H := H1
        clear H1
        exact absurd hrT.out (by have h_ := Option.some.inj H; rw [← h_]; decide)
      replace c33 := Bool.eq_false_iff.mpr c33
      subst c33
      have H1 : ((span_Has.f a0_0 a0_1 a2).bind fun t752 => (if t752 = true then ((span_Has.f t742 t743 a2).bind fun t753 => (if t753 = true then (if t742 = a0_0 then (if t743 = a0_1 then (if t742 ≤ a0_0 then (if t742 ≤ a1_0 then (if t743 ≥ a0_1 then (some (decide (t743 ≥ a1_1))) else (some false)) else (some false)) else (some false)) else (if t743 = a1_1 then (if t742 ≤ a0_0 then (if t742 ≤ a1_0 then (if t743 ≥ a0_1 then (some (decide (t743 ≥ a1_1))) else (some false)) else (some false)) else (some false)) else (some false))) else (if t742 = a1_0 then (if t743 = a0_1 then (if t742 ≤ a0_0 then (if t742 ≤ a1_0 then (if t743 ≥ a0_1 then (some (decide (t743 ≥ a1_1))) else (some false)) else (some false)) else (some false)) else (if t743 = a1_1 then (if t742 ≤ a0_0 then (if t742 ≤ a1_0 then (if t743 ≥ a0_1 then (some (decide (t743 ≥ a1_1))) else (some false)) else (some false)) else (some false)) else (some false))) else (some false))) else (some false))) else ((span_Has.f a1_0 a1_1 a2).bind fun t754 => (if t754 = true then ((span_Has.f t742 t743 a2).bind fun t755 => (if t755 = true then (if t742 = a0_0 then (if t743 = a0_1 then (if t742 ≤ a0_0 then (if t742 ≤ a1_0 then (if t743 ≥ a0_1 then (some (decide (t743 ≥ a1_1))) else (some false)) else (some false)) else (some false)) else (if t743 = a1_1 then (if t742 ≤ a0_0 then (if t742 ≤ a1_0 then (if t743 ≥ a0_1 then (some (decide (t743 ≥ a1_1))) else (some false)) else (some false)) else (some false)) else (some false))) else (if t742 = a1_0 then (if t743 = a0_1 then (if t742 ≤ a0_0 then (if t742 ≤ a1_0 then (if t743 ≥ a0_1 then (some (decide (t743 ≥ a1_1))) else (some false)) else (some false)) else (some false)) else (if t743 = a1_1 then (if t742 ≤ a0_0 then (if t742 ≤ a1_0 then (if t743 ≥ a0_1 then (some (decide (t743 ≥ a1_1))) else (some false)) else (some false)) else (some false)) else (some false))) else (some false))) else (some false))) else (if t742 = a0_0 then (if t743 = a0_1 then (if t742 ≤ a0_0 then (if t742 ≤ a1_0 then (if t743 ≥ a0_1 then (some (decide (t743 ≥ a1_1))) else (some false)) else (some false)) else (some false)) else (if t743 = a1_1 then (if t742 ≤ a0_0 then (if t742 ≤ a1_0 then (if t743 ≥ a0_1 then (some (decide (t743 ≥ a1_1))) else (some false)) else (some false)) else (some false)) else (some false))) else (if t742 = a1_0 then (if t743 = a0_1 then (if t742 ≤ a0_0 then (if t742 ≤ a1_0 then (if t743 ≥ a0_1 then (some (decide (t743 ≥ a1_1))) else (some false)) else (some false)) else (some false)) else (if t743 = a1_1 then (if t742 ≤ a0_0 then (if t742 ≤ a1_0 then (if t743 ≥ a0_1 then (some (decide (t743 ≥ a1_1))) else (some false)) else (some false)) else (some false)) else (some false))) else (some false))))))) = some r := by rw [if_neg (show ¬ (false = true) by decide)] at H; exact H
      clear H
      have H := H1
      clear H1
      replace H := Option.bind_eq_some_iff.mp H
      obtain ⟨t752, A340, H⟩ := H
      replace H : (if t752 = true then ((span_Has.f t742 t743 a2).bind fun t753 => (if t753 = true then (if t742 = a0_0 then (if t743 = a0_1 then (if t742 ≤ a0_0 then (if t742 ≤ a1_0 then (if t743 ≥ a0_1 then (some (decide (t743 ≥ a1_1))) else (some false)) else (some false)) else (some false)) else (if t743 = a1_1 then (if t742 ≤ a0_0 then (if t742 ≤ a1_0 then (if t743 ≥ a0_1 then (some (decide (t743 ≥ a1_1))) else (some false)) else (some false)) else (some false)) else (some false))) else (if t742 = a1_0 then (if t743 = a0_1 then (if t742 ≤ a0_0 then (if t742 ≤ a1_0 then (if t743 ≥ a0_1 then (some (decide (t743 ≥ a1_1))) else (some false)) else (some false)) else (some false)) else (if t743 = a1_1 then (if t742 ≤ a0_0 then (if t742 ≤ a1_0 then (if t743 ≥ a0_1 then (some (decide (t743 ≥ a1_1))) else (some false)) else (some false)) else (some false)) else (some false))) else (some false))) else (some false))) else ((span_Has.f a1_0 a1_1 a2).bind fun t754 => (if t754 = true then ((span_Has.f t742 t743 a2).bind fun t755 => (if t755 = true then (if t742 = a0_0 then (if t743 = a0_1 then (if t742 ≤ a0_0 then (if t742 ≤ a1_0 then (if t743 ≥ a0_1 then (some (decide (t743 ≥ a1_1))) else (some false)) else (some false)) else (some false)) else (if t743 = a1_1 then (if t742 ≤ a0_0 then (if t742 ≤ a1_0 then (if t743 ≥ a0_1 then (some (decide (t743 ≥ a1_1))) else (some false)) else (some false)) else (some false)) else (some false))) else (if t742 = a1_0 then (if t743 = a0_1 then (if t742 ≤ a0_0 then (if t742 ≤ a1_0 then (if t743 ≥ a0_1 then (some (decide (t743 ≥ a1_1))) else (some false)) else (some false)) else (some false)) else (if t743 = a1_1 then (if t742 ≤ a0_0 then (if t742 ≤ a1_0 then (if t743 ≥ a0_1 then (some (decide (t743 ≥ a1_1))) else (some false)) else (some false)) else (some false)) else (some false))) else (some false))) else (some false))) else (if t742 = a0_0 then (if t743 = a0_1 then (if t742 ≤ a0_0 then (if t742 ≤ a1_0 then (if t743 ≥ a0_1 then (some (decide (t743 ≥ a1_1))) else (some false)) else (some false)) else (some false)) else (if t743 = a1_1 then (if t742 ≤ a0_0 then (if t742 ≤ a1_0 then (if t743 ≥ a0_1 then (some (decide (t743 ≥ a1_1))) else (some false)) else (some false)) else (some false)) else (some false))) else (if t742 = a1_0 then (if t743 = a0_1 then (if t742 ≤ a0_0 then (if t742 ≤ a1_0 then (if t743 ≥ a0_1 then (some (decide (t743 ≥ a1_1))) else (some false)) else (some false)) else (some false)) else (if t743 = a1_1 then (if t742 ≤ a0_0 then (if t742 ≤ a1_0 then (if t743 ≥ a0_1 then (some (decide (t743 ≥ a1_1))) else (some false)) else (some false)) else (some false)) else (some false))) else (some false)))))) = some r := H
      have A34 := Aside0.mk A340
      clear A340
      by_cases c35 : t752 = true
      · subst c35
        have H1 : ((span_Has.f t742 t743 a2).bind fun t753 => (if t753 = true then (if t742 = a0_0 then (if t743 = a0_1 then (if t742 ≤ a0_0 then (if t742 ≤ a1_0 then (if t743 ≥ a0_1 then (some (decide (t743 ≥ a1_1))) else (some false)) else (some false)) else (some false)) else (if t743 = a1_1 then (if t742 ≤ a0_0 then (if t742 ≤ a1_0 then (if t743 ≥ a0_1 then (some (decide (t743 ≥ a1_1))) else (some false)) else (some false)) else (some false)) else (some false))) else (if t742 = a1_0 then (if t743 = a0_1 then (if t742 ≤ a0_0 then (if t742 ≤ a1_0 then (if t743 ≥ a0_1 then (some (decide (t743 ≥ a1_1))) else (some false)) else (some false)) else (some false)) else (if t743 = a1_1 then (if t742 ≤ a0_0 then (if t742 ≤ a1_0 then (if t743 ≥ a0_1 then (some (decide (t743 ≥ a1_1))) else (some false)) else (some false)) else (some false)) else (some false))) else (some false))) else (some false))) = some r := by rw [if_pos rfl] at H; exact H
        clear H
        have H := H1
        clear H1
        replace H := Option.bind_eq_some_iff.mp H
        obtain ⟨t753, A360, H⟩ := H
        replace H : (if t753 = true then (if t742 = a0_0 then (if t743 = a0_1 then (if t742 ≤ a0_0 then (if t742 ≤ a1_0 then (if t743 ≥ a0_1 then (some (decide (t743 ≥ a1_1))) else (some false)) else (some false)) else (some false)) else (if t743 = a1_1 then (if t742 ≤ a0_0 then (if t742 ≤ a1_0 then (if t743 ≥ a0_1 then (some (decide (t743 ≥ a1_1))) else (some false)) else (some false)) else (some false)) else (some false))) else (if t742 = a1_0 then (if t743 = a0_1 then (if t742 ≤ a0_0 then (if t742 ≤ a1_0 then (if t743 ≥ a0_1 then (some (decide (t743 ≥ a1_1))) else (some false)) else (some false)) else (some false)) else (if t743 = a1_1 then (if t742 ≤ a0_0 then (if t742 ≤ a1_0 then (if t743 ≥ a0_1 then (some (decide (t743 ≥ a1_1))) else (some false)) else (some false)) else (some false)) else (some false))) else (some false))) else (some false)) = some r := H
        have A36 := Aside0.mk A360
        clear A360
        by_cases c37 : t753 = true
        · subst c37
          have H1 : (if t742 = a0_0 then (if t743 = a0_1 then (if t742 ≤ a0_0 then (if t742 ≤ a1_0 then (if t743 ≥ a0_1 then (some (decide (t743 ≥ a1_1))) else (some false)) else (some false)) else (some false)) else (if t743 = a1_1 then (if t742 ≤ a0_0 then (if t742 ≤ a1_0 then (if t743 ≥ a0_1 then (some (decide (t743 ≥ a1_1))) else (some false)) else (some false)) else (some false)) else (some false))) else (if t742 = a1_0 then (if t743 = a0_1 then (if t742 ≤ a0_0 then (if t742 ≤ a1_0 then (if t743 ≥ a0_1 then (some (decide (t743 ≥ a1_1))) else (some false)) else (some false)) else (some false)) else (if t743 = a1_1 then (if t742 ≤ a0_0 then (if t742 ≤ a1_0 then (if t743 ≥ a0_1 then (some (decide (t743 ≥ a1_1))) else (some false)) else (some false)) else (some false)) else (some false))) else (some false))) = some r := by rw [if_pos rfl] at H; exact H
          clear H
          have H := H1
          clear H1
          by_cases c38 : t742 = a0_0
          · rw [if_pos c38] at H
            have c38b0 : (t742 == a0_0) = true := beq_iff_eq.mpr c38
            have c38b1 : (t742 != a0_0) = false := bne_eq_false_iff_eq.mpr c38
            clear c38
            by_cases c39 : t743 = a0_1
            · rw [if_pos c39] at H
              have c39b0 : (t743 == a0_1) = true := beq_iff_eq.mpr c39
              have c39b1 : (t743 != a0_1) = false := bne_eq_false_iff_eq.mpr c39
              clear c39
              by_cases c40 : t742 ≤ a0_0
              · rw [if_pos c40] at H
                have c40b0 : decide (t742 ≤ a0_0) = true := decide_eq_true c40
                clear c40
                by_cases c41 : t742 ≤ a1_0
                · rw [if_pos c41] at H
                  have c41b0 : decide (t742 ≤ a1_0) = true := decide_eq_true c41
                  clear c41
                  by_cases c42 : t743 ≥ a0_1
                  · rw [if_pos c42] at H
                    have c42b0 : decide (a0_1 ≤ t743) = true := decide_eq_true c42
                    clear c42
                    obtain rfl := Option.some.inj H
                    have hnb43 := NB740_741.out
                    have hnc43 := NB741_740.out
                    have hnb44 := NB740_744.out
                    have hnc44 := NB744_740.out
                    have hcz45_0 : wc.cell? ⟨gb740, 0, none⟩ = some (.int .i64 a0_0) := (bC BK740.out 0).trans rfl
                    have hcz45_1 : wc.cell? ⟨gb740, 1, none⟩ = some (.int .i64 a0_1) := (bC BK740.out 1).trans rfl
                    have hfz45_0 := bZ BK740.out 0
                    have hfz45_1 := bZ BK740.out 1
                    (try simp only [List.append])
                    go_wp2_with (first | ((with_reducible refine gate_callee (f := 32) rfl ?_); refine goesL_ (some 38) rfl rfl Try.func32 (by kernel_rfl) rfl #[.agg #[.int .i64 a0_0, .int .i64 a0_1], .int .i64 a2] rfl (by (try simp only [List.map_toArray, List.map_cons, List.map_nil]); first | done | rfl | (simp only [List.length_drop, List.length_take]; rfl)) ?_; (with_reducible refine (span_Has.calls a0_0 a0_1 a2 true _ A34.out).mono ?_); rintro e w46 ⟨rfl, hb⟩; refine ⟨_, rfl, ?_⟩; have n0_ := Aside0.mk (bB (g := gb740) (o := .cells #[.int .i64 a0_0, .int .i64 a0_1] 47 (0, 0)) (by (with_reducible repeat (first | apply bN | apply bD | apply bA)); exact BK740.out) hb); have n1_ := Aside0.mk (bB (g := gb741) (o := .cells #[.int .i64 a1_0, .int .i64 a1_1] 47 (0, 0)) (by (with_reducible repeat (first | apply bN | apply bD | apply bA)); exact BK741.out) hb); have n2_ := Aside0.mk (bB (g := gb744) (o := .cells #[.int .i64 t742, .int .i64 t743] 47 (0, 0)) (by (with_reducible repeat (first | apply bN | apply bD | apply bA)); exact BK744.out) hb); have n3_ := Aside0.mk (cT (by repeat (first | (with_reducible first | exact HB.out | apply cA | apply cN | apply cD | refine cS ?_ GE740.out | refine cS ?_ GE741.out | refine cS ?_ GE744.out) | exact HB.out)) hb); clear BK740; clear BK741; clear BK744; clear HB; have BK740 := n0_; have BK741 := n1_; have BK744 := n2_; have HB := n3_; clear n0_ n1_ n2_ n3_; (try clear hb); (try clear hb2); (try clear hk); (try clear hi); have hnb47 := NB744_741.out; have hnc47 := NB741_744.out; have hcz48_0 : w46.cell? ⟨gb744, 0, none⟩ = some (.int .i64 t742) := (bC BK744.out 0).trans rfl; have hcz48_1 : w46.cell? ⟨gb744, 1, none⟩ = some (.int .i64 t743) := (bC BK744.out 1).trans rfl; have hfz48_0 := bZ BK744.out 0; have hfz48_1 := bZ BK744.out 1) | (go_at_call 32; (with_reducible refine (span_Has.calls t742 t743 a2 true _ A36.out).mono ?_); rintro e w49 ⟨rfl, hb⟩; have n0_ := Aside0.mk (bB (g := gb740) (o := .cells #[.int .i64 a0_0, .int .i64 a0_1] 47 (0, 0)) (by (with_reducible repeat (first | apply bN | apply bD | apply bA)); exact BK740.out) hb); have n1_ := Aside0.mk (bB (g := gb741) (o := .cells #[.int .i64 a1_0, .int .i64 a1_1] 47 (0, 0)) (by (with_reducible repeat (first | apply bN | apply bD | apply bA)); exact BK741.out) hb); have n2_ := Aside0.mk (bB (g := gb744) (o := .cells #[.int .i64 t742, .int .i64 t743] 47 (0, 0)) (by (with_reducible repeat (first | apply bN | apply bD | apply bA)); exact BK744.out) hb); have n3_ := Aside0.mk (cT (by repeat (first | (with_reducible first | exact HB.out | apply cA | apply cN | apply cD | refine cS ?_ GE740.out | refine cS ?_ GE741.out | refine cS ?_ GE744.out) | exact HB.out)) hb); clear BK740; clear BK741; clear BK744; clear HB; have BK740 := n0_; have BK741 := n1_; have BK744 := n2_; have HB := n3_; clear n0_ n1_ n2_ n3_; (try clear hb); (try clear hb2); (try clear hk); (try clear hi); have hcz50_0 : w49.cell? ⟨gb744, 0, none⟩ = some (.int .i64 t742) := (bC BK744.out 0).trans rfl; have hcz50_1 : w49.cell? ⟨gb744, 1, none⟩ = some (.int .i64 t743) := (bC BK744.out 1).trans rfl; have hfz50_0 := bZ BK744.out 0; have hfz50_1 := bZ BK744.out 1; have hcz51_0 : w49.cell? ⟨gb740, 0, none⟩ = some (.int .i64 a0_0) := (bC BK740.out 0).trans rfl; have hcz51_1 : w49.cell? ⟨gb740, 1, none⟩ = some (.int .i64 a0_1) := (bC BK740.out 1).trans rfl; have hfz51_0 := bZ BK740.out 0; have hfz51_1 := bZ BK740.out 1; have hcz52_0 : w49.cell? ⟨gb741, 0, none⟩ = some (.int .i64 a1_0) := (bC BK741.out 0).trans rfl; have hcz52_1 : w49.cell? ⟨gb741, 1, none⟩ = some (.int .i64 a1_1) := (bC BK741.out 1).trans rfl; have hfz52_0 := bZ BK741.out 0; have hfz52_1 := bZ BK741.out 1))
                    go_ret
                    exact ⟨by first | rfl | (simp [errW_none, errW_some] <;> rfl) | (simp [*, errW_none, errW_some] <;> rfl), by repeat (first | (with_reducible first | exact HB.out | apply cA | apply cN | apply cD | refine cS ?_ GE740.out | refine cS ?_ GE741.out | refine cS ?_ GE744.out) | exact HB.out)⟩
                  rw [if_neg c42] at H
                  have c42b0 : decide (a0_1 ≤ t743) = false := decide_eq_false c42
                  clear c42
                  exact absurd hrT.out (by have h_ := Option.some.inj H; rw [← h_]; decide)
                rw [if_neg c41] at H
                have c41b0 : decide (t742 ≤ a1_0) = false := decide_eq_false c41
                clear c41
                exact absurd hrT.out (by have h_ := Option.some.inj H; rw [← h_]; decide)
              rw [if_neg c40] at H
              have c40b0 : decide (t742 ≤ a0_0) = false := decide_eq_false c40
              clear c40
              exact absurd hrT.out (by have h_ := Option.some.inj H; rw [← h_]; decide)
            rw [if_neg c39] at H
            have c39b0 : (t743 == a0_1) = false := beq_eq_false_iff_ne.mpr c39
            have c39b1 : (t743 != a0_1) = true := bne_iff_ne.mpr c39
            by_cases c53 : t743 = a1_1
            · rw [if_pos c53] at H
              have c53b0 : (t743 == a1_1) = true := beq_iff_eq.mpr c53
              have c53b1 : (t743 != a1_1) = false := bne_eq_false_iff_eq.mpr c53
              clear c53
              by_cases c54 : t742 ≤ a0_0
              · rw [if_pos c54] at H
                have c54b0 : decide (t742 ≤ a0_0) = true := decide_eq_true c54
                clear c54
                by_cases c55 : t742 ≤ a1_0
                · rw [if_pos c55] at H
                  have c55b0 : decide (t742 ≤ a1_0) = true := decide_eq_true c55
                  clear c55
                  by_cases c56 : t743 ≥ a0_1
                  · rw [if_pos c56] at H
                    have c56b0 : decide (a0_1 ≤ t743) = true := decide_eq_true c56
                    clear c56
                    obtain rfl := Option.some.inj H
                    have hnb57 := NB740_741.out
                    have hnc57 := NB741_740.out
                    have hnb58 := NB740_744.out
                    have hnc58 := NB744_740.out
                    have hcz59_0 : wc.cell? ⟨gb740, 0, none⟩ = some (.int .i64 a0_0) := (bC BK740.out 0).trans rfl
                    have hcz59_1 : wc.cell? ⟨gb740, 1, none⟩ = some (.int .i64 a0_1) := (bC BK740.out 1).trans rfl
                    have hfz59_0 := bZ BK740.out 0
                    have hfz59_1 := bZ BK740.out 1
                    (try simp only [List.append])
                    go_wp2_with (first | ((with_reducible refine gate_callee (f := 32) rfl ?_); refine goesL_ (some 38) rfl rfl Try.func32 (by kernel_rfl) rfl #[.agg #[.int .i64 a0_0, .int .i64 a0_1], .int .i64 a2] rfl (by (try simp only [List.map_toArray, List.map_cons, List.map_nil]); first | done | rfl | (simp only [List.length_drop, List.length_take]; rfl)) ?_; (with_reducible refine (span_Has.calls a0_0 a0_1 a2 true _ A34.out).mono ?_); rintro e w60 ⟨rfl, hb⟩; refine ⟨_, rfl, ?_⟩; have n0_ := Aside0.mk (bB (g := gb740) (o := .cells #[.int .i64 a0_0, .int .i64 a0_1] 47 (0, 0)) (by (with_reducible repeat (first | apply bN | apply bD | apply bA)); exact BK740.out) hb); have n1_ := Aside0.mk (bB (g := gb741) (o := .cells #[.int .i64 a1_0, .int .i64 a1_1] 47 (0, 0)) (by (with_reducible repeat (first | apply bN | apply bD | apply bA)); exact BK741.out) hb); have n2_ := Aside0.mk (bB (g := gb744) (o := .cells #[.int .i64 t742, .int .i64 t743] 47 (0, 0)) (by (with_reducible repeat (first | apply bN | apply bD | apply bA)); exact BK744.out) hb); have n3_ := Aside0.mk (cT (by repeat (first | (with_reducible first | exact HB.out | apply cA | apply cN | apply cD | refine cS ?_ GE740.out | refine cS ?_ GE741.out | refine cS ?_ GE744.out) | exact HB.out)) hb); clear BK740; clear BK741; clear BK744; clear HB; have BK740 := n0_; have BK741 := n1_; have BK744 := n2_; have HB := n3_; clear n0_ n1_ n2_ n3_; (try clear hb); (try clear hb2); (try clear hk); (try clear hi); have hnb61 := NB744_741.out; have hnc61 := NB741_744.out; have hcz62_0 : w60.cell? ⟨gb744, 0, none⟩ = some (.int .i64 t742) := (bC BK744.out 0).trans rfl; have hcz62_1 : w60.cell? ⟨gb744, 1, none⟩ = some (.int .i64 t743) := (bC BK744.out 1).trans rfl; have hfz62_0 := bZ BK744.out 0; have hfz62_1 := bZ BK744.out 1) | (go_at_call 32; (with_reducible refine (span_Has.calls t742 t743 a2 true _ A36.out).mono ?_); rintro e w63 ⟨rfl, hb⟩; have n0_ := Aside0.mk (bB (g := gb740) (o := .cells #[.int .i64 a0_0, .int .i64 a0_1] 47 (0, 0)) (by (with_reducible repeat (first | apply bN | apply bD | apply bA)); exact BK740.out) hb); have n1_ := Aside0.mk (bB (g := gb741) (o := .cells #[.int .i64 a1_0, .int .i64 a1_1] 47 (0, 0)) (by (with_reducible repeat (first | apply bN | apply bD | apply bA)); exact BK741.out) hb); have n2_ := Aside0.mk (bB (g := gb744) (o := .cells #[.int .i64 t742, .int .i64 t743] 47 (0, 0)) (by (with_reducible repeat (first | apply bN | apply bD | apply bA)); exact BK744.out) hb); have n3_ := Aside0.mk (cT (by repeat (first | (with_reducible first | exact HB.out | apply cA | apply cN | apply cD | refine cS ?_ GE740.out | refine cS ?_ GE741.out | refine cS ?_ GE744.out) | exact HB.out)) hb); clear BK740; clear BK741; clear BK744; clear HB; have BK740 := n0_; have BK741 := n1_; have BK744 := n2_; have HB := n3_; clear n0_ n1_ n2_ n3_; (try clear hb); (try clear hb2); (try clear hk); (try clear hi); have hcz64_0 : w63.cell? ⟨gb744, 0, none⟩ = some (.int .i64 t742) := (bC BK744.out 0).trans rfl; have hcz64_1 : w63.cell? ⟨gb744, 1, none⟩ = some (.int .i64 t743) := (bC BK744.out 1).trans rfl; have hfz64_0 := bZ BK744.out 0; have hfz64_1 := bZ BK744.out 1; have hcz65_0 : w63.cell? ⟨gb740, 0, none⟩ = some (.int .i64 a0_0) := (bC BK740.out 0).trans rfl; have hcz65_1 : w63.cell? ⟨gb740, 1, none⟩ = some (.int .i64 a0_1) := (bC BK740.out 1).trans rfl; have hfz65_0 := bZ BK740.out 0; have hfz65_1 := bZ BK740.out 1; have hcz66_0 : w63.cell? ⟨gb741, 0, none⟩ = some (.int .i64 a1_0) := (bC BK741.out 0).trans rfl; have hcz66_1 : w63.cell? ⟨gb741, 1, none⟩ = some (.int .i64 a1_1) := (bC BK741.out 1).trans rfl; have hfz66_0 := bZ BK741.out 0; have hfz66_1 := bZ BK741.out 1))
                    go_ret
                    exact ⟨by first | rfl | (simp [errW_none, errW_some] <;> rfl) | (simp [*, errW_none, errW_some] <;> rfl), by repeat (first | (with_reducible first | exact HB.out | apply cA | apply cN | apply cD | refine cS ?_ GE740.out | refine cS ?_ GE741.out | refine cS ?_ GE744.out) | exact HB.out)⟩
                  rw [if_neg c56] at H
                  have c56b0 : decide (a0_1 ≤ t743) = false := decide_eq_false c56
                  clear c56
                  exact absurd hrT.out (by have h_ := Option.some.inj H; rw [← h_]; decide)
                rw [if_neg c55] at H
                have c55b0 : decide (t742 ≤ a1_0) = false := decide_eq_false c55
                clear c55
                exact absurd hrT.out (by have h_ := Option.some.inj H; rw [← h_]; decide)
              rw [if_neg c54] at H
              have c54b0 : decide (t742 ≤ a0_0) = false := decide_eq_false c54
              clear c54
              exact absurd hrT.out (by have h_ := Option.some.inj H; rw [← h_]; decide)
            rw [if_neg c53] at H
            have c53b0 : (t743 == a1_1) = false := beq_eq_false_iff_ne.mpr c53
            have c53b1 : (t743 != a1_1) = true := bne_iff_ne.mpr c53
            exact absurd hrT.out (by have h_ := Option.some.inj H; rw [← h_]; decide)
          rw [if_neg c38] at H
          have c38b0 : (t742 == a0_0) = false := beq_eq_false_iff_ne.mpr c38
          have c38b1 : (t742 != a0_0) = true := bne_iff_ne.mpr c38
          by_cases c67 : t742 = a1_0
          · rw [if_pos c67] at H
            have c67b0 : (t742 == a1_0) = true := beq_iff_eq.mpr c67
            have c67b1 : (t742 != a1_0) = false := bne_eq_false_iff_eq.mpr c67
            clear c67
            by_cases c68 : t743 = a0_1
            · rw [if_pos c68] at H
              have c68b0 : (t743 == a0_1) = true := beq_iff_eq.mpr c68
              have c68b1 : (t743 != a0_1) = false := bne_eq_false_iff_eq.mpr c68
              clear c68
              by_cases c69 : t742 ≤ a0_0
              · rw [if_pos c69] at H
                have c69b0 : decide (t742 ≤ a0_0) = true := decide_eq_true c69
                clear c69
                by_cases c70 : t742 ≤ a1_0
                · rw [if_pos c70] at H
                  have c70b0 : decide (t742 ≤ a1_0) = true := decide_eq_true c70
                  clear c70
                  by_cases c71 : t743 ≥ a0_1
                  · rw [if_pos c71] at H
                    have c71b0 : decide (a0_1 ≤ t743) = true := decide_eq_true c71
                    clear c71
                    obtain rfl := Option.some.inj H
                    have hnb72 := NB740_741.out
                    have hnc72 := NB741_740.out
                    have hnb73 := NB740_744.out
                    have hnc73 := NB744_740.out
                    have hcz74_0 : wc.cell? ⟨gb740, 0, none⟩ = some (.int .i64 a0_0) := (bC BK740.out 0).trans rfl
                    have hcz74_1 : wc.cell? ⟨gb740, 1, none⟩ = some (.int .i64 a0_1) := (bC BK740.out 1).trans rfl
                    have hfz74_0 := bZ BK740.out 0
                    have hfz74_1 := bZ BK740.out 1
                    (try simp only [List.append])
                    go_wp2_with (first | ((with_reducible refine gate_callee (f := 32) rfl ?_); refine goesL_ (some 38) rfl rfl Try.func32 (by kernel_rfl) rfl #[.agg #[.int .i64 a0_0, .int .i64 a0_1], .int .i64 a2] rfl (by (try simp only [List.map_toArray, List.map_cons, List.map_nil]); first | done | rfl | (simp only [List.length_drop, List.length_take]; rfl)) ?_; (with_reducible refine (span_Has.calls a0_0 a0_1 a2 true _ A34.out).mono ?_); rintro e w75 ⟨rfl, hb⟩; refine ⟨_, rfl, ?_⟩; have n0_ := Aside0.mk (bB (g := gb740) (o := .cells #[.int .i64 a0_0, .int .i64 a0_1] 47 (0, 0)) (by (with_reducible repeat (first | apply bN | apply bD | apply bA)); exact BK740.out) hb); have n1_ := Aside0.mk (bB (g := gb741) (o := .cells #[.int .i64 a1_0, .int .i64 a1_1] 47 (0, 0)) (by (with_reducible repeat (first | apply bN | apply bD | apply bA)); exact BK741.out) hb); have n2_ := Aside0.mk (bB (g := gb744) (o := .cells #[.int .i64 t742, .int .i64 t743] 47 (0, 0)) (by (with_reducible repeat (first | apply bN | apply bD | apply bA)); exact BK744.out) hb); have n3_ := Aside0.mk (cT (by repeat (first | (with_reducible first | exact HB.out | apply cA | apply cN | apply cD | refine cS ?_ GE740.out | refine cS ?_ GE741.out | refine cS ?_ GE744.out) | exact HB.out)) hb); clear BK740; clear BK741; clear BK744; clear HB; have BK740 := n0_; have BK741 := n1_; have BK744 := n2_; have HB := n3_; clear n0_ n1_ n2_ n3_; (try clear hb); (try clear hb2); (try clear hk); (try clear hi); have hnb76 := NB744_741.out; have hnc76 := NB741_744.out; have hcz77_0 : w75.cell? ⟨gb744, 0, none⟩ = some (.int .i64 t742) := (bC BK744.out 0).trans rfl; have hcz77_1 : w75.cell? ⟨gb744, 1, none⟩ = some (.int .i64 t743) := (bC BK744.out 1).trans rfl; have hfz77_0 := bZ BK744.out 0; have hfz77_1 := bZ BK744.out 1) | (go_at_call 32; (with_reducible refine (span_Has.calls t742 t743 a2 true _ A36.out).mono ?_); rintro e w78 ⟨rfl, hb⟩; have n0_ := Aside0.mk (bB (g := gb740) (o := .cells #[.int .i64 a0_0, .int .i64 a0_1] 47 (0, 0)) (by (with_reducible repeat (first | apply bN | apply bD | apply bA)); exact BK740.out) hb); have n1_ := Aside0.mk (bB (g := gb741) (o := .cells #[.int .i64 a1_0, .int .i64 a1_1] 47 (0, 0)) (by (with_reducible repeat (first | apply bN | apply bD | apply bA)); exact BK741.out) hb); have n2_ := Aside0.mk (bB (g := gb744) (o := .cells #[.int .i64 t742, .int .i64 t743] 47 (0, 0)) (by (with_reducible repeat (first | apply bN | apply bD | apply bA)); exact BK744.out) hb); have n3_ := Aside0.mk (cT (by repeat (first | (with_reducible first | exact HB.out | apply cA | apply cN | apply cD | refine cS ?_ GE740.out | refine cS ?_ GE741.out | refine cS ?_ GE744.out) | exact HB.out)) hb); clear BK740; clear BK741; clear BK744; clear HB; have BK740 := n0_; have BK741 := n1_; have BK744 := n2_; have HB := n3_; clear n0_ n1_ n2_ n3_; (try clear hb); (try clear hb2); (try clear hk); (try clear hi); have hcz79_0 : w78.cell? ⟨gb744, 0, none⟩ = some (.int .i64 t742) := (bC BK744.out 0).trans rfl; have hcz79_1 : w78.cell? ⟨gb744, 1, none⟩ = some (.int .i64 t743) := (bC BK744.out 1).trans rfl; have hfz79_0 := bZ BK744.out 0; have hfz79_1 := bZ BK744.out 1; have hcz80_0 : w78.cell? ⟨gb740, 0, none⟩ = some (.int .i64 a0_0) := (bC BK740.out 0).trans rfl; have hcz80_1 : w78.cell? ⟨gb740, 1, none⟩ = some (.int .i64 a0_1) := (bC BK740.out 1).trans rfl; have hfz80_0 := bZ BK740.out 0; have hfz80_1 := bZ BK740.out 1; have hcz81_0 : w78.cell? ⟨gb741, 0, none⟩ = some (.int .i64 a1_0) := (bC BK741.out 0).trans rfl; have hcz81_1 : w78.cell? ⟨gb741, 1, none⟩ = some (.int .i64 a1_1) := (bC BK741.out 1).trans rfl; have hfz81_0 := bZ BK741.out 0; have hfz81_1 := bZ BK741.out 1))
                    go_ret
                    exact ⟨by first | rfl | (simp [errW_none, errW_some] <;> rfl) | (simp [*, errW_none, errW_some] <;> rfl), by repeat (first | (with_reducible first | exact HB.out | apply cA | apply cN | apply cD | refine cS ?_ GE740.out | refine cS ?_ GE741.out | refine cS ?_ GE744.out) | exact HB.out)⟩
                  rw [if_neg c71] at H
                  have c71b0 : decide (a0_1 ≤ t743) = false := decide_eq_false c71
                  clear c71
                  exact absurd hrT.out (by have h_ := Option.some.inj H; rw [← h_]; decide)
                rw [if_neg c70] at H
                have c70b0 : decide (t742 ≤ a1_0) = false := decide_eq_false c70
                clear c70
                exact absurd hrT.out (by have h_ := Option.some.inj H; rw [← h_]; decide)
              rw [if_neg c69] at H
              have c69b0 : decide (t742 ≤ a0_0) = false := decide_eq_false c69
              clear c69
              exact absurd hrT.out (by have h_ := Option.some.inj H; rw [← h_]; decide)
            rw [if_neg c68] at H
            have c68b0 : (t743 == a0_1) = false := beq_eq_false_iff_ne.mpr c68
            have c68b1 : (t743 != a0_1) = true := bne_iff_ne.mpr c68
            by_cases c82 : t743 = a1_1
            · rw [if_pos c82] at H
              have c82b0 : (t743 == a1_1) = true := beq_iff_eq.mpr c82
              have c82b1 : (t743 != a1_1) = false := bne_eq_false_iff_eq.mpr c82
              clear c82
              by_cases c83 : t742 ≤ a0_0
              · rw [if_pos c83] at H
                have c83b0 : decide (t742 ≤ a0_0) = true := decide_eq_true c83
                clear c83
                by_cases c84 : t742 ≤ a1_0
                · rw [if_pos c84] at H
                  have c84b0 : decide (t742 ≤ a1_0) = true := decide_eq_true c84
                  clear c84
                  by_cases c85 : t743 ≥ a0_1
                  · rw [if_pos c85] at H
                    have c85b0 : decide (a0_1 ≤ t743) = true := decide_eq_true c85
                    clear c85
                    obtain rfl := Option.some.inj H
                    have hnb86 := NB740_741.out
                    have hnc86 := NB741_740.out
                    have hnb87 := NB740_744.out
                    have hnc87 := NB744_740.out
                    have hcz88_0 : wc.cell? ⟨gb740, 0, none⟩ = some (.int .i64 a0_0) := (bC BK740.out 0).trans rfl
                    have hcz88_1 : wc.cell? ⟨gb740, 1, none⟩ = some (.int .i64 a0_1) := (bC BK740.out 1).trans rfl
                    have hfz88_0 := bZ BK740.out 0
                    have hfz88_1 := bZ BK740.out 1
                    (try simp only [List.append])
                    go_wp2_with (first | ((with_reducible refine gate_callee (f := 32) rfl ?_); refine goesL_ (some 38) rfl rfl Try.func32 (by kernel_rfl) rfl #[.agg #[.int .i64 a0_0, .int .i64 a0_1], .int .i64 a2] rfl (by (try simp only [List.map_toArray, List.map_cons, List.map_nil]); first | done | rfl | (simp only [List.length_drop, List.length_take]; rfl)) ?_; (with_reducible refine (span_Has.calls a0_0 a0_1 a2 true _ A34.out).mono ?_); rintro e w89 ⟨rfl, hb⟩; refine ⟨_, rfl, ?_⟩; have n0_ := Aside0.mk (bB (g := gb740) (o := .cells #[.int .i64 a0_0, .int .i64 a0_1] 47 (0, 0)) (by (with_reducible repeat (first | apply bN | apply bD | apply bA)); exact BK740.out) hb); have n1_ := Aside0.mk (bB (g := gb741) (o := .cells #[.int .i64 a1_0, .int .i64 a1_1] 47 (0, 0)) (by (with_reducible repeat (first | apply bN | apply bD | apply bA)); exact BK741.out) hb); have n2_ := Aside0.mk (bB (g := gb744) (o := .cells #[.int .i64 t742, .int .i64 t743] 47 (0, 0)) (by (with_reducible repeat (first | apply bN | apply bD | apply bA)); exact BK744.out) hb); have n3_ := Aside0.mk (cT (by repeat (first | (with_reducible first | exact HB.out | apply cA | apply cN | apply cD | refine cS ?_ GE740.out | refine cS ?_ GE741.out | refine cS ?_ GE744.out) | exact HB.out)) hb); clear BK740; clear BK741; clear BK744; clear HB; have BK740 := n0_; have BK741 := n1_; have BK744 := n2_; have HB := n3_; clear n0_ n1_ n2_ n3_; (try clear hb); (try clear hb2); (try clear hk); (try clear hi); have hnb90 := NB744_741.out; have hnc90 := NB741_744.out; have hcz91_0 : w89.cell? ⟨gb744, 0, none⟩ = some (.int .i64 t742) := (bC BK744.out 0).trans rfl; have hcz91_1 : w89.cell? ⟨gb744, 1, none⟩ = some (.int .i64 t743) := (bC BK744.out 1).trans rfl; have hfz91_0 := bZ BK744.out 0; have hfz91_1 := bZ BK744.out 1) | (go_at_call 32; (with_reducible refine (span_Has.calls t742 t743 a2 true _ A36.out).mono ?_); rintro e w92 ⟨rfl, hb⟩; have n0_ := Aside0.mk (bB (g := gb740) (o := .cells #[.int .i64 a0_0, .int .i64 a0_1] 47 (0, 0)) (by (with_reducible repeat (first | apply bN | apply bD | apply bA)); exact BK740.out) hb); have n1_ := Aside0.mk (bB (g := gb741) (o := .cells #[.int .i64 a1_0, .int .i64 a1_1] 47 (0, 0)) (by (with_reducible repeat (first | apply bN | apply bD | apply bA)); exact BK741.out) hb); have n2_ := Aside0.mk (bB (g := gb744) (o := .cells #[.int .i64 t742, .int .i64 t743] 47 (0, 0)) (by (with_reducible repeat (first | apply bN | apply bD | apply bA)); exact BK744.out) hb); have n3_ := Aside0.mk (cT (by repeat (first | (with_reducible first | exact HB.out | apply cA | apply cN | apply cD | refine cS ?_ GE740.out | refine cS ?_ GE741.out | refine cS ?_ GE744.out) | exact HB.out)) hb); clear BK740; clear BK741; clear BK744; clear HB; have BK740 := n0_; have BK741 := n1_; have BK744 := n2_; have HB := n3_; clear n0_ n1_ n2_ n3_; (try clear hb); (try clear hb2); (try clear hk); (try clear hi); have hcz93_0 : w92.cell? ⟨gb744, 0, none⟩ = some (.int .i64 t742) := (bC BK744.out 0).trans rfl; have hcz93_1 : w92.cell? ⟨gb744, 1, none⟩ = some (.int .i64 t743) := (bC BK744.out 1).trans rfl; have hfz93_0 := bZ BK744.out 0; have hfz93_1 := bZ BK744.out 1; have hcz94_0 : w92.cell? ⟨gb740, 0, none⟩ = some (.int .i64 a0_0) := (bC BK740.out 0).trans rfl; have hcz94_1 : w92.cell? ⟨gb740, 1, none⟩ = some (.int .i64 a0_1) := (bC BK740.out 1).trans rfl; have hfz94_0 := bZ BK740.out 0; have hfz94_1 := bZ BK740.out 1; have hcz95_0 : w92.cell? ⟨gb741, 0, none⟩ = some (.int .i64 a1_0) := (bC BK741.out 0).trans rfl; have hcz95_1 : w92.cell? ⟨gb741, 1, none⟩ = some (.int .i64 a1_1) := (bC BK741.out 1).trans rfl; have hfz95_0 := bZ BK741.out 0; have hfz95_1 := bZ BK741.out 1))
                    go_ret
                    exact ⟨by first | rfl | (simp [errW_none, errW_some] <;> rfl) | (simp [*, errW_none, errW_some] <;> rfl), by repeat (first | (with_reducible first | exact HB.out | apply cA | apply cN | apply cD | refine cS ?_ GE740.out | refine cS ?_ GE741.out | refine cS ?_ GE744.out) | exact HB.out)⟩
                  rw [if_neg c85] at H
                  have c85b0 : decide (a0_1 ≤ t743) = false := decide_eq_false c85
                  clear c85
                  exact absurd hrT.out (by have h_ := Option.some.inj H; rw [← h_]; decide)
                rw [if_neg c84] at H
                have c84b0 : decide (t742 ≤ a1_0) = false := decide_eq_false c84
                clear c84
                exact absurd hrT.out (by have h_ := Option.some.inj H; rw [← h_]; decide)
              rw [if_neg c83] at H
              have c83b0 : decide (t742 ≤ a0_0) = false := decide_eq_false c83
              clear c83
              exact absurd hrT.out (by have h_ := Option.some.inj H; rw [← h_]; decide)
            rw [if_neg c82] at H
            have c82b0 : (t743 == a1_1) = false := beq_eq_false_iff_ne.mpr c82
            have c82b1 : (t743 != a1_1) = true := bne_iff_ne.mpr c82
            exact absurd hrT.out (by have h_ := Option.some.inj H; rw [← h_]; decide)
          rw [if_neg c67] at H
          have c67b0 : (t742 == a1_0) = false := beq_eq_false_iff_ne.mpr c67
          have c67b1 : (t742 != a1_0) = true := bne_iff_ne.mpr c67
          exact absurd hrT.out (by have h_ := Option.some.inj H; rw [← h_]; decide)
        replace c37 := Bool.eq_false_iff.mpr c37
        subst c37
        have H1 : (some false) = some r := by rw [if_neg (show ¬ (false = true) by decide)] at H; exact H
        clear H
        have H := H1
        clear H1
        exact absurd hrT.out (by have h_ := Option.some.inj H; rw [← h_]; decide)
      replace c35 := Bool.eq_false_iff.mpr c35
      subst c35
      have H1 : ((span_Has.f a1_0 a1_1 a2).bind fun t754 => (if t754 = true then ((span_Has.f t742 t743 a2).bind fun t755 => (if t755 = true then (if t742 = a0_0 then (if t743 = a0_1 then (if t742 ≤ a0_0 then (if t742 ≤ a1_0 then (if t743 ≥ a0_1 then (some (decide (t743 ≥ a1_1))) else (some false)) else (some false)) else (some false)) else (if t743 = a1_1 then (if t742 ≤ a0_0 then (if t742 ≤ a1_0 then (if t743 ≥ a0_1 then (some (decide (t743 ≥ a1_1))) else (some false)) else (some false)) else (some false)) else (some false))) else (if t742 = a1_0 then (if t743 = a0_1 then (if t742 ≤ a0_0 then (if t742 ≤ a1_0 then (if t743 ≥ a0_1 then (some (decide (t743 ≥ a1_1))) else (some false)) else (some false)) else (some false)) else (if t743 = a1_1 then (if t742 ≤ a0_0 then (if t742 ≤ a1_0 then (if t743 ≥ a0_1 then (some (decide (t743 ≥ a1_1))) else (some false)) else (some false)) else (some false)) else (some false))) else (some false))) else (some false))) else (if t742 = a0_0 then (if t743 = a0_1 then (if t742 ≤ a0_0 then (if t742 ≤ a1_0 then (if t743 ≥ a0_1 then (some (decide (t743 ≥ a1_1))) else (some false)) else (some false)) else (some false)) else (if t743 = a1_1 then (if t742 ≤ a0_0 then (if t742 ≤ a1_0 then (if t743 ≥ a0_1 then (some (decide (t743 ≥ a1_1))) else (some false)) else (some false)) else (some false)) else (some false))) else (if t742 = a1_0 then (if t743 = a0_1 then (if t742 ≤ a0_0 then (if t742 ≤ a1_0 then (if t743 ≥ a0_1 then (some (decide (t743 ≥ a1_1))) else (some false)) else (some false)) else (some false)) else (if t743 = a1_1 then (if t742 ≤ a0_0 then (if t742 ≤ a1_0 then (if t743 ≥ a0_1 then (some (decide (t743 ≥ a1_1))) else (some false)) else (some false)) else (some false)) else (some false))) else (some false))))) = some r := by rw [if_neg (show ¬ (false = true) by decide)] at H; exact H
      clear H
      have H := H1
      clear H1
      replace H := Option.bind_eq_some_iff.mp H
      obtain ⟨t754, A960, H⟩ := H
      replace H : (if t754 = true then ((span_Has.f t742 t743 a2).bind fun t755 => (if t755 = true then (if t742 = a0_0 then (if t743 = a0_1 then (if t742 ≤ a0_0 then (if t742 ≤ a1_0 then (if t743 ≥ a0_1 then (some (decide (t743 ≥ a1_1))) else (some false)) else (some false)) else (some false)) else (if t743 = a1_1 then (if t742 ≤ a0_0 then (if t742 ≤ a1_0 then (if t743 ≥ a0_1 then (some (decide (t743 ≥ a1_1))) else (some false)) else (some false)) else (some false)) else (some false))) else (if t742 = a1_0 then (if t743 = a0_1 then (if t742 ≤ a0_0 then (if t742 ≤ a1_0 then (if t743 ≥ a0_1 then (some (decide (t743 ≥ a1_1))) else (some false)) else (some false)) else (some false)) else (if t743 = a1_1 then (if t742 ≤ a0_0 then (if t742 ≤ a1_0 then (if t743 ≥ a0_1 then (some (decide (t743 ≥ a1_1))) else (some false)) else (some false)) else (some false)) else (some false))) else (some false))) else (some false))) else (if t742 = a0_0 then (if t743 = a0_1 then (if t742 ≤ a0_0 then (if t742 ≤ a1_0 then (if t743 ≥ a0_1 then (some (decide (t743 ≥ a1_1))) else (some false)) else (some false)) else (some false)) else (if t743 = a1_1 then (if t742 ≤ a0_0 then (if t742 ≤ a1_0 then (if t743 ≥ a0_1 then (some (decide (t743 ≥ a1_1))) else (some false)) else (some false)) else (some false)) else (some false))) else (if t742 = a1_0 then (if t743 = a0_1 then (if t742 ≤ a0_0 then (if t742 ≤ a1_0 then (if t743 ≥ a0_1 then (some (decide (t743 ≥ a1_1))) else (some false)) else (some false)) else (some false)) else (if t743 = a1_1 then (if t742 ≤ a0_0 then (if t742 ≤ a1_0 then (if t743 ≥ a0_1 then (some (decide (t743 ≥ a1_1))) else (some false)) else (some false)) else (some false)) else (some false))) else (some false)))) = some r := H
      have A96 := Aside0.mk A960
      clear A960
      by_cases c97 : t754 = true
      · subst c97
        have H1 : ((span_Has.f t742 t743 a2).bind fun t755 => (if t755 = true then (if t742 = a0_0 then (if t743 = a0_1 then (if t742 ≤ a0_0 then (if t742 ≤ a1_0 then (if t743 ≥ a0_1 then (some (decide (t743 ≥ a1_1))) else (some false)) else (some false)) else (some false)) else (if t743 = a1_1 then (if t742 ≤ a0_0 then (if t742 ≤ a1_0 then (if t743 ≥ a0_1 then (some (decide (t743 ≥ a1_1))) else (some false)) else (some false)) else (some false)) else (some false))) else (if t742 = a1_0 then (if t743 = a0_1 then (if t742 ≤ a0_0 then (if t742 ≤ a1_0 then (if t743 ≥ a0_1 then (some (decide (t743 ≥ a1_1))) else (some false)) else (some false)) else (some false)) else (if t743 = a1_1 then (if t742 ≤ a0_0 then (if t742 ≤ a1_0 then (if t743 ≥ a0_1 then (some (decide (t743 ≥ a1_1))) else (some false)) else (some false)) else (some false)) else (some false))) else (some false))) else (some false))) = some r := by rw [if_pos rfl] at H; exact H
        clear H
        have H := H1
        clear H1
        replace H := Option.bind_eq_some_iff.mp H
        obtain ⟨t755, A980, H⟩ := H
        replace H : (if t755 = true then (if t742 = a0_0 then (if t743 = a0_1 then (if t742 ≤ a0_0 then (if t742 ≤ a1_0 then (if t743 ≥ a0_1 then (some (decide (t743 ≥ a1_1))) else (some false)) else (some false)) else (some false)) else (if t743 = a1_1 then (if t742 ≤ a0_0 then (if t742 ≤ a1_0 then (if t743 ≥ a0_1 then (some (decide (t743 ≥ a1_1))) else (some false)) else (some false)) else (some false)) else (some false))) else (if t742 = a1_0 then (if t743 = a0_1 then (if t742 ≤ a0_0 then (if t742 ≤ a1_0 then (if t743 ≥ a0_1 then (some (decide (t743 ≥ a1_1))) else (some false)) else (some false)) else (some false)) else (if t743 = a1_1 then (if t742 ≤ a0_0 then (if t742 ≤ a1_0 then (if t743 ≥ a0_1 then (some (decide (t743 ≥ a1_1))) else (some false)) else (some false)) else (some false)) else (some false))) else (some false))) else (some false)) = some r := H
        have A98 := Aside0.mk A980
        clear A980
        by_cases c99 : t755 = true
        · subst c99
          have H1 : (if t742 = a0_0 then (if t743 = a0_1 then (if t742 ≤ a0_0 then (if t742 ≤ a1_0 then (if t743 ≥ a0_1 then (some (decide (t743 ≥ a1_1))) else (some false)) else (some false)) else (some false)) else (if t743 = a1_1 then (if t742 ≤ a0_0 then (if t742 ≤ a1_0 then (if t743 ≥ a0_1 then (some (decide (t743 ≥ a1_1))) else (some false)) else (some false)) else (some false)) else (some false))) else (if t742 = a1_0 then (if t743 = a0_1 then (if t742 ≤ a0_0 then (if t742 ≤ a1_0 then (if t743 ≥ a0_1 then (some (decide (t743 ≥ a1_1))) else (some false)) else (some false)) else (some false)) else (if t743 = a1_1 then (if t742 ≤ a0_0 then (if t742 ≤ a1_0 then (if t743 ≥ a0_1 then (some (decide (t743 ≥ a1_1))) else (some false)) else (some false)) else (some false)) else (some false))) else (some false))) = some r := by rw [if_pos rfl] at H; exact H
          clear H
          have H := H1
          clear H1
          by_cases c100 : t742 = a0_0
          · rw [if_pos c100] at H
            have c100b0 : (t742 == a0_0) = true := beq_iff_eq.mpr c100
            have c100b1 : (t742 != a0_0) = false := bne_eq_false_iff_eq.mpr c100
            clear c100
            by_cases c101 : t743 = a0_1
            · rw [if_pos c101] at H
              have c101b0 : (t743 == a0_1) = true := beq_iff_eq.mpr c101
              have c101b1 : (t743 != a0_1) = false := bne_eq_false_iff_eq.mpr c101
              clear c101
              by_cases c102 : t742 ≤ a0_0
              · rw [if_pos c102] at H
                have c102b0 : decide (t742 ≤ a0_0) = true := decide_eq_true c102
                clear c102
                by_cases c103 : t742 ≤ a1_0
                · rw [if_pos c103] at H
                  have c103b0 : decide (t742 ≤ a1_0) = true := decide_eq_true c103
                  clear c103
                  by_cases c104 : t743 ≥ a0_1
                  · rw [if_pos c104] at H
                    have c104b0 : decide (a0_1 ≤ t743) = true := decide_eq_true c104
                    clear c104
                    obtain rfl := Option.some.inj H
                    have hnb105 := NB740_741.out
                    have hnc105 := NB741_740.out
                    have hnb106 := NB740_744.out
                    have hnc106 := NB744_740.out
                    have hcz107_0 : wc.cell? ⟨gb740, 0, none⟩ = some (.int .i64 a0_0) := (bC BK740.out 0).trans rfl
                    have hcz107_1 : wc.cell? ⟨gb740, 1, none⟩ = some (.int .i64 a0_1) := (bC BK740.out 1).trans rfl
                    have hfz107_0 := bZ BK740.out 0
                    have hfz107_1 := bZ BK740.out 1
                    (try simp only [List.append])
                    go_wp2_with (first | ((with_reducible refine gate_callee (f := 32) rfl ?_); refine goesL_ (some 38) rfl rfl Try.func32 (by kernel_rfl) rfl #[.agg #[.int .i64 a0_0, .int .i64 a0_1], .int .i64 a2] rfl (by (try simp only [List.map_toArray, List.map_cons, List.map_nil]); first | done | rfl | (simp only [List.length_drop, List.length_take]; rfl)) ?_; (with_reducible refine (span_Has.calls a0_0 a0_1 a2 false _ A34.out).mono ?_); rintro e w108 ⟨rfl, hb⟩; refine ⟨_, rfl, ?_⟩; have n0_ := Aside0.mk (bB (g := gb740) (o := .cells #[.int .i64 a0_0, .int .i64 a0_1] 47 (0, 0)) (by (with_reducible repeat (first | apply bN | apply bD | apply bA)); exact BK740.out) hb); have n1_ := Aside0.mk (bB (g := gb741) (o := .cells #[.int .i64 a1_0, .int .i64 a1_1] 47 (0, 0)) (by (with_reducible repeat (first | apply bN | apply bD | apply bA)); exact BK741.out) hb); have n2_ := Aside0.mk (bB (g := gb744) (o := .cells #[.int .i64 t742, .int .i64 t743] 47 (0, 0)) (by (with_reducible repeat (first | apply bN | apply bD | apply bA)); exact BK744.out) hb); have n3_ := Aside0.mk (cT (by repeat (first | (with_reducible first | exact HB.out | apply cA | apply cN | apply cD | refine cS ?_ GE740.out | refine cS ?_ GE741.out | refine cS ?_ GE744.out) | exact HB.out)) hb); clear BK740; clear BK741; clear BK744; clear HB; have BK740 := n0_; have BK741 := n1_; have BK744 := n2_; have HB := n3_; clear n0_ n1_ n2_ n3_; (try clear hb); (try clear hb2); (try clear hk); (try clear hi); have hnb109 := NB741_744.out; have hnc109 := NB744_741.out; have hcz110_0 : w108.cell? ⟨gb741, 0, none⟩ = some (.int .i64 a1_0) := (bC BK741.out 0).trans rfl; have hcz110_1 : w108.cell? ⟨gb741, 1, none⟩ = some (.int .i64 a1_1) := (bC BK741.out 1).trans rfl; have hfz110_0 := bZ BK741.out 0; have hfz110_1 := bZ BK741.out 1) | (go_at_call 32; (with_reducible refine (span_Has.calls a1_0 a1_1 a2 true _ A96.out).mono ?_); rintro e w111 ⟨rfl, hb⟩; have n0_ := Aside0.mk (bB (g := gb740) (o := .cells #[.int .i64 a0_0, .int .i64 a0_1] 47 (0, 0)) (by (with_reducible repeat (first | apply bN | apply bD | apply bA)); exact BK740.out) hb); have n1_ := Aside0.mk (bB (g := gb741) (o := .cells #[.int .i64 a1_0, .int .i64 a1_1] 47 (0, 0)) (by (with_reducible repeat (first | apply bN | apply bD | apply bA)); exact BK741.out) hb); have n2_ := Aside0.mk (bB (g := gb744) (o := .cells #[.int .i64 t742, .int .i64 t743] 47 (0, 0)) (by (with_reducible repeat (first | apply bN | apply bD | apply bA)); exact BK744.out) hb); have n3_ := Aside0.mk (cT (by repeat (first | (with_reducible first | exact HB.out | apply cA | apply cN | apply cD | refine cS ?_ GE740.out | refine cS ?_ GE741.out | refine cS ?_ GE744.out) | exact HB.out)) hb); clear BK740; clear BK741; clear BK744; clear HB; have BK740 := n0_; have BK741 := n1_; have BK744 := n2_; have HB := n3_; clear n0_ n1_ n2_ n3_; (try clear hb); (try clear hb2); (try clear hk); (try clear hi); have hcz112_0 : w111.cell? ⟨gb744, 0, none⟩ = some (.int .i64 t742) := (bC BK744.out 0).trans rfl; have hcz112_1 : w111.cell? ⟨gb744, 1, none⟩ = some (.int .i64 t743) := (bC BK744.out 1).trans rfl; have hfz112_0 := bZ BK744.out 0; have hfz112_1 := bZ BK744.out 1) | (go_at_call 32; (with_reducible refine (span_Has.calls t742 t743 a2 true _ A98.out).mono ?_); rintro e w113 ⟨rfl, hb⟩; have n0_ := Aside0.mk (bB (g := gb740) (o := .cells #[.int .i64 a0_0, .int .i64 a0_1] 47 (0, 0)) (by (with_reducible repeat (first | apply bN | apply bD | apply bA)); exact BK740.out) hb); have n1_ := Aside0.mk (bB (g := gb741) (o := .cells #[.int .i64 a1_0, .int .i64 a1_1] 47 (0, 0)) (by (with_reducible repeat (first | apply bN | apply bD | apply bA)); exact BK741.out) hb); have n2_ := Aside0.mk (bB (g := gb744) (o := .cells #[.int .i64 t742, .int .i64 t743] 47 (0, 0)) (by (with_reducible repeat (first | apply bN | apply bD | apply bA)); exact BK744.out) hb); have n3_ := Aside0.mk (cT (by repeat (first | (with_reducible first | exact HB.out | apply cA | apply cN | apply cD | refine cS ?_ GE740.out | refine cS ?_ GE741.out | refine cS ?_ GE744.out) | exact HB.out)) hb); clear BK740; clear BK741; clear BK744; clear HB; have BK740 := n0_; have BK741 := n1_; have BK744 := n2_; have HB := n3_; clear n0_ n1_ n2_ n3_; (try clear hb); (try clear hb2); (try clear hk); (try clear hi); have hcz114_0 : w113.cell? ⟨gb744, 0, none⟩ = some (.int .i64 t742) := (bC BK744.out 0).trans rfl; have hcz114_1 : w113.cell? ⟨gb744, 1, none⟩ = some (.int .i64 t743) := (bC BK744.out 1).trans rfl; have hfz114_0 := bZ BK744.out 0; have hfz114_1 := bZ BK744.out 1; have hcz115_0 : w113.cell? ⟨gb740, 0, none⟩ = some (.int .i64 a0_0) := (bC BK740.out 0).trans rfl; have hcz115_1 : w113.cell? ⟨gb740, 1, none⟩ = some (.int .i64 a0_1) := (bC BK740.out 1).trans rfl; have hfz115_0 := bZ BK740.out 0; have hfz115_1 := bZ BK740.out 1; have hcz116_0 : w113.cell? ⟨gb741, 0, none⟩ = some (.int .i64 a1_0) := (bC BK741.out 0).trans rfl; have hcz116_1 : w113.cell? ⟨gb741, 1, none⟩ = some (.int .i64 a1_1) := (bC BK741.out 1).trans rfl; have hfz116_0 := bZ BK741.out 0; have hfz116_1 := bZ BK741.out 1))
                    go_ret
                    exact ⟨by first | rfl | (simp [errW_none, errW_some] <;> rfl) | (simp [*, errW_none, errW_some] <;> rfl), by repeat (first | (with_reducible first | exact HB.out | apply cA | apply cN | apply cD | refine cS ?_ GE740.out | refine cS ?_ GE741.out | refine cS ?_ GE744.out) | exact HB.out)⟩
                  rw [if_neg c104] at H
                  have c104b0 : decide (a0_1 ≤ t743) = false := decide_eq_false c104
                  clear c104
                  exact absurd hrT.out (by have h_ := Option.some.inj H; rw [← h_]; decide)
                rw [if_neg c103] at H
                have c103b0 : decide (t742 ≤ a1_0) = false := decide_eq_false c103
                clear c103
                exact absurd hrT.out (by have h_ := Option.some.inj H; rw [← h_]; decide)
              rw [if_neg c102] at H
              have c102b0 : decide (t742 ≤ a0_0) = false := decide_eq_false c102
              clear c102
              exact absurd hrT.out (by have h_ := Option.some.inj H; rw [← h_]; decide)
            rw [if_neg c101] at H
            have c101b0 : (t743 == a0_1) = false := beq_eq_false_iff_ne.mpr c101
            have c101b1 : (t743 != a0_1) = true := bne_iff_ne.mpr c101
            by_cases c117 : t743 = a1_1
            · rw [if_pos c117] at H
              have c117b0 : (t743 == a1_1) = true := beq_iff_eq.mpr c117
              have c117b1 : (t743 != a1_1) = false := bne_eq_false_iff_eq.mpr c117
              clear c117
              by_cases c118 : t742 ≤ a0_0
              · rw [if_pos c118] at H
                have c118b0 : decide (t742 ≤ a0_0) = true := decide_eq_true c118
                clear c118
                by_cases c119 : t742 ≤ a1_0
                · rw [if_pos c119] at H
                  have c119b0 : decide (t742 ≤ a1_0) = true := decide_eq_true c119
                  clear c119
                  by_cases c120 : t743 ≥ a0_1
                  · rw [if_pos c120] at H
                    have c120b0 : decide (a0_1 ≤ t743) = true := decide_eq_true c120
                    clear c120
                    obtain rfl := Option.some.inj H
                    have hnb121 := NB740_741.out
                    have hnc121 := NB741_740.out
                    have hnb122 := NB740_744.out
                    have hnc122 := NB744_740.out
                    have hcz123_0 : wc.cell? ⟨gb740, 0, none⟩ = some (.int .i64 a0_0) := (bC BK740.out 0).trans rfl
                    have hcz123_1 : wc.cell? ⟨gb740, 1, none⟩ = some (.int .i64 a0_1) := (bC BK740.out 1).trans rfl
                    have hfz123_0 := bZ BK740.out 0
                    have hfz123_1 := bZ BK740.out 1
                    (try simp only [List.append])
                    go_wp2_with (first | ((with_reducible refine gate_callee (f := 32) rfl ?_); refine goesL_ (some 38) rfl rfl Try.func32 (by kernel_rfl) rfl #[.agg #[.int .i64 a0_0, .int .i64 a0_1], .int .i64 a2] rfl (by (try simp only [List.map_toArray, List.map_cons, List.map_nil]); first | done | rfl | (simp only [List.length_drop, List.length_take]; rfl)) ?_; (with_reducible refine (span_Has.calls a0_0 a0_1 a2 false _ A34.out).mono ?_); rintro e w124 ⟨rfl, hb⟩; refine ⟨_, rfl, ?_⟩; have n0_ := Aside0.mk (bB (g := gb740) (o := .cells #[.int .i64 a0_0, .int .i64 a0_1] 47 (0, 0)) (by (with_reducible repeat (first | apply bN | apply bD | apply bA)); exact BK740.out) hb); have n1_ := Aside0.mk (bB (g := gb741) (o := .cells #[.int .i64 a1_0, .int .i64 a1_1] 47 (0, 0)) (by (with_reducible repeat (first | apply bN | apply bD | apply bA)); exact BK741.out) hb); have n2_ := Aside0.mk (bB (g := gb744) (o := .cells #[.int .i64 t742, .int .i64 t743] 47 (0, 0)) (by (with_reducible repeat (first | apply bN | apply bD | apply bA)); exact BK744.out) hb); have n3_ := Aside0.mk (cT (by repeat (first | (with_reducible first | exact HB.out | apply cA | apply cN | apply cD | refine cS ?_ GE740.out | refine cS ?_ GE741.out | refine cS ?_ GE744.out) | exact HB.out)) hb); clear BK740; clear BK741; clear BK744; clear HB; have BK740 := n0_; have BK741 := n1_; have BK744 := n2_; have HB := n3_; clear n0_ n1_ n2_ n3_; (try clear hb); (try clear hb2); (try clear hk); (try clear hi); have hnb125 := NB741_744.out; have hnc125 := NB744_741.out; have hcz126_0 : w124.cell? ⟨gb741, 0, none⟩ = some (.int .i64 a1_0) := (bC BK741.out 0).trans rfl; have hcz126_1 : w124.cell? ⟨gb741, 1, none⟩ = some (.int .i64 a1_1) := (bC BK741.out 1).trans rfl; have hfz126_0 := bZ BK741.out 0; have hfz126_1 := bZ BK741.out 1) | (go_at_call 32; (with_reducible refine (span_Has.calls a1_0 a1_1 a2 true _ A96.out).mono ?_); rintro e w127 ⟨rfl, hb⟩; have n0_ := Aside0.mk (bB (g := gb740) (o := .cells #[.int .i64 a0_0, .int .i64 a0_1] 47 (0, 0)) (by (with_reducible repeat (first | apply bN | apply bD | apply bA)); exact BK740.out) hb); have n1_ := Aside0.mk (bB (g := gb741) (o := .cells #[.int .i64 a1_0, .int .i64 a1_1] 47 (0, 0)) (by (with_reducible repeat (first | apply bN | apply bD | apply bA)); exact BK741.out) hb); have n2_ := Aside0.mk (bB (g := gb744) (o := .cells #[.int .i64 t742, .int .i64 t743] 47 (0, 0)) (by (with_reducible repeat (first | apply bN | apply bD | apply bA)); exact BK744.out) hb); have n3_ := Aside0.mk (cT (by repeat (first | (with_reducible first | exact HB.out | apply cA | apply cN | apply cD | refine cS ?_ GE740.out | refine cS ?_ GE741.out | refine cS ?_ GE744.out) | exact HB.out)) hb); clear BK740; clear BK741; clear BK744; clear HB; have BK740 := n0_; have BK741 := n1_; have BK744 := n2_; have HB := n3_; clear n0_ n1_ n2_ n3_; (try clear hb); (try clear hb2); (try clear hk); (try clear hi); have hcz128_0 : w127.cell? ⟨gb744, 0, none⟩ = some (.int .i64 t742) := (bC BK744.out 0).trans rfl; have hcz128_1 : w127.cell? ⟨gb744, 1, none⟩ = some (.int .i64 t743) := (bC BK744.out 1).trans rfl; have hfz128_0 := bZ BK744.out 0; have hfz128_1 := bZ BK744.out 1) | (go_at_call 32; (with_reducible refine (span_Has.calls t742 t743 a2 true _ A98.out).mono ?_); rintro e w129 ⟨rfl, hb⟩; have n0_ := Aside0.mk (bB (g := gb740) (o := .cells #[.int .i64 a0_0, .int .i64 a0_1] 47 (0, 0)) (by (with_reducible repeat (first | apply bN | apply bD | apply bA)); exact BK740.out) hb); have n1_ := Aside0.mk (bB (g := gb741) (o := .cells #[.int .i64 a1_0, .int .i64 a1_1] 47 (0, 0)) (by (with_reducible repeat (first | apply bN | apply bD | apply bA)); exact BK741.out) hb); have n2_ := Aside0.mk (bB (g := gb744) (o := .cells #[.int .i64 t742, .int .i64 t743] 47 (0, 0)) (by (with_reducible repeat (first | apply bN | apply bD | apply bA)); exact BK744.out) hb); have n3_ := Aside0.mk (cT (by repeat (first | (with_reducible first | exact HB.out | apply cA | apply cN | apply cD | refine cS ?_ GE740.out | refine cS ?_ GE741.out | refine cS ?_ GE744.out) | exact HB.out)) hb); clear BK740; clear BK741; clear BK744; clear HB; have BK740 := n0_; have BK741 := n1_; have BK744 := n2_; have HB := n3_; clear n0_ n1_ n2_ n3_; (try clear hb); (try clear hb2); (try clear hk); (try clear hi); have hcz130_0 : w129.cell? ⟨gb744, 0, none⟩ = some (.int .i64 t742) := (bC BK744.out 0).trans rfl; have hcz130_1 : w129.cell? ⟨gb744, 1, none⟩ = some (.int .i64 t743) := (bC BK744.out 1).trans rfl; have hfz130_0 := bZ BK744.out 0; have hfz130_1 := bZ BK744.out 1; have hcz131_0 : w129.cell? ⟨gb740, 0, none⟩ = some (.int .i64 a0_0) := (bC BK740.out 0).trans rfl; have hcz131_1 : w129.cell? ⟨gb740, 1, none⟩ = some (.int .i64 a0_1) := (bC BK740.out 1).trans rfl; have hfz131_0 := bZ BK740.out 0; have hfz131_1 := bZ BK740.out 1; have hcz132_0 : w129.cell? ⟨gb741, 0, none⟩ = some (.int .i64 a1_0) := (bC BK741.out 0).trans rfl; have hcz132_1 : w129.cell? ⟨gb741, 1, none⟩ = some (.int .i64 a1_1) := (bC BK741.out 1).trans rfl; have hfz132_0 := bZ BK741.out 0; have hfz132_1 := bZ BK741.out 1))
                    go_ret
                    exact ⟨by first | rfl | (simp [errW_none, errW_some] <;> rfl) | (simp [*, errW_none, errW_some] <;> rfl), by repeat (first | (with_reducible first | exact HB.out | apply cA | apply cN | apply cD | refine cS ?_ GE740.out | refine cS ?_ GE741.out | refine cS ?_ GE744.out) | exact HB.out)⟩
                  rw [if_neg c120] at H
                  have c120b0 : decide (a0_1 ≤ t743) = false := decide_eq_false c120
                  clear c120
                  exact absurd hrT.out (by have h_ := Option.some.inj H; rw [← h_]; decide)
                rw [if_neg c119] at H
                have c119b0 : decide (t742 ≤ a1_0) = false := decide_eq_false c119
                clear c119
                exact absurd hrT.out (by have h_ := Option.some.inj H; rw [← h_]; decide)
              rw [if_neg c118] at H
              have c118b0 : decide (t742 ≤ a0_0) = false := decide_eq_false c118
              clear c118
              exact absurd hrT.out (by have h_ := Option.some.inj H; rw [← h_]; decide)
            rw [if_neg c117] at H
            have c117b0 : (t743 == a1_1) = false := beq_eq_false_iff_ne.mpr c117
            have c117b1 : (t743 != a1_1) = true := bne_iff_ne.mpr c117
            exact absurd hrT.out (by have h_ := Option.some.inj H; rw [← h_]; decide)
          rw [if_neg c100] at H
          have c100b0 : (t742 == a0_0) = false := beq_eq_false_iff_ne.mpr c100
          have c100b1 : (t742 != a0_0) = true := bne_iff_ne.mpr c100
          by_cases c133 : t742 = a1_0
          · rw [if_pos c133] at H
            have c133b0 : (t742 == a1_0) = true := beq_iff_eq.mpr c133
            have c133b1 : (t742 != a1_0) = false := bne_eq_false_iff_eq.mpr c133
            clear c133
            by_cases c134 : t743 = a0_1
            · rw [if_pos c134] at H
              have c134b0 : (t743 == a0_1) = true := beq_iff_eq.mpr c134
              have c134b1 : (t743 != a0_1) = false := bne_eq_false_iff_eq.mpr c134
              clear c134
              by_cases c135 : t742 ≤ a0_0
              · rw [if_pos c135] at H
                have c135b0 : decide (t742 ≤ a0_0) = true := decide_eq_true c135
                clear c135
                by_cases c136 : t742 ≤ a1_0
                · rw [if_pos c136] at H
                  have c136b0 : decide (t742 ≤ a1_0) = true := decide_eq_true c136
                  clear c136
                  by_cases c137 : t743 ≥ a0_1
                  · rw [if_pos c137] at H
                    have c137b0 : decide (a0_1 ≤ t743) = true := decide_eq_true c137
                    clear c137
                    obtain rfl := Option.some.inj H
                    have hnb138 := NB740_741.out
                    have hnc138 := NB741_740.out
                    have hnb139 := NB740_744.out
                    have hnc139 := NB744_740.out
                    have hcz140_0 : wc.cell? ⟨gb740, 0, none⟩ = some (.int .i64 a0_0) := (bC BK740.out 0).trans rfl
                    have hcz140_1 : wc.cell? ⟨gb740, 1, none⟩ = some (.int .i64 a0_1) := (bC BK740.out 1).trans rfl
                    have hfz140_0 := bZ BK740.out 0
                    have hfz140_1 := bZ BK740.out 1
                    (try simp only [List.append])
                    go_wp2_with (first | ((with_reducible refine gate_callee (f := 32) rfl ?_); refine goesL_ (some 38) rfl rfl Try.func32 (by kernel_rfl) rfl #[.agg #[.int .i64 a0_0, .int .i64 a0_1], .int .i64 a2] rfl (by (try simp only [List.map_toArray, List.map_cons, List.map_nil]); first | done | rfl | (simp only [List.length_drop, List.length_take]; rfl)) ?_; (with_reducible refine (span_Has.calls a0_0 a0_1 a2 false _ A34.out).mono ?_); rintro e w141 ⟨rfl, hb⟩; refine ⟨_, rfl, ?_⟩; have n0_ := Aside0.mk (bB (g := gb740) (o := .cells #[.int .i64 a0_0, .int .i64 a0_1] 47 (0, 0)) (by (with_reducible repeat (first | apply bN | apply bD | apply bA)); exact BK740.out) hb); have n1_ := Aside0.mk (bB (g := gb741) (o := .cells #[.int .i64 a1_0, .int .i64 a1_1] 47 (0, 0)) (by (with_reducible repeat (first | apply bN | apply bD | apply bA)); exact BK741.out) hb); have n2_ := Aside0.mk (bB (g := gb744) (o := .cells #[.int .i64 t742, .int .i64 t743] 47 (0, 0)) (by (with_reducible repeat (first | apply bN | apply bD | apply bA)); exact BK744.out) hb); have n3_ := Aside0.mk (cT (by repeat (first | (with_reducible first | exact HB.out | apply cA | apply cN | apply cD | refine cS ?_ GE740.out | refine cS ?_ GE741.out | refine cS ?_ GE744.out) | exact HB.out)) hb); clear BK740; clear BK741; clear BK744; clear HB; have BK740 := n0_; have BK741 := n1_; have BK744 := n2_; have HB := n3_; clear n0_ n1_ n2_ n3_; (try clear hb); (try clear hb2); (try clear hk); (try clear hi); have hnb142 := NB741_744.out; have hnc142 := NB744_741.out; have hcz143_0 : w141.cell? ⟨gb741, 0, none⟩ = some (.int .i64 a1_0) := (bC BK741.out 0).trans rfl; have hcz143_1 : w141.cell? ⟨gb741, 1, none⟩ = some (.int .i64 a1_1) := (bC BK741.out 1).trans rfl; have hfz143_0 := bZ BK741.out 0; have hfz143_1 := bZ BK741.out 1) | (go_at_call 32; (with_reducible refine (span_Has.calls a1_0 a1_1 a2 true _ A96.out).mono ?_); rintro e w144 ⟨rfl, hb⟩; have n0_ := Aside0.mk (bB (g := gb740) (o := .cells #[.int .i64 a0_0, .int .i64 a0_1] 47 (0, 0)) (by (with_reducible repeat (first | apply bN | apply bD | apply bA)); exact BK740.out) hb); have n1_ := Aside0.mk (bB (g := gb741) (o := .cells #[.int .i64 a1_0, .int .i64 a1_1] 47 (0, 0)) (by (with_reducible repeat (first | apply bN | apply bD | apply bA)); exact BK741.out) hb); have n2_ := Aside0.mk (bB (g := gb744) (o := .cells #[.int .i64 t742, .int .i64 t743] 47 (0, 0)) (by (with_reducible repeat (first | apply bN | apply bD | apply bA)); exact BK744.out) hb); have n3_ := Aside0.mk (cT (by repeat (first | (with_reducible first | exact HB.out | apply cA | apply cN | apply cD | refine cS ?_ GE740.out | refine cS ?_ GE741.out | refine cS ?_ GE744.out) | exact HB.out)) hb); clear BK740; clear BK741; clear BK744; clear HB; have BK740 := n0_; have BK741 := n1_; have BK744 := n2_; have HB := n3_; clear n0_ n1_ n2_ n3_; (try clear hb); (try clear hb2); (try clear hk); (try clear hi); have hcz145_0 : w144.cell? ⟨gb744, 0, none⟩ = some (.int .i64 t742) := (bC BK744.out 0).trans rfl; have hcz145_1 : w144.cell? ⟨gb744, 1, none⟩ = some (.int .i64 t743) := (bC BK744.out 1).trans rfl; have hfz145_0 := bZ BK744.out 0; have hfz145_1 := bZ BK744.out 1) | (go_at_call 32; (with_reducible refine (span_Has.calls t742 t743 a2 true _ A98.out).mono ?_); rintro e w146 ⟨rfl, hb⟩; have n0_ := Aside0.mk (bB (g := gb740) (o := .cells #[.int .i64 a0_0, .int .i64 a0_1] 47 (0, 0)) (by (with_reducible repeat (first | apply bN | apply bD | apply bA)); exact BK740.out) hb); have n1_ := Aside0.mk (bB (g := gb741) (o := .cells #[.int .i64 a1_0, .int .i64 a1_1] 47 (0, 0)) (by (with_reducible repeat (first | apply bN | apply bD | apply bA)); exact BK741.out) hb); have n2_ := Aside0.mk (bB (g := gb744) (o := .cells #[.int .i64 t742, .int .i64 t743] 47 (0, 0)) (by (with_reducible repeat (first | apply bN | apply bD | apply bA)); exact BK744.out) hb); have n3_ := Aside0.mk (cT (by repeat (first | (with_reducible first | exact HB.out | apply cA | apply cN | apply cD | refine cS ?_ GE740.out | refine cS ?_ GE741.out | refine cS ?_ GE744.out) | exact HB.out)) hb); clear BK740; clear BK741; clear BK744; clear HB; have BK740 := n0_; have BK741 := n1_; have BK744 := n2_; have HB := n3_; clear n0_ n1_ n2_ n3_; (try clear hb); (try clear hb2); (try clear hk); (try clear hi); have hcz147_0 : w146.cell? ⟨gb744, 0, none⟩ = some (.int .i64 t742) := (bC BK744.out 0).trans rfl; have hcz147_1 : w146.cell? ⟨gb744, 1, none⟩ = some (.int .i64 t743) := (bC BK744.out 1).trans rfl; have hfz147_0 := bZ BK744.out 0; have hfz147_1 := bZ BK744.out 1; have hcz148_0 : w146.cell? ⟨gb740, 0, none⟩ = some (.int .i64 a0_0) := (bC BK740.out 0).trans rfl; have hcz148_1 : w146.cell? ⟨gb740, 1, none⟩ = some (.int .i64 a0_1) := (bC BK740.out 1).trans rfl; have hfz148_0 := bZ BK740.out 0; have hfz148_1 := bZ BK740.out 1; have hcz149_0 : w146.cell? ⟨gb741, 0, none⟩ = some (.int .i64 a1_0) := (bC BK741.out 0).trans rfl; have hcz149_1 : w146.cell? ⟨gb741, 1, none⟩ = some (.int .i64 a1_1) := (bC BK741.out 1).trans rfl; have hfz149_0 := bZ BK741.out 0; have hfz149_1 := bZ BK741.out 1))
                    go_ret
                    exact ⟨by first | rfl | (simp [errW_none, errW_some] <;> rfl) | (simp [*, errW_none, errW_some] <;> rfl), by repeat (first | (with_reducible first | exact HB.out | apply cA | apply cN | apply cD | refine cS ?_ GE740.out | refine cS ?_ GE741.out | refine cS ?_ GE744.out) | exact HB.out)⟩
                  rw [if_neg c137] at H
                  have c137b0 : decide (a0_1 ≤ t743) = false := decide_eq_false c137
                  clear c137
                  exact absurd hrT.out (by have h_ := Option.some.inj H; rw [← h_]; decide)
                rw [if_neg c136] at H
                have c136b0 : decide (t742 ≤ a1_0) = false := decide_eq_false c136
                clear c136
                exact absurd hrT.out (by have h_ := Option.some.inj H; rw [← h_]; decide)
              rw [if_neg c135] at H
              have c135b0 : decide (t742 ≤ a0_0) = false := decide_eq_false c135
              clear c135
              exact absurd hrT.out (by have h_ := Option.some.inj H; rw [← h_]; decide)
            rw [if_neg c134] at H
            have c134b0 : (t743 == a0_1) = false := beq_eq_false_iff_ne.mpr c134
            have c134b1 : (t743 != a0_1) = true := bne_iff_ne.mpr c134
            by_cases c150 : t743 = a1_1
            · rw [if_pos c150] at H
              have c150b0 : (t743 == a1_1) = true := beq_iff_eq.mpr c150
              have c150b1 : (t743 != a1_1) = false := bne_eq_false_iff_eq.mpr c150
              clear c150
              by_cases c151 : t742 ≤ a0_0
              · rw [if_pos c151] at H
                have c151b0 : decide (t742 ≤ a0_0) = true := decide_eq_true c151
                clear c151
                by_cases c152 : t742 ≤ a1_0
                · rw [if_pos c152] at H
                  have c152b0 : decide (t742 ≤ a1_0) = true := decide_eq_true c152
                  clear c152
                  by_cases c153 : t743 ≥ a0_1
                  · rw [if_pos c153] at H
                    have c153b0 : decide (a0_1 ≤ t743) = true := decide_eq_true c153
                    clear c153
                    obtain rfl := Option.some.inj H
                    have hnb154 := NB740_741.out
                    have hnc154 := NB741_740.out
                    have hnb155 := NB740_744.out
                    have hnc155 := NB744_740.out
                    have hcz156_0 : wc.cell? ⟨gb740, 0, none⟩ = some (.int .i64 a0_0) := (bC BK740.out 0).trans rfl
                    have hcz156_1 : wc.cell? ⟨gb740, 1, none⟩ = some (.int .i64 a0_1) := (bC BK740.out 1).trans rfl
                    have hfz156_0 := bZ BK740.out 0
                    have hfz156_1 := bZ BK740.out 1
                    (try simp only [List.append])
                    go_wp2_with (first | ((with_reducible refine gate_callee (f := 32) rfl ?_); refine goesL_ (some 38) rfl rfl Try.func32 (by kernel_rfl) rfl #[.agg #[.int .i64 a0_0, .int .i64 a0_1], .int .i64 a2] rfl (by (try simp only [List.map_toArray, List.map_cons, List.map_nil]); first | done | rfl | (simp only [List.length_drop, List.length_take]; rfl)) ?_; (with_reducible refine (span_Has.calls a0_0 a0_1 a2 false _ A34.out).mono ?_); rintro e w157 ⟨rfl, hb⟩; refine ⟨_, rfl, ?_⟩; have n0_ := Aside0.mk (bB (g := gb740) (o := .cells #[.int .i64 a0_0, .int .i64 a0_1] 47 (0, 0)) (by (with_reducible repeat (first | apply bN | apply bD | apply bA)); exact BK740.out) hb); have n1_ := Aside0.mk (bB (g := gb741) (o := .cells #[.int .i64 a1_0, .int .i64 a1_1] 47 (0, 0)) (by (with_reducible repeat (first | apply bN | apply bD | apply bA)); exact BK741.out) hb); have n2_ := Aside0.mk (bB (g := gb744) (o := .cells #[.int .i64 t742, .int .i64 t743] 47 (0, 0)) (by (with_reducible repeat (first | apply bN | apply bD | apply bA)); exact BK744.out) hb); have n3_ := Aside0.mk (cT (by repeat (first | (with_reducible first | exact HB.out | apply cA | apply cN | apply cD | refine cS ?_ GE740.out | refine cS ?_ GE741.out | refine cS ?_ GE744.out) | exact HB.out)) hb); clear BK740; clear BK741; clear BK744; clear HB; have BK740 := n0_; have BK741 := n1_; have BK744 := n2_; have HB := n3_; clear n0_ n1_ n2_ n3_; (try clear hb); (try clear hb2); (try clear hk); (try clear hi); have hnb158 := NB741_744.out; have hnc158 := NB744_741.out; have hcz159_0 : w157.cell? ⟨gb741, 0, none⟩ = some (.int .i64 a1_0) := (bC BK741.out 0).trans rfl; have hcz159_1 : w157.cell? ⟨gb741, 1, none⟩ = some (.int .i64 a1_1) := (bC BK741.out 1).trans rfl; have hfz159_0 := bZ BK741.out 0; have hfz159_1 := bZ BK741.out 1) | (go_at_call 32; (with_reducible refine (span_Has.calls a1_0 a1_1 a2 true _ A96.out).mono ?_); rintro e w160 ⟨rfl, hb⟩; have n0_ := Aside0.mk (bB (g := gb740) (o := .cells #[.int .i64 a0_0, .int .i64 a0_1] 47 (0, 0)) (by (with_reducible repeat (first | apply bN | apply bD | apply bA)); exact BK740.out) hb); have n1_ := Aside0.mk (bB (g := gb741) (o := .cells #[.int .i64 a1_0, .int .i64 a1_1] 47 (0, 0)) (by (with_reducible repeat (first | apply bN | apply bD | apply bA)); exact BK741.out) hb); have n2_ := Aside0.mk (bB (g := gb744) (o := .cells #[.int .i64 t742, .int .i64 t743] 47 (0, 0)) (by (with_reducible repeat (first | apply bN | apply bD | apply bA)); exact BK744.out) hb); have n3_ := Aside0.mk (cT (by repeat (first | (with_reducible first | exact HB.out | apply cA | apply cN | apply cD | refine cS ?_ GE740.out | refine cS ?_ GE741.out | refine cS ?_ GE744.out) | exact HB.out)) hb); clear BK740; clear BK741; clear BK744; clear HB; have BK740 := n0_; have BK741 := n1_; have BK744 := n2_; have HB := n3_; clear n0_ n1_ n2_ n3_; (try clear hb); (try clear hb2); (try clear hk); (try clear hi); have hcz161_0 : w160.cell? ⟨gb744, 0, none⟩ = some (.int .i64 t742) := (bC BK744.out 0).trans rfl; have hcz161_1 : w160.cell? ⟨gb744, 1, none⟩ = some (.int .i64 t743) := (bC BK744.out 1).trans rfl; have hfz161_0 := bZ BK744.out 0; have hfz161_1 := bZ BK744.out 1) | (go_at_call 32; (with_reducible refine (span_Has.calls t742 t743 a2 true _ A98.out).mono ?_); rintro e w162 ⟨rfl, hb⟩; have n0_ := Aside0.mk (bB (g := gb740) (o := .cells #[.int .i64 a0_0, .int .i64 a0_1] 47 (0, 0)) (by (with_reducible repeat (first | apply bN | apply bD | apply bA)); exact BK740.out) hb); have n1_ := Aside0.mk (bB (g := gb741) (o := .cells #[.int .i64 a1_0, .int .i64 a1_1] 47 (0, 0)) (by (with_reducible repeat (first | apply bN | apply bD | apply bA)); exact BK741.out) hb); have n2_ := Aside0.mk (bB (g := gb744) (o := .cells #[.int .i64 t742, .int .i64 t743] 47 (0, 0)) (by (with_reducible repeat (first | apply bN | apply bD | apply bA)); exact BK744.out) hb); have n3_ := Aside0.mk (cT (by repeat (first | (with_reducible first | exact HB.out | apply cA | apply cN | apply cD | refine cS ?_ GE740.out | refine cS ?_ GE741.out | refine cS ?_ GE744.out) | exact HB.out)) hb); clear BK740; clear BK741; clear BK744; clear HB; have BK740 := n0_; have BK741 := n1_; have BK744 := n2_; have HB := n3_; clear n0_ n1_ n2_ n3_; (try clear hb); (try clear hb2); (try clear hk); (try clear hi); have hcz163_0 : w162.cell? ⟨gb744, 0, none⟩ = some (.int .i64 t742) := (bC BK744.out 0).trans rfl; have hcz163_1 : w162.cell? ⟨gb744, 1, none⟩ = some (.int .i64 t743) := (bC BK744.out 1).trans rfl; have hfz163_0 := bZ BK744.out 0; have hfz163_1 := bZ BK744.out 1; have hcz164_0 : w162.cell? ⟨gb740, 0, none⟩ = some (.int .i64 a0_0) := (bC BK740.out 0).trans rfl; have hcz164_1 : w162.cell? ⟨gb740, 1, none⟩ = some (.int .i64 a0_1) := (bC BK740.out 1).trans rfl; have hfz164_0 := bZ BK740.out 0; have hfz164_1 := bZ BK740.out 1; have hcz165_0 : w162.cell? ⟨gb741, 0, none⟩ = some (.int .i64 a1_0) := (bC BK741.out 0).trans rfl; have hcz165_1 : w162.cell? ⟨gb741, 1, none⟩ = some (.int .i64 a1_1) := (bC BK741.out 1).trans rfl; have hfz165_0 := bZ BK741.out 0; have hfz165_1 := bZ BK741.out 1))
                    go_ret
                    exact ⟨by first | rfl | (simp [errW_none, errW_some] <;> rfl) | (simp [*, errW_none, errW_some] <;> rfl), by repeat (first | (with_reducible first | exact HB.out | apply cA | apply cN | apply cD | refine cS ?_ GE740.out | refine cS ?_ GE741.out | refine cS ?_ GE744.out) | exact HB.out)⟩
                  rw [if_neg c153] at H
                  have c153b0 : decide (a0_1 ≤ t743) = false := decide_eq_false c153
                  clear c153
                  exact absurd hrT.out (by have h_ := Option.some.inj H; rw [← h_]; decide)
                rw [if_neg c152] at H
                have c152b0 : decide (t742 ≤ a1_0) = false := decide_eq_false c152
                clear c152
                exact absurd hrT.out (by have h_ := Option.some.inj H; rw [← h_]; decide)
              rw [if_neg c151] at H
              have c151b0 : decide (t742 ≤ a0_0) = false := decide_eq_false c151
              clear c151
              exact absurd hrT.out (by have h_ := Option.some.inj H; rw [← h_]; decide)
            rw [if_neg c150] at H
            have c150b0 : (t743 == a1_1) = false := beq_eq_false_iff_ne.mpr c150
            have c150b1 : (t743 != a1_1) = true := bne_iff_ne.mpr c150
            exact absurd hrT.out (by have h_ := Option.some.inj H; rw [← h_]; decide)
          rw [if_neg c133] at H
          have c133b0 : (t742 == a1_0) = false := beq_eq_false_iff_ne.mpr c133
          have c133b1 : (t742 != a1_0) = true := bne_iff_ne.mpr c133
          exact absurd hrT.out (by have h_ := Option.some.inj H; rw [← h_]; decide)
        replace c99 := Bool.eq_false_iff.mpr c99
        subst c99
        have H1 : (some false) = some r := by rw [if_neg (show ¬ (false = true) by decide)] at H; exact H
        clear H
        have H := H1
        clear H1
        exact absurd hrT.out (by have h_ := Option.some.inj H; rw [← h_]; decide)
      replace c97 := Bool.eq_false_iff.mpr c97
      subst c97
      have H1 : (if t742 = a0_0 then (if t743 = a0_1 then (if t742 ≤ a0_0 then (if t742 ≤ a1_0 then (if t743 ≥ a0_1 then (some (decide (t743 ≥ a1_1))) else (some false)) else (some false)) else (some false)) else (if t743 = a1_1 then (if t742 ≤ a0_0 then (if t742 ≤ a1_0 then (if t743 ≥ a0_1 then (some (decide (t743 ≥ a1_1))) else (some false)) else (some false)) else (some false)) else (some false))) else (if t742 = a1_0 then (if t743 = a0_1 then (if t742 ≤ a0_0 then (if t742 ≤ a1_0 then (if t743 ≥ a0_1 then (some (decide (t743 ≥ a1_1))) else (some false)) else (some false)) else (some false)) else (if t743 = a1_1 then (if t742 ≤ a0_0 then (if t742 ≤ a1_0 then (if t743 ≥ a0_1 then (some (decide (t743 ≥ a1_1))) else (some false)) else (some false)) else (some false)) else (some false))) else (some false))) = some r := by rw [if_neg (show ¬ (false = true) by decide)] at H; exact H
      clear H
      have H := H1
      clear H1
      by_cases c166 : t742 = a0_0
      · rw [if_pos c166] at H
        have c166b0 : (t742 == a0_0) = true := beq_iff_eq.mpr c166
        have c166b1 : (t742 != a0_0) = false := bne_eq_false_iff_eq.mpr c166
        clear c166
        by_cases c167 : t743 = a0_1
        · rw [if_pos c167] at H
          have c167b0 : (t743 == a0_1) = true := beq_iff_eq.mpr c167
          have c167b1 : (t743 != a0_1) = false := bne_eq_false_iff_eq.mpr c167
          clear c167
          by_cases c168 : t742 ≤ a0_0
          · rw [if_pos c168] at H
            have c168b0 : decide (t742 ≤ a0_0) = true := decide_eq_true c168
            clear c168
            by_cases c169 : t742 ≤ a1_0
            · rw [if_pos c169] at H
              have c169b0 : decide (t742 ≤ a1_0) = true := decide_eq_true c169
              clear c169
              by_cases c170 : t743 ≥ a0_1
              · rw [if_pos c170] at H
                have c170b0 : decide (a0_1 ≤ t743) = true := decide_eq_true c170
                clear c170
                obtain rfl := Option.some.inj H
                have hnb171 := NB740_741.out
                have hnc171 := NB741_740.out
                have hnb172 := NB740_744.out
                have hnc172 := NB744_740.out
                have hcz173_0 : wc.cell? ⟨gb740, 0, none⟩ = some (.int .i64 a0_0) := (bC BK740.out 0).trans rfl
                have hcz173_1 : wc.cell? ⟨gb740, 1, none⟩ = some (.int .i64 a0_1) := (bC BK740.out 1).trans rfl
                have hfz173_0 := bZ BK740.out 0
                have hfz173_1 := bZ BK740.out 1
                (try simp only [List.append])
                go_wp2_with (first | ((with_reducible refine gate_callee (f := 32) rfl ?_); refine goesL_ (some 38) rfl rfl Try.func32 (by kernel_rfl) rfl #[.agg #[.int .i64 a0_0, .int .i64 a0_1], .int .i64 a2] rfl (by (try simp only [List.map_toArray, List.map_cons, List.map_nil]); first | done | rfl | (simp only [List.length_drop, List.length_take]; rfl)) ?_; (with_reducible refine (span_Has.calls a0_0 a0_1 a2 false _ A34.out).mono ?_); rintro e w174 ⟨rfl, hb⟩; refine ⟨_, rfl, ?_⟩; have n0_ := Aside0.mk (bB (g := gb740) (o := .cells #[.int .i64 a0_0, .int .i64 a0_1] 47 (0, 0)) (by (with_reducible repeat (first | apply bN | apply bD | apply bA)); exact BK740.out) hb); have n1_ := Aside0.mk (bB (g := gb741) (o := .cells #[.int .i64 a1_0, .int .i64 a1_1] 47 (0, 0)) (by (with_reducible repeat (first | apply bN | apply bD | apply bA)); exact BK741.out) hb); have n2_ := Aside0.mk (bB (g := gb744) (o := .cells #[.int .i64 t742, .int .i64 t743] 47 (0, 0)) (by (with_reducible repeat (first | apply bN | apply bD | apply bA)); exact BK744.out) hb); have n3_ := Aside0.mk (cT (by repeat (first | (with_reducible first | exact HB.out | apply cA | apply cN | apply cD | refine cS ?_ GE740.out | refine cS ?_ GE741.out | refine cS ?_ GE744.out) | exact HB.out)) hb); clear BK740; clear BK741; clear BK744; clear HB; have BK740 := n0_; have BK741 := n1_; have BK744 := n2_; have HB := n3_; clear n0_ n1_ n2_ n3_; (try clear hb); (try clear hb2); (try clear hk); (try clear hi); have hnb175 := NB741_744.out; have hnc175 := NB744_741.out; have hcz176_0 : w174.cell? ⟨gb741, 0, none⟩ = some (.int .i64 a1_0) := (bC BK741.out 0).trans rfl; have hcz176_1 : w174.cell? ⟨gb741, 1, none⟩ = some (.int .i64 a1_1) := (bC BK741.out 1).trans rfl; have hfz176_0 := bZ BK741.out 0; have hfz176_1 := bZ BK741.out 1) | (go_at_call 32; (with_reducible refine (span_Has.calls a1_0 a1_1 a2 false _ A96.out).mono ?_); rintro e w177 ⟨rfl, hb⟩; have n0_ := Aside0.mk (bB (g := gb740) (o := .cells #[.int .i64 a0_0, .int .i64 a0_1] 47 (0, 0)) (by (with_reducible repeat (first | apply bN | apply bD | apply bA)); exact BK740.out) hb); have n1_ := Aside0.mk (bB (g := gb741) (o := .cells #[.int .i64 a1_0, .int .i64 a1_1] 47 (0, 0)) (by (with_reducible repeat (first | apply bN | apply bD | apply bA)); exact BK741.out) hb); have n2_ := Aside0.mk (bB (g := gb744) (o := .cells #[.int .i64 t742, .int .i64 t743] 47 (0, 0)) (by (with_reducible repeat (first | apply bN | apply bD | apply bA)); exact BK744.out) hb); have n3_ := Aside0.mk (cT (by repeat (first | (with_reducible first | exact HB.out | apply cA | apply cN | apply cD | refine cS ?_ GE740.out | refine cS ?_ GE741.out | refine cS ?_ GE744.out) | exact HB.out)) hb); clear BK740; clear BK741; clear BK744; clear HB; have BK740 := n0_; have BK741 := n1_; have BK744 := n2_; have HB := n3_; clear n0_ n1_ n2_ n3_; (try clear hb); (try clear hb2); (try clear hk); (try clear hi); have hcz178_0 : w177.cell? ⟨gb744, 0, none⟩ = some (.int .i64 t742) := (bC BK744.out 0).trans rfl; have hcz178_1 : w177.cell? ⟨gb744, 1, none⟩ = some (.int .i64 t743) := (bC BK744.out 1).trans rfl; have hfz178_0 := bZ BK744.out 0; have hfz178_1 := bZ BK744.out 1; have hcz179_0 : w177.cell? ⟨gb740, 0, none⟩ = some (.int .i64 a0_0) := (bC BK740.out 0).trans rfl; have hcz179_1 : w177.cell? ⟨gb740, 1, none⟩ = some (.int .i64 a0_1) := (bC BK740.out 1).trans rfl; have hfz179_0 := bZ BK740.out 0; have hfz179_1 := bZ BK740.out 1; have hcz180_0 : w177.cell? ⟨gb741, 0, none⟩ = some (.int .i64 a1_0) := (bC BK741.out 0).trans rfl; have hcz180_1 : w177.cell? ⟨gb741, 1, none⟩ = some (.int .i64 a1_1) := (bC BK741.out 1).trans rfl; have hfz180_0 := bZ BK741.out 0; have hfz180_1 := bZ BK741.out 1))
                go_ret
                exact ⟨by first | rfl | (simp [errW_none, errW_some] <;> rfl) | (simp [*, errW_none, errW_some] <;> rfl), by repeat (first | (with_reducible first | exact HB.out | apply cA | apply cN | apply cD | refine cS ?_ GE740.out | refine cS ?_ GE741.out | refine cS ?_ GE744.out) | exact HB.out)⟩
              rw [if_neg c170] at H
              have c170b0 : decide (a0_1 ≤ t743) = false := decide_eq_false c170
              clear c170
              exact absurd hrT.out (by have h_ := Option.some.inj H; rw [← h_]; decide)
            rw [if_neg c169] at H
            have c169b0 : decide (t742 ≤ a1_0) = false := decide_eq_false c169
            clear c169
            exact absurd hrT.out (by have h_ := Option.some.inj H; rw [← h_]; decide)
          rw [if_neg c168] at H
          have c168b0 : decide (t742 ≤ a0_0) = false := decide_eq_false c168
          clear c168
          exact absurd hrT.out (by have h_ := Option.some.inj H; rw [← h_]; decide)
        rw [if_neg c167] at H
        have c167b0 : (t743 == a0_1) = false := beq_eq_false_iff_ne.mpr c167
        have c167b1 : (t743 != a0_1) = true := bne_iff_ne.mpr c167
        by_cases c181 : t743 = a1_1
        · rw [if_pos c181] at H
          have c181b0 : (t743 == a1_1) = true := beq_iff_eq.mpr c181
          have c181b1 : (t743 != a1_1) = false := bne_eq_false_iff_eq.mpr c181
          clear c181
          by_cases c182 : t742 ≤ a0_0
          · rw [if_pos c182] at H
            have c182b0 : decide (t742 ≤ a0_0) = true := decide_eq_true c182
            clear c182
            by_cases c183 : t742 ≤ a1_0
            · rw [if_pos c183] at H
              have c183b0 : decide (t742 ≤ a1_0) = true := decide_eq_true c183
              clear c183
              by_cases c184 : t743 ≥ a0_1
              · rw [if_pos c184] at H
                have c184b0 : decide (a0_1 ≤ t743) = true := decide_eq_true c184
                clear c184
                obtain rfl := Option.some.inj H
                have hnb185 := NB740_741.out
                have hnc185 := NB741_740.out
                have hnb186 := NB740_744.out
                have hnc186 := NB744_740.out
                have hcz187_0 : wc.cell? ⟨gb740, 0, none⟩ = some (.int .i64 a0_0) := (bC BK740.out 0).trans rfl
                have hcz187_1 : wc.cell? ⟨gb740, 1, none⟩ = some (.int .i64 a0_1) := (bC BK740.out 1).trans rfl
                have hfz187_0 := bZ BK740.out 0
                have hfz187_1 := bZ BK740.out 1
                (try simp only [List.append])
                go_wp2_with (first | ((with_reducible refine gate_callee (f := 32) rfl ?_); refine goesL_ (some 38) rfl rfl Try.func32 (by kernel_rfl) rfl #[.agg #[.int .i64 a0_0, .int .i64 a0_1], .int .i64 a2] rfl (by (try simp only [List.map_toArray, List.map_cons, List.map_nil]); first | done | rfl | (simp only [List.length_drop, List.length_take]; rfl)) ?_; (with_reducible refine (span_Has.calls a0_0 a0_1 a2 false _ A34.out).mono ?_); rintro e w188 ⟨rfl, hb⟩; refine ⟨_, rfl, ?_⟩; have n0_ := Aside0.mk (bB (g := gb740) (o := .cells #[.int .i64 a0_0, .int .i64 a0_1] 47 (0, 0)) (by (with_reducible repeat (first | apply bN | apply bD | apply bA)); exact BK740.out) hb); have n1_ := Aside0.mk (bB (g := gb741) (o := .cells #[.int .i64 a1_0, .int .i64 a1_1] 47 (0, 0)) (by (with_reducible repeat (first | apply bN | apply bD | apply bA)); exact BK741.out) hb); have n2_ := Aside0.mk (bB (g := gb744) (o := .cells #[.int .i64 t742, .int .i64 t743] 47 (0, 0)) (by (with_reducible repeat (first | apply bN | apply bD | apply bA)); exact BK744.out) hb); have n3_ := Aside0.mk (cT (by repeat (first | (with_reducible first | exact HB.out | apply cA | apply cN | apply cD | refine cS ?_ GE740.out | refine cS ?_ GE741.out | refine cS ?_ GE744.out) | exact HB.out)) hb); clear BK740; clear BK741; clear BK744; clear HB; have BK740 := n0_; have BK741 := n1_; have BK744 := n2_; have HB := n3_; clear n0_ n1_ n2_ n3_; (try clear hb); (try clear hb2); (try clear hk); (try clear hi); have hnb189 := NB741_744.out; have hnc189 := NB744_741.out; have hcz190_0 : w188.cell? ⟨gb741, 0, none⟩ = some (.int .i64 a1_0) := (bC BK741.out 0).trans rfl; have hcz190_1 : w188.cell? ⟨gb741, 1, none⟩ = some (.int .i64 a1_1) := (bC BK741.out 1).trans rfl; have hfz190_0 := bZ BK741.out 0; have hfz190_1 := bZ BK741.out 1) | (go_at_call 32; (with_reducible refine (span_Has.calls a1_0 a1_1 a2 false _ A96.out).mono ?_); rintro e w191 ⟨rfl, hb⟩; have n0_ := Aside0.mk (bB (g := gb740) (o := .cells #[.int .i64 a0_0, .int .i64 a0_1] 47 (0, 0)) (by (with_reducible repeat (first | apply bN | apply bD | apply bA)); exact BK740.out) hb); have n1_ := Aside0.mk (bB (g := gb741) (o := .cells #[.int .i64 a1_0, .int .i64 a1_1] 47 (0, 0)) (by (with_reducible repeat (first | apply bN | apply bD | apply bA)); exact BK741.out) hb); have n2_ := Aside0.mk (bB (g := gb744) (o := .cells #[.int .i64 t742, .int .i64 t743] 47 (0, 0)) (by (with_reducible repeat (first | apply bN | apply bD | apply bA)); exact BK744.out) hb); have n3_ := Aside0.mk (cT (by repeat (first | (with_reducible first | exact HB.out | apply cA | apply cN | apply cD | refine cS ?_ GE740.out | refine cS ?_ GE741.out | refine cS ?_ GE744.out) | exact HB.out)) hb); clear BK740; clear BK741; clear BK744; clear HB; have BK740 := n0_; have BK741 := n1_; have BK744 := n2_; have HB := n3_; clear n0_ n1_ n2_ n3_; (try clear hb); (try clear hb2); (try clear hk); (try clear hi); have hcz192_0 : w191.cell? ⟨gb744, 0, none⟩ = some (.int .i64 t742) := (bC BK744.out 0).trans rfl; have hcz192_1 : w191.cell? ⟨gb744, 1, none⟩ = some (.int .i64 t743) := (bC BK744.out 1).trans rfl; have hfz192_0 := bZ BK744.out 0; have hfz192_1 := bZ BK744.out 1; have hcz193_0 : w191.cell? ⟨gb740, 0, none⟩ = some (.int .i64 a0_0) := (bC BK740.out 0).trans rfl; have hcz193_1 : w191.cell? ⟨gb740, 1, none⟩ = some (.int .i64 a0_1) := (bC BK740.out 1).trans rfl; have hfz193_0 := bZ BK740.out 0; have hfz193_1 := bZ BK740.out 1; have hcz194_0 : w191.cell? ⟨gb741, 0, none⟩ = some (.int .i64 a1_0) := (bC BK741.out 0).trans rfl; have hcz194_1 : w191.cell? ⟨gb741, 1, none⟩ = some (.int .i64 a1_1) := (bC BK741.out 1).trans rfl; have hfz194_0 := bZ BK741.out 0; have hfz194_1 := bZ BK741.out 1))
                go_ret
                exact ⟨by first | rfl | (simp [errW_none, errW_some] <;> rfl) | (simp [*, errW_none, errW_some] <;> rfl), by repeat (first | (with_reducible first | exact HB.out | apply cA | apply cN | apply cD | refine cS ?_ GE740.out | refine cS ?_ GE741.out | refine cS ?_ GE744.out) | exact HB.out)⟩
              rw [if_neg c184] at H
              have c184b0 : decide (a0_1 ≤ t743) = false := decide_eq_false c184
              clear c184
              exact absurd hrT.out (by have h_ := Option.some.inj H; rw [← h_]; decide)
            rw [if_neg c183] at H
            have c183b0 : decide (t742 ≤ a1_0) = false := decide_eq_false c183
            clear c183
            exact absurd hrT.out (by have h_ := Option.some.inj H; rw [← h_]; decide)
          rw [if_neg c182] at H
          have c182b0 : decide (t742 ≤ a0_0) = false := decide_eq_false c182
          clear c182
          exact absurd hrT.out (by have h_ := Option.some.inj H; rw [← h_]; decide)
        rw [if_neg c181] at H
        have c181b0 : (t743 == a1_1) = false := beq_eq_false_iff_ne.mpr c181
        have c181b1 : (t743 != a1_1) = true := bne_iff_ne.mpr c181
        exact absurd hrT.out (by have h_ := Option.some.inj H; rw [← h_]; decide)
      rw [if_neg c166] at H
      have c166b0 : (t742 == a0_0) = false := beq_eq_false_iff_ne.mpr c166
      have c166b1 : (t742 != a0_0) = true := bne_iff_ne.mpr c166
      by_cases c195 : t742 = a1_0
      · rw [if_pos c195] at H
        have c195b0 : (t742 == a1_0) = true := beq_iff_eq.mpr c195
        have c195b1 : (t742 != a1_0) = false := bne_eq_false_iff_eq.mpr c195
        clear c195
        by_cases c196 : t743 = a0_1
        · rw [if_pos c196] at H
          have c196b0 : (t743 == a0_1) = true := beq_iff_eq.mpr c196
          have c196b1 : (t743 != a0_1) = false := bne_eq_false_iff_eq.mpr c196
          clear c196
          by_cases c197 : t742 ≤ a0_0
          · rw [if_pos c197] at H
            have c197b0 : decide (t742 ≤ a0_0) = true := decide_eq_true c197
            clear c197
            by_cases c198 : t742 ≤ a1_0
            · rw [if_pos c198] at H
              have c198b0 : decide (t742 ≤ a1_0) = true := decide_eq_true c198
              clear c198
              by_cases c199 : t743 ≥ a0_1
              · rw [if_pos c199] at H
                have c199b0 : decide (a0_1 ≤ t743) = true := decide_eq_true c199
                clear c199
                obtain rfl := Option.some.inj H
                have hnb200 := NB740_741.out
                have hnc200 := NB741_740.out
                have hnb201 := NB740_744.out
                have hnc201 := NB744_740.out
                have hcz202_0 : wc.cell? ⟨gb740, 0, none⟩ = some (.int .i64 a0_0) := (bC BK740.out 0).trans rfl
                have hcz202_1 : wc.cell? ⟨gb740, 1, none⟩ = some (.int .i64 a0_1) := (bC BK740.out 1).trans rfl
                have hfz202_0 := bZ BK740.out 0
                have hfz202_1 := bZ BK740.out 1
                (try simp only [List.append])
                go_wp2_with (first | ((with_reducible refine gate_callee (f := 32) rfl ?_); refine goesL_ (some 38) rfl rfl Try.func32 (by kernel_rfl) rfl #[.agg #[.int .i64 a0_0, .int .i64 a0_1], .int .i64 a2] rfl (by (try simp only [List.map_toArray, List.map_cons, List.map_nil]); first | done | rfl | (simp only [List.length_drop, List.length_take]; rfl)) ?_; (with_reducible refine (span_Has.calls a0_0 a0_1 a2 false _ A34.out).mono ?_); rintro e w203 ⟨rfl, hb⟩; refine ⟨_, rfl, ?_⟩; have n0_ := Aside0.mk (bB (g := gb740) (o := .cells #[.int .i64 a0_0, .int .i64 a0_1] 47 (0, 0)) (by (with_reducible repeat (first | apply bN | apply bD | apply bA)); exact BK740.out) hb); have n1_ := Aside0.mk (bB (g := gb741) (o := .cells #[.int .i64 a1_0, .int .i64 a1_1] 47 (0, 0)) (by (with_reducible repeat (first | apply bN | apply bD | apply bA)); exact BK741.out) hb); have n2_ := Aside0.mk (bB (g := gb744) (o := .cells #[.int .i64 t742, .int .i64 t743] 47 (0, 0)) (by (with_reducible repeat (first | apply bN | apply bD | apply bA)); exact BK744.out) hb); have n3_ := Aside0.mk (cT (by repeat (first | (with_reducible first | exact HB.out | apply cA | apply cN | apply cD | refine cS ?_ GE740.out | refine cS ?_ GE741.out | refine cS ?_ GE744.out) | exact HB.out)) hb); clear BK740; clear BK741; clear BK744; clear HB; have BK740 := n0_; have BK741 := n1_; have BK744 := n2_; have HB := n3_; clear n0_ n1_ n2_ n3_; (try clear hb); (try clear hb2); (try clear hk); (try clear hi); have hnb204 := NB741_744.out; have hnc204 := NB744_741.out; have hcz205_0 : w203.cell? ⟨gb741, 0, none⟩ = some (.int .i64 a1_0) := (bC BK741.out 0).trans rfl; have hcz205_1 : w203.cell? ⟨gb741, 1, none⟩ = some (.int .i64 a1_1) := (bC BK741.out 1).trans rfl; have hfz205_0 := bZ BK741.out 0; have hfz205_1 := bZ BK741.out 1) | (go_at_call 32; (with_reducible refine (span_Has.calls a1_0 a1_1 a2 false _ A96.out).mono ?_); rintro e w206 ⟨rfl, hb⟩; have n0_ := Aside0.mk (bB (g := gb740) (o := .cells #[.int .i64 a0_0, .int .i64 a0_1] 47 (0, 0)) (by (with_reducible repeat (first | apply bN | apply bD | apply bA)); exact BK740.out) hb); have n1_ := Aside0.mk (bB (g := gb741) (o := .cells #[.int .i64 a1_0, .int .i64 a1_1] 47 (0, 0)) (by (with_reducible repeat (first | apply bN | apply bD | apply bA)); exact BK741.out) hb); have n2_ := Aside0.mk (bB (g := gb744) (o := .cells #[.int .i64 t742, .int .i64 t743] 47 (0, 0)) (by (with_reducible repeat (first | apply bN | apply bD | apply bA)); exact BK744.out) hb); have n3_ := Aside0.mk (cT (by repeat (first | (with_reducible first | exact HB.out | apply cA | apply cN | apply cD | refine cS ?_ GE740.out | refine cS ?_ GE741.out | refine cS ?_ GE744.out) | exact HB.out)) hb); clear BK740; clear BK741; clear BK744; clear HB; have BK740 := n0_; have BK741 := n1_; have BK744 := n2_; have HB := n3_; clear n0_ n1_ n2_ n3_; (try clear hb); (try clear hb2); (try clear hk); (try clear hi); have hcz207_0 : w206.cell? ⟨gb744, 0, none⟩ = some (.int .i64 t742) := (bC BK744.out 0).trans rfl; have hcz207_1 : w206.cell? ⟨gb744, 1, none⟩ = some (.int .i64 t743) := (bC BK744.out 1).trans rfl; have hfz207_0 := bZ BK744.out 0; have hfz207_1 := bZ BK744.out 1; have hcz208_0 : w206.cell? ⟨gb740, 0, none⟩ = some (.int .i64 a0_0) := (bC BK740.out 0).trans rfl; have hcz208_1 : w206.cell? ⟨gb740, 1, none⟩ = some (.int .i64 a0_1) := (bC BK740.out 1).trans rfl; have hfz208_0 := bZ BK740.out 0; have hfz208_1 := bZ BK740.out 1; have hcz209_0 : w206.cell? ⟨gb741, 0, none⟩ = some (.int .i64 a1_0) := (bC BK741.out 0).trans rfl; have hcz209_1 : w206.cell? ⟨gb741, 1, none⟩ = some (.int .i64 a1_1) := (bC BK741.out 1).trans rfl; have hfz209_0 := bZ BK741.out 0; have hfz209_1 := bZ BK741.out 1))
                go_ret
                exact ⟨by first | rfl | (simp [errW_none, errW_some] <;> rfl) | (simp [*, errW_none, errW_some] <;> rfl), by repeat (first | (with_reducible first | exact HB.out | apply cA | apply cN | apply cD | refine cS ?_ GE740.out | refine cS ?_ GE741.out | refine cS ?_ GE744.out) | exact HB.out)⟩
              rw [if_neg c199] at H
              have c199b0 : decide (a0_1 ≤ t743) = false := decide_eq_false c199
              clear c199
              exact absurd hrT.out (by have h_ := Option.some.inj H; rw [← h_]; decide)
            rw [if_neg c198] at H
            have c198b0 : decide (t742 ≤ a1_0) = false := decide_eq_false c198
            clear c198
            exact absurd hrT.out (by have h_ := Option.some.inj H; rw [← h_]; decide)
          rw [if_neg c197] at H
          have c197b0 : decide (t742 ≤ a0_0) = false := decide_eq_false c197
          clear c197
          exact absurd hrT.out (by have h_ := Option.some.inj H; rw [← h_]; decide)
        rw [if_neg c196] at H
        have c196b0 : (t743 == a0_1) = false := beq_eq_false_iff_ne.mpr c196
        have c196b1 : (t743 != a0_1) = true := bne_iff_ne.mpr c196
        by_cases c210 : t743 = a1_1
        · rw [if_pos c210] at H
          have c210b0 : (t743 == a1_1) = true := beq_iff_eq.mpr c210
          have c210b1 : (t743 != a1_1) = false := bne_eq_false_iff_eq.mpr c210
          clear c210
          by_cases c211 : t742 ≤ a0_0
          · rw [if_pos c211] at H
            have c211b0 : decide (t742 ≤ a0_0) = true := decide_eq_true c211
            clear c211
            by_cases c212 : t742 ≤ a1_0
            · rw [if_pos c212] at H
              have c212b0 : decide (t742 ≤ a1_0) = true := decide_eq_true c212
              clear c212
              by_cases c213 : t743 ≥ a0_1
              · rw [if_pos c213] at H
                have c213b0 : decide (a0_1 ≤ t743) = true := decide_eq_true c213
                clear c213
                obtain rfl := Option.some.inj H
                have hnb214 := NB740_741.out
                have hnc214 := NB741_740.out
                have hnb215 := NB740_744.out
                have hnc215 := NB744_740.out
                have hcz216_0 : wc.cell? ⟨gb740, 0, none⟩ = some (.int .i64 a0_0) := (bC BK740.out 0).trans rfl
                have hcz216_1 : wc.cell? ⟨gb740, 1, none⟩ = some (.int .i64 a0_1) := (bC BK740.out 1).trans rfl
                have hfz216_0 := bZ BK740.out 0
                have hfz216_1 := bZ BK740.out 1
                (try simp only [List.append])
                go_wp2_with (first | ((with_reducible refine gate_callee (f := 32) rfl ?_); refine goesL_ (some 38) rfl rfl Try.func32 (by kernel_rfl) rfl #[.agg #[.int .i64 a0_0, .int .i64 a0_1], .int .i64 a2] rfl (by (try simp only [List.map_toArray, List.map_cons, List.map_nil]); first | done | rfl | (simp only [List.length_drop, List.length_take]; rfl)) ?_; (with_reducible refine (span_Has.calls a0_0 a0_1 a2 false _ A34.out).mono ?_); rintro e w217 ⟨rfl, hb⟩; refine ⟨_, rfl, ?_⟩; have n0_ := Aside0.mk (bB (g := gb740) (o := .cells #[.int .i64 a0_0, .int .i64 a0_1] 47 (0, 0)) (by (with_reducible repeat (first | apply bN | apply bD | apply bA)); exact BK740.out) hb); have n1_ := Aside0.mk (bB (g := gb741) (o := .cells #[.int .i64 a1_0, .int .i64 a1_1] 47 (0, 0)) (by (with_reducible repeat (first | apply bN | apply bD | apply bA)); exact BK741.out) hb); have n2_ := Aside0.mk (bB (g := gb744) (o := .cells #[.int .i64 t742, .int .i64 t743] 47 (0, 0)) (by (with_reducible repeat (first | apply bN | apply bD | apply bA)); exact BK744.out) hb); have n3_ := Aside0.mk (cT (by repeat (first | (with_reducible first | exact HB.out | apply cA | apply cN | apply cD | refine cS ?_ GE740.out | refine cS ?_ GE741.out | refine cS ?_ GE744.out) | exact HB.out)) hb); clear BK740; clear BK741; clear BK744; clear HB; have BK740 := n0_; have BK741 := n1_; have BK744 := n2_; have HB := n3_; clear n0_ n1_ n2_ n3_; (try clear hb); (try clear hb2); (try clear hk); (try clear hi); have hnb218 := NB741_744.out; have hnc218 := NB744_741.out; have hcz219_0 : w217.cell? ⟨gb741, 0, none⟩ = some (.int .i64 a1_0) := (bC BK741.out 0).trans rfl; have hcz219_1 : w217.cell? ⟨gb741, 1, none⟩ = some (.int .i64 a1_1) := (bC BK741.out 1).trans rfl; have hfz219_0 := bZ BK741.out 0; have hfz219_1 := bZ BK741.out 1) | (go_at_call 32; (with_reducible refine (span_Has.calls a1_0 a1_1 a2 false _ A96.out).mono ?_); rintro e w220 ⟨rfl, hb⟩; have n0_ := Aside0.mk (bB (g := gb740) (o := .cells #[.int .i64 a0_0, .int .i64 a0_1] 47 (0, 0)) (by (with_reducible repeat (first | apply bN | apply bD | apply bA)); exact BK740.out) hb); have n1_ := Aside0.mk (bB (g := gb741) (o := .cells #[.int .i64 a1_0, .int .i64 a1_1] 47 (0, 0)) (by (with_reducible repeat (first | apply bN | apply bD | apply bA)); exact BK741.out) hb); have n2_ := Aside0.mk (bB (g := gb744) (o := .cells #[.int .i64 t742, .int .i64 t743] 47 (0, 0)) (by (with_reducible repeat (first | apply bN | apply bD | apply bA)); exact BK744.out) hb); have n3_ := Aside0.mk (cT (by repeat (first | (with_reducible first | exact HB.out | apply cA | apply cN | apply cD | refine cS ?_ GE740.out | refine cS ?_ GE741.out | refine cS ?_ GE744.out) | exact HB.out)) hb); clear BK740; clear BK741; clear BK744; clear HB; have BK740 := n0_; have BK741 := n1_; have BK744 := n2_; have HB := n3_; clear n0_ n1_ n2_ n3_; (try clear hb); (try clear hb2); (try clear hk); (try clear hi); have hcz221_0 : w220.cell? ⟨gb744, 0, none⟩ = some (.int .i64 t742) := (bC BK744.out 0).trans rfl; have hcz221_1 : w220.cell? ⟨gb744, 1, none⟩ = some (.int .i64 t743) := (bC BK744.out 1).trans rfl; have hfz221_0 := bZ BK744.out 0; have hfz221_1 := bZ BK744.out 1; have hcz222_0 : w220.cell? ⟨gb740, 0, none⟩ = some (.int .i64 a0_0) := (bC BK740.out 0).trans rfl; have hcz222_1 : w220.cell? ⟨gb740, 1, none⟩ = some (.int .i64 a0_1) := (bC BK740.out 1).trans rfl; have hfz222_0 := bZ BK740.out 0; have hfz222_1 := bZ BK740.out 1; have hcz223_0 : w220.cell? ⟨gb741, 0, none⟩ = some (.int .i64 a1_0) := (bC BK741.out 0).trans rfl; have hcz223_1 : w220.cell? ⟨gb741, 1, none⟩ = some (.int .i64 a1_1) := (bC BK741.out 1).trans rfl; have hfz223_0 := bZ BK741.out 0; have hfz223_1 := bZ BK741.out 1))
                go_ret
                exact ⟨by first | rfl | (simp [errW_none, errW_some] <;> rfl) | (simp [*, errW_none, errW_some] <;> rfl), by repeat (first | (with_reducible first | exact HB.out | apply cA | apply cN | apply cD | refine cS ?_ GE740.out | refine cS ?_ GE741.out | refine cS ?_ GE744.out) | exact HB.out)⟩
              rw [if_neg c213] at H
              have c213b0 : decide (a0_1 ≤ t743) = false := decide_eq_false c213
              clear c213
              exact absurd hrT.out (by have h_ := Option.some.inj H; rw [← h_]; decide)
            rw [if_neg c212] at H
            have c212b0 : decide (t742 ≤ a1_0) = false := decide_eq_false c212
            clear c212
            exact absurd hrT.out (by have h_ := Option.some.inj H; rw [← h_]; decide)
          rw [if_neg c211] at H
          have c211b0 : decide (t742 ≤ a0_0) = false := decide_eq_false c211
          clear c211
          exact absurd hrT.out (by have h_ := Option.some.inj H; rw [← h_]; decide)
        rw [if_neg c210] at H
        have c210b0 : (t743 == a1_1) = false := beq_eq_false_iff_ne.mpr c210
        have c210b1 : (t743 != a1_1) = true := bne_iff_ne.mpr c210
        exact absurd hrT.out (by have h_ := Option.some.inj H; rw [← h_]; decide)
      rw [if_neg c195] at H
      have c195b0 : (t742 == a1_0) = false := beq_eq_false_iff_ne.mpr c195
      have c195b1 : (t742 != a1_0) = true := bne_iff_ne.mpr c195
      exact absurd hrT.out (by have h_ := Option.some.inj H; rw [← h_]; decide)

/-- THE ONE PURE STATEMENT of damasklaw05_SpanWords: yours. -/
def damasklaw05_SpanWords.Pure : Prop := ∀ (a0_0 : Int) (a0_1 : Int) (a1_0 : Int) (a1_1 : Int) (a2 : Int), (Lit.int .i64 a0_0).wf = true → (Lit.int .i64 a0_1).wf = true → (Lit.int .i64 a1_0).wf = true → (Lit.int .i64 a1_1).wf = true → (Lit.int .i64 a2).wf = true → ∃ k, damasklaw05_SpanWords.f k a0_0 a0_1 a1_0 a1_1 a2 = some true
theorem damasklaw05_SpanWords.walk (P : damasklaw05_SpanWords.Pure) (a0_0 : Int) (a0_1 : Int) (a1_0 : Int) (a1_1 : Int) (a2 : Int) (w : World) (o0_0 : (Lit.int .i64 a0_0).wf = true) (o0_1 : (Lit.int .i64 a0_1).wf = true) (o1_0 : (Lit.int .i64 a1_0).wf = true) (o1_1 : (Lit.int .i64 a1_1).wf = true) (o2 : (Lit.int .i64 a2).wf = true) :
    Calls Try.prog 11 #[.agg #[.int .i64 a0_0, .int .i64 a0_1], .agg #[.int .i64 a1_0, .int .i64 a1_1], .int .i64 a2] w fun e w' => e = .returned (.bool true) ∧ Below w.heap.size w w' := by
  obtain ⟨k, h⟩ := P a0_0 a0_1 a1_0 a1_1 a2 o0_0 o0_1 o1_0 o1_1 o2
  refine (damasklaw05_SpanWords.calls k a0_0 a0_1 a1_0 a1_1 a2 true w rfl h).mono ?_
  rintro e w' ⟨rfl, hd⟩
  exact ⟨rfl, hd⟩

end Go.Proofs.Ytpnldhimlpilhaa.F
