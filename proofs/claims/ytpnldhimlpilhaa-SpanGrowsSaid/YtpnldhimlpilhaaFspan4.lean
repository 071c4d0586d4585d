/- Written by wip/myprint.py of this session, out of Lean's print of the program: what Go functions come to, and that their calls come to it; no condition. -/
import Derived.Test.YtpnldhimlpilhaaF0
import Derived.Test.YtpnldhimlpilhaaFeq1
import Derived.Test.YtpnldhimlpilhaaFspan3
namespace Go.Proofs.Ytpnldhimlpilhaa.F
open Go.RowKit Go.Proofs.YtpnldhimlpilhaaW.PrintWords Go.Proofs.YtpnldhimlpilhaaW.PrintLast Go.Proofs.YtpnldhimlpilhaaW.PrintMore Go.Proofs.YtpnldhimlpilhaaW
attribute [local go_sem] max2_int min2_int max_two min_two max_three min_three max_four min_four   -- for this text's walks alone
set_option linter.unusedVariables false
set_option linter.unusedSimpArgs false

attribute [local go_sem high] eqA47
/-! ### span_compared: function 61 -/
def span_compared.j0 : Nat → Bool → Bool → Option (Int × Int)
  | 0, _, _ => none
  | k + 1, x7, x8 => if x7 = true then (some (1, 1)) else (if x8 = true then (some (0, 0)) else (some (0, 1)))
def span_compared.f (k : Nat) (a0 : Int) (a1_0 : Int) (a1_1 : Int) (a2_0 : Int) (a2_1 : Int) : Option (Int × Int) := if a0 = 18 then (span_compared.j0 k (decide (a1_1 < a2_0)) (decide (a1_0 ≥ a2_1))) else (if a0 = 19 then (span_compared.j0 k (decide (a1_1 ≤ a2_0)) (decide (a1_0 > a2_1))) else (if a0 = 20 then (span_compared.j0 k (decide (a1_0 > a2_1)) (decide (a1_1 ≤ a2_0))) else (if a0 = 21 then (span_compared.j0 k (decide (a1_0 ≥ a2_1)) (decide (a1_1 < a2_0))) else (if (a1_0 == a2_0 && (a1_1 == a2_1)) = true then (if a1_1 < a2_0 then (if a0 = 23 then (span_compared.j0 k true (a1_0 == a1_1)) else (span_compared.j0 k (a1_0 == a1_1) true)) else (if a0 = 23 then (span_compared.j0 k (decide (a1_0 > a2_1)) (a1_0 == a1_1)) else (span_compared.j0 k (a1_0 == a1_1) (decide (a1_0 > a2_1))))) else (if a1_1 < a2_0 then (if a0 = 23 then (span_compared.j0 k true false) else (span_compared.j0 k false true)) else (if a0 = 23 then (span_compared.j0 k (decide (a1_0 > a2_1)) false) else (span_compared.j0 k false (decide (a1_0 > a2_1)))))))))
theorem span_compared.mono_l : ∀ k, (∀ y0 y1, LeO (span_compared.j0 k y0 y1) (span_compared.j0 (k + 1) y0 y1))
  | 0 => fun _ _ r h => by simp [span_compared.j0] at h
  | k + 1 => by
    have ih0 := span_compared.mono_l k
    · intro y0 y1
      unfold span_compared.j0
      repeat' first
      | (with_reducible exact ih0 _ _)
      | (with_reducible exact LeO.refl _)
      | (with_reducible exact LeO.none _)
      | (with_reducible refine LeO.ite ?_ ?_)
      | (with_reducible refine LeO.bind ?_ (fun _ => ?_))
      | exact ih0 _ _
      | exact LeO.none _
      | refine LeO.ite ?_ ?_
      | refine LeO.bind ?_ (fun _ => ?_)
theorem span_compared.mono : ∀ a0 a1 a2 a3 a4 k, LeO (span_compared.f k a0 a1 a2 a3 a4) (span_compared.f (k + 1) a0 a1 a2 a3 a4) := by
  intro a0 a1 a2 a3 a4 k
  have ih0 := span_compared.mono_l k
  unfold span_compared.f
  repeat' first
      | (with_reducible exact ih0 _ _)
      | (with_reducible exact LeO.refl _)
      | (with_reducible exact LeO.none _)
      | (with_reducible refine LeO.ite ?_ ?_)
      | (with_reducible refine LeO.bind ?_ (fun _ => ?_))
      | exact ih0 _ _
      | exact LeO.none _
      | refine LeO.ite ?_ ?_
      | refine LeO.bind ?_ (fun _ => ?_)
set_option maxHeartbeats 8000000 in
set_option maxRecDepth 100000 in
theorem span_compared.calls (k : Nat) (a0 : Int) (a1_0 : Int) (a1_1 : Int) (a2_0 : Int) (a2_1 : Int) (r1 : Int) (r2 : Int) (w : World) (h : span_compared.f k a0 a1_0 a1_1 a2_0 a2_1 = some (r1, r2)) :
    Calls Try.prog 61 #[.int .i64 a0, .agg #[.int .i64 a1_0, .int .i64 a1_1], .agg #[.int .i64 a2_0, .int .i64 a2_1]] w fun e w' => e = .returned (.agg #[.int .i64 r1, .int .i64 r2]) ∧ Below w.heap.size w w' := by
  have hu47 := Try.underlying47
  have HB := Aside0.mk (Below.refl w.heap.size w)
  have H : (if a0 = 18 then (span_compared.j0 k (decide (a1_1 < a2_0)) (decide (a1_0 ≥ a2_1))) else (if a0 = 19 then (span_compared.j0 k (decide (a1_1 ≤ a2_0)) (decide (a1_0 > a2_1))) else (if a0 = 20 then (span_compared.j0 k (decide (a1_0 > a2_1)) (decide (a1_1 ≤ a2_0))) else (if a0 = 21 then (span_compared.j0 k (decide (a1_0 ≥ a2_1)) (decide (a1_1 < a2_0))) else (if (a1_0 == a2_0 && (a1_1 == a2_1)) = true then (if a1_1 < a2_0 then (if a0 = 23 then (span_compared.j0 k true (a1_0 == a1_1)) else (span_compared.j0 k (a1_0 == a1_1) true)) else (if a0 = 23 then (span_compared.j0 k (decide (a1_0 > a2_1)) (a1_0 == a1_1)) else (span_compared.j0 k (a1_0 == a1_1) (decide (a1_0 > a2_1))))) else (if a1_1 < a2_0 then (if a0 = 23 then (span_compared.j0 k true false) else (span_compared.j0 k false true)) else (if a0 = 23 then (span_compared.j0 k (decide (a1_0 > a2_1)) false) else (span_compared.j0 k false (decide (a1_0 > a2_1)))))))))) = some (r1, r2) := h
  clear h
  have HC4 := Aside0.mk H
  clear H
  go_enter Try.func61, Try.ntmps61
  go_upto_block 0 with (first | ((with_reducible refine gate_dst (N := 4) rfl ?_); refine box_event ?hg (N := 4) ?hd (cs := #[.int .i64 a1_0, .int .i64 a1_1]) (t := 47) ?hr ?_; (case hd => rfl); (case hg => rfl); (case hr => first | (go_simp; done) | (go_simp; rfl)); intro gb433 hg w5 hbox hb; have n0_ := Aside0.mk (cT (by repeat (first | (with_reducible first | exact HB.out | apply cA | apply cN | apply cD) | exact HB.out)) hb); have n1_ := Aside0.mk (hbox); have n2_ := Aside0.mk ((by rw [hg]; exact (cZ (by repeat (first | (with_reducible first | exact HB.out | apply cA | apply cN | apply cD) | exact HB.out))) : w.heap.size ≤ gb433)); have n3_ := n2_; clear HB; have HB := n0_; have BK433 := n1_; have GW433 := n2_; have GE433 := n3_; clear n0_ n1_ n2_ n3_; clear hb hbox hg) | ((with_reducible refine gate_dst (N := 5) rfl ?_); refine box_event ?hg (N := 5) ?hd (cs := #[.int .i64 a2_0, .int .i64 a2_1]) (t := 47) ?hr ?_; (case hd => rfl); (case hg => rfl); (case hr => first | (go_simp; done) | (go_simp; rfl)); intro gb434 hg w6 hbox hb; have n0_ := Aside0.mk (bB (g := gb433) (o := .cells #[.int .i64 a1_0, .int .i64 a1_1] 47 (0, 0)) (by (with_reducible repeat (first | apply bN | apply bD | apply bA)); exact BK433.out) hb); have n1_ := Aside0.mk (cT (by repeat (first | (with_reducible first | exact HB.out | apply cA | apply cN | apply cD | refine cS ?_ GE433.out) | exact HB.out)) hb); have n2_ := Aside0.mk (hbox); have n3_ := Aside0.mk ((by rw [hg]; exact (cZ (by repeat (first | (with_reducible first | exact HB.out | apply cA | apply cN | apply cD | refine cS ?_ GE433.out) | exact HB.out))) : w.heap.size ≤ gb434)); have n4_ := n3_; have n5_ := Aside0.mk ((by rw [hg]; exact Nat.ne_of_lt (blk_lt (g := gb433) (o := .cells #[.int .i64 a1_0, .int .i64 a1_1] 47 (0, 0)) (by (with_reducible repeat (first | apply bN | apply bD | apply bA)); exact BK433.out)) : gb433 ≠ gb434)); have n6_ := Aside0.mk ((by rw [hg]; exact Nat.ne_of_gt (blk_lt (g := gb433) (o := .cells #[.int .i64 a1_0, .int .i64 a1_1] 47 (0, 0)) (by (with_reducible repeat (first | apply bN | apply bD | apply bA)); exact BK433.out)) : gb434 ≠ gb433)); clear BK433; clear HB; have BK433 := n0_; have HB := n1_; have BK434 := n2_; have GW434 := n3_; have GE434 := n4_; have NB433_434 := n5_; have NB434_433 := n6_; clear n0_ n1_ n2_ n3_ n4_ n5_ n6_; clear hb hbox hg) | ((with_reducible refine gate_dst (N := 6) rfl ?_); refine box_event ?hg (N := 6) ?hd (cs := #[.int .i64 0, .int .i64 0]) (t := 47) ?hr ?_; (case hd => rfl); (case hg => rfl); (case hr => first | (go_simp; done) | (go_simp; rfl)); intro gb435 hg w7 hbox hb; have n0_ := Aside0.mk (bB (g := gb433) (o := .cells #[.int .i64 a1_0, .int .i64 a1_1] 47 (0, 0)) (by (with_reducible repeat (first | apply bN | apply bD | apply bA)); exact BK433.out) hb); have n1_ := Aside0.mk (bB (g := gb434) (o := .cells #[.int .i64 a2_0, .int .i64 a2_1] 47 (0, 0)) (by (with_reducible repeat (first | apply bN | apply bD | apply bA)); exact BK434.out) hb); have n2_ := Aside0.mk (cT (by repeat (first | (with_reducible first | exact HB.out | apply cA | apply cN | apply cD | refine cS ?_ GE433.out | refine cS ?_ GE434.out) | exact HB.out)) hb); have n3_ := Aside0.mk (hbox); have n4_ := Aside0.mk ((by rw [hg]; exact (cZ (by repeat (first | (with_reducible first | exact HB.out | apply cA | apply cN | apply cD | refine cS ?_ GE433.out | refine cS ?_ GE434.out) | exact HB.out))) : w.heap.size ≤ gb435)); have n5_ := n4_; have n6_ := Aside0.mk ((by rw [hg]; exact Nat.ne_of_lt (blk_lt (g := gb433) (o := .cells #[.int .i64 a1_0, .int .i64 a1_1] 47 (0, 0)) (by (with_reducible repeat (first | apply bN | apply bD | apply bA)); exact BK433.out)) : gb433 ≠ gb435)); have n7_ := Aside0.mk ((by rw [hg]; exact Nat.ne_of_gt (blk_lt (g := gb433) (o := .cells #[.int .i64 a1_0, .int .i64 a1_1] 47 (0, 0)) (by (with_reducible repeat (first | apply bN | apply bD | apply bA)); exact BK433.out)) : gb435 ≠ gb433)); have n8_ := Aside0.mk ((by rw [hg]; exact Nat.ne_of_lt (blk_lt (g := gb434) (o := .cells #[.int .i64 a2_0, .int .i64 a2_1] 47 (0, 0)) (by (with_reducible repeat (first | apply bN | apply bD | apply bA)); exact BK434.out)) : gb434 ≠ gb435)); have n9_ := Aside0.mk ((by rw [hg]; exact Nat.ne_of_gt (blk_lt (g := gb434) (o := .cells #[.int .i64 a2_0, .int .i64 a2_1] 47 (0, 0)) (by (with_reducible repeat (first | apply bN | apply bD | apply bA)); exact BK434.out)) : gb435 ≠ gb434)); clear BK433; clear BK434; clear HB; have BK433 := n0_; have BK434 := n1_; have HB := n2_; have BK435 := n3_; have GW435 := n4_; have GE435 := n5_; have NB433_435 := n6_; have NB435_433 := n7_; have NB434_435 := n8_; have NB435_434 := n9_; clear n0_ n1_ n2_ n3_ n4_ n5_ n6_ n7_ n8_ n9_; clear hb hbox hg))
  repeat (go_quiet (first | ((with_reducible refine gate_dst (N := 4) rfl ?_); refine box_event ?hg (N := 4) ?hd (cs := #[.int .i64 a1_0, .int .i64 a1_1]) (t := 47) ?hr ?_; (case hd => rfl); (case hg => rfl); (case hr => first | (go_simp; done) | (go_simp; rfl)); intro gb433 hg w5 hbox hb; have n0_ := Aside0.mk (cT (by repeat (first | (with_reducible first | exact HB.out | apply cA | apply cN | apply cD) | exact HB.out)) hb); have n1_ := Aside0.mk (hbox); have n2_ := Aside0.mk ((by rw [hg]; exact (cZ (by repeat (first | (with_reducible first | exact HB.out | apply cA | apply cN | apply cD) | exact HB.out))) : w.heap.size ≤ gb433)); have n3_ := n2_; clear HB; have HB := n0_; have BK433 := n1_; have GW433 := n2_; have GE433 := n3_; clear n0_ n1_ n2_ n3_; clear hb hbox hg) | ((with_reducible refine gate_dst (N := 5) rfl ?_); refine box_event ?hg (N := 5) ?hd (cs := #[.int .i64 a2_0, .int .i64 a2_1]) (t := 47) ?hr ?_; (case hd => rfl); (case hg => rfl); (case hr => first | (go_simp; done) | (go_simp; rfl)); intro gb434 hg w6 hbox hb; have n0_ := Aside0.mk (bB (g := gb433) (o := .cells #[.int .i64 a1_0, .int .i64 a1_1] 47 (0, 0)) (by (with_reducible repeat (first | apply bN | apply bD | apply bA)); exact BK433.out) hb); have n1_ := Aside0.mk (cT (by repeat (first | (with_reducible first | exact HB.out | apply cA | apply cN | apply cD | refine cS ?_ GE433.out) | exact HB.out)) hb); have n2_ := Aside0.mk (hbox); have n3_ := Aside0.mk ((by rw [hg]; exact (cZ (by repeat (first | (with_reducible first | exact HB.out | apply cA | apply cN | apply cD | refine cS ?_ GE433.out) | exact HB.out))) : w.heap.size ≤ gb434)); have n4_ := n3_; have n5_ := Aside0.mk ((by rw [hg]; exact Nat.ne_of_lt (blk_lt (g := gb433) (o := .cells #[.int .i64 a1_0, .int .i64 a1_1] 47 (0, 0)) (by (with_reducible repeat (first | apply bN | apply bD | apply bA)); exact BK433.out)) : gb433 ≠ gb434)); have n6_ := Aside0.mk ((by rw [hg]; exact Nat.ne_of_gt (blk_lt (g := gb433) (o := .cells #[.int .i64 a1_0, .int .i64 a1_1] 47 (0, 0)) (by (with_reducible repeat (first | apply bN | apply bD | apply bA)); exact BK433.out)) : gb434 ≠ gb433)); clear BK433; clear HB; have BK433 := n0_; have HB := n1_; have BK434 := n2_; have GW434 := n3_; have GE434 := n4_; have NB433_434 := n5_; have NB434_433 := n6_; clear n0_ n1_ n2_ n3_ n4_ n5_ n6_; clear hb hbox hg) | ((with_reducible refine gate_dst (N := 6) rfl ?_); refine box_event ?hg (N := 6) ?hd (cs := #[.int .i64 0, .int .i64 0]) (t := 47) ?hr ?_; (case hd => rfl); (case hg => rfl); (case hr => first | (go_simp; done) | (go_simp; rfl)); intro gb435 hg w7 hbox hb; have n0_ := Aside0.mk (bB (g := gb433) (o := .cells #[.int .i64 a1_0, .int .i64 a1_1] 47 (0, 0)) (by (with_reducible repeat (first | apply bN | apply bD | apply bA)); exact BK433.out) hb); have n1_ := Aside0.mk (bB (g := gb434) (o := .cells #[.int .i64 a2_0, .int .i64 a2_1] 47 (0, 0)) (by (with_reducible repeat (first | apply bN | apply bD | apply bA)); exact BK434.out) hb); have n2_ := Aside0.mk (cT (by repeat (first | (with_reducible first | exact HB.out | apply cA | apply cN | apply cD | refine cS ?_ GE433.out | refine cS ?_ GE434.out) | exact HB.out)) hb); have n3_ := Aside0.mk (hbox); have n4_ := Aside0.mk ((by rw [hg]; exact (cZ (by repeat (first | (with_reducible first | exact HB.out | apply cA | apply cN | apply cD | refine cS ?_ GE433.out | refine cS ?_ GE434.out) | exact HB.out))) : w.heap.size ≤ gb435)); have n5_ := n4_; have n6_ := Aside0.mk ((by rw [hg]; exact Nat.ne_of_lt (blk_lt (g := gb433) (o := .cells #[.int .i64 a1_0, .int .i64 a1_1] 47 (0, 0)) (by (with_reducible repeat (first | apply bN | apply bD | apply bA)); exact BK433.out)) : gb433 ≠ gb435)); have n7_ := Aside0.mk ((by rw [hg]; exact Nat.ne_of_gt (blk_lt (g := gb433) (o := .cells #[.int .i64 a1_0, .int .i64 a1_1] 47 (0, 0)) (by (with_reducible repeat (first | apply bN | apply bD | apply bA)); exact BK433.out)) : gb435 ≠ gb433)); have n8_ := Aside0.mk ((by rw [hg]; exact Nat.ne_of_lt (blk_lt (g := gb434) (o := .cells #[.int .i64 a2_0, .int .i64 a2_1] 47 (0, 0)) (by (with_reducible repeat (first | apply bN | apply bD | apply bA)); exact BK434.out)) : gb434 ≠ gb435)); have n9_ := Aside0.mk ((by rw [hg]; exact Nat.ne_of_gt (blk_lt (g := gb434) (o := .cells #[.int .i64 a2_0, .int .i64 a2_1] 47 (0, 0)) (by (with_reducible repeat (first | apply bN | apply bD | apply bA)); exact BK434.out)) : gb435 ≠ gb434)); clear BK433; clear BK434; clear HB; have BK433 := n0_; have BK434 := n1_; have HB := n2_; have BK435 := n3_; have GW435 := n4_; have GE435 := n5_; have NB433_435 := n6_; have NB435_433 := n7_; have NB434_435 := n8_; have NB435_434 := n9_; clear n0_ n1_ n2_ n3_ n4_ n5_ n6_ n7_ n8_ n9_; clear hb hbox hg)); go_upto_block 0 with (first | ((with_reducible refine gate_dst (N := 4) rfl ?_); refine box_event ?hg (N := 4) ?hd (cs := #[.int .i64 a1_0, .int .i64 a1_1]) (t := 47) ?hr ?_; (case hd => rfl); (case hg => rfl); (case hr => first | (go_simp; done) | (go_simp; rfl)); intro gb433 hg w5 hbox hb; have n0_ := Aside0.mk (cT (by repeat (first | (with_reducible first | exact HB.out | apply cA | apply cN | apply cD) | exact HB.out)) hb); have n1_ := Aside0.mk (hbox); have n2_ := Aside0.mk ((by rw [hg]; exact (cZ (by repeat (first | (with_reducible first | exact HB.out | apply cA | apply cN | apply cD) | exact HB.out))) : w.heap.size ≤ gb433)); have n3_ := n2_; clear HB; have HB := n0_; have BK433 := n1_; have GW433 := n2_; have GE433 := n3_; clear n0_ n1_ n2_ n3_; clear hb hbox hg) | ((with_reducible refine gate_dst (N := 5) rfl ?_); refine box_event ?hg (N := 5) ?hd (cs := #[.int .i64 a2_0, .int .i64 a2_1]) (t := 47) ?hr ?_; (case hd => rfl); (case hg => rfl); (case hr => first | (go_simp; done) | (go_simp; rfl)); intro gb434 hg w6 hbox hb; have n0_ := Aside0.mk (bB (g := gb433) (o := .cells #[.int .i64 a1_0, .int .i64 a1_1] 47 (0, 0)) (by (with_reducible repeat (first | apply bN | apply bD | apply bA)); exact BK433.out) hb); have n1_ := Aside0.mk (cT (by repeat (first | (with_reducible first | exact HB.out | apply cA | apply cN | apply cD | refine cS ?_ GE433.out) | exact HB.out)) hb); have n2_ := Aside0.mk (hbox); have n3_ := Aside0.mk ((by rw [hg]; exact (cZ (by repeat (first | (with_reducible first | exact HB.out | apply cA | apply cN | apply cD | refine cS ?_ GE433.out) | exact HB.out))) : w.heap.size ≤ gb434)); have n4_ := n3_; have n5_ := Aside0.mk ((by rw [hg]; exact Nat.ne_of_lt (blk_lt (g := gb433) (o := .cells #[.int .i64 a1_0, .int .i64 a1_1] 47 (0, 0)) (by (with_reducible repeat (first | apply bN | apply bD | apply bA)); exact BK433.out)) : gb433 ≠ gb434)); have n6_ := Aside0.mk ((by rw [hg]; exact Nat.ne_of_gt (blk_lt (g := gb433) (o := .cells #[.int .i64 a1_0, .int .i64 a1_1] 47 (0, 0)) (by (with_reducible repeat (first | apply bN | apply bD | apply bA)); exact BK433.out)) : gb434 ≠ gb433)); clear BK433; clear HB; have BK433 := n0_; have HB := n1_; have BK434 := n2_; have GW434 := n3_; have GE434 := n4_; have NB433_434 := n5_; have NB434_433 := n6_; clear n0_ n1_ n2_ n3_ n4_ n5_ n6_; clear hb hbox hg) | ((with_reducible refine gate_dst (N := 6) rfl ?_); refine box_event ?hg (N := 6) ?hd (cs := #[.int .i64 0, .int .i64 0]) (t := 47) ?hr ?_; (case hd => rfl); (case hg => rfl); (case hr => first | (go_simp; done) | (go_simp; rfl)); intro gb435 hg w7 hbox hb; have n0_ := Aside0.mk (bB (g := gb433) (o := .cells #[.int .i64 a1_0, .int .i64 a1_1] 47 (0, 0)) (by (with_reducible repeat (first | apply bN | apply bD | apply bA)); exact BK433.out) hb); have n1_ := Aside0.mk (bB (g := gb434) (o := .cells #[.int .i64 a2_0, .int .i64 a2_1] 47 (0, 0)) (by (with_reducible repeat (first | apply bN | apply bD | apply bA)); exact BK434.out) hb); have n2_ := Aside0.mk (cT (by repeat (first | (with_reducible first | exact HB.out | apply cA | apply cN | apply cD | refine cS ?_ GE433.out | refine cS ?_ GE434.out) | exact HB.out)) hb); have n3_ := Aside0.mk (hbox); have n4_ := Aside0.mk ((by rw [hg]; exact (cZ (by repeat (first | (with_reducible first | exact HB.out | apply cA | apply cN | apply cD | refine cS ?_ GE433.out | refine cS ?_ GE434.out) | exact HB.out))) : w.heap.size ≤ gb435)); have n5_ := n4_; have n6_ := Aside0.mk ((by rw [hg]; exact Nat.ne_of_lt (blk_lt (g := gb433) (o := .cells #[.int .i64 a1_0, .int .i64 a1_1] 47 (0, 0)) (by (with_reducible repeat (first | apply bN | apply bD | apply bA)); exact BK433.out)) : gb433 ≠ gb435)); have n7_ := Aside0.mk ((by rw [hg]; exact Nat.ne_of_gt (blk_lt (g := gb433) (o := .cells #[.int .i64 a1_0, .int .i64 a1_1] 47 (0, 0)) (by (with_reducible repeat (first | apply bN | apply bD | apply bA)); exact BK433.out)) : gb435 ≠ gb433)); have n8_ := Aside0.mk ((by rw [hg]; exact Nat.ne_of_lt (blk_lt (g := gb434) (o := .cells #[.int .i64 a2_0, .int .i64 a2_1] 47 (0, 0)) (by (with_reducible repeat (first | apply bN | apply bD | apply bA)); exact BK434.out)) : gb434 ≠ gb435)); have n9_ := Aside0.mk ((by rw [hg]; exact Nat.ne_of_gt (blk_lt (g := gb434) (o := .cells #[.int .i64 a2_0, .int .i64 a2_1] 47 (0, 0)) (by (with_reducible repeat (first | apply bN | apply bD | apply bA)); exact BK434.out)) : gb435 ≠ gb434)); clear BK433; clear BK434; clear HB; have BK433 := n0_; have BK434 := n1_; have HB := n2_; have BK435 := n3_; have GW435 := n4_; have GE435 := n5_; have NB433_435 := n6_; have NB435_433 := n7_; have NB434_435 := n8_; have NB435_434 := n9_; clear n0_ n1_ n2_ n3_ n4_ n5_ n6_ n7_ n8_ n9_; clear hb hbox hg)))
  (try simp only [Act.put, List.setIfInBounds_toArray, List.set_cons_zero, List.set_cons_succ])
  go_cut [7, 8] (fun v7 v8 wc => ∃ (kq : Nat) (x7_3 : Bool) (x8_3 : Bool), v7 = .bool x7_3 ∧ v8 = .bool x8_3 ∧ Aside0 (span_compared.j0 kq x7_3 x8_3 = some (r1, r2)) ∧ Aside0 (kq ≤ k) ∧ Aside0 (wc.heap[gb433]? = some (.cells #[.int .i64 a1_0, .int .i64 a1_1] 47 (0, 0))) ∧ Aside0 (wc.heap[gb434]? = some (.cells #[.int .i64 a2_0, .int .i64 a2_1] 47 (0, 0))) ∧ Aside0 (wc.heap[gb435]? = some (.cells #[.int .i64 0, .int .i64 0] 47 (0, 0))) ∧ Aside0 (Below w.heap.size w wc))
  case first =>
    have H := HC4.out
    clear HC4
    by_cases c8 : a0 = 18
    · rw [if_pos c8] at H
      have c8b0 : (a0 == 18) = true := beq_iff_eq.mpr c8
      have c8b1 : (a0 != 18) = false := bne_eq_false_iff_eq.mpr c8
      clear c8
      (first | rw [c8b0] | (simp only [i64_w, i32_w]; rw [c8b0]) | skip)
      have H' := Aside0.mk H
      clear H
      have hnb9 := NB433_434.out
      have hnc9 := NB434_433.out
      have hnb10 := NB433_435.out
      have hnc10 := NB435_433.out
      have hcz11_0 : w7.cell? ⟨gb433, 0, none⟩ = some (.int .i64 a1_0) := (bC BK433.out 0).trans rfl
      have hcz11_1 : w7.cell? ⟨gb433, 1, none⟩ = some (.int .i64 a1_1) := (bC BK433.out 1).trans rfl
      have hfz11_0 := bZ BK433.out 0
      have hfz11_1 := bZ BK433.out 1
      have hnb12 := NB434_435.out
      have hnc12 := NB435_434.out
      have hcz13_0 : w7.cell? ⟨gb434, 0, none⟩ = some (.int .i64 a2_0) := (bC BK434.out 0).trans rfl
      have hcz13_1 : w7.cell? ⟨gb434, 1, none⟩ = some (.int .i64 a2_1) := (bC BK434.out 1).trans rfl
      have hfz13_0 := bZ BK434.out 0
      have hfz13_1 := bZ BK434.out 1
      go_wp2
      repeat (go_quiet (fail); try go_wp2)
      go_meet
      case rel => exact ⟨_, (decide (a1_1 < a2_0)), (decide (a1_0 ≥ a2_1)), (by first | rfl | (simp; done) | (simp [*]; done)), (by first | rfl | (simp; done) | (simp [*]; done)), H', ⟨by first | omega | exact Nat.le_refl _⟩, ⟨by (with_reducible repeat (first | apply bN | apply bD | apply bA)); exact BK433.out⟩, ⟨by (with_reducible repeat (first | apply bN | apply bD | apply bA)); exact BK434.out⟩, ⟨by (with_reducible repeat (first | apply bN | apply bD | apply bA)); exact BK435.out⟩, ⟨by repeat (first | (with_reducible first | exact HB.out | apply cA | apply cN | apply cD | refine cS ?_ GE433.out | refine cS ?_ GE434.out | refine cS ?_ GE435.out) | exact HB.out)⟩⟩
    rw [if_neg c8] at H
    have c8b0 : (a0 == 18) = false := beq_eq_false_iff_ne.mpr c8
    have c8b1 : (a0 != 18) = true := bne_iff_ne.mpr c8
    (first | rw [c8b0] | (simp only [i64_w, i32_w]; rw [c8b0]) | skip)
    by_cases c14 : a0 = 19
    · rw [if_pos c14] at H
      have c14b0 : (a0 == 19) = true := beq_iff_eq.mpr c14
      have c14b1 : (a0 != 19) = false := bne_eq_false_iff_eq.mpr c14
      clear c14
      have H' := Aside0.mk H
      clear H
      have hnb15 := NB433_434.out
      have hnc15 := NB434_433.out
      have hnb16 := NB433_435.out
      have hnc16 := NB435_433.out
      have hcz17_0 : w7.cell? ⟨gb433, 0, none⟩ = some (.int .i64 a1_0) := (bC BK433.out 0).trans rfl
      have hcz17_1 : w7.cell? ⟨gb433, 1, none⟩ = some (.int .i64 a1_1) := (bC BK433.out 1).trans rfl
      have hfz17_0 := bZ BK433.out 0
      have hfz17_1 := bZ BK433.out 1
      have hnb18 := NB434_435.out
      have hnc18 := NB435_434.out
      have hcz19_0 : w7.cell? ⟨gb434, 0, none⟩ = some (.int .i64 a2_0) := (bC BK434.out 0).trans rfl
      have hcz19_1 : w7.cell? ⟨gb434, 1, none⟩ = some (.int .i64 a2_1) := (bC BK434.out 1).trans rfl
      have hfz19_0 := bZ BK434.out 0
      have hfz19_1 := bZ BK434.out 1
      go_wp2
      repeat (go_quiet (fail); try go_wp2)
      go_meet
      case rel => exact ⟨_, (decide (a1_1 ≤ a2_0)), (decide (a1_0 > a2_1)), (by first | rfl | (simp; done) | (simp [*]; done)), (by first | rfl | (simp; done) | (simp [*]; done)), H', ⟨by first | omega | exact Nat.le_refl _⟩, ⟨by (with_reducible repeat (first | apply bN | apply bD | apply bA)); exact BK433.out⟩, ⟨by (with_reducible repeat (first | apply bN | apply bD | apply bA)); exact BK434.out⟩, ⟨by (with_reducible repeat (first | apply bN | apply bD | apply bA)); exact BK435.out⟩, ⟨by repeat (first | (with_reducible first | exact HB.out | apply cA | apply cN | apply cD | refine cS ?_ GE433.out | refine cS ?_ GE434.out | refine cS ?_ GE435.out) | exact HB.out)⟩⟩
    rw [if_neg c14] at H
    have c14b0 : (a0 == 19) = false := beq_eq_false_iff_ne.mpr c14
    have c14b1 : (a0 != 19) = true := bne_iff_ne.mpr c14
    by_cases c20 : a0 = 20
    · rw [if_pos c20] at H
      have c20b0 : (a0 == 20) = true := beq_iff_eq.mpr c20
      have c20b1 : (a0 != 20) = false := bne_eq_false_iff_eq.mpr c20
      clear c20
      have H' := Aside0.mk H
      clear H
      have hnb21 := NB433_434.out
      have hnc21 := NB434_433.out
      have hnb22 := NB433_435.out
      have hnc22 := NB435_433.out
      have hcz23_0 : w7.cell? ⟨gb433, 0, none⟩ = some (.int .i64 a1_0) := (bC BK433.out 0).trans rfl
      have hcz23_1 : w7.cell? ⟨gb433, 1, none⟩ = some (.int .i64 a1_1) := (bC BK433.out 1).trans rfl
      have hfz23_0 := bZ BK433.out 0
      have hfz23_1 := bZ BK433.out 1
      have hnb24 := NB434_435.out
      have hnc24 := NB435_434.out
      have hcz25_0 : w7.cell? ⟨gb434, 0, none⟩ = some (.int .i64 a2_0) := (bC BK434.out 0).trans rfl
      have hcz25_1 : w7.cell? ⟨gb434, 1, none⟩ = some (.int .i64 a2_1) := (bC BK434.out 1).trans rfl
      have hfz25_0 := bZ BK434.out 0
      have hfz25_1 := bZ BK434.out 1
      go_wp2
      repeat (go_quiet (fail); try go_wp2)
      go_meet
      case rel => exact ⟨_, (decide (a1_0 > a2_1)), (decide (a1_1 ≤ a2_0)), (by first | rfl | (simp; done) | (simp [*]; done)), (by first | rfl | (simp; done) | (simp [*]; done)), H', ⟨by first | omega | exact Nat.le_refl _⟩, ⟨by (with_reducible repeat (first | apply bN | apply bD | apply bA)); exact BK433.out⟩, ⟨by (with_reducible repeat (first | apply bN | apply bD | apply bA)); exact BK434.out⟩, ⟨by (with_reducible repeat (first | apply bN | apply bD | apply bA)); exact BK435.out⟩, ⟨by repeat (first | (with_reducible first | exact HB.out | apply cA | apply cN | apply cD | refine cS ?_ GE433.out | refine cS ?_ GE434.out | refine cS ?_ GE435.out) | exact HB.out)⟩⟩
    rw [if_neg c20] at H
    have c20b0 : (a0 == 20) = false := beq_eq_false_iff_ne.mpr c20
    have c20b1 : (a0 != 20) = true := bne_iff_ne.mpr c20
    by_cases c26 : a0 = 21
    · rw [if_pos c26] at H
      have c26b0 : (a0 == 21) = true := beq_iff_eq.mpr c26
      have c26b1 : (a0 != 21) = false := bne_eq_false_iff_eq.mpr c26
      clear c26
      have H' := Aside0.mk H
      clear H
      have hnb27 := NB433_434.out
      have hnc27 := NB434_433.out
      have hnb28 := NB433_435.out
      have hnc28 := NB435_433.out
      have hcz29_0 : w7.cell? ⟨gb433, 0, none⟩ = some (.int .i64 a1_0) := (bC BK433.out 0).trans rfl
      have hcz29_1 : w7.cell? ⟨gb433, 1, none⟩ = some (.int .i64 a1_1) := (bC BK433.out 1).trans rfl
      have hfz29_0 := bZ BK433.out 0
      have hfz29_1 := bZ BK433.out 1
      have hnb30 := NB434_435.out
      have hnc30 := NB435_434.out
      have hcz31_0 : w7.cell? ⟨gb434, 0, none⟩ = some (.int .i64 a2_0) := (bC BK434.out 0).trans rfl
      have hcz31_1 : w7.cell? ⟨gb434, 1, none⟩ = some (.int .i64 a2_1) := (bC BK434.out 1).trans rfl
      have hfz31_0 := bZ BK434.out 0
      have hfz31_1 := bZ BK434.out 1
      go_wp2
      repeat (go_quiet (fail); try go_wp2)
      go_meet
      case rel => exact ⟨_, (decide (a1_0 ≥ a2_1)), (decide (a1_1 < a2_0)), (by first | rfl | (simp; done) | (simp [*]; done)), (by first | rfl | (simp; done) | (simp [*]; done)), H', ⟨by first | omega | exact Nat.le_refl _⟩, ⟨by (with_reducible repeat (first | apply bN | apply bD | apply bA)); exact BK433.out⟩, ⟨by (with_reducible repeat (first | apply bN | apply bD | apply bA)); exact BK434.out⟩, ⟨by (with_reducible repeat (first | apply bN | apply bD | apply bA)); exact BK435.out⟩, ⟨by repeat (first | (with_reducible first | exact HB.out | apply cA | apply cN | apply cD | refine cS ?_ GE433.out | refine cS ?_ GE434.out | refine cS ?_ GE435.out) | exact HB.out)⟩⟩
    rw [if_neg c26] at H
    have c26b0 : (a0 == 21) = false := beq_eq_false_iff_ne.mpr c26
    have c26b1 : (a0 != 21) = true := bne_iff_ne.mpr c26
    by_cases c32 : (a1_0 == a2_0 && (a1_1 == a2_1)) = true
    · rw [if_pos c32] at H
      have c32b0 : (a1_0 == a2_0 && (a1_1 == a2_1)) = true := c32
      (try (have c32b1 : decide (a1_0 = a2_0 && (a1_1 == a2_1)) = true := by simpa using c32))
      (try (have c32b2 : (a1_0 == a2_0 && (a1_1 == a2_1)) = true := by simpa using c32))
      clear c32
      by_cases c33 : a1_1 < a2_0
      · rw [if_pos c33] at H
        have c33b0 : decide (a1_1 < a2_0) = true := decide_eq_true c33
        clear c33
        by_cases c34 : a0 = 23
        · rw [if_pos c34] at H
          have c34b0 : (a0 == 23) = true := beq_iff_eq.mpr c34
          have c34b1 : (a0 != 23) = false := bne_eq_false_iff_eq.mpr c34
          clear c34
          have H' := Aside0.mk H
          clear H
          have hnb35 := NB433_434.out
          have hnc35 := NB434_433.out
          have hnb36 := NB433_435.out
          have hnc36 := NB435_433.out
          have hcz37_0 : w7.cell? ⟨gb433, 0, none⟩ = some (.int .i64 a1_0) := (bC BK433.out 0).trans rfl
          have hcz37_1 : w7.cell? ⟨gb433, 1, none⟩ = some (.int .i64 a1_1) := (bC BK433.out 1).trans rfl
          have hfz37_0 := bZ BK433.out 0
          have hfz37_1 := bZ BK433.out 1
          have hnb38 := NB434_435.out
          have hnc38 := NB435_434.out
          have hcz39_0 : w7.cell? ⟨gb434, 0, none⟩ = some (.int .i64 a2_0) := (bC BK434.out 0).trans rfl
          have hcz39_1 : w7.cell? ⟨gb434, 1, none⟩ = some (.int .i64 a2_1) := (bC BK434.out 1).trans rfl
          have hfz39_0 := bZ BK434.out 0
          have hfz39_1 := bZ BK434.out 1
          go_wp2
          repeat (go_quiet (fail); try go_wp2)
          go_meet
          case rel => exact ⟨_, (true), ((a1_0 == a1_1)), (by first | rfl | (simp; done) | (simp [*]; done)), (by first | rfl | (simp; done) | (simp [*]; done)), H', ⟨by first | omega | exact Nat.le_refl _⟩, ⟨by (with_reducible repeat (first | apply bN | apply bD | apply bA)); exact BK433.out⟩, ⟨by (with_reducible repeat (first | apply bN | apply bD | apply bA)); exact BK434.out⟩, ⟨by (with_reducible repeat (first | apply bN | apply bD | apply bA)); exact BK435.out⟩, ⟨by repeat (first | (with_reducible first | exact HB.out | apply cA | apply cN | apply cD | refine cS ?_ GE433.out | refine cS ?_ GE434.out | refine cS ?_ GE435.out) | exact HB.out)⟩⟩
        rw [if_neg c34] at H
        have c34b0 : (a0 == 23) = false := beq_eq_false_iff_ne.mpr c34
        have c34b1 : (a0 != 23) = true := bne_iff_ne.mpr c34
        have H' := Aside0.mk H
        clear H
        have hnb40 := NB433_434.out
        have hnc40 := NB434_433.out
        have hnb41 := NB433_435.out
        have hnc41 := NB435_433.out
        have hcz42_0 : w7.cell? ⟨gb433, 0, none⟩ = some (.int .i64 a1_0) := (bC BK433.out 0).trans rfl
        have hcz42_1 : w7.cell? ⟨gb433, 1, none⟩ = some (.int .i64 a1_1) := (bC BK433.out 1).trans rfl
        have hfz42_0 := bZ BK433.out 0
        have hfz42_1 := bZ BK433.out 1
        have hnb43 := NB434_435.out
        have hnc43 := NB435_434.out
        have hcz44_0 : w7.cell? ⟨gb434, 0, none⟩ = some (.int .i64 a2_0) := (bC BK434.out 0).trans rfl
        have hcz44_1 : w7.cell? ⟨gb434, 1, none⟩ = some (.int .i64 a2_1) := (bC BK434.out 1).trans rfl
        have hfz44_0 := bZ BK434.out 0
        have hfz44_1 := bZ BK434.out 1
        go_wp2
        repeat (go_quiet (fail); try go_wp2)
        go_meet
        case rel => exact ⟨_, ((a1_0 == a1_1)), (true), (by first | rfl | (simp; done) | (simp [*]; done)), (by first | rfl | (simp; done) | (simp [*]; done)), H', ⟨by first | omega | exact Nat.le_refl _⟩, ⟨by (with_reducible repeat (first | apply bN | apply bD | apply bA)); exact BK433.out⟩, ⟨by (with_reducible repeat (first | apply bN | apply bD | apply bA)); exact BK434.out⟩, ⟨by (with_reducible repeat (first | apply bN | apply bD | apply bA)); exact BK435.out⟩, ⟨by repeat (first | (with_reducible first | exact HB.out | apply cA | apply cN | apply cD | refine cS ?_ GE433.out | refine cS ?_ GE434.out | refine cS ?_ GE435.out) | exact HB.out)⟩⟩
      rw [if_neg c33] at H
      have c33b0 : decide (a1_1 < a2_0) = false := decide_eq_false c33
      clear c33
      by_cases c45 : a0 = 23
      · rw [if_pos c45] at H
        have c45b0 : (a0 == 23) = true := beq_iff_eq.mpr c45
        have c45b1 : (a0 != 23) = false := bne_eq_false_iff_eq.mpr c45
        clear c45
        have H' := Aside0.mk H
        clear H
        have hnb46 := NB433_434.out
        have hnc46 := NB434_433.out
        have hnb47 := NB433_435.out
        have hnc47 := NB435_433.out
        have hcz48_0 : w7.cell? ⟨gb433, 0, none⟩ = some (.int .i64 a1_0) := (bC BK433.out 0).trans rfl
        have hcz48_1 : w7.cell? ⟨gb433, 1, none⟩ = some (.int .i64 a1_1) := (bC BK433.out 1).trans rfl
        have hfz48_0 := bZ BK433.out 0
        have hfz48_1 := bZ BK433.out 1
        have hnb49 := NB434_435.out
        have hnc49 := NB435_434.out
        have hcz50_0 : w7.cell? ⟨gb434, 0, none⟩ = some (.int .i64 a2_0) := (bC BK434.out 0).trans rfl
        have hcz50_1 : w7.cell? ⟨gb434, 1, none⟩ = some (.int .i64 a2_1) := (bC BK434.out 1).trans rfl
        have hfz50_0 := bZ BK434.out 0
        have hfz50_1 := bZ BK434.out 1
        go_wp2
        repeat (go_quiet (fail); try go_wp2)
        go_meet
        case rel => exact ⟨_, (decide (a1_0 > a2_1)), ((a1_0 == a1_1)), (by first | rfl | (simp; done) | (simp [*]; done)), (by first | rfl | (simp; done) | (simp [*]; done)), H', ⟨by first | omega | exact Nat.le_refl _⟩, ⟨by (with_reducible repeat (first | apply bN | apply bD | apply bA)); exact BK433.out⟩, ⟨by (with_reducible repeat (first | apply bN | apply bD | apply bA)); exact BK434.out⟩, ⟨by (with_reducible repeat (first | apply bN | apply bD | apply bA)); exact BK435.out⟩, ⟨by repeat (first | (with_reducible first | exact HB.out | apply cA | apply cN | apply cD | refine cS ?_ GE433.out | refine cS ?_ GE434.out | refine cS ?_ GE435.out) | exact HB.out)⟩⟩
      rw [if_neg c45] at H
      have c45b0 : (a0 == 23) = false := beq_eq_false_iff_ne.mpr c45
      have c45b1 : (a0 != 23) = true := bne_iff_ne.mpr c45
      have H' := Aside0.mk H
      clear H
      have hnb51 := NB433_434.out
      have hnc51 := NB434_433.out
      have hnb52 := NB433_435.out
      have hnc52 := NB435_433.out
      have hcz53_0 : w7.cell? ⟨gb433, 0, none⟩ = some (.int .i64 a1_0) := (bC BK433.out 0).trans rfl
      have hcz53_1 : w7.cell? ⟨gb433, 1, none⟩ = some (.int .i64 a1_1) := (bC BK433.out 1).trans rfl
      have hfz53_0 := bZ BK433.out 0
      have hfz53_1 := bZ BK433.out 1
      have hnb54 := NB434_435.out
      have hnc54 := NB435_434.out
      have hcz55_0 : w7.cell? ⟨gb434, 0, none⟩ = some (.int .i64 a2_0) := (bC BK434.out 0).trans rfl
      have hcz55_1 : w7.cell? ⟨gb434, 1, none⟩ = some (.int .i64 a2_1) := (bC BK434.out 1).trans rfl
      have hfz55_0 := bZ BK434.out 0
      have hfz55_1 := bZ BK434.out 1
      go_wp2
      repeat (go_quiet (fail); try go_wp2)
      go_meet
      case rel => exact ⟨_, ((a1_0 == a1_1)), (decide (a1_0 > a2_1)), (by first | rfl | (simp; done) | (simp [*]; done)), (by first | rfl | (simp; done) | (simp [*]; done)), H', ⟨by first | omega | exact Nat.le_refl _⟩, ⟨by (with_reducible repeat (first | apply bN | apply bD | apply bA)); exact BK433.out⟩, ⟨by (with_reducible repeat (first | apply bN | apply bD | apply bA)); exact BK434.out⟩, ⟨by (with_reducible repeat (first | apply bN | apply bD | apply bA)); exact BK435.out⟩, ⟨by repeat (first | (with_reducible first | exact HB.out | apply cA | apply cN | apply cD | refine cS ?_ GE433.out | refine cS ?_ GE434.out | refine cS ?_ GE435.out) | exact HB.out)⟩⟩
    rw [if_neg c32] at H
    have c32b0 : (a1_0 == a2_0 && (a1_1 == a2_1)) = false := by simpa using c32
    (try (have c32b1 : decide (a1_0 = a2_0 && (a1_1 == a2_1)) = false := by simpa using c32))
    (try (have c32b2 : (a1_0 == a2_0 && (a1_1 == a2_1)) = false := by simpa using c32))
    (try (have c32b3 : ¬ (a1_0 = a2_0 && (a1_1 == a2_1)) := by simpa using c32))
    clear c32
    by_cases c56 : a1_1 < a2_0
    · rw [if_pos c56] at H
      have c56b0 : decide (a1_1 < a2_0) = true := decide_eq_true c56
      clear c56
      by_cases c57 : a0 = 23
      · rw [if_pos c57] at H
        have c57b0 : (a0 == 23) = true := beq_iff_eq.mpr c57
        have c57b1 : (a0 != 23) = false := bne_eq_false_iff_eq.mpr c57
        clear c57
        have H' := Aside0.mk H
        clear H
        have hnb58 := NB433_434.out
        have hnc58 := NB434_433.out
        have hnb59 := NB433_435.out
        have hnc59 := NB435_433.out
        have hcz60_0 : w7.cell? ⟨gb433, 0, none⟩ = some (.int .i64 a1_0) := (bC BK433.out 0).trans rfl
        have hcz60_1 : w7.cell? ⟨gb433, 1, none⟩ = some (.int .i64 a1_1) := (bC BK433.out 1).trans rfl
        have hfz60_0 := bZ BK433.out 0
        have hfz60_1 := bZ BK433.out 1
        have hnb61 := NB434_435.out
        have hnc61 := NB435_434.out
        have hcz62_0 : w7.cell? ⟨gb434, 0, none⟩ = some (.int .i64 a2_0) := (bC BK434.out 0).trans rfl
        have hcz62_1 : w7.cell? ⟨gb434, 1, none⟩ = some (.int .i64 a2_1) := (bC BK434.out 1).trans rfl
        have hfz62_0 := bZ BK434.out 0
        have hfz62_1 := bZ BK434.out 1
        go_wp2
        repeat (go_quiet (fail); try go_wp2)
        go_meet
        case rel => exact ⟨_, (true), (false), (by first | rfl | (simp; done) | (simp [*]; done)), (by first | rfl | (simp; done) | (simp [*]; done)), H', ⟨by first | omega | exact Nat.le_refl _⟩, ⟨by (with_reducible repeat (first | apply bN | apply bD | apply bA)); exact BK433.out⟩, ⟨by (with_reducible repeat (first | apply bN | apply bD | apply bA)); exact BK434.out⟩, ⟨by (with_reducible repeat (first | apply bN | apply bD | apply bA)); exact BK435.out⟩, ⟨by repeat (first | (with_reducible first | exact HB.out | apply cA | apply cN | apply cD | refine cS ?_ GE433.out | refine cS ?_ GE434.out | refine cS ?_ GE435.out) | exact HB.out)⟩⟩
      rw [if_neg c57] at H
      have c57b0 : (a0 == 23) = false := beq_eq_false_iff_ne.mpr c57
      have c57b1 : (a0 != 23) = true := bne_iff_ne.mpr c57
      have H' := Aside0.mk H
      clear H
      have hnb63 := NB433_434.out
      have hnc63 := NB434_433.out
      have hnb64 := NB433_435.out
      have hnc64 := NB435_433.out
      have hcz65_0 : w7.cell? ⟨gb433, 0, none⟩ = some (.int .i64 a1_0) := (bC BK433.out 0).trans rfl
      have hcz65_1 : w7.cell? ⟨gb433, 1, none⟩ = some (.int .i64 a1_1) := (bC BK433.out 1).trans rfl
      have hfz65_0 := bZ BK433.out 0
      have hfz65_1 := bZ BK433.out 1
      have hnb66 := NB434_435.out
      have hnc66 := NB435_434.out
      have hcz67_0 : w7.cell? ⟨gb434, 0, none⟩ = some (.int .i64 a2_0) := (bC BK434.out 0).trans rfl
      have hcz67_1 : w7.cell? ⟨gb434, 1, none⟩ = some (.int .i64 a2_1) := (bC BK434.out 1).trans rfl
      have hfz67_0 := bZ BK434.out 0
      have hfz67_1 := bZ BK434.out 1
      go_wp2
      repeat (go_quiet (fail); try go_wp2)
      go_meet
      case rel => exact ⟨_, (false), (true), (by first | rfl | (simp; done) | (simp [*]; done)), (by first | rfl | (simp; done) | (simp [*]; done)), H', ⟨by first | omega | exact Nat.le_refl _⟩, ⟨by (with_reducible repeat (first | apply bN | apply bD | apply bA)); exact BK433.out⟩, ⟨by (with_reducible repeat (first | apply bN | apply bD | apply bA)); exact BK434.out⟩, ⟨by (with_reducible repeat (first | apply bN | apply bD | apply bA)); exact BK435.out⟩, ⟨by repeat (first | (with_reducible first | exact HB.out | apply cA | apply cN | apply cD | refine cS ?_ GE433.out | refine cS ?_ GE434.out | refine cS ?_ GE435.out) | exact HB.out)⟩⟩
    rw [if_neg c56] at H
    have c56b0 : decide (a1_1 < a2_0) = false := decide_eq_false c56
    clear c56
    by_cases c68 : a0 = 23
    · rw [if_pos c68] at H
      have c68b0 : (a0 == 23) = true := beq_iff_eq.mpr c68
      have c68b1 : (a0 != 23) = false := bne_eq_false_iff_eq.mpr c68
      clear c68
      have H' := Aside0.mk H
      clear H
      have hnb69 := NB433_434.out
      have hnc69 := NB434_433.out
      have hnb70 := NB433_435.out
      have hnc70 := NB435_433.out
      have hcz71_0 : w7.cell? ⟨gb433, 0, none⟩ = some (.int .i64 a1_0) := (bC BK433.out 0).trans rfl
      have hcz71_1 : w7.cell? ⟨gb433, 1, none⟩ = some (.int .i64 a1_1) := (bC BK433.out 1).trans rfl
      have hfz71_0 := bZ BK433.out 0
      have hfz71_1 := bZ BK433.out 1
      have hnb72 := NB434_435.out
      have hnc72 := NB435_434.out
      have hcz73_0 : w7.cell? ⟨gb434, 0, none⟩ = some (.int .i64 a2_0) := (bC BK434.out 0).trans rfl
      have hcz73_1 : w7.cell? ⟨gb434, 1, none⟩ = some (.int .i64 a2_1) := (bC BK434.out 1).trans rfl
      have hfz73_0 := bZ BK434.out 0
      have hfz73_1 := bZ BK434.out 1
      go_wp2
      repeat (go_quiet (fail); try go_wp2)
      go_meet
      case rel => exact ⟨_, (decide (a1_0 > a2_1)), (false), (by first | rfl | (simp; done) | (simp [*]; done)), (by first | rfl | (simp; done) | (simp [*]; done)), H', ⟨by first | omega | exact Nat.le_refl _⟩, ⟨by (with_reducible repeat (first | apply bN | apply bD | apply bA)); exact BK433.out⟩, ⟨by (with_reducible repeat (first | apply bN | apply bD | apply bA)); exact BK434.out⟩, ⟨by (with_reducible repeat (first | apply bN | apply bD | apply bA)); exact BK435.out⟩, ⟨by repeat (first | (with_reducible first | exact HB.out | apply cA | apply cN | apply cD | refine cS ?_ GE433.out | refine cS ?_ GE434.out | refine cS ?_ GE435.out) | exact HB.out)⟩⟩
    rw [if_neg c68] at H
    have c68b0 : (a0 == 23) = false := beq_eq_false_iff_ne.mpr c68
    have c68b1 : (a0 != 23) = true := bne_iff_ne.mpr c68
    have H' := Aside0.mk H
    clear H
    have hnb74 := NB433_434.out
    have hnc74 := NB434_433.out
    have hnb75 := NB433_435.out
    have hnc75 := NB435_433.out
    have hcz76_0 : w7.cell? ⟨gb433, 0, none⟩ = some (.int .i64 a1_0) := (bC BK433.out 0).trans rfl
    have hcz76_1 : w7.cell? ⟨gb433, 1, none⟩ = some (.int .i64 a1_1) := (bC BK433.out 1).trans rfl
    have hfz76_0 := bZ BK433.out 0
    have hfz76_1 := bZ BK433.out 1
    have hnb77 := NB434_435.out
    have hnc77 := NB435_434.out
    have hcz78_0 : w7.cell? ⟨gb434, 0, none⟩ = some (.int .i64 a2_0) := (bC BK434.out 0).trans rfl
    have hcz78_1 : w7.cell? ⟨gb434, 1, none⟩ = some (.int .i64 a2_1) := (bC BK434.out 1).trans rfl
    have hfz78_0 := bZ BK434.out 0
    have hfz78_1 := bZ BK434.out 1
    go_wp2
    repeat (go_quiet (fail); try go_wp2)
    go_meet
    case rel => exact ⟨_, (false), (decide (a1_0 > a2_1)), (by first | rfl | (simp; done) | (simp [*]; done)), (by first | rfl | (simp; done) | (simp [*]; done)), H', ⟨by first | omega | exact Nat.le_refl _⟩, ⟨by (with_reducible repeat (first | apply bN | apply bD | apply bA)); exact BK433.out⟩, ⟨by (with_reducible repeat (first | apply bN | apply bD | apply bA)); exact BK434.out⟩, ⟨by (with_reducible repeat (first | apply bN | apply bD | apply bA)); exact BK435.out⟩, ⟨by repeat (first | (with_reducible first | exact HB.out | apply cA | apply cN | apply cD | refine cS ?_ GE433.out | refine cS ?_ GE434.out | refine cS ?_ GE435.out) | exact HB.out)⟩⟩
  case rest =>
    clear HC4
    try clear c8
    try clear c8b0
    try clear c8b1
    try clear c14
    try clear c14b0
    try clear c14b1
    try clear c20
    try clear c20b0
    try clear c20b1
    try clear c26
    try clear c26b0
    try clear c26b1
    try clear c32
    try clear c32b0
    try clear c32b1
    try clear c32b2
    try clear c33
    try clear c33b0
    try clear c34
    try clear c34b0
    try clear c34b1
    try clear c45
    try clear c45b0
    try clear c45b1
    try clear c56
    try clear c56b0
    try clear c57
    try clear c57b0
    try clear c57b1
    try clear c68
    try clear c68b0
    try clear c68b1
    try clear hcz11_0
    try clear hcz11_1
    try clear hcz13_0
    try clear hcz13_1
    try clear hcz17_0
    try clear hcz17_1
    try clear hcz19_0
    try clear hcz19_1
    try clear hcz23_0
    try clear hcz23_1
    try clear hcz25_0
    try clear hcz25_1
    try clear hcz29_0
    try clear hcz29_1
    try clear hcz31_0
    try clear hcz31_1
    try clear hcz37_0
    try clear hcz37_1
    try clear hcz39_0
    try clear hcz39_1
    try clear hcz42_0
    try clear hcz42_1
    try clear hcz44_0
    try clear hcz44_1
    try clear hcz48_0
    try clear hcz48_1
    try clear hcz50_0
    try clear hcz50_1
    try clear hcz53_0
    try clear hcz53_1
    try clear hcz55_0
    try clear hcz55_1
    try clear hcz60_0
    try clear hcz60_1
    try clear hcz62_0
    try clear hcz62_1
    try clear hcz65_0
    try clear hcz65_1
    try clear hcz67_0
    try clear hcz67_1
    try clear hcz71_0
    try clear hcz71_1
    try clear hcz73_0
    try clear hcz73_1
    try clear hcz76_0
    try clear hcz76_1
    try clear hcz78_0
    try clear hcz78_1
    try clear hfz11_0
    try clear hfz11_1
    try clear hfz13_0
    try clear hfz13_1
    try clear hfz17_0
    try clear hfz17_1
    try clear hfz19_0
    try clear hfz19_1
    try clear hfz23_0
    try clear hfz23_1
    try clear hfz25_0
    try clear hfz25_1
    try clear hfz29_0
    try clear hfz29_1
    try clear hfz31_0
    try clear hfz31_1
    try clear hfz37_0
    try clear hfz37_1
    try clear hfz39_0
    try clear hfz39_1
    try clear hfz42_0
    try clear hfz42_1
    try clear hfz44_0
    try clear hfz44_1
    try clear hfz48_0
    try clear hfz48_1
    try clear hfz50_0
    try clear hfz50_1
    try clear hfz53_0
    try clear hfz53_1
    try clear hfz55_0
    try clear hfz55_1
    try clear hfz60_0
    try clear hfz60_1
    try clear hfz62_0
    try clear hfz62_1
    try clear hfz65_0
    try clear hfz65_1
    try clear hfz67_0
    try clear hfz67_1
    try clear hfz71_0
    try clear hfz71_1
    try clear hfz73_0
    try clear hfz73_1
    try clear hfz76_0
    try clear hfz76_1
    try clear hfz78_0
    try clear hfz78_1
    obtain ⟨kq, x7_3, x8_3, rfl, rfl, HA, HJ3, BK433, BK434, BK435, HB⟩ := hcut
    cases kq with
    | zero => exact absurd HA.out (by simp [span_compared.j0])
    | succ kj3 =>
      have H := HA.out
      clear HA
      simp only [span_compared.j0] at H
      by_cases c79 : x7_3 = true
      · subst c79
        have H1 : (some (1, 1)) = some (r1, r2) := by rw [if_pos rfl] at H; exact H
        clear H
        have H := H1
        clear H1
        simp only [Option.some.injEq, Prod.mk.injEq] at H
        obtain ⟨rfl, rfl⟩ := H
        have hnb80 := NB435_433.out
        have hnc80 := NB433_435.out
        have hnb81 := NB435_434.out
        have hnc81 := NB434_435.out
        have hcz82_0 : wc.cell? ⟨gb435, 0, none⟩ = some (.int .i64 0) := (bC BK435.out 0).trans rfl
        have hcz82_1 : wc.cell? ⟨gb435, 1, none⟩ = some (.int .i64 0) := (bC BK435.out 1).trans rfl
        have hfz82_0 := bZ BK435.out 0
        have hfz82_1 := bZ BK435.out 1
        go_wp2
        repeat (go_quiet (fail); try go_wp2)
        refine bodyPost_ret (results_cell_row rfl _ _ gb435 47 #[.int .i64 1, .int .i64 1] (0, 0) _ rfl (by (with_reducible repeat (first | apply bN | apply bD | apply bA)); refine bP (cs := #[.int .i64 1, .int .i64 0]) ?_ 1 _ rfl; (with_reducible repeat (first | apply bN | apply bD | apply bA)); refine bP (cs := #[.int .i64 0, .int .i64 0]) ?_ 0 _ rfl; (with_reducible repeat (first | apply bN | apply bD | apply bA)); exact BK435.out) Try.underlying47 rfl (by kernel_rfl)) rfl ?_
        exact ⟨by first | rfl | (simp [errW_none, errW_some] <;> rfl) | (simp [*, errW_none, errW_some] <;> rfl), by repeat (first | (with_reducible first | exact HB.out | apply cA | apply cN | apply cD | refine cS ?_ GE433.out | refine cS ?_ GE434.out | refine cS ?_ GE435.out) | exact HB.out)⟩
      replace c79 := Bool.eq_false_iff.mpr c79
      subst c79
      have H1 : (if x8_3 = true then (some (0, 0)) else (some (0, 1))) = some (r1, r2) := by rw [if_neg (show ¬ (false = true) by decide)] at H; exact H
      clear H
      have H := H1
      clear H1
      by_cases c83 : x8_3 = true
      · subst c83
        have H1 : (some (0, 0)) = some (r1, r2) := by rw [if_pos rfl] at H; exact H
        clear H
        have H := H1
        clear H1
        simp only [Option.some.injEq, Prod.mk.injEq] at H
        obtain ⟨rfl, rfl⟩ := H
        have hnb84 := NB435_433.out
        have hnc84 := NB433_435.out
        have hnb85 := NB435_434.out
        have hnc85 := NB434_435.out
        have hcz86_0 : wc.cell? ⟨gb435, 0, none⟩ = some (.int .i64 0) := (bC BK435.out 0).trans rfl
        have hcz86_1 : wc.cell? ⟨gb435, 1, none⟩ = some (.int .i64 0) := (bC BK435.out 1).trans rfl
        have hfz86_0 := bZ BK435.out 0
        have hfz86_1 := bZ BK435.out 1
        go_wp2
        repeat (go_quiet (fail); try go_wp2)
        refine bodyPost_ret (results_cell_row rfl _ _ gb435 47 #[.int .i64 0, .int .i64 0] (0, 0) _ rfl (by (with_reducible repeat (first | apply bN | apply bD | apply bA)); refine bP (cs := #[.int .i64 0, .int .i64 0]) ?_ 1 _ rfl; (with_reducible repeat (first | apply bN | apply bD | apply bA)); refine bP (cs := #[.int .i64 0, .int .i64 0]) ?_ 0 _ rfl; (with_reducible repeat (first | apply bN | apply bD | apply bA)); exact BK435.out) Try.underlying47 rfl (by kernel_rfl)) rfl ?_
        exact ⟨by first | rfl | (simp [errW_none, errW_some] <;> rfl) | (simp [*, errW_none, errW_some] <;> rfl), by repeat (first | (with_reducible first | exact HB.out | apply cA | apply cN | apply cD | refine cS ?_ GE433.out | refine cS ?_ GE434.out | refine cS ?_ GE435.out) | exact HB.out)⟩
      replace c83 := Bool.eq_false_iff.mpr c83
      subst c83
      have H1 : (some (0, 1)) = some (r1, r2) := by rw [if_neg (show ¬ (false = true) by decide)] at H; exact H
      clear H
      have H := H1
      clear H1
      simp only [Option.some.injEq, Prod.mk.injEq] at H
      obtain ⟨rfl, rfl⟩ := H
      have hnb87 := NB435_433.out
      have hnc87 := NB433_435.out
      have hnb88 := NB435_434.out
      have hnc88 := NB434_435.out
      have hcz89_0 : wc.cell? ⟨gb435, 0, none⟩ = some (.int .i64 0) := (bC BK435.out 0).trans rfl
      have hcz89_1 : wc.cell? ⟨gb435, 1, none⟩ = some (.int .i64 0) := (bC BK435.out 1).trans rfl
      have hfz89_0 := bZ BK435.out 0
      have hfz89_1 := bZ BK435.out 1
      go_wp2
      repeat (go_quiet (fail); try go_wp2)
      refine bodyPost_ret (results_cell_row rfl _ _ gb435 47 #[.int .i64 0, .int .i64 1] (0, 0) _ rfl (by (with_reducible repeat (first | apply bN | apply bD | apply bA)); refine bP (cs := #[.int .i64 0, .int .i64 0]) ?_ 1 _ rfl; (with_reducible repeat (first | apply bN | apply bD | apply bA)); refine bP (cs := #[.int .i64 0, .int .i64 0]) ?_ 0 _ rfl; (with_reducible repeat (first | apply bN | apply bD | apply bA)); exact BK435.out) Try.underlying47 rfl (by kernel_rfl)) rfl ?_
      exact ⟨by first | rfl | (simp [errW_none, errW_some] <;> rfl) | (simp [*, errW_none, errW_some] <;> rfl), by repeat (first | (with_reducible first | exact HB.out | apply cA | apply cN | apply cD | refine cS ?_ GE433.out | refine cS ?_ GE434.out | refine cS ?_ GE435.out) | exact HB.out)⟩

/-! ### span_corners_with56: function 900001 -/
def span_corners_with56.f (a0_0 : Int) (a0_1 : Int) (a1_0 : Int) (a1_1 : Int)  : Option (Int × Int) := (span_two_1.f a0_0 a1_0).bind fun t439 => ((span_two_1.f a0_0 a1_1).bind fun t440 => ((span_two_1.f a0_1 a1_0).bind fun t441 => ((span_two_1.f a0_1 a1_1).bind fun t442 => (some (mn (mn (mn t439 t440) t441) t442, mx (mx (mx t439 t440) t441) t442)))))
set_option maxHeartbeats 8000000 in
set_option maxRecDepth 100000 in
theorem span_corners_with56.calls (a0_0 : Int) (a0_1 : Int) (a1_0 : Int) (a1_1 : Int)  (r1 : Int) (r2 : Int) (w : World) (h : span_corners_with56.f a0_0 a0_1 a1_0 a1_1 = some (r1, r2)) :
    Calls Try.prog 54 #[.agg #[.int .i64 a0_0, .int .i64 a0_1], .agg #[.int .i64 a1_0, .int .i64 a1_1], .func (.func 56) #[] #[]] w fun e w' => e = .returned (.agg #[.int .i64 r1, .int .i64 r2]) ∧ Below w.heap.size w w' := by
  have hu47 := Try.underlying47
  have HB := Aside0.mk (Below.refl w.heap.size w)
  have H : ((span_two_1.f a0_0 a1_0).bind fun t439 => ((span_two_1.f a0_0 a1_1).bind fun t440 => ((span_two_1.f a0_1 a1_0).bind fun t441 => ((span_two_1.f a0_1 a1_1).bind fun t442 => (some (mn (mn (mn t439 t440) t441) t442, mx (mx (mx t439 t440) t441) t442)))))) = some (r1, r2) := h
  clear h
  replace H := Option.bind_eq_some_iff.mp H
  obtain ⟨t439, A40, H⟩ := H
  replace H : ((span_two_1.f a0_0 a1_1).bind fun t440 => ((span_two_1.f a0_1 a1_0).bind fun t441 => ((span_two_1.f a0_1 a1_1).bind fun t442 => (some (mn (mn (mn t439 t440) t441) t442, mx (mx (mx t439 t440) t441) t442))))) = some (r1, r2) := H
  have A4 := Aside0.mk A40
  clear A40
  replace H := Option.bind_eq_some_iff.mp H
  obtain ⟨t440, A50, H⟩ := H
  replace H : ((span_two_1.f a0_1 a1_0).bind fun t441 => ((span_two_1.f a0_1 a1_1).bind fun t442 => (some (mn (mn (mn t439 t440) t441) t442, mx (mx (mx t439 t440) t441) t442)))) = some (r1, r2) := H
  have A5 := Aside0.mk A50
  clear A50
  replace H := Option.bind_eq_some_iff.mp H
  obtain ⟨t441, A60, H⟩ := H
  replace H : ((span_two_1.f a0_1 a1_1).bind fun t442 => (some (mn (mn (mn t439 t440) t441) t442, mx (mx (mx t439 t440) t441) t442))) = some (r1, r2) := H
  have A6 := Aside0.mk A60
  clear A60
  replace H := Option.bind_eq_some_iff.mp H
  obtain ⟨t442, A70, H⟩ := H
  replace H : (some (mn (mn (mn t439 t440) t441) t442, mx (mx (mx t439 t440) t441) t442)) = some (r1, r2) := H
  have A7 := Aside0.mk A70
  clear A70
  obtain ⟨ji8, hji8⟩ : ∃ j_ : Int, (mn t439 t440) = j_ := ⟨_, rfl⟩
  replace H : (some (mn (mn (ji8) t441) t442, mx (mx (mx t439 t440) t441) t442)) = some (r1, r2) := by first | (rw [hji8] at H; exact H) | (simp only [hji8] at H ⊢; exact H)
  (try rw [hji8] at A4)
  (try rw [hji8] at A5)
  (try rw [hji8] at A6)
  (try rw [hji8] at A7)
  have hji8_ : (if t440 < t439 then t440 else t439) = ji8 := hji8
  obtain ⟨ji9, hji9⟩ : ∃ j_ : Int, (mn (ji8) t441) = j_ := ⟨_, rfl⟩
  replace H : (some (mn (ji9) t442, mx (mx (mx t439 t440) t441) t442)) = some (r1, r2) := by first | (rw [hji9] at H; exact H) | (simp only [hji9] at H ⊢; exact H)
  (try rw [hji9] at A4)
  (try rw [hji9] at A5)
  (try rw [hji9] at A6)
  (try rw [hji9] at A7)
  have hji9_ : (if t441 < (ji8) then t441 else (ji8)) = ji9 := hji9
  obtain ⟨ji10, hji10⟩ : ∃ j_ : Int, (mn (ji9) t442) = j_ := ⟨_, rfl⟩
  replace H : (some (ji10, mx (mx (mx t439 t440) t441) t442)) = some (r1, r2) := by first | (rw [hji10] at H; exact H) | (simp only [hji10] at H ⊢; exact H)
  (try rw [hji10] at A4)
  (try rw [hji10] at A5)
  (try rw [hji10] at A6)
  (try rw [hji10] at A7)
  have hji10_ : (if t442 < (ji9) then t442 else (ji9)) = ji10 := hji10
  obtain ⟨ji11, hji11⟩ : ∃ j_ : Int, (mx t439 t440) = j_ := ⟨_, rfl⟩
  replace H : (some (ji10, mx (mx (ji11) t441) t442)) = some (r1, r2) := by first | (rw [hji11] at H; exact H) | (simp only [hji11] at H ⊢; exact H)
  (try rw [hji11] at A4)
  (try rw [hji11] at A5)
  (try rw [hji11] at A6)
  (try rw [hji11] at A7)
  have hji11_ : (if t439 < t440 then t440 else t439) = ji11 := hji11
  obtain ⟨ji12, hji12⟩ : ∃ j_ : Int, (mx (ji11) t441) = j_ := ⟨_, rfl⟩
  replace H : (some (ji10, mx (ji12) t442)) = some (r1, r2) := by first | (rw [hji12] at H; exact H) | (simp only [hji12] at H ⊢; exact H)
  (try rw [hji12] at A4)
  (try rw [hji12] at A5)
  (try rw [hji12] at A6)
  (try rw [hji12] at A7)
  have hji12_ : (if (ji11) < t441 then t441 else (ji11)) = ji12 := hji12
  obtain ⟨ji13, hji13⟩ : ∃ j_ : Int, (mx (ji12) t442) = j_ := ⟨_, rfl⟩
  replace H : (some (ji10, ji13)) = some (r1, r2) := by first | (rw [hji13] at H; exact H) | (simp only [hji13] at H ⊢; exact H)
  (try rw [hji13] at A4)
  (try rw [hji13] at A5)
  (try rw [hji13] at A6)
  (try rw [hji13] at A7)
  have hji13_ : (if (ji12) < t442 then t442 else (ji12)) = ji13 := hji13
  simp only [Option.some.injEq, Prod.mk.injEq] at H
  obtain ⟨rfl, rfl⟩ := H
  go_enter Try.func54, Try.ntmps54
  go_wp2_with (first | ((with_reducible refine gate_dst (N := 3) rfl ?_); refine box_event ?hg (N := 3) ?hd (cs := #[.int .i64 a0_0, .int .i64 a0_1]) (t := 47) ?hr ?_; (case hd => rfl); (case hg => rfl); (case hr => first | (go_simp; done) | (go_simp; rfl)); intro gb436 hg w14 hbox hb; have n0_ := Aside0.mk (cT (by repeat (first | (with_reducible first | exact HB.out | apply cA | apply cN | apply cD) | exact HB.out)) hb); have n1_ := Aside0.mk (hbox); have n2_ := Aside0.mk ((by rw [hg]; exact (cZ (by repeat (first | (with_reducible first | exact HB.out | apply cA | apply cN | apply cD) | exact HB.out))) : w.heap.size ≤ gb436)); have n3_ := n2_; clear HB; have HB := n0_; have BK436 := n1_; have GW436 := n2_; have GE436 := n3_; clear n0_ n1_ n2_ n3_; clear hb hbox hg) | ((with_reducible refine gate_dst (N := 4) rfl ?_); refine box_event ?hg (N := 4) ?hd (cs := #[.int .i64 a1_0, .int .i64 a1_1]) (t := 47) ?hr ?_; (case hd => rfl); (case hg => rfl); (case hr => first | (go_simp; done) | (go_simp; rfl)); intro gb437 hg w15 hbox hb; have n0_ := Aside0.mk (bB (g := gb436) (o := .cells #[.int .i64 a0_0, .int .i64 a0_1] 47 (0, 0)) (by (with_reducible repeat (first | apply bN | apply bD | apply bA)); exact BK436.out) hb); have n1_ := Aside0.mk (cT (by repeat (first | (with_reducible first | exact HB.out | apply cA | apply cN | apply cD | refine cS ?_ GE436.out) | exact HB.out)) hb); have n2_ := Aside0.mk (hbox); have n3_ := Aside0.mk ((by rw [hg]; exact (cZ (by repeat (first | (with_reducible first | exact HB.out | apply cA | apply cN | apply cD | refine cS ?_ GE436.out) | exact HB.out))) : w.heap.size ≤ gb437)); have n4_ := n3_; have n5_ := Aside0.mk ((by rw [hg]; exact Nat.ne_of_lt (blk_lt (g := gb436) (o := .cells #[.int .i64 a0_0, .int .i64 a0_1] 47 (0, 0)) (by (with_reducible repeat (first | apply bN | apply bD | apply bA)); exact BK436.out)) : gb436 ≠ gb437)); have n6_ := Aside0.mk ((by rw [hg]; exact Nat.ne_of_gt (blk_lt (g := gb436) (o := .cells #[.int .i64 a0_0, .int .i64 a0_1] 47 (0, 0)) (by (with_reducible repeat (first | apply bN | apply bD | apply bA)); exact BK436.out)) : gb437 ≠ gb436)); clear BK436; clear HB; have BK436 := n0_; have HB := n1_; have BK437 := n2_; have GW437 := n3_; have GE437 := n4_; have NB436_437 := n5_; have NB437_436 := n6_; clear n0_ n1_ n2_ n3_ n4_ n5_ n6_; clear hb hbox hg) | ((with_reducible refine gate_dst (N := 6) rfl ?_); refine box_event ?hg (N := 6) ?hd (cs := #[.int .i64 0, .int .i64 0]) (t := 47) ?hr ?_; (case hd => rfl); (case hg => rfl); (case hr => first | (go_simp; done) | (go_simp; rfl)); intro gb438 hg w16 hbox hb; have n0_ := Aside0.mk (bB (g := gb436) (o := .cells #[.int .i64 a0_0, .int .i64 a0_1] 47 (0, 0)) (by (with_reducible repeat (first | apply bN | apply bD | apply bA)); exact BK436.out) hb); have n1_ := Aside0.mk (bB (g := gb437) (o := .cells #[.int .i64 a1_0, .int .i64 a1_1] 47 (0, 0)) (by (with_reducible repeat (first | apply bN | apply bD | apply bA)); exact BK437.out) hb); have n2_ := Aside0.mk (cT (by repeat (first | (with_reducible first | exact HB.out | apply cA | apply cN | apply cD | refine cS ?_ GE436.out | refine cS ?_ GE437.out) | exact HB.out)) hb); have n3_ := Aside0.mk (hbox); have n4_ := Aside0.mk ((by rw [hg]; exact (cZ (by repeat (first | (with_reducible first | exact HB.out | apply cA | apply cN | apply cD | refine cS ?_ GE436.out | refine cS ?_ GE437.out) | exact HB.out))) : w.heap.size ≤ gb438)); have n5_ := n4_; have n6_ := Aside0.mk ((by rw [hg]; exact Nat.ne_of_lt (blk_lt (g := gb436) (o := .cells #[.int .i64 a0_0, .int .i64 a0_1] 47 (0, 0)) (by (with_reducible repeat (first | apply bN | apply bD | apply bA)); exact BK436.out)) : gb436 ≠ gb438)); have n7_ := Aside0.mk ((by rw [hg]; exact Nat.ne_of_gt (blk_lt (g := gb436) (o := .cells #[.int .i64 a0_0, .int .i64 a0_1] 47 (0, 0)) (by (with_reducible repeat (first | apply bN | apply bD | apply bA)); exact BK436.out)) : gb438 ≠ gb436)); have n8_ := Aside0.mk ((by rw [hg]; exact Nat.ne_of_lt (blk_lt (g := gb437) (o := .cells #[.int .i64 a1_0, .int .i64 a1_1] 47 (0, 0)) (by (with_reducible repeat (first | apply bN | apply bD | apply bA)); exact BK437.out)) : gb437 ≠ gb438)); have n9_ := Aside0.mk ((by rw [hg]; exact Nat.ne_of_gt (blk_lt (g := gb437) (o := .cells #[.int .i64 a1_0, .int .i64 a1_1] 47 (0, 0)) (by (with_reducible repeat (first | apply bN | apply bD | apply bA)); exact BK437.out)) : gb438 ≠ gb437)); clear BK436; clear BK437; clear HB; have BK436 := n0_; have BK437 := n1_; have HB := n2_; have BK438 := n3_; have GW438 := n4_; have GE438 := n5_; have NB436_438 := n6_; have NB438_436 := n7_; have NB437_438 := n8_; have NB438_437 := n9_; clear n0_ n1_ n2_ n3_ n4_ n5_ n6_ n7_ n8_ n9_; clear hb hbox hg; have hnb17 := NB436_437.out; have hnc17 := NB437_436.out; have hnb18 := NB436_438.out; have hnc18 := NB438_436.out; have hcz19_0 : w16.cell? ⟨gb436, 0, none⟩ = some (.int .i64 a0_0) := (bC BK436.out 0).trans rfl; have hcz19_1 : w16.cell? ⟨gb436, 1, none⟩ = some (.int .i64 a0_1) := (bC BK436.out 1).trans rfl; have hfz19_0 := bZ BK436.out 0; have hfz19_1 := bZ BK436.out 1; have hnb20 := NB437_438.out; have hnc20 := NB438_437.out; have hcz21_0 : w16.cell? ⟨gb437, 0, none⟩ = some (.int .i64 a1_0) := (bC BK437.out 0).trans rfl; have hcz21_1 : w16.cell? ⟨gb437, 1, none⟩ = some (.int .i64 a1_1) := (bC BK437.out 1).trans rfl; have hfz21_0 := bZ BK437.out 0; have hfz21_1 := bZ BK437.out 1) | (go_at_call 56; (with_reducible refine (span_two_1.calls a0_0 a1_0 t439 _ A4.out).mono ?_); rintro e w' ⟨rfl, ⟨nd, rfl⟩⟩; (try first | exact ⟨rfl, _, World.drewN_drewN _ _ _⟩ | exact ⟨rfl, _, Eq.trans (World.drewN_drewN _ _ _) (congrArg (World.drewN _) (Nat.add_assoc _ _ _))⟩)) | (go_at_call 56; (with_reducible refine (span_two_1.calls a0_0 a1_1 t440 _ A5.out).mono ?_); rintro e w' ⟨rfl, ⟨nd, rfl⟩⟩; (try first | exact ⟨rfl, _, World.drewN_drewN _ _ _⟩ | exact ⟨rfl, _, Eq.trans (World.drewN_drewN _ _ _) (congrArg (World.drewN _) (Nat.add_assoc _ _ _))⟩)) | (go_at_call 56; (with_reducible refine (span_two_1.calls a0_1 a1_0 t441 _ A6.out).mono ?_); rintro e w' ⟨rfl, ⟨nd, rfl⟩⟩; (try first | exact ⟨rfl, _, World.drewN_drewN _ _ _⟩ | exact ⟨rfl, _, Eq.trans (World.drewN_drewN _ _ _) (congrArg (World.drewN _) (Nat.add_assoc _ _ _))⟩)) | (go_at_call 56; (with_reducible refine (span_two_1.calls a0_1 a1_1 t442 _ A7.out).mono ?_); rintro e w' ⟨rfl, ⟨nd, rfl⟩⟩; (try first | exact ⟨rfl, _, World.drewN_drewN _ _ _⟩ | exact ⟨rfl, _, Eq.trans (World.drewN_drewN _ _ _) (congrArg (World.drewN _) (Nat.add_assoc _ _ _))⟩); have hcz22_0 : w16.cell? ⟨gb438, 0, none⟩ = some (.int .i64 0) := (bC BK438.out 0).trans rfl; have hcz22_1 : w16.cell? ⟨gb438, 1, none⟩ = some (.int .i64 0) := (bC BK438.out 1).trans rfl; have hfz22_0 := bZ BK438.out 0; have hfz22_1 := bZ BK438.out 1))
  repeat (go_quiet (first | ((with_reducible refine gate_dst (N := 3) rfl ?_); refine box_event ?hg (N := 3) ?hd (cs := #[.int .i64 a0_0, .int .i64 a0_1]) (t := 47) ?hr ?_; (case hd => rfl); (case hg => rfl); (case hr => first | (go_simp; done) | (go_simp; rfl)); intro gb436 hg w14 hbox hb; have n0_ := Aside0.mk (cT (by repeat (first | (with_reducible first | exact HB.out | apply cA | apply cN | apply cD) | exact HB.out)) hb); have n1_ := Aside0.mk (hbox); have n2_ := Aside0.mk ((by rw [hg]; exact (cZ (by repeat (first | (with_reducible first | exact HB.out | apply cA | apply cN | apply cD) | exact HB.out))) : w.heap.size ≤ gb436)); have n3_ := n2_; clear HB; have HB := n0_; have BK436 := n1_; have GW436 := n2_; have GE436 := n3_; clear n0_ n1_ n2_ n3_; clear hb hbox hg) | ((with_reducible refine gate_dst (N := 4) rfl ?_); refine box_event ?hg (N := 4) ?hd (cs := #[.int .i64 a1_0, .int .i64 a1_1]) (t := 47) ?hr ?_; (case hd => rfl); (case hg => rfl); (case hr => first | (go_simp; done) | (go_simp; rfl)); intro gb437 hg w15 hbox hb; have n0_ := Aside0.mk (bB (g := gb436) (o := .cells #[.int .i64 a0_0, .int .i64 a0_1] 47 (0, 0)) (by (with_reducible repeat (first | apply bN | apply bD | apply bA)); exact BK436.out) hb); have n1_ := Aside0.mk (cT (by repeat (first | (with_reducible first | exact HB.out | apply cA | apply cN | apply cD | refine cS ?_ GE436.out) | exact HB.out)) hb); have n2_ := Aside0.mk (hbox); have n3_ := Aside0.mk ((by rw [hg]; exact (cZ (by repeat (first | (with_reducible first | exact HB.out | apply cA | apply cN | apply cD | refine cS ?_ GE436.out) | exact HB.out))) : w.heap.size ≤ gb437)); have n4_ := n3_; have n5_ := Aside0.mk ((by rw [hg]; exact Nat.ne_of_lt (blk_lt (g := gb436) (o := .cells #[.int .i64 a0_0, .int .i64 a0_1] 47 (0, 0)) (by (with_reducible repeat (first | apply bN | apply bD | apply bA)); exact BK436.out)) : gb436 ≠ gb437)); have n6_ := Aside0.mk ((by rw [hg]; exact Nat.ne_of_gt (blk_lt (g := gb436) (o := .cells #[.int .i64 a0_0, .int .i64 a0_1] 47 (0, 0)) (by (with_reducible repeat (first | apply bN | apply bD | apply bA)); exact BK436.out)) : gb437 ≠ gb436)); clear BK436; clear HB; have BK436 := n0_; have HB := n1_; have BK437 := n2_; have GW437 := n3_; have GE437 := n4_; have NB436_437 := n5_; have NB437_436 := n6_; clear n0_ n1_ n2_ n3_ n4_ n5_ n6_; clear hb hbox hg) | ((with_reducible refine gate_dst (N := 6) rfl ?_); refine box_event ?hg (N := 6) ?hd (cs := #[.int .i64 0, .int .i64 0]) (t := 47) ?hr ?_; (case hd => rfl); (case hg => rfl); (case hr => first | (go_simp; done) | (go_simp; rfl)); intro gb438 hg w16 hbox hb; have n0_ := Aside0.mk (bB (g := gb436) (o := .cells #[.int .i64 a0_0, .int .i64 a0_1] 47 (0, 0)) (by (with_reducible repeat (first | apply bN | apply bD | apply bA)); exact BK436.out) hb); have n1_ := Aside0.mk (bB (g := gb437) (o := .cells #[.int .i64 a1_0, .int .i64 a1_1] 47 (0, 0)) (by (with_reducible repeat (first | apply bN | apply bD | apply bA)); exact BK437.out) hb); have n2_ := Aside0.mk (cT (by repeat (first | (with_reducible first | exact HB.out | apply cA | apply cN | apply cD | refine cS ?_ GE436.out | refine cS ?_ GE437.out) | exact HB.out)) hb); have n3_ := Aside0.mk (hbox); have n4_ := Aside0.mk ((by rw [hg]; exact (cZ (by repeat (first | (with_reducible first | exact HB.out | apply cA | apply cN | apply cD | refine cS ?_ GE436.out | refine cS ?_ GE437.out) | exact HB.out))) : w.heap.size ≤ gb438)); have n5_ := n4_; have n6_ := Aside0.mk ((by rw [hg]; exact Nat.ne_of_lt (blk_lt (g := gb436) (o := .cells #[.int .i64 a0_0, .int .i64 a0_1] 47 (0, 0)) (by (with_reducible repeat (first | apply bN | apply bD | apply bA)); exact BK436.out)) : gb436 ≠ gb438)); have n7_ := Aside0.mk ((by rw [hg]; exact Nat.ne_of_gt (blk_lt (g := gb436) (o := .cells #[.int .i64 a0_0, .int .i64 a0_1] 47 (0, 0)) (by (with_reducible repeat (first | apply bN | apply bD | apply bA)); exact BK436.out)) : gb438 ≠ gb436)); have n8_ := Aside0.mk ((by rw [hg]; exact Nat.ne_of_lt (blk_lt (g := gb437) (o := .cells #[.int .i64 a1_0, .int .i64 a1_1] 47 (0, 0)) (by (with_reducible repeat (first | apply bN | apply bD | apply bA)); exact BK437.out)) : gb437 ≠ gb438)); have n9_ := Aside0.mk ((by rw [hg]; exact Nat.ne_of_gt (blk_lt (g := gb437) (o := .cells #[.int .i64 a1_0, .int .i64 a1_1] 47 (0, 0)) (by (with_reducible repeat (first | apply bN | apply bD | apply bA)); exact BK437.out)) : gb438 ≠ gb437)); clear BK436; clear BK437; clear HB; have BK436 := n0_; have BK437 := n1_; have HB := n2_; have BK438 := n3_; have GW438 := n4_; have GE438 := n5_; have NB436_438 := n6_; have NB438_436 := n7_; have NB437_438 := n8_; have NB438_437 := n9_; clear n0_ n1_ n2_ n3_ n4_ n5_ n6_ n7_ n8_ n9_; clear hb hbox hg; have hnb17 := NB436_437.out; have hnc17 := NB437_436.out; have hnb18 := NB436_438.out; have hnc18 := NB438_436.out; have hcz19_0 : w16.cell? ⟨gb436, 0, none⟩ = some (.int .i64 a0_0) := (bC BK436.out 0).trans rfl; have hcz19_1 : w16.cell? ⟨gb436, 1, none⟩ = some (.int .i64 a0_1) := (bC BK436.out 1).trans rfl; have hfz19_0 := bZ BK436.out 0; have hfz19_1 := bZ BK436.out 1; have hnb20 := NB437_438.out; have hnc20 := NB438_437.out; have hcz21_0 : w16.cell? ⟨gb437, 0, none⟩ = some (.int .i64 a1_0) := (bC BK437.out 0).trans rfl; have hcz21_1 : w16.cell? ⟨gb437, 1, none⟩ = some (.int .i64 a1_1) := (bC BK437.out 1).trans rfl; have hfz21_0 := bZ BK437.out 0; have hfz21_1 := bZ BK437.out 1) | (go_at_call 56; (with_reducible refine (span_two_1.calls a0_0 a1_0 t439 _ A4.out).mono ?_); rintro e w' ⟨rfl, ⟨nd, rfl⟩⟩; (try first | exact ⟨rfl, _, World.drewN_drewN _ _ _⟩ | exact ⟨rfl, _, Eq.trans (World.drewN_drewN _ _ _) (congrArg (World.drewN _) (Nat.add_assoc _ _ _))⟩)) | (go_at_call 56; (with_reducible refine (span_two_1.calls a0_0 a1_1 t440 _ A5.out).mono ?_); rintro e w' ⟨rfl, ⟨nd, rfl⟩⟩; (try first | exact ⟨rfl, _, World.drewN_drewN _ _ _⟩ | exact ⟨rfl, _, Eq.trans (World.drewN_drewN _ _ _) (congrArg (World.drewN _) (Nat.add_assoc _ _ _))⟩)) | (go_at_call 56; (with_reducible refine (span_two_1.calls a0_1 a1_0 t441 _ A6.out).mono ?_); rintro e w' ⟨rfl, ⟨nd, rfl⟩⟩; (try first | exact ⟨rfl, _, World.drewN_drewN _ _ _⟩ | exact ⟨rfl, _, Eq.trans (World.drewN_drewN _ _ _) (congrArg (World.drewN _) (Nat.add_assoc _ _ _))⟩)) | (go_at_call 56; (with_reducible refine (span_two_1.calls a0_1 a1_1 t442 _ A7.out).mono ?_); rintro e w' ⟨rfl, ⟨nd, rfl⟩⟩; (try first | exact ⟨rfl, _, World.drewN_drewN _ _ _⟩ | exact ⟨rfl, _, Eq.trans (World.drewN_drewN _ _ _) (congrArg (World.drewN _) (Nat.add_assoc _ _ _))⟩); have hcz22_0 : w16.cell? ⟨gb438, 0, none⟩ = some (.int .i64 0) := (bC BK438.out 0).trans rfl; have hcz22_1 : w16.cell? ⟨gb438, 1, none⟩ = some (.int .i64 0) := (bC BK438.out 1).trans rfl; have hfz22_0 := bZ BK438.out 0; have hfz22_1 := bZ BK438.out 1)); try go_wp2_with (first | ((with_reducible refine gate_dst (N := 3) rfl ?_); refine box_event ?hg (N := 3) ?hd (cs := #[.int .i64 a0_0, .int .i64 a0_1]) (t := 47) ?hr ?_; (case hd => rfl); (case hg => rfl); (case hr => first | (go_simp; done) | (go_simp; rfl)); intro gb436 hg w14 hbox hb; have n0_ := Aside0.mk (cT (by repeat (first | (with_reducible first | exact HB.out | apply cA | apply cN | apply cD) | exact HB.out)) hb); have n1_ := Aside0.mk (hbox); have n2_ := Aside0.mk ((by rw [hg]; exact (cZ (by repeat (first | (with_reducible first | exact HB.out | apply cA | apply cN | apply cD) | exact HB.out))) : w.heap.size ≤ gb436)); have n3_ := n2_; clear HB; have HB := n0_; have BK436 := n1_; have GW436 := n2_; have GE436 := n3_; clear n0_ n1_ n2_ n3_; clear hb hbox hg) | ((with_reducible refine gate_dst (N := 4) rfl ?_); refine box_event ?hg (N := 4) ?hd (cs := #[.int .i64 a1_0, .int .i64 a1_1]) (t := 47) ?hr ?_; (case hd => rfl); (case hg => rfl); (case hr => first | (go_simp; done) | (go_simp; rfl)); intro gb437 hg w15 hbox hb; have n0_ := Aside0.mk (bB (g := gb436) (o := .cells #[.int .i64 a0_0, .int .i64 a0_1] 47 (0, 0)) (by (with_reducible repeat (first | apply bN | apply bD | apply bA)); exact BK436.out) hb); have n1_ := Aside0.mk (cT (by repeat (first | (with_reducible first | exact HB.out | apply cA | apply cN | apply cD | refine cS ?_ GE436.out) | exact HB.out)) hb); have n2_ := Aside0.mk (hbox); have n3_ := Aside0.mk ((by rw [hg]; exact (cZ (by repeat (first | (with_reducible first | exact HB.out | apply cA | apply cN | apply cD | refine cS ?_ GE436.out) | exact HB.out))) : w.heap.size ≤ gb437)); have n4_ := n3_; have n5_ := Aside0.mk ((by rw [hg]; exact Nat.ne_of_lt (blk_lt (g := gb436) (o := .cells #[.int .i64 a0_0, .int .i64 a0_1] 47 (0, 0)) (by (with_reducible repeat (first | apply bN | apply bD | apply bA)); exact BK436.out)) : gb436 ≠ gb437)); have n6_ := Aside0.mk ((by rw [hg]; exact Nat.ne_of_gt (blk_lt (g := gb436) (o := .cells #[.int .i64 a0_0, .int .i64 a0_1] 47 (0, 0)) (by (with_reducible repeat (first | apply bN | apply bD | apply bA)); exact BK436.out)) : gb437 ≠ gb436)); clear BK436; clear HB; have BK436 := n0_; have HB := n1_; have BK437 := n2_; have GW437 := n3_; have GE437 := n4_; have NB436_437 := n5_; have NB437_436 := n6_; clear n0_ n1_ n2_ n3_ n4_ n5_ n6_; clear hb hbox hg) | ((with_reducible refine gate_dst (N := 6) rfl ?_); refine box_event ?hg (N := 6) ?hd (cs := #[.int .i64 0, .int .i64 0]) (t := 47) ?hr ?_; (case hd => rfl); (case hg => rfl); (case hr => first | (go_simp; done) | (go_simp; rfl)); intro gb438 hg w16 hbox hb; have n0_ := Aside0.mk (bB (g := gb436) (o := .cells #[.int .i64 a0_0, .int .i64 a0_1] 47 (0, 0)) (by (with_reducible repeat (first | apply bN | apply bD | apply bA)); exact BK436.out) hb); have n1_ := Aside0.mk (bB (g := gb437) (o := .cells #[.int .i64 a1_0, .int .i64 a1_1] 47 (0, 0)) (by (with_reducible repeat (first | apply bN | apply bD | apply bA)); exact BK437.out) hb); have n2_ := Aside0.mk (cT (by repeat (first | (with_reducible first | exact HB.out | apply cA | apply cN | apply cD | refine cS ?_ GE436.out | refine cS ?_ GE437.out) | exact HB.out)) hb); have n3_ := Aside0.mk (hbox); have n4_ := Aside0.mk ((by rw [hg]; exact (cZ (by repeat (first | (with_reducible first | exact HB.out | apply cA | apply cN | apply cD | refine cS ?_ GE436.out | refine cS ?_ GE437.out) | exact HB.out))) : w.heap.size ≤ gb438)); have n5_ := n4_; have n6_ := Aside0.mk ((by rw [hg]; exact Nat.ne_of_lt (blk_lt (g := gb436) (o := .cells #[.int .i64 a0_0, .int .i64 a0_1] 47 (0, 0)) (by (with_reducible repeat (first | apply bN | apply bD | apply bA)); exact BK436.out)) : gb436 ≠ gb438)); have n7_ := Aside0.mk ((by rw [hg]; exact Nat.ne_of_gt (blk_lt (g := gb436) (o := .cells #[.int .i64 a0_0, .int .i64 a0_1] 47 (0, 0)) (by (with_reducible repeat (first | apply bN | apply bD | apply bA)); exact BK436.out)) : gb438 ≠ gb436)); have n8_ := Aside0.mk ((by rw [hg]; exact Nat.ne_of_lt (blk_lt (g := gb437) (o := .cells #[.int .i64 a1_0, .int .i64 a1_1] 47 (0, 0)) (by (with_reducible repeat (first | apply bN | apply bD | apply bA)); exact BK437.out)) : gb437 ≠ gb438)); have n9_ := Aside0.mk ((by rw [hg]; exact Nat.ne_of_gt (blk_lt (g := gb437) (o := .cells #[.int .i64 a1_0, .int .i64 a1_1] 47 (0, 0)) (by (with_reducible repeat (first | apply bN | apply bD | apply bA)); exact BK437.out)) : gb438 ≠ gb437)); clear BK436; clear BK437; clear HB; have BK436 := n0_; have BK437 := n1_; have HB := n2_; have BK438 := n3_; have GW438 := n4_; have GE438 := n5_; have NB436_438 := n6_; have NB438_436 := n7_; have NB437_438 := n8_; have NB438_437 := n9_; clear n0_ n1_ n2_ n3_ n4_ n5_ n6_ n7_ n8_ n9_; clear hb hbox hg; have hnb17 := NB436_437.out; have hnc17 := NB437_436.out; have hnb18 := NB436_438.out; have hnc18 := NB438_436.out; have hcz19_0 : w16.cell? ⟨gb436, 0, none⟩ = some (.int .i64 a0_0) := (bC BK436.out 0).trans rfl; have hcz19_1 : w16.cell? ⟨gb436, 1, none⟩ = some (.int .i64 a0_1) := (bC BK436.out 1).trans rfl; have hfz19_0 := bZ BK436.out 0; have hfz19_1 := bZ BK436.out 1; have hnb20 := NB437_438.out; have hnc20 := NB438_437.out; have hcz21_0 : w16.cell? ⟨gb437, 0, none⟩ = some (.int .i64 a1_0) := (bC BK437.out 0).trans rfl; have hcz21_1 : w16.cell? ⟨gb437, 1, none⟩ = some (.int .i64 a1_1) := (bC BK437.out 1).trans rfl; have hfz21_0 := bZ BK437.out 0; have hfz21_1 := bZ BK437.out 1) | (go_at_call 56; (with_reducible refine (span_two_1.calls a0_0 a1_0 t439 _ A4.out).mono ?_); rintro e w' ⟨rfl, ⟨nd, rfl⟩⟩; (try first | exact ⟨rfl, _, World.drewN_drewN _ _ _⟩ | exact ⟨rfl, _, Eq.trans (World.drewN_drewN _ _ _) (congrArg (World.drewN _) (Nat.add_assoc _ _ _))⟩)) | (go_at_call 56; (with_reducible refine (span_two_1.calls a0_0 a1_1 t440 _ A5.out).mono ?_); rintro e w' ⟨rfl, ⟨nd, rfl⟩⟩; (try first | exact ⟨rfl, _, World.drewN_drewN _ _ _⟩ | exact ⟨rfl, _, Eq.trans (World.drewN_drewN _ _ _) (congrArg (World.drewN _) (Nat.add_assoc _ _ _))⟩)) | (go_at_call 56; (with_reducible refine (span_two_1.calls a0_1 a1_0 t441 _ A6.out).mono ?_); rintro e w' ⟨rfl, ⟨nd, rfl⟩⟩; (try first | exact ⟨rfl, _, World.drewN_drewN _ _ _⟩ | exact ⟨rfl, _, Eq.trans (World.drewN_drewN _ _ _) (congrArg (World.drewN _) (Nat.add_assoc _ _ _))⟩)) | (go_at_call 56; (with_reducible refine (span_two_1.calls a0_1 a1_1 t442 _ A7.out).mono ?_); rintro e w' ⟨rfl, ⟨nd, rfl⟩⟩; (try first | exact ⟨rfl, _, World.drewN_drewN _ _ _⟩ | exact ⟨rfl, _, Eq.trans (World.drewN_drewN _ _ _) (congrArg (World.drewN _) (Nat.add_assoc _ _ _))⟩); have hcz22_0 : w16.cell? ⟨gb438, 0, none⟩ = some (.int .i64 0) := (bC BK438.out 0).trans rfl; have hcz22_1 : w16.cell? ⟨gb438, 1, none⟩ = some (.int .i64 0) := (bC BK438.out 1).trans rfl; have hfz22_0 := bZ BK438.out 0; have hfz22_1 := bZ BK438.out 1)))
  refine bodyPost_ret (results_cell_row rfl _ _ gb438 47 #[.int .i64 ji10, .int .i64 ji13] (0, 0) _ rfl (by (with_reducible repeat (first | apply bN | apply bD | apply bA)); refine bP (cs := #[.int .i64 ji10, .int .i64 0]) ?_ 1 _ rfl; (with_reducible repeat (first | apply bN | apply bD | apply bA)); refine bP (cs := #[.int .i64 0, .int .i64 0]) ?_ 0 _ rfl; (with_reducible repeat (first | apply bN | apply bD | apply bA)); exact BK438.out) Try.underlying47 rfl (by kernel_rfl)) rfl ?_
  exact ⟨by first | rfl | (simp [errW_none, errW_some] <;> rfl) | (simp only [← hji8, ← hji9, ← hji10, ← hji11, ← hji12, ← hji13]; first | rfl | (simp [errW_none, errW_some] <;> rfl)) | (simp [*, errW_none, errW_some] <;> rfl), by repeat (first | (with_reducible first | exact HB.out | apply cA | apply cN | apply cD | refine cS ?_ GE436.out | refine cS ?_ GE437.out | refine cS ?_ GE438.out) | exact HB.out)⟩

/-! ### span_corners_with57: function 900002 -/
def span_corners_with57.f (a0_0 : Int) (a0_1 : Int) (a1_0 : Int) (a1_1 : Int)  : Option (Int × Int) := (span_two_2.f a0_0 a1_0).bind fun t446 => ((span_two_2.f a0_0 a1_1).bind fun t447 => ((span_two_2.f a0_1 a1_0).bind fun t448 => ((span_two_2.f a0_1 a1_1).bind fun t449 => (some (mn (mn (mn t446 t447) t448) t449, mx (mx (mx t446 t447) t448) t449)))))
set_option maxHeartbeats 8000000 in
set_option maxRecDepth 100000 in
theorem span_corners_with57.calls (a0_0 : Int) (a0_1 : Int) (a1_0 : Int) (a1_1 : Int)  (r1 : Int) (r2 : Int) (w : World) (h : span_corners_with57.f a0_0 a0_1 a1_0 a1_1 = some (r1, r2)) :
    Calls Try.prog 54 #[.agg #[.int .i64 a0_0, .int .i64 a0_1], .agg #[.int .i64 a1_0, .int .i64 a1_1], .func (.func 57) #[] #[]] w fun e w' => e = .returned (.agg #[.int .i64 r1, .int .i64 r2]) ∧ Below w.heap.size w w' := by
  have hu47 := Try.underlying47
  have HB := Aside0.mk (Below.refl w.heap.size w)
  have H : ((span_two_2.f a0_0 a1_0).bind fun t446 => ((span_two_2.f a0_0 a1_1).bind fun t447 => ((span_two_2.f a0_1 a1_0).bind fun t448 => ((span_two_2.f a0_1 a1_1).bind fun t449 => (some (mn (mn (mn t446 t447) t448) t449, mx (mx (mx t446 t447) t448) t449)))))) = some (r1, r2) := h
  clear h
  replace H := Option.bind_eq_some_iff.mp H
  obtain ⟨t446, A40, H⟩ := H
  replace H : ((span_two_2.f a0_0 a1_1).bind fun t447 => ((span_two_2.f a0_1 a1_0).bind fun t448 => ((span_two_2.f a0_1 a1_1).bind fun t449 => (some (mn (mn (mn t446 t447) t448) t449, mx (mx (mx t446 t447) t448) t449))))) = some (r1, r2) := H
  have A4 := Aside0.mk A40
  clear A40
  replace H := Option.bind_eq_some_iff.mp H
  obtain ⟨t447, A50, H⟩ := H
  replace H : ((span_two_2.f a0_1 a1_0).bind fun t448 => ((span_two_2.f a0_1 a1_1).bind fun t449 => (some (mn (mn (mn t446 t447) t448) t449, mx (mx (mx t446 t447) t448) t449)))) = some (r1, r2) := H
  have A5 := Aside0.mk A50
  clear A50
  replace H := Option.bind_eq_some_iff.mp H
  obtain ⟨t448, A60, H⟩ := H
  replace H : ((span_two_2.f a0_1 a1_1).bind fun t449 => (some (mn (mn (mn t446 t447) t448) t449, mx (mx (mx t446 t447) t448) t449))) = some (r1, r2) := H
  have A6 := Aside0.mk A60
  clear A60
  replace H := Option.bind_eq_some_iff.mp H
  obtain ⟨t449, A70, H⟩ := H
  replace H : (some (mn (mn (mn t446 t447) t448) t449, mx (mx (mx t446 t447) t448) t449)) = some (r1, r2) := H
  have A7 := Aside0.mk A70
  clear A70
  obtain ⟨ji8, hji8⟩ : ∃ j_ : Int, (mn t446 t447) = j_ := ⟨_, rfl⟩
  replace H : (some (mn (mn (ji8) t448) t449, mx (mx (mx t446 t447) t448) t449)) = some (r1, r2) := by first | (rw [hji8] at H; exact H) | (simp only [hji8] at H ⊢; exact H)
  (try rw [hji8] at A4)
  (try rw [hji8] at A5)
  (try rw [hji8] at A6)
  (try rw [hji8] at A7)
  have hji8_ : (if t447 < t446 then t447 else t446) = ji8 := hji8
  obtain ⟨ji9, hji9⟩ : ∃ j_ : Int, (mn (ji8) t448) = j_ := ⟨_, rfl⟩
  replace H : (some (mn (ji9) t449, mx (mx (mx t446 t447) t448) t449)) = some (r1, r2) := by first | (rw [hji9] at H; exact H) | (simp only [hji9] at H ⊢; exact H)
  (try rw [hji9] at A4)
  (try rw [hji9] at A5)
  (try rw [hji9] at A6)
  (try rw [hji9] at A7)
  have hji9_ : (if t448 < (ji8) then t448 else (ji8)) = ji9 := hji9
  obtain ⟨ji10, hji10⟩ : ∃ j_ : Int, (mn (ji9) t449) = j_ := ⟨_, rfl⟩
  replace H : (some (ji10, mx (mx (mx t446 t447) t448) t449)) = some (r1, r2) := by first | (rw [hji10] at H; exact H) | (simp only [hji10] at H ⊢; exact H)
  (try rw [hji10] at A4)
  (try rw [hji10] at A5)
  (try rw [hji10] at A6)
  (try rw [hji10] at A7)
  have hji10_ : (if t449 < (ji9) then t449 else (ji9)) = ji10 := hji10
  obtain ⟨ji11, hji11⟩ : ∃ j_ : Int, (mx t446 t447) = j_ := ⟨_, rfl⟩
  replace H : (some (ji10, mx (mx (ji11) t448) t449)) = some (r1, r2) := by first | (rw [hji11] at H; exact H) | (simp only [hji11] at H ⊢; exact H)
  (try rw [hji11] at A4)
  (try rw [hji11] at A5)
  (try rw [hji11] at A6)
  (try rw [hji11] at A7)
  have hji11_ : (if t446 < t447 then t447 else t446) = ji11 := hji11
  obtain ⟨ji12, hji12⟩ : ∃ j_ : Int, (mx (ji11) t448) = j_ := ⟨_, rfl⟩
  replace H : (some (ji10, mx (ji12) t449)) = some (r1, r2) := by first | (rw [hji12] at H; exact H) | (simp only [hji12] at H ⊢; exact H)
  (try rw [hji12] at A4)
  (try rw [hji12] at A5)
  (try rw [hji12] at A6)
  (try rw [hji12] at A7)
  have hji12_ : (if (ji11) < t448 then t448 else (ji11)) = ji12 := hji12
  obtain ⟨ji13, hji13⟩ : ∃ j_ : Int, (mx (ji12) t449) = j_ := ⟨_, rfl⟩
  replace H : (some (ji10, ji13)) = some (r1, r2) := by first | (rw [hji13] at H; exact H) | (simp only [hji13] at H ⊢; exact H)
  (try rw [hji13] at A4)
  (try rw [hji13] at A5)
  (try rw [hji13] at A6)
  (try rw [hji13] at A7)
  have hji13_ : (if (ji12) < t449 then t449 else (ji12)) = ji13 := hji13
  simp only [Option.some.injEq, Prod.mk.injEq] at H
  obtain ⟨rfl, rfl⟩ := H
  go_enter Try.func54, Try.ntmps54
  go_wp2_with (first | ((with_reducible refine gate_dst (N := 3) rfl ?_); refine box_event ?hg (N := 3) ?hd (cs := #[.int .i64 a0_0, .int .i64 a0_1]) (t := 47) ?hr ?_; (case hd => rfl); (case hg => rfl); (case hr => first | (go_simp; done) | (go_simp; rfl)); intro gb443 hg w14 hbox hb; have n0_ := Aside0.mk (cT (by repeat (first | (with_reducible first | exact HB.out | apply cA | apply cN | apply cD) | exact HB.out)) hb); have n1_ := Aside0.mk (hbox); have n2_ := Aside0.mk ((by rw [hg]; exact (cZ (by repeat (first | (with_reducible first | exact HB.out | apply cA | apply cN | apply cD) | exact HB.out))) : w.heap.size ≤ gb443)); have n3_ := n2_; clear HB; have HB := n0_; have BK443 := n1_; have GW443 := n2_; have GE443 := n3_; clear n0_ n1_ n2_ n3_; clear hb hbox hg) | ((with_reducible refine gate_dst (N := 4) rfl ?_); refine box_event ?hg (N := 4) ?hd (cs := #[.int .i64 a1_0, .int .i64 a1_1]) (t := 47) ?hr ?_; (case hd => rfl); (case hg => rfl); (case hr => first | (go_simp; done) | (go_simp; rfl)); intro gb444 hg w15 hbox hb; have n0_ := Aside0.mk (bB (g := gb443) (o := .cells #[.int .i64 a0_0, .int .i64 a0_1] 47 (0, 0)) (by (with_reducible repeat (first | apply bN | apply bD | apply bA)); exact BK443.out) hb); have n1_ := Aside0.mk (cT (by repeat (first | (with_reducible first | exact HB.out | apply cA | apply cN | apply cD | refine cS ?_ GE443.out) | exact HB.out)) hb); have n2_ := Aside0.mk (hbox); have n3_ := Aside0.mk ((by rw [hg]; exact (cZ (by repeat (first | (with_reducible first | exact HB.out | apply cA | apply cN | apply cD | refine cS ?_ GE443.out) | exact HB.out))) : w.heap.size ≤ gb444)); have n4_ := n3_; have n5_ := Aside0.mk ((by rw [hg]; exact Nat.ne_of_lt (blk_lt (g := gb443) (o := .cells #[.int .i64 a0_0, .int .i64 a0_1] 47 (0, 0)) (by (with_reducible repeat (first | apply bN | apply bD | apply bA)); exact BK443.out)) : gb443 ≠ gb444)); have n6_ := Aside0.mk ((by rw [hg]; exact Nat.ne_of_gt (blk_lt (g := gb443) (o := .cells #[.int .i64 a0_0, .int .i64 a0_1] 47 (0, 0)) (by (with_reducible repeat (first | apply bN | apply bD | apply bA)); exact BK443.out)) : gb444 ≠ gb443)); clear BK443; clear HB; have BK443 := n0_; have HB := n1_; have BK444 := n2_; have GW444 := n3_; have GE444 := n4_; have NB443_444 := n5_; have NB444_443 := n6_; clear n0_ n1_ n2_ n3_ n4_ n5_ n6_; clear hb hbox hg) | ((with_reducible refine gate_dst (N := 6) rfl ?_); refine box_event ?hg (N := 6) ?hd (cs := #[.int .i64 0, .int .i64 0]) (t := 47) ?hr ?_; (case hd => rfl); (case hg => rfl); (case hr => first | (go_simp; done) | (go_simp; rfl)); intro gb445 hg w16 hbox hb; have n0_ := Aside0.mk (bB (g := gb443) (o := .cells #[.int .i64 a0_0, .int .i64 a0_1] 47 (0, 0)) (by (with_reducible repeat (first | apply bN | apply bD | apply bA)); exact BK443.out) hb); have n1_ := Aside0.mk (bB (g := gb444) (o := .cells #[.int .i64 a1_0, .int .i64 a1_1] 47 (0, 0)) (by (with_reducible repeat (first | apply bN | apply bD | apply bA)); exact BK444.out) hb); have n2_ := Aside0.mk (cT (by repeat (first | (with_reducible first | exact HB.out | apply cA | apply cN | apply cD | refine cS ?_ GE443.out | refine cS ?_ GE444.out) | exact HB.out)) hb); have n3_ := Aside0.mk (hbox); have n4_ := Aside0.mk ((by rw [hg]; exact (cZ (by repeat (first | (with_reducible first | exact HB.out | apply cA | apply cN | apply cD | refine cS ?_ GE443.out | refine cS ?_ GE444.out) | exact HB.out))) : w.heap.size ≤ gb445)); have n5_ := n4_; have n6_ := Aside0.mk ((by rw [hg]; exact Nat.ne_of_lt (blk_lt (g := gb443) (o := .cells #[.int .i64 a0_0, .int .i64 a0_1] 47 (0, 0)) (by (with_reducible repeat (first | apply bN | apply bD | apply bA)); exact BK443.out)) : gb443 ≠ gb445)); have n7_ := Aside0.mk ((by rw [hg]; exact Nat.ne_of_gt (blk_lt (g := gb443) (o := .cells #[.int .i64 a0_0, .int .i64 a0_1] 47 (0, 0)) (by (with_reducible repeat (first | apply bN | apply bD | apply bA)); exact BK443.out)) : gb445 ≠ gb443)); have n8_ := Aside0.mk ((by rw [hg]; exact Nat.ne_of_lt (blk_lt (g := gb444) (o := .cells #[.int .i64 a1_0, .int .i64 a1_1] 47 (0, 0)) (by (with_reducible repeat (first | apply bN | apply bD | apply bA)); exact BK444.out)) : gb444 ≠ gb445)); have n9_ := Aside0.mk ((by rw [hg]; exact Nat.ne_of_gt (blk_lt (g := gb444) (o := .cells #[.int .i64 a1_0, .int .i64 a1_1] 47 (0, 0)) (by (with_reducible repeat (first | apply bN | apply bD | apply bA)); exact BK444.out)) : gb445 ≠ gb444)); clear BK443; clear BK444; clear HB; have BK443 := n0_; have BK444 := n1_; have HB := n2_; have BK445 := n3_; have GW445 := n4_; have GE445 := n5_; have NB443_445 := n6_; have NB445_443 := n7_; have NB444_445 := n8_; have NB445_444 := n9_; clear n0_ n1_ n2_ n3_ n4_ n5_ n6_ n7_ n8_ n9_; clear hb hbox hg; have hnb17 := NB443_444.out; have hnc17 := NB444_443.out; have hnb18 := NB443_445.out; have hnc18 := NB445_443.out; have hcz19_0 : w16.cell? ⟨gb443, 0, none⟩ = some (.int .i64 a0_0) := (bC BK443.out 0).trans rfl; have hcz19_1 : w16.cell? ⟨gb443, 1, none⟩ = some (.int .i64 a0_1) := (bC BK443.out 1).trans rfl; have hfz19_0 := bZ BK443.out 0; have hfz19_1 := bZ BK443.out 1; have hnb20 := NB444_445.out; have hnc20 := NB445_444.out; have hcz21_0 : w16.cell? ⟨gb444, 0, none⟩ = some (.int .i64 a1_0) := (bC BK444.out 0).trans rfl; have hcz21_1 : w16.cell? ⟨gb444, 1, none⟩ = some (.int .i64 a1_1) := (bC BK444.out 1).trans rfl; have hfz21_0 := bZ BK444.out 0; have hfz21_1 := bZ BK444.out 1) | (go_at_call 57; (with_reducible refine (span_two_2.calls a0_0 a1_0 t446 _ A4.out).mono ?_); rintro e w' ⟨rfl, ⟨nd, rfl⟩⟩; (try first | exact ⟨rfl, _, World.drewN_drewN _ _ _⟩ | exact ⟨rfl, _, Eq.trans (World.drewN_drewN _ _ _) (congrArg (World.drewN _) (Nat.add_assoc _ _ _))⟩)) | (go_at_call 57; (with_reducible refine (span_two_2.calls a0_0 a1_1 t447 _ A5.out).mono ?_); rintro e w' ⟨rfl, ⟨nd, rfl⟩⟩; (try first | exact ⟨rfl, _, World.drewN_drewN _ _ _⟩ | exact ⟨rfl, _, Eq.trans (World.drewN_drewN _ _ _) (congrArg (World.drewN _) (Nat.add_assoc _ _ _))⟩)) | (go_at_call 57; (with_reducible refine (span_two_2.calls a0_1 a1_0 t448 _ A6.out).mono ?_); rintro e w' ⟨rfl, ⟨nd, rfl⟩⟩; (try first | exact ⟨rfl, _, World.drewN_drewN _ _ _⟩ | exact ⟨rfl, _, Eq.trans (World.drewN_drewN _ _ _) (congrArg (World.drewN _) (Nat.add_assoc _ _ _))⟩)) | (go_at_call 57; (with_reducible refine (span_two_2.calls a0_1 a1_1 t449 _ A7.out).mono ?_); rintro e w' ⟨rfl, ⟨nd, rfl⟩⟩; (try first | exact ⟨rfl, _, World.drewN_drewN _ _ _⟩ | exact ⟨rfl, _, Eq.trans (World.drewN_drewN _ _ _) (congrArg (World.drewN _) (Nat.add_assoc _ _ _))⟩); have hcz22_0 : w16.cell? ⟨gb445, 0, none⟩ = some (.int .i64 0) := (bC BK445.out 0).trans rfl; have hcz22_1 : w16.cell? ⟨gb445, 1, none⟩ = some (.int .i64 0) := (bC BK445.out 1).trans rfl; have hfz22_0 := bZ BK445.out 0; have hfz22_1 := bZ BK445.out 1))
  repeat (go_quiet (first | ((with_reducible refine gate_dst (N := 3) rfl ?_); refine box_event ?hg (N := 3) ?hd (cs := #[.int .i64 a0_0, .int .i64 a0_1]) (t := 47) ?hr ?_; (case hd => rfl); (case hg => rfl); (case hr => first | (go_simp; done) | (go_simp; rfl)); intro gb443 hg w14 hbox hb; have n0_ := Aside0.mk (cT (by repeat (first | (with_reducible first | exact HB.out | apply cA | apply cN | apply cD) | exact HB.out)) hb); have n1_ := Aside0.mk (hbox); have n2_ := Aside0.mk ((by rw [hg]; exact (cZ (by repeat (first | (with_reducible first | exact HB.out | apply cA | apply cN | apply cD) | exact HB.out))) : w.heap.size ≤ gb443)); have n3_ := n2_; clear HB; have HB := n0_; have BK443 := n1_; have GW443 := n2_; have GE443 := n3_; clear n0_ n1_ n2_ n3_; clear hb hbox hg) | ((with_reducible refine gate_dst (N := 4) rfl ?_); refine box_event ?hg (N := 4) ?hd (cs := #[.int .i64 a1_0, .int .i64 a1_1]) (t := 47) ?hr ?_; (case hd => rfl); (case hg => rfl); (case hr => first | (go_simp; done) | (go_simp; rfl)); intro gb444 hg w15 hbox hb; have n0_ := Aside0.mk (bB (g := gb443) (o := .cells #[.int .i64 a0_0, .int .i64 a0_1] 47 (0, 0)) (by (with_reducible repeat (first | apply bN | apply bD | apply bA)); exact BK443.out) hb); have n1_ := Aside0.mk (cT (by repeat (first | (with_reducible first | exact HB.out | apply cA | apply cN | apply cD | refine cS ?_ GE443.out) | exact HB.out)) hb); have n2_ := Aside0.mk (hbox); have n3_ := Aside0.mk ((by rw [hg]; exact (cZ (by repeat (first | (with_reducible first | exact HB.out | apply cA | apply cN | apply cD | refine cS ?_ GE443.out) | exact HB.out))) : w.heap.size ≤ gb444)); have n4_ := n3_; have n5_ := Aside0.mk ((by rw [hg]; exact Nat.ne_of_lt (blk_lt (g := gb443) (o := .cells #[.int .i64 a0_0, .int .i64 a0_1] 47 (0, 0)) (by (with_reducible repeat (first | apply bN | apply bD | apply bA)); exact BK443.out)) : gb443 ≠ gb444)); have n6_ := Aside0.mk ((by rw [hg]; exact Nat.ne_of_gt (blk_lt (g := gb443) (o := .cells #[.int .i64 a0_0, .int .i64 a0_1] 47 (0, 0)) (by (with_reducible repeat (first | apply bN | apply bD | apply bA)); exact BK443.out)) : gb444 ≠ gb443)); clear BK443; clear HB; have BK443 := n0_; have HB := n1_; have BK444 := n2_; have GW444 := n3_; have GE444 := n4_; have NB443_444 := n5_; have NB444_443 := n6_; clear n0_ n1_ n2_ n3_ n4_ n5_ n6_; clear hb hbox hg) | ((with_reducible refine gate_dst (N := 6) rfl ?_); refine box_event ?hg (N := 6) ?hd (cs := #[.int .i64 0, .int .i64 0]) (t := 47) ?hr ?_; (case hd => rfl); (case hg => rfl); (case hr => first | (go_simp; done) | (go_simp; rfl)); intro gb445 hg w16 hbox hb; have n0_ := Aside0.mk (bB (g := gb443) (o := .cells #[.int .i64 a0_0, .int .i64 a0_1] 47 (0, 0)) (by (with_reducible repeat (first | apply bN | apply bD | apply bA)); exact BK443.out) hb); have n1_ := Aside0.mk (bB (g := gb444) (o := .cells #[.int .i64 a1_0, .int .i64 a1_1] 47 (0, 0)) (by (with_reducible repeat (first | apply bN | apply bD | apply bA)); exact BK444.out) hb); have n2_ := Aside0.mk (cT (by repeat (first | (with_reducible first | exact HB.out | apply cA | apply cN | apply cD | refine cS ?_ GE443.out | refine cS ?_ GE444.out) | exact HB.out)) hb); have n3_ := Aside0.mk (hbox); have n4_ := Aside0.mk ((by rw [hg]; exact (cZ (by repeat (first | (with_reducible first | exact HB.out | apply cA | apply cN | apply cD | refine cS ?_ GE443.out | refine cS ?_ GE444.out) | exact HB.out))) : w.heap.size ≤ gb445)); have n5_ := n4_; have n6_ := Aside0.mk ((by rw [hg]; exact Nat.ne_of_lt (blk_lt (g := gb443) (o := .cells #[.int .i64 a0_0, .int .i64 a0_1] 47 (0, 0)) (by (with_reducible repeat (first | apply bN | apply bD | apply bA)); exact BK443.out)) : gb443 ≠ gb445)); have n7_ := Aside0.mk ((by rw [hg]; exact Nat.ne_of_gt (blk_lt (g := gb443) (o := .cells #[.int .i64 a0_0, .int .i64 a0_1] 47 (0, 0)) (by (with_reducible repeat (first | apply bN | apply bD | apply bA)); exact BK443.out)) : gb445 ≠ gb443)); have n8_ := Aside0.mk ((by rw [hg]; exact Nat.ne_of_lt (blk_lt (g := gb444) (o := .cells #[.int .i64 a1_0, .int .i64 a1_1] 47 (0, 0)) (by (with_reducible repeat (first | apply bN | apply bD | apply bA)); exact BK444.out)) : gb444 ≠ gb445)); have n9_ := Aside0.mk ((by rw [hg]; exact Nat.ne_of_gt (blk_lt (g := gb444) (o := .cells #[.int .i64 a1_0, .int .i64 a1_1] 47 (0, 0)) (by (with_reducible repeat (first | apply bN | apply bD | apply bA)); exact BK444.out)) : gb445 ≠ gb444)); clear BK443; clear BK444; clear HB; have BK443 := n0_; have BK444 := n1_; have HB := n2_; have BK445 := n3_; have GW445 := n4_; have GE445 := n5_; have NB443_445 := n6_; have NB445_443 := n7_; have NB444_445 := n8_; have NB445_444 := n9_; clear n0_ n1_ n2_ n3_ n4_ n5_ n6_ n7_ n8_ n9_; clear hb hbox hg; have hnb17 := NB443_444.out; have hnc17 := NB444_443.out; have hnb18 := NB443_445.out; have hnc18 := NB445_443.out; have hcz19_0 : w16.cell? ⟨gb443, 0, none⟩ = some (.int .i64 a0_0) := (bC BK443.out 0).trans rfl; have hcz19_1 : w16.cell? ⟨gb443, 1, none⟩ = some (.int .i64 a0_1) := (bC BK443.out 1).trans rfl; have hfz19_0 := bZ BK443.out 0; have hfz19_1 := bZ BK443.out 1; have hnb20 := NB444_445.out; have hnc20 := NB445_444.out; have hcz21_0 : w16.cell? ⟨gb444, 0, none⟩ = some (.int .i64 a1_0) := (bC BK444.out 0).trans rfl; have hcz21_1 : w16.cell? ⟨gb444, 1, none⟩ = some (.int .i64 a1_1) := (bC BK444.out 1).trans rfl; have hfz21_0 := bZ BK444.out 0; have hfz21_1 := bZ BK444.out 1) | (go_at_call 57; (with_reducible refine (span_two_2.calls a0_0 a1_0 t446 _ A4.out).mono ?_); rintro e w' ⟨rfl, ⟨nd, rfl⟩⟩; (try first | exact ⟨rfl, _, World.drewN_drewN _ _ _⟩ | exact ⟨rfl, _, Eq.trans (World.drewN_drewN _ _ _) (congrArg (World.drewN _) (Nat.add_assoc _ _ _))⟩)) | (go_at_call 57; (with_reducible refine (span_two_2.calls a0_0 a1_1 t447 _ A5.out).mono ?_); rintro e w' ⟨rfl, ⟨nd, rfl⟩⟩; (try first | exact ⟨rfl, _, World.drewN_drewN _ _ _⟩ | exact ⟨rfl, _, Eq.trans (World.drewN_drewN _ _ _) (congrArg (World.drewN _) (Nat.add_assoc _ _ _))⟩)) | (go_at_call 57; (with_reducible refine (span_two_2.calls a0_1 a1_0 t448 _ A6.out).mono ?_); rintro e w' ⟨rfl, ⟨nd, rfl⟩⟩; (try first | exact ⟨rfl, _, World.drewN_drewN _ _ _⟩ | exact ⟨rfl, _, Eq.trans (World.drewN_drewN _ _ _) (congrArg (World.drewN _) (Nat.add_assoc _ _ _))⟩)) | (go_at_call 57; (with_reducible refine (span_two_2.calls a0_1 a1_1 t449 _ A7.out).mono ?_); rintro e w' ⟨rfl, ⟨nd, rfl⟩⟩; (try first | exact ⟨rfl, _, World.drewN_drewN _ _ _⟩ | exact ⟨rfl, _, Eq.trans (World.drewN_drewN _ _ _) (congrArg (World.drewN _) (Nat.add_assoc _ _ _))⟩); have hcz22_0 : w16.cell? ⟨gb445, 0, none⟩ = some (.int .i64 0) := (bC BK445.out 0).trans rfl; have hcz22_1 : w16.cell? ⟨gb445, 1, none⟩ = some (.int .i64 0) := (bC BK445.out 1).trans rfl; have hfz22_0 := bZ BK445.out 0; have hfz22_1 := bZ BK445.out 1)); try go_wp2_with (first | ((with_reducible refine gate_dst (N := 3) rfl ?_); refine box_event ?hg (N := 3) ?hd (cs := #[.int .i64 a0_0, .int .i64 a0_1]) (t := 47) ?hr ?_; (case hd => rfl); (case hg => rfl); (case hr => first | (go_simp; done) | (go_simp; rfl)); intro gb443 hg w14 hbox hb; have n0_ := Aside0.mk (cT (by repeat (first | (with_reducible first | exact HB.out | apply cA | apply cN | apply cD) | exact HB.out)) hb); have n1_ := Aside0.mk (hbox); have n2_ := Aside0.mk ((by rw [hg]; exact (cZ (by repeat (first | (with_reducible first | exact HB.out | apply cA | apply cN | apply cD) | exact HB.out))) : w.heap.size ≤ gb443)); have n3_ := n2_; clear HB; have HB := n0_; have BK443 := n1_; have GW443 := n2_; have GE443 := n3_; clear n0_ n1_ n2_ n3_; clear hb hbox hg) | ((with_reducible refine gate_dst (N := 4) rfl ?_); refine box_event ?hg (N := 4) ?hd (cs := #[.int .i64 a1_0, .int .i64 a1_1]) (t := 47) ?hr ?_; (case hd => rfl); (case hg => rfl); (case hr => first | (go_simp; done) | (go_simp; rfl)); intro gb444 hg w15 hbox hb; have n0_ := Aside0.mk (bB (g := gb443) (o := .cells #[.int .i64 a0_0, .int .i64 a0_1] 47 (0, 0)) (by (with_reducible repeat (first | apply bN | apply bD | apply bA)); exact BK443.out) hb); have n1_ := Aside0.mk (cT (by repeat (first | (with_reducible first | exact HB.out | apply cA | apply cN | apply cD | refine cS ?_ GE443.out) | exact HB.out)) hb); have n2_ := Aside0.mk (hbox); have n3_ := Aside0.mk ((by rw [hg]; exact (cZ (by repeat (first | (with_reducible first | exact HB.out | apply cA | apply cN | apply cD | refine cS ?_ GE443.out) | exact HB.out))) : w.heap.size ≤ gb444)); have n4_ := n3_; have n5_ := Aside0.mk ((by rw [hg]; exact Nat.ne_of_lt (blk_lt (g := gb443) (o := .cells #[.int .i64 a0_0, .int .i64 a0_1] 47 (0, 0)) (by (with_reducible repeat (first | apply bN | apply bD | apply bA)); exact BK443.out)) : gb443 ≠ gb444)); have n6_ := Aside0.mk ((by rw [hg]; exact Nat.ne_of_gt (blk_lt (g := gb443) (o := .cells #[.int .i64 a0_0, .int .i64 a0_1] 47 (0, 0)) (by (with_reducible repeat (first | apply bN | apply bD | apply bA)); exact BK443.out)) : gb444 ≠ gb443)); clear BK443; clear HB; have BK443 := n0_; have HB := n1_; have BK444 := n2_; have GW444 := n3_; have GE444 := n4_; have NB443_444 := n5_; have NB444_443 := n6_; clear n0_ n1_ n2_ n3_ n4_ n5_ n6_; clear hb hbox hg) | ((with_reducible refine gate_dst (N := 6) rfl ?_); refine box_event ?hg (N := 6) ?hd (cs := #[.int .i64 0, .int .i64 0]) (t := 47) ?hr ?_; (case hd => rfl); (case hg => rfl); (case hr => first | (go_simp; done) | (go_simp; rfl)); intro gb445 hg w16 hbox hb; have n0_ := Aside0.mk (bB (g := gb443) (o := .cells #[.int .i64 a0_0, .int .i64 a0_1] 47 (0, 0)) (by (with_reducible repeat (first | apply bN | apply bD | apply bA)); exact BK443.out) hb); have n1_ := Aside0.mk (bB (g := gb444) (o := .cells #[.int .i64 a1_0, .int .i64 a1_1] 47 (0, 0)) (by (with_reducible repeat (first | apply bN | apply bD | apply bA)); exact BK444.out) hb); have n2_ := Aside0.mk (cT (by repeat (first | (with_reducible first | exact HB.out | apply cA | apply cN | apply cD | refine cS ?_ GE443.out | refine cS ?_ GE444.out) | exact HB.out)) hb); have n3_ := Aside0.mk (hbox); have n4_ := Aside0.mk ((by rw [hg]; exact (cZ (by repeat (first | (with_reducible first | exact HB.out | apply cA | apply cN | apply cD | refine cS ?_ GE443.out | refine cS ?_ GE444.out) | exact HB.out))) : w.heap.size ≤ gb445)); have n5_ := n4_; have n6_ := Aside0.mk ((by rw [hg]; exact Nat.ne_of_lt (blk_lt (g := gb443) (o := .cells #[.int .i64 a0_0, .int .i64 a0_1] 47 (0, 0)) (by (with_reducible repeat (first | apply bN | apply bD | apply bA)); exact BK443.out)) : gb443 ≠ gb445)); have n7_ := Aside0.mk ((by rw [hg]; exact Nat.ne_of_gt (blk_lt (g := gb443) (o := .cells #[.int .i64 a0_0, .int .i64 a0_1] 47 (0, 0)) (by (with_reducible repeat (first | apply bN | apply bD | apply bA)); exact BK443.out)) : gb445 ≠ gb443)); have n8_ := Aside0.mk ((by rw [hg]; exact Nat.ne_of_lt (blk_lt (g := gb444) (o := .cells #[.int .i64 a1_0, .int .i64 a1_1] 47 (0, 0)) (by (with_reducible repeat (first | apply bN | apply bD | apply bA)); exact BK444.out)) : gb444 ≠ gb445)); have n9_ := Aside0.mk ((by rw [hg]; exact Nat.ne_of_gt (blk_lt (g := gb444) (o := .cells #[.int .i64 a1_0, .int .i64 a1_1] 47 (0, 0)) (by (with_reducible repeat (first | apply bN | apply bD | apply bA)); exact BK444.out)) : gb445 ≠ gb444)); clear BK443; clear BK444; clear HB; have BK443 := n0_; have BK444 := n1_; have HB := n2_; have BK445 := n3_; have GW445 := n4_; have GE445 := n5_; have NB443_445 := n6_; have NB445_443 := n7_; have NB444_445 := n8_; have NB445_444 := n9_; clear n0_ n1_ n2_ n3_ n4_ n5_ n6_ n7_ n8_ n9_; clear hb hbox hg; have hnb17 := NB443_444.out; have hnc17 := NB444_443.out; have hnb18 := NB443_445.out; have hnc18 := NB445_443.out; have hcz19_0 : w16.cell? ⟨gb443, 0, none⟩ = some (.int .i64 a0_0) := (bC BK443.out 0).trans rfl; have hcz19_1 : w16.cell? ⟨gb443, 1, none⟩ = some (.int .i64 a0_1) := (bC BK443.out 1).trans rfl; have hfz19_0 := bZ BK443.out 0; have hfz19_1 := bZ BK443.out 1; have hnb20 := NB444_445.out; have hnc20 := NB445_444.out; have hcz21_0 : w16.cell? ⟨gb444, 0, none⟩ = some (.int .i64 a1_0) := (bC BK444.out 0).trans rfl; have hcz21_1 : w16.cell? ⟨gb444, 1, none⟩ = some (.int .i64 a1_1) := (bC BK444.out 1).trans rfl; have hfz21_0 := bZ BK444.out 0; have hfz21_1 := bZ BK444.out 1) | (go_at_call 57; (with_reducible refine (span_two_2.calls a0_0 a1_0 t446 _ A4.out).mono ?_); rintro e w' ⟨rfl, ⟨nd, rfl⟩⟩; (try first | exact ⟨rfl, _, World.drewN_drewN _ _ _⟩ | exact ⟨rfl, _, Eq.trans (World.drewN_drewN _ _ _) (congrArg (World.drewN _) (Nat.add_assoc _ _ _))⟩)) | (go_at_call 57; (with_reducible refine (span_two_2.calls a0_0 a1_1 t447 _ A5.out).mono ?_); rintro e w' ⟨rfl, ⟨nd, rfl⟩⟩; (try first | exact ⟨rfl, _, World.drewN_drewN _ _ _⟩ | exact ⟨rfl, _, Eq.trans (World.drewN_drewN _ _ _) (congrArg (World.drewN _) (Nat.add_assoc _ _ _))⟩)) | (go_at_call 57; (with_reducible refine (span_two_2.calls a0_1 a1_0 t448 _ A6.out).mono ?_); rintro e w' ⟨rfl, ⟨nd, rfl⟩⟩; (try first | exact ⟨rfl, _, World.drewN_drewN _ _ _⟩ | exact ⟨rfl, _, Eq.trans (World.drewN_drewN _ _ _) (congrArg (World.drewN _) (Nat.add_assoc _ _ _))⟩)) | (go_at_call 57; (with_reducible refine (span_two_2.calls a0_1 a1_1 t449 _ A7.out).mono ?_); rintro e w' ⟨rfl, ⟨nd, rfl⟩⟩; (try first | exact ⟨rfl, _, World.drewN_drewN _ _ _⟩ | exact ⟨rfl, _, Eq.trans (World.drewN_drewN _ _ _) (congrArg (World.drewN _) (Nat.add_assoc _ _ _))⟩); have hcz22_0 : w16.cell? ⟨gb445, 0, none⟩ = some (.int .i64 0) := (bC BK445.out 0).trans rfl; have hcz22_1 : w16.cell? ⟨gb445, 1, none⟩ = some (.int .i64 0) := (bC BK445.out 1).trans rfl; have hfz22_0 := bZ BK445.out 0; have hfz22_1 := bZ BK445.out 1)))
  refine bodyPost_ret (results_cell_row rfl _ _ gb445 47 #[.int .i64 ji10, .int .i64 ji13] (0, 0) _ rfl (by (with_reducible repeat (first | apply bN | apply bD | apply bA)); refine bP (cs := #[.int .i64 ji10, .int .i64 0]) ?_ 1 _ rfl; (with_reducible repeat (first | apply bN | apply bD | apply bA)); refine bP (cs := #[.int .i64 0, .int .i64 0]) ?_ 0 _ rfl; (with_reducible repeat (first | apply bN | apply bD | apply bA)); exact BK445.out) Try.underlying47 rfl (by kernel_rfl)) rfl ?_
  exact ⟨by first | rfl | (simp [errW_none, errW_some] <;> rfl) | (simp only [← hji8, ← hji9, ← hji10, ← hji11, ← hji12, ← hji13]; first | rfl | (simp [errW_none, errW_some] <;> rfl)) | (simp [*, errW_none, errW_some] <;> rfl), by repeat (first | (with_reducible first | exact HB.out | apply cA | apply cN | apply cD | refine cS ?_ GE443.out | refine cS ?_ GE444.out | refine cS ?_ GE445.out) | exact HB.out)⟩

/-! ### span_corners_with58: function 900003 -/
def span_corners_with58.f (a0_0 : Int) (a0_1 : Int) (a1_0 : Int) (a1_1 : Int)  : Option (Int × Int) := (span_two_3.f a0_0 a1_0).bind fun t453 => ((span_two_3.f a0_0 a1_1).bind fun t454 => ((span_two_3.f a0_1 a1_0).bind fun t455 => ((span_two_3.f a0_1 a1_1).bind fun t456 => (some (mn (mn (mn t453 t454) t455) t456, mx (mx (mx t453 t454) t455) t456)))))
set_option maxHeartbeats 8000000 in
set_option maxRecDepth 100000 in
theorem span_corners_with58.calls (a0_0 : Int) (a0_1 : Int) (a1_0 : Int) (a1_1 : Int)  (r1 : Int) (r2 : Int) (w : World) (h : span_corners_with58.f a0_0 a0_1 a1_0 a1_1 = some (r1, r2)) :
    Calls Try.prog 54 #[.agg #[.int .i64 a0_0, .int .i64 a0_1], .agg #[.int .i64 a1_0, .int .i64 a1_1], .func (.func 58) #[] #[]] w fun e w' => e = .returned (.agg #[.int .i64 r1, .int .i64 r2]) ∧ Below w.heap.size w w' := by
  have hu47 := Try.underlying47
  have HB := Aside0.mk (Below.refl w.heap.size w)
  have H : ((span_two_3.f a0_0 a1_0).bind fun t453 => ((span_two_3.f a0_0 a1_1).bind fun t454 => ((span_two_3.f a0_1 a1_0).bind fun t455 => ((span_two_3.f a0_1 a1_1).bind fun t456 => (some (mn (mn (mn t453 t454) t455) t456, mx (mx (mx t453 t454) t455) t456)))))) = some (r1, r2) := h
  clear h
  replace H := Option.bind_eq_some_iff.mp H
  obtain ⟨t453, A40, H⟩ := H
  replace H : ((span_two_3.f a0_0 a1_1).bind fun t454 => ((span_two_3.f a0_1 a1_0).bind fun t455 => ((span_two_3.f a0_1 a1_1).bind fun t456 => (some (mn (mn (mn t453 t454) t455) t456, mx (mx (mx t453 t454) t455) t456))))) = some (r1, r2) := H
  have A4 := Aside0.mk A40
  clear A40
  replace H := Option.bind_eq_some_iff.mp H
  obtain ⟨t454, A50, H⟩ := H
  replace H : ((span_two_3.f a0_1 a1_0).bind fun t455 => ((span_two_3.f a0_1 a1_1).bind fun t456 => (some (mn (mn (mn t453 t454) t455) t456, mx (mx (mx t453 t454) t455) t456)))) = some (r1, r2) := H
  have A5 := Aside0.mk A50
  clear A50
  replace H := Option.bind_eq_some_iff.mp H
  obtain ⟨t455, A60, H⟩ := H
  replace H : ((span_two_3.f a0_1 a1_1).bind fun t456 => (some (mn (mn (mn t453 t454) t455) t456, mx (mx (mx t453 t454) t455) t456))) = some (r1, r2) := H
  have A6 := Aside0.mk A60
  clear A60
  replace H := Option.bind_eq_some_iff.mp H
  obtain ⟨t456, A70, H⟩ := H
  replace H : (some (mn (mn (mn t453 t454) t455) t456, mx (mx (mx t453 t454) t455) t456)) = some (r1, r2) := H
  have A7 := Aside0.mk A70
  clear A70
  obtain ⟨ji8, hji8⟩ : ∃ j_ : Int, (mn t453 t454) = j_ := ⟨_, rfl⟩
  replace H : (some (mn (mn (ji8) t455) t456, mx (mx (mx t453 t454) t455) t456)) = some (r1, r2) := by first | (rw [hji8] at H; exact H) | (simp only [hji8] at H ⊢; exact H)
  (try rw [hji8] at A4)
  (try rw [hji8] at A5)
  (try rw [hji8] at A6)
  (try rw [hji8] at A7)
  have hji8_ : (if t454 < t453 then t454 else t453) = ji8 := hji8
  obtain ⟨ji9, hji9⟩ : ∃ j_ : Int, (mn (ji8) t455) = j_ := ⟨_, rfl⟩
  replace H : (some (mn (ji9) t456, mx (mx (mx t453 t454) t455) t456)) = some (r1, r2) := by first | (rw [hji9] at H; exact H) | (simp only [hji9] at H ⊢; exact H)
  (try rw [hji9] at A4)
  (try rw [hji9] at A5)
  (try rw [hji9] at A6)
  (try rw [hji9] at A7)
  have hji9_ : (if t455 < (ji8) then t455 else (ji8)) = ji9 := hji9
  obtain ⟨ji10, hji10⟩ : ∃ j_ : Int, (mn (ji9) t456) = j_ := ⟨_, rfl⟩
  replace H : (some (ji10, mx (mx (mx t453 t454) t455) t456)) = some (r1, r2) := by first | (rw [hji10] at H; exact H) | (simp only [hji10] at H ⊢; exact H)
  (try rw [hji10] at A4)
  (try rw [hji10] at A5)
  (try rw [hji10] at A6)
  (try rw [hji10] at A7)
  have hji10_ : (if t456 < (ji9) then t456 else (ji9)) = ji10 := hji10
  obtain ⟨ji11, hji11⟩ : ∃ j_ : Int, (mx t453 t454) = j_ := ⟨_, rfl⟩
  replace H : (some (ji10, mx (mx (ji11) t455) t456)) = some (r1, r2) := by first | (rw [hji11] at H; exact H) | (simp only [hji11] at H ⊢; exact H)
  (try rw [hji11] at A4)
  (try rw [hji11] at A5)
  (try rw [hji11] at A6)
  (try rw [hji11] at A7)
  have hji11_ : (if t453 < t454 then t454 else t453) = ji11 := hji11
  obtain ⟨ji12, hji12⟩ : ∃ j_ : Int, (mx (ji11) t455) = j_ := ⟨_, rfl⟩
  replace H : (some (ji10, mx (ji12) t456)) = some (r1, r2) := by first | (rw [hji12] at H; exact H) | (simp only [hji12] at H ⊢; exact H)
  (try rw [hji12] at A4)
  (try rw [hji12] at A5)
  (try rw [hji12] at A6)
  (try rw [hji12] at A7)
  have hji12_ : (if (ji11) < t455 then t455 else (ji11)) = ji12 := hji12
  obtain ⟨ji13, hji13⟩ : ∃ j_ : Int, (mx (ji12) t456) = j_ := ⟨_, rfl⟩
  replace H : (some (ji10, ji13)) = some (r1, r2) := by first | (rw [hji13] at H; exact H) | (simp only [hji13] at H ⊢; exact H)
  (try rw [hji13] at A4)
  (try rw [hji13] at A5)
  (try rw [hji13] at A6)
  (try rw [hji13] at A7)
  have hji13_ : (if (ji12) < t456 then t456 else (ji12)) = ji13 := hji13
  simp only [Option.some.injEq, Prod.mk.injEq] at H
  obtain ⟨rfl, rfl⟩ := H
  go_enter Try.func54, Try.ntmps54
  go_wp2_with (first | ((with_reducible refine gate_dst (N := 3) rfl ?_); refine box_event ?hg (N := 3) ?hd (cs := #[.int .i64 a0_0, .int .i64 a0_1]) (t := 47) ?hr ?_; (case hd => rfl); (case hg => rfl); (case hr => first | (go_simp; done) | (go_simp; rfl)); intro gb450 hg w14 hbox hb; have n0_ := Aside0.mk (cT (by repeat (first | (with_reducible first | exact HB.out | apply cA | apply cN | apply cD) | exact HB.out)) hb); have n1_ := Aside0.mk (hbox); have n2_ := Aside0.mk ((by rw [hg]; exact (cZ (by repeat (first | (with_reducible first | exact HB.out | apply cA | apply cN | apply cD) | exact HB.out))) : w.heap.size ≤ gb450)); have n3_ := n2_; clear HB; have HB := n0_; have BK450 := n1_; have GW450 := n2_; have GE450 := n3_; clear n0_ n1_ n2_ n3_; clear hb hbox hg) | ((with_reducible refine gate_dst (N := 4) rfl ?_); refine box_event ?hg (N := 4) ?hd (cs := #[.int .i64 a1_0, .int .i64 a1_1]) (t := 47) ?hr ?_; (case hd => rfl); (case hg => rfl); (case hr => first | (go_simp; done) | (go_simp; rfl)); intro gb451 hg w15 hbox hb; have n0_ := Aside0.mk (bB (g := gb450) (o := .cells #[.int .i64 a0_0, .int .i64 a0_1] 47 (0, 0)) (by (with_reducible repeat (first | apply bN | apply bD | apply bA)); exact BK450.out) hb); have n1_ := Aside0.mk (cT (by repeat (first | (with_reducible first | exact HB.out | apply cA | apply cN | apply cD | refine cS ?_ GE450.out) | exact HB.out)) hb); have n2_ := Aside0.mk (hbox); have n3_ := Aside0.mk ((by rw [hg]; exact (cZ (by repeat (first | (with_reducible first | exact HB.out | apply cA | apply cN | apply cD | refine cS ?_ GE450.out) | exact HB.out))) : w.heap.size ≤ gb451)); have n4_ := n3_; have n5_ := Aside0.mk ((by rw [hg]; exact Nat.ne_of_lt (blk_lt (g := gb450) (o := .cells #[.int .i64 a0_0, .int .i64 a0_1] 47 (0, 0)) (by (with_reducible repeat (first | apply bN | apply bD | apply bA)); exact BK450.out)) : gb450 ≠ gb451)); have n6_ := Aside0.mk ((by rw [hg]; exact Nat.ne_of_gt (blk_lt (g := gb450) (o := .cells #[.int .i64 a0_0, .int .i64 a0_1] 47 (0, 0)) (by (with_reducible repeat (first | apply bN | apply bD | apply bA)); exact BK450.out)) : gb451 ≠ gb450)); clear BK450; clear HB; have BK450 := n0_; have HB := n1_; have BK451 := n2_; have GW451 := n3_; have GE451 := n4_; have NB450_451 := n5_; have NB451_450 := n6_; clear n0_ n1_ n2_ n3_ n4_ n5_ n6_; clear hb hbox hg) | ((with_reducible refine gate_dst (N := 6) rfl ?_); refine box_event ?hg (N := 6) ?hd (cs := #[.int .i64 0, .int .i64 0]) (t := 47) ?hr ?_; (case hd => rfl); (case hg => rfl); (case hr => first | (go_simp; done) | (go_simp; rfl)); intro gb452 hg w16 hbox hb; have n0_ := Aside0.mk (bB (g := gb450) (o := .cells #[.int .i64 a0_0, .int .i64 a0_1] 47 (0, 0)) (by (with_reducible repeat (first | apply bN | apply bD | apply bA)); exact BK450.out) hb); have n1_ := Aside0.mk (bB (g := gb451) (o := .cells #[.int .i64 a1_0, .int .i64 a1_1] 47 (0, 0)) (by (with_reducible repeat (first | apply bN | apply bD | apply bA)); exact BK451.out) hb); have n2_ := Aside0.mk (cT (by repeat (first | (with_reducible first | exact HB.out | apply cA | apply cN | apply cD | refine cS ?_ GE450.out | refine cS ?_ GE451.out) | exact HB.out)) hb); have n3_ := Aside0.mk (hbox); have n4_ := Aside0.mk ((by rw [hg]; exact (cZ (by repeat (first | (with_reducible first | exact HB.out | apply cA | apply cN | apply cD | refine cS ?_ GE450.out | refine cS ?_ GE451.out) | exact HB.out))) : w.heap.size ≤ gb452)); have n5_ := n4_; have n6_ := Aside0.mk ((by rw [hg]; exact Nat.ne_of_lt (blk_lt (g := gb450) (o := .cells #[.int .i64 a0_0, .int .i64 a0_1] 47 (0, 0)) (by (with_reducible repeat (first | apply bN | apply bD | apply bA)); exact BK450.out)) : gb450 ≠ gb452)); have n7_ := Aside0.mk ((by rw [hg]; exact Nat.ne_of_gt (blk_lt (g := gb450) (o := .cells #[.int .i64 a0_0, .int .i64 a0_1] 47 (0, 0)) (by (with_reducible repeat (first | apply bN | apply bD | apply bA)); exact BK450.out)) : gb452 ≠ gb450)); have n8_ := Aside0.mk ((by rw [hg]; exact Nat.ne_of_lt (blk_lt (g := gb451) (o := .cells #[.int .i64 a1_0, .int .i64 a1_1] 47 (0, 0)) (by (with_reducible repeat (first | apply bN | apply bD | apply bA)); exact BK451.out)) : gb451 ≠ gb452)); have n9_ := Aside0.mk ((by rw [hg]; exact Nat.ne_of_gt (blk_lt (g := gb451) (o := .cells #[.int .i64 a1_0, .int .i64 a1_1] 47 (0, 0)) (by (with_reducible repeat (first | apply bN | apply bD | apply bA)); exact BK451.out)) : gb452 ≠ gb451)); clear BK450; clear BK451; clear HB; have BK450 := n0_; have BK451 := n1_; have HB := n2_; have BK452 := n3_; have GW452 := n4_; have GE452 := n5_; have NB450_452 := n6_; have NB452_450 := n7_; have NB451_452 := n8_; have NB452_451 := n9_; clear n0_ n1_ n2_ n3_ n4_ n5_ n6_ n7_ n8_ n9_; clear hb hbox hg; have hnb17 := NB450_451.out; have hnc17 := NB451_450.out; have hnb18 := NB450_452.out; have hnc18 := NB452_450.out; have hcz19_0 : w16.cell? ⟨gb450, 0, none⟩ = some (.int .i64 a0_0) := (bC BK450.out 0).trans rfl; have hcz19_1 : w16.cell? ⟨gb450, 1, none⟩ = some (.int .i64 a0_1) := (bC BK450.out 1).trans rfl; have hfz19_0 := bZ BK450.out 0; have hfz19_1 := bZ BK450.out 1; have hnb20 := NB451_452.out; have hnc20 := NB452_451.out; have hcz21_0 : w16.cell? ⟨gb451, 0, none⟩ = some (.int .i64 a1_0) := (bC BK451.out 0).trans rfl; have hcz21_1 : w16.cell? ⟨gb451, 1, none⟩ = some (.int .i64 a1_1) := (bC BK451.out 1).trans rfl; have hfz21_0 := bZ BK451.out 0; have hfz21_1 := bZ BK451.out 1) | (go_at_call 58; (with_reducible refine (span_two_3.calls a0_0 a1_0 t453 _ A4.out).mono ?_); rintro e w' ⟨rfl, ⟨nd, rfl⟩⟩; (try first | exact ⟨rfl, _, World.drewN_drewN _ _ _⟩ | exact ⟨rfl, _, Eq.trans (World.drewN_drewN _ _ _) (congrArg (World.drewN _) (Nat.add_assoc _ _ _))⟩)) | (go_at_call 58; (with_reducible refine (span_two_3.calls a0_0 a1_1 t454 _ A5.out).mono ?_); rintro e w' ⟨rfl, ⟨nd, rfl⟩⟩; (try first | exact ⟨rfl, _, World.drewN_drewN _ _ _⟩ | exact ⟨rfl, _, Eq.trans (World.drewN_drewN _ _ _) (congrArg (World.drewN _) (Nat.add_assoc _ _ _))⟩)) | (go_at_call 58; (with_reducible refine (span_two_3.calls a0_1 a1_0 t455 _ A6.out).mono ?_); rintro e w' ⟨rfl, ⟨nd, rfl⟩⟩; (try first | exact ⟨rfl, _, World.drewN_drewN _ _ _⟩ | exact ⟨rfl, _, Eq.trans (World.drewN_drewN _ _ _) (congrArg (World.drewN _) (Nat.add_assoc _ _ _))⟩)) | (go_at_call 58; (with_reducible refine (span_two_3.calls a0_1 a1_1 t456 _ A7.out).mono ?_); rintro e w' ⟨rfl, ⟨nd, rfl⟩⟩; (try first | exact ⟨rfl, _, World.drewN_drewN _ _ _⟩ | exact ⟨rfl, _, Eq.trans (World.drewN_drewN _ _ _) (congrArg (World.drewN _) (Nat.add_assoc _ _ _))⟩); have hcz22_0 : w16.cell? ⟨gb452, 0, none⟩ = some (.int .i64 0) := (bC BK452.out 0).trans rfl; have hcz22_1 : w16.cell? ⟨gb452, 1, none⟩ = some (.int .i64 0) := (bC BK452.out 1).trans rfl; have hfz22_0 := bZ BK452.out 0; have hfz22_1 := bZ BK452.out 1))
  repeat (go_quiet (first | ((with_reducible refine gate_dst (N := 3) rfl ?_); refine box_event ?hg (N := 3) ?hd (cs := #[.int .i64 a0_0, .int .i64 a0_1]) (t := 47) ?hr ?_; (case hd => rfl); (case hg => rfl); (case hr => first | (go_simp; done) | (go_simp; rfl)); intro gb450 hg w14 hbox hb; have n0_ := Aside0.mk (cT (by repeat (first | (with_reducible first | exact HB.out | apply cA | apply cN | apply cD) | exact HB.out)) hb); have n1_ := Aside0.mk (hbox); have n2_ := Aside0.mk ((by rw [hg]; exact (cZ (by repeat (first | (with_reducible first | exact HB.out | apply cA | apply cN | apply cD) | exact HB.out))) : w.heap.size ≤ gb450)); have n3_ := n2_; clear HB; have HB := n0_; have BK450 := n1_; have GW450 := n2_; have GE450 := n3_; clear n0_ n1_ n2_ n3_; clear hb hbox hg) | ((with_reducible refine gate_dst (N := 4) rfl ?_); refine box_event ?hg (N := 4) ?hd (cs := #[.int .i64 a1_0, .int .i64 a1_1]) (t := 47) ?hr ?_; (case hd => rfl); (case hg => rfl); (case hr => first | (go_simp; done) | (go_simp; rfl)); intro gb451 hg w15 hbox hb; have n0_ := Aside0.mk (bB (g := gb450) (o := .cells #[.int .i64 a0_0, .int .i64 a0_1] 47 (0, 0)) (by (with_reducible repeat (first | apply bN | apply bD | apply bA)); exact BK450.out) hb); have n1_ := Aside0.mk (cT (by repeat (first | (with_reducible first | exact HB.out | apply cA | apply cN | apply cD | refine cS ?_ GE450.out) | exact HB.out)) hb); have n2_ := Aside0.mk (hbox); have n3_ := Aside0.mk ((by rw [hg]; exact (cZ (by repeat (first | (with_reducible first | exact HB.out | apply cA | apply cN | apply cD | refine cS ?_ GE450.out) | exact HB.out))) : w.heap.size ≤ gb451)); have n4_ := n3_; have n5_ := Aside0.mk ((by rw [hg]; exact Nat.ne_of_lt (blk_lt (g := gb450) (o := .cells #[.int .i64 a0_0, .int .i64 a0_1] 47 (0, 0)) (by (with_reducible repeat (first | apply bN | apply bD | apply bA)); exact BK450.out)) : gb450 ≠ gb451)); have n6_ := Aside0.mk ((by rw [hg]; exact Nat.ne_of_gt (blk_lt (g := gb450) (o := .cells #[.int .i64 a0_0, .int .i64 a0_1] 47 (0, 0)) (by (with_reducible repeat (first | apply bN | apply bD | apply bA)); exact BK450.out)) : gb451 ≠ gb450)); clear BK450; clear HB; have BK450 := n0_; have HB := n1_; have BK451 := n2_; have GW451 := n3_; have GE451 := n4_; have NB450_451 := n5_; have NB451_450 := n6_; clear n0_ n1_ n2_ n3_ n4_ n5_ n6_; clear hb hbox hg) | ((with_reducible refine gate_dst (N := 6) rfl ?_); refine box_event ?hg (N := 6) ?hd (cs := #[.int .i64 0, .int .i64 0]) (t := 47) ?hr ?_; (case hd => rfl); (case hg => rfl); (case hr => first | (go_simp; done) | (go_simp; rfl)); intro gb452 hg w16 hbox hb; have n0_ := Aside0.mk (bB (g := gb450) (o := .cells #[.int .i64 a0_0, .int .i64 a0_1] 47 (0, 0)) (by (with_reducible repeat (first | apply bN | apply bD | apply bA)); exact BK450.out) hb); have n1_ := Aside0.mk (bB (g := gb451) (o := .cells #[.int .i64 a1_0, .int .i64 a1_1] 47 (0, 0)) (by (with_reducible repeat (first | apply bN | apply bD | apply bA)); exact BK451.out) hb); have n2_ := Aside0.mk (cT (by repeat (first | (with_reducible first | exact HB.out | apply cA | apply cN | apply cD | refine cS ?_ GE450.out | refine cS ?_ GE451.out) | exact HB.out)) hb); have n3_ := Aside0.mk (hbox); have n4_ := Aside0.mk ((by rw [hg]; exact (cZ (by repeat (first | (with_reducible first | exact HB.out | apply cA | apply cN | apply cD | refine cS ?_ GE450.out | refine cS ?_ GE451.out) | exact HB.out))) : w.heap.size ≤ gb452)); have n5_ := n4_; have n6_ := Aside0.mk ((by rw [hg]; exact Nat.ne_of_lt (blk_lt (g := gb450) (o := .cells #[.int .i64 a0_0, .int .i64 a0_1] 47 (0, 0)) (by (with_reducible repeat (first | apply bN | apply bD | apply bA)); exact BK450.out)) : gb450 ≠ gb452)); have n7_ := Aside0.mk ((by rw [hg]; exact Nat.ne_of_gt (blk_lt (g := gb450) (o := .cells #[.int .i64 a0_0, .int .i64 a0_1] 47 (0, 0)) (by (with_reducible repeat (first | apply bN | apply bD | apply bA)); exact BK450.out)) : gb452 ≠ gb450)); have n8_ := Aside0.mk ((by rw [hg]; exact Nat.ne_of_lt (blk_lt (g := gb451) (o := .cells #[.int .i64 a1_0, .int .i64 a1_1] 47 (0, 0)) (by (with_reducible repeat (first | apply bN | apply bD | apply bA)); exact BK451.out)) : gb451 ≠ gb452)); have n9_ := Aside0.mk ((by rw [hg]; exact Nat.ne_of_gt (blk_lt (g := gb451) (o := .cells #[.int .i64 a1_0, .int .i64 a1_1] 47 (0, 0)) (by (with_reducible repeat (first | apply bN | apply bD | apply bA)); exact BK451.out)) : gb452 ≠ gb451)); clear BK450; clear BK451; clear HB; have BK450 := n0_; have BK451 := n1_; have HB := n2_; have BK452 := n3_; have GW452 := n4_; have GE452 := n5_; have NB450_452 := n6_; have NB452_450 := n7_; have NB451_452 := n8_; have NB452_451 := n9_; clear n0_ n1_ n2_ n3_ n4_ n5_ n6_ n7_ n8_ n9_; clear hb hbox hg; have hnb17 := NB450_451.out; have hnc17 := NB451_450.out; have hnb18 := NB450_452.out; have hnc18 := NB452_450.out; have hcz19_0 : w16.cell? ⟨gb450, 0, none⟩ = some (.int .i64 a0_0) := (bC BK450.out 0).trans rfl; have hcz19_1 : w16.cell? ⟨gb450, 1, none⟩ = some (.int .i64 a0_1) := (bC BK450.out 1).trans rfl; have hfz19_0 := bZ BK450.out 0; have hfz19_1 := bZ BK450.out 1; have hnb20 := NB451_452.out; have hnc20 := NB452_451.out; have hcz21_0 : w16.cell? ⟨gb451, 0, none⟩ = some (.int .i64 a1_0) := (bC BK451.out 0).trans rfl; have hcz21_1 : w16.cell? ⟨gb451, 1, none⟩ = some (.int .i64 a1_1) := (bC BK451.out 1).trans rfl; have hfz21_0 := bZ BK451.out 0; have hfz21_1 := bZ BK451.out 1) | (go_at_call 58; (with_reducible refine (span_two_3.calls a0_0 a1_0 t453 _ A4.out).mono ?_); rintro e w' ⟨rfl, ⟨nd, rfl⟩⟩; (try first | exact ⟨rfl, _, World.drewN_drewN _ _ _⟩ | exact ⟨rfl, _, Eq.trans (World.drewN_drewN _ _ _) (congrArg (World.drewN _) (Nat.add_assoc _ _ _))⟩)) | (go_at_call 58; (with_reducible refine (span_two_3.calls a0_0 a1_1 t454 _ A5.out).mono ?_); rintro e w' ⟨rfl, ⟨nd, rfl⟩⟩; (try first | exact ⟨rfl, _, World.drewN_drewN _ _ _⟩ | exact ⟨rfl, _, Eq.trans (World.drewN_drewN _ _ _) (congrArg (World.drewN _) (Nat.add_assoc _ _ _))⟩)) | (go_at_call 58; (with_reducible refine (span_two_3.calls a0_1 a1_0 t455 _ A6.out).mono ?_); rintro e w' ⟨rfl, ⟨nd, rfl⟩⟩; (try first | exact ⟨rfl, _, World.drewN_drewN _ _ _⟩ | exact ⟨rfl, _, Eq.trans (World.drewN_drewN _ _ _) (congrArg (World.drewN _) (Nat.add_assoc _ _ _))⟩)) | (go_at_call 58; (with_reducible refine (span_two_3.calls a0_1 a1_1 t456 _ A7.out).mono ?_); rintro e w' ⟨rfl, ⟨nd, rfl⟩⟩; (try first | exact ⟨rfl, _, World.drewN_drewN _ _ _⟩ | exact ⟨rfl, _, Eq.trans (World.drewN_drewN _ _ _) (congrArg (World.drewN _) (Nat.add_assoc _ _ _))⟩); have hcz22_0 : w16.cell? ⟨gb452, 0, none⟩ = some (.int .i64 0) := (bC BK452.out 0).trans rfl; have hcz22_1 : w16.cell? ⟨gb452, 1, none⟩ = some (.int .i64 0) := (bC BK452.out 1).trans rfl; have hfz22_0 := bZ BK452.out 0; have hfz22_1 := bZ BK452.out 1)); try go_wp2_with (first | ((with_reducible refine gate_dst (N := 3) rfl ?_); refine box_event ?hg (N := 3) ?hd (cs := #[.int .i64 a0_0, .int .i64 a0_1]) (t := 47) ?hr ?_; (case hd => rfl); (case hg => rfl); (case hr => first | (go_simp; done) | (go_simp; rfl)); intro gb450 hg w14 hbox hb; have n0_ := Aside0.mk (cT (by repeat (first | (with_reducible first | exact HB.out | apply cA | apply cN | apply cD) | exact HB.out)) hb); have n1_ := Aside0.mk (hbox); have n2_ := Aside0.mk ((by rw [hg]; exact (cZ (by repeat (first | (with_reducible first | exact HB.out | apply cA | apply cN | apply cD) | exact HB.out))) : w.heap.size ≤ gb450)); have n3_ := n2_; clear HB; have HB := n0_; have BK450 := n1_; have GW450 := n2_; have GE450 := n3_; clear n0_ n1_ n2_ n3_; clear hb hbox hg) | ((with_reducible refine gate_dst (N := 4) rfl ?_); refine box_event ?hg (N := 4) ?hd (cs := #[.int .i64 a1_0, .int .i64 a1_1]) (t := 47) ?hr ?_; (case hd => rfl); (case hg => rfl); (case hr => first | (go_simp; done) | (go_simp; rfl)); intro gb451 hg w15 hbox hb; have n0_ := Aside0.mk (bB (g := gb450) (o := .cells #[.int .i64 a0_0, .int .i64 a0_1] 47 (0, 0)) (by (with_reducible repeat (first | apply bN | apply bD | apply bA)); exact BK450.out) hb); have n1_ := Aside0.mk (cT (by repeat (first | (with_reducible first | exact HB.out | apply cA | apply cN | apply cD | refine cS ?_ GE450.out) | exact HB.out)) hb); have n2_ := Aside0.mk (hbox); have n3_ := Aside0.mk ((by rw [hg]; exact (cZ (by repeat (first | (with_reducible first | exact HB.out | apply cA | apply cN | apply cD | refine cS ?_ GE450.out) | exact HB.out))) : w.heap.size ≤ gb451)); have n4_ := n3_; have n5_ := Aside0.mk ((by rw [hg]; exact Nat.ne_of_lt (blk_lt (g := gb450) (o := .cells #[.int .i64 a0_0, .int .i64 a0_1] 47 (0, 0)) (by (with_reducible repeat (first | apply bN | apply bD | apply bA)); exact BK450.out)) : gb450 ≠ gb451)); have n6_ := Aside0.mk ((by rw [hg]; exact Nat.ne_of_gt (blk_lt (g := gb450) (o := .cells #[.int .i64 a0_0, .int .i64 a0_1] 47 (0, 0)) (by (with_reducible repeat (first | apply bN | apply bD | apply bA)); exact BK450.out)) : gb451 ≠ gb450)); clear BK450; clear HB; have BK450 := n0_; have HB := n1_; have BK451 := n2_; have GW451 := n3_; have GE451 := n4_; have NB450_451 := n5_; have NB451_450 := n6_; clear n0_ n1_ n2_ n3_ n4_ n5_ n6_; clear hb hbox hg) | ((with_reducible refine gate_dst (N := 6) rfl ?_); refine box_event ?hg (N := 6) ?hd (cs := #[.int .i64 0, .int .i64 0]) (t := 47) ?hr ?_; (case hd => rfl); (case hg => rfl); (case hr => first | (go_simp; done) | (go_simp; rfl)); intro gb452 hg w16 hbox hb; have n0_ := Aside0.mk (bB (g := gb450) (o := .cells #[.int .i64 a0_0, .int .i64 a0_1] 47 (0, 0)) (by (with_reducible repeat (first | apply bN | apply bD | apply bA)); exact BK450.out) hb); have n1_ := Aside0.mk (bB (g := gb451) (o := .cells #[.int .i64 a1_0, .int .i64 a1_1] 47 (0, 0)) (by (with_reducible repeat (first | apply bN | apply bD | apply bA)); exact BK451.out) hb); have n2_ := Aside0.mk (cT (by repeat (first | (with_reducible first | exact HB.out | apply cA | apply cN | apply cD | refine cS ?_ GE450.out | refine cS ?_ GE451.out) | exact HB.out)) hb); have n3_ := Aside0.mk (hbox); have n4_ := Aside0.mk ((by rw [hg]; exact (cZ (by repeat (first | (with_reducible first | exact HB.out | apply cA | apply cN | apply cD | refine cS ?_ GE450.out | refine cS ?_ GE451.out) | exact HB.out))) : w.heap.size ≤ gb452)); have n5_ := n4_; have n6_ := Aside0.mk ((by rw [hg]; exact Nat.ne_of_lt (blk_lt (g := gb450) (o := .cells #[.int .i64 a0_0, .int .i64 a0_1] 47 (0, 0)) (by (with_reducible repeat (first | apply bN | apply bD | apply bA)); exact BK450.out)) : gb450 ≠ gb452)); have n7_ := Aside0.mk ((by rw [hg]; exact Nat.ne_of_gt (blk_lt (g := gb450) (o := .cells #[.int .i64 a0_0, .int .i64 a0_1] 47 (0, 0)) (by (with_reducible repeat (first | apply bN | apply bD | apply bA)); exact BK450.out)) : gb452 ≠ gb450)); have n8_ := Aside0.mk ((by rw [hg]; exact Nat.ne_of_lt (blk_lt (g := gb451) (o := .cells #[.int .i64 a1_0, .int .i64 a1_1] 47 (0, 0)) (by (with_reducible repeat (first | apply bN | apply bD | apply bA)); exact BK451.out)) : gb451 ≠ gb452)); have n9_ := Aside0.mk ((by rw [hg]; exact Nat.ne_of_gt (blk_lt (g := gb451) (o := .cells #[.int .i64 a1_0, .int .i64 a1_1] 47 (0, 0)) (by (with_reducible repeat (first | apply bN | apply bD | apply bA)); exact BK451.out)) : gb452 ≠ gb451)); clear BK450; clear BK451; clear HB; have BK450 := n0_; have BK451 := n1_; have HB := n2_; have BK452 := n3_; have GW452 := n4_; have GE452 := n5_; have NB450_452 := n6_; have NB452_450 := n7_; have NB451_452 := n8_; have NB452_451 := n9_; clear n0_ n1_ n2_ n3_ n4_ n5_ n6_ n7_ n8_ n9_; clear hb hbox hg; have hnb17 := NB450_451.out; have hnc17 := NB451_450.out; have hnb18 := NB450_452.out; have hnc18 := NB452_450.out; have hcz19_0 : w16.cell? ⟨gb450, 0, none⟩ = some (.int .i64 a0_0) := (bC BK450.out 0).trans rfl; have hcz19_1 : w16.cell? ⟨gb450, 1, none⟩ = some (.int .i64 a0_1) := (bC BK450.out 1).trans rfl; have hfz19_0 := bZ BK450.out 0; have hfz19_1 := bZ BK450.out 1; have hnb20 := NB451_452.out; have hnc20 := NB452_451.out; have hcz21_0 : w16.cell? ⟨gb451, 0, none⟩ = some (.int .i64 a1_0) := (bC BK451.out 0).trans rfl; have hcz21_1 : w16.cell? ⟨gb451, 1, none⟩ = some (.int .i64 a1_1) := (bC BK451.out 1).trans rfl; have hfz21_0 := bZ BK451.out 0; have hfz21_1 := bZ BK451.out 1) | (go_at_call 58; (with_reducible refine (span_two_3.calls a0_0 a1_0 t453 _ A4.out).mono ?_); rintro e w' ⟨rfl, ⟨nd, rfl⟩⟩; (try first | exact ⟨rfl, _, World.drewN_drewN _ _ _⟩ | exact ⟨rfl, _, Eq.trans (World.drewN_drewN _ _ _) (congrArg (World.drewN _) (Nat.add_assoc _ _ _))⟩)) | (go_at_call 58; (with_reducible refine (span_two_3.calls a0_0 a1_1 t454 _ A5.out).mono ?_); rintro e w' ⟨rfl, ⟨nd, rfl⟩⟩; (try first | exact ⟨rfl, _, World.drewN_drewN _ _ _⟩ | exact ⟨rfl, _, Eq.trans (World.drewN_drewN _ _ _) (congrArg (World.drewN _) (Nat.add_assoc _ _ _))⟩)) | (go_at_call 58; (with_reducible refine (span_two_3.calls a0_1 a1_0 t455 _ A6.out).mono ?_); rintro e w' ⟨rfl, ⟨nd, rfl⟩⟩; (try first | exact ⟨rfl, _, World.drewN_drewN _ _ _⟩ | exact ⟨rfl, _, Eq.trans (World.drewN_drewN _ _ _) (congrArg (World.drewN _) (Nat.add_assoc _ _ _))⟩)) | (go_at_call 58; (with_reducible refine (span_two_3.calls a0_1 a1_1 t456 _ A7.out).mono ?_); rintro e w' ⟨rfl, ⟨nd, rfl⟩⟩; (try first | exact ⟨rfl, _, World.drewN_drewN _ _ _⟩ | exact ⟨rfl, _, Eq.trans (World.drewN_drewN _ _ _) (congrArg (World.drewN _) (Nat.add_assoc _ _ _))⟩); have hcz22_0 : w16.cell? ⟨gb452, 0, none⟩ = some (.int .i64 0) := (bC BK452.out 0).trans rfl; have hcz22_1 : w16.cell? ⟨gb452, 1, none⟩ = some (.int .i64 0) := (bC BK452.out 1).trans rfl; have hfz22_0 := bZ BK452.out 0; have hfz22_1 := bZ BK452.out 1)))
  refine bodyPost_ret (results_cell_row rfl _ _ gb452 47 #[.int .i64 ji10, .int .i64 ji13] (0, 0) _ rfl (by (with_reducible repeat (first | apply bN | apply bD | apply bA)); refine bP (cs := #[.int .i64 ji10, .int .i64 0]) ?_ 1 _ rfl; (with_reducible repeat (first | apply bN | apply bD | apply bA)); refine bP (cs := #[.int .i64 0, .int .i64 0]) ?_ 0 _ rfl; (with_reducible repeat (first | apply bN | apply bD | apply bA)); exact BK452.out) Try.underlying47 rfl (by kernel_rfl)) rfl ?_
  exact ⟨by first | rfl | (simp [errW_none, errW_some] <;> rfl) | (simp only [← hji8, ← hji9, ← hji10, ← hji11, ← hji12, ← hji13]; first | rfl | (simp [errW_none, errW_some] <;> rfl)) | (simp [*, errW_none, errW_some] <;> rfl), by repeat (first | (with_reducible first | exact HB.out | apply cA | apply cN | apply cD | refine cS ?_ GE450.out | refine cS ?_ GE451.out | refine cS ?_ GE452.out) | exact HB.out)⟩

end Go.Proofs.Ytpnldhimlpilhaa.F
