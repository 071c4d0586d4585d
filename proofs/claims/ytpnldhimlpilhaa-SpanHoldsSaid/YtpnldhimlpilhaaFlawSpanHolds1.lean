/- Written by wip/myprint.py of this session, out of Lean's print of the program: what Go functions come to, and that their calls come to it; no condition. -/
import Derived.Test.YtpnldhimlpilhaaF0
import Derived.Test.YtpnldhimlpilhaaFarith3
import Derived.Test.YtpnldhimlpilhaaFdamasklaw051
import Derived.Test.YtpnldhimlpilhaaFdamaskref051
import Derived.Test.YtpnldhimlpilhaaFeq1
import Derived.Test.YtpnldhimlpilhaaFspan3
import Derived.Test.YtpnldhimlpilhaaFspan8
namespace Go.Proofs.Ytpnldhimlpilhaa.F
open Go.RowKit Go.Proofs.YtpnldhimlpilhaaW.PrintWords Go.Proofs.YtpnldhimlpilhaaW.PrintLast Go.Proofs.YtpnldhimlpilhaaW.PrintMore Go.Proofs.YtpnldhimlpilhaaW
attribute [local go_sem] max2_int min2_int max_two min_two max_three min_three max_four min_four   -- for this text's walks alone
set_option linter.unusedVariables false
set_option linter.unusedSimpArgs false

attribute [local go_sem high] eqA47
/-! ### damasklaw05_SpanHolds: function 14 -/
mutual
def damasklaw05_SpanHolds.j0 : Nat → Bool → Int → Int → Int → List (S47) → Int → Int → Int → Int → Int → Option (Bool)
  | 0, _, _, _, _, _, _, _, _, _, _ => none
  | k + 1, x28, x806000, x806001, x806002, x806003, x807000, x807001, x807002, x811000, x811001 => if x28 = true then ((damasklaw05_awake.f k).bind fun t812 => (if t812 = true then (some (x811000 == 0 && (x811001 == 0))) else (some false))) else (damasklaw05_SpanHolds.l0 k ([] : List Int) 0 x806000 x806001 x806002 x806003 x807000 x807001 x807002 x811000 x811001)
def damasklaw05_SpanHolds.l0 : Nat → List Int → Int → Int → Int → Int → List (S47) → Int → Int → Int → Int → Int → Option (Bool)
  | 0, _, _, _, _, _, _, _, _, _, _, _ => none
  | k + 1, x7, x8, x806000, x806001, x806002, x806003, x807000, x807001, x807002, x811000, x811001 => if x8 < (x806003.length : Int) then (damasklaw05_SpanHolds.j2 k x7 x8 (decide (x8 < 3)) x806000 x806001 x806002 x806003 x807000 x807001 x807002 x811000 x811001) else (damasklaw05_SpanHolds.j2 k x7 x8 false x806000 x806001 x806002 x806003 x807000 x807001 x807002 x811000 x811001)
def damasklaw05_SpanHolds.j2 : Nat → List Int → Int → Bool → Int → Int → Int → List (S47) → Int → Int → Int → Int → Int → Option (Bool)
  | 0, _, _, _, _, _, _, _, _, _, _, _, _ => none
  | k + 1, x7, x8, x43, x806000, x806001, x806002, x806003, x807000, x807001, x807002, x811000, x811001 => if x43 = true then (if 0 ≤ x8 then (if x8 < (x806003.length : Int) then ((damaskref05_Whole.f ((rd_T47 x806003 x8).f0) ((rd_T47 x806003 x8).f1)).bind fun t818 => (if t818 = true then (if x8 < 3 then ((damasklaw05_point.f ((rd_T47 x806003 x8).f0) ((rd_T47 x806003 x8).f1) (rd ([x807000, x807001, x807002] : List Int) x8)).bind fun t820 => (if x7.length < 17592186044416 then (damasklaw05_SpanHolds.l0 k (x7 ++ [t820]) (wrap64 (x8 + 1)) x806000 x806001 x806002 x806003 x807000 x807001 x807002 x811000 x811001) else (none))) else (none)) else (some false))) else (none)) else (none)) else ((arith_Value.f k x806000 x806001 x806002 x7).bind fun bt813 => (if (x7.length : Int) = (x806003.length : Int) then ((damaskref05_Whole.f x811000 x811001).bind fun t815 => (if t815 = true then (if bt813.2 = 0 then ((span_Has.f x811000 x811001 bt813.1).bind fun t816 => (some t816)) else (some false)) else (some false))) else (some false)))
end
def damasklaw05_SpanHolds.f (k : Nat) (a0_0 : Int) (a0_1 : Int) (a0_2 : Int) (l0_3 : List (S47)) (a1_0 : Int) (a1_1 : Int) (a1_2 : Int) : Option (Bool) := (span_Of.f k a0_0 a0_1 a0_2 l0_3).bind fun bt807 => ((damasklaw05_awake.f k).bind fun t811 => (if t811 = true then (damasklaw05_SpanHolds.j0 k (bt807.2.2 != 0) a0_0 a0_1 a0_2 l0_3 a1_0 a1_1 a1_2 bt807.1 bt807.2.1) else (damasklaw05_SpanHolds.j0 k true a0_0 a0_1 a0_2 l0_3 a1_0 a1_1 a1_2 bt807.1 bt807.2.1)))
theorem damasklaw05_SpanHolds.mono_l : ∀ k, (∀ y0 y1 y2 y3 y4 y5 y6 y7 y8 y9, LeO (damasklaw05_SpanHolds.j0 k y0 y1 y2 y3 y4 y5 y6 y7 y8 y9) (damasklaw05_SpanHolds.j0 (k + 1) y0 y1 y2 y3 y4 y5 y6 y7 y8 y9)) ∧ (∀ y0 y1 y2 y3 y4 y5 y6 y7 y8 y9 y10, LeO (damasklaw05_SpanHolds.l0 k y0 y1 y2 y3 y4 y5 y6 y7 y8 y9 y10) (damasklaw05_SpanHolds.l0 (k + 1) y0 y1 y2 y3 y4 y5 y6 y7 y8 y9 y10)) ∧ (∀ y0 y1 y2 y3 y4 y5 y6 y7 y8 y9 y10 y11, LeO (damasklaw05_SpanHolds.j2 k y0 y1 y2 y3 y4 y5 y6 y7 y8 y9 y10 y11) (damasklaw05_SpanHolds.j2 (k + 1) y0 y1 y2 y3 y4 y5 y6 y7 y8 y9 y10 y11))
  | 0 => ⟨fun _ _ _ _ _ _ _ _ _ _ r h => by simp [damasklaw05_SpanHolds.j0] at h, fun _ _ _ _ _ _ _ _ _ _ _ r h => by simp [damasklaw05_SpanHolds.l0] at h, fun _ _ _ _ _ _ _ _ _ _ _ _ r h => by simp [damasklaw05_SpanHolds.j2] at h⟩
  | k + 1 => by
    obtain ⟨ih0, ih1, ih2⟩ := damasklaw05_SpanHolds.mono_l k
    refine ⟨?_, ?_, ?_⟩
    · intro y0 y1 y2 y3 y4 y5 y6 y7 y8 y9
      unfold damasklaw05_SpanHolds.j0
      repeat' first
      | (with_reducible exact ih0 _ _ _ _ _ _ _ _ _ _)
      | (with_reducible exact ih1 _ _ _ _ _ _ _ _ _ _ _)
      | (with_reducible exact ih2 _ _ _ _ _ _ _ _ _ _ _ _)
      | (with_reducible exact arith_Value.mono _ _ _ _ _)
      | (with_reducible exact damasklaw05_awake.mono _)
      | (with_reducible exact span_Of.mono _ _ _ _ _)
      | (with_reducible exact LeO.refl _)
      | (with_reducible exact LeO.none _)
      | (with_reducible refine LeO.ite ?_ ?_)
      | (with_reducible refine LeO.bind ?_ (fun _ => ?_))
      | exact ih0 _ _ _ _ _ _ _ _ _ _
      | exact ih1 _ _ _ _ _ _ _ _ _ _ _
      | exact ih2 _ _ _ _ _ _ _ _ _ _ _ _
      | exact arith_Value.mono _ _ _ _ _
      | exact damasklaw05_awake.mono _
      | exact span_Of.mono _ _ _ _ _
      | exact LeO.none _
      | refine LeO.ite ?_ ?_
      | refine LeO.bind ?_ (fun _ => ?_)
    · intro y0 y1 y2 y3 y4 y5 y6 y7 y8 y9 y10
      unfold damasklaw05_SpanHolds.l0
      repeat' first
      | (with_reducible exact ih0 _ _ _ _ _ _ _ _ _ _)
      | (with_reducible exact ih1 _ _ _ _ _ _ _ _ _ _ _)
      | (with_reducible exact ih2 _ _ _ _ _ _ _ _ _ _ _ _)
      | (with_reducible exact arith_Value.mono _ _ _ _ _)
      | (with_reducible exact damasklaw05_awake.mono _)
      | (with_reducible exact span_Of.mono _ _ _ _ _)
      | (with_reducible exact LeO.refl _)
      | (with_reducible exact LeO.none _)
      | (with_reducible refine LeO.ite ?_ ?_)
      | (with_reducible refine LeO.bind ?_ (fun _ => ?_))
      | exact ih0 _ _ _ _ _ _ _ _ _ _
      | exact ih1 _ _ _ _ _ _ _ _ _ _ _
      | exact ih2 _ _ _ _ _ _ _ _ _ _ _ _
      | exact arith_Value.mono _ _ _ _ _
      | exact damasklaw05_awake.mono _
      | exact span_Of.mono _ _ _ _ _
      | exact LeO.none _
      | refine LeO.ite ?_ ?_
      | refine LeO.bind ?_ (fun _ => ?_)
    · intro y0 y1 y2 y3 y4 y5 y6 y7 y8 y9 y10 y11
      unfold damasklaw05_SpanHolds.j2
      repeat' first
      | (with_reducible exact ih0 _ _ _ _ _ _ _ _ _ _)
      | (with_reducible exact ih1 _ _ _ _ _ _ _ _ _ _ _)
      | (with_reducible exact ih2 _ _ _ _ _ _ _ _ _ _ _ _)
      | (with_reducible exact arith_Value.mono _ _ _ _ _)
      | (with_reducible exact damasklaw05_awake.mono _)
      | (with_reducible exact span_Of.mono _ _ _ _ _)
      | (with_reducible exact LeO.refl _)
      | (with_reducible exact LeO.none _)
      | (with_reducible refine LeO.ite ?_ ?_)
      | (with_reducible refine LeO.bind ?_ (fun _ => ?_))
      | exact ih0 _ _ _ _ _ _ _ _ _ _
      | exact ih1 _ _ _ _ _ _ _ _ _ _ _
      | exact ih2 _ _ _ _ _ _ _ _ _ _ _ _
      | exact arith_Value.mono _ _ _ _ _
      | exact damasklaw05_awake.mono _
      | exact span_Of.mono _ _ _ _ _
      | exact LeO.none _
      | refine LeO.ite ?_ ?_
      | refine LeO.bind ?_ (fun _ => ?_)
theorem damasklaw05_SpanHolds.mono : ∀ a0 a1 a2 a3 a4 a5 a6 k, LeO (damasklaw05_SpanHolds.f k a0 a1 a2 a3 a4 a5 a6) (damasklaw05_SpanHolds.f (k + 1) a0 a1 a2 a3 a4 a5 a6) := by
  intro a0 a1 a2 a3 a4 a5 a6 k
  obtain ⟨ih0, ih1, ih2⟩ := damasklaw05_SpanHolds.mono_l k
  unfold damasklaw05_SpanHolds.f
  repeat' first
      | (with_reducible exact ih0 _ _ _ _ _ _ _ _ _ _)
      | (with_reducible exact ih1 _ _ _ _ _ _ _ _ _ _ _)
      | (with_reducible exact ih2 _ _ _ _ _ _ _ _ _ _ _ _)
      | (with_reducible exact arith_Value.mono _ _ _ _ _)
      | (with_reducible exact damasklaw05_awake.mono _)
      | (with_reducible exact span_Of.mono _ _ _ _ _)
      | (with_reducible exact LeO.refl _)
      | (with_reducible exact LeO.none _)
      | (with_reducible refine LeO.ite ?_ ?_)
      | (with_reducible refine LeO.bind ?_ (fun _ => ?_))
      | exact ih0 _ _ _ _ _ _ _ _ _ _
      | exact ih1 _ _ _ _ _ _ _ _ _ _ _
      | exact ih2 _ _ _ _ _ _ _ _ _ _ _ _
      | exact arith_Value.mono _ _ _ _ _
      | exact damasklaw05_awake.mono _
      | exact span_Of.mono _ _ _ _ _
      | exact LeO.none _
      | refine LeO.ite ?_ ?_
      | refine LeO.bind ?_ (fun _ => ?_)
def damasklaw05_SpanHolds.T10 : Bool × List (List Nat × List Nat) := (true, [([], []), ([], []), ([1], [1]), ([], []), ([2, 3], [2, 3]), ([4], [4]), ([], []), ([6], [6]), ([7], [7]), ([5, 8], [5, 8]), ([9], [9]), ([0, 10, 9], [0, 10]), ([11, 11, 0, 1, 2, 3, 4, 5, 6, 7, 8, 9, 10, 11], [0, 11])])
def damasklaw05_SpanHolds.B10 : List Nat := [0, 0, 2, 0, 14, 30, 0, 64, 192, 510, 1022, 2047, 4095]
theorem damasklaw05_SpanHolds.tab10 : rtab .any (opsOf Try.f14 10) = damasklaw05_SpanHolds.T10 := by kernel_rfl
theorem damasklaw05_SpanHolds.bits10 : waitsOk damasklaw05_SpanHolds.T10.2 damasklaw05_SpanHolds.B10 = true := by kernel_rfl
set_option maxHeartbeats 8000000 in
set_option maxRecDepth 100000 in
theorem damasklaw05_SpanHolds.calls (k : Nat) (a0_0 : Int) (a0_1 : Int) (a0_2 : Int) (A0_3 : Option Addr) (c0_3 : Nat) (l0_3 : List (S47)) (a1_0 : Int) (a1_1 : Int) (a1_2 : Int) (r : Bool) (w : World) (hr0_3 : Kd.C k47 w A0_3 l0_3.length l0_3) (hc0_3 : l0_3.length ≤ c0_3) (hrT0 : r = true) (h : damasklaw05_SpanHolds.f k a0_0 a0_1 a0_2 l0_3 a1_0 a1_1 a1_2 = some r) :
    Calls Try.prog 14 #[.agg #[.int .i64 a0_0, .int .i64 a0_1, .int .i64 a0_2, .slice A0_3 l0_3.length c0_3], .agg #[.int .i64 a1_0, .int .i64 a1_1, .int .i64 a1_2]] w fun e w' => e = .returned (.bool r) ∧ Below w.heap.size w w' := by
  have hu45 := Try.underlying45
  have hu60 := Try.underlying60
  have hu47 := Try.underlying47
  have HR0_3 := Aside0.mk hr0_3
  have HC0_3 := Aside0.mk hc0_3
  clear hr0_3 hc0_3
  have HB := Aside0.mk (Below.refl w.heap.size w)
  have hrT := Aside0.mk hrT0
  clear hrT0
  have H : ((span_Of.f k a0_0 a0_1 a0_2 l0_3).bind fun bt807 => ((damasklaw05_awake.f k).bind fun t811 => (if t811 = true then (damasklaw05_SpanHolds.j0 k (bt807.2.2 != 0) a0_0 a0_1 a0_2 l0_3 a1_0 a1_1 a1_2 bt807.1 bt807.2.1) else (damasklaw05_SpanHolds.j0 k true a0_0 a0_1 a0_2 l0_3 a1_0 a1_1 a1_2 bt807.1 bt807.2.1)))) = some r := h
  clear h
  replace H := Option.bind_eq_some_iff.mp H
  obtain ⟨⟨t807, t808, t809⟩, A30, H⟩ := H
  replace H : ((damasklaw05_awake.f k).bind fun t811 => (if t811 = true then (damasklaw05_SpanHolds.j0 k (t809 != 0) a0_0 a0_1 a0_2 l0_3 a1_0 a1_1 a1_2 t807 t808) else (damasklaw05_SpanHolds.j0 k true a0_0 a0_1 a0_2 l0_3 a1_0 a1_1 a1_2 t807 t808))) = some r := H
  have A3 := Aside0.mk A30
  clear A30
  have HC4 := Aside0.mk H
  clear H
  go_enter Try.func14, Try.ntmps14
  go_upto_region 2 with (first | ((with_reducible refine gate_dst (N := 2) rfl ?_); refine box_event ?hg (N := 2) ?hd (cs := #[.int .i64 a0_0, .int .i64 a0_1, .int .i64 a0_2, .slice A0_3 l0_3.length c0_3]) (t := 45) ?hr ?_; (case hd => rfl); (case hg => rfl); (case hr => first | (go_simp; done) | (go_simp; rfl)); intro gb805 hg w5 hbox hb; have n0_ := Aside0.mk (cT (by repeat (first | (with_reducible first | exact HB.out | apply cA | apply cN | apply cD) | exact HB.out)) hb); have n1_ := Aside0.mk (hbox); have n2_ := Aside0.mk ((by rw [hg]; exact (cZ (by repeat (first | (with_reducible first | exact HB.out | apply cA | apply cN | apply cD) | exact HB.out))) : w.heap.size ≤ gb805)); have n3_ := n2_; clear HB; have HB := n0_; have BK805 := n1_; have GW805 := n2_; have GE805 := n3_; clear n0_ n1_ n2_ n3_; clear hb hbox hg) | ((with_reducible refine gate_dst (N := 3) rfl ?_); refine box_event ?hg (N := 3) ?hd (cs := #[.int .i64 a1_0, .int .i64 a1_1, .int .i64 a1_2]) (t := 60) ?hr ?_; (case hd => rfl); (case hg => rfl); (case hr => first | (go_simp; done) | (go_simp; rfl)); intro gb806 hg w6 hbox hb; have n0_ := Aside0.mk (bB (g := gb805) (o := .cells #[.int .i64 a0_0, .int .i64 a0_1, .int .i64 a0_2, .slice A0_3 l0_3.length c0_3] 45 (0, 0)) (by (with_reducible repeat (first | apply bN | apply bD | apply bA)); exact BK805.out) hb); have n1_ := Aside0.mk (cT (by repeat (first | (with_reducible first | exact HB.out | apply cA | apply cN | apply cD | refine cS ?_ GE805.out) | exact HB.out)) hb); have n2_ := Aside0.mk (hbox); have n3_ := Aside0.mk ((by rw [hg]; exact (cZ (by repeat (first | (with_reducible first | exact HB.out | apply cA | apply cN | apply cD | refine cS ?_ GE805.out) | exact HB.out))) : w.heap.size ≤ gb806)); have n4_ := n3_; have n5_ := Aside0.mk ((by rw [hg]; exact Nat.ne_of_lt (blk_lt (g := gb805) (o := .cells #[.int .i64 a0_0, .int .i64 a0_1, .int .i64 a0_2, .slice A0_3 l0_3.length c0_3] 45 (0, 0)) (by (with_reducible repeat (first | apply bN | apply bD | apply bA)); exact BK805.out)) : gb805 ≠ gb806)); have n6_ := Aside0.mk ((by rw [hg]; exact Nat.ne_of_gt (blk_lt (g := gb805) (o := .cells #[.int .i64 a0_0, .int .i64 a0_1, .int .i64 a0_2, .slice A0_3 l0_3.length c0_3] 45 (0, 0)) (by (with_reducible repeat (first | apply bN | apply bD | apply bA)); exact BK805.out)) : gb806 ≠ gb805)); clear BK805; clear HB; have BK805 := n0_; have HB := n1_; have BK806 := n2_; have GW806 := n3_; have GE806 := n4_; have NB805_806 := n5_; have NB806_805 := n6_; clear n0_ n1_ n2_ n3_ n4_ n5_ n6_; clear hb hbox hg; have hnb7 := NB805_806.out; have hnc7 := NB806_805.out; have hcz8_0 : w6.cell? ⟨gb805, 0, none⟩ = some (.int .i64 a0_0) := (bC BK805.out 0).trans rfl; have hcz8_1 : w6.cell? ⟨gb805, 1, none⟩ = some (.int .i64 a0_1) := (bC BK805.out 1).trans rfl; have hcz8_2 : w6.cell? ⟨gb805, 2, none⟩ = some (.int .i64 a0_2) := (bC BK805.out 2).trans rfl; have hcz8_3 : w6.cell? ⟨gb805, 3, none⟩ = some (.slice A0_3 l0_3.length c0_3) := (bC BK805.out 3).trans rfl; have hfz8_0 := bZ BK805.out 0; have hfz8_1 := bZ BK805.out 1; have hfz8_2 := bZ BK805.out 2; have hfz8_3 := bZ BK805.out 3) | ((with_reducible refine gate_callee (f := 26) rfl ?_); refine goesL_ (some 20) rfl rfl Try.func26 (by kernel_rfl) rfl #[.int .i64 a0_0, .int .i64 a0_1, .int .i64 a0_2, .slice A0_3 l0_3.length c0_3] rfl (by (try simp only [List.map_toArray, List.map_cons, List.map_nil]); first | done | rfl | (simp only [List.length_drop, List.length_take]; rfl)) ?_; (with_reducible refine (span_Of.calls k a0_0 a0_1 a0_2 _ _ l0_3 t807 t808 t809 _ ?side1 ?side2 A3.out).mono ?_); (case side1 => repeat (first | exact (Kd.C_below HR0_3.out HB.out) | (with_reducible refine Kd.C_alloc ?_ _) | (with_reducible refine Kd.C_drewN ?_ _) | (with_reducible refine Kd.C_drew ?_))); (case side2 => exact HC0_3.out); rintro e w9 ⟨rfl, hb⟩; refine ⟨_, rfl, ?_⟩; have n0_ := Aside0.mk (bB (g := gb805) (o := .cells #[.int .i64 a0_0, .int .i64 a0_1, .int .i64 a0_2, .slice A0_3 l0_3.length c0_3] 45 (0, 0)) (by (with_reducible repeat (first | apply bN | apply bD | apply bA)); exact BK805.out) hb); have n1_ := Aside0.mk (bB (g := gb806) (o := .cells #[.int .i64 a1_0, .int .i64 a1_1, .int .i64 a1_2] 60 (0, 0)) (by (with_reducible repeat (first | apply bN | apply bD | apply bA)); exact BK806.out) hb); have n2_ := Aside0.mk (cT (by repeat (first | (with_reducible first | exact HB.out | apply cA | apply cN | apply cD | refine cS ?_ GE805.out | refine cS ?_ GE806.out) | exact HB.out)) hb); clear BK805; clear BK806; clear HB; have BK805 := n0_; have BK806 := n1_; have HB := n2_; clear n0_ n1_ n2_; (try clear hb); (try clear hb2); (try clear hk); (try clear hi)) | ((with_reducible refine gate_dst (N := 5) rfl ?_); refine box_event ?hg (N := 5) ?hd (cs := #[.int .i64 0, .int .i64 0]) (t := 47) ?hr ?_; (case hd => rfl); (case hg => rfl); (case hr => first | (go_simp; done) | (go_simp; rfl)); intro gb810 hg w10 hbox hb; have n0_ := Aside0.mk (bB (g := gb805) (o := .cells #[.int .i64 a0_0, .int .i64 a0_1, .int .i64 a0_2, .slice A0_3 l0_3.length c0_3] 45 (0, 0)) (by (with_reducible repeat (first | apply bN | apply bD | apply bA)); exact BK805.out) hb); have n1_ := Aside0.mk (bB (g := gb806) (o := .cells #[.int .i64 a1_0, .int .i64 a1_1, .int .i64 a1_2] 60 (0, 0)) (by (with_reducible repeat (first | apply bN | apply bD | apply bA)); exact BK806.out) hb); have n2_ := Aside0.mk (cT (by repeat (first | (with_reducible first | exact HB.out | apply cA | apply cN | apply cD | refine cS ?_ GE805.out | refine cS ?_ GE806.out) | exact HB.out)) hb); have n3_ := Aside0.mk (hbox); have n4_ := Aside0.mk ((by rw [hg]; exact (cZ (by repeat (first | (with_reducible first | exact HB.out | apply cA | apply cN | apply cD | refine cS ?_ GE805.out | refine cS ?_ GE806.out) | exact HB.out))) : w.heap.size ≤ gb810)); have n5_ := n4_; have n6_ := Aside0.mk ((by rw [hg]; exact Nat.ne_of_lt (blk_lt (g := gb805) (o := .cells #[.int .i64 a0_0, .int .i64 a0_1, .int .i64 a0_2, .slice A0_3 l0_3.length c0_3] 45 (0, 0)) (by (with_reducible repeat (first | apply bN | apply bD | apply bA)); exact BK805.out)) : gb805 ≠ gb810)); have n7_ := Aside0.mk ((by rw [hg]; exact Nat.ne_of_gt (blk_lt (g := gb805) (o := .cells #[.int .i64 a0_0, .int .i64 a0_1, .int .i64 a0_2, .slice A0_3 l0_3.length c0_3] 45 (0, 0)) (by (with_reducible repeat (first | apply bN | apply bD | apply bA)); exact BK805.out)) : gb810 ≠ gb805)); have n8_ := Aside0.mk ((by rw [hg]; exact Nat.ne_of_lt (blk_lt (g := gb806) (o := .cells #[.int .i64 a1_0, .int .i64 a1_1, .int .i64 a1_2] 60 (0, 0)) (by (with_reducible repeat (first | apply bN | apply bD | apply bA)); exact BK806.out)) : gb806 ≠ gb810)); have n9_ := Aside0.mk ((by rw [hg]; exact Nat.ne_of_gt (blk_lt (g := gb806) (o := .cells #[.int .i64 a1_0, .int .i64 a1_1, .int .i64 a1_2] 60 (0, 0)) (by (with_reducible repeat (first | apply bN | apply bD | apply bA)); exact BK806.out)) : gb810 ≠ gb806)); clear BK805; clear BK806; clear HB; have BK805 := n0_; have BK806 := n1_; have HB := n2_; have BK810 := n3_; have GW810 := n4_; have GE810 := n5_; have NB805_810 := n6_; have NB810_805 := n7_; have NB806_810 := n8_; have NB810_806 := n9_; clear n0_ n1_ n2_ n3_ n4_ n5_ n6_ n7_ n8_ n9_; clear hb hbox hg; have hnb11 := NB810_805.out; have hnc11 := NB805_810.out; have hnb12 := NB810_806.out; have hnc12 := NB806_810.out; have hcz13_0 : w10.cell? ⟨gb810, 0, none⟩ = some (.int .i64 0) := (bC BK810.out 0).trans rfl; have hcz13_1 : w10.cell? ⟨gb810, 1, none⟩ = some (.int .i64 0) := (bC BK810.out 1).trans rfl; have hfz13_0 := bZ BK810.out 0; have hfz13_1 := bZ BK810.out 1))
  (try simp only [Act.put, List.setIfInBounds_toArray, List.set_cons_zero, List.set_cons_succ])
  go_cut [28] (fun v28 wc => ∃ (kq : Nat) (x28_3 : Bool), v28 = .bool x28_3 ∧ Aside0 (damasklaw05_SpanHolds.j0 kq x28_3 a0_0 a0_1 a0_2 l0_3 a1_0 a1_1 a1_2 t807 t808 = some r) ∧ Aside0 (kq ≤ k) ∧ Aside0 (wc.heap[gb805]? = some (.cells #[.int .i64 a0_0, .int .i64 a0_1, .int .i64 a0_2, (.slice A0_3 l0_3.length c0_3)] 45 (0, 0))) ∧ Aside0 (wc.heap[gb806]? = some (.cells #[.int .i64 a1_0, .int .i64 a1_1, .int .i64 a1_2] 60 (0, 0))) ∧ Aside0 (wc.heap[gb810]? = some (.cells #[.int .i64 t807, .int .i64 t808] 47 (0, 0))) ∧ Aside0 (Below w.heap.size w wc))
  case first =>
    have H := HC4.out
    clear HC4
    replace H := Option.bind_eq_some_iff.mp H
    obtain ⟨t811, A140, H⟩ := H
    replace H : (if t811 = true then (damasklaw05_SpanHolds.j0 k (t809 != 0) a0_0 a0_1 a0_2 l0_3 a1_0 a1_1 a1_2 t807 t808) else (damasklaw05_SpanHolds.j0 k true a0_0 a0_1 a0_2 l0_3 a1_0 a1_1 a1_2 t807 t808)) = some r := H
    have A14 := Aside0.mk A140
    clear A140
    by_cases c15 : t811 = true
    · subst c15
      have H1 : (damasklaw05_SpanHolds.j0 k (t809 != 0) a0_0 a0_1 a0_2 l0_3 a1_0 a1_1 a1_2 t807 t808) = some r := by rw [if_pos rfl] at H; exact H
      clear H
      have H := H1
      clear H1
      have H' := Aside0.mk H
      clear H
      go_wp2_with (first | ((with_reducible refine gate_callee (f := 28) rfl ?_); refine goesL_ (some 23) rfl rfl Try.func28 (by kernel_rfl) rfl #[] rfl (by (try simp only [List.map_toArray, List.map_cons, List.map_nil]); first | done | rfl | (simp only [List.length_drop, List.length_take]; rfl)) ?_; (with_reducible refine (damasklaw05_awake.calls k  true _ A14.out).mono ?_); rintro e w16 ⟨rfl, hb⟩; refine ⟨_, rfl, ?_⟩; have n0_ := Aside0.mk (bB (g := gb805) (o := .cells #[.int .i64 a0_0, .int .i64 a0_1, .int .i64 a0_2, .slice A0_3 l0_3.length c0_3] 45 (0, 0)) (by (with_reducible repeat (first | apply bN | apply bD | apply bA)); refine bF ?_ NB805_810.out _; (with_reducible repeat (first | apply bN | apply bD | apply bA)); refine bF ?_ NB805_810.out _; (with_reducible repeat (first | apply bN | apply bD | apply bA)); exact BK805.out) hb); have n1_ := Aside0.mk (bB (g := gb806) (o := .cells #[.int .i64 a1_0, .int .i64 a1_1, .int .i64 a1_2] 60 (0, 0)) (by (with_reducible repeat (first | apply bN | apply bD | apply bA)); refine bF ?_ NB806_810.out _; (with_reducible repeat (first | apply bN | apply bD | apply bA)); refine bF ?_ NB806_810.out _; (with_reducible repeat (first | apply bN | apply bD | apply bA)); exact BK806.out) hb); have n2_ := Aside0.mk (bB (g := gb810) (o := .cells #[.int .i64 t807, .int .i64 t808] 47 (0, 0)) (by (with_reducible repeat (first | apply bN | apply bD | apply bA)); refine bP (cs := #[.int .i64 t807, .int .i64 0]) ?_ 1 _ rfl; (with_reducible repeat (first | apply bN | apply bD | apply bA)); refine bP (cs := #[.int .i64 0, .int .i64 0]) ?_ 0 _ rfl; (with_reducible repeat (first | apply bN | apply bD | apply bA)); exact BK810.out) hb); have n3_ := Aside0.mk (cT (by repeat (first | (with_reducible first | exact HB.out | apply cA | apply cN | apply cD | refine cS ?_ GE805.out | refine cS ?_ GE806.out | refine cS ?_ GE810.out) | exact HB.out)) hb); clear BK805; clear BK806; clear BK810; clear HB; have BK805 := n0_; have BK806 := n1_; have BK810 := n2_; have HB := n3_; clear n0_ n1_ n2_ n3_; (try clear hb); (try clear hb2); (try clear hk); (try clear hi)))
      go_meet
      case rel => exact ⟨_, ((t809 != 0)), (by first | rfl | (simp; done) | (simp [*]; done)), H', ⟨by first | omega | exact Nat.le_refl _⟩, ⟨by (with_reducible repeat (first | apply bN | apply bD | apply bA)); exact BK805.out⟩, ⟨by (with_reducible repeat (first | apply bN | apply bD | apply bA)); exact BK806.out⟩, ⟨by (with_reducible repeat (first | apply bN | apply bD | apply bA)); exact BK810.out⟩, ⟨by repeat (first | (with_reducible first | exact HB.out | apply cA | apply cN | apply cD | refine cS ?_ GE805.out | refine cS ?_ GE806.out | refine cS ?_ GE810.out) | exact HB.out)⟩⟩
    replace c15 := Bool.eq_false_iff.mpr c15
    subst c15
    have H1 : (damasklaw05_SpanHolds.j0 k true a0_0 a0_1 a0_2 l0_3 a1_0 a1_1 a1_2 t807 t808) = some r := by rw [if_neg (show ¬ (false = true) by decide)] at H; exact H
    clear H
    have H := H1
    clear H1
    have H' := Aside0.mk H
    clear H
    go_wp2_with (first | ((with_reducible refine gate_callee (f := 28) rfl ?_); refine goesL_ (some 23) rfl rfl Try.func28 (by kernel_rfl) rfl #[] rfl (by (try simp only [List.map_toArray, List.map_cons, List.map_nil]); first | done | rfl | (simp only [List.length_drop, List.length_take]; rfl)) ?_; (with_reducible refine (damasklaw05_awake.calls k  false _ A14.out).mono ?_); rintro e w17 ⟨rfl, hb⟩; refine ⟨_, rfl, ?_⟩; have n0_ := Aside0.mk (bB (g := gb805) (o := .cells #[.int .i64 a0_0, .int .i64 a0_1, .int .i64 a0_2, .slice A0_3 l0_3.length c0_3] 45 (0, 0)) (by (with_reducible repeat (first | apply bN | apply bD | apply bA)); refine bF ?_ NB805_810.out _; (with_reducible repeat (first | apply bN | apply bD | apply bA)); refine bF ?_ NB805_810.out _; (with_reducible repeat (first | apply bN | apply bD | apply bA)); exact BK805.out) hb); have n1_ := Aside0.mk (bB (g := gb806) (o := .cells #[.int .i64 a1_0, .int .i64 a1_1, .int .i64 a1_2] 60 (0, 0)) (by (with_reducible repeat (first | apply bN | apply bD | apply bA)); refine bF ?_ NB806_810.out _; (with_reducible repeat (first | apply bN | apply bD | apply bA)); refine bF ?_ NB806_810.out _; (with_reducible repeat (first | apply bN | apply bD | apply bA)); exact BK806.out) hb); have n2_ := Aside0.mk (bB (g := gb810) (o := .cells #[.int .i64 t807, .int .i64 t808] 47 (0, 0)) (by (with_reducible repeat (first | apply bN | apply bD | apply bA)); refine bP (cs := #[.int .i64 t807, .int .i64 0]) ?_ 1 _ rfl; (with_reducible repeat (first | apply bN | apply bD | apply bA)); refine bP (cs := #[.int .i64 0, .int .i64 0]) ?_ 0 _ rfl; (with_reducible repeat (first | apply bN | apply bD | apply bA)); exact BK810.out) hb); have n3_ := Aside0.mk (cT (by repeat (first | (with_reducible first | exact HB.out | apply cA | apply cN | apply cD | refine cS ?_ GE805.out | refine cS ?_ GE806.out | refine cS ?_ GE810.out) | exact HB.out)) hb); clear BK805; clear BK806; clear BK810; clear HB; have BK805 := n0_; have BK806 := n1_; have BK810 := n2_; have HB := n3_; clear n0_ n1_ n2_ n3_; (try clear hb); (try clear hb2); (try clear hk); (try clear hi)))
    go_meet
    case rel => exact ⟨_, (true), (by first | rfl | (simp; done) | (simp [*]; done)), H', ⟨by first | omega | exact Nat.le_refl _⟩, ⟨by (with_reducible repeat (first | apply bN | apply bD | apply bA)); exact BK805.out⟩, ⟨by (with_reducible repeat (first | apply bN | apply bD | apply bA)); exact BK806.out⟩, ⟨by (with_reducible repeat (first | apply bN | apply bD | apply bA)); exact BK810.out⟩, ⟨by repeat (first | (with_reducible first | exact HB.out | apply cA | apply cN | apply cD | refine cS ?_ GE805.out | refine cS ?_ GE806.out | refine cS ?_ GE810.out) | exact HB.out)⟩⟩
  case rest =>
    clear HC4
    try clear c15
    try clear hcz13_0
    try clear hcz13_1
    try clear hcz8_0
    try clear hcz8_1
    try clear hcz8_2
    try clear hcz8_3
    try clear hfz13_0
    try clear hfz13_1
    try clear hfz8_0
    try clear hfz8_1
    try clear hfz8_2
    try clear hfz8_3
    obtain ⟨kq, x28_3, rfl, HA, HJ3, BK805, BK806, BK810, HB⟩ := hcut
    cases kq with
    | zero => exact absurd HA.out (by simp [damasklaw05_SpanHolds.j0])
    | succ kj3 =>
      have H := HA.out
      clear HA
      simp only [damasklaw05_SpanHolds.j0] at H
      by_cases c18 : x28_3 = true
      · subst c18
        have H1 : ((damasklaw05_awake.f kj3).bind fun t812 => (if t812 = true then (some (t807 == 0 && (t808 == 0))) else (some false))) = some r := by rw [if_pos rfl] at H; exact H
        clear H
        have H := H1
        clear H1
        replace H := Option.bind_eq_some_iff.mp H
        obtain ⟨t812, A190, H⟩ := H
        replace H : (if t812 = true then (some (t807 == 0 && (t808 == 0))) else (some false)) = some r := H
        have A19 := Aside0.mk A190
        clear A190
        by_cases c20 : t812 = true
        · subst c20
          have H1 : (some (t807 == 0 && (t808 == 0))) = some r := by rw [if_pos rfl] at H; exact H
          clear H
          have H := H1
          clear H1
          obtain rfl := Option.some.inj H
          go_wp2_with (first | ((with_reducible refine gate_callee (f := 28) rfl ?_); refine goesL_ (some 29) rfl rfl Try.func28 (by kernel_rfl) rfl #[] rfl (by (try simp only [List.map_toArray, List.map_cons, List.map_nil]); first | done | rfl | (simp only [List.length_drop, List.length_take]; rfl)) ?_; (with_reducible refine (damasklaw05_awake.calls kj3  true _ A19.out).mono ?_); rintro e w21 ⟨rfl, hb⟩; refine ⟨_, rfl, ?_⟩; have n0_ := Aside0.mk (bB (g := gb805) (o := .cells #[.int .i64 a0_0, .int .i64 a0_1, .int .i64 a0_2, .slice A0_3 l0_3.length c0_3] 45 (0, 0)) (by (with_reducible repeat (first | apply bN | apply bD | apply bA)); exact BK805.out) hb); have n1_ := Aside0.mk (bB (g := gb806) (o := .cells #[.int .i64 a1_0, .int .i64 a1_1, .int .i64 a1_2] 60 (0, 0)) (by (with_reducible repeat (first | apply bN | apply bD | apply bA)); exact BK806.out) hb); have n2_ := Aside0.mk (bB (g := gb810) (o := .cells #[.int .i64 t807, .int .i64 t808] 47 (0, 0)) (by (with_reducible repeat (first | apply bN | apply bD | apply bA)); exact BK810.out) hb); have n3_ := Aside0.mk (cT (by repeat (first | (with_reducible first | exact HB.out | apply cA | apply cN | apply cD | refine cS ?_ GE805.out | refine cS ?_ GE806.out | refine cS ?_ GE810.out) | exact HB.out)) hb); clear BK805; clear BK806; clear BK810; clear HB; have BK805 := n0_; have BK806 := n1_; have BK810 := n2_; have HB := n3_; clear n0_ n1_ n2_ n3_; (try clear hb); (try clear hb2); (try clear hk); (try clear hi); have hnb22 := NB810_805.out; have hnc22 := NB805_810.out; have hnb23 := NB810_806.out; have hnc23 := NB806_810.out; have hcz24_0 : w21.cell? ⟨gb810, 0, none⟩ = some (.int .i64 t807) := (bC BK810.out 0).trans rfl; have hcz24_1 : w21.cell? ⟨gb810, 1, none⟩ = some (.int .i64 t808) := (bC BK810.out 1).trans rfl; have hfz24_0 := bZ BK810.out 0; have hfz24_1 := bZ BK810.out 1))
          go_ret
          exact ⟨by first | rfl | (simp [errW_none, errW_some] <;> rfl) | (simp [*, errW_none, errW_some] <;> rfl), by repeat (first | (with_reducible first | exact HB.out | apply cA | apply cN | apply cD | refine cS ?_ GE805.out | refine cS ?_ GE806.out | refine cS ?_ GE810.out) | exact HB.out)⟩
        replace c20 := Bool.eq_false_iff.mpr c20
        subst c20
        have H1 : (some false) = some r := by rw [if_neg (show ¬ (false = true) by decide)] at H; exact H
        clear H
        have H := H1
        clear H1
        exact absurd hrT.out (by have h_ := Option.some.inj H; rw [← h_]; decide)
      replace c18 := Bool.eq_false_iff.mpr c18
      subst c18
      have H1 : (damasklaw05_SpanHolds.l0 kj3 ([] : List Int) 0 a0_0 a0_1 a0_2 l0_3 a1_0 a1_1 a1_2 t807 t808) = some r := by rw [if_neg (show ¬ (false = true) by decide)] at H; exact H
      clear H
      have H := H1
      clear H1
      have H' := Aside0.mk H
      clear H
      go_wp2
      go_loopg [7, 8] kj3 (fun kq v7 v8 w' => ∃ (x7_2 : List Int) (x8_2 : Int), v8 = .int .i64 x8_2 ∧ Aside0 (damasklaw05_SpanHolds.l0 kq x7_2 x8_2 a0_0 a0_1 a0_2 l0_3 a1_0 a1_1 a1_2 t807 t808 = some r) ∧ Aside0 (kq ≤ kj3) ∧ Aside0 (Kd.R (Kd.int .i64) 3 w' w.heap.size (fun _ => True) v7 x7_2) ∧ Aside0 (w'.heap[gb805]? = some (.cells #[.int .i64 a0_0, .int .i64 a0_1, .int .i64 a0_2, (.slice A0_3 l0_3.length c0_3)] 45 (0, 0))) ∧ Aside0 (w'.heap[gb806]? = some (.cells #[.int .i64 a1_0, .int .i64 a1_1, .int .i64 a1_2] 60 (0, 0))) ∧ Aside0 (w'.heap[gb810]? = some (.cells #[.int .i64 t807, .int .i64 t808] 47 (0, 0))) ∧ Aside0 (Below w.heap.size w w'))
      case atStart => exact ⟨(([] : List Int)), (0), (by first | rfl | (simp; done) | (simp [*]; done)), H', ⟨Nat.le_refl _⟩, ⟨by first | exact Kd.R_nil _ _ _ _ _ | exact Kd.N_nil _ _ _ _ _ | exact Kd.V_nil _ _ _ _ _ | exact Kd.Q_nil _ _ _ _ _ | exact Kd.S_nil _ _ _ _ _⟩, ⟨by (with_reducible repeat (first | apply bN | apply bD | apply bA)); exact BK805.out⟩, ⟨by (with_reducible repeat (first | apply bN | apply bD | apply bA)); exact BK806.out⟩, ⟨by (with_reducible repeat (first | apply bN | apply bD | apply bA)); exact BK810.out⟩, ⟨by repeat (first | (with_reducible first | exact HB.out | apply cA | apply cN | apply cD | refine cS ?_ GE805.out | refine cS ?_ GE806.out | refine cS ?_ GE810.out) | exact HB.out)⟩⟩
      case round =>
        clear H'
        try clear c15
        try clear c18
        try clear c20
        try clear hcz13_0
        try clear hcz13_1
        try clear hcz24_0
        try clear hcz24_1
        try clear hcz8_0
        try clear hcz8_1
        try clear hcz8_2
        try clear hcz8_3
        try clear hfz13_0
        try clear hfz13_1
        try clear hfz24_0
        try clear hfz24_1
        try clear hfz8_0
        try clear hfz8_1
        try clear hfz8_2
        try clear hfz8_3
        obtain ⟨x7_2, x8_2, rfl, HA, HK2, HO_7, BK805, BK806, BK810, HB⟩ := hrel
        cases gk with
        | zero => exact absurd HA.out (by simp [damasklaw05_SpanHolds.l0])
        | succ k2 =>
          have H := HA.out
          clear HA
          simp only [damasklaw05_SpanHolds.l0] at H
          have HC25 := Aside0.mk H
          clear H
          go_upto_region 6 with (fail)
          go_cut [43] (fun v43 wc => ∃ (kq : Nat) (x43_24 : Bool), v43 = .bool x43_24 ∧ Aside0 (damasklaw05_SpanHolds.j2 kq x7_2 x8_2 x43_24 a0_0 a0_1 a0_2 l0_3 a1_0 a1_1 a1_2 t807 t808 = some r) ∧ Aside0 (kq ≤ k2) ∧ Aside0 (Kd.R (Kd.int .i64) 3 wc w.heap.size (fun _ => True) u7 x7_2) ∧ Aside0 (wc.heap[gb805]? = some (.cells #[.int .i64 a0_0, .int .i64 a0_1, .int .i64 a0_2, (.slice A0_3 l0_3.length c0_3)] 45 (0, 0))) ∧ Aside0 (wc.heap[gb806]? = some (.cells #[.int .i64 a1_0, .int .i64 a1_1, .int .i64 a1_2] 60 (0, 0))) ∧ Aside0 (wc.heap[gb810]? = some (.cells #[.int .i64 t807, .int .i64 t808] 47 (0, 0))) ∧ Aside0 (Below w.heap.size w wc))
          case first =>
            have H := HC25.out
            clear HC25
            by_cases c26 : x8_2 < (l0_3.length : Int)
            · rw [if_pos c26] at H
              have c26b0 : decide (x8_2 < (l0_3.length : Int)) = true := decide_eq_true c26
              clear c26
              (first | rw [c26b0] | (simp only [i64_w, i32_w]; rw [c26b0]) | skip)
              have H' := Aside0.mk H
              clear H
              have hnb27 := NB805_806.out
              have hnc27 := NB806_805.out
              have hnb28 := NB805_810.out
              have hnc28 := NB810_805.out
              have hcz29_0 : wr.cell? ⟨gb805, 0, none⟩ = some (.int .i64 a0_0) := (bC BK805.out 0).trans rfl
              have hcz29_1 : wr.cell? ⟨gb805, 1, none⟩ = some (.int .i64 a0_1) := (bC BK805.out 1).trans rfl
              have hcz29_2 : wr.cell? ⟨gb805, 2, none⟩ = some (.int .i64 a0_2) := (bC BK805.out 2).trans rfl
              have hcz29_3 : wr.cell? ⟨gb805, 3, none⟩ = some (.slice A0_3 l0_3.length c0_3) := (bC BK805.out 3).trans rfl
              have hfz29_0 := bZ BK805.out 0
              have hfz29_1 := bZ BK805.out 1
              have hfz29_2 := bZ BK805.out 2
              have hfz29_3 := bZ BK805.out 3
              go_wp2
              go_meet
              case rel => exact ⟨_, (decide (x8_2 < 3)), (by first | rfl | (simp; done) | (simp [*]; done)), H', ⟨by have := HJ3.out; have := HK2.out; first | omega | exact Nat.le_refl _⟩, ⟨by (with_reducible repeat (first | apply Kd.R_alloc | apply Kd.R_drewN | apply Kd.R_drew)); exact HO_7.out⟩, ⟨by (with_reducible repeat (first | apply bN | apply bD | apply bA)); exact BK805.out⟩, ⟨by (with_reducible repeat (first | apply bN | apply bD | apply bA)); exact BK806.out⟩, ⟨by (with_reducible repeat (first | apply bN | apply bD | apply bA)); exact BK810.out⟩, ⟨by repeat (first | (with_reducible first | exact HB.out | apply cA | apply cN | apply cD | refine cS ?_ GE805.out | refine cS ?_ GE806.out | refine cS ?_ GE810.out) | exact HB.out)⟩⟩
            rw [if_neg c26] at H
            have c26b0 : decide (x8_2 < (l0_3.length : Int)) = false := decide_eq_false c26
            clear c26
            (first | rw [c26b0] | (simp only [i64_w, i32_w]; rw [c26b0]) | skip)
            have H' := Aside0.mk H
            clear H
            have hnb30 := NB805_806.out
            have hnc30 := NB806_805.out
            have hnb31 := NB805_810.out
            have hnc31 := NB810_805.out
            have hcz32_0 : wr.cell? ⟨gb805, 0, none⟩ = some (.int .i64 a0_0) := (bC BK805.out 0).trans rfl
            have hcz32_1 : wr.cell? ⟨gb805, 1, none⟩ = some (.int .i64 a0_1) := (bC BK805.out 1).trans rfl
            have hcz32_2 : wr.cell? ⟨gb805, 2, none⟩ = some (.int .i64 a0_2) := (bC BK805.out 2).trans rfl
            have hcz32_3 : wr.cell? ⟨gb805, 3, none⟩ = some (.slice A0_3 l0_3.length c0_3) := (bC BK805.out 3).trans rfl
            have hfz32_0 := bZ BK805.out 0
            have hfz32_1 := bZ BK805.out 1
            have hfz32_2 := bZ BK805.out 2
            have hfz32_3 := bZ BK805.out 3
            go_wp2
            go_meet
            case rel => exact ⟨_, (false), (by first | rfl | (simp; done) | (simp [*]; done)), H', ⟨by have := HJ3.out; have := HK2.out; first | omega | exact Nat.le_refl _⟩, ⟨by (with_reducible repeat (first | apply Kd.R_alloc | apply Kd.R_drewN | apply Kd.R_drew)); exact HO_7.out⟩, ⟨by (with_reducible repeat (first | apply bN | apply bD | apply bA)); exact BK805.out⟩, ⟨by (with_reducible repeat (first | apply bN | apply bD | apply bA)); exact BK806.out⟩, ⟨by (with_reducible repeat (first | apply bN | apply bD | apply bA)); exact BK810.out⟩, ⟨by repeat (first | (with_reducible first | exact HB.out | apply cA | apply cN | apply cD | refine cS ?_ GE805.out | refine cS ?_ GE806.out | refine cS ?_ GE810.out) | exact HB.out)⟩⟩
          case rest =>
            clear HC25
            try clear c15
            try clear c18
            try clear c20
            try clear c26
            try clear c26b0
            try clear hcz13_0
            try clear hcz13_1
            try clear hcz24_0
            try clear hcz24_1
            try clear hcz29_0
            try clear hcz29_1
            try clear hcz29_2
            try clear hcz29_3
            try clear hcz32_0
            try clear hcz32_1
            try clear hcz32_2
            try clear hcz32_3
            try clear hcz8_0
            try clear hcz8_1
            try clear hcz8_2
            try clear hcz8_3
            try clear hfz13_0
            try clear hfz13_1
            try clear hfz24_0
            try clear hfz24_1
            try clear hfz29_0
            try clear hfz29_1
            try clear hfz29_2
            try clear hfz29_3
            try clear hfz32_0
            try clear hfz32_1
            try clear hfz32_2
            try clear hfz32_3
            try clear hfz8_0
            try clear hfz8_1
            try clear hfz8_2
            try clear hfz8_3
            obtain ⟨kq, x43_24, rfl, HA, HJ24, HO_7, BK805, BK806, BK810, HB⟩ := hcut
            cases kq with
            | zero => exact absurd HA.out (by simp [damasklaw05_SpanHolds.j2])
            | succ kj24 =>
              have H := HA.out
              clear HA
              simp only [damasklaw05_SpanHolds.j2] at H
              by_cases c33 : x43_24 = true
              · subst c33
                have H1 : (if 0 ≤ x8_2 then (if x8_2 < (l0_3.length : Int) then ((damaskref05_Whole.f ((rd_T47 l0_3 x8_2).f0) ((rd_T47 l0_3 x8_2).f1)).bind fun t818 => (if t818 = true then (if x8_2 < 3 then ((damasklaw05_point.f ((rd_T47 l0_3 x8_2).f0) ((rd_T47 l0_3 x8_2).f1) (rd ([a1_0, a1_1, a1_2] : List Int) x8_2)).bind fun t820 => (if x7_2.length < 17592186044416 then (damasklaw05_SpanHolds.l0 kj24 (x7_2 ++ [t820]) (wrap64 (x8_2 + 1)) a0_0 a0_1 a0_2 l0_3 a1_0 a1_1 a1_2 t807 t808) else (none))) else (none)) else (some false))) else (none)) else (none)) = some r := by rw [if_pos rfl] at H; exact H
                clear H
                have H := H1
                clear H1
                by_cases c34 : 0 ≤ x8_2
                · rw [if_pos c34] at H
                  have c34b0 : decide (0 ≤ x8_2) = true := decide_eq_true c34
                  clear c34
                  by_cases c35 : x8_2 < (l0_3.length : Int)
                  · rw [if_pos c35] at H
                    have c35b0 : decide (x8_2 < (l0_3.length : Int)) = true := decide_eq_true c35
                    clear c35
                    replace H := Option.bind_eq_some_iff.mp H
                    obtain ⟨t818, A360, H⟩ := H
                    replace H : (if t818 = true then (if x8_2 < 3 then ((damasklaw05_point.f ((rd_T47 l0_3 x8_2).f0) ((rd_T47 l0_3 x8_2).f1) (rd ([a1_0, a1_1, a1_2] : List Int) x8_2)).bind fun t820 => (if x7_2.length < 17592186044416 then (damasklaw05_SpanHolds.l0 kj24 (x7_2 ++ [t820]) (wrap64 (x8_2 + 1)) a0_0 a0_1 a0_2 l0_3 a1_0 a1_1 a1_2 t807 t808) else (none))) else (none)) else (some false)) = some r := H
                    have A36 := Aside0.mk A360
                    clear A360
                    by_cases c37 : t818 = true
                    · subst c37
                      have H1 : (if x8_2 < 3 then ((damasklaw05_point.f ((rd_T47 l0_3 x8_2).f0) ((rd_T47 l0_3 x8_2).f1) (rd ([a1_0, a1_1, a1_2] : List Int) x8_2)).bind fun t820 => (if x7_2.length < 17592186044416 then (damasklaw05_SpanHolds.l0 kj24 (x7_2 ++ [t820]) (wrap64 (x8_2 + 1)) a0_0 a0_1 a0_2 l0_3 a1_0 a1_1 a1_2 t807 t808) else (none))) else (none)) = some r := by rw [if_pos rfl] at H; exact H
                      clear H
                      have H := H1
                      clear H1
                      by_cases c38 : x8_2 < 3
                      · rw [if_pos c38] at H
                        have c38b0 : decide (x8_2 < 3) = true := decide_eq_true c38
                        clear c38
                        replace H := Option.bind_eq_some_iff.mp H
                        obtain ⟨t820, A400, H⟩ := H
                        replace H : (if x7_2.length < 17592186044416 then (damasklaw05_SpanHolds.l0 kj24 (x7_2 ++ [t820]) (wrap64 (x8_2 + 1)) a0_0 a0_1 a0_2 l0_3 a1_0 a1_1 a1_2 t807 t808) else (none)) = some r := H
                        have A40 := Aside0.mk A400
                        clear A400
                        by_cases c41 : x7_2.length < 17592186044416
                        · rw [if_pos c41] at H
                          have LMc41 := Aside0.mk c41
                          clear c41
                          obtain ⟨y821, hy821⟩ : ∃ y_ : List Int, y_ = (x7_2 ++ [t820]) := ⟨_, rfl⟩
                          replace H : (damasklaw05_SpanHolds.l0 kj24 y821 (wrap64 (x8_2 + 1)) a0_0 a0_1 a0_2 l0_3 a1_0 a1_1 a1_2 t807 t808) = some r := by first | (rw [hy821]; with_reducible exact H) | (have H2_ := (Option.bind_some _ _).symm.trans H; rw [hy821]; with_reducible exact H2_) | (have H2_ := (Option.bind_some _ _).symm.trans H; with_reducible exact H2_) | with_reducible exact H | (rw [hy821]; exact H) | exact H
                          have Ny821 := Aside0.mk hy821
                          clear hy821
                          have H' := Aside0.mk H
                          clear H
                          have hnb42 := NB805_806.out
                          have hnc42 := NB806_805.out
                          have hnb43 := NB805_810.out
                          have hnc43 := NB810_805.out
                          have hcz44_0 : wc.cell? ⟨gb805, 0, none⟩ = some (.int .i64 a0_0) := (bC BK805.out 0).trans rfl
                          have hcz44_1 : wc.cell? ⟨gb805, 1, none⟩ = some (.int .i64 a0_1) := (bC BK805.out 1).trans rfl
                          have hcz44_2 : wc.cell? ⟨gb805, 2, none⟩ = some (.int .i64 a0_2) := (bC BK805.out 2).trans rfl
                          have hcz44_3 : wc.cell? ⟨gb805, 3, none⟩ = some (.slice A0_3 l0_3.length c0_3) := (bC BK805.out 3).trans rfl
                          have hfz44_0 := bZ BK805.out 0
                          have hfz44_1 := bZ BK805.out 1
                          have hfz44_2 := bZ BK805.out 2
                          have hfz44_3 := bZ BK805.out 3
                          have p817 : 0 ≤ (x8_2 : Int) := of_decide_eq_true (by first | (with_reducible assumption) | assumption)
                          have q817 : x8_2 < (l0_3.length : Int) := of_decide_eq_true (by first | (with_reducible assumption) | assumption)
                          obtain ⟨ad817, e817, hx817_0, hx817_1⟩ := at_T47 HR0_3.out x8_2 p817 q817
                          cases e817
                          replace hx817_0 := (HB.out.cell (wB w hx817_0)).trans hx817_0
                          replace hx817_1 := (HB.out.cell (wB w hx817_1)).trans hx817_1
                          replace p817 := eq_true p817
                          replace q817 := eq_true q817
                          try go_wp2_with (first | ((with_reducible refine gate_callee (f := 31) rfl ?_); refine goesL_ (some 51) rfl rfl Try.func31 (by kernel_rfl) rfl #[.agg #[.int .i64 ((rd_T47 l0_3 x8_2).f0), .int .i64 ((rd_T47 l0_3 x8_2).f1)]] rfl (by (try simp only [List.map_toArray, List.map_cons, List.map_nil]); first | done | rfl | (simp only [List.length_drop, List.length_take]; rfl)) ?_; (with_reducible refine (damaskref05_Whole.calls ((rd_T47 l0_3 x8_2).f0) ((rd_T47 l0_3 x8_2).f1) true _ A36.out).mono ?_); rintro e w45 ⟨rfl, hb⟩; refine ⟨_, rfl, ?_⟩; have n0_ := Aside0.mk (Kd.R_below (by (with_reducible repeat (first | apply Kd.R_alloc | apply Kd.R_drewN | apply Kd.R_drew)); exact HO_7.out) hb); have n1_ := Aside0.mk (bB (g := gb805) (o := .cells #[.int .i64 a0_0, .int .i64 a0_1, .int .i64 a0_2, .slice (some ad817) l0_3.length c0_3] 45 (0, 0)) (by (with_reducible repeat (first | apply bN | apply bD | apply bA)); exact BK805.out) hb); have n2_ := Aside0.mk (bB (g := gb806) (o := .cells #[.int .i64 a1_0, .int .i64 a1_1, .int .i64 a1_2] 60 (0, 0)) (by (with_reducible repeat (first | apply bN | apply bD | apply bA)); exact BK806.out) hb); have n3_ := Aside0.mk (bB (g := gb810) (o := .cells #[.int .i64 t807, .int .i64 t808] 47 (0, 0)) (by (with_reducible repeat (first | apply bN | apply bD | apply bA)); exact BK810.out) hb); have n4_ := Aside0.mk (cT (by repeat (first | (with_reducible first | exact HB.out | apply cA | apply cN | apply cD | refine cS ?_ GE805.out | refine cS ?_ GE806.out | refine cS ?_ GE810.out) | exact HB.out)) hb); clear HO_7; clear BK805; clear BK806; clear BK810; clear HB; have HO_7 := n0_; have BK805 := n1_; have BK806 := n2_; have BK810 := n3_; have HB := n4_; clear n0_ n1_ n2_ n3_ n4_; (try clear hb); (try clear hb2); (try clear hk); (try clear hi)))
                          have n0_ := Aside0.mk (Kd.R_drew HO_7.out)
                          have n1_ := Aside0.mk (bD BK805.out)
                          have n2_ := Aside0.mk (bD BK806.out)
                          have n3_ := Aside0.mk (bD BK810.out)
                          have n4_ := Aside0.mk (cD HB.out)
                          clear HO_7
                          clear BK805
                          clear BK806
                          clear BK810
                          clear HB
                          have HO_7 := n0_
                          have BK805 := n1_
                          have BK806 := n2_
                          have BK810 := n3_
                          have HB := n4_
                          clear n0_ n1_ n2_ n3_ n4_
                          have p819 : 0 ≤ (x8_2 : Int) := of_decide_eq_true (by first | (with_reducible assumption) | assumption)
                          have q819 : x8_2 < (l0_3.length : Int) := of_decide_eq_true (by first | (with_reducible assumption) | assumption)
                          obtain ⟨ad819, e819, hx819_0, hx819_1⟩ := at_T47 HR0_3.out x8_2 p819 q819
                          have hw819_1 := hx819_1
                          have hw819_0 := hx819_0
                          obtain rfl : ad817 = ad819 := (by injection e819)
                          replace hx819_0 := (HB.out.cell (wB w hx819_0)).trans hx819_0
                          replace hx819_1 := (HB.out.cell (wB w hx819_1)).trans hx819_1
                          replace p819 := eq_true p819
                          replace q819 := eq_true q819
                          have p39 : 0 ≤ (x8_2 : Int) := of_decide_eq_true (by first | (with_reducible assumption) | assumption)
                          have q39 : (x8_2 : Int) < (3 : Int) := of_decide_eq_true (by first | (with_reducible assumption) | assumption)
                          have hk39 := Aside0.mk (Op.rd_cell (k := .i64) ([a1_0, a1_1, a1_2] : List Int) x8_2 p39 q39)
                          replace p39 := eq_true p39
                          replace q39 := eq_true q39
                          refine start_ (n := 13) (S := fun w' => w'.cell? ⟨gb805, 0, none⟩ = some (.int .i64 a0_0) ∧ w'.cell? ⟨gb805, 1, none⟩ = some (.int .i64 a0_1) ∧ w'.cell? ⟨gb805, 2, none⟩ = some (.int .i64 a0_2) ∧ w'.cell? ⟨gb805, 3, none⟩ = some (.slice (some ad817) l0_3.length c0_3) ∧ w'.cell? ⟨gb806, 0, none⟩ = some (.int .i64 a1_0) ∧ w'.cell? ⟨gb806, 1, none⟩ = some (.int .i64 a1_1) ∧ w'.cell? ⟨gb806, 2, none⟩ = some (.int .i64 a1_2) ∧ w'.cell? (ad817.add ((x8_2).toNat * 2)) = some (.int .i64 ((rd_T47 l0_3 x8_2).f0)) ∧ w'.cell? ⟨(ad817.add ((x8_2).toNat * 2)).block, (ad817.add ((x8_2).toNat * 2)).off + 1, none⟩ = some (.int .i64 ((rd_T47 l0_3 x8_2).f1)) ∧ w'.cell? ⟨gb806, (x8_2 : Int).toNat, none⟩ = some (.int .i64 (rd ([a1_0, a1_1, a1_2] : List Int) x8_2))) (ds := []) #[false, false, false, false, false, false, false, false, false, false, false, false, false] (by kernel_rfl) rfl rfl ⟨(bC BK805.out 0).trans rfl, (bC BK805.out 1).trans rfl, (bC BK805.out 2).trans rfl, (bC BK805.out 3).trans rfl, (bC BK806.out 0).trans rfl, (bC BK806.out 1).trans rfl, (bC BK806.out 2).trans rfl, ((HB.out.cell (wB w hw819_0)).trans hw819_0), ((HB.out.cell (wB w hw819_1)).trans hw819_1), ((bC BK806.out _).trans hk39.out)⟩ (fun hHeld => ?_); refine with_tabW damasklaw05_SpanHolds.tab10 damasklaw05_SpanHolds.bits10 (fun HT_ HW_ => ?_)
                          generalize w45.drew = w46 at HO_7 BK805 BK806 BK810 HB hx819_0 hx819_1 hHeld ⊢
                          refine pure_ (i := 0) (N := some 53) (v := ?_) (a' := ?_) #[true, false, false, false, false, false, false, false, false, false, false, false, false] rfl rfl (any_of HT_.out (by kernel_rfl)) (fun _ _ _ h => h) (Or.inl ⟨by rfl, ?_⟩) ?_ ?_
                          rotate_left
                          · intro w'
                            go_simp
                            with_reducible rfl
                          rotate_left
                          · simp only [Act.put, List.setIfInBounds_toArray, List.set_cons_zero, List.set_cons_succ, i64_w, i32_w]
                            rfl
                          refine pure_ (i := 1) (N := some 54) (v := ?_) (a' := ?_) #[true, true, false, false, false, false, false, false, false, false, false, false, false] rfl rfl (any_of HT_.out (by kernel_rfl)) (fun _ _ _ h => h) (Or.inl ⟨by rfl, ?_⟩) ?_ ?_
                          rotate_left
                          · intro w'
                            go_simp
                            with_reducible rfl
                          rotate_left
                          · simp only [Act.put, List.setIfInBounds_toArray, List.set_cons_zero, List.set_cons_succ, i64_w, i32_w]
                            rfl
                          refine pure_ (i := 3) (N := some 56) (v := ?_) (a' := ?_) #[true, true, false, true, false, false, false, false, false, false, false, false, false] rfl rfl (any_of HT_.out (by kernel_rfl)) (fun _ _ _ h => h) (Or.inl ⟨by rfl, ?_⟩) ?_ ?_
                          rotate_left
                          · intro w'
                            go_simp
                            with_reducible rfl
                          rotate_left
                          · simp only [Act.put, List.setIfInBounds_toArray, List.set_cons_zero, List.set_cons_succ, i64_w, i32_w]
                            rfl
                          refine pure_ (i := 6) (N := some 59) (v := ?_) (a' := ?_) #[true, true, false, true, false, false, true, false, false, false, false, false, false] rfl rfl (any_of HT_.out (by kernel_rfl)) (fun _ _ _ h => h) (Or.inl ⟨by rfl, ?_⟩) ?_ ?_
                          rotate_left
                          · intro w'
                            go_simp
                            with_reducible rfl
                          rotate_left
                          · simp only [Act.put, List.setIfInBounds_toArray, List.set_cons_zero, List.set_cons_succ, i64_w, i32_w]
                            rfl
                          refine pure_ (i := 7) (N := some 60) (v := ?_) (a' := ?_) #[true, true, false, true, false, false, true, true, false, false, false, false, false] rfl rfl (any_of HT_.out (by kernel_rfl)) (fun _ _ _ h => h) (Or.inl ⟨by rfl, ?_⟩) ?_ ?_
                          rotate_left
                          · intro w'
                            go_simp
                            with_reducible rfl
                          rotate_left
                          · simp only [Act.put, List.setIfInBounds_toArray, List.set_cons_zero, List.set_cons_succ, i64_w, i32_w]
                            rfl
                          refine take_ (i := 2) (N := some 55) (v := ?_) (a' := ?_) #[true, true, true, true, false, false, true, true, false, false, false, false, false] rfl rfl (take_ofW HT_.out HW_.out (by kernel_rfl)) (fun _ _ _ h => h) (Or.inl ⟨by rfl, ?_⟩) hHeld ?_ ?_
                          rotate_left
                          · rintro w' ⟨s0, s1, s2, s3, s4, s5, s6, s7, s8, s9⟩
                            go_simp
                            with_reducible rfl
                          rotate_left
                          · simp only [Act.put, List.setIfInBounds_toArray, List.set_cons_zero, List.set_cons_succ, i64_w, i32_w]
                            rfl
                          refine pure_ (i := 4) (N := some 57) (v := ?_) (a' := ?_) #[true, true, true, true, true, false, true, true, false, false, false, false, false] rfl rfl (any_of HT_.out (by kernel_rfl)) (fun _ _ _ h => h) (Or.inl ⟨by rfl, ?_⟩) ?_ ?_
                          rotate_left
                          · intro w'
                            go_simp
                            with_reducible rfl
                          rotate_left
                          · simp only [Act.put, List.setIfInBounds_toArray, List.set_cons_zero, List.set_cons_succ, i64_w, i32_w]
                            rfl
                          refine take_ (i := 5) (N := some 58) (v := ?_) (a' := ?_) #[true, true, true, true, true, true, true, true, false, false, false, false, false] rfl rfl (take_ofW HT_.out HW_.out (by kernel_rfl)) (fun _ _ _ h => h) (Or.inl ⟨by rfl, ?_⟩) hHeld ?_ ?_
                          rotate_left
                          · rintro w' ⟨s0, s1, s2, s3, s4, s5, s6, s7, s8, s9⟩
                            go_simp
                            with_reducible rfl
                          rotate_left
                          · simp only [Act.put, List.setIfInBounds_toArray, List.set_cons_zero, List.set_cons_succ, i64_w, i32_w]
                            rfl
                          refine take_ (i := 8) (N := some 61) (v := ?_) (a' := ?_) #[true, true, true, true, true, true, true, true, true, false, false, false, false] rfl rfl (take_ofW HT_.out HW_.out (by kernel_rfl)) (fun _ _ _ h => h) (Or.inl ⟨by rfl, ?_⟩) hHeld ?_ ?_
                          rotate_left
                          · rintro w' ⟨s0, s1, s2, s3, s4, s5, s6, s7, s8, s9⟩
                            go_simp
                            with_reducible rfl
                          rotate_left
                          · simp only [Act.put, List.setIfInBounds_toArray, List.set_cons_zero, List.set_cons_succ, i64_w, i32_w]
                            rfl
                          refine one_ (i := 9) (N := some 62) #[true, true, true, true, true, true, true, true, true, true, false, false, false] rfl rfl (one_of HT_.out (by kernel_rfl)) (by decide) (fun K hK => ?_)
                          refine goes_ Try.func34 (by kernel_rfl) rfl #[.agg #[.int .i64 ((rd_T47 l0_3 x8_2).f0), .int .i64 ((rd_T47 l0_3 x8_2).f1)], .int .i64 (rd ([a1_0, a1_1, a1_2] : List Int) x8_2)] (by rfl) rfl rfl (by (try simp only [List.map_toArray, List.map_cons, List.map_nil]); first | done | rfl | (simp only [List.length_drop, List.length_take]; rfl)) ?_
                          with_reducible refine (damasklaw05_point.calls ((rd_T47 l0_3 x8_2).f0) ((rd_T47 l0_3 x8_2).f1) (rd ([a1_0, a1_1, a1_2] : List Int) x8_2) t820 _ A40.out).mono ?_
                          rintro e w47 ⟨rfl, hb⟩
                          refine ⟨_, rfl, ?_⟩
                          have n0_ := Aside0.mk (Kd.R_below (by (with_reducible repeat (first | apply Kd.R_alloc | apply Kd.R_drewN | apply Kd.R_drew)); exact HO_7.out) hb)
                          have n1_ := Aside0.mk (bB (g := gb805) (o := .cells #[.int .i64 a0_0, .int .i64 a0_1, .int .i64 a0_2, .slice (some ad817) l0_3.length c0_3] 45 (0, 0)) (by (with_reducible repeat (first | apply bN | apply bD | apply bA)); exact BK805.out) hb)
                          have n2_ := Aside0.mk (bB (g := gb806) (o := .cells #[.int .i64 a1_0, .int .i64 a1_1, .int .i64 a1_2] 60 (0, 0)) (by (with_reducible repeat (first | apply bN | apply bD | apply bA)); exact BK806.out) hb)
                          have n3_ := Aside0.mk (bB (g := gb810) (o := .cells #[.int .i64 t807, .int .i64 t808] 47 (0, 0)) (by (with_reducible repeat (first | apply bN | apply bD | apply bA)); exact BK810.out) hb)
                          have n4_ := Aside0.mk (cT (by repeat (first | (with_reducible first | exact HB.out | apply cA | apply cN | apply cD | refine cS ?_ GE805.out | refine cS ?_ GE806.out | refine cS ?_ GE810.out) | exact HB.out)) hb)
                          clear HO_7
                          clear BK805
                          clear BK806
                          clear BK810
                          clear HB
                          have HO_7 := n0_
                          have BK805 := n1_
                          have BK806 := n2_
                          have BK810 := n3_
                          have HB := n4_
                          clear n0_ n1_ n2_ n3_ n4_
                          (try clear hb)
                          (try clear hb2)
                          (try clear hk)
                          (try clear hi)
                          refine hK.out _ _ ⟨(bC BK805.out 0).trans rfl, (bC BK805.out 1).trans rfl, (bC BK805.out 2).trans rfl, (bC BK805.out 3).trans rfl, (bC BK806.out 0).trans rfl, (bC BK806.out 1).trans rfl, (bC BK806.out 2).trans rfl, ((HB.out.cell (wB w hw819_0)).trans hw819_0), ((HB.out.cell (wB w hw819_1)).trans hw819_1), ((bC BK806.out _).trans hk39.out)⟩ (fun hHeld => ?_)
                          clear hK K
                          refine norm_ (a' := ?_) ?_ ?_
                          rotate_left
                          · show Act.put _ (some 62) _ = _
                            simp only [Act.put, List.setIfInBounds_toArray, List.set_cons_zero, List.set_cons_succ, i64_w, i32_w]
                            rfl
                          refine one_ (i := 10) (N := some 63) #[true, true, true, true, true, true, true, true, true, true, true, false, false] rfl rfl (one_of HT_.out (by kernel_rfl)) (by decide) (fun K hK => ?_)
                          refine value_ (w1 := ?_) (v := ?_) (by rfl) rfl ?_ ?_
                          rotate_left 2
                          · go_simp
                            constructor
                            · rfl
                            · rfl
                          refine hK.out _ _ ⟨(bC (bA BK805.out _) 0).trans rfl, (bC (bA BK805.out _) 1).trans rfl, (bC (bA BK805.out _) 2).trans rfl, (bC (bA BK805.out _) 3).trans rfl, (bC (bA BK806.out _) 0).trans rfl, (bC (bA BK806.out _) 1).trans rfl, (bC (bA BK806.out _) 2).trans rfl, (World.cell?_alloc_lt _ _ _ (wB _ (((HB.out.cell (wB w hw819_0)).trans hw819_0)))).trans (((HB.out.cell (wB w hw819_0)).trans hw819_0)), (World.cell?_alloc_lt _ _ _ (wB _ (((HB.out.cell (wB w hw819_1)).trans hw819_1)))).trans (((HB.out.cell (wB w hw819_1)).trans hw819_1)), ((bC (bA BK806.out _) _).trans hk39.out)⟩ (fun hHeld => ?_)
                          clear hK K
                          refine norm_ (a' := ?_) ?_ ?_
                          rotate_left
                          · show Act.put _ (some 63) _ = _
                            simp only [Act.put, List.setIfInBounds_toArray, List.set_cons_zero, List.set_cons_succ, i64_w, i32_w]
                            rfl
                          refine one_ (i := 11) (N := some 64) #[true, true, true, true, true, true, true, true, true, true, true, true, false] rfl rfl (one_of HT_.out (by kernel_rfl)) (by decide) (fun K hK => ?_)
                          refine Kd.R_append_step (Kd.int .i64) (w0 := w) w.heap.size (by rfl) (.tmp 53) (.tmp 63) 26 3 (.int .i64 0) 8 rfl Try.underlying26 info3 rfl (by decide) (by omega) u7 x7_2 t820 [.int .i64 t820] (fun _ => True) (fun _ => False) rfl rfl ?aP (fun _ hk => hk.elim) ?aF ?aO ?aB ?aS ?aL ?_
                          (case aP => exact rfl)
                          (case aB => exact (by repeat (first | (with_reducible first | exact HB.out | apply cA | apply cN | apply cD | refine cS ?_ GE805.out | refine cS ?_ GE806.out | refine cS ?_ GE810.out) | exact HB.out)))
                          (case aF => exact (fun _ _ => trivial))
                          (case aO => exact (by (with_reducible repeat (first | apply Kd.R_alloc | apply Kd.R_drewN | apply Kd.R_drew)); exact HO_7.out))
                          (case aS => exact (cZ (by repeat (first | (with_reducible first | exact HB.out | apply cA | apply cN | apply cD | refine cS ?_ GE805.out | refine cS ?_ GE806.out | refine cS ?_ GE810.out) | exact HB.out))))
                          (case aL => have := LMc41.out; omega)
                          intro v822 w48 ho hb hg hat
                          rw [← Ny821.out] at ho
                          have n0_ := Aside0.mk (blk_grown (g := gb805) (o := .cells #[.int .i64 a0_0, .int .i64 a0_1, .int .i64 a0_2, .slice (some ad817) l0_3.length c0_3] 45 (0, 0)) (by (with_reducible repeat (first | apply bN | apply bD | apply bA)); exact BK805.out) hg (Kd.R_ne HO_7.out BK805.out (by decide)))
                          have n1_ := Aside0.mk (blk_grown (g := gb806) (o := .cells #[.int .i64 a1_0, .int .i64 a1_1, .int .i64 a1_2] 60 (0, 0)) (by (with_reducible repeat (first | apply bN | apply bD | apply bA)); exact BK806.out) hg (Kd.R_ne HO_7.out BK806.out (by decide)))
                          have n2_ := Aside0.mk (blk_grown (g := gb810) (o := .cells #[.int .i64 t807, .int .i64 t808] 47 (0, 0)) (by (with_reducible repeat (first | apply bN | apply bD | apply bA)); exact BK810.out) hg (Kd.R_ne HO_7.out BK810.out (by decide)))
                          have n3_ := Aside0.mk (hb)
                          have n4_ := Aside0.mk (ho)
                          clear BK805
                          clear BK806
                          clear BK810
                          clear HB
                          clear HO_7
                          have BK805 := n0_
                          have BK806 := n1_
                          have BK810 := n2_
                          have HB := n3_
                          have HO823 := n4_
                          clear n0_ n1_ n2_ n3_ n4_
                          clear ho hb hg hat
                          refine hK.out _ _ ⟨(bC BK805.out 0).trans rfl, (bC BK805.out 1).trans rfl, (bC BK805.out 2).trans rfl, (bC BK805.out 3).trans rfl, (bC BK806.out 0).trans rfl, (bC BK806.out 1).trans rfl, (bC BK806.out 2).trans rfl, ((HB.out.cell (wB w hw819_0)).trans hw819_0), ((HB.out.cell (wB w hw819_1)).trans hw819_1), ((bC BK806.out _).trans hk39.out)⟩ (fun hHeld => ?_)
                          clear hK K
                          refine norm_ (a' := ?_) ?_ ?_
                          rotate_left
                          · show Act.put _ (some 64) _ = _
                            simp only [Act.put, List.setIfInBounds_toArray, List.set_cons_zero, List.set_cons_succ, i64_w, i32_w]
                            rfl
                          refine pure_ (i := 12) (N := some 7) (v := ?_) (a' := ?_) #[true, true, true, true, true, true, true, true, true, true, true, true, true] rfl rfl (any_of HT_.out (by kernel_rfl)) (fun _ _ _ h => h) (Or.inl ⟨by rfl, ?_⟩) ?_ ?_
                          rotate_left
                          · intro w'
                            go_simp
                            with_reducible rfl
                          rotate_left
                          · simp only [Act.put, List.setIfInBounds_toArray, List.set_cons_zero, List.set_cons_succ, i64_w, i32_w]
                            rfl
                          refine done_ (done_of HT_.out (by kernel_rfl)) ?_
                          try go_wp2
                          go_roundg kj24
                          case measure => have := HJ3.out; have := HK2.out; have := HJ24.out; omega
                          case rel => exact ⟨(y821), (wrap64 (x8_2 + 1)), (by first | rfl | (simp; done) | (simp [*]; done)), H', ⟨by have := HJ3.out; have := HK2.out; have := HJ24.out; omega⟩, ⟨by (with_reducible repeat (first | apply Kd.R_alloc | apply Kd.R_drewN | apply Kd.R_drew)); exact HO823.out⟩, ⟨by (with_reducible repeat (first | apply bN | apply bD | apply bA)); exact BK805.out⟩, ⟨by (with_reducible repeat (first | apply bN | apply bD | apply bA)); exact BK806.out⟩, ⟨by (with_reducible repeat (first | apply bN | apply bD | apply bA)); exact BK810.out⟩, ⟨by repeat (first | (with_reducible first | exact HB.out | apply cA | apply cN | apply cD | refine cS ?_ GE805.out | refine cS ?_ GE806.out | refine cS ?_ GE810.out) | exact HB.out)⟩⟩
                        rw [if_neg c41] at H
                        exact absurd H (by simp)
                      rw [if_neg c38] at H
                      exact absurd H (by simp)
                    replace c37 := Bool.eq_false_iff.mpr c37
                    subst c37
                    have H1 : (some false) = some r := by rw [if_neg (show ¬ (false = true) by decide)] at H; exact H
                    clear H
                    have H := H1
                    clear H1
                    exact absurd hrT.out (by have h_ := Option.some.inj H; rw [← h_]; decide)
                  rw [if_neg c35] at H
                  exact absurd H (by simp)
                rw [if_neg c34] at H
                exact absurd H (by simp)
              replace c33 := Bool.eq_false_iff.mpr c33
              subst c33
              have H1 : ((arith_Value.f kj24 a0_0 a0_1 a0_2 x7_2).bind fun bt813 => (if (x7_2.length : Int) = (l0_3.length : Int) then ((damaskref05_Whole.f t807 t808).bind fun t815 => (if t815 = true then (if bt813.2 = 0 then ((span_Has.f t807 t808 bt813.1).bind fun t816 => (some t816)) else (some false)) else (some false))) else (some false))) = some r := by rw [if_neg (show ¬ (false = true) by decide)] at H; exact H
              clear H
              have H := H1
              clear H1
              replace H := Option.bind_eq_some_iff.mp H
              obtain ⟨⟨t813, t814⟩, A490, H⟩ := H
              replace H : (if (x7_2.length : Int) = (l0_3.length : Int) then ((damaskref05_Whole.f t807 t808).bind fun t815 => (if t815 = true then (if t814 = 0 then ((span_Has.f t807 t808 t813).bind fun t816 => (some t816)) else (some false)) else (some false))) else (some false)) = some r := H
              have A49 := Aside0.mk A490
              clear A490
              by_cases c50 : (x7_2.length : Int) = (l0_3.length : Int)
              · rw [if_pos c50] at H
                have c50b0 : ((x7_2.length : Int) == (l0_3.length : Int)) = true := beq_iff_eq.mpr c50
                have c50b1 : ((x7_2.length : Int) != (l0_3.length : Int)) = false := bne_eq_false_iff_eq.mpr c50
                have c50b2 : (x7_2.length == l0_3.length) = true := by first | simpa using c50 | (simp at c50 ⊢; omega)
                clear c50
                replace H := Option.bind_eq_some_iff.mp H
                obtain ⟨t815, A510, H⟩ := H
                replace H : (if t815 = true then (if t814 = 0 then ((span_Has.f t807 t808 t813).bind fun t816 => (some t816)) else (some false)) else (some false)) = some r := H
                have A51 := Aside0.mk A510
                clear A510
                by_cases c52 : t815 = true
                · subst c52
                  have H1 : (if t814 = 0 then ((span_Has.f t807 t808 t813).bind fun t816 => (some t816)) else (some false)) = some r := by rw [if_pos rfl] at H; exact H
                  clear H
                  have H := H1
                  clear H1
                  by_cases c53 : t814 = 0
                  · rw [if_pos c53] at H
                    have c53b0 : (t814 == 0) = true := beq_iff_eq.mpr c53
                    have c53b1 : (t814 != 0) = false := bne_eq_false_iff_eq.mpr c53
                    clear c53
                    replace H := Option.bind_eq_some_iff.mp H
                    obtain ⟨t816, A540, H⟩ := H
                    replace H : (some t816) = some r := H
                    have A54 := Aside0.mk A540
                    clear A540
                    obtain rfl := Option.some.inj H
                    have hnb55 := NB805_806.out
                    have hnc55 := NB806_805.out
                    have hnb56 := NB805_810.out
                    have hnc56 := NB810_805.out
                    have hcz57_0 : wc.cell? ⟨gb805, 0, none⟩ = some (.int .i64 a0_0) := (bC BK805.out 0).trans rfl
                    have hcz57_1 : wc.cell? ⟨gb805, 1, none⟩ = some (.int .i64 a0_1) := (bC BK805.out 1).trans rfl
                    have hcz57_2 : wc.cell? ⟨gb805, 2, none⟩ = some (.int .i64 a0_2) := (bC BK805.out 2).trans rfl
                    have hcz57_3 : wc.cell? ⟨gb805, 3, none⟩ = some (.slice A0_3 l0_3.length c0_3) := (bC BK805.out 3).trans rfl
                    have hfz57_0 := bZ BK805.out 0
                    have hfz57_1 := bZ BK805.out 1
                    have hfz57_2 := bZ BK805.out 2
                    have hfz57_3 := bZ BK805.out 3
                    obtain ⟨Ao58, co58, eo58⟩ := Kd.R_slice HO_7.out
                    subst eo58
                    go_wp2_with (first | ((with_reducible refine gate_callee (f := 23) rfl ?_); refine goesL_ (some 73) rfl rfl Try.func23 (by kernel_rfl) rfl #[.int .i64 a0_0, .int .i64 a0_1, .int .i64 a0_2, .slice Ao58 x7_2.length co58] rfl (by (try simp only [List.map_toArray, List.map_cons, List.map_nil]); first | done | rfl | (simp only [List.length_drop, List.length_take]; rfl)) ?_; (with_reducible refine (arith_Value.calls kj24 a0_0 a0_1 a0_2 _ _ x7_2 t813 t814 _ ?side1 ?side2 A49.out).mono ?_); (case side1 => repeat (first | exact (Kd.R_reads' HO_7.out).2.2 | (with_reducible refine Kd.C_alloc ?_ _) | (with_reducible refine Kd.C_drewN ?_ _) | (with_reducible refine Kd.C_drew ?_))); (case side2 => exact (Kd.R_reads' HO_7.out).2.1); rintro e w59 ⟨rfl, hb⟩; refine ⟨_, rfl, ?_⟩; have n0_ := Aside0.mk (Kd.R_below (by (with_reducible repeat (first | apply Kd.R_alloc | apply Kd.R_drewN | apply Kd.R_drew)); exact HO_7.out) hb); have n1_ := Aside0.mk (bB (g := gb805) (o := .cells #[.int .i64 a0_0, .int .i64 a0_1, .int .i64 a0_2, .slice A0_3 l0_3.length c0_3] 45 (0, 0)) (by (with_reducible repeat (first | apply bN | apply bD | apply bA)); exact BK805.out) hb); have n2_ := Aside0.mk (bB (g := gb806) (o := .cells #[.int .i64 a1_0, .int .i64 a1_1, .int .i64 a1_2] 60 (0, 0)) (by (with_reducible repeat (first | apply bN | apply bD | apply bA)); exact BK806.out) hb); have n3_ := Aside0.mk (bB (g := gb810) (o := .cells #[.int .i64 t807, .int .i64 t808] 47 (0, 0)) (by (with_reducible repeat (first | apply bN | apply bD | apply bA)); exact BK810.out) hb); have n4_ := Aside0.mk (cT (by repeat (first | (with_reducible first | exact HB.out | apply cA | apply cN | apply cD | refine cS ?_ GE805.out | refine cS ?_ GE806.out | refine cS ?_ GE810.out) | exact HB.out)) hb); clear HO_7; clear BK805; clear BK806; clear BK810; clear HB; have HO_7 := n0_; have BK805 := n1_; have BK806 := n2_; have BK810 := n3_; have HB := n4_; clear n0_ n1_ n2_ n3_ n4_; (try clear hb); (try clear hb2); (try clear hk); (try clear hi); have hcz60_0 : w59.cell? ⟨gb805, 0, none⟩ = some (.int .i64 a0_0) := (bC BK805.out 0).trans rfl; have hcz60_1 : w59.cell? ⟨gb805, 1, none⟩ = some (.int .i64 a0_1) := (bC BK805.out 1).trans rfl; have hcz60_2 : w59.cell? ⟨gb805, 2, none⟩ = some (.int .i64 a0_2) := (bC BK805.out 2).trans rfl; have hcz60_3 : w59.cell? ⟨gb805, 3, none⟩ = some (.slice A0_3 l0_3.length c0_3) := (bC BK805.out 3).trans rfl; have hfz60_0 := bZ BK805.out 0; have hfz60_1 := bZ BK805.out 1; have hfz60_2 := bZ BK805.out 2; have hfz60_3 := bZ BK805.out 3; have hnb61 := NB810_806.out; have hnc61 := NB806_810.out; have hcz62_0 : w59.cell? ⟨gb810, 0, none⟩ = some (.int .i64 t807) := (bC BK810.out 0).trans rfl; have hcz62_1 : w59.cell? ⟨gb810, 1, none⟩ = some (.int .i64 t808) := (bC BK810.out 1).trans rfl; have hfz62_0 := bZ BK810.out 0; have hfz62_1 := bZ BK810.out 1) | (go_at_call 31; (with_reducible refine (damaskref05_Whole.calls t807 t808 true _ A51.out).mono ?_); rintro e w63 ⟨rfl, hb⟩; have n0_ := Aside0.mk (Kd.R_below (by (with_reducible repeat (first | apply Kd.R_alloc | apply Kd.R_drewN | apply Kd.R_drew)); exact HO_7.out) hb); have n1_ := Aside0.mk (bB (g := gb805) (o := .cells #[.int .i64 a0_0, .int .i64 a0_1, .int .i64 a0_2, .slice A0_3 l0_3.length c0_3] 45 (0, 0)) (by (with_reducible repeat (first | apply bN | apply bD | apply bA)); exact BK805.out) hb); have n2_ := Aside0.mk (bB (g := gb806) (o := .cells #[.int .i64 a1_0, .int .i64 a1_1, .int .i64 a1_2] 60 (0, 0)) (by (with_reducible repeat (first | apply bN | apply bD | apply bA)); exact BK806.out) hb); have n3_ := Aside0.mk (bB (g := gb810) (o := .cells #[.int .i64 t807, .int .i64 t808] 47 (0, 0)) (by (with_reducible repeat (first | apply bN | apply bD | apply bA)); exact BK810.out) hb); have n4_ := Aside0.mk (cT (by repeat (first | (with_reducible first | exact HB.out | apply cA | apply cN | apply cD | refine cS ?_ GE805.out | refine cS ?_ GE806.out | refine cS ?_ GE810.out) | exact HB.out)) hb); clear HO_7; clear BK805; clear BK806; clear BK810; clear HB; have HO_7 := n0_; have BK805 := n1_; have BK806 := n2_; have BK810 := n3_; have HB := n4_; clear n0_ n1_ n2_ n3_ n4_; (try clear hb); (try clear hb2); (try clear hk); (try clear hi); have hcz64_0 : w63.cell? ⟨gb810, 0, none⟩ = some (.int .i64 t807) := (bC BK810.out 0).trans rfl; have hcz64_1 : w63.cell? ⟨gb810, 1, none⟩ = some (.int .i64 t808) := (bC BK810.out 1).trans rfl; have hfz64_0 := bZ BK810.out 0; have hfz64_1 := bZ BK810.out 1) | (go_at_call 32; (with_reducible refine (span_Has.calls t807 t808 t813 t816 _ A54.out).mono ?_); rintro e w65 ⟨rfl, hb⟩; have n0_ := Aside0.mk (Kd.R_below (by (with_reducible repeat (first | apply Kd.R_alloc | apply Kd.R_drewN | apply Kd.R_drew)); exact HO_7.out) hb); have n1_ := Aside0.mk (bB (g := gb805) (o := .cells #[.int .i64 a0_0, .int .i64 a0_1, .int .i64 a0_2, .slice A0_3 l0_3.length c0_3] 45 (0, 0)) (by (with_reducible repeat (first | apply bN | apply bD | apply bA)); exact BK805.out) hb); have n2_ := Aside0.mk (bB (g := gb806) (o := .cells #[.int .i64 a1_0, .int .i64 a1_1, .int .i64 a1_2] 60 (0, 0)) (by (with_reducible repeat (first | apply bN | apply bD | apply bA)); exact BK806.out) hb); have n3_ := Aside0.mk (bB (g := gb810) (o := .cells #[.int .i64 t807, .int .i64 t808] 47 (0, 0)) (by (with_reducible repeat (first | apply bN | apply bD | apply bA)); exact BK810.out) hb); have n4_ := Aside0.mk (cT (by repeat (first | (with_reducible first | exact HB.out | apply cA | apply cN | apply cD | refine cS ?_ GE805.out | refine cS ?_ GE806.out | refine cS ?_ GE810.out) | exact HB.out)) hb); clear HO_7; clear BK805; clear BK806; clear BK810; clear HB; have HO_7 := n0_; have BK805 := n1_; have BK806 := n2_; have BK810 := n3_; have HB := n4_; clear n0_ n1_ n2_ n3_ n4_; (try clear hb); (try clear hb2); (try clear hk); (try clear hi)))
                    go_ret
                    exact ⟨by first | rfl | (simp [errW_none, errW_some] <;> rfl) | (simp [*, errW_none, errW_some] <;> rfl), by repeat (first | (with_reducible first | exact HB.out | apply cA | apply cN | apply cD | refine cS ?_ GE805.out | refine cS ?_ GE806.out | refine cS ?_ GE810.out) | exact HB.out)⟩
                  rw [if_neg c53] at H
                  have c53b0 : (t814 == 0) = false := beq_eq_false_iff_ne.mpr c53
                  have c53b1 : (t814 != 0) = true := bne_iff_ne.mpr c53
                  exact absurd hrT.out (by have h_ := Option.some.inj H; rw [← h_]; decide)
                replace c52 := Bool.eq_false_iff.mpr c52
                subst c52
                have H1 : (some false) = some r := by rw [if_neg (show ¬ (false = true) by decide)] at H; exact H
                clear H
                have H := H1
                clear H1
                exact absurd hrT.out (by have h_ := Option.some.inj H; rw [← h_]; decide)
              rw [if_neg c50] at H
              have c50b0 : ((x7_2.length : Int) == (l0_3.length : Int)) = false := beq_eq_false_iff_ne.mpr c50
              have c50b1 : ((x7_2.length : Int) != (l0_3.length : Int)) = true := bne_iff_ne.mpr c50
              have c50b2 : (x7_2.length == l0_3.length) = false := by first | simpa using c50 | (simp at c50 ⊢; omega)
              exact absurd hrT.out (by have h_ := Option.some.inj H; rw [← h_]; decide)

/-- THE ONE PURE STATEMENT of damasklaw05_SpanHolds: yours. -/
def damasklaw05_SpanHolds.Pure : Prop := ∀ (a0_0 : Int) (a0_1 : Int) (a0_2 : Int) (l0_3 : List (S47)) (a1_0 : Int) (a1_1 : Int) (a1_2 : Int), (Lit.int .i64 a0_0).wf = true → (Lit.int .i64 a0_1).wf = true → (Lit.int .i64 a0_2).wf = true → l0_3.length ≤ maxLen → l0_3.length * 16 ≤ 140737488351232 → (∀ x ∈ l0_3, (Lit.int .i64 x.f0).wf = true ∧ (Lit.int .i64 x.f1).wf = true) → (Lit.int .i64 a1_0).wf = true → (Lit.int .i64 a1_1).wf = true → (Lit.int .i64 a1_2).wf = true → ∃ k, damasklaw05_SpanHolds.f k a0_0 a0_1 a0_2 l0_3 a1_0 a1_1 a1_2 = some true
theorem damasklaw05_SpanHolds.walk (P : damasklaw05_SpanHolds.Pure) (a0_0 : Int) (a0_1 : Int) (a0_2 : Int) (A0_3 : Option Addr) (c0_3 : Nat) (l0_3 : List (S47)) (a1_0 : Int) (a1_1 : Int) (a1_2 : Int) (w : World) (o0_0 : (Lit.int .i64 a0_0).wf = true) (o0_1 : (Lit.int .i64 a0_1).wf = true) (o0_2 : (Lit.int .i64 a0_2).wf = true) (hr0_3 : Kd.C k47 w A0_3 l0_3.length l0_3) (hc0_3 : l0_3.length ≤ c0_3) (m0_3 : l0_3.length ≤ maxLen) (b0_3 : l0_3.length * 16 ≤ 140737488351232) (o0_3 : ∀ x ∈ l0_3, (Lit.int .i64 x.f0).wf = true ∧ (Lit.int .i64 x.f1).wf = true) (o1_0 : (Lit.int .i64 a1_0).wf = true) (o1_1 : (Lit.int .i64 a1_1).wf = true) (o1_2 : (Lit.int .i64 a1_2).wf = true) :
    Calls Try.prog 14 #[.agg #[.int .i64 a0_0, .int .i64 a0_1, .int .i64 a0_2, .slice A0_3 l0_3.length c0_3], .agg #[.int .i64 a1_0, .int .i64 a1_1, .int .i64 a1_2]] w fun e w' => e = .returned (.bool true) ∧ Below w.heap.size w w' := by
  obtain ⟨k, h⟩ := P a0_0 a0_1 a0_2 l0_3 a1_0 a1_1 a1_2 o0_0 o0_1 o0_2 m0_3 b0_3 o0_3 o1_0 o1_1 o1_2
  refine (damasklaw05_SpanHolds.calls k a0_0 a0_1 a0_2 A0_3 c0_3 l0_3 a1_0 a1_1 a1_2 true w hr0_3 hc0_3 rfl h).mono ?_
  rintro e w' ⟨rfl, hd⟩
  exact ⟨rfl, hd⟩

end Go.Proofs.Ytpnldhimlpilhaa.F
