/- Written by wip/myprint.py of this session, out of Lean's print of the program: what Go functions come to, and that their calls come to it; no condition. -/
import Derived.Test.YtpnldhimlpilhaaF0
import Derived.Test.YtpnldhimlpilhaaFarith3
import Derived.Test.YtpnldhimlpilhaaFdamasklaw051
import Derived.Test.YtpnldhimlpilhaaFspan8
namespace Go.Proofs.Ytpnldhimlpilhaa.F
open Go.RowKit Go.Proofs.YtpnldhimlpilhaaW.PrintWords Go.Proofs.YtpnldhimlpilhaaW.PrintLast Go.Proofs.YtpnldhimlpilhaaW.PrintMore Go.Proofs.YtpnldhimlpilhaaW
attribute [local go_sem] max2_int min2_int max_two min_two max_three min_three max_four min_four   -- for this text's walks alone
set_option linter.unusedVariables false
set_option linter.unusedSimpArgs false

/-! ### damasklaw05_SpanEnds: function 15 -/
mutual
def damasklaw05_SpanEnds.j0 : Nat → Bool → Int → Int → Int → List (S47) → Int → Int → Option (Bool)
  | 0, _, _, _, _, _, _, _ => none
  | k + 1, x36, x825000, x825001, x825002, x825003, x829000, x829001 => if x36 = true then ((damasklaw05_awake.f k).bind fun t831 => (some t831)) else (damasklaw05_SpanEnds.l0 k false false 0 x825000 x825001 x825002 x825003 x829000 x829001)
def damasklaw05_SpanEnds.l0 : Nat → Bool → Bool → Int → Int → Int → Int → List (S47) → Int → Int → Option (Bool)
  | 0, _, _, _, _, _, _, _, _, _ => none
  | k + 1, x5, x6, x7, x825000, x825001, x825002, x825003, x829000, x829001 => if x7 < 8 then (damasklaw05_SpanEnds.l1 k x5 x6 x7 ([] : List Int) 0 x825000 x825001 x825002 x825003 x829000 x829001) else (if x5 = true then (some x6) else (some false))
def damasklaw05_SpanEnds.l1 : Nat → Bool → Bool → Int → List Int → Int → Int → Int → Int → List (S47) → Int → Int → Option (Bool)
  | 0, _, _, _, _, _, _, _, _, _, _, _ => none
  | k + 1, x5, x6, x7, x8, x9, x825000, x825001, x825002, x825003, x829000, x829001 => if x9 < (x825003.length : Int) then (damasklaw05_SpanEnds.j3 k x5 x6 x7 x8 x9 (decide (x9 < 3)) x825000 x825001 x825002 x825003 x829000 x829001) else (damasklaw05_SpanEnds.j3 k x5 x6 x7 x8 x9 false x825000 x825001 x825002 x825003 x829000 x829001)
def damasklaw05_SpanEnds.j3 : Nat → Bool → Bool → Int → List Int → Int → Bool → Int → Int → Int → List (S47) → Int → Int → Option (Bool)
  | 0, _, _, _, _, _, _, _, _, _, _, _, _ => none
  | k + 1, x5, x6, x7, x8, x9, x50, x825000, x825001, x825002, x825003, x829000, x829001 => if x50 = true then (if 0 ≤ x9 then (if x9 < (x825003.length : Int) then (if (Go.bits .and .i64 (shr .i64 x7 x9) 1) = 1 then (if x8.length < 17592186044416 then (damasklaw05_SpanEnds.l1 k x5 x6 x7 (x8 ++ [(rd_T47 x825003 x9).f1]) (wrap64 (x9 + 1)) x825000 x825001 x825002 x825003 x829000 x829001) else (none)) else (if x8.length < 17592186044416 then (damasklaw05_SpanEnds.l1 k x5 x6 x7 (x8 ++ [(rd_T47 x825003 x9).f0]) (wrap64 (x9 + 1)) x825000 x825001 x825002 x825003 x829000 x829001) else (none))) else (none)) else (none)) else ((arith_Value.f k x825000 x825001 x825002 x8).bind fun bt840 => (if bt840.2 = 0 then (if x5 = true then (if x6 = true then (damasklaw05_SpanEnds.l0 k true true (wrap64 (x7 + 1)) x825000 x825001 x825002 x825003 x829000 x829001) else (damasklaw05_SpanEnds.l0 k true (bt840.1 == x829001) (wrap64 (x7 + 1)) x825000 x825001 x825002 x825003 x829000 x829001)) else (if x6 = true then (damasklaw05_SpanEnds.l0 k (bt840.1 == x829000) true (wrap64 (x7 + 1)) x825000 x825001 x825002 x825003 x829000 x829001) else (damasklaw05_SpanEnds.l0 k (bt840.1 == x829000) (bt840.1 == x829001) (wrap64 (x7 + 1)) x825000 x825001 x825002 x825003 x829000 x829001))) else (some false)))
end
def damasklaw05_SpanEnds.f (k : Nat) (a0_0 : Int) (a0_1 : Int) (a0_2 : Int) (l0_3 : List (S47)) : Option (Bool) := (span_Of.f k a0_0 a0_1 a0_2 l0_3).bind fun bt825 => ((damasklaw05_awake.f k).bind fun t829 => (if t829 = true then (if bt825.2.2 = 0 then ((damasklaw05_tight.f a0_0).bind fun t830 => (damasklaw05_SpanEnds.j0 k (!t830) a0_0 a0_1 a0_2 l0_3 bt825.1 bt825.2.1)) else (damasklaw05_SpanEnds.j0 k true a0_0 a0_1 a0_2 l0_3 bt825.1 bt825.2.1)) else (damasklaw05_SpanEnds.j0 k true a0_0 a0_1 a0_2 l0_3 bt825.1 bt825.2.1)))
theorem damasklaw05_SpanEnds.mono_l : ∀ k, (∀ y0 y1 y2 y3 y4 y5 y6, LeO (damasklaw05_SpanEnds.j0 k y0 y1 y2 y3 y4 y5 y6) (damasklaw05_SpanEnds.j0 (k + 1) y0 y1 y2 y3 y4 y5 y6)) ∧ (∀ y0 y1 y2 y3 y4 y5 y6 y7 y8, LeO (damasklaw05_SpanEnds.l0 k y0 y1 y2 y3 y4 y5 y6 y7 y8) (damasklaw05_SpanEnds.l0 (k + 1) y0 y1 y2 y3 y4 y5 y6 y7 y8)) ∧ (∀ y0 y1 y2 y3 y4 y5 y6 y7 y8 y9 y10, LeO (damasklaw05_SpanEnds.l1 k y0 y1 y2 y3 y4 y5 y6 y7 y8 y9 y10) (damasklaw05_SpanEnds.l1 (k + 1) y0 y1 y2 y3 y4 y5 y6 y7 y8 y9 y10)) ∧ (∀ y0 y1 y2 y3 y4 y5 y6 y7 y8 y9 y10 y11, LeO (damasklaw05_SpanEnds.j3 k y0 y1 y2 y3 y4 y5 y6 y7 y8 y9 y10 y11) (damasklaw05_SpanEnds.j3 (k + 1) y0 y1 y2 y3 y4 y5 y6 y7 y8 y9 y10 y11))
  | 0 => ⟨fun _ _ _ _ _ _ _ r h => by simp [damasklaw05_SpanEnds.j0] at h, fun _ _ _ _ _ _ _ _ _ r h => by simp [damasklaw05_SpanEnds.l0] at h, fun _ _ _ _ _ _ _ _ _ _ _ r h => by simp [damasklaw05_SpanEnds.l1] at h, fun _ _ _ _ _ _ _ _ _ _ _ _ r h => by simp [damasklaw05_SpanEnds.j3] at h⟩
  | k + 1 => by
    obtain ⟨ih0, ih1, ih2, ih3⟩ := damasklaw05_SpanEnds.mono_l k
    refine ⟨?_, ?_, ?_, ?_⟩
    · intro y0 y1 y2 y3 y4 y5 y6
      unfold damasklaw05_SpanEnds.j0
      repeat' first
      | (with_reducible exact ih0 _ _ _ _ _ _ _)
      | (with_reducible exact ih1 _ _ _ _ _ _ _ _ _)
      | (with_reducible exact ih2 _ _ _ _ _ _ _ _ _ _ _)
      | (with_reducible exact ih3 _ _ _ _ _ _ _ _ _ _ _ _)
      | (with_reducible exact arith_Value.mono _ _ _ _ _)
      | (with_reducible exact damasklaw05_awake.mono _)
      | (with_reducible exact span_Of.mono _ _ _ _ _)
      | (with_reducible exact LeO.refl _)
      | (with_reducible exact LeO.none _)
      | (with_reducible refine LeO.ite ?_ ?_)
      | (with_reducible refine LeO.bind ?_ (fun _ => ?_))
      | exact ih0 _ _ _ _ _ _ _
      | exact ih1 _ _ _ _ _ _ _ _ _
      | exact ih2 _ _ _ _ _ _ _ _ _ _ _
      | exact ih3 _ _ _ _ _ _ _ _ _ _ _ _
      | exact arith_Value.mono _ _ _ _ _
      | exact damasklaw05_awake.mono _
      | exact span_Of.mono _ _ _ _ _
      | exact LeO.none _
      | refine LeO.ite ?_ ?_
      | refine LeO.bind ?_ (fun _ => ?_)
    · intro y0 y1 y2 y3 y4 y5 y6 y7 y8
      unfold damasklaw05_SpanEnds.l0
      repeat' first
      | (with_reducible exact ih0 _ _ _ _ _ _ _)
      | (with_reducible exact ih1 _ _ _ _ _ _ _ _ _)
      | (with_reducible exact ih2 _ _ _ _ _ _ _ _ _ _ _)
      | (with_reducible exact ih3 _ _ _ _ _ _ _ _ _ _ _ _)
      | (with_reducible exact arith_Value.mono _ _ _ _ _)
      | (with_reducible exact damasklaw05_awake.mono _)
      | (with_reducible exact span_Of.mono _ _ _ _ _)
      | (with_reducible exact LeO.refl _)
      | (with_reducible exact LeO.none _)
      | (with_reducible refine LeO.ite ?_ ?_)
      | (with_reducible refine LeO.bind ?_ (fun _ => ?_))
      | exact ih0 _ _ _ _ _ _ _
      | exact ih1 _ _ _ _ _ _ _ _ _
      | exact ih2 _ _ _ _ _ _ _ _ _ _ _
      | exact ih3 _ _ _ _ _ _ _ _ _ _ _ _
      | exact arith_Value.mono _ _ _ _ _
      | exact damasklaw05_awake.mono _
      | exact span_Of.mono _ _ _ _ _
      | exact LeO.none _
      | refine LeO.ite ?_ ?_
      | refine LeO.bind ?_ (fun _ => ?_)
    · intro y0 y1 y2 y3 y4 y5 y6 y7 y8 y9 y10
      unfold damasklaw05_SpanEnds.l1
      repeat' first
      | (with_reducible exact ih0 _ _ _ _ _ _ _)
      | (with_reducible exact ih1 _ _ _ _ _ _ _ _ _)
      | (with_reducible exact ih2 _ _ _ _ _ _ _ _ _ _ _)
      | (with_reducible exact ih3 _ _ _ _ _ _ _ _ _ _ _ _)
      | (with_reducible exact arith_Value.mono _ _ _ _ _)
      | (with_reducible exact damasklaw05_awake.mono _)
      | (with_reducible exact span_Of.mono _ _ _ _ _)
      | (with_reducible exact LeO.refl _)
      | (with_reducible exact LeO.none _)
      | (with_reducible refine LeO.ite ?_ ?_)
      | (with_reducible refine LeO.bind ?_ (fun _ => ?_))
      | exact ih0 _ _ _ _ _ _ _
      | exact ih1 _ _ _ _ _ _ _ _ _
      | exact ih2 _ _ _ _ _ _ _ _ _ _ _
      | exact ih3 _ _ _ _ _ _ _ _ _ _ _ _
      | exact arith_Value.mono _ _ _ _ _
      | exact damasklaw05_awake.mono _
      | exact span_Of.mono _ _ _ _ _
      | exact LeO.none _
      | refine LeO.ite ?_ ?_
      | refine LeO.bind ?_ (fun _ => ?_)
    · intro y0 y1 y2 y3 y4 y5 y6 y7 y8 y9 y10 y11
      unfold damasklaw05_SpanEnds.j3
      repeat' first
      | (with_reducible exact ih0 _ _ _ _ _ _ _)
      | (with_reducible exact ih1 _ _ _ _ _ _ _ _ _)
      | (with_reducible exact ih2 _ _ _ _ _ _ _ _ _ _ _)
      | (with_reducible exact ih3 _ _ _ _ _ _ _ _ _ _ _ _)
      | (with_reducible exact arith_Value.mono _ _ _ _ _)
      | (with_reducible exact damasklaw05_awake.mono _)
      | (with_reducible exact span_Of.mono _ _ _ _ _)
      | (with_reducible exact LeO.refl _)
      | (with_reducible exact LeO.none _)
      | (with_reducible refine LeO.ite ?_ ?_)
      | (with_reducible refine LeO.bind ?_ (fun _ => ?_))
      | exact ih0 _ _ _ _ _ _ _
      | exact ih1 _ _ _ _ _ _ _ _ _
      | exact ih2 _ _ _ _ _ _ _ _ _ _ _
      | exact ih3 _ _ _ _ _ _ _ _ _ _ _ _
      | exact arith_Value.mono _ _ _ _ _
      | exact damasklaw05_awake.mono _
      | exact span_Of.mono _ _ _ _ _
      | exact LeO.none _
      | refine LeO.ite ?_ ?_
      | refine LeO.bind ?_ (fun _ => ?_)
theorem damasklaw05_SpanEnds.mono : ∀ a0 a1 a2 a3 k, LeO (damasklaw05_SpanEnds.f k a0 a1 a2 a3) (damasklaw05_SpanEnds.f (k + 1) a0 a1 a2 a3) := by
  intro a0 a1 a2 a3 k
  obtain ⟨ih0, ih1, ih2, ih3⟩ := damasklaw05_SpanEnds.mono_l k
  unfold damasklaw05_SpanEnds.f
  repeat' first
      | (with_reducible exact ih0 _ _ _ _ _ _ _)
      | (with_reducible exact ih1 _ _ _ _ _ _ _ _ _)
      | (with_reducible exact ih2 _ _ _ _ _ _ _ _ _ _ _)
      | (with_reducible exact ih3 _ _ _ _ _ _ _ _ _ _ _ _)
      | (with_reducible exact arith_Value.mono _ _ _ _ _)
      | (with_reducible exact damasklaw05_awake.mono _)
      | (with_reducible exact span_Of.mono _ _ _ _ _)
      | (with_reducible exact LeO.refl _)
      | (with_reducible exact LeO.none _)
      | (with_reducible refine LeO.ite ?_ ?_)
      | (with_reducible refine LeO.bind ?_ (fun _ => ?_))
      | exact ih0 _ _ _ _ _ _ _
      | exact ih1 _ _ _ _ _ _ _ _ _
      | exact ih2 _ _ _ _ _ _ _ _ _ _ _
      | exact ih3 _ _ _ _ _ _ _ _ _ _ _ _
      | exact arith_Value.mono _ _ _ _ _
      | exact damasklaw05_awake.mono _
      | exact span_Of.mono _ _ _ _ _
      | exact LeO.none _
      | refine LeO.ite ?_ ?_
      | refine LeO.bind ?_ (fun _ => ?_)
set_option maxHeartbeats 8000000 in
set_option maxRecDepth 100000 in
theorem damasklaw05_SpanEnds.calls (k : Nat) (a0_0 : Int) (a0_1 : Int) (a0_2 : Int) (A0_3 : Option Addr) (c0_3 : Nat) (l0_3 : List (S47)) (r : Bool) (w : World) (hr0_3 : Kd.C k47 w A0_3 l0_3.length l0_3) (hc0_3 : l0_3.length ≤ c0_3) (hrT0 : r = true) (h : damasklaw05_SpanEnds.f k a0_0 a0_1 a0_2 l0_3 = some r) :
    Calls Try.prog 15 #[.agg #[.int .i64 a0_0, .int .i64 a0_1, .int .i64 a0_2, .slice A0_3 l0_3.length c0_3]] w fun e w' => e = .returned (.bool r) ∧ Below w.heap.size w w' := by
  have hu45 := Try.underlying45
  have hu47 := Try.underlying47
  have HR0_3 := Aside0.mk hr0_3
  have HC0_3 := Aside0.mk hc0_3
  clear hr0_3 hc0_3
  have HB := Aside0.mk (Below.refl w.heap.size w)
  have hrT := Aside0.mk hrT0
  clear hrT0
  have H : ((span_Of.f k a0_0 a0_1 a0_2 l0_3).bind fun bt825 => ((damasklaw05_awake.f k).bind fun t829 => (if t829 = true then (if bt825.2.2 = 0 then ((damasklaw05_tight.f a0_0).bind fun t830 => (damasklaw05_SpanEnds.j0 k (!t830) a0_0 a0_1 a0_2 l0_3 bt825.1 bt825.2.1)) else (damasklaw05_SpanEnds.j0 k true a0_0 a0_1 a0_2 l0_3 bt825.1 bt825.2.1)) else (damasklaw05_SpanEnds.j0 k true a0_0 a0_1 a0_2 l0_3 bt825.1 bt825.2.1)))) = some r := h
  clear h
  replace H := Option.bind_eq_some_iff.mp H
  obtain ⟨⟨t825, t826, t827⟩, A20, H⟩ := H
  replace H : ((damasklaw05_awake.f k).bind fun t829 => (if t829 = true then (if t827 = 0 then ((damasklaw05_tight.f a0_0).bind fun t830 => (damasklaw05_SpanEnds.j0 k (!t830) a0_0 a0_1 a0_2 l0_3 t825 t826)) else (damasklaw05_SpanEnds.j0 k true a0_0 a0_1 a0_2 l0_3 t825 t826)) else (damasklaw05_SpanEnds.j0 k true a0_0 a0_1 a0_2 l0_3 t825 t826))) = some r := H
  have A2 := Aside0.mk A20
  clear A20
  have HC3 := Aside0.mk H
  clear H
  go_enter Try.func15, Try.ntmps15
  go_upto_region 2 with (first | ((with_reducible refine gate_dst (N := 1) rfl ?_); refine box_event ?hg (N := 1) ?hd (cs := #[.int .i64 a0_0, .int .i64 a0_1, .int .i64 a0_2, .slice A0_3 l0_3.length c0_3]) (t := 45) ?hr ?_; (case hd => rfl); (case hg => rfl); (case hr => first | (go_simp; done) | (go_simp; rfl)); intro gb824 hg w4 hbox hb; have n0_ := Aside0.mk (cT (by repeat (first | (with_reducible first | exact HB.out | apply cA | apply cN | apply cD) | exact HB.out)) hb); have n1_ := Aside0.mk (hbox); have n2_ := Aside0.mk ((by rw [hg]; exact (cZ (by repeat (first | (with_reducible first | exact HB.out | apply cA | apply cN | apply cD) | exact HB.out))) : w.heap.size ≤ gb824)); have n3_ := n2_; clear HB; have HB := n0_; have BK824 := n1_; have GW824 := n2_; have GE824 := n3_; clear n0_ n1_ n2_ n3_; clear hb hbox hg; have hcz5_0 : w4.cell? ⟨gb824, 0, none⟩ = some (.int .i64 a0_0) := (bC BK824.out 0).trans rfl; have hcz5_1 : w4.cell? ⟨gb824, 1, none⟩ = some (.int .i64 a0_1) := (bC BK824.out 1).trans rfl; have hcz5_2 : w4.cell? ⟨gb824, 2, none⟩ = some (.int .i64 a0_2) := (bC BK824.out 2).trans rfl; have hcz5_3 : w4.cell? ⟨gb824, 3, none⟩ = some (.slice A0_3 l0_3.length c0_3) := (bC BK824.out 3).trans rfl; have hfz5_0 := bZ BK824.out 0; have hfz5_1 := bZ BK824.out 1; have hfz5_2 := bZ BK824.out 2; have hfz5_3 := bZ BK824.out 3) | (go_at_call 26; (with_reducible refine (span_Of.calls k a0_0 a0_1 a0_2 _ _ l0_3 t825 t826 t827 _ ?side1 ?side2 A2.out).mono ?_); (case side1 => repeat (first | exact (Kd.C_below HR0_3.out HB.out) | (with_reducible refine Kd.C_alloc ?_ _) | (with_reducible refine Kd.C_drewN ?_ _) | (with_reducible refine Kd.C_drew ?_))); (case side2 => exact HC0_3.out); rintro e w6 ⟨rfl, hb⟩; have n0_ := Aside0.mk (bB (g := gb824) (o := .cells #[.int .i64 a0_0, .int .i64 a0_1, .int .i64 a0_2, .slice A0_3 l0_3.length c0_3] 45 (0, 0)) (by (with_reducible repeat (first | apply bN | apply bD | apply bA)); exact BK824.out) hb); have n1_ := Aside0.mk (cT (by repeat (first | (with_reducible first | exact HB.out | apply cA | apply cN | apply cD | refine cS ?_ GE824.out) | exact HB.out)) hb); clear BK824; clear HB; have BK824 := n0_; have HB := n1_; clear n0_ n1_; (try clear hb); (try clear hb2); (try clear hk); (try clear hi)) | ((with_reducible refine gate_dst (N := 3) rfl ?_); refine box_event ?hg (N := 3) ?hd (cs := #[.int .i64 0, .int .i64 0]) (t := 47) ?hr ?_; (case hd => rfl); (case hg => rfl); (case hr => first | (go_simp; done) | (go_simp; rfl)); intro gb828 hg w7 hbox hb; have n0_ := Aside0.mk (bB (g := gb824) (o := .cells #[.int .i64 a0_0, .int .i64 a0_1, .int .i64 a0_2, .slice A0_3 l0_3.length c0_3] 45 (0, 0)) (by (with_reducible repeat (first | apply bN | apply bD | apply bA)); exact BK824.out) hb); have n1_ := Aside0.mk (cT (by repeat (first | (with_reducible first | exact HB.out | apply cA | apply cN | apply cD | refine cS ?_ GE824.out) | exact HB.out)) hb); have n2_ := Aside0.mk (hbox); have n3_ := Aside0.mk ((by rw [hg]; exact (cZ (by repeat (first | (with_reducible first | exact HB.out | apply cA | apply cN | apply cD | refine cS ?_ GE824.out) | exact HB.out))) : w.heap.size ≤ gb828)); have n4_ := n3_; have n5_ := Aside0.mk ((by rw [hg]; exact Nat.ne_of_lt (blk_lt (g := gb824) (o := .cells #[.int .i64 a0_0, .int .i64 a0_1, .int .i64 a0_2, .slice A0_3 l0_3.length c0_3] 45 (0, 0)) (by (with_reducible repeat (first | apply bN | apply bD | apply bA)); exact BK824.out)) : gb824 ≠ gb828)); have n6_ := Aside0.mk ((by rw [hg]; exact Nat.ne_of_gt (blk_lt (g := gb824) (o := .cells #[.int .i64 a0_0, .int .i64 a0_1, .int .i64 a0_2, .slice A0_3 l0_3.length c0_3] 45 (0, 0)) (by (with_reducible repeat (first | apply bN | apply bD | apply bA)); exact BK824.out)) : gb828 ≠ gb824)); clear BK824; clear HB; have BK824 := n0_; have HB := n1_; have BK828 := n2_; have GW828 := n3_; have GE828 := n4_; have NB824_828 := n5_; have NB828_824 := n6_; clear n0_ n1_ n2_ n3_ n4_ n5_ n6_; clear hb hbox hg; have hnb8 := NB828_824.out; have hnc8 := NB824_828.out; have hcz9_0 : w7.cell? ⟨gb828, 0, none⟩ = some (.int .i64 0) := (bC BK828.out 0).trans rfl; have hcz9_1 : w7.cell? ⟨gb828, 1, none⟩ = some (.int .i64 0) := (bC BK828.out 1).trans rfl; have hfz9_0 := bZ BK828.out 0; have hfz9_1 := bZ BK828.out 1))
  repeat (go_quiet (first | ((with_reducible refine gate_dst (N := 1) rfl ?_); refine box_event ?hg (N := 1) ?hd (cs := #[.int .i64 a0_0, .int .i64 a0_1, .int .i64 a0_2, .slice A0_3 l0_3.length c0_3]) (t := 45) ?hr ?_; (case hd => rfl); (case hg => rfl); (case hr => first | (go_simp; done) | (go_simp; rfl)); intro gb824 hg w4 hbox hb; have n0_ := Aside0.mk (cT (by repeat (first | (with_reducible first | exact HB.out | apply cA | apply cN | apply cD) | exact HB.out)) hb); have n1_ := Aside0.mk (hbox); have n2_ := Aside0.mk ((by rw [hg]; exact (cZ (by repeat (first | (with_reducible first | exact HB.out | apply cA | apply cN | apply cD) | exact HB.out))) : w.heap.size ≤ gb824)); have n3_ := n2_; clear HB; have HB := n0_; have BK824 := n1_; have GW824 := n2_; have GE824 := n3_; clear n0_ n1_ n2_ n3_; clear hb hbox hg; have hcz5_0 : w4.cell? ⟨gb824, 0, none⟩ = some (.int .i64 a0_0) := (bC BK824.out 0).trans rfl; have hcz5_1 : w4.cell? ⟨gb824, 1, none⟩ = some (.int .i64 a0_1) := (bC BK824.out 1).trans rfl; have hcz5_2 : w4.cell? ⟨gb824, 2, none⟩ = some (.int .i64 a0_2) := (bC BK824.out 2).trans rfl; have hcz5_3 : w4.cell? ⟨gb824, 3, none⟩ = some (.slice A0_3 l0_3.length c0_3) := (bC BK824.out 3).trans rfl; have hfz5_0 := bZ BK824.out 0; have hfz5_1 := bZ BK824.out 1; have hfz5_2 := bZ BK824.out 2; have hfz5_3 := bZ BK824.out 3) | (go_at_call 26; (with_reducible refine (span_Of.calls k a0_0 a0_1 a0_2 _ _ l0_3 t825 t826 t827 _ ?side1 ?side2 A2.out).mono ?_); (case side1 => repeat (first | exact (Kd.C_below HR0_3.out HB.out) | (with_reducible refine Kd.C_alloc ?_ _) | (with_reducible refine Kd.C_drewN ?_ _) | (with_reducible refine Kd.C_drew ?_))); (case side2 => exact HC0_3.out); rintro e w6 ⟨rfl, hb⟩; have n0_ := Aside0.mk (bB (g := gb824) (o := .cells #[.int .i64 a0_0, .int .i64 a0_1, .int .i64 a0_2, .slice A0_3 l0_3.length c0_3] 45 (0, 0)) (by (with_reducible repeat (first | apply bN | apply bD | apply bA)); exact BK824.out) hb); have n1_ := Aside0.mk (cT (by repeat (first | (with_reducible first | exact HB.out | apply cA | apply cN | apply cD | refine cS ?_ GE824.out) | exact HB.out)) hb); clear BK824; clear HB; have BK824 := n0_; have HB := n1_; clear n0_ n1_; (try clear hb); (try clear hb2); (try clear hk); (try clear hi)) | ((with_reducible refine gate_dst (N := 3) rfl ?_); refine box_event ?hg (N := 3) ?hd (cs := #[.int .i64 0, .int .i64 0]) (t := 47) ?hr ?_; (case hd => rfl); (case hg => rfl); (case hr => first | (go_simp; done) | (go_simp; rfl)); intro gb828 hg w7 hbox hb; have n0_ := Aside0.mk (bB (g := gb824) (o := .cells #[.int .i64 a0_0, .int .i64 a0_1, .int .i64 a0_2, .slice A0_3 l0_3.length c0_3] 45 (0, 0)) (by (with_reducible repeat (first | apply bN | apply bD | apply bA)); exact BK824.out) hb); have n1_ := Aside0.mk (cT (by repeat (first | (with_reducible first | exact HB.out | apply cA | apply cN | apply cD | refine cS ?_ GE824.out) | exact HB.out)) hb); have n2_ := Aside0.mk (hbox); have n3_ := Aside0.mk ((by rw [hg]; exact (cZ (by repeat (first | (with_reducible first | exact HB.out | apply cA | apply cN | apply cD | refine cS ?_ GE824.out) | exact HB.out))) : w.heap.size ≤ gb828)); have n4_ := n3_; have n5_ := Aside0.mk ((by rw [hg]; exact Nat.ne_of_lt (blk_lt (g := gb824) (o := .cells #[.int .i64 a0_0, .int .i64 a0_1, .int .i64 a0_2, .slice A0_3 l0_3.length c0_3] 45 (0, 0)) (by (with_reducible repeat (first | apply bN | apply bD | apply bA)); exact BK824.out)) : gb824 ≠ gb828)); have n6_ := Aside0.mk ((by rw [hg]; exact Nat.ne_of_gt (blk_lt (g := gb824) (o := .cells #[.int .i64 a0_0, .int .i64 a0_1, .int .i64 a0_2, .slice A0_3 l0_3.length c0_3] 45 (0, 0)) (by (with_reducible repeat (first | apply bN | apply bD | apply bA)); exact BK824.out)) : gb828 ≠ gb824)); clear BK824; clear HB; have BK824 := n0_; have HB := n1_; have BK828 := n2_; have GW828 := n3_; have GE828 := n4_; have NB824_828 := n5_; have NB828_824 := n6_; clear n0_ n1_ n2_ n3_ n4_ n5_ n6_; clear hb hbox hg; have hnb8 := NB828_824.out; have hnc8 := NB824_828.out; have hcz9_0 : w7.cell? ⟨gb828, 0, none⟩ = some (.int .i64 0) := (bC BK828.out 0).trans rfl; have hcz9_1 : w7.cell? ⟨gb828, 1, none⟩ = some (.int .i64 0) := (bC BK828.out 1).trans rfl; have hfz9_0 := bZ BK828.out 0; have hfz9_1 := bZ BK828.out 1)); go_upto_region 2 with (first | ((with_reducible refine gate_dst (N := 1) rfl ?_); refine box_event ?hg (N := 1) ?hd (cs := #[.int .i64 a0_0, .int .i64 a0_1, .int .i64 a0_2, .slice A0_3 l0_3.length c0_3]) (t := 45) ?hr ?_; (case hd => rfl); (case hg => rfl); (case hr => first | (go_simp; done) | (go_simp; rfl)); intro gb824 hg w4 hbox hb; have n0_ := Aside0.mk (cT (by repeat (first | (with_reducible first | exact HB.out | apply cA | apply cN | apply cD) | exact HB.out)) hb); have n1_ := Aside0.mk (hbox); have n2_ := Aside0.mk ((by rw [hg]; exact (cZ (by repeat (first | (with_reducible first | exact HB.out | apply cA | apply cN | apply cD) | exact HB.out))) : w.heap.size ≤ gb824)); have n3_ := n2_; clear HB; have HB := n0_; have BK824 := n1_; have GW824 := n2_; have GE824 := n3_; clear n0_ n1_ n2_ n3_; clear hb hbox hg; have hcz5_0 : w4.cell? ⟨gb824, 0, none⟩ = some (.int .i64 a0_0) := (bC BK824.out 0).trans rfl; have hcz5_1 : w4.cell? ⟨gb824, 1, none⟩ = some (.int .i64 a0_1) := (bC BK824.out 1).trans rfl; have hcz5_2 : w4.cell? ⟨gb824, 2, none⟩ = some (.int .i64 a0_2) := (bC BK824.out 2).trans rfl; have hcz5_3 : w4.cell? ⟨gb824, 3, none⟩ = some (.slice A0_3 l0_3.length c0_3) := (bC BK824.out 3).trans rfl; have hfz5_0 := bZ BK824.out 0; have hfz5_1 := bZ BK824.out 1; have hfz5_2 := bZ BK824.out 2; have hfz5_3 := bZ BK824.out 3) | (go_at_call 26; (with_reducible refine (span_Of.calls k a0_0 a0_1 a0_2 _ _ l0_3 t825 t826 t827 _ ?side1 ?side2 A2.out).mono ?_); (case side1 => repeat (first | exact (Kd.C_below HR0_3.out HB.out) | (with_reducible refine Kd.C_alloc ?_ _) | (with_reducible refine Kd.C_drewN ?_ _) | (with_reducible refine Kd.C_drew ?_))); (case side2 => exact HC0_3.out); rintro e w6 ⟨rfl, hb⟩; have n0_ := Aside0.mk (bB (g := gb824) (o := .cells #[.int .i64 a0_0, .int .i64 a0_1, .int .i64 a0_2, .slice A0_3 l0_3.length c0_3] 45 (0, 0)) (by (with_reducible repeat (first | apply bN | apply bD | apply bA)); exact BK824.out) hb); have n1_ := Aside0.mk (cT (by repeat (first | (with_reducible first | exact HB.out | apply cA | apply cN | apply cD | refine cS ?_ GE824.out) | exact HB.out)) hb); clear BK824; clear HB; have BK824 := n0_; have HB := n1_; clear n0_ n1_; (try clear hb); (try clear hb2); (try clear hk); (try clear hi)) | ((with_reducible refine gate_dst (N := 3) rfl ?_); refine box_event ?hg (N := 3) ?hd (cs := #[.int .i64 0, .int .i64 0]) (t := 47) ?hr ?_; (case hd => rfl); (case hg => rfl); (case hr => first | (go_simp; done) | (go_simp; rfl)); intro gb828 hg w7 hbox hb; have n0_ := Aside0.mk (bB (g := gb824) (o := .cells #[.int .i64 a0_0, .int .i64 a0_1, .int .i64 a0_2, .slice A0_3 l0_3.length c0_3] 45 (0, 0)) (by (with_reducible repeat (first | apply bN | apply bD | apply bA)); exact BK824.out) hb); have n1_ := Aside0.mk (cT (by repeat (first | (with_reducible first | exact HB.out | apply cA | apply cN | apply cD | refine cS ?_ GE824.out) | exact HB.out)) hb); have n2_ := Aside0.mk (hbox); have n3_ := Aside0.mk ((by rw [hg]; exact (cZ (by repeat (first | (with_reducible first | exact HB.out | apply cA | apply cN | apply cD | refine cS ?_ GE824.out) | exact HB.out))) : w.heap.size ≤ gb828)); have n4_ := n3_; have n5_ := Aside0.mk ((by rw [hg]; exact Nat.ne_of_lt (blk_lt (g := gb824) (o := .cells #[.int .i64 a0_0, .int .i64 a0_1, .int .i64 a0_2, .slice A0_3 l0_3.length c0_3] 45 (0, 0)) (by (with_reducible repeat (first | apply bN | apply bD | apply bA)); exact BK824.out)) : gb824 ≠ gb828)); have n6_ := Aside0.mk ((by rw [hg]; exact Nat.ne_of_gt (blk_lt (g := gb824) (o := .cells #[.int .i64 a0_0, .int .i64 a0_1, .int .i64 a0_2, .slice A0_3 l0_3.length c0_3] 45 (0, 0)) (by (with_reducible repeat (first | apply bN | apply bD | apply bA)); exact BK824.out)) : gb828 ≠ gb824)); clear BK824; clear HB; have BK824 := n0_; have HB := n1_; have BK828 := n2_; have GW828 := n3_; have GE828 := n4_; have NB824_828 := n5_; have NB828_824 := n6_; clear n0_ n1_ n2_ n3_ n4_ n5_ n6_; clear hb hbox hg; have hnb8 := NB828_824.out; have hnc8 := NB824_828.out; have hcz9_0 : w7.cell? ⟨gb828, 0, none⟩ = some (.int .i64 0) := (bC BK828.out 0).trans rfl; have hcz9_1 : w7.cell? ⟨gb828, 1, none⟩ = some (.int .i64 0) := (bC BK828.out 1).trans rfl; have hfz9_0 := bZ BK828.out 0; have hfz9_1 := bZ BK828.out 1)))
  (try simp only [Act.put, List.setIfInBounds_toArray, List.set_cons_zero, List.set_cons_succ])
  go_cut [36] (fun v36 wc => ∃ (kq : Nat) (x36_2 : Bool), v36 = .bool x36_2 ∧ Aside0 (damasklaw05_SpanEnds.j0 kq x36_2 a0_0 a0_1 a0_2 l0_3 t825 t826 = some r) ∧ Aside0 (kq ≤ k) ∧ Aside0 (wc.heap[gb824]? = some (.cells #[.int .i64 a0_0, .int .i64 a0_1, .int .i64 a0_2, (.slice A0_3 l0_3.length c0_3)] 45 (0, 0))) ∧ Aside0 (wc.heap[gb828]? = some (.cells #[.int .i64 t825, .int .i64 t826] 47 (0, 0))) ∧ Aside0 (Below w.heap.size w wc))
  case first =>
    have H := HC3.out
    clear HC3
    replace H := Option.bind_eq_some_iff.mp H
    obtain ⟨t829, A100, H⟩ := H
    replace H : (if t829 = true then (if t827 = 0 then ((damasklaw05_tight.f a0_0).bind fun t830 => (damasklaw05_SpanEnds.j0 k (!t830) a0_0 a0_1 a0_2 l0_3 t825 t826)) else (damasklaw05_SpanEnds.j0 k true a0_0 a0_1 a0_2 l0_3 t825 t826)) else (damasklaw05_SpanEnds.j0 k true a0_0 a0_1 a0_2 l0_3 t825 t826)) = some r := H
    have A10 := Aside0.mk A100
    clear A100
    by_cases c11 : t829 = true
    · subst c11
      have H1 : (if t827 = 0 then ((damasklaw05_tight.f a0_0).bind fun t830 => (damasklaw05_SpanEnds.j0 k (!t830) a0_0 a0_1 a0_2 l0_3 t825 t826)) else (damasklaw05_SpanEnds.j0 k true a0_0 a0_1 a0_2 l0_3 t825 t826)) = some r := by rw [if_pos rfl] at H; exact H
      clear H
      have H := H1
      clear H1
      by_cases c12 : t827 = 0
      · rw [if_pos c12] at H
        have c12b0 : (t827 == 0) = true := beq_iff_eq.mpr c12
        have c12b1 : (t827 != 0) = false := bne_eq_false_iff_eq.mpr c12
        clear c12
        (first | rw [c12b0] | (simp only [i64_w, i32_w]; rw [c12b0]) | skip)
        replace H := Option.bind_eq_some_iff.mp H
        obtain ⟨t830, A130, H⟩ := H
        replace H : (damasklaw05_SpanEnds.j0 k (!t830) a0_0 a0_1 a0_2 l0_3 t825 t826) = some r := H
        have A13 := Aside0.mk A130
        clear A130
        have H' := Aside0.mk H
        clear H
        go_wp2_with (first | (go_at_call 28; (with_reducible refine (damasklaw05_awake.calls k  true _ A10.out).mono ?_); rintro e w14 ⟨rfl, hb⟩; have n0_ := Aside0.mk (bB (g := gb824) (o := .cells #[.int .i64 a0_0, .int .i64 a0_1, .int .i64 a0_2, .slice A0_3 l0_3.length c0_3] 45 (0, 0)) (by (with_reducible repeat (first | apply bN | apply bD | apply bA)); refine bF ?_ NB824_828.out _; (with_reducible repeat (first | apply bN | apply bD | apply bA)); refine bF ?_ NB824_828.out _; (with_reducible repeat (first | apply bN | apply bD | apply bA)); exact BK824.out) hb); have n1_ := Aside0.mk (bB (g := gb828) (o := .cells #[.int .i64 t825, .int .i64 t826] 47 (0, 0)) (by (with_reducible repeat (first | apply bN | apply bD | apply bA)); refine bP (cs := #[.int .i64 t825, .int .i64 0]) ?_ 1 _ rfl; (with_reducible repeat (first | apply bN | apply bD | apply bA)); refine bP (cs := #[.int .i64 0, .int .i64 0]) ?_ 0 _ rfl; (with_reducible repeat (first | apply bN | apply bD | apply bA)); exact BK828.out) hb); have n2_ := Aside0.mk (cT (by repeat (first | (with_reducible first | exact HB.out | apply cA | apply cN | apply cD | refine cS ?_ GE824.out | refine cS ?_ GE828.out) | exact HB.out)) hb); clear BK824; clear BK828; clear HB; have BK824 := n0_; have BK828 := n1_; have HB := n2_; clear n0_ n1_ n2_; (try clear hb); (try clear hb2); (try clear hk); (try clear hi); have hnb15 := NB824_828.out; have hnc15 := NB828_824.out; have hcz16_0 : w14.cell? ⟨gb824, 0, none⟩ = some (.int .i64 a0_0) := (bC BK824.out 0).trans rfl; have hcz16_1 : w14.cell? ⟨gb824, 1, none⟩ = some (.int .i64 a0_1) := (bC BK824.out 1).trans rfl; have hcz16_2 : w14.cell? ⟨gb824, 2, none⟩ = some (.int .i64 a0_2) := (bC BK824.out 2).trans rfl; have hcz16_3 : w14.cell? ⟨gb824, 3, none⟩ = some (.slice A0_3 l0_3.length c0_3) := (bC BK824.out 3).trans rfl; have hfz16_0 := bZ BK824.out 0; have hfz16_1 := bZ BK824.out 1; have hfz16_2 := bZ BK824.out 2; have hfz16_3 := bZ BK824.out 3) | (go_at_call 35; (with_reducible refine (damasklaw05_tight.calls a0_0 t830 _ A13.out).mono ?_); rintro e w' ⟨rfl, ⟨nd, rfl⟩⟩; (try first | exact ⟨rfl, _, World.drewN_drewN _ _ _⟩ | exact ⟨rfl, _, Eq.trans (World.drewN_drewN _ _ _) (congrArg (World.drewN _) (Nat.add_assoc _ _ _))⟩)))
        repeat (go_quiet (first | (go_at_call 28; (with_reducible refine (damasklaw05_awake.calls k  true _ A10.out).mono ?_); rintro e w14 ⟨rfl, hb⟩; have n0_ := Aside0.mk (bB (g := gb824) (o := .cells #[.int .i64 a0_0, .int .i64 a0_1, .int .i64 a0_2, .slice A0_3 l0_3.length c0_3] 45 (0, 0)) (by (with_reducible repeat (first | apply bN | apply bD | apply bA)); refine bF ?_ NB824_828.out _; (with_reducible repeat (first | apply bN | apply bD | apply bA)); refine bF ?_ NB824_828.out _; (with_reducible repeat (first | apply bN | apply bD | apply bA)); exact BK824.out) hb); have n1_ := Aside0.mk (bB (g := gb828) (o := .cells #[.int .i64 t825, .int .i64 t826] 47 (0, 0)) (by (with_reducible repeat (first | apply bN | apply bD | apply bA)); refine bP (cs := #[.int .i64 t825, .int .i64 0]) ?_ 1 _ rfl; (with_reducible repeat (first | apply bN | apply bD | apply bA)); refine bP (cs := #[.int .i64 0, .int .i64 0]) ?_ 0 _ rfl; (with_reducible repeat (first | apply bN | apply bD | apply bA)); exact BK828.out) hb); have n2_ := Aside0.mk (cT (by repeat (first | (with_reducible first | exact HB.out | apply cA | apply cN | apply cD | refine cS ?_ GE824.out | refine cS ?_ GE828.out) | exact HB.out)) hb); clear BK824; clear BK828; clear HB; have BK824 := n0_; have BK828 := n1_; have HB := n2_; clear n0_ n1_ n2_; (try clear hb); (try clear hb2); (try clear hk); (try clear hi); have hnb15 := NB824_828.out; have hnc15 := NB828_824.out; have hcz16_0 : w14.cell? ⟨gb824, 0, none⟩ = some (.int .i64 a0_0) := (bC BK824.out 0).trans rfl; have hcz16_1 : w14.cell? ⟨gb824, 1, none⟩ = some (.int .i64 a0_1) := (bC BK824.out 1).trans rfl; have hcz16_2 : w14.cell? ⟨gb824, 2, none⟩ = some (.int .i64 a0_2) := (bC BK824.out 2).trans rfl; have hcz16_3 : w14.cell? ⟨gb824, 3, none⟩ = some (.slice A0_3 l0_3.length c0_3) := (bC BK824.out 3).trans rfl; have hfz16_0 := bZ BK824.out 0; have hfz16_1 := bZ BK824.out 1; have hfz16_2 := bZ BK824.out 2; have hfz16_3 := bZ BK824.out 3) | (go_at_call 35; (with_reducible refine (damasklaw05_tight.calls a0_0 t830 _ A13.out).mono ?_); rintro e w' ⟨rfl, ⟨nd, rfl⟩⟩; (try first | exact ⟨rfl, _, World.drewN_drewN _ _ _⟩ | exact ⟨rfl, _, Eq.trans (World.drewN_drewN _ _ _) (congrArg (World.drewN _) (Nat.add_assoc _ _ _))⟩))); try go_wp2_with (first | (go_at_call 28; (with_reducible refine (damasklaw05_awake.calls k  true _ A10.out).mono ?_); rintro e w14 ⟨rfl, hb⟩; have n0_ := Aside0.mk (bB (g := gb824) (o := .cells #[.int .i64 a0_0, .int .i64 a0_1, .int .i64 a0_2, .slice A0_3 l0_3.length c0_3] 45 (0, 0)) (by (with_reducible repeat (first | apply bN | apply bD | apply bA)); refine bF ?_ NB824_828.out _; (with_reducible repeat (first | apply bN | apply bD | apply bA)); refine bF ?_ NB824_828.out _; (with_reducible repeat (first | apply bN | apply bD | apply bA)); exact BK824.out) hb); have n1_ := Aside0.mk (bB (g := gb828) (o := .cells #[.int .i64 t825, .int .i64 t826] 47 (0, 0)) (by (with_reducible repeat (first | apply bN | apply bD | apply bA)); refine bP (cs := #[.int .i64 t825, .int .i64 0]) ?_ 1 _ rfl; (with_reducible repeat (first | apply bN | apply bD | apply bA)); refine bP (cs := #[.int .i64 0, .int .i64 0]) ?_ 0 _ rfl; (with_reducible repeat (first | apply bN | apply bD | apply bA)); exact BK828.out) hb); have n2_ := Aside0.mk (cT (by repeat (first | (with_reducible first | exact HB.out | apply cA | apply cN | apply cD | refine cS ?_ GE824.out | refine cS ?_ GE828.out) | exact HB.out)) hb); clear BK824; clear BK828; clear HB; have BK824 := n0_; have BK828 := n1_; have HB := n2_; clear n0_ n1_ n2_; (try clear hb); (try clear hb2); (try clear hk); (try clear hi); have hnb15 := NB824_828.out; have hnc15 := NB828_824.out; have hcz16_0 : w14.cell? ⟨gb824, 0, none⟩ = some (.int .i64 a0_0) := (bC BK824.out 0).trans rfl; have hcz16_1 : w14.cell? ⟨gb824, 1, none⟩ = some (.int .i64 a0_1) := (bC BK824.out 1).trans rfl; have hcz16_2 : w14.cell? ⟨gb824, 2, none⟩ = some (.int .i64 a0_2) := (bC BK824.out 2).trans rfl; have hcz16_3 : w14.cell? ⟨gb824, 3, none⟩ = some (.slice A0_3 l0_3.length c0_3) := (bC BK824.out 3).trans rfl; have hfz16_0 := bZ BK824.out 0; have hfz16_1 := bZ BK824.out 1; have hfz16_2 := bZ BK824.out 2; have hfz16_3 := bZ BK824.out 3) | (go_at_call 35; (with_reducible refine (damasklaw05_tight.calls a0_0 t830 _ A13.out).mono ?_); rintro e w' ⟨rfl, ⟨nd, rfl⟩⟩; (try first | exact ⟨rfl, _, World.drewN_drewN _ _ _⟩ | exact ⟨rfl, _, Eq.trans (World.drewN_drewN _ _ _) (congrArg (World.drewN _) (Nat.add_assoc _ _ _))⟩))))
        go_meet
        case rel => exact ⟨_, (!t830), (by first | rfl | (simp; done) | (simp [*]; done)), H', ⟨by first | omega | exact Nat.le_refl _⟩, ⟨by (with_reducible repeat (first | apply bN | apply bD | apply bA)); exact BK824.out⟩, ⟨by (with_reducible repeat (first | apply bN | apply bD | apply bA)); exact BK828.out⟩, ⟨by repeat (first | (with_reducible first | exact HB.out | apply cA | apply cN | apply cD | refine cS ?_ GE824.out | refine cS ?_ GE828.out) | exact HB.out)⟩⟩
      rw [if_neg c12] at H
      have c12b0 : (t827 == 0) = false := beq_eq_false_iff_ne.mpr c12
      have c12b1 : (t827 != 0) = true := bne_iff_ne.mpr c12
      (first | rw [c12b0] | (simp only [i64_w, i32_w]; rw [c12b0]) | skip)
      have H' := Aside0.mk H
      clear H
      go_wp2_with (first | (go_at_call 28; (with_reducible refine (damasklaw05_awake.calls k  true _ A10.out).mono ?_); rintro e w17 ⟨rfl, hb⟩; have n0_ := Aside0.mk (bB (g := gb824) (o := .cells #[.int .i64 a0_0, .int .i64 a0_1, .int .i64 a0_2, .slice A0_3 l0_3.length c0_3] 45 (0, 0)) (by (with_reducible repeat (first | apply bN | apply bD | apply bA)); refine bF ?_ NB824_828.out _; (with_reducible repeat (first | apply bN | apply bD | apply bA)); refine bF ?_ NB824_828.out _; (with_reducible repeat (first | apply bN | apply bD | apply bA)); exact BK824.out) hb); have n1_ := Aside0.mk (bB (g := gb828) (o := .cells #[.int .i64 t825, .int .i64 t826] 47 (0, 0)) (by (with_reducible repeat (first | apply bN | apply bD | apply bA)); refine bP (cs := #[.int .i64 t825, .int .i64 0]) ?_ 1 _ rfl; (with_reducible repeat (first | apply bN | apply bD | apply bA)); refine bP (cs := #[.int .i64 0, .int .i64 0]) ?_ 0 _ rfl; (with_reducible repeat (first | apply bN | apply bD | apply bA)); exact BK828.out) hb); have n2_ := Aside0.mk (cT (by repeat (first | (with_reducible first | exact HB.out | apply cA | apply cN | apply cD | refine cS ?_ GE824.out | refine cS ?_ GE828.out) | exact HB.out)) hb); clear BK824; clear BK828; clear HB; have BK824 := n0_; have BK828 := n1_; have HB := n2_; clear n0_ n1_ n2_; (try clear hb); (try clear hb2); (try clear hk); (try clear hi)))
      repeat (go_quiet (first | (go_at_call 28; (with_reducible refine (damasklaw05_awake.calls k  true _ A10.out).mono ?_); rintro e w17 ⟨rfl, hb⟩; have n0_ := Aside0.mk (bB (g := gb824) (o := .cells #[.int .i64 a0_0, .int .i64 a0_1, .int .i64 a0_2, .slice A0_3 l0_3.length c0_3] 45 (0, 0)) (by (with_reducible repeat (first | apply bN | apply bD | apply bA)); refine bF ?_ NB824_828.out _; (with_reducible repeat (first | apply bN | apply bD | apply bA)); refine bF ?_ NB824_828.out _; (with_reducible repeat (first | apply bN | apply bD | apply bA)); exact BK824.out) hb); have n1_ := Aside0.mk (bB (g := gb828) (o := .cells #[.int .i64 t825, .int .i64 t826] 47 (0, 0)) (by (with_reducible repeat (first | apply bN | apply bD | apply bA)); refine bP (cs := #[.int .i64 t825, .int .i64 0]) ?_ 1 _ rfl; (with_reducible repeat (first | apply bN | apply bD | apply bA)); refine bP (cs := #[.int .i64 0, .int .i64 0]) ?_ 0 _ rfl; (with_reducible repeat (first | apply bN | apply bD | apply bA)); exact BK828.out) hb); have n2_ := Aside0.mk (cT (by repeat (first | (with_reducible first | exact HB.out | apply cA | apply cN | apply cD | refine cS ?_ GE824.out | refine cS ?_ GE828.out) | exact HB.out)) hb); clear BK824; clear BK828; clear HB; have BK824 := n0_; have BK828 := n1_; have HB := n2_; clear n0_ n1_ n2_; (try clear hb); (try clear hb2); (try clear hk); (try clear hi))); try go_wp2_with (first | (go_at_call 28; (with_reducible refine (damasklaw05_awake.calls k  true _ A10.out).mono ?_); rintro e w17 ⟨rfl, hb⟩; have n0_ := Aside0.mk (bB (g := gb824) (o := .cells #[.int .i64 a0_0, .int .i64 a0_1, .int .i64 a0_2, .slice A0_3 l0_3.length c0_3] 45 (0, 0)) (by (with_reducible repeat (first | apply bN | apply bD | apply bA)); refine bF ?_ NB824_828.out _; (with_reducible repeat (first | apply bN | apply bD | apply bA)); refine bF ?_ NB824_828.out _; (with_reducible repeat (first | apply bN | apply bD | apply bA)); exact BK824.out) hb); have n1_ := Aside0.mk (bB (g := gb828) (o := .cells #[.int .i64 t825, .int .i64 t826] 47 (0, 0)) (by (with_reducible repeat (first | apply bN | apply bD | apply bA)); refine bP (cs := #[.int .i64 t825, .int .i64 0]) ?_ 1 _ rfl; (with_reducible repeat (first | apply bN | apply bD | apply bA)); refine bP (cs := #[.int .i64 0, .int .i64 0]) ?_ 0 _ rfl; (with_reducible repeat (first | apply bN | apply bD | apply bA)); exact BK828.out) hb); have n2_ := Aside0.mk (cT (by repeat (first | (with_reducible first | exact HB.out | apply cA | apply cN | apply cD | refine cS ?_ GE824.out | refine cS ?_ GE828.out) | exact HB.out)) hb); clear BK824; clear BK828; clear HB; have BK824 := n0_; have BK828 := n1_; have HB := n2_; clear n0_ n1_ n2_; (try clear hb); (try clear hb2); (try clear hk); (try clear hi))))
      go_meet
      case rel => exact ⟨_, (true), (by first | rfl | (simp; done) | (simp [*]; done)), H', ⟨by first | omega | exact Nat.le_refl _⟩, ⟨by (with_reducible repeat (first | apply bN | apply bD | apply bA)); exact BK824.out⟩, ⟨by (with_reducible repeat (first | apply bN | apply bD | apply bA)); exact BK828.out⟩, ⟨by repeat (first | (with_reducible first | exact HB.out | apply cA | apply cN | apply cD | refine cS ?_ GE824.out | refine cS ?_ GE828.out) | exact HB.out)⟩⟩
    replace c11 := Bool.eq_false_iff.mpr c11
    subst c11
    have H1 : (damasklaw05_SpanEnds.j0 k true a0_0 a0_1 a0_2 l0_3 t825 t826) = some r := by rw [if_neg (show ¬ (false = true) by decide)] at H; exact H
    clear H
    have H := H1
    clear H1
    have H' := Aside0.mk H
    clear H
    go_wp2_with (first | (go_at_call 28; (with_reducible refine (damasklaw05_awake.calls k  false _ A10.out).mono ?_); rintro e w18 ⟨rfl, hb⟩; have n0_ := Aside0.mk (bB (g := gb824) (o := .cells #[.int .i64 a0_0, .int .i64 a0_1, .int .i64 a0_2, .slice A0_3 l0_3.length c0_3] 45 (0, 0)) (by (with_reducible repeat (first | apply bN | apply bD | apply bA)); refine bF ?_ NB824_828.out _; (with_reducible repeat (first | apply bN | apply bD | apply bA)); refine bF ?_ NB824_828.out _; (with_reducible repeat (first | apply bN | apply bD | apply bA)); exact BK824.out) hb); have n1_ := Aside0.mk (bB (g := gb828) (o := .cells #[.int .i64 t825, .int .i64 t826] 47 (0, 0)) (by (with_reducible repeat (first | apply bN | apply bD | apply bA)); refine bP (cs := #[.int .i64 t825, .int .i64 0]) ?_ 1 _ rfl; (with_reducible repeat (first | apply bN | apply bD | apply bA)); refine bP (cs := #[.int .i64 0, .int .i64 0]) ?_ 0 _ rfl; (with_reducible repeat (first | apply bN | apply bD | apply bA)); exact BK828.out) hb); have n2_ := Aside0.mk (cT (by repeat (first | (with_reducible first | exact HB.out | apply cA | apply cN | apply cD | refine cS ?_ GE824.out | refine cS ?_ GE828.out) | exact HB.out)) hb); clear BK824; clear BK828; clear HB; have BK824 := n0_; have BK828 := n1_; have HB := n2_; clear n0_ n1_ n2_; (try clear hb); (try clear hb2); (try clear hk); (try clear hi)))
    repeat (go_quiet (first | (go_at_call 28; (with_reducible refine (damasklaw05_awake.calls k  false _ A10.out).mono ?_); rintro e w18 ⟨rfl, hb⟩; have n0_ := Aside0.mk (bB (g := gb824) (o := .cells #[.int .i64 a0_0, .int .i64 a0_1, .int .i64 a0_2, .slice A0_3 l0_3.length c0_3] 45 (0, 0)) (by (with_reducible repeat (first | apply bN | apply bD | apply bA)); refine bF ?_ NB824_828.out _; (with_reducible repeat (first | apply bN | apply bD | apply bA)); refine bF ?_ NB824_828.out _; (with_reducible repeat (first | apply bN | apply bD | apply bA)); exact BK824.out) hb); have n1_ := Aside0.mk (bB (g := gb828) (o := .cells #[.int .i64 t825, .int .i64 t826] 47 (0, 0)) (by (with_reducible repeat (first | apply bN | apply bD | apply bA)); refine bP (cs := #[.int .i64 t825, .int .i64 0]) ?_ 1 _ rfl; (with_reducible repeat (first | apply bN | apply bD | apply bA)); refine bP (cs := #[.int .i64 0, .int .i64 0]) ?_ 0 _ rfl; (with_reducible repeat (first | apply bN | apply bD | apply bA)); exact BK828.out) hb); have n2_ := Aside0.mk (cT (by repeat (first | (with_reducible first | exact HB.out | apply cA | apply cN | apply cD | refine cS ?_ GE824.out | refine cS ?_ GE828.out) | exact HB.out)) hb); clear BK824; clear BK828; clear HB; have BK824 := n0_; have BK828 := n1_; have HB := n2_; clear n0_ n1_ n2_; (try clear hb); (try clear hb2); (try clear hk); (try clear hi))); try go_wp2_with (first | (go_at_call 28; (with_reducible refine (damasklaw05_awake.calls k  false _ A10.out).mono ?_); rintro e w18 ⟨rfl, hb⟩; have n0_ := Aside0.mk (bB (g := gb824) (o := .cells #[.int .i64 a0_0, .int .i64 a0_1, .int .i64 a0_2, .slice A0_3 l0_3.length c0_3] 45 (0, 0)) (by (with_reducible repeat (first | apply bN | apply bD | apply bA)); refine bF ?_ NB824_828.out _; (with_reducible repeat (first | apply bN | apply bD | apply bA)); refine bF ?_ NB824_828.out _; (with_reducible repeat (first | apply bN | apply bD | apply bA)); exact BK824.out) hb); have n1_ := Aside0.mk (bB (g := gb828) (o := .cells #[.int .i64 t825, .int .i64 t826] 47 (0, 0)) (by (with_reducible repeat (first | apply bN | apply bD | apply bA)); refine bP (cs := #[.int .i64 t825, .int .i64 0]) ?_ 1 _ rfl; (with_reducible repeat (first | apply bN | apply bD | apply bA)); refine bP (cs := #[.int .i64 0, .int .i64 0]) ?_ 0 _ rfl; (with_reducible repeat (first | apply bN | apply bD | apply bA)); exact BK828.out) hb); have n2_ := Aside0.mk (cT (by repeat (first | (with_reducible first | exact HB.out | apply cA | apply cN | apply cD | refine cS ?_ GE824.out | refine cS ?_ GE828.out) | exact HB.out)) hb); clear BK824; clear BK828; clear HB; have BK824 := n0_; have BK828 := n1_; have HB := n2_; clear n0_ n1_ n2_; (try clear hb); (try clear hb2); (try clear hk); (try clear hi))))
    go_meet
    case rel => exact ⟨_, (true), (by first | rfl | (simp; done) | (simp [*]; done)), H', ⟨by first | omega | exact Nat.le_refl _⟩, ⟨by (with_reducible repeat (first | apply bN | apply bD | apply bA)); exact BK824.out⟩, ⟨by (with_reducible repeat (first | apply bN | apply bD | apply bA)); exact BK828.out⟩, ⟨by repeat (first | (with_reducible first | exact HB.out | apply cA | apply cN | apply cD | refine cS ?_ GE824.out | refine cS ?_ GE828.out) | exact HB.out)⟩⟩
  case rest =>
    clear HC3
    try clear c11
    try clear c12
    try clear c12b0
    try clear c12b1
    try clear hcz16_0
    try clear hcz16_1
    try clear hcz16_2
    try clear hcz16_3
    try clear hcz5_0
    try clear hcz5_1
    try clear hcz5_2
    try clear hcz5_3
    try clear hcz9_0
    try clear hcz9_1
    try clear hfz16_0
    try clear hfz16_1
    try clear hfz16_2
    try clear hfz16_3
    try clear hfz5_0
    try clear hfz5_1
    try clear hfz5_2
    try clear hfz5_3
    try clear hfz9_0
    try clear hfz9_1
    obtain ⟨kq, x36_2, rfl, HA, HJ2, BK824, BK828, HB⟩ := hcut
    cases kq with
    | zero => exact absurd HA.out (by simp [damasklaw05_SpanEnds.j0])
    | succ kj2 =>
      have H := HA.out
      clear HA
      simp only [damasklaw05_SpanEnds.j0] at H
      by_cases c19 : x36_2 = true
      · subst c19
        have H1 : ((damasklaw05_awake.f kj2).bind fun t831 => (some t831)) = some r := by rw [if_pos rfl] at H; exact H
        clear H
        have H := H1
        clear H1
        replace H := Option.bind_eq_some_iff.mp H
        obtain ⟨t831, A200, H⟩ := H
        replace H : (some t831) = some r := H
        have A20 := Aside0.mk A200
        clear A200
        obtain rfl := Option.some.inj H
        go_wp2_with (first | (go_at_call 28; (with_reducible refine (damasklaw05_awake.calls kj2  t831 _ A20.out).mono ?_); rintro e w21 ⟨rfl, hb⟩; have n0_ := Aside0.mk (bB (g := gb824) (o := .cells #[.int .i64 a0_0, .int .i64 a0_1, .int .i64 a0_2, .slice A0_3 l0_3.length c0_3] 45 (0, 0)) (by (with_reducible repeat (first | apply bN | apply bD | apply bA)); exact BK824.out) hb); have n1_ := Aside0.mk (bB (g := gb828) (o := .cells #[.int .i64 t825, .int .i64 t826] 47 (0, 0)) (by (with_reducible repeat (first | apply bN | apply bD | apply bA)); exact BK828.out) hb); have n2_ := Aside0.mk (cT (by repeat (first | (with_reducible first | exact HB.out | apply cA | apply cN | apply cD | refine cS ?_ GE824.out | refine cS ?_ GE828.out) | exact HB.out)) hb); clear BK824; clear BK828; clear HB; have BK824 := n0_; have BK828 := n1_; have HB := n2_; clear n0_ n1_ n2_; (try clear hb); (try clear hb2); (try clear hk); (try clear hi)))
        repeat (go_quiet (first | (go_at_call 28; (with_reducible refine (damasklaw05_awake.calls kj2  t831 _ A20.out).mono ?_); rintro e w21 ⟨rfl, hb⟩; have n0_ := Aside0.mk (bB (g := gb824) (o := .cells #[.int .i64 a0_0, .int .i64 a0_1, .int .i64 a0_2, .slice A0_3 l0_3.length c0_3] 45 (0, 0)) (by (with_reducible repeat (first | apply bN | apply bD | apply bA)); exact BK824.out) hb); have n1_ := Aside0.mk (bB (g := gb828) (o := .cells #[.int .i64 t825, .int .i64 t826] 47 (0, 0)) (by (with_reducible repeat (first | apply bN | apply bD | apply bA)); exact BK828.out) hb); have n2_ := Aside0.mk (cT (by repeat (first | (with_reducible first | exact HB.out | apply cA | apply cN | apply cD | refine cS ?_ GE824.out | refine cS ?_ GE828.out) | exact HB.out)) hb); clear BK824; clear BK828; clear HB; have BK824 := n0_; have BK828 := n1_; have HB := n2_; clear n0_ n1_ n2_; (try clear hb); (try clear hb2); (try clear hk); (try clear hi))); try go_wp2_with (first | (go_at_call 28; (with_reducible refine (damasklaw05_awake.calls kj2  t831 _ A20.out).mono ?_); rintro e w21 ⟨rfl, hb⟩; have n0_ := Aside0.mk (bB (g := gb824) (o := .cells #[.int .i64 a0_0, .int .i64 a0_1, .int .i64 a0_2, .slice A0_3 l0_3.length c0_3] 45 (0, 0)) (by (with_reducible repeat (first | apply bN | apply bD | apply bA)); exact BK824.out) hb); have n1_ := Aside0.mk (bB (g := gb828) (o := .cells #[.int .i64 t825, .int .i64 t826] 47 (0, 0)) (by (with_reducible repeat (first | apply bN | apply bD | apply bA)); exact BK828.out) hb); have n2_ := Aside0.mk (cT (by repeat (first | (with_reducible first | exact HB.out | apply cA | apply cN | apply cD | refine cS ?_ GE824.out | refine cS ?_ GE828.out) | exact HB.out)) hb); clear BK824; clear BK828; clear HB; have BK824 := n0_; have BK828 := n1_; have HB := n2_; clear n0_ n1_ n2_; (try clear hb); (try clear hb2); (try clear hk); (try clear hi))))
        go_ret
        exact ⟨by first | rfl | (simp [errW_none, errW_some] <;> rfl) | (simp [*, errW_none, errW_some] <;> rfl), by repeat (first | (with_reducible first | exact HB.out | apply cA | apply cN | apply cD | refine cS ?_ GE824.out | refine cS ?_ GE828.out) | exact HB.out)⟩
      replace c19 := Bool.eq_false_iff.mpr c19
      subst c19
      have H1 : (damasklaw05_SpanEnds.l0 kj2 false false 0 a0_0 a0_1 a0_2 l0_3 t825 t826) = some r := by rw [if_neg (show ¬ (false = true) by decide)] at H; exact H
      clear H
      have H := H1
      clear H1
      have H' := Aside0.mk H
      clear H
      go_wp2
      repeat (go_quiet (fail); try go_wp2)
      go_loopg [5, 6, 7] kj2 (fun kq v5 v6 v7 w' => ∃ (x5_2 : Bool) (x6_2 : Bool) (x7_2 : Int), v5 = .bool x5_2 ∧ v6 = .bool x6_2 ∧ v7 = .int .i64 x7_2 ∧ Aside0 (damasklaw05_SpanEnds.l0 kq x5_2 x6_2 x7_2 a0_0 a0_1 a0_2 l0_3 t825 t826 = some r) ∧ Aside0 (kq ≤ kj2) ∧ Aside0 (w'.heap[gb824]? = some (.cells #[.int .i64 a0_0, .int .i64 a0_1, .int .i64 a0_2, (.slice A0_3 l0_3.length c0_3)] 45 (0, 0))) ∧ Aside0 (w'.heap[gb828]? = some (.cells #[.int .i64 t825, .int .i64 t826] 47 (0, 0))) ∧ Aside0 (Below w.heap.size w w'))
      case atStart => exact ⟨(false), (false), (0), (by first | rfl | (simp; done) | (simp [*]; done)), (by first | rfl | (simp; done) | (simp [*]; done)), (by first | rfl | (simp; done) | (simp [*]; done)), H', ⟨Nat.le_refl _⟩, ⟨by (with_reducible repeat (first | apply bN | apply bD | apply bA)); exact BK824.out⟩, ⟨by (with_reducible repeat (first | apply bN | apply bD | apply bA)); exact BK828.out⟩, ⟨by repeat (first | (with_reducible first | exact HB.out | apply cA | apply cN | apply cD | refine cS ?_ GE824.out | refine cS ?_ GE828.out) | exact HB.out)⟩⟩
      case round =>
        clear H'
        try clear c11
        try clear c12
        try clear c12b0
        try clear c12b1
        try clear c19
        try clear hcz16_0
        try clear hcz16_1
        try clear hcz16_2
        try clear hcz16_3
        try clear hcz5_0
        try clear hcz5_1
        try clear hcz5_2
        try clear hcz5_3
        try clear hcz9_0
        try clear hcz9_1
        try clear hfz16_0
        try clear hfz16_1
        try clear hfz16_2
        try clear hfz16_3
        try clear hfz5_0
        try clear hfz5_1
        try clear hfz5_2
        try clear hfz5_3
        try clear hfz9_0
        try clear hfz9_1
        obtain ⟨x5_2, x6_2, x7_2, rfl, rfl, rfl, HA, HK2, BK824, BK828, HB⟩ := hrel
        cases gk with
        | zero => exact absurd HA.out (by simp [damasklaw05_SpanEnds.l0])
        | succ k2 =>
          have H := HA.out
          clear HA
          simp only [damasklaw05_SpanEnds.l0] at H
          by_cases c22 : x7_2 < 8
          · rw [if_pos c22] at H
            have c22b0 : decide (x7_2 < 8) = true := decide_eq_true c22
            clear c22
            have H' := Aside0.mk H
            clear H
            go_wp2
            repeat (go_quiet (fail); try go_wp2)
            go_loopg [8, 9] k2 (fun kq v8 v9 w' => ∃ (x8_3 : List Int) (x9_3 : Int), v9 = .int .i64 x9_3 ∧ Aside0 (damasklaw05_SpanEnds.l1 kq x5_2 x6_2 x7_2 x8_3 x9_3 a0_0 a0_1 a0_2 l0_3 t825 t826 = some r) ∧ Aside0 (kq ≤ k2) ∧ Aside0 (Kd.R (Kd.int .i64) 3 w' w.heap.size (fun _ => True) v8 x8_3) ∧ Aside0 (w'.heap[gb824]? = some (.cells #[.int .i64 a0_0, .int .i64 a0_1, .int .i64 a0_2, (.slice A0_3 l0_3.length c0_3)] 45 (0, 0))) ∧ Aside0 (w'.heap[gb828]? = some (.cells #[.int .i64 t825, .int .i64 t826] 47 (0, 0))) ∧ Aside0 (Below w.heap.size w w'))
            case atStart => exact ⟨(([] : List Int)), (0), (by first | rfl | (simp; done) | (simp [*]; done)), H', ⟨Nat.le_refl _⟩, ⟨by first | exact Kd.R_nil _ _ _ _ _ | exact Kd.N_nil _ _ _ _ _ | exact Kd.V_nil _ _ _ _ _ | exact Kd.Q_nil _ _ _ _ _ | exact Kd.S_nil _ _ _ _ _⟩, ⟨by (with_reducible repeat (first | apply bN | apply bD | apply bA)); exact BK824.out⟩, ⟨by (with_reducible repeat (first | apply bN | apply bD | apply bA)); exact BK828.out⟩, ⟨by repeat (first | (with_reducible first | exact HB.out | apply cA | apply cN | apply cD | refine cS ?_ GE824.out | refine cS ?_ GE828.out) | exact HB.out)⟩⟩
            case round =>
              clear H'
              try clear c11
              try clear c12
              try clear c12b0
              try clear c12b1
              try clear c19
              try clear c22
              try clear c22b0
              try clear hcz16_0
              try clear hcz16_1
              try clear hcz16_2
              try clear hcz16_3
              try clear hcz5_0
              try clear hcz5_1
              try clear hcz5_2
              try clear hcz5_3
              try clear hcz9_0
              try clear hcz9_1
              try clear hfz16_0
              try clear hfz16_1
              try clear hfz16_2
              try clear hfz16_3
              try clear hfz5_0
              try clear hfz5_1
              try clear hfz5_2
              try clear hfz5_3
              try clear hfz9_0
              try clear hfz9_1
              obtain ⟨x8_3, x9_3, rfl, HA, HK3, HO_8, BK824, BK828, HB⟩ := hrel
              cases gk with
              | zero => exact absurd HA.out (by simp [damasklaw05_SpanEnds.l1])
              | succ k3 =>
                have H := HA.out
                clear HA
                simp only [damasklaw05_SpanEnds.l1] at H
                have HC23 := Aside0.mk H
                clear H
                go_upto_region 10 with (fail)
                repeat (go_quiet (fail); go_upto_region 10 with (fail))
                go_cut [50] (fun v50 wc => ∃ (kq : Nat) (x50_22 : Bool), v50 = .bool x50_22 ∧ Aside0 (damasklaw05_SpanEnds.j3 kq x5_2 x6_2 x7_2 x8_3 x9_3 x50_22 a0_0 a0_1 a0_2 l0_3 t825 t826 = some r) ∧ Aside0 (kq ≤ k3) ∧ Aside0 (Kd.R (Kd.int .i64) 3 wc w.heap.size (fun _ => True) u8 x8_3) ∧ Aside0 (wc.heap[gb824]? = some (.cells #[.int .i64 a0_0, .int .i64 a0_1, .int .i64 a0_2, (.slice A0_3 l0_3.length c0_3)] 45 (0, 0))) ∧ Aside0 (wc.heap[gb828]? = some (.cells #[.int .i64 t825, .int .i64 t826] 47 (0, 0))) ∧ Aside0 (Below w.heap.size w wc))
                case first =>
                  have H := HC23.out
                  clear HC23
                  by_cases c24 : x9_3 < (l0_3.length : Int)
                  · rw [if_pos c24] at H
                    have c24b0 : decide (x9_3 < (l0_3.length : Int)) = true := decide_eq_true c24
                    clear c24
                    (first | rw [c24b0] | (simp only [i64_w, i32_w]; rw [c24b0]) | skip)
                    have H' := Aside0.mk H
                    clear H
                    have hnb25 := NB824_828.out
                    have hnc25 := NB828_824.out
                    have hcz26_0 : wr.cell? ⟨gb824, 0, none⟩ = some (.int .i64 a0_0) := (bC BK824.out 0).trans rfl
                    have hcz26_1 : wr.cell? ⟨gb824, 1, none⟩ = some (.int .i64 a0_1) := (bC BK824.out 1).trans rfl
                    have hcz26_2 : wr.cell? ⟨gb824, 2, none⟩ = some (.int .i64 a0_2) := (bC BK824.out 2).trans rfl
                    have hcz26_3 : wr.cell? ⟨gb824, 3, none⟩ = some (.slice A0_3 l0_3.length c0_3) := (bC BK824.out 3).trans rfl
                    have hfz26_0 := bZ BK824.out 0
                    have hfz26_1 := bZ BK824.out 1
                    have hfz26_2 := bZ BK824.out 2
                    have hfz26_3 := bZ BK824.out 3
                    go_wp2
                    repeat (go_quiet (fail); try go_wp2)
                    go_meet
                    case rel => exact ⟨_, (decide (x9_3 < 3)), (by first | rfl | (simp; done) | (simp [*]; done)), H', ⟨by have := HJ2.out; have := HK2.out; have := HK3.out; first | omega | exact Nat.le_refl _⟩, ⟨by (with_reducible repeat (first | apply Kd.R_alloc | apply Kd.R_drewN | apply Kd.R_drew)); exact HO_8.out⟩, ⟨by (with_reducible repeat (first | apply bN | apply bD | apply bA)); exact BK824.out⟩, ⟨by (with_reducible repeat (first | apply bN | apply bD | apply bA)); exact BK828.out⟩, ⟨by repeat (first | (with_reducible first | exact HB.out | apply cA | apply cN | apply cD | refine cS ?_ GE824.out | refine cS ?_ GE828.out) | exact HB.out)⟩⟩
                  rw [if_neg c24] at H
                  have c24b0 : decide (x9_3 < (l0_3.length : Int)) = false := decide_eq_false c24
                  clear c24
                  (first | rw [c24b0] | (simp only [i64_w, i32_w]; rw [c24b0]) | skip)
                  have H' := Aside0.mk H
                  clear H
                  have hnb27 := NB824_828.out
                  have hnc27 := NB828_824.out
                  have hcz28_0 : wr.cell? ⟨gb824, 0, none⟩ = some (.int .i64 a0_0) := (bC BK824.out 0).trans rfl
                  have hcz28_1 : wr.cell? ⟨gb824, 1, none⟩ = some (.int .i64 a0_1) := (bC BK824.out 1).trans rfl
                  have hcz28_2 : wr.cell? ⟨gb824, 2, none⟩ = some (.int .i64 a0_2) := (bC BK824.out 2).trans rfl
                  have hcz28_3 : wr.cell? ⟨gb824, 3, none⟩ = some (.slice A0_3 l0_3.length c0_3) := (bC BK824.out 3).trans rfl
                  have hfz28_0 := bZ BK824.out 0
                  have hfz28_1 := bZ BK824.out 1
                  have hfz28_2 := bZ BK824.out 2
                  have hfz28_3 := bZ BK824.out 3
                  go_wp2
                  repeat (go_quiet (fail); try go_wp2)
                  go_meet
                  case rel => exact ⟨_, (false), (by first | rfl | (simp; done) | (simp [*]; done)), H', ⟨by have := HJ2.out; have := HK2.out; have := HK3.out; first | omega | exact Nat.le_refl _⟩, ⟨by (with_reducible repeat (first | apply Kd.R_alloc | apply Kd.R_drewN | apply Kd.R_drew)); exact HO_8.out⟩, ⟨by (with_reducible repeat (first | apply bN | apply bD | apply bA)); exact BK824.out⟩, ⟨by (with_reducible repeat (first | apply bN | apply bD | apply bA)); exact BK828.out⟩, ⟨by repeat (first | (with_reducible first | exact HB.out | apply cA | apply cN | apply cD | refine cS ?_ GE824.out | refine cS ?_ GE828.out) | exact HB.out)⟩⟩
                case rest =>
                  clear HC23
                  try clear c11
                  try clear c12
                  try clear c12b0
                  try clear c12b1
                  try clear c19
                  try clear c22
                  try clear c22b0
                  try clear c24
                  try clear c24b0
                  try clear hcz16_0
                  try clear hcz16_1
                  try clear hcz16_2
                  try clear hcz16_3
                  try clear hcz26_0
                  try clear hcz26_1
                  try clear hcz26_2
                  try clear hcz26_3
                  try clear hcz28_0
                  try clear hcz28_1
                  try clear hcz28_2
                  try clear hcz28_3
                  try clear hcz5_0
                  try clear hcz5_1
                  try clear hcz5_2
                  try clear hcz5_3
                  try clear hcz9_0
                  try clear hcz9_1
                  try clear hfz16_0
                  try clear hfz16_1
                  try clear hfz16_2
                  try clear hfz16_3
                  try clear hfz26_0
                  try clear hfz26_1
                  try clear hfz26_2
                  try clear hfz26_3
                  try clear hfz28_0
                  try clear hfz28_1
                  try clear hfz28_2
                  try clear hfz28_3
                  try clear hfz5_0
                  try clear hfz5_1
                  try clear hfz5_2
                  try clear hfz5_3
                  try clear hfz9_0
                  try clear hfz9_1
                  obtain ⟨kq, x50_22, rfl, HA, HJ22, HO_8, BK824, BK828, HB⟩ := hcut
                  cases kq with
                  | zero => exact absurd HA.out (by simp [damasklaw05_SpanEnds.j3])
                  | succ kj22 =>
                    have H := HA.out
                    clear HA
                    simp only [damasklaw05_SpanEnds.j3] at H
                    by_cases c29 : x50_22 = true
                    · subst c29
                      have H1 : (if 0 ≤ x9_3 then (if x9_3 < (l0_3.length : Int) then (if (Go.bits .and .i64 (shr .i64 x7_2 x9_3) 1) = 1 then (if x8_3.length < 17592186044416 then (damasklaw05_SpanEnds.l1 kj22 x5_2 x6_2 x7_2 (x8_3 ++ [(rd_T47 l0_3 x9_3).f1]) (wrap64 (x9_3 + 1)) a0_0 a0_1 a0_2 l0_3 t825 t826) else (none)) else (if x8_3.length < 17592186044416 then (damasklaw05_SpanEnds.l1 kj22 x5_2 x6_2 x7_2 (x8_3 ++ [(rd_T47 l0_3 x9_3).f0]) (wrap64 (x9_3 + 1)) a0_0 a0_1 a0_2 l0_3 t825 t826) else (none))) else (none)) else (none)) = some r := by rw [if_pos rfl] at H; exact H
                      clear H
                      have H := H1
                      clear H1
                      by_cases c30 : 0 ≤ x9_3
                      · rw [if_pos c30] at H
                        have c30b0 : decide (0 ≤ x9_3) = true := decide_eq_true c30
                        clear c30
                        by_cases c31 : x9_3 < (l0_3.length : Int)
                        · rw [if_pos c31] at H
                          have c31b0 : decide (x9_3 < (l0_3.length : Int)) = true := decide_eq_true c31
                          clear c31
                          have c32b0 := eq_true (of_decide_eq_true (by first | (with_reducible assumption) | assumption) : 0 ≤ x9_3)
                          obtain ⟨ji33, hji33⟩ : ∃ j_ : Int, (shr .i64 x7_2 x9_3) = j_ := ⟨_, rfl⟩
                          replace H : (if (Go.bits .and .i64 (ji33) 1) = 1 then (if x8_3.length < 17592186044416 then (damasklaw05_SpanEnds.l1 kj22 x5_2 x6_2 x7_2 (x8_3 ++ [(rd_T47 l0_3 x9_3).f1]) (wrap64 (x9_3 + 1)) a0_0 a0_1 a0_2 l0_3 t825 t826) else (none)) else (if x8_3.length < 17592186044416 then (damasklaw05_SpanEnds.l1 kj22 x5_2 x6_2 x7_2 (x8_3 ++ [(rd_T47 l0_3 x9_3).f0]) (wrap64 (x9_3 + 1)) a0_0 a0_1 a0_2 l0_3 t825 t826) else (none))) = some r := by first | (rw [hji33] at H; exact H) | (simp only [hji33] at H ⊢; exact H)
                          have hji33_ : (x7_2 / 2 ^ min x9_3.toNat 64) = ji33 := hji33
                          have hji33z : x9_3 ≤ 64 → (x7_2 / 2 ^ x9_3.toNat) = ji33 := shr_small hji33
                          by_cases c34 : (Go.bits .and .i64 (ji33) 1) = 1
                          · rw [if_pos c34] at H
                            have c34b0 : ((Go.bits .and .i64 (ji33) 1) == 1) = true := beq_iff_eq.mpr c34
                            have c34b1 : ((Go.bits .and .i64 (ji33) 1) != 1) = false := bne_eq_false_iff_eq.mpr c34
                            clear c34
                            by_cases c35 : x8_3.length < 17592186044416
                            · rw [if_pos c35] at H
                              have LMc35 := Aside0.mk c35
                              clear c35
                              obtain ⟨y834, hy834⟩ : ∃ y_ : List Int, y_ = (x8_3 ++ [(rd_T47 l0_3 x9_3).f1]) := ⟨_, rfl⟩
                              replace H : (damasklaw05_SpanEnds.l1 kj22 x5_2 x6_2 x7_2 y834 (wrap64 (x9_3 + 1)) a0_0 a0_1 a0_2 l0_3 t825 t826) = some r := by first | (rw [hy834]; with_reducible exact H) | (have H2_ := (Option.bind_some _ _).symm.trans H; rw [hy834]; with_reducible exact H2_) | (have H2_ := (Option.bind_some _ _).symm.trans H; with_reducible exact H2_) | with_reducible exact H | (rw [hy834]; exact H) | exact H
                              have Ny834 := Aside0.mk hy834
                              clear hy834
                              have H' := Aside0.mk H
                              clear H
                              have hnb36 := NB824_828.out
                              have hnc36 := NB828_824.out
                              have hcz37_0 : wc.cell? ⟨gb824, 0, none⟩ = some (.int .i64 a0_0) := (bC BK824.out 0).trans rfl
                              have hcz37_1 : wc.cell? ⟨gb824, 1, none⟩ = some (.int .i64 a0_1) := (bC BK824.out 1).trans rfl
                              have hcz37_2 : wc.cell? ⟨gb824, 2, none⟩ = some (.int .i64 a0_2) := (bC BK824.out 2).trans rfl
                              have hcz37_3 : wc.cell? ⟨gb824, 3, none⟩ = some (.slice A0_3 l0_3.length c0_3) := (bC BK824.out 3).trans rfl
                              have hfz37_0 := bZ BK824.out 0
                              have hfz37_1 := bZ BK824.out 1
                              have hfz37_2 := bZ BK824.out 2
                              have hfz37_3 := bZ BK824.out 3
                              have p832 : 0 ≤ (x9_3 : Int) := of_decide_eq_true (by first | (with_reducible assumption) | assumption)
                              have q832 : x9_3 < (l0_3.length : Int) := of_decide_eq_true (by first | (with_reducible assumption) | assumption)
                              obtain ⟨ad832, e832, hx832_0, hx832_1⟩ := at_T47 HR0_3.out x9_3 p832 q832
                              cases e832
                              replace hx832_0 := (HB.out.cell (wB w hx832_0)).trans hx832_0
                              replace hx832_1 := (HB.out.cell (wB w hx832_1)).trans hx832_1
                              replace p832 := eq_true p832
                              replace q832 := eq_true q832
                              have p833 : 0 ≤ (x9_3 : Int) := of_decide_eq_true (by first | (with_reducible assumption) | assumption)
                              have q833 : x9_3 < (l0_3.length : Int) := of_decide_eq_true (by first | (with_reducible assumption) | assumption)
                              obtain ⟨ad833, e833, hx833_0, hx833_1⟩ := at_T47 HR0_3.out x9_3 p833 q833
                              obtain rfl : ad832 = ad833 := (by injection e833)
                              replace hx833_0 := (HB.out.cell (wB w hx833_0)).trans hx833_0
                              replace hx833_1 := (HB.out.cell (wB w hx833_1)).trans hx833_1
                              replace p833 := eq_true p833
                              replace q833 := eq_true q833
                              go_wp2_with (first | ((with_reducible refine gate_builtin (b := .append) (xs := #[.tmp 70, .tmp 72]) rfl ?_); at_builtin; refine Kd.R_append (Kd.int .i64) (w0 := w) w.heap.size rfl (.tmp 70) (.tmp 72) 26 3 (.int .i64 0) 8 rfl Try.underlying26 info3 rfl (by decide) (by omega) u8 x8_3 ((rd_T47 l0_3 x9_3).f1) [.int .i64 ((rd_T47 l0_3 x9_3).f1)] (fun _ => True) (fun _ => False) rfl rfl ?aP (fun _ hk => hk.elim) ?aF ?aO ?aB ?aS ?aL ?_; (case aP => exact rfl); (case aB => exact (by repeat (first | (with_reducible first | exact HB.out | apply cA | apply cN | apply cD | refine cS ?_ GE824.out | refine cS ?_ GE828.out) | exact HB.out))); (case aF => exact (fun _ _ => trivial)); (case aO => exact (by (with_reducible repeat (first | apply Kd.R_alloc | apply Kd.R_drewN | apply Kd.R_drew)); exact HO_8.out)); (case aS => exact (cZ (by repeat (first | (with_reducible first | exact HB.out | apply cA | apply cN | apply cD | refine cS ?_ GE824.out | refine cS ?_ GE828.out) | exact HB.out)))); (case aL => have := LMc35.out; omega); intro v835 w38 ho hb hg hat; rw [← Ny834.out] at ho; have n0_ := Aside0.mk (blk_grown (g := gb824) (o := .cells #[.int .i64 a0_0, .int .i64 a0_1, .int .i64 a0_2, .slice (some ad832) l0_3.length c0_3] 45 (0, 0)) (by (with_reducible repeat (first | apply bN | apply bD | apply bA)); exact BK824.out) hg (Kd.R_ne HO_8.out BK824.out (by decide))); have n1_ := Aside0.mk (blk_grown (g := gb828) (o := .cells #[.int .i64 t825, .int .i64 t826] 47 (0, 0)) (by (with_reducible repeat (first | apply bN | apply bD | apply bA)); exact BK828.out) hg (Kd.R_ne HO_8.out BK828.out (by decide))); have n2_ := Aside0.mk (hb); have n3_ := Aside0.mk (ho); clear BK824; clear BK828; clear HB; clear HO_8; have BK824 := n0_; have BK828 := n1_; have HB := n2_; have HO836 := n3_; clear n0_ n1_ n2_ n3_; clear ho hb hg hat))
                              repeat (go_quiet (first | ((with_reducible refine gate_builtin (b := .append) (xs := #[.tmp 70, .tmp 72]) rfl ?_); at_builtin; refine Kd.R_append (Kd.int .i64) (w0 := w) w.heap.size rfl (.tmp 70) (.tmp 72) 26 3 (.int .i64 0) 8 rfl Try.underlying26 info3 rfl (by decide) (by omega) u8 x8_3 ((rd_T47 l0_3 x9_3).f1) [.int .i64 ((rd_T47 l0_3 x9_3).f1)] (fun _ => True) (fun _ => False) rfl rfl ?aP (fun _ hk => hk.elim) ?aF ?aO ?aB ?aS ?aL ?_; (case aP => exact rfl); (case aB => exact (by repeat (first | (with_reducible first | exact HB.out | apply cA | apply cN | apply cD | refine cS ?_ GE824.out | refine cS ?_ GE828.out) | exact HB.out))); (case aF => exact (fun _ _ => trivial)); (case aO => exact (by (with_reducible repeat (first | apply Kd.R_alloc | apply Kd.R_drewN | apply Kd.R_drew)); exact HO_8.out)); (case aS => exact (cZ (by repeat (first | (with_reducible first | exact HB.out | apply cA | apply cN | apply cD | refine cS ?_ GE824.out | refine cS ?_ GE828.out) | exact HB.out)))); (case aL => have := LMc35.out; omega); intro v835 w38 ho hb hg hat; rw [← Ny834.out] at ho; have n0_ := Aside0.mk (blk_grown (g := gb824) (o := .cells #[.int .i64 a0_0, .int .i64 a0_1, .int .i64 a0_2, .slice (some ad832) l0_3.length c0_3] 45 (0, 0)) (by (with_reducible repeat (first | apply bN | apply bD | apply bA)); exact BK824.out) hg (Kd.R_ne HO_8.out BK824.out (by decide))); have n1_ := Aside0.mk (blk_grown (g := gb828) (o := .cells #[.int .i64 t825, .int .i64 t826] 47 (0, 0)) (by (with_reducible repeat (first | apply bN | apply bD | apply bA)); exact BK828.out) hg (Kd.R_ne HO_8.out BK828.out (by decide))); have n2_ := Aside0.mk (hb); have n3_ := Aside0.mk (ho); clear BK824; clear BK828; clear HB; clear HO_8; have BK824 := n0_; have BK828 := n1_; have HB := n2_; have HO836 := n3_; clear n0_ n1_ n2_ n3_; clear ho hb hg hat)); try go_wp2_with (first | ((with_reducible refine gate_builtin (b := .append) (xs := #[.tmp 70, .tmp 72]) rfl ?_); at_builtin; refine Kd.R_append (Kd.int .i64) (w0 := w) w.heap.size rfl (.tmp 70) (.tmp 72) 26 3 (.int .i64 0) 8 rfl Try.underlying26 info3 rfl (by decide) (by omega) u8 x8_3 ((rd_T47 l0_3 x9_3).f1) [.int .i64 ((rd_T47 l0_3 x9_3).f1)] (fun _ => True) (fun _ => False) rfl rfl ?aP (fun _ hk => hk.elim) ?aF ?aO ?aB ?aS ?aL ?_; (case aP => exact rfl); (case aB => exact (by repeat (first | (with_reducible first | exact HB.out | apply cA | apply cN | apply cD | refine cS ?_ GE824.out | refine cS ?_ GE828.out) | exact HB.out))); (case aF => exact (fun _ _ => trivial)); (case aO => exact (by (with_reducible repeat (first | apply Kd.R_alloc | apply Kd.R_drewN | apply Kd.R_drew)); exact HO_8.out)); (case aS => exact (cZ (by repeat (first | (with_reducible first | exact HB.out | apply cA | apply cN | apply cD | refine cS ?_ GE824.out | refine cS ?_ GE828.out) | exact HB.out)))); (case aL => have := LMc35.out; omega); intro v835 w38 ho hb hg hat; rw [← Ny834.out] at ho; have n0_ := Aside0.mk (blk_grown (g := gb824) (o := .cells #[.int .i64 a0_0, .int .i64 a0_1, .int .i64 a0_2, .slice (some ad832) l0_3.length c0_3] 45 (0, 0)) (by (with_reducible repeat (first | apply bN | apply bD | apply bA)); exact BK824.out) hg (Kd.R_ne HO_8.out BK824.out (by decide))); have n1_ := Aside0.mk (blk_grown (g := gb828) (o := .cells #[.int .i64 t825, .int .i64 t826] 47 (0, 0)) (by (with_reducible repeat (first | apply bN | apply bD | apply bA)); exact BK828.out) hg (Kd.R_ne HO_8.out BK828.out (by decide))); have n2_ := Aside0.mk (hb); have n3_ := Aside0.mk (ho); clear BK824; clear BK828; clear HB; clear HO_8; have BK824 := n0_; have BK828 := n1_; have HB := n2_; have HO836 := n3_; clear n0_ n1_ n2_ n3_; clear ho hb hg hat)))
                              go_roundg kj22
                              case measure => have := HJ2.out; have := HK2.out; have := HK3.out; have := HJ22.out; omega
                              case rel => exact ⟨(y834), (wrap64 (x9_3 + 1)), (by first | rfl | (simp; done) | (simp [*]; done)), H', ⟨by have := HJ2.out; have := HK2.out; have := HK3.out; have := HJ22.out; omega⟩, ⟨by (with_reducible repeat (first | apply Kd.R_alloc | apply Kd.R_drewN | apply Kd.R_drew)); exact HO836.out⟩, ⟨by (with_reducible repeat (first | apply bN | apply bD | apply bA)); exact BK824.out⟩, ⟨by (with_reducible repeat (first | apply bN | apply bD | apply bA)); exact BK828.out⟩, ⟨by repeat (first | (with_reducible first | exact HB.out | apply cA | apply cN | apply cD | refine cS ?_ GE824.out | refine cS ?_ GE828.out) | exact HB.out)⟩⟩
                            rw [if_neg c35] at H
                            exact absurd H (by simp)
                          rw [if_neg c34] at H
                          have c34b0 : ((Go.bits .and .i64 (ji33) 1) == 1) = false := beq_eq_false_iff_ne.mpr c34
                          have c34b1 : ((Go.bits .and .i64 (ji33) 1) != 1) = true := bne_iff_ne.mpr c34
                          by_cases c39 : x8_3.length < 17592186044416
                          · rw [if_pos c39] at H
                            have LMc39 := Aside0.mk c39
                            clear c39
                            obtain ⟨y837, hy837⟩ : ∃ y_ : List Int, y_ = (x8_3 ++ [(rd_T47 l0_3 x9_3).f0]) := ⟨_, rfl⟩
                            replace H : (damasklaw05_SpanEnds.l1 kj22 x5_2 x6_2 x7_2 y837 (wrap64 (x9_3 + 1)) a0_0 a0_1 a0_2 l0_3 t825 t826) = some r := by first | (rw [hy837]; with_reducible exact H) | (have H2_ := (Option.bind_some _ _).symm.trans H; rw [hy837]; with_reducible exact H2_) | (have H2_ := (Option.bind_some _ _).symm.trans H; with_reducible exact H2_) | with_reducible exact H | (rw [hy837]; exact H) | exact H
                            have Ny837 := Aside0.mk hy837
                            clear hy837
                            have H' := Aside0.mk H
                            clear H
                            have hnb40 := NB824_828.out
                            have hnc40 := NB828_824.out
                            have hcz41_0 : wc.cell? ⟨gb824, 0, none⟩ = some (.int .i64 a0_0) := (bC BK824.out 0).trans rfl
                            have hcz41_1 : wc.cell? ⟨gb824, 1, none⟩ = some (.int .i64 a0_1) := (bC BK824.out 1).trans rfl
                            have hcz41_2 : wc.cell? ⟨gb824, 2, none⟩ = some (.int .i64 a0_2) := (bC BK824.out 2).trans rfl
                            have hcz41_3 : wc.cell? ⟨gb824, 3, none⟩ = some (.slice A0_3 l0_3.length c0_3) := (bC BK824.out 3).trans rfl
                            have hfz41_0 := bZ BK824.out 0
                            have hfz41_1 := bZ BK824.out 1
                            have hfz41_2 := bZ BK824.out 2
                            have hfz41_3 := bZ BK824.out 3
                            have p832 : 0 ≤ (x9_3 : Int) := of_decide_eq_true (by first | (with_reducible assumption) | assumption)
                            have q832 : x9_3 < (l0_3.length : Int) := of_decide_eq_true (by first | (with_reducible assumption) | assumption)
                            obtain ⟨ad832, e832, hx832_0, hx832_1⟩ := at_T47 HR0_3.out x9_3 p832 q832
                            cases e832
                            replace hx832_0 := (HB.out.cell (wB w hx832_0)).trans hx832_0
                            replace hx832_1 := (HB.out.cell (wB w hx832_1)).trans hx832_1
                            replace p832 := eq_true p832
                            replace q832 := eq_true q832
                            go_wp2_with (first | ((with_reducible refine gate_builtin (b := .append) (xs := #[.tmp 70, .tmp 72]) rfl ?_); at_builtin; refine Kd.R_append (Kd.int .i64) (w0 := w) w.heap.size rfl (.tmp 70) (.tmp 72) 26 3 (.int .i64 0) 8 rfl Try.underlying26 info3 rfl (by decide) (by omega) u8 x8_3 ((rd_T47 l0_3 x9_3).f0) [.int .i64 ((rd_T47 l0_3 x9_3).f0)] (fun _ => True) (fun _ => False) rfl rfl ?aP (fun _ hk => hk.elim) ?aF ?aO ?aB ?aS ?aL ?_; (case aP => exact rfl); (case aB => exact (by repeat (first | (with_reducible first | exact HB.out | apply cA | apply cN | apply cD | refine cS ?_ GE824.out | refine cS ?_ GE828.out) | exact HB.out))); (case aF => exact (fun _ _ => trivial)); (case aO => exact (by (with_reducible repeat (first | apply Kd.R_alloc | apply Kd.R_drewN | apply Kd.R_drew)); exact HO_8.out)); (case aS => exact (cZ (by repeat (first | (with_reducible first | exact HB.out | apply cA | apply cN | apply cD | refine cS ?_ GE824.out | refine cS ?_ GE828.out) | exact HB.out)))); (case aL => have := LMc39.out; omega); intro v838 w42 ho hb hg hat; rw [← Ny837.out] at ho; have n0_ := Aside0.mk (blk_grown (g := gb824) (o := .cells #[.int .i64 a0_0, .int .i64 a0_1, .int .i64 a0_2, .slice (some ad832) l0_3.length c0_3] 45 (0, 0)) (by (with_reducible repeat (first | apply bN | apply bD | apply bA)); exact BK824.out) hg (Kd.R_ne HO_8.out BK824.out (by decide))); have n1_ := Aside0.mk (blk_grown (g := gb828) (o := .cells #[.int .i64 t825, .int .i64 t826] 47 (0, 0)) (by (with_reducible repeat (first | apply bN | apply bD | apply bA)); exact BK828.out) hg (Kd.R_ne HO_8.out BK828.out (by decide))); have n2_ := Aside0.mk (hb); have n3_ := Aside0.mk (ho); clear BK824; clear BK828; clear HB; clear HO_8; have BK824 := n0_; have BK828 := n1_; have HB := n2_; have HO839 := n3_; clear n0_ n1_ n2_ n3_; clear ho hb hg hat))
                            repeat (go_quiet (first | ((with_reducible refine gate_builtin (b := .append) (xs := #[.tmp 70, .tmp 72]) rfl ?_); at_builtin; refine Kd.R_append (Kd.int .i64) (w0 := w) w.heap.size rfl (.tmp 70) (.tmp 72) 26 3 (.int .i64 0) 8 rfl Try.underlying26 info3 rfl (by decide) (by omega) u8 x8_3 ((rd_T47 l0_3 x9_3).f0) [.int .i64 ((rd_T47 l0_3 x9_3).f0)] (fun _ => True) (fun _ => False) rfl rfl ?aP (fun _ hk => hk.elim) ?aF ?aO ?aB ?aS ?aL ?_; (case aP => exact rfl); (case aB => exact (by repeat (first | (with_reducible first | exact HB.out | apply cA | apply cN | apply cD | refine cS ?_ GE824.out | refine cS ?_ GE828.out) | exact HB.out))); (case aF => exact (fun _ _ => trivial)); (case aO => exact (by (with_reducible repeat (first | apply Kd.R_alloc | apply Kd.R_drewN | apply Kd.R_drew)); exact HO_8.out)); (case aS => exact (cZ (by repeat (first | (with_reducible first | exact HB.out | apply cA | apply cN | apply cD | refine cS ?_ GE824.out | refine cS ?_ GE828.out) | exact HB.out)))); (case aL => have := LMc39.out; omega); intro v838 w42 ho hb hg hat; rw [← Ny837.out] at ho; have n0_ := Aside0.mk (blk_grown (g := gb824) (o := .cells #[.int .i64 a0_0, .int .i64 a0_1, .int .i64 a0_2, .slice (some ad832) l0_3.length c0_3] 45 (0, 0)) (by (with_reducible repeat (first | apply bN | apply bD | apply bA)); exact BK824.out) hg (Kd.R_ne HO_8.out BK824.out (by decide))); have n1_ := Aside0.mk (blk_grown (g := gb828) (o := .cells #[.int .i64 t825, .int .i64 t826] 47 (0, 0)) (by (with_reducible repeat (first | apply bN | apply bD | apply bA)); exact BK828.out) hg (Kd.R_ne HO_8.out BK828.out (by decide))); have n2_ := Aside0.mk (hb); have n3_ := Aside0.mk (ho); clear BK824; clear BK828; clear HB; clear HO_8; have BK824 := n0_; have BK828 := n1_; have HB := n2_; have HO839 := n3_; clear n0_ n1_ n2_ n3_; clear ho hb hg hat)); try go_wp2_with (first | ((with_reducible refine gate_builtin (b := .append) (xs := #[.tmp 70, .tmp 72]) rfl ?_); at_builtin; refine Kd.R_append (Kd.int .i64) (w0 := w) w.heap.size rfl (.tmp 70) (.tmp 72) 26 3 (.int .i64 0) 8 rfl Try.underlying26 info3 rfl (by decide) (by omega) u8 x8_3 ((rd_T47 l0_3 x9_3).f0) [.int .i64 ((rd_T47 l0_3 x9_3).f0)] (fun _ => True) (fun _ => False) rfl rfl ?aP (fun _ hk => hk.elim) ?aF ?aO ?aB ?aS ?aL ?_; (case aP => exact rfl); (case aB => exact (by repeat (first | (with_reducible first | exact HB.out | apply cA | apply cN | apply cD | refine cS ?_ GE824.out | refine cS ?_ GE828.out) | exact HB.out))); (case aF => exact (fun _ _ => trivial)); (case aO => exact (by (with_reducible repeat (first | apply Kd.R_alloc | apply Kd.R_drewN | apply Kd.R_drew)); exact HO_8.out)); (case aS => exact (cZ (by repeat (first | (with_reducible first | exact HB.out | apply cA | apply cN | apply cD | refine cS ?_ GE824.out | refine cS ?_ GE828.out) | exact HB.out)))); (case aL => have := LMc39.out; omega); intro v838 w42 ho hb hg hat; rw [← Ny837.out] at ho; have n0_ := Aside0.mk (blk_grown (g := gb824) (o := .cells #[.int .i64 a0_0, .int .i64 a0_1, .int .i64 a0_2, .slice (some ad832) l0_3.length c0_3] 45 (0, 0)) (by (with_reducible repeat (first | apply bN | apply bD | apply bA)); exact BK824.out) hg (Kd.R_ne HO_8.out BK824.out (by decide))); have n1_ := Aside0.mk (blk_grown (g := gb828) (o := .cells #[.int .i64 t825, .int .i64 t826] 47 (0, 0)) (by (with_reducible repeat (first | apply bN | apply bD | apply bA)); exact BK828.out) hg (Kd.R_ne HO_8.out BK828.out (by decide))); have n2_ := Aside0.mk (hb); have n3_ := Aside0.mk (ho); clear BK824; clear BK828; clear HB; clear HO_8; have BK824 := n0_; have BK828 := n1_; have HB := n2_; have HO839 := n3_; clear n0_ n1_ n2_ n3_; clear ho hb hg hat)))
                            go_roundg kj22
                            case measure => have := HJ2.out; have := HK2.out; have := HK3.out; have := HJ22.out; omega
                            case rel => exact ⟨(y837), (wrap64 (x9_3 + 1)), (by first | rfl | (simp; done) | (simp [*]; done)), H', ⟨by have := HJ2.out; have := HK2.out; have := HK3.out; have := HJ22.out; omega⟩, ⟨by (with_reducible repeat (first | apply Kd.R_alloc | apply Kd.R_drewN | apply Kd.R_drew)); exact HO839.out⟩, ⟨by (with_reducible repeat (first | apply bN | apply bD | apply bA)); exact BK824.out⟩, ⟨by (with_reducible repeat (first | apply bN | apply bD | apply bA)); exact BK828.out⟩, ⟨by repeat (first | (with_reducible first | exact HB.out | apply cA | apply cN | apply cD | refine cS ?_ GE824.out | refine cS ?_ GE828.out) | exact HB.out)⟩⟩
                          rw [if_neg c39] at H
                          exact absurd H (by simp)
                        rw [if_neg c31] at H
                        exact absurd H (by simp)
                      rw [if_neg c30] at H
                      exact absurd H (by simp)
                    replace c29 := Bool.eq_false_iff.mpr c29
                    subst c29
                    have H1 : ((arith_Value.f kj22 a0_0 a0_1 a0_2 x8_3).bind fun bt840 => (if bt840.2 = 0 then (if x5_2 = true then (if x6_2 = true then (damasklaw05_SpanEnds.l0 kj22 true true (wrap64 (x7_2 + 1)) a0_0 a0_1 a0_2 l0_3 t825 t826) else (damasklaw05_SpanEnds.l0 kj22 true (bt840.1 == t826) (wrap64 (x7_2 + 1)) a0_0 a0_1 a0_2 l0_3 t825 t826)) else (if x6_2 = true then (damasklaw05_SpanEnds.l0 kj22 (bt840.1 == t825) true (wrap64 (x7_2 + 1)) a0_0 a0_1 a0_2 l0_3 t825 t826) else (damasklaw05_SpanEnds.l0 kj22 (bt840.1 == t825) (bt840.1 == t826) (wrap64 (x7_2 + 1)) a0_0 a0_1 a0_2 l0_3 t825 t826))) else (some false))) = some r := by rw [if_neg (show ¬ (false = true) by decide)] at H; exact H
                    clear H
                    have H := H1
                    clear H1
                    replace H := Option.bind_eq_some_iff.mp H
                    obtain ⟨⟨t840, t841⟩, A430, H⟩ := H
                    replace H : (if t841 = 0 then (if x5_2 = true then (if x6_2 = true then (damasklaw05_SpanEnds.l0 kj22 true true (wrap64 (x7_2 + 1)) a0_0 a0_1 a0_2 l0_3 t825 t826) else (damasklaw05_SpanEnds.l0 kj22 true (t840 == t826) (wrap64 (x7_2 + 1)) a0_0 a0_1 a0_2 l0_3 t825 t826)) else (if x6_2 = true then (damasklaw05_SpanEnds.l0 kj22 (t840 == t825) true (wrap64 (x7_2 + 1)) a0_0 a0_1 a0_2 l0_3 t825 t826) else (damasklaw05_SpanEnds.l0 kj22 (t840 == t825) (t840 == t826) (wrap64 (x7_2 + 1)) a0_0 a0_1 a0_2 l0_3 t825 t826))) else (some false)) = some r := H
                    have A43 := Aside0.mk A430
                    clear A430
                    by_cases c44 : t841 = 0
                    · rw [if_pos c44] at H
                      have c44b0 : (t841 == 0) = true := beq_iff_eq.mpr c44
                      have c44b1 : (t841 != 0) = false := bne_eq_false_iff_eq.mpr c44
                      clear c44
                      by_cases c45 : x5_2 = true
                      · subst c45
                        have H1 : (if x6_2 = true then (damasklaw05_SpanEnds.l0 kj22 true true (wrap64 (x7_2 + 1)) a0_0 a0_1 a0_2 l0_3 t825 t826) else (damasklaw05_SpanEnds.l0 kj22 true (t840 == t826) (wrap64 (x7_2 + 1)) a0_0 a0_1 a0_2 l0_3 t825 t826)) = some r := by rw [if_pos rfl] at H; exact H
                        clear H
                        have H := H1
                        clear H1
                        by_cases c46 : x6_2 = true
                        · subst c46
                          have H1 : (damasklaw05_SpanEnds.l0 kj22 true true (wrap64 (x7_2 + 1)) a0_0 a0_1 a0_2 l0_3 t825 t826) = some r := by rw [if_pos rfl] at H; exact H
                          clear H
                          have H := H1
                          clear H1
                          have H' := Aside0.mk H
                          clear H
                          have hnb47 := NB824_828.out
                          have hnc47 := NB828_824.out
                          have hcz48_0 : wc.cell? ⟨gb824, 0, none⟩ = some (.int .i64 a0_0) := (bC BK824.out 0).trans rfl
                          have hcz48_1 : wc.cell? ⟨gb824, 1, none⟩ = some (.int .i64 a0_1) := (bC BK824.out 1).trans rfl
                          have hcz48_2 : wc.cell? ⟨gb824, 2, none⟩ = some (.int .i64 a0_2) := (bC BK824.out 2).trans rfl
                          have hcz48_3 : wc.cell? ⟨gb824, 3, none⟩ = some (.slice A0_3 l0_3.length c0_3) := (bC BK824.out 3).trans rfl
                          have hfz48_0 := bZ BK824.out 0
                          have hfz48_1 := bZ BK824.out 1
                          have hfz48_2 := bZ BK824.out 2
                          have hfz48_3 := bZ BK824.out 3
                          obtain ⟨Ao49, co49, eo49⟩ := Kd.R_slice HO_8.out
                          subst eo49
                          go_wp2_with (first | (go_at_call 23; (with_reducible refine (arith_Value.calls kj22 a0_0 a0_1 a0_2 _ _ x8_3 t840 t841 _ ?side1 ?side2 A43.out).mono ?_); (case side1 => repeat (first | exact (Kd.R_reads' HO_8.out).2.2 | (with_reducible refine Kd.C_alloc ?_ _) | (with_reducible refine Kd.C_drewN ?_ _) | (with_reducible refine Kd.C_drew ?_))); (case side2 => exact (Kd.R_reads' HO_8.out).2.1); rintro e w50 ⟨rfl, hb⟩; have n0_ := Aside0.mk (Kd.R_below (by (with_reducible repeat (first | apply Kd.R_alloc | apply Kd.R_drewN | apply Kd.R_drew)); exact HO_8.out) hb); have n1_ := Aside0.mk (bB (g := gb824) (o := .cells #[.int .i64 a0_0, .int .i64 a0_1, .int .i64 a0_2, .slice A0_3 l0_3.length c0_3] 45 (0, 0)) (by (with_reducible repeat (first | apply bN | apply bD | apply bA)); exact BK824.out) hb); have n2_ := Aside0.mk (bB (g := gb828) (o := .cells #[.int .i64 t825, .int .i64 t826] 47 (0, 0)) (by (with_reducible repeat (first | apply bN | apply bD | apply bA)); exact BK828.out) hb); have n3_ := Aside0.mk (cT (by repeat (first | (with_reducible first | exact HB.out | apply cA | apply cN | apply cD | refine cS ?_ GE824.out | refine cS ?_ GE828.out) | exact HB.out)) hb); clear HO_8; clear BK824; clear BK828; clear HB; have HO_8 := n0_; have BK824 := n1_; have BK828 := n2_; have HB := n3_; clear n0_ n1_ n2_ n3_; (try clear hb); (try clear hb2); (try clear hk); (try clear hi)))
                          repeat (go_quiet (first | (go_at_call 23; (with_reducible refine (arith_Value.calls kj22 a0_0 a0_1 a0_2 _ _ x8_3 t840 t841 _ ?side1 ?side2 A43.out).mono ?_); (case side1 => repeat (first | exact (Kd.R_reads' HO_8.out).2.2 | (with_reducible refine Kd.C_alloc ?_ _) | (with_reducible refine Kd.C_drewN ?_ _) | (with_reducible refine Kd.C_drew ?_))); (case side2 => exact (Kd.R_reads' HO_8.out).2.1); rintro e w50 ⟨rfl, hb⟩; have n0_ := Aside0.mk (Kd.R_below (by (with_reducible repeat (first | apply Kd.R_alloc | apply Kd.R_drewN | apply Kd.R_drew)); exact HO_8.out) hb); have n1_ := Aside0.mk (bB (g := gb824) (o := .cells #[.int .i64 a0_0, .int .i64 a0_1, .int .i64 a0_2, .slice A0_3 l0_3.length c0_3] 45 (0, 0)) (by (with_reducible repeat (first | apply bN | apply bD | apply bA)); exact BK824.out) hb); have n2_ := Aside0.mk (bB (g := gb828) (o := .cells #[.int .i64 t825, .int .i64 t826] 47 (0, 0)) (by (with_reducible repeat (first | apply bN | apply bD | apply bA)); exact BK828.out) hb); have n3_ := Aside0.mk (cT (by repeat (first | (with_reducible first | exact HB.out | apply cA | apply cN | apply cD | refine cS ?_ GE824.out | refine cS ?_ GE828.out) | exact HB.out)) hb); clear HO_8; clear BK824; clear BK828; clear HB; have HO_8 := n0_; have BK824 := n1_; have BK828 := n2_; have HB := n3_; clear n0_ n1_ n2_ n3_; (try clear hb); (try clear hb2); (try clear hk); (try clear hi))); try go_wp2_with (first | (go_at_call 23; (with_reducible refine (arith_Value.calls kj22 a0_0 a0_1 a0_2 _ _ x8_3 t840 t841 _ ?side1 ?side2 A43.out).mono ?_); (case side1 => repeat (first | exact (Kd.R_reads' HO_8.out).2.2 | (with_reducible refine Kd.C_alloc ?_ _) | (with_reducible refine Kd.C_drewN ?_ _) | (with_reducible refine Kd.C_drew ?_))); (case side2 => exact (Kd.R_reads' HO_8.out).2.1); rintro e w50 ⟨rfl, hb⟩; have n0_ := Aside0.mk (Kd.R_below (by (with_reducible repeat (first | apply Kd.R_alloc | apply Kd.R_drewN | apply Kd.R_drew)); exact HO_8.out) hb); have n1_ := Aside0.mk (bB (g := gb824) (o := .cells #[.int .i64 a0_0, .int .i64 a0_1, .int .i64 a0_2, .slice A0_3 l0_3.length c0_3] 45 (0, 0)) (by (with_reducible repeat (first | apply bN | apply bD | apply bA)); exact BK824.out) hb); have n2_ := Aside0.mk (bB (g := gb828) (o := .cells #[.int .i64 t825, .int .i64 t826] 47 (0, 0)) (by (with_reducible repeat (first | apply bN | apply bD | apply bA)); exact BK828.out) hb); have n3_ := Aside0.mk (cT (by repeat (first | (with_reducible first | exact HB.out | apply cA | apply cN | apply cD | refine cS ?_ GE824.out | refine cS ?_ GE828.out) | exact HB.out)) hb); clear HO_8; clear BK824; clear BK828; clear HB; have HO_8 := n0_; have BK824 := n1_; have BK828 := n2_; have HB := n3_; clear n0_ n1_ n2_ n3_; (try clear hb); (try clear hb2); (try clear hk); (try clear hi))))
                          go_roundg kj22
                          case measure => have := HJ2.out; have := HK2.out; have := HK3.out; have := HJ22.out; omega
                          case rel => exact ⟨(true), (true), (wrap64 (x7_2 + 1)), (by first | rfl | (simp; done) | (simp [*]; done)), (by first | rfl | (simp; done) | (simp [*]; done)), (by first | rfl | (simp; done) | (simp [*]; done)), H', ⟨by have := HJ2.out; have := HK2.out; have := HK3.out; have := HJ22.out; omega⟩, ⟨by (with_reducible repeat (first | apply bN | apply bD | apply bA)); exact BK824.out⟩, ⟨by (with_reducible repeat (first | apply bN | apply bD | apply bA)); exact BK828.out⟩, ⟨by repeat (first | (with_reducible first | exact HB.out | apply cA | apply cN | apply cD | refine cS ?_ GE824.out | refine cS ?_ GE828.out) | exact HB.out)⟩⟩
                        replace c46 := Bool.eq_false_iff.mpr c46
                        subst c46
                        have H1 : (damasklaw05_SpanEnds.l0 kj22 true (t840 == t826) (wrap64 (x7_2 + 1)) a0_0 a0_1 a0_2 l0_3 t825 t826) = some r := by rw [if_neg (show ¬ (false = true) by decide)] at H; exact H
                        clear H
                        have H := H1
                        clear H1
                        have H' := Aside0.mk H
                        clear H
                        have hnb51 := NB824_828.out
                        have hnc51 := NB828_824.out
                        have hcz52_0 : wc.cell? ⟨gb824, 0, none⟩ = some (.int .i64 a0_0) := (bC BK824.out 0).trans rfl
                        have hcz52_1 : wc.cell? ⟨gb824, 1, none⟩ = some (.int .i64 a0_1) := (bC BK824.out 1).trans rfl
                        have hcz52_2 : wc.cell? ⟨gb824, 2, none⟩ = some (.int .i64 a0_2) := (bC BK824.out 2).trans rfl
                        have hcz52_3 : wc.cell? ⟨gb824, 3, none⟩ = some (.slice A0_3 l0_3.length c0_3) := (bC BK824.out 3).trans rfl
                        have hfz52_0 := bZ BK824.out 0
                        have hfz52_1 := bZ BK824.out 1
                        have hfz52_2 := bZ BK824.out 2
                        have hfz52_3 := bZ BK824.out 3
                        obtain ⟨Ao53, co53, eo53⟩ := Kd.R_slice HO_8.out
                        subst eo53
                        go_wp2_with (first | (go_at_call 23; (with_reducible refine (arith_Value.calls kj22 a0_0 a0_1 a0_2 _ _ x8_3 t840 t841 _ ?side1 ?side2 A43.out).mono ?_); (case side1 => repeat (first | exact (Kd.R_reads' HO_8.out).2.2 | (with_reducible refine Kd.C_alloc ?_ _) | (with_reducible refine Kd.C_drewN ?_ _) | (with_reducible refine Kd.C_drew ?_))); (case side2 => exact (Kd.R_reads' HO_8.out).2.1); rintro e w54 ⟨rfl, hb⟩; have n0_ := Aside0.mk (Kd.R_below (by (with_reducible repeat (first | apply Kd.R_alloc | apply Kd.R_drewN | apply Kd.R_drew)); exact HO_8.out) hb); have n1_ := Aside0.mk (bB (g := gb824) (o := .cells #[.int .i64 a0_0, .int .i64 a0_1, .int .i64 a0_2, .slice A0_3 l0_3.length c0_3] 45 (0, 0)) (by (with_reducible repeat (first | apply bN | apply bD | apply bA)); exact BK824.out) hb); have n2_ := Aside0.mk (bB (g := gb828) (o := .cells #[.int .i64 t825, .int .i64 t826] 47 (0, 0)) (by (with_reducible repeat (first | apply bN | apply bD | apply bA)); exact BK828.out) hb); have n3_ := Aside0.mk (cT (by repeat (first | (with_reducible first | exact HB.out | apply cA | apply cN | apply cD | refine cS ?_ GE824.out | refine cS ?_ GE828.out) | exact HB.out)) hb); clear HO_8; clear BK824; clear BK828; clear HB; have HO_8 := n0_; have BK824 := n1_; have BK828 := n2_; have HB := n3_; clear n0_ n1_ n2_ n3_; (try clear hb); (try clear hb2); (try clear hk); (try clear hi); have hcz55_0 : w54.cell? ⟨gb828, 0, none⟩ = some (.int .i64 t825) := (bC BK828.out 0).trans rfl; have hcz55_1 : w54.cell? ⟨gb828, 1, none⟩ = some (.int .i64 t826) := (bC BK828.out 1).trans rfl; have hfz55_0 := bZ BK828.out 0; have hfz55_1 := bZ BK828.out 1))
                        repeat (go_quiet (first | (go_at_call 23; (with_reducible refine (arith_Value.calls kj22 a0_0 a0_1 a0_2 _ _ x8_3 t840 t841 _ ?side1 ?side2 A43.out).mono ?_); (case side1 => repeat (first | exact (Kd.R_reads' HO_8.out).2.2 | (with_reducible refine Kd.C_alloc ?_ _) | (with_reducible refine Kd.C_drewN ?_ _) | (with_reducible refine Kd.C_drew ?_))); (case side2 => exact (Kd.R_reads' HO_8.out).2.1); rintro e w54 ⟨rfl, hb⟩; have n0_ := Aside0.mk (Kd.R_below (by (with_reducible repeat (first | apply Kd.R_alloc | apply Kd.R_drewN | apply Kd.R_drew)); exact HO_8.out) hb); have n1_ := Aside0.mk (bB (g := gb824) (o := .cells #[.int .i64 a0_0, .int .i64 a0_1, .int .i64 a0_2, .slice A0_3 l0_3.length c0_3] 45 (0, 0)) (by (with_reducible repeat (first | apply bN | apply bD | apply bA)); exact BK824.out) hb); have n2_ := Aside0.mk (bB (g := gb828) (o := .cells #[.int .i64 t825, .int .i64 t826] 47 (0, 0)) (by (with_reducible repeat (first | apply bN | apply bD | apply bA)); exact BK828.out) hb); have n3_ := Aside0.mk (cT (by repeat (first | (with_reducible first | exact HB.out | apply cA | apply cN | apply cD | refine cS ?_ GE824.out | refine cS ?_ GE828.out) | exact HB.out)) hb); clear HO_8; clear BK824; clear BK828; clear HB; have HO_8 := n0_; have BK824 := n1_; have BK828 := n2_; have HB := n3_; clear n0_ n1_ n2_ n3_; (try clear hb); (try clear hb2); (try clear hk); (try clear hi); have hcz55_0 : w54.cell? ⟨gb828, 0, none⟩ = some (.int .i64 t825) := (bC BK828.out 0).trans rfl; have hcz55_1 : w54.cell? ⟨gb828, 1, none⟩ = some (.int .i64 t826) := (bC BK828.out 1).trans rfl; have hfz55_0 := bZ BK828.out 0; have hfz55_1 := bZ BK828.out 1)); try go_wp2_with (first | (go_at_call 23; (with_reducible refine (arith_Value.calls kj22 a0_0 a0_1 a0_2 _ _ x8_3 t840 t841 _ ?side1 ?side2 A43.out).mono ?_); (case side1 => repeat (first | exact (Kd.R_reads' HO_8.out).2.2 | (with_reducible refine Kd.C_alloc ?_ _) | (with_reducible refine Kd.C_drewN ?_ _) | (with_reducible refine Kd.C_drew ?_))); (case side2 => exact (Kd.R_reads' HO_8.out).2.1); rintro e w54 ⟨rfl, hb⟩; have n0_ := Aside0.mk (Kd.R_below (by (with_reducible repeat (first | apply Kd.R_alloc | apply Kd.R_drewN | apply Kd.R_drew)); exact HO_8.out) hb); have n1_ := Aside0.mk (bB (g := gb824) (o := .cells #[.int .i64 a0_0, .int .i64 a0_1, .int .i64 a0_2, .slice A0_3 l0_3.length c0_3] 45 (0, 0)) (by (with_reducible repeat (first | apply bN | apply bD | apply bA)); exact BK824.out) hb); have n2_ := Aside0.mk (bB (g := gb828) (o := .cells #[.int .i64 t825, .int .i64 t826] 47 (0, 0)) (by (with_reducible repeat (first | apply bN | apply bD | apply bA)); exact BK828.out) hb); have n3_ := Aside0.mk (cT (by repeat (first | (with_reducible first | exact HB.out | apply cA | apply cN | apply cD | refine cS ?_ GE824.out | refine cS ?_ GE828.out) | exact HB.out)) hb); clear HO_8; clear BK824; clear BK828; clear HB; have HO_8 := n0_; have BK824 := n1_; have BK828 := n2_; have HB := n3_; clear n0_ n1_ n2_ n3_; (try clear hb); (try clear hb2); (try clear hk); (try clear hi); have hcz55_0 : w54.cell? ⟨gb828, 0, none⟩ = some (.int .i64 t825) := (bC BK828.out 0).trans rfl; have hcz55_1 : w54.cell? ⟨gb828, 1, none⟩ = some (.int .i64 t826) := (bC BK828.out 1).trans rfl; have hfz55_0 := bZ BK828.out 0; have hfz55_1 := bZ BK828.out 1)))
                        go_roundg kj22
                        case measure => have := HJ2.out; have := HK2.out; have := HK3.out; have := HJ22.out; omega
                        case rel => exact ⟨(true), ((t840 == t826)), (wrap64 (x7_2 + 1)), (by first | rfl | (simp; done) | (simp [*]; done)), (by first | rfl | (simp; done) | (simp [*]; done)), (by first | rfl | (simp; done) | (simp [*]; done)), H', ⟨by have := HJ2.out; have := HK2.out; have := HK3.out; have := HJ22.out; omega⟩, ⟨by (with_reducible repeat (first | apply bN | apply bD | apply bA)); exact BK824.out⟩, ⟨by (with_reducible repeat (first | apply bN | apply bD | apply bA)); exact BK828.out⟩, ⟨by repeat (first | (with_reducible first | exact HB.out | apply cA | apply cN | apply cD | refine cS ?_ GE824.out | refine cS ?_ GE828.out) | exact HB.out)⟩⟩
                      replace c45 := Bool.eq_false_iff.mpr c45
                      subst c45
                      have H1 : (if x6_2 = true then (damasklaw05_SpanEnds.l0 kj22 (t840 == t825) true (wrap64 (x7_2 + 1)) a0_0 a0_1 a0_2 l0_3 t825 t826) else (damasklaw05_SpanEnds.l0 kj22 (t840 == t825) (t840 == t826) (wrap64 (x7_2 + 1)) a0_0 a0_1 a0_2 l0_3 t825 t826)) = some r := by rw [if_neg (show ¬ (false = true) by decide)] at H; exact H
                      clear H
                      have H := H1
                      clear H1
                      by_cases c56 : x6_2 = true
                      · subst c56
                        have H1 : (damasklaw05_SpanEnds.l0 kj22 (t840 == t825) true (wrap64 (x7_2 + 1)) a0_0 a0_1 a0_2 l0_3 t825 t826) = some r := by rw [if_pos rfl] at H; exact H
                        clear H
                        have H := H1
                        clear H1
                        have H' := Aside0.mk H
                        clear H
                        have hnb57 := NB824_828.out
                        have hnc57 := NB828_824.out
                        have hcz58_0 : wc.cell? ⟨gb824, 0, none⟩ = some (.int .i64 a0_0) := (bC BK824.out 0).trans rfl
                        have hcz58_1 : wc.cell? ⟨gb824, 1, none⟩ = some (.int .i64 a0_1) := (bC BK824.out 1).trans rfl
                        have hcz58_2 : wc.cell? ⟨gb824, 2, none⟩ = some (.int .i64 a0_2) := (bC BK824.out 2).trans rfl
                        have hcz58_3 : wc.cell? ⟨gb824, 3, none⟩ = some (.slice A0_3 l0_3.length c0_3) := (bC BK824.out 3).trans rfl
                        have hfz58_0 := bZ BK824.out 0
                        have hfz58_1 := bZ BK824.out 1
                        have hfz58_2 := bZ BK824.out 2
                        have hfz58_3 := bZ BK824.out 3
                        obtain ⟨Ao59, co59, eo59⟩ := Kd.R_slice HO_8.out
                        subst eo59
                        go_wp2_with (first | (go_at_call 23; (with_reducible refine (arith_Value.calls kj22 a0_0 a0_1 a0_2 _ _ x8_3 t840 t841 _ ?side1 ?side2 A43.out).mono ?_); (case side1 => repeat (first | exact (Kd.R_reads' HO_8.out).2.2 | (with_reducible refine Kd.C_alloc ?_ _) | (with_reducible refine Kd.C_drewN ?_ _) | (with_reducible refine Kd.C_drew ?_))); (case side2 => exact (Kd.R_reads' HO_8.out).2.1); rintro e w60 ⟨rfl, hb⟩; have n0_ := Aside0.mk (Kd.R_below (by (with_reducible repeat (first | apply Kd.R_alloc | apply Kd.R_drewN | apply Kd.R_drew)); exact HO_8.out) hb); have n1_ := Aside0.mk (bB (g := gb824) (o := .cells #[.int .i64 a0_0, .int .i64 a0_1, .int .i64 a0_2, .slice A0_3 l0_3.length c0_3] 45 (0, 0)) (by (with_reducible repeat (first | apply bN | apply bD | apply bA)); exact BK824.out) hb); have n2_ := Aside0.mk (bB (g := gb828) (o := .cells #[.int .i64 t825, .int .i64 t826] 47 (0, 0)) (by (with_reducible repeat (first | apply bN | apply bD | apply bA)); exact BK828.out) hb); have n3_ := Aside0.mk (cT (by repeat (first | (with_reducible first | exact HB.out | apply cA | apply cN | apply cD | refine cS ?_ GE824.out | refine cS ?_ GE828.out) | exact HB.out)) hb); clear HO_8; clear BK824; clear BK828; clear HB; have HO_8 := n0_; have BK824 := n1_; have BK828 := n2_; have HB := n3_; clear n0_ n1_ n2_ n3_; (try clear hb); (try clear hb2); (try clear hk); (try clear hi); have hcz61_0 : w60.cell? ⟨gb828, 0, none⟩ = some (.int .i64 t825) := (bC BK828.out 0).trans rfl; have hcz61_1 : w60.cell? ⟨gb828, 1, none⟩ = some (.int .i64 t826) := (bC BK828.out 1).trans rfl; have hfz61_0 := bZ BK828.out 0; have hfz61_1 := bZ BK828.out 1))
                        repeat (go_quiet (first | (go_at_call 23; (with_reducible refine (arith_Value.calls kj22 a0_0 a0_1 a0_2 _ _ x8_3 t840 t841 _ ?side1 ?side2 A43.out).mono ?_); (case side1 => repeat (first | exact (Kd.R_reads' HO_8.out).2.2 | (with_reducible refine Kd.C_alloc ?_ _) | (with_reducible refine Kd.C_drewN ?_ _) | (with_reducible refine Kd.C_drew ?_))); (case side2 => exact (Kd.R_reads' HO_8.out).2.1); rintro e w60 ⟨rfl, hb⟩; have n0_ := Aside0.mk (Kd.R_below (by (with_reducible repeat (first | apply Kd.R_alloc | apply Kd.R_drewN | apply Kd.R_drew)); exact HO_8.out) hb); have n1_ := Aside0.mk (bB (g := gb824) (o := .cells #[.int .i64 a0_0, .int .i64 a0_1, .int .i64 a0_2, .slice A0_3 l0_3.length c0_3] 45 (0, 0)) (by (with_reducible repeat (first | apply bN | apply bD | apply bA)); exact BK824.out) hb); have n2_ := Aside0.mk (bB (g := gb828) (o := .cells #[.int .i64 t825, .int .i64 t826] 47 (0, 0)) (by (with_reducible repeat (first | apply bN | apply bD | apply bA)); exact BK828.out) hb); have n3_ := Aside0.mk (cT (by repeat (first | (with_reducible first | exact HB.out | apply cA | apply cN | apply cD | refine cS ?_ GE824.out | refine cS ?_ GE828.out) | exact HB.out)) hb); clear HO_8; clear BK824; clear BK828; clear HB; have HO_8 := n0_; have BK824 := n1_; have BK828 := n2_; have HB := n3_; clear n0_ n1_ n2_ n3_; (try clear hb); (try clear hb2); (try clear hk); (try clear hi); have hcz61_0 : w60.cell? ⟨gb828, 0, none⟩ = some (.int .i64 t825) := (bC BK828.out 0).trans rfl; have hcz61_1 : w60.cell? ⟨gb828, 1, none⟩ = some (.int .i64 t826) := (bC BK828.out 1).trans rfl; have hfz61_0 := bZ BK828.out 0; have hfz61_1 := bZ BK828.out 1)); try go_wp2_with (first | (go_at_call 23; (with_reducible refine (arith_Value.calls kj22 a0_0 a0_1 a0_2 _ _ x8_3 t840 t841 _ ?side1 ?side2 A43.out).mono ?_); (case side1 => repeat (first | exact (Kd.R_reads' HO_8.out).2.2 | (with_reducible refine Kd.C_alloc ?_ _) | (with_reducible refine Kd.C_drewN ?_ _) | (with_reducible refine Kd.C_drew ?_))); (case side2 => exact (Kd.R_reads' HO_8.out).2.1); rintro e w60 ⟨rfl, hb⟩; have n0_ := Aside0.mk (Kd.R_below (by (with_reducible repeat (first | apply Kd.R_alloc | apply Kd.R_drewN | apply Kd.R_drew)); exact HO_8.out) hb); have n1_ := Aside0.mk (bB (g := gb824) (o := .cells #[.int .i64 a0_0, .int .i64 a0_1, .int .i64 a0_2, .slice A0_3 l0_3.length c0_3] 45 (0, 0)) (by (with_reducible repeat (first | apply bN | apply bD | apply bA)); exact BK824.out) hb); have n2_ := Aside0.mk (bB (g := gb828) (o := .cells #[.int .i64 t825, .int .i64 t826] 47 (0, 0)) (by (with_reducible repeat (first | apply bN | apply bD | apply bA)); exact BK828.out) hb); have n3_ := Aside0.mk (cT (by repeat (first | (with_reducible first | exact HB.out | apply cA | apply cN | apply cD | refine cS ?_ GE824.out | refine cS ?_ GE828.out) | exact HB.out)) hb); clear HO_8; clear BK824; clear BK828; clear HB; have HO_8 := n0_; have BK824 := n1_; have BK828 := n2_; have HB := n3_; clear n0_ n1_ n2_ n3_; (try clear hb); (try clear hb2); (try clear hk); (try clear hi); have hcz61_0 : w60.cell? ⟨gb828, 0, none⟩ = some (.int .i64 t825) := (bC BK828.out 0).trans rfl; have hcz61_1 : w60.cell? ⟨gb828, 1, none⟩ = some (.int .i64 t826) := (bC BK828.out 1).trans rfl; have hfz61_0 := bZ BK828.out 0; have hfz61_1 := bZ BK828.out 1)))
                        go_roundg kj22
                        case measure => have := HJ2.out; have := HK2.out; have := HK3.out; have := HJ22.out; omega
                        case rel => exact ⟨((t840 == t825)), (true), (wrap64 (x7_2 + 1)), (by first | rfl | (simp; done) | (simp [*]; done)), (by first | rfl | (simp; done) | (simp [*]; done)), (by first | rfl | (simp; done) | (simp [*]; done)), H', ⟨by have := HJ2.out; have := HK2.out; have := HK3.out; have := HJ22.out; omega⟩, ⟨by (with_reducible repeat (first | apply bN | apply bD | apply bA)); exact BK824.out⟩, ⟨by (with_reducible repeat (first | apply bN | apply bD | apply bA)); exact BK828.out⟩, ⟨by repeat (first | (with_reducible first | exact HB.out | apply cA | apply cN | apply cD | refine cS ?_ GE824.out | refine cS ?_ GE828.out) | exact HB.out)⟩⟩
                      replace c56 := Bool.eq_false_iff.mpr c56
                      subst c56
                      have H1 : (damasklaw05_SpanEnds.l0 kj22 (t840 == t825) (t840 == t826) (wrap64 (x7_2 + 1)) a0_0 a0_1 a0_2 l0_3 t825 t826) = some r := by rw [if_neg (show ¬ (false = true) by decide)] at H; exact H
                      clear H
                      have H := H1
                      clear H1
                      have H' := Aside0.mk H
                      clear H
                      have hnb62 := NB824_828.out
                      have hnc62 := NB828_824.out
                      have hcz63_0 : wc.cell? ⟨gb824, 0, none⟩ = some (.int .i64 a0_0) := (bC BK824.out 0).trans rfl
                      have hcz63_1 : wc.cell? ⟨gb824, 1, none⟩ = some (.int .i64 a0_1) := (bC BK824.out 1).trans rfl
                      have hcz63_2 : wc.cell? ⟨gb824, 2, none⟩ = some (.int .i64 a0_2) := (bC BK824.out 2).trans rfl
                      have hcz63_3 : wc.cell? ⟨gb824, 3, none⟩ = some (.slice A0_3 l0_3.length c0_3) := (bC BK824.out 3).trans rfl
                      have hfz63_0 := bZ BK824.out 0
                      have hfz63_1 := bZ BK824.out 1
                      have hfz63_2 := bZ BK824.out 2
                      have hfz63_3 := bZ BK824.out 3
                      obtain ⟨Ao64, co64, eo64⟩ := Kd.R_slice HO_8.out
                      subst eo64
                      go_wp2_with (first | (go_at_call 23; (with_reducible refine (arith_Value.calls kj22 a0_0 a0_1 a0_2 _ _ x8_3 t840 t841 _ ?side1 ?side2 A43.out).mono ?_); (case side1 => repeat (first | exact (Kd.R_reads' HO_8.out).2.2 | (with_reducible refine Kd.C_alloc ?_ _) | (with_reducible refine Kd.C_drewN ?_ _) | (with_reducible refine Kd.C_drew ?_))); (case side2 => exact (Kd.R_reads' HO_8.out).2.1); rintro e w65 ⟨rfl, hb⟩; have n0_ := Aside0.mk (Kd.R_below (by (with_reducible repeat (first | apply Kd.R_alloc | apply Kd.R_drewN | apply Kd.R_drew)); exact HO_8.out) hb); have n1_ := Aside0.mk (bB (g := gb824) (o := .cells #[.int .i64 a0_0, .int .i64 a0_1, .int .i64 a0_2, .slice A0_3 l0_3.length c0_3] 45 (0, 0)) (by (with_reducible repeat (first | apply bN | apply bD | apply bA)); exact BK824.out) hb); have n2_ := Aside0.mk (bB (g := gb828) (o := .cells #[.int .i64 t825, .int .i64 t826] 47 (0, 0)) (by (with_reducible repeat (first | apply bN | apply bD | apply bA)); exact BK828.out) hb); have n3_ := Aside0.mk (cT (by repeat (first | (with_reducible first | exact HB.out | apply cA | apply cN | apply cD | refine cS ?_ GE824.out | refine cS ?_ GE828.out) | exact HB.out)) hb); clear HO_8; clear BK824; clear BK828; clear HB; have HO_8 := n0_; have BK824 := n1_; have BK828 := n2_; have HB := n3_; clear n0_ n1_ n2_ n3_; (try clear hb); (try clear hb2); (try clear hk); (try clear hi); have hcz66_0 : w65.cell? ⟨gb828, 0, none⟩ = some (.int .i64 t825) := (bC BK828.out 0).trans rfl; have hcz66_1 : w65.cell? ⟨gb828, 1, none⟩ = some (.int .i64 t826) := (bC BK828.out 1).trans rfl; have hfz66_0 := bZ BK828.out 0; have hfz66_1 := bZ BK828.out 1))
                      repeat (go_quiet (first | (go_at_call 23; (with_reducible refine (arith_Value.calls kj22 a0_0 a0_1 a0_2 _ _ x8_3 t840 t841 _ ?side1 ?side2 A43.out).mono ?_); (case side1 => repeat (first | exact (Kd.R_reads' HO_8.out).2.2 | (with_reducible refine Kd.C_alloc ?_ _) | (with_reducible refine Kd.C_drewN ?_ _) | (with_reducible refine Kd.C_drew ?_))); (case side2 => exact (Kd.R_reads' HO_8.out).2.1); rintro e w65 ⟨rfl, hb⟩; have n0_ := Aside0.mk (Kd.R_below (by (with_reducible repeat (first | apply Kd.R_alloc | apply Kd.R_drewN | apply Kd.R_drew)); exact HO_8.out) hb); have n1_ := Aside0.mk (bB (g := gb824) (o := .cells #[.int .i64 a0_0, .int .i64 a0_1, .int .i64 a0_2, .slice A0_3 l0_3.length c0_3] 45 (0, 0)) (by (with_reducible repeat (first | apply bN | apply bD | apply bA)); exact BK824.out) hb); have n2_ := Aside0.mk (bB (g := gb828) (o := .cells #[.int .i64 t825, .int .i64 t826] 47 (0, 0)) (by (with_reducible repeat (first | apply bN | apply bD | apply bA)); exact BK828.out) hb); have n3_ := Aside0.mk (cT (by repeat (first | (with_reducible first | exact HB.out | apply cA | apply cN | apply cD | refine cS ?_ GE824.out | refine cS ?_ GE828.out) | exact HB.out)) hb); clear HO_8; clear BK824; clear BK828; clear HB; have HO_8 := n0_; have BK824 := n1_; have BK828 := n2_; have HB := n3_; clear n0_ n1_ n2_ n3_; (try clear hb); (try clear hb2); (try clear hk); (try clear hi); have hcz66_0 : w65.cell? ⟨gb828, 0, none⟩ = some (.int .i64 t825) := (bC BK828.out 0).trans rfl; have hcz66_1 : w65.cell? ⟨gb828, 1, none⟩ = some (.int .i64 t826) := (bC BK828.out 1).trans rfl; have hfz66_0 := bZ BK828.out 0; have hfz66_1 := bZ BK828.out 1)); try go_wp2_with (first | (go_at_call 23; (with_reducible refine (arith_Value.calls kj22 a0_0 a0_1 a0_2 _ _ x8_3 t840 t841 _ ?side1 ?side2 A43.out).mono ?_); (case side1 => repeat (first | exact (Kd.R_reads' HO_8.out).2.2 | (with_reducible refine Kd.C_alloc ?_ _) | (with_reducible refine Kd.C_drewN ?_ _) | (with_reducible refine Kd.C_drew ?_))); (case side2 => exact (Kd.R_reads' HO_8.out).2.1); rintro e w65 ⟨rfl, hb⟩; have n0_ := Aside0.mk (Kd.R_below (by (with_reducible repeat (first | apply Kd.R_alloc | apply Kd.R_drewN | apply Kd.R_drew)); exact HO_8.out) hb); have n1_ := Aside0.mk (bB (g := gb824) (o := .cells #[.int .i64 a0_0, .int .i64 a0_1, .int .i64 a0_2, .slice A0_3 l0_3.length c0_3] 45 (0, 0)) (by (with_reducible repeat (first | apply bN | apply bD | apply bA)); exact BK824.out) hb); have n2_ := Aside0.mk (bB (g := gb828) (o := .cells #[.int .i64 t825, .int .i64 t826] 47 (0, 0)) (by (with_reducible repeat (first | apply bN | apply bD | apply bA)); exact BK828.out) hb); have n3_ := Aside0.mk (cT (by repeat (first | (with_reducible first | exact HB.out | apply cA | apply cN | apply cD | refine cS ?_ GE824.out | refine cS ?_ GE828.out) | exact HB.out)) hb); clear HO_8; clear BK824; clear BK828; clear HB; have HO_8 := n0_; have BK824 := n1_; have BK828 := n2_; have HB := n3_; clear n0_ n1_ n2_ n3_; (try clear hb); (try clear hb2); (try clear hk); (try clear hi); have hcz66_0 : w65.cell? ⟨gb828, 0, none⟩ = some (.int .i64 t825) := (bC BK828.out 0).trans rfl; have hcz66_1 : w65.cell? ⟨gb828, 1, none⟩ = some (.int .i64 t826) := (bC BK828.out 1).trans rfl; have hfz66_0 := bZ BK828.out 0; have hfz66_1 := bZ BK828.out 1)))
                      go_roundg kj22
                      case measure => have := HJ2.out; have := HK2.out; have := HK3.out; have := HJ22.out; omega
                      case rel => exact ⟨((t840 == t825)), ((t840 == t826)), (wrap64 (x7_2 + 1)), (by first | rfl | (simp; done) | (simp [*]; done)), (by first | rfl | (simp; done) | (simp [*]; done)), (by first | rfl | (simp; done) | (simp [*]; done)), H', ⟨by have := HJ2.out; have := HK2.out; have := HK3.out; have := HJ22.out; omega⟩, ⟨by (with_reducible repeat (first | apply bN | apply bD | apply bA)); exact BK824.out⟩, ⟨by (with_reducible repeat (first | apply bN | apply bD | apply bA)); exact BK828.out⟩, ⟨by repeat (first | (with_reducible first | exact HB.out | apply cA | apply cN | apply cD | refine cS ?_ GE824.out | refine cS ?_ GE828.out) | exact HB.out)⟩⟩
                    rw [if_neg c44] at H
                    have c44b0 : (t841 == 0) = false := beq_eq_false_iff_ne.mpr c44
                    have c44b1 : (t841 != 0) = true := bne_iff_ne.mpr c44
                    exact absurd hrT.out (by have h_ := Option.some.inj H; rw [← h_]; decide)
          rw [if_neg c22] at H
          have c22b0 : decide (x7_2 < 8) = false := decide_eq_false c22
          clear c22
          by_cases c67 : x5_2 = true
          · subst c67
            have H1 : (some x6_2) = some r := by rw [if_pos rfl] at H; exact H
            clear H
            have H := H1
            clear H1
            obtain rfl := Option.some.inj H
            go_wp2
            repeat (go_quiet (fail); try go_wp2)
            go_ret
            exact ⟨by first | rfl | (simp [errW_none, errW_some] <;> rfl) | (simp [*, errW_none, errW_some] <;> rfl), by repeat (first | (with_reducible first | exact HB.out | apply cA | apply cN | apply cD | refine cS ?_ GE824.out | refine cS ?_ GE828.out) | exact HB.out)⟩
          replace c67 := Bool.eq_false_iff.mpr c67
          subst c67
          have H1 : (some false) = some r := by rw [if_neg (show ¬ (false = true) by decide)] at H; exact H
          clear H
          have H := H1
          clear H1
          exact absurd hrT.out (by have h_ := Option.some.inj H; rw [← h_]; decide)

/-- THE ONE PURE STATEMENT of damasklaw05_SpanEnds: yours. -/
def damasklaw05_SpanEnds.Pure : Prop := ∀ (a0_0 : Int) (a0_1 : Int) (a0_2 : Int) (l0_3 : List (S47)), (Lit.int .i64 a0_0).wf = true → (Lit.int .i64 a0_1).wf = true → (Lit.int .i64 a0_2).wf = true → l0_3.length ≤ maxLen → l0_3.length * 16 ≤ 140737488351232 → (∀ x ∈ l0_3, (Lit.int .i64 x.f0).wf = true ∧ (Lit.int .i64 x.f1).wf = true) → ∃ k, damasklaw05_SpanEnds.f k a0_0 a0_1 a0_2 l0_3 = some true
theorem damasklaw05_SpanEnds.walk (P : damasklaw05_SpanEnds.Pure) (a0_0 : Int) (a0_1 : Int) (a0_2 : Int) (A0_3 : Option Addr) (c0_3 : Nat) (l0_3 : List (S47)) (w : World) (o0_0 : (Lit.int .i64 a0_0).wf = true) (o0_1 : (Lit.int .i64 a0_1).wf = true) (o0_2 : (Lit.int .i64 a0_2).wf = true) (hr0_3 : Kd.C k47 w A0_3 l0_3.length l0_3) (hc0_3 : l0_3.length ≤ c0_3) (m0_3 : l0_3.length ≤ maxLen) (b0_3 : l0_3.length * 16 ≤ 140737488351232) (o0_3 : ∀ x ∈ l0_3, (Lit.int .i64 x.f0).wf = true ∧ (Lit.int .i64 x.f1).wf = true) :
    Calls Try.prog 15 #[.agg #[.int .i64 a0_0, .int .i64 a0_1, .int .i64 a0_2, .slice A0_3 l0_3.length c0_3]] w fun e w' => e = .returned (.bool true) ∧ Below w.heap.size w w' := by
  obtain ⟨k, h⟩ := P a0_0 a0_1 a0_2 l0_3 o0_0 o0_1 o0_2 m0_3 b0_3 o0_3
  refine (damasklaw05_SpanEnds.calls k a0_0 a0_1 a0_2 A0_3 c0_3 l0_3 true w hr0_3 hc0_3 rfl h).mono ?_
  rintro e w' ⟨rfl, hd⟩
  exact ⟨rfl, hd⟩

end Go.Proofs.Ytpnldhimlpilhaa.F
