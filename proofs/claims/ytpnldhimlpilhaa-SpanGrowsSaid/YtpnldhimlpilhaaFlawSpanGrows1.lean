/- Written by wip/myprint.py of this session, out of Lean's print of the program: what Go functions come to, and that their calls come to it; no condition. -/
import Derived.Test.YtpnldhimlpilhaaF0
import Derived.Test.YtpnldhimlpilhaaFdamasklaw051
import Derived.Test.YtpnldhimlpilhaaFdamaskref051
import Derived.Test.YtpnldhimlpilhaaFspan8
namespace Go.Proofs.Ytpnldhimlpilhaa.F
open Go.RowKit Go.Proofs.YtpnldhimlpilhaaW.PrintWords Go.Proofs.YtpnldhimlpilhaaW.PrintLast Go.Proofs.YtpnldhimlpilhaaW.PrintMore Go.Proofs.YtpnldhimlpilhaaW
attribute [local go_sem] max2_int min2_int max_two min_two max_three min_three max_four min_four   -- for this text's walks alone
set_option linter.unusedVariables false
set_option linter.unusedSimpArgs false

/-! ### damasklaw05_SpanGrows: function 12 -/
mutual
def damasklaw05_SpanGrows.j0 : Nat → Bool → Int → Int → Int → List (S47) → Int → Int → Int → Int → Int → Int → Int → Int → Option (Bool)
  | 0, _, _, _, _, _, _, _, _, _, _, _, _, _ => none
  | k + 1, x30, x758000, x758001, x758002, x758003, x759000, x759001, x759002, x759003, x759004, x759005, x763000, x763001 => if x30 = true then ((damasklaw05_awake.f k).bind fun t764 => (some t764)) else (damasklaw05_SpanGrows.l0 k ([] : List (S47)) 0 x758000 x758001 x758002 x758003 x759000 x759001 x759002 x759003 x759004 x759005 x763000 x763001)
def damasklaw05_SpanGrows.l0 : Nat → List (S47) → Int → Int → Int → Int → List (S47) → Int → Int → Int → Int → Int → Int → Int → Int → Option (Bool)
  | 0, _, _, _, _, _, _, _, _, _, _, _, _, _, _ => none
  | k + 1, x7, x8, x758000, x758001, x758002, x758003, x759000, x759001, x759002, x759003, x759004, x759005, x763000, x763001 => if x8 < (x758003.length : Int) then (damasklaw05_SpanGrows.j2 k x7 x8 (decide (x8 < 3)) x758000 x758001 x758002 x758003 x759000 x759001 x759002 x759003 x759004 x759005 x763000 x763001) else (damasklaw05_SpanGrows.j2 k x7 x8 false x758000 x758001 x758002 x758003 x759000 x759001 x759002 x759003 x759004 x759005 x763000 x763001)
def damasklaw05_SpanGrows.j2 : Nat → List (S47) → Int → Bool → Int → Int → Int → List (S47) → Int → Int → Int → Int → Int → Int → Int → Int → Option (Bool)
  | 0, _, _, _, _, _, _, _, _, _, _, _, _, _, _, _ => none
  | k + 1, x7, x8, x40, x758000, x758001, x758002, x758003, x759000, x759001, x759002, x759003, x759004, x759005, x763000, x763001 => if x40 = true then (if 0 ≤ x8 then (if x8 < (x758003.length : Int) then ((damaskref05_Whole.f ((rd_T47 x758003 x8).f0) ((rd_T47 x758003 x8).f1)).bind fun t770 => (if t770 = true then (if 0 ≤ (wrap64 (2 * x8)) then (if (wrap64 (2 * x8)) < 6 then ((damasklaw05_point.f ((rd_T47 x758003 x8).f0) ((rd_T47 x758003 x8).f1) (rd ([x759000, x759001, x759002, x759003, x759004, x759005] : List Int) (wrap64 (2 * x8)))).bind fun t772 => (if 0 ≤ (wrap64 ((wrap64 (2 * x8)) + 1)) then (if (wrap64 ((wrap64 (2 * x8)) + 1)) < 6 then ((damasklaw05_point.f ((rd_T47 x758003 x8).f0) ((rd_T47 x758003 x8).f1) (rd ([x759000, x759001, x759002, x759003, x759004, x759005] : List Int) (wrap64 ((wrap64 (2 * x8)) + 1)))).bind fun t774 => (if t774 < t772 then (if x7.length < 8796093022208 then (damasklaw05_SpanGrows.l0 k (x7 ++ [(⟨t774, t772⟩ : S47)]) (wrap64 (x8 + 1)) x758000 x758001 x758002 x758003 x759000 x759001 x759002 x759003 x759004 x759005 x763000 x763001) else (none)) else (if x7.length < 8796093022208 then (damasklaw05_SpanGrows.l0 k (x7 ++ [(⟨t772, t774⟩ : S47)]) (wrap64 (x8 + 1)) x758000 x758001 x758002 x758003 x759000 x759001 x759002 x759003 x759004 x759005 x763000 x763001) else (none)))) else (none)) else (none))) else (none)) else (none)) else (some false))) else (none)) else (none)) else ((span_Of.f k x758000 x758001 x758002 x7).bind fun bt765 => (if bt765.2.2 = 0 then (if x763000 ≤ bt765.1 then (some (decide (bt765.2.1 ≤ x763001))) else (some false)) else (some false)))
end
def damasklaw05_SpanGrows.f (k : Nat) (a0_0 : Int) (a0_1 : Int) (a0_2 : Int) (l0_3 : List (S47)) (a1_0 : Int) (a1_1 : Int) (a1_2 : Int) (a1_3 : Int) (a1_4 : Int) (a1_5 : Int) : Option (Bool) := (span_Of.f k a0_0 a0_1 a0_2 l0_3).bind fun bt759 => ((damasklaw05_awake.f k).bind fun t763 => (if t763 = true then (damasklaw05_SpanGrows.j0 k (bt759.2.2 != 0) a0_0 a0_1 a0_2 l0_3 a1_0 a1_1 a1_2 a1_3 a1_4 a1_5 bt759.1 bt759.2.1) else (damasklaw05_SpanGrows.j0 k true a0_0 a0_1 a0_2 l0_3 a1_0 a1_1 a1_2 a1_3 a1_4 a1_5 bt759.1 bt759.2.1)))
theorem damasklaw05_SpanGrows.mono_l : ∀ k, (∀ y0 y1 y2 y3 y4 y5 y6 y7 y8 y9 y10 y11 y12, LeO (damasklaw05_SpanGrows.j0 k y0 y1 y2 y3 y4 y5 y6 y7 y8 y9 y10 y11 y12) (damasklaw05_SpanGrows.j0 (k + 1) y0 y1 y2 y3 y4 y5 y6 y7 y8 y9 y10 y11 y12)) ∧ (∀ y0 y1 y2 y3 y4 y5 y6 y7 y8 y9 y10 y11 y12 y13, LeO (damasklaw05_SpanGrows.l0 k y0 y1 y2 y3 y4 y5 y6 y7 y8 y9 y10 y11 y12 y13) (damasklaw05_SpanGrows.l0 (k + 1) y0 y1 y2 y3 y4 y5 y6 y7 y8 y9 y10 y11 y12 y13)) ∧ (∀ y0 y1 y2 y3 y4 y5 y6 y7 y8 y9 y10 y11 y12 y13 y14, LeO (damasklaw05_SpanGrows.j2 k y0 y1 y2 y3 y4 y5 y6 y7 y8 y9 y10 y11 y12 y13 y14) (damasklaw05_SpanGrows.j2 (k + 1) y0 y1 y2 y3 y4 y5 y6 y7 y8 y9 y10 y11 y12 y13 y14))
  | 0 => ⟨fun _ _ _ _ _ _ _ _ _ _ _ _ _ r h => by simp [damasklaw05_SpanGrows.j0] at h, fun _ _ _ _ _ _ _ _ _ _ _ _ _ _ r h => by simp [damasklaw05_SpanGrows.l0] at h, fun _ _ _ _ _ _ _ _ _ _ _ _ _ _ _ r h => by simp [damasklaw05_SpanGrows.j2] at h⟩
  | k + 1 => by
    obtain ⟨ih0, ih1, ih2⟩ := damasklaw05_SpanGrows.mono_l k
    refine ⟨?_, ?_, ?_⟩
    · intro y0 y1 y2 y3 y4 y5 y6 y7 y8 y9 y10 y11 y12
      unfold damasklaw05_SpanGrows.j0
      repeat' first
      | (with_reducible exact ih0 _ _ _ _ _ _ _ _ _ _ _ _ _)
      | (with_reducible exact ih1 _ _ _ _ _ _ _ _ _ _ _ _ _ _)
      | (with_reducible exact ih2 _ _ _ _ _ _ _ _ _ _ _ _ _ _ _)
      | (with_reducible exact damasklaw05_awake.mono _)
      | (with_reducible exact span_Of.mono _ _ _ _ _)
      | (with_reducible exact LeO.refl _)
      | (with_reducible exact LeO.none _)
      | (with_reducible refine LeO.ite ?_ ?_)
      | (with_reducible refine LeO.bind ?_ (fun _ => ?_))
      | exact ih0 _ _ _ _ _ _ _ _ _ _ _ _ _
      | exact ih1 _ _ _ _ _ _ _ _ _ _ _ _ _ _
      | exact ih2 _ _ _ _ _ _ _ _ _ _ _ _ _ _ _
      | exact damasklaw05_awake.mono _
      | exact span_Of.mono _ _ _ _ _
      | exact LeO.none _
      | refine LeO.ite ?_ ?_
      | refine LeO.bind ?_ (fun _ => ?_)
    · intro y0 y1 y2 y3 y4 y5 y6 y7 y8 y9 y10 y11 y12 y13
      unfold damasklaw05_SpanGrows.l0
      repeat' first
      | (with_reducible exact ih0 _ _ _ _ _ _ _ _ _ _ _ _ _)
      | (with_reducible exact ih1 _ _ _ _ _ _ _ _ _ _ _ _ _ _)
      | (with_reducible exact ih2 _ _ _ _ _ _ _ _ _ _ _ _ _ _ _)
      | (with_reducible exact damasklaw05_awake.mono _)
      | (with_reducible exact span_Of.mono _ _ _ _ _)
      | (with_reducible exact LeO.refl _)
      | (with_reducible exact LeO.none _)
      | (with_reducible refine LeO.ite ?_ ?_)
      | (with_reducible refine LeO.bind ?_ (fun _ => ?_))
      | exact ih0 _ _ _ _ _ _ _ _ _ _ _ _ _
      | exact ih1 _ _ _ _ _ _ _ _ _ _ _ _ _ _
      | exact ih2 _ _ _ _ _ _ _ _ _ _ _ _ _ _ _
      | exact damasklaw05_awake.mono _
      | exact span_Of.mono _ _ _ _ _
      | exact LeO.none _
      | refine LeO.ite ?_ ?_
      | refine LeO.bind ?_ (fun _ => ?_)
    · intro y0 y1 y2 y3 y4 y5 y6 y7 y8 y9 y10 y11 y12 y13 y14
      unfold damasklaw05_SpanGrows.j2
      repeat' first
      | (with_reducible exact ih0 _ _ _ _ _ _ _ _ _ _ _ _ _)
      | (with_reducible exact ih1 _ _ _ _ _ _ _ _ _ _ _ _ _ _)
      | (with_reducible exact ih2 _ _ _ _ _ _ _ _ _ _ _ _ _ _ _)
      | (with_reducible exact damasklaw05_awake.mono _)
      | (with_reducible exact span_Of.mono _ _ _ _ _)
      | (with_reducible exact LeO.refl _)
      | (with_reducible exact LeO.none _)
      | (with_reducible refine LeO.ite ?_ ?_)
      | (with_reducible refine LeO.bind ?_ (fun _ => ?_))
      | exact ih0 _ _ _ _ _ _ _ _ _ _ _ _ _
      | exact ih1 _ _ _ _ _ _ _ _ _ _ _ _ _ _
      | exact ih2 _ _ _ _ _ _ _ _ _ _ _ _ _ _ _
      | exact damasklaw05_awake.mono _
      | exact span_Of.mono _ _ _ _ _
      | exact LeO.none _
      | refine LeO.ite ?_ ?_
      | refine LeO.bind ?_ (fun _ => ?_)
theorem damasklaw05_SpanGrows.mono : ∀ a0 a1 a2 a3 a4 a5 a6 a7 a8 a9 k, LeO (damasklaw05_SpanGrows.f k a0 a1 a2 a3 a4 a5 a6 a7 a8 a9) (damasklaw05_SpanGrows.f (k + 1) a0 a1 a2 a3 a4 a5 a6 a7 a8 a9) := by
  intro a0 a1 a2 a3 a4 a5 a6 a7 a8 a9 k
  obtain ⟨ih0, ih1, ih2⟩ := damasklaw05_SpanGrows.mono_l k
  unfold damasklaw05_SpanGrows.f
  repeat' first
      | (with_reducible exact ih0 _ _ _ _ _ _ _ _ _ _ _ _ _)
      | (with_reducible exact ih1 _ _ _ _ _ _ _ _ _ _ _ _ _ _)
      | (with_reducible exact ih2 _ _ _ _ _ _ _ _ _ _ _ _ _ _ _)
      | (with_reducible exact damasklaw05_awake.mono _)
      | (with_reducible exact span_Of.mono _ _ _ _ _)
      | (with_reducible exact LeO.refl _)
      | (with_reducible exact LeO.none _)
      | (with_reducible refine LeO.ite ?_ ?_)
      | (with_reducible refine LeO.bind ?_ (fun _ => ?_))
      | exact ih0 _ _ _ _ _ _ _ _ _ _ _ _ _
      | exact ih1 _ _ _ _ _ _ _ _ _ _ _ _ _ _
      | exact ih2 _ _ _ _ _ _ _ _ _ _ _ _ _ _ _
      | exact damasklaw05_awake.mono _
      | exact span_Of.mono _ _ _ _ _
      | exact LeO.none _
      | refine LeO.ite ?_ ?_
      | refine LeO.bind ?_ (fun _ => ?_)
def damasklaw05_SpanGrows.T10 : Bool × List (List Nat × List Nat) := (true, [([], []), ([0], [0]), ([], []), ([1, 2], [1, 2]), ([3], [3]), ([], []), ([5], [5]), ([6], [6]), ([7], [7]), ([4, 8], [4, 8]), ([], []), ([10], [10]), ([], []), ([11, 12], [11, 12]), ([13], [13]), ([], []), ([15], [15]), ([16], [16]), ([17], [17]), ([18], [18]), ([14, 19, 9], [14, 19]), ([9, 20, 0, 1, 2, 3, 4, 5, 6, 7, 8, 9], [9]), ([20, 21, 0, 1, 2, 3, 4, 5, 6, 7, 8, 9, 10, 11, 12, 13, 14, 15, 16, 17, 18, 19, 20, 21], [20])])
def damasklaw05_SpanGrows.B10 : List Nat := [0, 1, 0, 7, 15, 0, 32, 96, 224, 511, 0, 1024, 0, 7168, 15360, 0, 32768, 98304, 229376, 491520, 1048575, 2097151, 4194303]
theorem damasklaw05_SpanGrows.tab10 : rtab .any (opsOf Try.f12 10) = damasklaw05_SpanGrows.T10 := by kernel_rfl
theorem damasklaw05_SpanGrows.bits10 : waitsOk damasklaw05_SpanGrows.T10.2 damasklaw05_SpanGrows.B10 = true := by kernel_rfl
set_option maxHeartbeats 8000000 in
set_option maxRecDepth 100000 in
theorem damasklaw05_SpanGrows.calls (k : Nat) (a0_0 : Int) (a0_1 : Int) (a0_2 : Int) (A0_3 : Option Addr) (c0_3 : Nat) (l0_3 : List (S47)) (a1_0 : Int) (a1_1 : Int) (a1_2 : Int) (a1_3 : Int) (a1_4 : Int) (a1_5 : Int) (r : Bool) (w : World) (hr0_3 : Kd.C k47 w A0_3 l0_3.length l0_3) (hc0_3 : l0_3.length ≤ c0_3) (hrT0 : r = true) (h : damasklaw05_SpanGrows.f k a0_0 a0_1 a0_2 l0_3 a1_0 a1_1 a1_2 a1_3 a1_4 a1_5 = some r) :
    Calls Try.prog 12 #[.agg #[.int .i64 a0_0, .int .i64 a0_1, .int .i64 a0_2, .slice A0_3 l0_3.length c0_3], .agg #[.int .i64 a1_0, .int .i64 a1_1, .int .i64 a1_2, .int .i64 a1_3, .int .i64 a1_4, .int .i64 a1_5]] w fun e w' => e = .returned (.bool r) ∧ Below w.heap.size w w' := by
  have hu45 := Try.underlying45
  have hu57 := Try.underlying57
  have hu47 := Try.underlying47
  have HR0_3 := Aside0.mk hr0_3
  have HC0_3 := Aside0.mk hc0_3
  clear hr0_3 hc0_3
  have HB := Aside0.mk (Below.refl w.heap.size w)
  have hrT := Aside0.mk hrT0
  clear hrT0
  have H : ((span_Of.f k a0_0 a0_1 a0_2 l0_3).bind fun bt759 => ((damasklaw05_awake.f k).bind fun t763 => (if t763 = true then (damasklaw05_SpanGrows.j0 k (bt759.2.2 != 0) a0_0 a0_1 a0_2 l0_3 a1_0 a1_1 a1_2 a1_3 a1_4 a1_5 bt759.1 bt759.2.1) else (damasklaw05_SpanGrows.j0 k true a0_0 a0_1 a0_2 l0_3 a1_0 a1_1 a1_2 a1_3 a1_4 a1_5 bt759.1 bt759.2.1)))) = some r := h
  clear h
  replace H := Option.bind_eq_some_iff.mp H
  obtain ⟨⟨t759, t760, t761⟩, A30, H⟩ := H
  replace H : ((damasklaw05_awake.f k).bind fun t763 => (if t763 = true then (damasklaw05_SpanGrows.j0 k (t761 != 0) a0_0 a0_1 a0_2 l0_3 a1_0 a1_1 a1_2 a1_3 a1_4 a1_5 t759 t760) else (damasklaw05_SpanGrows.j0 k true a0_0 a0_1 a0_2 l0_3 a1_0 a1_1 a1_2 a1_3 a1_4 a1_5 t759 t760))) = some r := H
  have A3 := Aside0.mk A30
  clear A30
  have HC4 := Aside0.mk H
  clear H
  go_enter Try.func12, Try.ntmps12
  go_upto_region 2 with (first | ((with_reducible refine gate_dst (N := 2) rfl ?_); refine box_event ?hg (N := 2) ?hd (cs := #[.int .i64 a0_0, .int .i64 a0_1, .int .i64 a0_2, .slice A0_3 l0_3.length c0_3]) (t := 45) ?hr ?_; (case hd => rfl); (case hg => rfl); (case hr => first | (go_simp; done) | (go_simp; rfl)); intro gb757 hg w5 hbox hb; have n0_ := Aside0.mk (cT (by repeat (first | (with_reducible first | exact HB.out | apply cA | apply cN | apply cD) | exact HB.out)) hb); have n1_ := Aside0.mk (hbox); have n2_ := Aside0.mk ((by rw [hg]; exact (cZ (by repeat (first | (with_reducible first | exact HB.out | apply cA | apply cN | apply cD) | exact HB.out))) : w.heap.size ≤ gb757)); have n3_ := n2_; clear HB; have HB := n0_; have BK757 := n1_; have GW757 := n2_; have GE757 := n3_; clear n0_ n1_ n2_ n3_; clear hb hbox hg) | ((with_reducible refine gate_dst (N := 3) rfl ?_); refine box_event ?hg (N := 3) ?hd (cs := #[.int .i64 a1_0, .int .i64 a1_1, .int .i64 a1_2, .int .i64 a1_3, .int .i64 a1_4, .int .i64 a1_5]) (t := 57) ?hr ?_; (case hd => rfl); (case hg => rfl); (case hr => first | (go_simp; done) | (go_simp; rfl)); intro gb758 hg w6 hbox hb; have n0_ := Aside0.mk (bB (g := gb757) (o := .cells #[.int .i64 a0_0, .int .i64 a0_1, .int .i64 a0_2, .slice A0_3 l0_3.length c0_3] 45 (0, 0)) (by (with_reducible repeat (first | apply bN | apply bD | apply bA)); exact BK757.out) hb); have n1_ := Aside0.mk (cT (by repeat (first | (with_reducible first | exact HB.out | apply cA | apply cN | apply cD | refine cS ?_ GE757.out) | exact HB.out)) hb); have n2_ := Aside0.mk (hbox); have n3_ := Aside0.mk ((by rw [hg]; exact (cZ (by repeat (first | (with_reducible first | exact HB.out | apply cA | apply cN | apply cD | refine cS ?_ GE757.out) | exact HB.out))) : w.heap.size ≤ gb758)); have n4_ := n3_; have n5_ := Aside0.mk ((by rw [hg]; exact Nat.ne_of_lt (blk_lt (g := gb757) (o := .cells #[.int .i64 a0_0, .int .i64 a0_1, .int .i64 a0_2, .slice A0_3 l0_3.length c0_3] 45 (0, 0)) (by (with_reducible repeat (first | apply bN | apply bD | apply bA)); exact BK757.out)) : gb757 ≠ gb758)); have n6_ := Aside0.mk ((by rw [hg]; exact Nat.ne_of_gt (blk_lt (g := gb757) (o := .cells #[.int .i64 a0_0, .int .i64 a0_1, .int .i64 a0_2, .slice A0_3 l0_3.length c0_3] 45 (0, 0)) (by (with_reducible repeat (first | apply bN | apply bD | apply bA)); exact BK757.out)) : gb758 ≠ gb757)); clear BK757; clear HB; have BK757 := n0_; have HB := n1_; have BK758 := n2_; have GW758 := n3_; have GE758 := n4_; have NB757_758 := n5_; have NB758_757 := n6_; clear n0_ n1_ n2_ n3_ n4_ n5_ n6_; clear hb hbox hg; have hnb7 := NB757_758.out; have hnc7 := NB758_757.out; have hcz8_0 : w6.cell? ⟨gb757, 0, none⟩ = some (.int .i64 a0_0) := (bC BK757.out 0).trans rfl; have hcz8_1 : w6.cell? ⟨gb757, 1, none⟩ = some (.int .i64 a0_1) := (bC BK757.out 1).trans rfl; have hcz8_2 : w6.cell? ⟨gb757, 2, none⟩ = some (.int .i64 a0_2) := (bC BK757.out 2).trans rfl; have hcz8_3 : w6.cell? ⟨gb757, 3, none⟩ = some (.slice A0_3 l0_3.length c0_3) := (bC BK757.out 3).trans rfl; have hfz8_0 := bZ BK757.out 0; have hfz8_1 := bZ BK757.out 1; have hfz8_2 := bZ BK757.out 2; have hfz8_3 := bZ BK757.out 3) | ((with_reducible refine gate_callee (f := 26) rfl ?_); refine goesL_ (some 22) rfl rfl Try.func26 (by kernel_rfl) rfl #[.int .i64 a0_0, .int .i64 a0_1, .int .i64 a0_2, .slice A0_3 l0_3.length c0_3] rfl (by (try simp only [List.map_toArray, List.map_cons, List.map_nil]); first | done | rfl | (simp only [List.length_drop, List.length_take]; rfl)) ?_; (with_reducible refine (span_Of.calls k a0_0 a0_1 a0_2 _ _ l0_3 t759 t760 t761 _ ?side1 ?side2 A3.out).mono ?_); (case side1 => repeat (first | exact (Kd.C_below HR0_3.out HB.out) | (with_reducible refine Kd.C_alloc ?_ _) | (with_reducible refine Kd.C_drewN ?_ _) | (with_reducible refine Kd.C_drew ?_))); (case side2 => exact HC0_3.out); rintro e w9 ⟨rfl, hb⟩; refine ⟨_, rfl, ?_⟩; have n0_ := Aside0.mk (bB (g := gb757) (o := .cells #[.int .i64 a0_0, .int .i64 a0_1, .int .i64 a0_2, .slice A0_3 l0_3.length c0_3] 45 (0, 0)) (by (with_reducible repeat (first | apply bN | apply bD | apply bA)); exact BK757.out) hb); have n1_ := Aside0.mk (bB (g := gb758) (o := .cells #[.int .i64 a1_0, .int .i64 a1_1, .int .i64 a1_2, .int .i64 a1_3, .int .i64 a1_4, .int .i64 a1_5] 57 (0, 0)) (by (with_reducible repeat (first | apply bN | apply bD | apply bA)); exact BK758.out) hb); have n2_ := Aside0.mk (cT (by repeat (first | (with_reducible first | exact HB.out | apply cA | apply cN | apply cD | refine cS ?_ GE757.out | refine cS ?_ GE758.out) | exact HB.out)) hb); clear BK757; clear BK758; clear HB; have BK757 := n0_; have BK758 := n1_; have HB := n2_; clear n0_ n1_ n2_; (try clear hb); (try clear hb2); (try clear hk); (try clear hi)) | ((with_reducible refine gate_dst (N := 5) rfl ?_); refine box_event ?hg (N := 5) ?hd (cs := #[.int .i64 0, .int .i64 0]) (t := 47) ?hr ?_; (case hd => rfl); (case hg => rfl); (case hr => first | (go_simp; done) | (go_simp; rfl)); intro gb762 hg w10 hbox hb; have n0_ := Aside0.mk (bB (g := gb757) (o := .cells #[.int .i64 a0_0, .int .i64 a0_1, .int .i64 a0_2, .slice A0_3 l0_3.length c0_3] 45 (0, 0)) (by (with_reducible repeat (first | apply bN | apply bD | apply bA)); exact BK757.out) hb); have n1_ := Aside0.mk (bB (g := gb758) (o := .cells #[.int .i64 a1_0, .int .i64 a1_1, .int .i64 a1_2, .int .i64 a1_3, .int .i64 a1_4, .int .i64 a1_5] 57 (0, 0)) (by (with_reducible repeat (first | apply bN | apply bD | apply bA)); exact BK758.out) hb); have n2_ := Aside0.mk (cT (by repeat (first | (with_reducible first | exact HB.out | apply cA | apply cN | apply cD | refine cS ?_ GE757.out | refine cS ?_ GE758.out) | exact HB.out)) hb); have n3_ := Aside0.mk (hbox); have n4_ := Aside0.mk ((by rw [hg]; exact (cZ (by repeat (first | (with_reducible first | exact HB.out | apply cA | apply cN | apply cD | refine cS ?_ GE757.out | refine cS ?_ GE758.out) | exact HB.out))) : w.heap.size ≤ gb762)); have n5_ := n4_; have n6_ := Aside0.mk ((by rw [hg]; exact Nat.ne_of_lt (blk_lt (g := gb757) (o := .cells #[.int .i64 a0_0, .int .i64 a0_1, .int .i64 a0_2, .slice A0_3 l0_3.length c0_3] 45 (0, 0)) (by (with_reducible repeat (first | apply bN | apply bD | apply bA)); exact BK757.out)) : gb757 ≠ gb762)); have n7_ := Aside0.mk ((by rw [hg]; exact Nat.ne_of_gt (blk_lt (g := gb757) (o := .cells #[.int .i64 a0_0, .int .i64 a0_1, .int .i64 a0_2, .slice A0_3 l0_3.length c0_3] 45 (0, 0)) (by (with_reducible repeat (first | apply bN | apply bD | apply bA)); exact BK757.out)) : gb762 ≠ gb757)); have n8_ := Aside0.mk ((by rw [hg]; exact Nat.ne_of_lt (blk_lt (g := gb758) (o := .cells #[.int .i64 a1_0, .int .i64 a1_1, .int .i64 a1_2, .int .i64 a1_3, .int .i64 a1_4, .int .i64 a1_5] 57 (0, 0)) (by (with_reducible repeat (first | apply bN | apply bD | apply bA)); exact BK758.out)) : gb758 ≠ gb762)); have n9_ := Aside0.mk ((by rw [hg]; exact Nat.ne_of_gt (blk_lt (g := gb758) (o := .cells #[.int .i64 a1_0, .int .i64 a1_1, .int .i64 a1_2, .int .i64 a1_3, .int .i64 a1_4, .int .i64 a1_5] 57 (0, 0)) (by (with_reducible repeat (first | apply bN | apply bD | apply bA)); exact BK758.out)) : gb762 ≠ gb758)); clear BK757; clear BK758; clear HB; have BK757 := n0_; have BK758 := n1_; have HB := n2_; have BK762 := n3_; have GW762 := n4_; have GE762 := n5_; have NB757_762 := n6_; have NB762_757 := n7_; have NB758_762 := n8_; have NB762_758 := n9_; clear n0_ n1_ n2_ n3_ n4_ n5_ n6_ n7_ n8_ n9_; clear hb hbox hg; have hnb11 := NB762_757.out; have hnc11 := NB757_762.out; have hnb12 := NB762_758.out; have hnc12 := NB758_762.out; have hcz13_0 : w10.cell? ⟨gb762, 0, none⟩ = some (.int .i64 0) := (bC BK762.out 0).trans rfl; have hcz13_1 : w10.cell? ⟨gb762, 1, none⟩ = some (.int .i64 0) := (bC BK762.out 1).trans rfl; have hfz13_0 := bZ BK762.out 0; have hfz13_1 := bZ BK762.out 1))
  (try simp only [Act.put, List.setIfInBounds_toArray, List.set_cons_zero, List.set_cons_succ])
  go_cut [30] (fun v30 wc => ∃ (kq : Nat) (x30_3 : Bool), v30 = .bool x30_3 ∧ Aside0 (damasklaw05_SpanGrows.j0 kq x30_3 a0_0 a0_1 a0_2 l0_3 a1_0 a1_1 a1_2 a1_3 a1_4 a1_5 t759 t760 = some r) ∧ Aside0 (kq ≤ k) ∧ Aside0 (wc.heap[gb757]? = some (.cells #[.int .i64 a0_0, .int .i64 a0_1, .int .i64 a0_2, (.slice A0_3 l0_3.length c0_3)] 45 (0, 0))) ∧ Aside0 (wc.heap[gb758]? = some (.cells #[.int .i64 a1_0, .int .i64 a1_1, .int .i64 a1_2, .int .i64 a1_3, .int .i64 a1_4, .int .i64 a1_5] 57 (0, 0))) ∧ Aside0 (wc.heap[gb762]? = some (.cells #[.int .i64 t759, .int .i64 t760] 47 (0, 0))) ∧ Aside0 (Below w.heap.size w wc))
  case first =>
    have H := HC4.out
    clear HC4
    replace H := Option.bind_eq_some_iff.mp H
    obtain ⟨t763, A140, H⟩ := H
    replace H : (if t763 = true then (damasklaw05_SpanGrows.j0 k (t761 != 0) a0_0 a0_1 a0_2 l0_3 a1_0 a1_1 a1_2 a1_3 a1_4 a1_5 t759 t760) else (damasklaw05_SpanGrows.j0 k true a0_0 a0_1 a0_2 l0_3 a1_0 a1_1 a1_2 a1_3 a1_4 a1_5 t759 t760)) = some r := H
    have A14 := Aside0.mk A140
    clear A140
    by_cases c15 : t763 = true
    · subst c15
      have H1 : (damasklaw05_SpanGrows.j0 k (t761 != 0) a0_0 a0_1 a0_2 l0_3 a1_0 a1_1 a1_2 a1_3 a1_4 a1_5 t759 t760) = some r := by rw [if_pos rfl] at H; exact H
      clear H
      have H := H1
      clear H1
      have H' := Aside0.mk H
      clear H
      go_wp2_with (first | ((with_reducible refine gate_callee (f := 28) rfl ?_); refine goesL_ (some 25) rfl rfl Try.func28 (by kernel_rfl) rfl #[] rfl (by (try simp only [List.map_toArray, List.map_cons, List.map_nil]); first | done | rfl | (simp only [List.length_drop, List.length_take]; rfl)) ?_; (with_reducible refine (damasklaw05_awake.calls k  true _ A14.out).mono ?_); rintro e w16 ⟨rfl, hb⟩; refine ⟨_, rfl, ?_⟩; have n0_ := Aside0.mk (bB (g := gb757) (o := .cells #[.int .i64 a0_0, .int .i64 a0_1, .int .i64 a0_2, .slice A0_3 l0_3.length c0_3] 45 (0, 0)) (by (with_reducible repeat (first | apply bN | apply bD | apply bA)); refine bF ?_ NB757_762.out _; (with_reducible repeat (first | apply bN | apply bD | apply bA)); refine bF ?_ NB757_762.out _; (with_reducible repeat (first | apply bN | apply bD | apply bA)); exact BK757.out) hb); have n1_ := Aside0.mk (bB (g := gb758) (o := .cells #[.int .i64 a1_0, .int .i64 a1_1, .int .i64 a1_2, .int .i64 a1_3, .int .i64 a1_4, .int .i64 a1_5] 57 (0, 0)) (by (with_reducible repeat (first | apply bN | apply bD | apply bA)); refine bF ?_ NB758_762.out _; (with_reducible repeat (first | apply bN | apply bD | apply bA)); refine bF ?_ NB758_762.out _; (with_reducible repeat (first | apply bN | apply bD | apply bA)); exact BK758.out) hb); have n2_ := Aside0.mk (bB (g := gb762) (o := .cells #[.int .i64 t759, .int .i64 t760] 47 (0, 0)) (by (with_reducible repeat (first | apply bN | apply bD | apply bA)); refine bP (cs := #[.int .i64 t759, .int .i64 0]) ?_ 1 _ rfl; (with_reducible repeat (first | apply bN | apply bD | apply bA)); refine bP (cs := #[.int .i64 0, .int .i64 0]) ?_ 0 _ rfl; (with_reducible repeat (first | apply bN | apply bD | apply bA)); exact BK762.out) hb); have n3_ := Aside0.mk (cT (by repeat (first | (with_reducible first | exact HB.out | apply cA | apply cN | apply cD | refine cS ?_ GE757.out | refine cS ?_ GE758.out | refine cS ?_ GE762.out) | exact HB.out)) hb); clear BK757; clear BK758; clear BK762; clear HB; have BK757 := n0_; have BK758 := n1_; have BK762 := n2_; have HB := n3_; clear n0_ n1_ n2_ n3_; (try clear hb); (try clear hb2); (try clear hk); (try clear hi)))
      go_meet
      case rel => exact ⟨_, ((t761 != 0)), (by first | rfl | (simp; done) | (simp [*]; done)), H', ⟨by first | omega | exact Nat.le_refl _⟩, ⟨by (with_reducible repeat (first | apply bN | apply bD | apply bA)); exact BK757.out⟩, ⟨by (with_reducible repeat (first | apply bN | apply bD | apply bA)); exact BK758.out⟩, ⟨by (with_reducible repeat (first | apply bN | apply bD | apply bA)); exact BK762.out⟩, ⟨by repeat (first | (with_reducible first | exact HB.out | apply cA | apply cN | apply cD | refine cS ?_ GE757.out | refine cS ?_ GE758.out | refine cS ?_ GE762.out) | exact HB.out)⟩⟩
    replace c15 := Bool.eq_false_iff.mpr c15
    subst c15
    have H1 : (damasklaw05_SpanGrows.j0 k true a0_0 a0_1 a0_2 l0_3 a1_0 a1_1 a1_2 a1_3 a1_4 a1_5 t759 t760) = some r := by rw [if_neg (show ¬ (false = true) by decide)] at H; exact H
    clear H
    have H := H1
    clear H1
    have H' := Aside0.mk H
    clear H
    go_wp2_with (first | ((with_reducible refine gate_callee (f := 28) rfl ?_); refine goesL_ (some 25) rfl rfl Try.func28 (by kernel_rfl) rfl #[] rfl (by (try simp only [List.map_toArray, List.map_cons, List.map_nil]); first | done | rfl | (simp only [List.length_drop, List.length_take]; rfl)) ?_; (with_reducible refine (damasklaw05_awake.calls k  false _ A14.out).mono ?_); rintro e w17 ⟨rfl, hb⟩; refine ⟨_, rfl, ?_⟩; have n0_ := Aside0.mk (bB (g := gb757) (o := .cells #[.int .i64 a0_0, .int .i64 a0_1, .int .i64 a0_2, .slice A0_3 l0_3.length c0_3] 45 (0, 0)) (by (with_reducible repeat (first | apply bN | apply bD | apply bA)); refine bF ?_ NB757_762.out _; (with_reducible repeat (first | apply bN | apply bD | apply bA)); refine bF ?_ NB757_762.out _; (with_reducible repeat (first | apply bN | apply bD | apply bA)); exact BK757.out) hb); have n1_ := Aside0.mk (bB (g := gb758) (o := .cells #[.int .i64 a1_0, .int .i64 a1_1, .int .i64 a1_2, .int .i64 a1_3, .int .i64 a1_4, .int .i64 a1_5] 57 (0, 0)) (by (with_reducible repeat (first | apply bN | apply bD | apply bA)); refine bF ?_ NB758_762.out _; (with_reducible repeat (first | apply bN | apply bD | apply bA)); refine bF ?_ NB758_762.out _; (with_reducible repeat (first | apply bN | apply bD | apply bA)); exact BK758.out) hb); have n2_ := Aside0.mk (bB (g := gb762) (o := .cells #[.int .i64 t759, .int .i64 t760] 47 (0, 0)) (by (with_reducible repeat (first | apply bN | apply bD | apply bA)); refine bP (cs := #[.int .i64 t759, .int .i64 0]) ?_ 1 _ rfl; (with_reducible repeat (first | apply bN | apply bD | apply bA)); refine bP (cs := #[.int .i64 0, .int .i64 0]) ?_ 0 _ rfl; (with_reducible repeat (first | apply bN | apply bD | apply bA)); exact BK762.out) hb); have n3_ := Aside0.mk (cT (by repeat (first | (with_reducible first | exact HB.out | apply cA | apply cN | apply cD | refine cS ?_ GE757.out | refine cS ?_ GE758.out | refine cS ?_ GE762.out) | exact HB.out)) hb); clear BK757; clear BK758; clear BK762; clear HB; have BK757 := n0_; have BK758 := n1_; have BK762 := n2_; have HB := n3_; clear n0_ n1_ n2_ n3_; (try clear hb); (try clear hb2); (try clear hk); (try clear hi)))
    go_meet
    case rel => exact ⟨_, (true), (by first | rfl | (simp; done) | (simp [*]; done)), H', ⟨by first | omega | exact Nat.le_refl _⟩, ⟨by (with_reducible repeat (first | apply bN | apply bD | apply bA)); exact BK757.out⟩, ⟨by (with_reducible repeat (first | apply bN | apply bD | apply bA)); exact BK758.out⟩, ⟨by (with_reducible repeat (first | apply bN | apply bD | apply bA)); exact BK762.out⟩, ⟨by repeat (first | (with_reducible first | exact HB.out | apply cA | apply cN | apply cD | refine cS ?_ GE757.out | refine cS ?_ GE758.out | refine cS ?_ GE762.out) | exact HB.out)⟩⟩
  case rest =>
    clear HC4
    try clear c15
    try clear hcz13_0
    try clear hcz13_1
    try clear hcz8_0
    try clear hcz8_1
    try clear hcz8_2
    try clear hcz8_3
    try clear hfz13_0
    try clear hfz13_1
    try clear hfz8_0
    try clear hfz8_1
    try clear hfz8_2
    try clear hfz8_3
    obtain ⟨kq, x30_3, rfl, HA, HJ3, BK757, BK758, BK762, HB⟩ := hcut
    cases kq with
    | zero => exact absurd HA.out (by simp [damasklaw05_SpanGrows.j0])
    | succ kj3 =>
      have H := HA.out
      clear HA
      simp only [damasklaw05_SpanGrows.j0] at H
      by_cases c18 : x30_3 = true
      · subst c18
        have H1 : ((damasklaw05_awake.f kj3).bind fun t764 => (some t764)) = some r := by rw [if_pos rfl] at H; exact H
        clear H
        have H := H1
        clear H1
        replace H := Option.bind_eq_some_iff.mp H
        obtain ⟨t764, A190, H⟩ := H
        replace H : (some t764) = some r := H
        have A19 := Aside0.mk A190
        clear A190
        obtain rfl := Option.some.inj H
        go_wp2_with (first | ((with_reducible refine gate_callee (f := 28) rfl ?_); refine goesL_ (some 31) rfl rfl Try.func28 (by kernel_rfl) rfl #[] rfl (by (try simp only [List.map_toArray, List.map_cons, List.map_nil]); first | done | rfl | (simp only [List.length_drop, List.length_take]; rfl)) ?_; (with_reducible refine (damasklaw05_awake.calls kj3  t764 _ A19.out).mono ?_); rintro e w20 ⟨rfl, hb⟩; refine ⟨_, rfl, ?_⟩; have n0_ := Aside0.mk (bB (g := gb757) (o := .cells #[.int .i64 a0_0, .int .i64 a0_1, .int .i64 a0_2, .slice A0_3 l0_3.length c0_3] 45 (0, 0)) (by (with_reducible repeat (first | apply bN | apply bD | apply bA)); exact BK757.out) hb); have n1_ := Aside0.mk (bB (g := gb758) (o := .cells #[.int .i64 a1_0, .int .i64 a1_1, .int .i64 a1_2, .int .i64 a1_3, .int .i64 a1_4, .int .i64 a1_5] 57 (0, 0)) (by (with_reducible repeat (first | apply bN | apply bD | apply bA)); exact BK758.out) hb); have n2_ := Aside0.mk (bB (g := gb762) (o := .cells #[.int .i64 t759, .int .i64 t760] 47 (0, 0)) (by (with_reducible repeat (first | apply bN | apply bD | apply bA)); exact BK762.out) hb); have n3_ := Aside0.mk (cT (by repeat (first | (with_reducible first | exact HB.out | apply cA | apply cN | apply cD | refine cS ?_ GE757.out | refine cS ?_ GE758.out | refine cS ?_ GE762.out) | exact HB.out)) hb); clear BK757; clear BK758; clear BK762; clear HB; have BK757 := n0_; have BK758 := n1_; have BK762 := n2_; have HB := n3_; clear n0_ n1_ n2_ n3_; (try clear hb); (try clear hb2); (try clear hk); (try clear hi)))
        go_ret
        exact ⟨by first | rfl | (simp [errW_none, errW_some] <;> rfl) | (simp [*, errW_none, errW_some] <;> rfl), by repeat (first | (with_reducible first | exact HB.out | apply cA | apply cN | apply cD | refine cS ?_ GE757.out | refine cS ?_ GE758.out | refine cS ?_ GE762.out) | exact HB.out)⟩
      replace c18 := Bool.eq_false_iff.mpr c18
      subst c18
      have H1 : (damasklaw05_SpanGrows.l0 kj3 ([] : List (S47)) 0 a0_0 a0_1 a0_2 l0_3 a1_0 a1_1 a1_2 a1_3 a1_4 a1_5 t759 t760) = some r := by rw [if_neg (show ¬ (false = true) by decide)] at H; exact H
      clear H
      have H := H1
      clear H1
      have H' := Aside0.mk H
      clear H
      go_wp2
      go_loopg [7, 8] kj3 (fun kq v7 v8 w' => ∃ (x7_2 : List (S47)) (x8_2 : Int), v8 = .int .i64 x8_2 ∧ Aside0 (damasklaw05_SpanGrows.l0 kq x7_2 x8_2 a0_0 a0_1 a0_2 l0_3 a1_0 a1_1 a1_2 a1_3 a1_4 a1_5 t759 t760 = some r) ∧ Aside0 (kq ≤ kj3) ∧ Aside0 (Kd.R k47 47 w' w.heap.size (fun k_ => k_ ≠ gb762) v7 x7_2) ∧ Aside0 (w'.heap[gb757]? = some (.cells #[.int .i64 a0_0, .int .i64 a0_1, .int .i64 a0_2, (.slice A0_3 l0_3.length c0_3)] 45 (0, 0))) ∧ Aside0 (w'.heap[gb758]? = some (.cells #[.int .i64 a1_0, .int .i64 a1_1, .int .i64 a1_2, .int .i64 a1_3, .int .i64 a1_4, .int .i64 a1_5] 57 (0, 0))) ∧ Aside0 (w'.heap[gb762]? = some (.cells #[.int .i64 t759, .int .i64 t760] 47 (0, 0))) ∧ Aside0 (Below w.heap.size w w'))
      case atStart => exact ⟨(([] : List (S47))), (0), (by first | rfl | (simp; done) | (simp [*]; done)), H', ⟨Nat.le_refl _⟩, ⟨by first | exact Kd.R_nil _ _ _ _ _ | exact Kd.N_nil _ _ _ _ _ | exact Kd.V_nil _ _ _ _ _ | exact Kd.Q_nil _ _ _ _ _ | exact Kd.S_nil _ _ _ _ _⟩, ⟨by (with_reducible repeat (first | apply bN | apply bD | apply bA)); exact BK757.out⟩, ⟨by (with_reducible repeat (first | apply bN | apply bD | apply bA)); exact BK758.out⟩, ⟨by (with_reducible repeat (first | apply bN | apply bD | apply bA)); exact BK762.out⟩, ⟨by repeat (first | (with_reducible first | exact HB.out | apply cA | apply cN | apply cD | refine cS ?_ GE757.out | refine cS ?_ GE758.out | refine cS ?_ GE762.out) | exact HB.out)⟩⟩
      case round =>
        clear H'
        try clear c15
        try clear c18
        try clear hcz13_0
        try clear hcz13_1
        try clear hcz8_0
        try clear hcz8_1
        try clear hcz8_2
        try clear hcz8_3
        try clear hfz13_0
        try clear hfz13_1
        try clear hfz8_0
        try clear hfz8_1
        try clear hfz8_2
        try clear hfz8_3
        obtain ⟨x7_2, x8_2, rfl, HA, HK2, HO_7, BK757, BK758, BK762, HB⟩ := hrel
        cases gk with
        | zero => exact absurd HA.out (by simp [damasklaw05_SpanGrows.l0])
        | succ k2 =>
          have H := HA.out
          clear HA
          simp only [damasklaw05_SpanGrows.l0] at H
          have HC21 := Aside0.mk H
          clear H
          go_upto_region 6 with (fail)
          go_cut [40] (fun v40 wc => ∃ (kq : Nat) (x40_20 : Bool), v40 = .bool x40_20 ∧ Aside0 (damasklaw05_SpanGrows.j2 kq x7_2 x8_2 x40_20 a0_0 a0_1 a0_2 l0_3 a1_0 a1_1 a1_2 a1_3 a1_4 a1_5 t759 t760 = some r) ∧ Aside0 (kq ≤ k2) ∧ Aside0 (Kd.R k47 47 wc w.heap.size (fun k_ => k_ ≠ gb762) u7 x7_2) ∧ Aside0 (wc.heap[gb757]? = some (.cells #[.int .i64 a0_0, .int .i64 a0_1, .int .i64 a0_2, (.slice A0_3 l0_3.length c0_3)] 45 (0, 0))) ∧ Aside0 (wc.heap[gb758]? = some (.cells #[.int .i64 a1_0, .int .i64 a1_1, .int .i64 a1_2, .int .i64 a1_3, .int .i64 a1_4, .int .i64 a1_5] 57 (0, 0))) ∧ Aside0 (wc.heap[gb762]? = some (.cells #[.int .i64 t759, .int .i64 t760] 47 (0, 0))) ∧ Aside0 (Below w.heap.size w wc))
          case first =>
            have H := HC21.out
            clear HC21
            by_cases c22 : x8_2 < (l0_3.length : Int)
            · rw [if_pos c22] at H
              have c22b0 : decide (x8_2 < (l0_3.length : Int)) = true := decide_eq_true c22
              clear c22
              (first | rw [c22b0] | (simp only [i64_w, i32_w]; rw [c22b0]) | skip)
              have H' := Aside0.mk H
              clear H
              have hnb23 := NB757_758.out
              have hnc23 := NB758_757.out
              have hnb24 := NB757_762.out
              have hnc24 := NB762_757.out
              have hcz25_0 : wr.cell? ⟨gb757, 0, none⟩ = some (.int .i64 a0_0) := (bC BK757.out 0).trans rfl
              have hcz25_1 : wr.cell? ⟨gb757, 1, none⟩ = some (.int .i64 a0_1) := (bC BK757.out 1).trans rfl
              have hcz25_2 : wr.cell? ⟨gb757, 2, none⟩ = some (.int .i64 a0_2) := (bC BK757.out 2).trans rfl
              have hcz25_3 : wr.cell? ⟨gb757, 3, none⟩ = some (.slice A0_3 l0_3.length c0_3) := (bC BK757.out 3).trans rfl
              have hfz25_0 := bZ BK757.out 0
              have hfz25_1 := bZ BK757.out 1
              have hfz25_2 := bZ BK757.out 2
              have hfz25_3 := bZ BK757.out 3
              go_wp2
              go_meet
              case rel => exact ⟨_, (decide (x8_2 < 3)), (by first | rfl | (simp; done) | (simp [*]; done)), H', ⟨by have := HJ3.out; have := HK2.out; first | omega | exact Nat.le_refl _⟩, ⟨by (with_reducible repeat (first | apply Kd.R_alloc | apply Kd.R_drewN | apply Kd.R_drew)); exact HO_7.out⟩, ⟨by (with_reducible repeat (first | apply bN | apply bD | apply bA)); exact BK757.out⟩, ⟨by (with_reducible repeat (first | apply bN | apply bD | apply bA)); exact BK758.out⟩, ⟨by (with_reducible repeat (first | apply bN | apply bD | apply bA)); exact BK762.out⟩, ⟨by repeat (first | (with_reducible first | exact HB.out | apply cA | apply cN | apply cD | refine cS ?_ GE757.out | refine cS ?_ GE758.out | refine cS ?_ GE762.out) | exact HB.out)⟩⟩
            rw [if_neg c22] at H
            have c22b0 : decide (x8_2 < (l0_3.length : Int)) = false := decide_eq_false c22
            clear c22
            (first | rw [c22b0] | (simp only [i64_w, i32_w]; rw [c22b0]) | skip)
            have H' := Aside0.mk H
            clear H
            have hnb26 := NB757_758.out
            have hnc26 := NB758_757.out
            have hnb27 := NB757_762.out
            have hnc27 := NB762_757.out
            have hcz28_0 : wr.cell? ⟨gb757, 0, none⟩ = some (.int .i64 a0_0) := (bC BK757.out 0).trans rfl
            have hcz28_1 : wr.cell? ⟨gb757, 1, none⟩ = some (.int .i64 a0_1) := (bC BK757.out 1).trans rfl
            have hcz28_2 : wr.cell? ⟨gb757, 2, none⟩ = some (.int .i64 a0_2) := (bC BK757.out 2).trans rfl
            have hcz28_3 : wr.cell? ⟨gb757, 3, none⟩ = some (.slice A0_3 l0_3.length c0_3) := (bC BK757.out 3).trans rfl
            have hfz28_0 := bZ BK757.out 0
            have hfz28_1 := bZ BK757.out 1
            have hfz28_2 := bZ BK757.out 2
            have hfz28_3 := bZ BK757.out 3
            go_wp2
            go_meet
            case rel => exact ⟨_, (false), (by first | rfl | (simp; done) | (simp [*]; done)), H', ⟨by have := HJ3.out; have := HK2.out; first | omega | exact Nat.le_refl _⟩, ⟨by (with_reducible repeat (first | apply Kd.R_alloc | apply Kd.R_drewN | apply Kd.R_drew)); exact HO_7.out⟩, ⟨by (with_reducible repeat (first | apply bN | apply bD | apply bA)); exact BK757.out⟩, ⟨by (with_reducible repeat (first | apply bN | apply bD | apply bA)); exact BK758.out⟩, ⟨by (with_reducible repeat (first | apply bN | apply bD | apply bA)); exact BK762.out⟩, ⟨by repeat (first | (with_reducible first | exact HB.out | apply cA | apply cN | apply cD | refine cS ?_ GE757.out | refine cS ?_ GE758.out | refine cS ?_ GE762.out) | exact HB.out)⟩⟩
          case rest =>
            clear HC21
            try clear c15
            try clear c18
            try clear c22
            try clear c22b0
            try clear hcz13_0
            try clear hcz13_1
            try clear hcz25_0
            try clear hcz25_1
            try clear hcz25_2
            try clear hcz25_3
            try clear hcz28_0
            try clear hcz28_1
            try clear hcz28_2
            try clear hcz28_3
            try clear hcz8_0
            try clear hcz8_1
            try clear hcz8_2
            try clear hcz8_3
            try clear hfz13_0
            try clear hfz13_1
            try clear hfz25_0
            try clear hfz25_1
            try clear hfz25_2
            try clear hfz25_3
            try clear hfz28_0
            try clear hfz28_1
            try clear hfz28_2
            try clear hfz28_3
            try clear hfz8_0
            try clear hfz8_1
            try clear hfz8_2
            try clear hfz8_3
            obtain ⟨kq, x40_20, rfl, HA, HJ20, HO_7, BK757, BK758, BK762, HB⟩ := hcut
            cases kq with
            | zero => exact absurd HA.out (by simp [damasklaw05_SpanGrows.j2])
            | succ kj20 =>
              have H := HA.out
              clear HA
              simp only [damasklaw05_SpanGrows.j2] at H
              by_cases c29 : x40_20 = true
              · subst c29
                have H1 : (if 0 ≤ x8_2 then (if x8_2 < (l0_3.length : Int) then ((damaskref05_Whole.f ((rd_T47 l0_3 x8_2).f0) ((rd_T47 l0_3 x8_2).f1)).bind fun t770 => (if t770 = true then (if 0 ≤ (wrap64 (2 * x8_2)) then (if (wrap64 (2 * x8_2)) < 6 then ((damasklaw05_point.f ((rd_T47 l0_3 x8_2).f0) ((rd_T47 l0_3 x8_2).f1) (rd ([a1_0, a1_1, a1_2, a1_3, a1_4, a1_5] : List Int) (wrap64 (2 * x8_2)))).bind fun t772 => (if 0 ≤ (wrap64 ((wrap64 (2 * x8_2)) + 1)) then (if (wrap64 ((wrap64 (2 * x8_2)) + 1)) < 6 then ((damasklaw05_point.f ((rd_T47 l0_3 x8_2).f0) ((rd_T47 l0_3 x8_2).f1) (rd ([a1_0, a1_1, a1_2, a1_3, a1_4, a1_5] : List Int) (wrap64 ((wrap64 (2 * x8_2)) + 1)))).bind fun t774 => (if t774 < t772 then (if x7_2.length < 8796093022208 then (damasklaw05_SpanGrows.l0 kj20 (x7_2 ++ [(⟨t774, t772⟩ : S47)]) (wrap64 (x8_2 + 1)) a0_0 a0_1 a0_2 l0_3 a1_0 a1_1 a1_2 a1_3 a1_4 a1_5 t759 t760) else (none)) else (if x7_2.length < 8796093022208 then (damasklaw05_SpanGrows.l0 kj20 (x7_2 ++ [(⟨t772, t774⟩ : S47)]) (wrap64 (x8_2 + 1)) a0_0 a0_1 a0_2 l0_3 a1_0 a1_1 a1_2 a1_3 a1_4 a1_5 t759 t760) else (none)))) else (none)) else (none))) else (none)) else (none)) else (some false))) else (none)) else (none)) = some r := by rw [if_pos rfl] at H; exact H
                clear H
                have H := H1
                clear H1
                by_cases c30 : 0 ≤ x8_2
                · rw [if_pos c30] at H
                  have c30b0 : decide (0 ≤ x8_2) = true := decide_eq_true c30
                  clear c30
                  by_cases c31 : x8_2 < (l0_3.length : Int)
                  · rw [if_pos c31] at H
                    have c31b0 : decide (x8_2 < (l0_3.length : Int)) = true := decide_eq_true c31
                    clear c31
                    replace H := Option.bind_eq_some_iff.mp H
                    obtain ⟨t770, A320, H⟩ := H
                    replace H : (if t770 = true then (if 0 ≤ (wrap64 (2 * x8_2)) then (if (wrap64 (2 * x8_2)) < 6 then ((damasklaw05_point.f ((rd_T47 l0_3 x8_2).f0) ((rd_T47 l0_3 x8_2).f1) (rd ([a1_0, a1_1, a1_2, a1_3, a1_4, a1_5] : List Int) (wrap64 (2 * x8_2)))).bind fun t772 => (if 0 ≤ (wrap64 ((wrap64 (2 * x8_2)) + 1)) then (if (wrap64 ((wrap64 (2 * x8_2)) + 1)) < 6 then ((damasklaw05_point.f ((rd_T47 l0_3 x8_2).f0) ((rd_T47 l0_3 x8_2).f1) (rd ([a1_0, a1_1, a1_2, a1_3, a1_4, a1_5] : List Int) (wrap64 ((wrap64 (2 * x8_2)) + 1)))).bind fun t774 => (if t774 < t772 then (if x7_2.length < 8796093022208 then (damasklaw05_SpanGrows.l0 kj20 (x7_2 ++ [(⟨t774, t772⟩ : S47)]) (wrap64 (x8_2 + 1)) a0_0 a0_1 a0_2 l0_3 a1_0 a1_1 a1_2 a1_3 a1_4 a1_5 t759 t760) else (none)) else (if x7_2.length < 8796093022208 then (damasklaw05_SpanGrows.l0 kj20 (x7_2 ++ [(⟨t772, t774⟩ : S47)]) (wrap64 (x8_2 + 1)) a0_0 a0_1 a0_2 l0_3 a1_0 a1_1 a1_2 a1_3 a1_4 a1_5 t759 t760) else (none)))) else (none)) else (none))) else (none)) else (none)) else (some false)) = some r := H
                    have A32 := Aside0.mk A320
                    clear A320
                    by_cases c33 : t770 = true
                    · subst c33
                      have H1 : (if 0 ≤ (wrap64 (2 * x8_2)) then (if (wrap64 (2 * x8_2)) < 6 then ((damasklaw05_point.f ((rd_T47 l0_3 x8_2).f0) ((rd_T47 l0_3 x8_2).f1) (rd ([a1_0, a1_1, a1_2, a1_3, a1_4, a1_5] : List Int) (wrap64 (2 * x8_2)))).bind fun t772 => (if 0 ≤ (wrap64 ((wrap64 (2 * x8_2)) + 1)) then (if (wrap64 ((wrap64 (2 * x8_2)) + 1)) < 6 then ((damasklaw05_point.f ((rd_T47 l0_3 x8_2).f0) ((rd_T47 l0_3 x8_2).f1) (rd ([a1_0, a1_1, a1_2, a1_3, a1_4, a1_5] : List Int) (wrap64 ((wrap64 (2 * x8_2)) + 1)))).bind fun t774 => (if t774 < t772 then (if x7_2.length < 8796093022208 then (damasklaw05_SpanGrows.l0 kj20 (x7_2 ++ [(⟨t774, t772⟩ : S47)]) (wrap64 (x8_2 + 1)) a0_0 a0_1 a0_2 l0_3 a1_0 a1_1 a1_2 a1_3 a1_4 a1_5 t759 t760) else (none)) else (if x7_2.length < 8796093022208 then (damasklaw05_SpanGrows.l0 kj20 (x7_2 ++ [(⟨t772, t774⟩ : S47)]) (wrap64 (x8_2 + 1)) a0_0 a0_1 a0_2 l0_3 a1_0 a1_1 a1_2 a1_3 a1_4 a1_5 t759 t760) else (none)))) else (none)) else (none))) else (none)) else (none)) = some r := by rw [if_pos rfl] at H; exact H
                      clear H
                      have H := H1
                      clear H1
                      obtain ⟨ji34, hji34⟩ : ∃ j_ : Int, (wrap64 (2 * x8_2)) = j_ := ⟨_, rfl⟩
                      replace H : (if 0 ≤ (ji34) then (if (ji34) < 6 then ((damasklaw05_point.f ((rd_T47 l0_3 x8_2).f0) ((rd_T47 l0_3 x8_2).f1) (rd ([a1_0, a1_1, a1_2, a1_3, a1_4, a1_5] : List Int) (ji34))).bind fun t772 => (if 0 ≤ (wrap64 ((ji34) + 1)) then (if (wrap64 ((ji34) + 1)) < 6 then ((damasklaw05_point.f ((rd_T47 l0_3 x8_2).f0) ((rd_T47 l0_3 x8_2).f1) (rd ([a1_0, a1_1, a1_2, a1_3, a1_4, a1_5] : List Int) (wrap64 ((ji34) + 1)))).bind fun t774 => (if t774 < t772 then (if x7_2.length < 8796093022208 then (damasklaw05_SpanGrows.l0 kj20 (x7_2 ++ [(⟨t774, t772⟩ : S47)]) (wrap64 (x8_2 + 1)) a0_0 a0_1 a0_2 l0_3 a1_0 a1_1 a1_2 a1_3 a1_4 a1_5 t759 t760) else (none)) else (if x7_2.length < 8796093022208 then (damasklaw05_SpanGrows.l0 kj20 (x7_2 ++ [(⟨t772, t774⟩ : S47)]) (wrap64 (x8_2 + 1)) a0_0 a0_1 a0_2 l0_3 a1_0 a1_1 a1_2 a1_3 a1_4 a1_5 t759 t760) else (none)))) else (none)) else (none))) else (none)) else (none)) = some r := by first | (rw [hji34] at H; exact H) | (simp only [hji34] at H ⊢; exact H)
                      (try rw [hji34] at A32)
                      have hji34w : (IntKind.i64.wrap (2 * x8_2)) = ji34 := (i64_w _).trans hji34
                      by_cases c35 : 0 ≤ (ji34)
                      · rw [if_pos c35] at H
                        have c35b0 : decide (0 ≤ (ji34)) = true := decide_eq_true c35
                        clear c35
                        by_cases c36 : (ji34) < 6
                        · rw [if_pos c36] at H
                          have c36b0 : decide ((ji34) < 6) = true := decide_eq_true c36
                          clear c36
                          replace H := Option.bind_eq_some_iff.mp H
                          obtain ⟨t772, A380, H⟩ := H
                          replace H : (if 0 ≤ (wrap64 ((ji34) + 1)) then (if (wrap64 ((ji34) + 1)) < 6 then ((damasklaw05_point.f ((rd_T47 l0_3 x8_2).f0) ((rd_T47 l0_3 x8_2).f1) (rd ([a1_0, a1_1, a1_2, a1_3, a1_4, a1_5] : List Int) (wrap64 ((ji34) + 1)))).bind fun t774 => (if t774 < t772 then (if x7_2.length < 8796093022208 then (damasklaw05_SpanGrows.l0 kj20 (x7_2 ++ [(⟨t774, t772⟩ : S47)]) (wrap64 (x8_2 + 1)) a0_0 a0_1 a0_2 l0_3 a1_0 a1_1 a1_2 a1_3 a1_4 a1_5 t759 t760) else (none)) else (if x7_2.length < 8796093022208 then (damasklaw05_SpanGrows.l0 kj20 (x7_2 ++ [(⟨t772, t774⟩ : S47)]) (wrap64 (x8_2 + 1)) a0_0 a0_1 a0_2 l0_3 a1_0 a1_1 a1_2 a1_3 a1_4 a1_5 t759 t760) else (none)))) else (none)) else (none)) = some r := H
                          have A38 := Aside0.mk A380
                          clear A380
                          obtain ⟨ji39, hji39⟩ : ∃ j_ : Int, (wrap64 ((ji34) + 1)) = j_ := ⟨_, rfl⟩
                          replace H : (if 0 ≤ (ji39) then (if (ji39) < 6 then ((damasklaw05_point.f ((rd_T47 l0_3 x8_2).f0) ((rd_T47 l0_3 x8_2).f1) (rd ([a1_0, a1_1, a1_2, a1_3, a1_4, a1_5] : List Int) (ji39))).bind fun t774 => (if t774 < t772 then (if x7_2.length < 8796093022208 then (damasklaw05_SpanGrows.l0 kj20 (x7_2 ++ [(⟨t774, t772⟩ : S47)]) (wrap64 (x8_2 + 1)) a0_0 a0_1 a0_2 l0_3 a1_0 a1_1 a1_2 a1_3 a1_4 a1_5 t759 t760) else (none)) else (if x7_2.length < 8796093022208 then (damasklaw05_SpanGrows.l0 kj20 (x7_2 ++ [(⟨t772, t774⟩ : S47)]) (wrap64 (x8_2 + 1)) a0_0 a0_1 a0_2 l0_3 a1_0 a1_1 a1_2 a1_3 a1_4 a1_5 t759 t760) else (none)))) else (none)) else (none)) = some r := by first | (rw [hji39] at H; exact H) | (simp only [hji39] at H ⊢; exact H)
                          (try rw [hji39] at A32)
                          (try rw [hji39] at A38)
                          have hji39w : (IntKind.i64.wrap ((ji34) + 1)) = ji39 := (i64_w _).trans hji39
                          by_cases c40 : 0 ≤ (ji39)
                          · rw [if_pos c40] at H
                            have c40b0 : decide (0 ≤ (ji39)) = true := decide_eq_true c40
                            clear c40
                            by_cases c41 : (ji39) < 6
                            · rw [if_pos c41] at H
                              have c41b0 : decide ((ji39) < 6) = true := decide_eq_true c41
                              clear c41
                              replace H := Option.bind_eq_some_iff.mp H
                              obtain ⟨t774, A430, H⟩ := H
                              replace H : (if t774 < t772 then (if x7_2.length < 8796093022208 then (damasklaw05_SpanGrows.l0 kj20 (x7_2 ++ [(⟨t774, t772⟩ : S47)]) (wrap64 (x8_2 + 1)) a0_0 a0_1 a0_2 l0_3 a1_0 a1_1 a1_2 a1_3 a1_4 a1_5 t759 t760) else (none)) else (if x7_2.length < 8796093022208 then (damasklaw05_SpanGrows.l0 kj20 (x7_2 ++ [(⟨t772, t774⟩ : S47)]) (wrap64 (x8_2 + 1)) a0_0 a0_1 a0_2 l0_3 a1_0 a1_1 a1_2 a1_3 a1_4 a1_5 t759 t760) else (none))) = some r := H
                              have A43 := Aside0.mk A430
                              clear A430
                              by_cases c44 : t774 < t772
                              · rw [if_pos c44] at H
                                have c44b0 : decide (t774 < t772) = true := decide_eq_true c44
                                clear c44
                                by_cases c45 : x7_2.length < 8796093022208
                                · rw [if_pos c45] at H
                                  have LMc45 := Aside0.mk c45
                                  clear c45
                                  obtain ⟨y775, hy775⟩ : ∃ y_ : List (S47), y_ = (x7_2 ++ [(⟨t774, t772⟩ : S47)]) := ⟨_, rfl⟩
                                  replace H : (damasklaw05_SpanGrows.l0 kj20 y775 (wrap64 (x8_2 + 1)) a0_0 a0_1 a0_2 l0_3 a1_0 a1_1 a1_2 a1_3 a1_4 a1_5 t759 t760) = some r := by first | (rw [hy775]; with_reducible exact H) | (have H2_ := (Option.bind_some _ _).symm.trans H; rw [hy775]; with_reducible exact H2_) | (have H2_ := (Option.bind_some _ _).symm.trans H; with_reducible exact H2_) | with_reducible exact H | (rw [hy775]; exact H) | exact H
                                  have Ny775 := Aside0.mk hy775
                                  clear hy775
                                  have H' := Aside0.mk H
                                  clear H
                                  have hnb46 := NB757_758.out
                                  have hnc46 := NB758_757.out
                                  have hnb47 := NB757_762.out
                                  have hnc47 := NB762_757.out
                                  have hcz48_0 : wc.cell? ⟨gb757, 0, none⟩ = some (.int .i64 a0_0) := (bC BK757.out 0).trans rfl
                                  have hcz48_1 : wc.cell? ⟨gb757, 1, none⟩ = some (.int .i64 a0_1) := (bC BK757.out 1).trans rfl
                                  have hcz48_2 : wc.cell? ⟨gb757, 2, none⟩ = some (.int .i64 a0_2) := (bC BK757.out 2).trans rfl
                                  have hcz48_3 : wc.cell? ⟨gb757, 3, none⟩ = some (.slice A0_3 l0_3.length c0_3) := (bC BK757.out 3).trans rfl
                                  have hfz48_0 := bZ BK757.out 0
                                  have hfz48_1 := bZ BK757.out 1
                                  have hfz48_2 := bZ BK757.out 2
                                  have hfz48_3 := bZ BK757.out 3
                                  have p769 : 0 ≤ (x8_2 : Int) := of_decide_eq_true (by first | (with_reducible assumption) | assumption)
                                  have q769 : x8_2 < (l0_3.length : Int) := of_decide_eq_true (by first | (with_reducible assumption) | assumption)
                                  obtain ⟨ad769, e769, hx769_0, hx769_1⟩ := at_T47 HR0_3.out x8_2 p769 q769
                                  cases e769
                                  replace hx769_0 := (HB.out.cell (wB w hx769_0)).trans hx769_0
                                  replace hx769_1 := (HB.out.cell (wB w hx769_1)).trans hx769_1
                                  replace p769 := eq_true p769
                                  replace q769 := eq_true q769
                                  try go_wp2_with (first | ((with_reducible refine gate_callee (f := 31) rfl ?_); refine goesL_ (some 48) rfl rfl Try.func31 (by kernel_rfl) rfl #[.agg #[.int .i64 ((rd_T47 l0_3 x8_2).f0), .int .i64 ((rd_T47 l0_3 x8_2).f1)]] rfl (by (try simp only [List.map_toArray, List.map_cons, List.map_nil]); first | done | rfl | (simp only [List.length_drop, List.length_take]; rfl)) ?_; (with_reducible refine (damaskref05_Whole.calls ((rd_T47 l0_3 x8_2).f0) ((rd_T47 l0_3 x8_2).f1) true _ A32.out).mono ?_); rintro e w49 ⟨rfl, hb⟩; refine ⟨_, rfl, ?_⟩; have n0_ := Aside0.mk (Kd.R_below (by (with_reducible repeat (first | apply Kd.R_alloc | apply Kd.R_drewN | apply Kd.R_drew)); exact HO_7.out) hb); have n1_ := Aside0.mk (bB (g := gb757) (o := .cells #[.int .i64 a0_0, .int .i64 a0_1, .int .i64 a0_2, .slice (some ad769) l0_3.length c0_3] 45 (0, 0)) (by (with_reducible repeat (first | apply bN | apply bD | apply bA)); exact BK757.out) hb); have n2_ := Aside0.mk (bB (g := gb758) (o := .cells #[.int .i64 a1_0, .int .i64 a1_1, .int .i64 a1_2, .int .i64 a1_3, .int .i64 a1_4, .int .i64 a1_5] 57 (0, 0)) (by (with_reducible repeat (first | apply bN | apply bD | apply bA)); exact BK758.out) hb); have n3_ := Aside0.mk (bB (g := gb762) (o := .cells #[.int .i64 t759, .int .i64 t760] 47 (0, 0)) (by (with_reducible repeat (first | apply bN | apply bD | apply bA)); exact BK762.out) hb); have n4_ := Aside0.mk (cT (by repeat (first | (with_reducible first | exact HB.out | apply cA | apply cN | apply cD | refine cS ?_ GE757.out | refine cS ?_ GE758.out | refine cS ?_ GE762.out) | exact HB.out)) hb); clear HO_7; clear BK757; clear BK758; clear BK762; clear HB; have HO_7 := n0_; have BK757 := n1_; have BK758 := n2_; have BK762 := n3_; have HB := n4_; clear n0_ n1_ n2_ n3_ n4_; (try clear hb); (try clear hb2); (try clear hk); (try clear hi)))
                                  have n0_ := Aside0.mk (Kd.R_drew HO_7.out)
                                  have n1_ := Aside0.mk (bD BK757.out)
                                  have n2_ := Aside0.mk (bD BK758.out)
                                  have n3_ := Aside0.mk (bD BK762.out)
                                  have n4_ := Aside0.mk (cD HB.out)
                                  clear HO_7
                                  clear BK757
                                  clear BK758
                                  clear BK762
                                  clear HB
                                  have HO_7 := n0_
                                  have BK757 := n1_
                                  have BK758 := n2_
                                  have BK762 := n3_
                                  have HB := n4_
                                  clear n0_ n1_ n2_ n3_ n4_
                                  have p771 : 0 ≤ (x8_2 : Int) := of_decide_eq_true (by first | (with_reducible assumption) | assumption)
                                  have q771 : x8_2 < (l0_3.length : Int) := of_decide_eq_true (by first | (with_reducible assumption) | assumption)
                                  obtain ⟨ad771, e771, hx771_0, hx771_1⟩ := at_T47 HR0_3.out x8_2 p771 q771
                                  have hw771_1 := hx771_1
                                  have hw771_0 := hx771_0
                                  obtain rfl : ad769 = ad771 := (by injection e771)
                                  replace hx771_0 := (HB.out.cell (wB w hx771_0)).trans hx771_0
                                  replace hx771_1 := (HB.out.cell (wB w hx771_1)).trans hx771_1
                                  replace p771 := eq_true p771
                                  replace q771 := eq_true q771
                                  have p37 : 0 ≤ ((ji34) : Int) := of_decide_eq_true (by first | (with_reducible assumption) | assumption)
                                  have q37 : ((ji34) : Int) < (6 : Int) := of_decide_eq_true (by first | (with_reducible assumption) | assumption)
                                  have hk37 := Aside0.mk (Op.rd_cell (k := .i64) ([a1_0, a1_1, a1_2, a1_3, a1_4, a1_5] : List Int) (ji34) p37 q37)
                                  replace p37 := eq_true p37
                                  replace q37 := eq_true q37
                                  have p773 : 0 ≤ (x8_2 : Int) := of_decide_eq_true (by first | (with_reducible assumption) | assumption)
                                  have q773 : x8_2 < (l0_3.length : Int) := of_decide_eq_true (by first | (with_reducible assumption) | assumption)
                                  obtain ⟨ad773, e773, hx773_0, hx773_1⟩ := at_T47 HR0_3.out x8_2 p773 q773
                                  have hw773_1 := hx773_1
                                  have hw773_0 := hx773_0
                                  obtain rfl : ad769 = ad773 := (by injection e773)
                                  replace hx773_0 := (HB.out.cell (wB w hx773_0)).trans hx773_0
                                  replace hx773_1 := (HB.out.cell (wB w hx773_1)).trans hx773_1
                                  replace p773 := eq_true p773
                                  replace q773 := eq_true q773
                                  have p42 : 0 ≤ ((ji39) : Int) := of_decide_eq_true (by first | (with_reducible assumption) | assumption)
                                  have q42 : ((ji39) : Int) < (6 : Int) := of_decide_eq_true (by first | (with_reducible assumption) | assumption)
                                  have hk42 := Aside0.mk (Op.rd_cell (k := .i64) ([a1_0, a1_1, a1_2, a1_3, a1_4, a1_5] : List Int) (ji39) p42 q42)
                                  replace p42 := eq_true p42
                                  replace q42 := eq_true q42
                                  refine start_ (n := 23) (S := fun w' => w'.cell? ⟨gb757, 0, none⟩ = some (.int .i64 a0_0) ∧ w'.cell? ⟨gb757, 1, none⟩ = some (.int .i64 a0_1) ∧ w'.cell? ⟨gb757, 2, none⟩ = some (.int .i64 a0_2) ∧ w'.cell? ⟨gb757, 3, none⟩ = some (.slice (some ad769) l0_3.length c0_3) ∧ w'.cell? ⟨gb758, 0, none⟩ = some (.int .i64 a1_0) ∧ w'.cell? ⟨gb758, 1, none⟩ = some (.int .i64 a1_1) ∧ w'.cell? ⟨gb758, 2, none⟩ = some (.int .i64 a1_2) ∧ w'.cell? ⟨gb758, 3, none⟩ = some (.int .i64 a1_3) ∧ w'.cell? ⟨gb758, 4, none⟩ = some (.int .i64 a1_4) ∧ w'.cell? ⟨gb758, 5, none⟩ = some (.int .i64 a1_5) ∧ w'.cell? (ad769.add ((x8_2).toNat * 2)) = some (.int .i64 ((rd_T47 l0_3 x8_2).f0)) ∧ w'.cell? ⟨(ad769.add ((x8_2).toNat * 2)).block, (ad769.add ((x8_2).toNat * 2)).off + 1, none⟩ = some (.int .i64 ((rd_T47 l0_3 x8_2).f1)) ∧ w'.cell? ⟨gb758, ((ji34) : Int).toNat, none⟩ = some (.int .i64 (rd ([a1_0, a1_1, a1_2, a1_3, a1_4, a1_5] : List Int) (ji34))) ∧ w'.cell? (ad769.add ((x8_2).toNat * 2)) = some (.int .i64 ((rd_T47 l0_3 x8_2).f0)) ∧ w'.cell? ⟨(ad769.add ((x8_2).toNat * 2)).block, (ad769.add ((x8_2).toNat * 2)).off + 1, none⟩ = some (.int .i64 ((rd_T47 l0_3 x8_2).f1)) ∧ w'.cell? ⟨gb758, ((ji39) : Int).toNat, none⟩ = some (.int .i64 (rd ([a1_0, a1_1, a1_2, a1_3, a1_4, a1_5] : List Int) (ji39)))) (ds := []) #[false, false, false, false, false, false, false, false, false, false, false, false, false, false, false, false, false, false, false, false, false, false, false] (by kernel_rfl) rfl rfl ⟨(bC BK757.out 0).trans rfl, (bC BK757.out 1).trans rfl, (bC BK757.out 2).trans rfl, (bC BK757.out 3).trans rfl, (bC BK758.out 0).trans rfl, (bC BK758.out 1).trans rfl, (bC BK758.out 2).trans rfl, (bC BK758.out 3).trans rfl, (bC BK758.out 4).trans rfl, (bC BK758.out 5).trans rfl, ((HB.out.cell (wB w hw771_0)).trans hw771_0), ((HB.out.cell (wB w hw771_1)).trans hw771_1), ((bC BK758.out _).trans hk37.out), ((HB.out.cell (wB w hw773_0)).trans hw773_0), ((HB.out.cell (wB w hw773_1)).trans hw773_1), ((bC BK758.out _).trans hk42.out)⟩ (fun hHeld => ?_); refine with_tabW damasklaw05_SpanGrows.tab10 damasklaw05_SpanGrows.bits10 (fun HT_ HW_ => ?_)
                                  generalize w49.drew = w50 at HO_7 BK757 BK758 BK762 HB hx771_0 hx771_1 hx773_0 hx773_1 hHeld ⊢
                                  refine pure_ (i := 0) (N := some 50) (v := ?_) (a' := ?_) #[true, false, false, false, false, false, false, false, false, false, false, false, false, false, false, false, false, false, false, false, false, false, false] rfl rfl (any_of HT_.out (by kernel_rfl)) (fun _ _ _ h => h) (Or.inl ⟨by rfl, ?_⟩) ?_ ?_
                                  rotate_left
                                  · intro w'
                                    go_simp
                                    with_reducible rfl
                                  rotate_left
                                  · simp only [Act.put, List.setIfInBounds_toArray, List.set_cons_zero, List.set_cons_succ, i64_w, i32_w]
                                    rfl
                                  refine pure_ (i := 2) (N := some 52) (v := ?_) (a' := ?_) #[true, false, true, false, false, false, false, false, false, false, false, false, false, false, false, false, false, false, false, false, false, false, false] rfl rfl (any_of HT_.out (by kernel_rfl)) (fun _ _ _ h => h) (Or.inl ⟨by rfl, ?_⟩) ?_ ?_
                                  rotate_left
                                  · intro w'
                                    go_simp
                                    with_reducible rfl
                                  rotate_left
                                  · simp only [Act.put, List.setIfInBounds_toArray, List.set_cons_zero, List.set_cons_succ, i64_w, i32_w]
                                    rfl
                                  refine pure_ (i := 5) (N := some 55) (v := ?_) (a' := ?_) #[true, false, true, false, false, true, false, false, false, false, false, false, false, false, false, false, false, false, false, false, false, false, false] rfl rfl (any_of HT_.out (by kernel_rfl)) (fun _ _ _ h => h) (Or.inl ⟨by rfl, ?_⟩) ?_ ?_
                                  rotate_left
                                  · intro w'
                                    go_simp
                                    with_reducible rfl
                                  rotate_left
                                  · simp only [Act.put, List.setIfInBounds_toArray, List.set_cons_zero, List.set_cons_succ, i64_w, i32_w]
                                    rfl
                                  refine pure_ (i := 6) (N := some 56) (v := ?_) (a' := ?_) #[true, false, true, false, false, true, true, false, false, false, false, false, false, false, false, false, false, false, false, false, false, false, false] rfl rfl (any_of HT_.out (by kernel_rfl)) (fun _ _ _ h => h) (Or.inl ⟨by rfl, ?_⟩) ?_ ?_
                                  rotate_left
                                  · intro w'
                                    go_simp
                                    with_reducible rfl
                                  rotate_left
                                  · simp only [Act.put, List.setIfInBounds_toArray, List.set_cons_zero, List.set_cons_succ, i64_w, i32_w]
                                    rfl
                                  refine pure_ (i := 7) (N := some 57) (v := ?_) (a' := ?_) #[true, false, true, false, false, true, true, true, false, false, false, false, false, false, false, false, false, false, false, false, false, false, false] rfl rfl (any_of HT_.out (by kernel_rfl)) (fun _ _ _ h => h) (Or.inl ⟨by rfl, ?_⟩) ?_ ?_
                                  rotate_left
                                  · intro w'
                                    go_simp
                                    with_reducible rfl
                                  rotate_left
                                  · simp only [Act.put, List.setIfInBounds_toArray, List.set_cons_zero, List.set_cons_succ, i64_w, i32_w]
                                    rfl
                                  refine pure_ (i := 10) (N := some 60) (v := ?_) (a' := ?_) #[true, false, true, false, false, true, true, true, false, false, true, false, false, false, false, false, false, false, false, false, false, false, false] rfl rfl (any_of HT_.out (by kernel_rfl)) (fun _ _ _ h => h) (Or.inl ⟨by rfl, ?_⟩) ?_ ?_
                                  rotate_left
                                  · intro w'
                                    go_simp
                                    with_reducible rfl
                                  rotate_left
                                  · simp only [Act.put, List.setIfInBounds_toArray, List.set_cons_zero, List.set_cons_succ, i64_w, i32_w]
                                    rfl
                                  refine pure_ (i := 12) (N := some 62) (v := ?_) (a' := ?_) #[true, false, true, false, false, true, true, true, false, false, true, false, true, false, false, false, false, false, false, false, false, false, false] rfl rfl (any_of HT_.out (by kernel_rfl)) (fun _ _ _ h => h) (Or.inl ⟨by rfl, ?_⟩) ?_ ?_
                                  rotate_left
                                  · intro w'
                                    go_simp
                                    with_reducible rfl
                                  rotate_left
                                  · simp only [Act.put, List.setIfInBounds_toArray, List.set_cons_zero, List.set_cons_succ, i64_w, i32_w]
                                    rfl
                                  refine pure_ (i := 15) (N := some 65) (v := ?_) (a' := ?_) #[true, false, true, false, false, true, true, true, false, false, true, false, true, false, false, true, false, false, false, false, false, false, false] rfl rfl (any_of HT_.out (by kernel_rfl)) (fun _ _ _ h => h) (Or.inl ⟨by rfl, ?_⟩) ?_ ?_
                                  rotate_left
                                  · intro w'
                                    go_simp
                                    with_reducible rfl
                                  rotate_left
                                  · simp only [Act.put, List.setIfInBounds_toArray, List.set_cons_zero, List.set_cons_succ, i64_w, i32_w]
                                    rfl
                                  refine pure_ (i := 16) (N := some 66) (v := ?_) (a' := ?_) #[true, false, true, false, false, true, true, true, false, false, true, false, true, false, false, true, true, false, false, false, false, false, false] rfl rfl (any_of HT_.out (by kernel_rfl)) (fun _ _ _ h => h) (Or.inl ⟨by rfl, ?_⟩) ?_ ?_
                                  rotate_left
                                  · intro w'
                                    go_simp
                                    with_reducible rfl
                                  rotate_left
                                  · simp only [Act.put, List.setIfInBounds_toArray, List.set_cons_zero, List.set_cons_succ, i64_w, i32_w]
                                    rfl
                                  refine pure_ (i := 17) (N := some 67) (v := ?_) (a' := ?_) #[true, false, true, false, false, true, true, true, false, false, true, false, true, false, false, true, true, true, false, false, false, false, false] rfl rfl (any_of HT_.out (by kernel_rfl)) (fun _ _ _ h => h) (Or.inl ⟨by rfl, ?_⟩) ?_ ?_
                                  rotate_left
                                  · intro w'
                                    go_simp
                                    with_reducible rfl
                                  rotate_left
                                  · simp only [Act.put, List.setIfInBounds_toArray, List.set_cons_zero, List.set_cons_succ, i64_w, i32_w]
                                    rfl
                                  refine pure_ (i := 18) (N := some 68) (v := ?_) (a' := ?_) #[true, false, true, false, false, true, true, true, false, false, true, false, true, false, false, true, true, true, true, false, false, false, false] rfl rfl (any_of HT_.out (by kernel_rfl)) (fun _ _ _ h => h) (Or.inl ⟨by rfl, ?_⟩) ?_ ?_
                                  rotate_left
                                  · intro w'
                                    go_simp
                                    with_reducible rfl
                                  rotate_left
                                  · simp only [Act.put, List.setIfInBounds_toArray, List.set_cons_zero, List.set_cons_succ, i64_w, i32_w]
                                    rfl
                                  refine take_ (i := 1) (N := some 51) (v := ?_) (a' := ?_) #[true, true, true, false, false, true, true, true, false, false, true, false, true, false, false, true, true, true, true, false, false, false, false] rfl rfl (take_ofW HT_.out HW_.out (by kernel_rfl)) (fun _ _ _ h => h) (Or.inl ⟨by rfl, ?_⟩) hHeld ?_ ?_
                                  rotate_left
                                  · rintro w' ⟨s0, s1, s2, s3, s4, s5, s6, s7, s8, s9, s10, s11, s12, s13, s14, s15⟩
                                    go_simp
                                    with_reducible rfl
                                  rotate_left
                                  · simp only [Act.put, List.setIfInBounds_toArray, List.set_cons_zero, List.set_cons_succ, i64_w, i32_w]
                                    rfl
                                  refine pure_ (i := 3) (N := some 53) (v := ?_) (a' := ?_) #[true, true, true, true, false, true, true, true, false, false, true, false, true, false, false, true, true, true, true, false, false, false, false] rfl rfl (any_of HT_.out (by kernel_rfl)) (fun _ _ _ h => h) (Or.inl ⟨by rfl, ?_⟩) ?_ ?_
                                  rotate_left
                                  · intro w'
                                    go_simp
                                    with_reducible rfl
                                  rotate_left
                                  · simp only [Act.put, List.setIfInBounds_toArray, List.set_cons_zero, List.set_cons_succ, i64_w, i32_w]
                                    rfl
                                  refine take_ (i := 4) (N := some 54) (v := ?_) (a' := ?_) #[true, true, true, true, true, true, true, true, false, false, true, false, true, false, false, true, true, true, true, false, false, false, false] rfl rfl (take_ofW HT_.out HW_.out (by kernel_rfl)) (fun _ _ _ h => h) (Or.inl ⟨by rfl, ?_⟩) hHeld ?_ ?_
                                  rotate_left
                                  · rintro w' ⟨s0, s1, s2, s3, s4, s5, s6, s7, s8, s9, s10, s11, s12, s13, s14, s15⟩
                                    go_simp
                                    with_reducible rfl
                                  rotate_left
                                  · simp only [Act.put, List.setIfInBounds_toArray, List.set_cons_zero, List.set_cons_succ, i64_w, i32_w]
                                    rfl
                                  refine take_ (i := 8) (N := some 58) (v := ?_) (a' := ?_) #[true, true, true, true, true, true, true, true, true, false, true, false, true, false, false, true, true, true, true, false, false, false, false] rfl rfl (take_ofW HT_.out HW_.out (by kernel_rfl)) (fun _ _ _ h => h) (Or.inl ⟨by rfl, ?_⟩) hHeld ?_ ?_
                                  rotate_left
                                  · rintro w' ⟨s0, s1, s2, s3, s4, s5, s6, s7, s8, s9, s10, s11, s12, s13, s14, s15⟩
                                    go_simp
                                    with_reducible rfl
                                  rotate_left
                                  · simp only [Act.put, List.setIfInBounds_toArray, List.set_cons_zero, List.set_cons_succ, i64_w, i32_w]
                                    rfl
                                  refine take_ (i := 11) (N := some 61) (v := ?_) (a' := ?_) #[true, true, true, true, true, true, true, true, true, false, true, true, true, false, false, true, true, true, true, false, false, false, false] rfl rfl (take_ofW HT_.out HW_.out (by kernel_rfl)) (fun _ _ _ h => h) (Or.inl ⟨by rfl, ?_⟩) hHeld ?_ ?_
                                  rotate_left
                                  · rintro w' ⟨s0, s1, s2, s3, s4, s5, s6, s7, s8, s9, s10, s11, s12, s13, s14, s15⟩
                                    go_simp
                                    with_reducible rfl
                                  rotate_left
                                  · simp only [Act.put, List.setIfInBounds_toArray, List.set_cons_zero, List.set_cons_succ, i64_w, i32_w]
                                    rfl
                                  refine pure_ (i := 13) (N := some 63) (v := ?_) (a' := ?_) #[true, true, true, true, true, true, true, true, true, false, true, true, true, true, false, true, true, true, true, false, false, false, false] rfl rfl (any_of HT_.out (by kernel_rfl)) (fun _ _ _ h => h) (Or.inl ⟨by rfl, ?_⟩) ?_ ?_
                                  rotate_left
                                  · intro w'
                                    go_simp
                                    with_reducible rfl
                                  rotate_left
                                  · simp only [Act.put, List.setIfInBounds_toArray, List.set_cons_zero, List.set_cons_succ, i64_w, i32_w]
                                    rfl
                                  refine take_ (i := 14) (N := some 64) (v := ?_) (a' := ?_) #[true, true, true, true, true, true, true, true, true, false, true, true, true, true, true, true, true, true, true, false, false, false, false] rfl rfl (take_ofW HT_.out HW_.out (by kernel_rfl)) (fun _ _ _ h => h) (Or.inl ⟨by rfl, ?_⟩) hHeld ?_ ?_
                                  rotate_left
                                  · rintro w' ⟨s0, s1, s2, s3, s4, s5, s6, s7, s8, s9, s10, s11, s12, s13, s14, s15⟩
                                    go_simp
                                    with_reducible rfl
                                  rotate_left
                                  · simp only [Act.put, List.setIfInBounds_toArray, List.set_cons_zero, List.set_cons_succ, i64_w, i32_w]
                                    rfl
                                  refine take_ (i := 19) (N := some 69) (v := ?_) (a' := ?_) #[true, true, true, true, true, true, true, true, true, false, true, true, true, true, true, true, true, true, true, true, false, false, false] rfl rfl (take_ofW HT_.out HW_.out (by kernel_rfl)) (fun _ _ _ h => h) (Or.inl ⟨by rfl, ?_⟩) hHeld ?_ ?_
                                  rotate_left
                                  · rintro w' ⟨s0, s1, s2, s3, s4, s5, s6, s7, s8, s9, s10, s11, s12, s13, s14, s15⟩
                                    go_simp
                                    with_reducible rfl
                                  rotate_left
                                  · simp only [Act.put, List.setIfInBounds_toArray, List.set_cons_zero, List.set_cons_succ, i64_w, i32_w]
                                    rfl
                                  refine one_ (i := 9) (N := some 59) #[true, true, true, true, true, true, true, true, true, true, true, true, true, true, true, true, true, true, true, true, false, false, false] rfl rfl (one_of HT_.out (by kernel_rfl)) (by decide) (fun K hK => ?_)
                                  refine goes_ Try.func34 (by kernel_rfl) rfl #[.agg #[.int .i64 ((rd_T47 l0_3 x8_2).f0), .int .i64 ((rd_T47 l0_3 x8_2).f1)], .int .i64 (rd ([a1_0, a1_1, a1_2, a1_3, a1_4, a1_5] : List Int) (ji34))] (by rfl) rfl rfl (by (try simp only [List.map_toArray, List.map_cons, List.map_nil]); first | done | (simp only [hji34]; rfl) | rfl | (simp only [List.length_drop, List.length_take]; rfl)) ?_
                                  with_reducible refine (damasklaw05_point.calls ((rd_T47 l0_3 x8_2).f0) ((rd_T47 l0_3 x8_2).f1) (rd ([a1_0, a1_1, a1_2, a1_3, a1_4, a1_5] : List Int) (ji34)) t772 _ A38.out).mono ?_
                                  rintro e w51 ⟨rfl, hb⟩
                                  refine ⟨_, rfl, ?_⟩
                                  have n0_ := Aside0.mk (Kd.R_below (by (with_reducible repeat (first | apply Kd.R_alloc | apply Kd.R_drewN | apply Kd.R_drew)); exact HO_7.out) hb)
                                  have n1_ := Aside0.mk (bB (g := gb757) (o := .cells #[.int .i64 a0_0, .int .i64 a0_1, .int .i64 a0_2, .slice (some ad769) l0_3.length c0_3] 45 (0, 0)) (by (with_reducible repeat (first | apply bN | apply bD | apply bA)); exact BK757.out) hb)
                                  have n2_ := Aside0.mk (bB (g := gb758) (o := .cells #[.int .i64 a1_0, .int .i64 a1_1, .int .i64 a1_2, .int .i64 a1_3, .int .i64 a1_4, .int .i64 a1_5] 57 (0, 0)) (by (with_reducible repeat (first | apply bN | apply bD | apply bA)); exact BK758.out) hb)
                                  have n3_ := Aside0.mk (bB (g := gb762) (o := .cells #[.int .i64 t759, .int .i64 t760] 47 (0, 0)) (by (with_reducible repeat (first | apply bN | apply bD | apply bA)); exact BK762.out) hb)
                                  have n4_ := Aside0.mk (cT (by repeat (first | (with_reducible first | exact HB.out | apply cA | apply cN | apply cD | refine cS ?_ GE757.out | refine cS ?_ GE758.out | refine cS ?_ GE762.out) | exact HB.out)) hb)
                                  clear HO_7
                                  clear BK757
                                  clear BK758
                                  clear BK762
                                  clear HB
                                  have HO_7 := n0_
                                  have BK757 := n1_
                                  have BK758 := n2_
                                  have BK762 := n3_
                                  have HB := n4_
                                  clear n0_ n1_ n2_ n3_ n4_
                                  (try clear hb)
                                  (try clear hb2)
                                  (try clear hk)
                                  (try clear hi)
                                  refine hK.out _ _ ⟨(bC BK757.out 0).trans rfl, (bC BK757.out 1).trans rfl, (bC BK757.out 2).trans rfl, (bC BK757.out 3).trans rfl, (bC BK758.out 0).trans rfl, (bC BK758.out 1).trans rfl, (bC BK758.out 2).trans rfl, (bC BK758.out 3).trans rfl, (bC BK758.out 4).trans rfl, (bC BK758.out 5).trans rfl, ((HB.out.cell (wB w hw771_0)).trans hw771_0), ((HB.out.cell (wB w hw771_1)).trans hw771_1), ((bC BK758.out _).trans hk37.out), ((HB.out.cell (wB w hw773_0)).trans hw773_0), ((HB.out.cell (wB w hw773_1)).trans hw773_1), ((bC BK758.out _).trans hk42.out)⟩ (fun hHeld => ?_)
                                  clear hK K
                                  refine norm_ (a' := ?_) ?_ ?_
                                  rotate_left
                                  · show Act.put _ (some 59) _ = _
                                    simp only [Act.put, List.setIfInBounds_toArray, List.set_cons_zero, List.set_cons_succ, i64_w, i32_w]
                                    rfl
                                  refine one_ (i := 20) (N := some 70) #[true, true, true, true, true, true, true, true, true, true, true, true, true, true, true, true, true, true, true, true, true, false, false] rfl rfl (one_of HT_.out (by kernel_rfl)) (by decide) (fun K hK => ?_)
                                  refine goes_ Try.func34 (by kernel_rfl) rfl #[.agg #[.int .i64 ((rd_T47 l0_3 x8_2).f0), .int .i64 ((rd_T47 l0_3 x8_2).f1)], .int .i64 (rd ([a1_0, a1_1, a1_2, a1_3, a1_4, a1_5] : List Int) (ji39))] (by rfl) rfl rfl (by (try simp only [List.map_toArray, List.map_cons, List.map_nil]); first | done | (simp only [hji39]; rfl) | rfl | (simp only [List.length_drop, List.length_take]; rfl)) ?_
                                  with_reducible refine (damasklaw05_point.calls ((rd_T47 l0_3 x8_2).f0) ((rd_T47 l0_3 x8_2).f1) (rd ([a1_0, a1_1, a1_2, a1_3, a1_4, a1_5] : List Int) (ji39)) t774 _ A43.out).mono ?_
                                  rintro e w52 ⟨rfl, hb⟩
                                  refine ⟨_, rfl, ?_⟩
                                  have n0_ := Aside0.mk (Kd.R_below (by (with_reducible repeat (first | apply Kd.R_alloc | apply Kd.R_drewN | apply Kd.R_drew)); exact HO_7.out) hb)
                                  have n1_ := Aside0.mk (bB (g := gb757) (o := .cells #[.int .i64 a0_0, .int .i64 a0_1, .int .i64 a0_2, .slice (some ad769) l0_3.length c0_3] 45 (0, 0)) (by (with_reducible repeat (first | apply bN | apply bD | apply bA)); exact BK757.out) hb)
                                  have n2_ := Aside0.mk (bB (g := gb758) (o := .cells #[.int .i64 a1_0, .int .i64 a1_1, .int .i64 a1_2, .int .i64 a1_3, .int .i64 a1_4, .int .i64 a1_5] 57 (0, 0)) (by (with_reducible repeat (first | apply bN | apply bD | apply bA)); exact BK758.out) hb)
                                  have n3_ := Aside0.mk (bB (g := gb762) (o := .cells #[.int .i64 t759, .int .i64 t760] 47 (0, 0)) (by (with_reducible repeat (first | apply bN | apply bD | apply bA)); exact BK762.out) hb)
                                  have n4_ := Aside0.mk (cT (by repeat (first | (with_reducible first | exact HB.out | apply cA | apply cN | apply cD | refine cS ?_ GE757.out | refine cS ?_ GE758.out | refine cS ?_ GE762.out) | exact HB.out)) hb)
                                  clear HO_7
                                  clear BK757
                                  clear BK758
                                  clear BK762
                                  clear HB
                                  have HO_7 := n0_
                                  have BK757 := n1_
                                  have BK758 := n2_
                                  have BK762 := n3_
                                  have HB := n4_
                                  clear n0_ n1_ n2_ n3_ n4_
                                  (try clear hb)
                                  (try clear hb2)
                                  (try clear hk)
                                  (try clear hi)
                                  refine hK.out _ _ ⟨(bC BK757.out 0).trans rfl, (bC BK757.out 1).trans rfl, (bC BK757.out 2).trans rfl, (bC BK757.out 3).trans rfl, (bC BK758.out 0).trans rfl, (bC BK758.out 1).trans rfl, (bC BK758.out 2).trans rfl, (bC BK758.out 3).trans rfl, (bC BK758.out 4).trans rfl, (bC BK758.out 5).trans rfl, ((HB.out.cell (wB w hw771_0)).trans hw771_0), ((HB.out.cell (wB w hw771_1)).trans hw771_1), ((bC BK758.out _).trans hk37.out), ((HB.out.cell (wB w hw773_0)).trans hw773_0), ((HB.out.cell (wB w hw773_1)).trans hw773_1), ((bC BK758.out _).trans hk42.out)⟩ (fun hHeld => ?_)
                                  clear hK K
                                  refine norm_ (a' := ?_) ?_ ?_
                                  rotate_left
                                  · show Act.put _ (some 70) _ = _
                                    simp only [Act.put, List.setIfInBounds_toArray, List.set_cons_zero, List.set_cons_succ, i64_w, i32_w]
                                    rfl
                                  refine pure_ (i := 21) (N := some 9) (v := ?_) (a' := ?_) #[true, true, true, true, true, true, true, true, true, true, true, true, true, true, true, true, true, true, true, true, true, true, false] rfl rfl (any_of HT_.out (by kernel_rfl)) (fun _ _ _ h => h) (Or.inl ⟨by rfl, ?_⟩) ?_ ?_
                                  rotate_left
                                  · intro w'
                                    go_simp
                                    with_reducible rfl
                                  rotate_left
                                  · simp only [Act.put, List.setIfInBounds_toArray, List.set_cons_zero, List.set_cons_succ, i64_w, i32_w]
                                    rfl
                                  refine pure_ (i := 22) (N := some 10) (v := ?_) (a' := ?_) #[true, true, true, true, true, true, true, true, true, true, true, true, true, true, true, true, true, true, true, true, true, true, true] rfl rfl (any_of HT_.out (by kernel_rfl)) (fun _ _ _ h => h) (Or.inl ⟨by rfl, ?_⟩) ?_ ?_
                                  rotate_left
                                  · intro w'
                                    go_simp
                                    with_reducible rfl
                                  rotate_left
                                  · simp only [Act.put, List.setIfInBounds_toArray, List.set_cons_zero, List.set_cons_succ, i64_w, i32_w]
                                    rfl
                                  refine done_ (done_of HT_.out (by kernel_rfl)) ?_
                                  try go_wp2_with (first | ((with_reducible refine gate_builtin (b := .append) (xs := #[.tmp 76, .tmp 80]) rfl ?_); at_builtin; refine Kd.R_append k47 (w0 := w) w.heap.size rfl (.tmp 76) (.tmp 80) 43 47 (.agg #[(.int .i64 0), (.int .i64 0)]) 16 rfl Try.underlying43 info47 rfl (by decide) (by omega) u7 x7_2 (⟨t774, t772⟩ : S47) [.int .i64 t774, .int .i64 t772] (fun k_ => k_ ≠ gb762) (fun _ => False) rfl rfl ?aP (fun _ hk => hk.elim) ?aF ?aO ?aB ?aS ?aL ?_; (case aP => exact k47_mkM _ _ _ (⟨t774, t772⟩ : S47)); (case aB => exact (by repeat (first | (with_reducible first | exact HB.out | apply cA | apply cN | apply cD | refine cS ?_ GE757.out | refine cS ?_ GE758.out | refine cS ?_ GE762.out) | exact HB.out))); (case aF => exact (fun k_ hk => Kd.freshB (g := gb762) (o := .cells #[.int .i64 t759, .int .i64 t760] 47 (0, 0)) (by (with_reducible repeat (first | apply bN | apply bD | apply bA)); exact BK762.out) k_ hk)); (case aO => exact (by (with_reducible repeat (first | apply Kd.R_alloc | apply Kd.R_drewN | apply Kd.R_drew)); exact HO_7.out)); (case aS => exact (cZ (by repeat (first | (with_reducible first | exact HB.out | apply cA | apply cN | apply cD | refine cS ?_ GE757.out | refine cS ?_ GE758.out | refine cS ?_ GE762.out) | exact HB.out)))); (case aL => have := LMc45.out; omega); intro v776 w53 ho hb hg hat; rw [← Ny775.out] at ho; have n0_ := Aside0.mk (blk_grown (g := gb757) (o := .cells #[.int .i64 a0_0, .int .i64 a0_1, .int .i64 a0_2, .slice (some ad769) l0_3.length c0_3] 45 (0, 0)) (by (with_reducible repeat (first | apply bN | apply bD | apply bA)); exact BK757.out) hg (Kd.R_ne HO_7.out BK757.out (by decide))); have n1_ := Aside0.mk (blk_grown (g := gb758) (o := .cells #[.int .i64 a1_0, .int .i64 a1_1, .int .i64 a1_2, .int .i64 a1_3, .int .i64 a1_4, .int .i64 a1_5] 57 (0, 0)) (by (with_reducible repeat (first | apply bN | apply bD | apply bA)); exact BK758.out) hg (Kd.R_ne HO_7.out BK758.out (by decide))); have n2_ := Aside0.mk (blk_grown (g := gb762) (o := .cells #[.int .i64 t759, .int .i64 t760] 47 (0, 0)) (by (with_reducible repeat (first | apply bN | apply bD | apply bA)); exact BK762.out) hg (Kd.R_away HO_7.out (fun _ hk => hk))); have n3_ := Aside0.mk (hb); have n4_ := Aside0.mk (ho); clear BK757; clear BK758; clear BK762; clear HB; clear HO_7; have BK757 := n0_; have BK758 := n1_; have BK762 := n2_; have HB := n3_; have HO777 := n4_; clear n0_ n1_ n2_ n3_ n4_; clear ho hb hg hat))
                                  go_roundg kj20
                                  case measure => have := HJ3.out; have := HK2.out; have := HJ20.out; omega
                                  case rel => exact ⟨(y775), (wrap64 (x8_2 + 1)), (by first | rfl | (simp; done) | (simp [*]; done)), H', ⟨by have := HJ3.out; have := HK2.out; have := HJ20.out; omega⟩, ⟨by (with_reducible repeat (first | apply Kd.R_alloc | apply Kd.R_drewN | apply Kd.R_drew)); exact HO777.out⟩, ⟨by (with_reducible repeat (first | apply bN | apply bD | apply bA)); exact BK757.out⟩, ⟨by (with_reducible repeat (first | apply bN | apply bD | apply bA)); exact BK758.out⟩, ⟨by (with_reducible repeat (first | apply bN | apply bD | apply bA)); exact BK762.out⟩, ⟨by repeat (first | (with_reducible first | exact HB.out | apply cA | apply cN | apply cD | refine cS ?_ GE757.out | refine cS ?_ GE758.out | refine cS ?_ GE762.out) | exact HB.out)⟩⟩
                                rw [if_neg c45] at H
                                exact absurd H (by simp)
                              rw [if_neg c44] at H
                              have c44b0 : decide (t774 < t772) = false := decide_eq_false c44
                              clear c44
                              by_cases c54 : x7_2.length < 8796093022208
                              · rw [if_pos c54] at H
                                have LMc54 := Aside0.mk c54
                                clear c54
                                obtain ⟨y778, hy778⟩ : ∃ y_ : List (S47), y_ = (x7_2 ++ [(⟨t772, t774⟩ : S47)]) := ⟨_, rfl⟩
                                replace H : (damasklaw05_SpanGrows.l0 kj20 y778 (wrap64 (x8_2 + 1)) a0_0 a0_1 a0_2 l0_3 a1_0 a1_1 a1_2 a1_3 a1_4 a1_5 t759 t760) = some r := by first | (rw [hy778]; with_reducible exact H) | (have H2_ := (Option.bind_some _ _).symm.trans H; rw [hy778]; with_reducible exact H2_) | (have H2_ := (Option.bind_some _ _).symm.trans H; with_reducible exact H2_) | with_reducible exact H | (rw [hy778]; exact H) | exact H
                                have Ny778 := Aside0.mk hy778
                                clear hy778
                                have H' := Aside0.mk H
                                clear H
                                have hnb55 := NB757_758.out
                                have hnc55 := NB758_757.out
                                have hnb56 := NB757_762.out
                                have hnc56 := NB762_757.out
                                have hcz57_0 : wc.cell? ⟨gb757, 0, none⟩ = some (.int .i64 a0_0) := (bC BK757.out 0).trans rfl
                                have hcz57_1 : wc.cell? ⟨gb757, 1, none⟩ = some (.int .i64 a0_1) := (bC BK757.out 1).trans rfl
                                have hcz57_2 : wc.cell? ⟨gb757, 2, none⟩ = some (.int .i64 a0_2) := (bC BK757.out 2).trans rfl
                                have hcz57_3 : wc.cell? ⟨gb757, 3, none⟩ = some (.slice A0_3 l0_3.length c0_3) := (bC BK757.out 3).trans rfl
                                have hfz57_0 := bZ BK757.out 0
                                have hfz57_1 := bZ BK757.out 1
                                have hfz57_2 := bZ BK757.out 2
                                have hfz57_3 := bZ BK757.out 3
                                have p769 : 0 ≤ (x8_2 : Int) := of_decide_eq_true (by first | (with_reducible assumption) | assumption)
                                have q769 : x8_2 < (l0_3.length : Int) := of_decide_eq_true (by first | (with_reducible assumption) | assumption)
                                obtain ⟨ad769, e769, hx769_0, hx769_1⟩ := at_T47 HR0_3.out x8_2 p769 q769
                                cases e769
                                replace hx769_0 := (HB.out.cell (wB w hx769_0)).trans hx769_0
                                replace hx769_1 := (HB.out.cell (wB w hx769_1)).trans hx769_1
                                replace p769 := eq_true p769
                                replace q769 := eq_true q769
                                try go_wp2_with (first | ((with_reducible refine gate_callee (f := 31) rfl ?_); refine goesL_ (some 48) rfl rfl Try.func31 (by kernel_rfl) rfl #[.agg #[.int .i64 ((rd_T47 l0_3 x8_2).f0), .int .i64 ((rd_T47 l0_3 x8_2).f1)]] rfl (by (try simp only [List.map_toArray, List.map_cons, List.map_nil]); first | done | rfl | (simp only [List.length_drop, List.length_take]; rfl)) ?_; (with_reducible refine (damaskref05_Whole.calls ((rd_T47 l0_3 x8_2).f0) ((rd_T47 l0_3 x8_2).f1) true _ A32.out).mono ?_); rintro e w58 ⟨rfl, hb⟩; refine ⟨_, rfl, ?_⟩; have n0_ := Aside0.mk (Kd.R_below (by (with_reducible repeat (first | apply Kd.R_alloc | apply Kd.R_drewN | apply Kd.R_drew)); exact HO_7.out) hb); have n1_ := Aside0.mk (bB (g := gb757) (o := .cells #[.int .i64 a0_0, .int .i64 a0_1, .int .i64 a0_2, .slice (some ad769) l0_3.length c0_3] 45 (0, 0)) (by (with_reducible repeat (first | apply bN | apply bD | apply bA)); exact BK757.out) hb); have n2_ := Aside0.mk (bB (g := gb758) (o := .cells #[.int .i64 a1_0, .int .i64 a1_1, .int .i64 a1_2, .int .i64 a1_3, .int .i64 a1_4, .int .i64 a1_5] 57 (0, 0)) (by (with_reducible repeat (first | apply bN | apply bD | apply bA)); exact BK758.out) hb); have n3_ := Aside0.mk (bB (g := gb762) (o := .cells #[.int .i64 t759, .int .i64 t760] 47 (0, 0)) (by (with_reducible repeat (first | apply bN | apply bD | apply bA)); exact BK762.out) hb); have n4_ := Aside0.mk (cT (by repeat (first | (with_reducible first | exact HB.out | apply cA | apply cN | apply cD | refine cS ?_ GE757.out | refine cS ?_ GE758.out | refine cS ?_ GE762.out) | exact HB.out)) hb); clear HO_7; clear BK757; clear BK758; clear BK762; clear HB; have HO_7 := n0_; have BK757 := n1_; have BK758 := n2_; have BK762 := n3_; have HB := n4_; clear n0_ n1_ n2_ n3_ n4_; (try clear hb); (try clear hb2); (try clear hk); (try clear hi)))
                                have n0_ := Aside0.mk (Kd.R_drew HO_7.out)
                                have n1_ := Aside0.mk (bD BK757.out)
                                have n2_ := Aside0.mk (bD BK758.out)
                                have n3_ := Aside0.mk (bD BK762.out)
                                have n4_ := Aside0.mk (cD HB.out)
                                clear HO_7
                                clear BK757
                                clear BK758
                                clear BK762
                                clear HB
                                have HO_7 := n0_
                                have BK757 := n1_
                                have BK758 := n2_
                                have BK762 := n3_
                                have HB := n4_
                                clear n0_ n1_ n2_ n3_ n4_
                                have p771 : 0 ≤ (x8_2 : Int) := of_decide_eq_true (by first | (with_reducible assumption) | assumption)
                                have q771 : x8_2 < (l0_3.length : Int) := of_decide_eq_true (by first | (with_reducible assumption) | assumption)
                                obtain ⟨ad771, e771, hx771_0, hx771_1⟩ := at_T47 HR0_3.out x8_2 p771 q771
                                have hw771_1 := hx771_1
                                have hw771_0 := hx771_0
                                obtain rfl : ad769 = ad771 := (by injection e771)
                                replace hx771_0 := (HB.out.cell (wB w hx771_0)).trans hx771_0
                                replace hx771_1 := (HB.out.cell (wB w hx771_1)).trans hx771_1
                                replace p771 := eq_true p771
                                replace q771 := eq_true q771
                                have p37 : 0 ≤ ((ji34) : Int) := of_decide_eq_true (by first | (with_reducible assumption) | assumption)
                                have q37 : ((ji34) : Int) < (6 : Int) := of_decide_eq_true (by first | (with_reducible assumption) | assumption)
                                have hk37 := Aside0.mk (Op.rd_cell (k := .i64) ([a1_0, a1_1, a1_2, a1_3, a1_4, a1_5] : List Int) (ji34) p37 q37)
                                replace p37 := eq_true p37
                                replace q37 := eq_true q37
                                have p773 : 0 ≤ (x8_2 : Int) := of_decide_eq_true (by first | (with_reducible assumption) | assumption)
                                have q773 : x8_2 < (l0_3.length : Int) := of_decide_eq_true (by first | (with_reducible assumption) | assumption)
                                obtain ⟨ad773, e773, hx773_0, hx773_1⟩ := at_T47 HR0_3.out x8_2 p773 q773
                                have hw773_1 := hx773_1
                                have hw773_0 := hx773_0
                                obtain rfl : ad769 = ad773 := (by injection e773)
                                replace hx773_0 := (HB.out.cell (wB w hx773_0)).trans hx773_0
                                replace hx773_1 := (HB.out.cell (wB w hx773_1)).trans hx773_1
                                replace p773 := eq_true p773
                                replace q773 := eq_true q773
                                have p42 : 0 ≤ ((ji39) : Int) := of_decide_eq_true (by first | (with_reducible assumption) | assumption)
                                have q42 : ((ji39) : Int) < (6 : Int) := of_decide_eq_true (by first | (with_reducible assumption) | assumption)
                                have hk42 := Aside0.mk (Op.rd_cell (k := .i64) ([a1_0, a1_1, a1_2, a1_3, a1_4, a1_5] : List Int) (ji39) p42 q42)
                                replace p42 := eq_true p42
                                replace q42 := eq_true q42
                                refine start_ (n := 23) (S := fun w' => w'.cell? ⟨gb757, 0, none⟩ = some (.int .i64 a0_0) ∧ w'.cell? ⟨gb757, 1, none⟩ = some (.int .i64 a0_1) ∧ w'.cell? ⟨gb757, 2, none⟩ = some (.int .i64 a0_2) ∧ w'.cell? ⟨gb757, 3, none⟩ = some (.slice (some ad769) l0_3.length c0_3) ∧ w'.cell? ⟨gb758, 0, none⟩ = some (.int .i64 a1_0) ∧ w'.cell? ⟨gb758, 1, none⟩ = some (.int .i64 a1_1) ∧ w'.cell? ⟨gb758, 2, none⟩ = some (.int .i64 a1_2) ∧ w'.cell? ⟨gb758, 3, none⟩ = some (.int .i64 a1_3) ∧ w'.cell? ⟨gb758, 4, none⟩ = some (.int .i64 a1_4) ∧ w'.cell? ⟨gb758, 5, none⟩ = some (.int .i64 a1_5) ∧ w'.cell? (ad769.add ((x8_2).toNat * 2)) = some (.int .i64 ((rd_T47 l0_3 x8_2).f0)) ∧ w'.cell? ⟨(ad769.add ((x8_2).toNat * 2)).block, (ad769.add ((x8_2).toNat * 2)).off + 1, none⟩ = some (.int .i64 ((rd_T47 l0_3 x8_2).f1)) ∧ w'.cell? ⟨gb758, ((ji34) : Int).toNat, none⟩ = some (.int .i64 (rd ([a1_0, a1_1, a1_2, a1_3, a1_4, a1_5] : List Int) (ji34))) ∧ w'.cell? (ad769.add ((x8_2).toNat * 2)) = some (.int .i64 ((rd_T47 l0_3 x8_2).f0)) ∧ w'.cell? ⟨(ad769.add ((x8_2).toNat * 2)).block, (ad769.add ((x8_2).toNat * 2)).off + 1, none⟩ = some (.int .i64 ((rd_T47 l0_3 x8_2).f1)) ∧ w'.cell? ⟨gb758, ((ji39) : Int).toNat, none⟩ = some (.int .i64 (rd ([a1_0, a1_1, a1_2, a1_3, a1_4, a1_5] : List Int) (ji39)))) (ds := []) #[false, false, false, false, false, false, false, false, false, false, false, false, false, false, false, false, false, false, false, false, false, false, false] (by kernel_rfl) rfl rfl ⟨(bC BK757.out 0).trans rfl, (bC BK757.out 1).trans rfl, (bC BK757.out 2).trans rfl, (bC BK757.out 3).trans rfl, (bC BK758.out 0).trans rfl, (bC BK758.out 1).trans rfl, (bC BK758.out 2).trans rfl, (bC BK758.out 3).trans rfl, (bC BK758.out 4).trans rfl, (bC BK758.out 5).trans rfl, ((HB.out.cell (wB w hw771_0)).trans hw771_0), ((HB.out.cell (wB w hw771_1)).trans hw771_1), ((bC BK758.out _).trans hk37.out), ((HB.out.cell (wB w hw773_0)).trans hw773_0), ((HB.out.cell (wB w hw773_1)).trans hw773_1), ((bC BK758.out _).trans hk42.out)⟩ (fun hHeld => ?_); refine with_tabW damasklaw05_SpanGrows.tab10 damasklaw05_SpanGrows.bits10 (fun HT_ HW_ => ?_)
                                generalize w58.drew = w59 at HO_7 BK757 BK758 BK762 HB hx771_0 hx771_1 hx773_0 hx773_1 hHeld ⊢
                                refine pure_ (i := 0) (N := some 50) (v := ?_) (a' := ?_) #[true, false, false, false, false, false, false, false, false, false, false, false, false, false, false, false, false, false, false, false, false, false, false] rfl rfl (any_of HT_.out (by kernel_rfl)) (fun _ _ _ h => h) (Or.inl ⟨by rfl, ?_⟩) ?_ ?_
                                rotate_left
                                · intro w'
                                  go_simp
                                  with_reducible rfl
                                rotate_left
                                · simp only [Act.put, List.setIfInBounds_toArray, List.set_cons_zero, List.set_cons_succ, i64_w, i32_w]
                                  rfl
                                refine pure_ (i := 2) (N := some 52) (v := ?_) (a' := ?_) #[true, false, true, false, false, false, false, false, false, false, false, false, false, false, false, false, false, false, false, false, false, false, false] rfl rfl (any_of HT_.out (by kernel_rfl)) (fun _ _ _ h => h) (Or.inl ⟨by rfl, ?_⟩) ?_ ?_
                                rotate_left
                                · intro w'
                                  go_simp
                                  with_reducible rfl
                                rotate_left
                                · simp only [Act.put, List.setIfInBounds_toArray, List.set_cons_zero, List.set_cons_succ, i64_w, i32_w]
                                  rfl
                                refine pure_ (i := 5) (N := some 55) (v := ?_) (a' := ?_) #[true, false, true, false, false, true, false, false, false, false, false, false, false, false, false, false, false, false, false, false, false, false, false] rfl rfl (any_of HT_.out (by kernel_rfl)) (fun _ _ _ h => h) (Or.inl ⟨by rfl, ?_⟩) ?_ ?_
                                rotate_left
                                · intro w'
                                  go_simp
                                  with_reducible rfl
                                rotate_left
                                · simp only [Act.put, List.setIfInBounds_toArray, List.set_cons_zero, List.set_cons_succ, i64_w, i32_w]
                                  rfl
                                refine pure_ (i := 6) (N := some 56) (v := ?_) (a' := ?_) #[true, false, true, false, false, true, true, false, false, false, false, false, false, false, false, false, false, false, false, false, false, false, false] rfl rfl (any_of HT_.out (by kernel_rfl)) (fun _ _ _ h => h) (Or.inl ⟨by rfl, ?_⟩) ?_ ?_
                                rotate_left
                                · intro w'
                                  go_simp
                                  with_reducible rfl
                                rotate_left
                                · simp only [Act.put, List.setIfInBounds_toArray, List.set_cons_zero, List.set_cons_succ, i64_w, i32_w]
                                  rfl
                                refine pure_ (i := 7) (N := some 57) (v := ?_) (a' := ?_) #[true, false, true, false, false, true, true, true, false, false, false, false, false, false, false, false, false, false, false, false, false, false, false] rfl rfl (any_of HT_.out (by kernel_rfl)) (fun _ _ _ h => h) (Or.inl ⟨by rfl, ?_⟩) ?_ ?_
                                rotate_left
                                · intro w'
                                  go_simp
                                  with_reducible rfl
                                rotate_left
                                · simp only [Act.put, List.setIfInBounds_toArray, List.set_cons_zero, List.set_cons_succ, i64_w, i32_w]
                                  rfl
                                refine pure_ (i := 10) (N := some 60) (v := ?_) (a' := ?_) #[true, false, true, false, false, true, true, true, false, false, true, false, false, false, false, false, false, false, false, false, false, false, false] rfl rfl (any_of HT_.out (by kernel_rfl)) (fun _ _ _ h => h) (Or.inl ⟨by rfl, ?_⟩) ?_ ?_
                                rotate_left
                                · intro w'
                                  go_simp
                                  with_reducible rfl
                                rotate_left
                                · simp only [Act.put, List.setIfInBounds_toArray, List.set_cons_zero, List.set_cons_succ, i64_w, i32_w]
                                  rfl
                                refine pure_ (i := 12) (N := some 62) (v := ?_) (a' := ?_) #[true, false, true, false, false, true, true, true, false, false, true, false, true, false, false, false, false, false, false, false, false, false, false] rfl rfl (any_of HT_.out (by kernel_rfl)) (fun _ _ _ h => h) (Or.inl ⟨by rfl, ?_⟩) ?_ ?_
                                rotate_left
                                · intro w'
                                  go_simp
                                  with_reducible rfl
                                rotate_left
                                · simp only [Act.put, List.setIfInBounds_toArray, List.set_cons_zero, List.set_cons_succ, i64_w, i32_w]
                                  rfl
                                refine pure_ (i := 15) (N := some 65) (v := ?_) (a' := ?_) #[true, false, true, false, false, true, true, true, false, false, true, false, true, false, false, true, false, false, false, false, false, false, false] rfl rfl (any_of HT_.out (by kernel_rfl)) (fun _ _ _ h => h) (Or.inl ⟨by rfl, ?_⟩) ?_ ?_
                                rotate_left
                                · intro w'
                                  go_simp
                                  with_reducible rfl
                                rotate_left
                                · simp only [Act.put, List.setIfInBounds_toArray, List.set_cons_zero, List.set_cons_succ, i64_w, i32_w]
                                  rfl
                                refine pure_ (i := 16) (N := some 66) (v := ?_) (a' := ?_) #[true, false, true, false, false, true, true, true, false, false, true, false, true, false, false, true, true, false, false, false, false, false, false] rfl rfl (any_of HT_.out (by kernel_rfl)) (fun _ _ _ h => h) (Or.inl ⟨by rfl, ?_⟩) ?_ ?_
                                rotate_left
                                · intro w'
                                  go_simp
                                  with_reducible rfl
                                rotate_left
                                · simp only [Act.put, List.setIfInBounds_toArray, List.set_cons_zero, List.set_cons_succ, i64_w, i32_w]
                                  rfl
                                refine pure_ (i := 17) (N := some 67) (v := ?_) (a' := ?_) #[true, false, true, false, false, true, true, true, false, false, true, false, true, false, false, true, true, true, false, false, false, false, false] rfl rfl (any_of HT_.out (by kernel_rfl)) (fun _ _ _ h => h) (Or.inl ⟨by rfl, ?_⟩) ?_ ?_
                                rotate_left
                                · intro w'
                                  go_simp
                                  with_reducible rfl
                                rotate_left
                                · simp only [Act.put, List.setIfInBounds_toArray, List.set_cons_zero, List.set_cons_succ, i64_w, i32_w]
                                  rfl
                                refine pure_ (i := 18) (N := some 68) (v := ?_) (a' := ?_) #[true, false, true, false, false, true, true, true, false, false, true, false, true, false, false, true, true, true, true, false, false, false, false] rfl rfl (any_of HT_.out (by kernel_rfl)) (fun _ _ _ h => h) (Or.inl ⟨by rfl, ?_⟩) ?_ ?_
                                rotate_left
                                · intro w'
                                  go_simp
                                  with_reducible rfl
                                rotate_left
                                · simp only [Act.put, List.setIfInBounds_toArray, List.set_cons_zero, List.set_cons_succ, i64_w, i32_w]
                                  rfl
                                refine take_ (i := 1) (N := some 51) (v := ?_) (a' := ?_) #[true, true, true, false, false, true, true, true, false, false, true, false, true, false, false, true, true, true, true, false, false, false, false] rfl rfl (take_ofW HT_.out HW_.out (by kernel_rfl)) (fun _ _ _ h => h) (Or.inl ⟨by rfl, ?_⟩) hHeld ?_ ?_
                                rotate_left
                                · rintro w' ⟨s0, s1, s2, s3, s4, s5, s6, s7, s8, s9, s10, s11, s12, s13, s14, s15⟩
                                  go_simp
                                  with_reducible rfl
                                rotate_left
                                · simp only [Act.put, List.setIfInBounds_toArray, List.set_cons_zero, List.set_cons_succ, i64_w, i32_w]
                                  rfl
                                refine pure_ (i := 3) (N := some 53) (v := ?_) (a' := ?_) #[true, true, true, true, false, true, true, true, false, false, true, false, true, false, false, true, true, true, true, false, false, false, false] rfl rfl (any_of HT_.out (by kernel_rfl)) (fun _ _ _ h => h) (Or.inl ⟨by rfl, ?_⟩) ?_ ?_
                                rotate_left
                                · intro w'
                                  go_simp
                                  with_reducible rfl
                                rotate_left
                                · simp only [Act.put, List.setIfInBounds_toArray, List.set_cons_zero, List.set_cons_succ, i64_w, i32_w]
                                  rfl
                                refine take_ (i := 4) (N := some 54) (v := ?_) (a' := ?_) #[true, true, true, true, true, true, true, true, false, false, true, false, true, false, false, true, true, true, true, false, false, false, false] rfl rfl (take_ofW HT_.out HW_.out (by kernel_rfl)) (fun _ _ _ h => h) (Or.inl ⟨by rfl, ?_⟩) hHeld ?_ ?_
                                rotate_left
                                · rintro w' ⟨s0, s1, s2, s3, s4, s5, s6, s7, s8, s9, s10, s11, s12, s13, s14, s15⟩
                                  go_simp
                                  with_reducible rfl
                                rotate_left
                                · simp only [Act.put, List.setIfInBounds_toArray, List.set_cons_zero, List.set_cons_succ, i64_w, i32_w]
                                  rfl
                                refine take_ (i := 8) (N := some 58) (v := ?_) (a' := ?_) #[true, true, true, true, true, true, true, true, true, false, true, false, true, false, false, true, true, true, true, false, false, false, false] rfl rfl (take_ofW HT_.out HW_.out (by kernel_rfl)) (fun _ _ _ h => h) (Or.inl ⟨by rfl, ?_⟩) hHeld ?_ ?_
                                rotate_left
                                · rintro w' ⟨s0, s1, s2, s3, s4, s5, s6, s7, s8, s9, s10, s11, s12, s13, s14, s15⟩
                                  go_simp
                                  with_reducible rfl
                                rotate_left
                                · simp only [Act.put, List.setIfInBounds_toArray, List.set_cons_zero, List.set_cons_succ, i64_w, i32_w]
                                  rfl
                                refine take_ (i := 11) (N := some 61) (v := ?_) (a' := ?_) #[true, true, true, true, true, true, true, true, true, false, true, true, true, false, false, true, true, true, true, false, false, false, false] rfl rfl (take_ofW HT_.out HW_.out (by kernel_rfl)) (fun _ _ _ h => h) (Or.inl ⟨by rfl, ?_⟩) hHeld ?_ ?_
                                rotate_left
                                · rintro w' ⟨s0, s1, s2, s3, s4, s5, s6, s7, s8, s9, s10, s11, s12, s13, s14, s15⟩
                                  go_simp
                                  with_reducible rfl
                                rotate_left
                                · simp only [Act.put, List.setIfInBounds_toArray, List.set_cons_zero, List.set_cons_succ, i64_w, i32_w]
                                  rfl
                                refine pure_ (i := 13) (N := some 63) (v := ?_) (a' := ?_) #[true, true, true, true, true, true, true, true, true, false, true, true, true, true, false, true, true, true, true, false, false, false, false] rfl rfl (any_of HT_.out (by kernel_rfl)) (fun _ _ _ h => h) (Or.inl ⟨by rfl, ?_⟩) ?_ ?_
                                rotate_left
                                · intro w'
                                  go_simp
                                  with_reducible rfl
                                rotate_left
                                · simp only [Act.put, List.setIfInBounds_toArray, List.set_cons_zero, List.set_cons_succ, i64_w, i32_w]
                                  rfl
                                refine take_ (i := 14) (N := some 64) (v := ?_) (a' := ?_) #[true, true, true, true, true, true, true, true, true, false, true, true, true, true, true, true, true, true, true, false, false, false, false] rfl rfl (take_ofW HT_.out HW_.out (by kernel_rfl)) (fun _ _ _ h => h) (Or.inl ⟨by rfl, ?_⟩) hHeld ?_ ?_
                                rotate_left
                                · rintro w' ⟨s0, s1, s2, s3, s4, s5, s6, s7, s8, s9, s10, s11, s12, s13, s14, s15⟩
                                  go_simp
                                  with_reducible rfl
                                rotate_left
                                · simp only [Act.put, List.setIfInBounds_toArray, List.set_cons_zero, List.set_cons_succ, i64_w, i32_w]
                                  rfl
                                refine take_ (i := 19) (N := some 69) (v := ?_) (a' := ?_) #[true, true, true, true, true, true, true, true, true, false, true, true, true, true, true, true, true, true, true, true, false, false, false] rfl rfl (take_ofW HT_.out HW_.out (by kernel_rfl)) (fun _ _ _ h => h) (Or.inl ⟨by rfl, ?_⟩) hHeld ?_ ?_
                                rotate_left
                                · rintro w' ⟨s0, s1, s2, s3, s4, s5, s6, s7, s8, s9, s10, s11, s12, s13, s14, s15⟩
                                  go_simp
                                  with_reducible rfl
                                rotate_left
                                · simp only [Act.put, List.setIfInBounds_toArray, List.set_cons_zero, List.set_cons_succ, i64_w, i32_w]
                                  rfl
                                refine one_ (i := 9) (N := some 59) #[true, true, true, true, true, true, true, true, true, true, true, true, true, true, true, true, true, true, true, true, false, false, false] rfl rfl (one_of HT_.out (by kernel_rfl)) (by decide) (fun K hK => ?_)
                                refine goes_ Try.func34 (by kernel_rfl) rfl #[.agg #[.int .i64 ((rd_T47 l0_3 x8_2).f0), .int .i64 ((rd_T47 l0_3 x8_2).f1)], .int .i64 (rd ([a1_0, a1_1, a1_2, a1_3, a1_4, a1_5] : List Int) (ji34))] (by rfl) rfl rfl (by (try simp only [List.map_toArray, List.map_cons, List.map_nil]); first | done | (simp only [hji34]; rfl) | rfl | (simp only [List.length_drop, List.length_take]; rfl)) ?_
                                with_reducible refine (damasklaw05_point.calls ((rd_T47 l0_3 x8_2).f0) ((rd_T47 l0_3 x8_2).f1) (rd ([a1_0, a1_1, a1_2, a1_3, a1_4, a1_5] : List Int) (ji34)) t772 _ A38.out).mono ?_
                                rintro e w60 ⟨rfl, hb⟩
                                refine ⟨_, rfl, ?_⟩
                                have n0_ := Aside0.mk (Kd.R_below (by (with_reducible repeat (first | apply Kd.R_alloc | apply Kd.R_drewN | apply Kd.R_drew)); exact HO_7.out) hb)
                                have n1_ := Aside0.mk (bB (g := gb757) (o := .cells #[.int .i64 a0_0, .int .i64 a0_1, .int .i64 a0_2, .slice (some ad769) l0_3.length c0_3] 45 (0, 0)) (by (with_reducible repeat (first | apply bN | apply bD | apply bA)); exact BK757.out) hb)
                                have n2_ := Aside0.mk (bB (g := gb758) (o := .cells #[.int .i64 a1_0, .int .i64 a1_1, .int .i64 a1_2, .int .i64 a1_3, .int .i64 a1_4, .int .i64 a1_5] 57 (0, 0)) (by (with_reducible repeat (first | apply bN | apply bD | apply bA)); exact BK758.out) hb)
                                have n3_ := Aside0.mk (bB (g := gb762) (o := .cells #[.int .i64 t759, .int .i64 t760] 47 (0, 0)) (by (with_reducible repeat (first | apply bN | apply bD | apply bA)); exact BK762.out) hb)
                                have n4_ := Aside0.mk (cT (by repeat (first | (with_reducible first | exact HB.out | apply cA | apply cN | apply cD | refine cS ?_ GE757.out | refine cS ?_ GE758.out | refine cS ?_ GE762.out) | exact HB.out)) hb)
                                clear HO_7
                                clear BK757
                                clear BK758
                                clear BK762
                                clear HB
                                have HO_7 := n0_
                                have BK757 := n1_
                                have BK758 := n2_
                                have BK762 := n3_
                                have HB := n4_
                                clear n0_ n1_ n2_ n3_ n4_
                                (try clear hb)
                                (try clear hb2)
                                (try clear hk)
                                (try clear hi)
                                refine hK.out _ _ ⟨(bC BK757.out 0).trans rfl, (bC BK757.out 1).trans rfl, (bC BK757.out 2).trans rfl, (bC BK757.out 3).trans rfl, (bC BK758.out 0).trans rfl, (bC BK758.out 1).trans rfl, (bC BK758.out 2).trans rfl, (bC BK758.out 3).trans rfl, (bC BK758.out 4).trans rfl, (bC BK758.out 5).trans rfl, ((HB.out.cell (wB w hw771_0)).trans hw771_0), ((HB.out.cell (wB w hw771_1)).trans hw771_1), ((bC BK758.out _).trans hk37.out), ((HB.out.cell (wB w hw773_0)).trans hw773_0), ((HB.out.cell (wB w hw773_1)).trans hw773_1), ((bC BK758.out _).trans hk42.out)⟩ (fun hHeld => ?_)
                                clear hK K
                                refine norm_ (a' := ?_) ?_ ?_
                                rotate_left
                                · show Act.put _ (some 59) _ = _
                                  simp only [Act.put, List.setIfInBounds_toArray, List.set_cons_zero, List.set_cons_succ, i64_w, i32_w]
                                  rfl
                                refine one_ (i := 20) (N := some 70) #[true, true, true, true, true, true, true, true, true, true, true, true, true, true, true, true, true, true, true, true, true, false, false] rfl rfl (one_of HT_.out (by kernel_rfl)) (by decide) (fun K hK => ?_)
                                refine goes_ Try.func34 (by kernel_rfl) rfl #[.agg #[.int .i64 ((rd_T47 l0_3 x8_2).f0), .int .i64 ((rd_T47 l0_3 x8_2).f1)], .int .i64 (rd ([a1_0, a1_1, a1_2, a1_3, a1_4, a1_5] : List Int) (ji39))] (by rfl) rfl rfl (by (try simp only [List.map_toArray, List.map_cons, List.map_nil]); first | done | (simp only [hji39]; rfl) | rfl | (simp only [List.length_drop, List.length_take]; rfl)) ?_
                                with_reducible refine (damasklaw05_point.calls ((rd_T47 l0_3 x8_2).f0) ((rd_T47 l0_3 x8_2).f1) (rd ([a1_0, a1_1, a1_2, a1_3, a1_4, a1_5] : List Int) (ji39)) t774 _ A43.out).mono ?_
                                rintro e w61 ⟨rfl, hb⟩
                                refine ⟨_, rfl, ?_⟩
                                have n0_ := Aside0.mk (Kd.R_below (by (with_reducible repeat (first | apply Kd.R_alloc | apply Kd.R_drewN | apply Kd.R_drew)); exact HO_7.out) hb)
                                have n1_ := Aside0.mk (bB (g := gb757) (o := .cells #[.int .i64 a0_0, .int .i64 a0_1, .int .i64 a0_2, .slice (some ad769) l0_3.length c0_3] 45 (0, 0)) (by (with_reducible repeat (first | apply bN | apply bD | apply bA)); exact BK757.out) hb)
                                have n2_ := Aside0.mk (bB (g := gb758) (o := .cells #[.int .i64 a1_0, .int .i64 a1_1, .int .i64 a1_2, .int .i64 a1_3, .int .i64 a1_4, .int .i64 a1_5] 57 (0, 0)) (by (with_reducible repeat (first | apply bN | apply bD | apply bA)); exact BK758.out) hb)
                                have n3_ := Aside0.mk (bB (g := gb762) (o := .cells #[.int .i64 t759, .int .i64 t760] 47 (0, 0)) (by (with_reducible repeat (first | apply bN | apply bD | apply bA)); exact BK762.out) hb)
                                have n4_ := Aside0.mk (cT (by repeat (first | (with_reducible first | exact HB.out | apply cA | apply cN | apply cD | refine cS ?_ GE757.out | refine cS ?_ GE758.out | refine cS ?_ GE762.out) | exact HB.out)) hb)
                                clear HO_7
                                clear BK757
                                clear BK758
                                clear BK762
                                clear HB
                                have HO_7 := n0_
                                have BK757 := n1_
                                have BK758 := n2_
                                have BK762 := n3_
                                have HB := n4_
                                clear n0_ n1_ n2_ n3_ n4_
                                (try clear hb)
                                (try clear hb2)
                                (try clear hk)
                                (try clear hi)
                                refine hK.out _ _ ⟨(bC BK757.out 0).trans rfl, (bC BK757.out 1).trans rfl, (bC BK757.out 2).trans rfl, (bC BK757.out 3).trans rfl, (bC BK758.out 0).trans rfl, (bC BK758.out 1).trans rfl, (bC BK758.out 2).trans rfl, (bC BK758.out 3).trans rfl, (bC BK758.out 4).trans rfl, (bC BK758.out 5).trans rfl, ((HB.out.cell (wB w hw771_0)).trans hw771_0), ((HB.out.cell (wB w hw771_1)).trans hw771_1), ((bC BK758.out _).trans hk37.out), ((HB.out.cell (wB w hw773_0)).trans hw773_0), ((HB.out.cell (wB w hw773_1)).trans hw773_1), ((bC BK758.out _).trans hk42.out)⟩ (fun hHeld => ?_)
                                clear hK K
                                refine norm_ (a' := ?_) ?_ ?_
                                rotate_left
                                · show Act.put _ (some 70) _ = _
                                  simp only [Act.put, List.setIfInBounds_toArray, List.set_cons_zero, List.set_cons_succ, i64_w, i32_w]
                                  rfl
                                refine pure_ (i := 21) (N := some 9) (v := ?_) (a' := ?_) #[true, true, true, true, true, true, true, true, true, true, true, true, true, true, true, true, true, true, true, true, true, true, false] rfl rfl (any_of HT_.out (by kernel_rfl)) (fun _ _ _ h => h) (Or.inl ⟨by rfl, ?_⟩) ?_ ?_
                                rotate_left
                                · intro w'
                                  go_simp
                                  with_reducible rfl
                                rotate_left
                                · simp only [Act.put, List.setIfInBounds_toArray, List.set_cons_zero, List.set_cons_succ, i64_w, i32_w]
                                  rfl
                                refine pure_ (i := 22) (N := some 10) (v := ?_) (a' := ?_) #[true, true, true, true, true, true, true, true, true, true, true, true, true, true, true, true, true, true, true, true, true, true, true] rfl rfl (any_of HT_.out (by kernel_rfl)) (fun _ _ _ h => h) (Or.inl ⟨by rfl, ?_⟩) ?_ ?_
                                rotate_left
                                · intro w'
                                  go_simp
                                  with_reducible rfl
                                rotate_left
                                · simp only [Act.put, List.setIfInBounds_toArray, List.set_cons_zero, List.set_cons_succ, i64_w, i32_w]
                                  rfl
                                refine done_ (done_of HT_.out (by kernel_rfl)) ?_
                                try go_wp2_with (first | ((with_reducible refine gate_builtin (b := .append) (xs := #[.tmp 76, .tmp 80]) rfl ?_); at_builtin; refine Kd.R_append k47 (w0 := w) w.heap.size rfl (.tmp 76) (.tmp 80) 43 47 (.agg #[(.int .i64 0), (.int .i64 0)]) 16 rfl Try.underlying43 info47 rfl (by decide) (by omega) u7 x7_2 (⟨t772, t774⟩ : S47) [.int .i64 t772, .int .i64 t774] (fun k_ => k_ ≠ gb762) (fun _ => False) rfl rfl ?aP (fun _ hk => hk.elim) ?aF ?aO ?aB ?aS ?aL ?_; (case aP => exact k47_mkM _ _ _ (⟨t772, t774⟩ : S47)); (case aB => exact (by repeat (first | (with_reducible first | exact HB.out | apply cA | apply cN | apply cD | refine cS ?_ GE757.out | refine cS ?_ GE758.out | refine cS ?_ GE762.out) | exact HB.out))); (case aF => exact (fun k_ hk => Kd.freshB (g := gb762) (o := .cells #[.int .i64 t759, .int .i64 t760] 47 (0, 0)) (by (with_reducible repeat (first | apply bN | apply bD | apply bA)); exact BK762.out) k_ hk)); (case aO => exact (by (with_reducible repeat (first | apply Kd.R_alloc | apply Kd.R_drewN | apply Kd.R_drew)); exact HO_7.out)); (case aS => exact (cZ (by repeat (first | (with_reducible first | exact HB.out | apply cA | apply cN | apply cD | refine cS ?_ GE757.out | refine cS ?_ GE758.out | refine cS ?_ GE762.out) | exact HB.out)))); (case aL => have := LMc54.out; omega); intro v779 w62 ho hb hg hat; rw [← Ny778.out] at ho; have n0_ := Aside0.mk (blk_grown (g := gb757) (o := .cells #[.int .i64 a0_0, .int .i64 a0_1, .int .i64 a0_2, .slice (some ad769) l0_3.length c0_3] 45 (0, 0)) (by (with_reducible repeat (first | apply bN | apply bD | apply bA)); exact BK757.out) hg (Kd.R_ne HO_7.out BK757.out (by decide))); have n1_ := Aside0.mk (blk_grown (g := gb758) (o := .cells #[.int .i64 a1_0, .int .i64 a1_1, .int .i64 a1_2, .int .i64 a1_3, .int .i64 a1_4, .int .i64 a1_5] 57 (0, 0)) (by (with_reducible repeat (first | apply bN | apply bD | apply bA)); exact BK758.out) hg (Kd.R_ne HO_7.out BK758.out (by decide))); have n2_ := Aside0.mk (blk_grown (g := gb762) (o := .cells #[.int .i64 t759, .int .i64 t760] 47 (0, 0)) (by (with_reducible repeat (first | apply bN | apply bD | apply bA)); exact BK762.out) hg (Kd.R_away HO_7.out (fun _ hk => hk))); have n3_ := Aside0.mk (hb); have n4_ := Aside0.mk (ho); clear BK757; clear BK758; clear BK762; clear HB; clear HO_7; have BK757 := n0_; have BK758 := n1_; have BK762 := n2_; have HB := n3_; have HO780 := n4_; clear n0_ n1_ n2_ n3_ n4_; clear ho hb hg hat))
                                go_roundg kj20
                                case measure => have := HJ3.out; have := HK2.out; have := HJ20.out; omega
                                case rel => exact ⟨(y778), (wrap64 (x8_2 + 1)), (by first | rfl | (simp; done) | (simp [*]; done)), H', ⟨by have := HJ3.out; have := HK2.out; have := HJ20.out; omega⟩, ⟨by (with_reducible repeat (first | apply Kd.R_alloc | apply Kd.R_drewN | apply Kd.R_drew)); exact HO780.out⟩, ⟨by (with_reducible repeat (first | apply bN | apply bD | apply bA)); exact BK757.out⟩, ⟨by (with_reducible repeat (first | apply bN | apply bD | apply bA)); exact BK758.out⟩, ⟨by (with_reducible repeat (first | apply bN | apply bD | apply bA)); exact BK762.out⟩, ⟨by repeat (first | (with_reducible first | exact HB.out | apply cA | apply cN | apply cD | refine cS ?_ GE757.out | refine cS ?_ GE758.out | refine cS ?_ GE762.out) | exact HB.out)⟩⟩
                              rw [if_neg c54] at H
                              exact absurd H (by simp)
                            rw [if_neg c41] at H
                            exact absurd H (by simp)
                          rw [if_neg c40] at H
                          exact absurd H (by simp)
                        rw [if_neg c36] at H
                        exact absurd H (by simp)
                      rw [if_neg c35] at H
                      exact absurd H (by simp)
                    replace c33 := Bool.eq_false_iff.mpr c33
                    subst c33
                    have H1 : (some false) = some r := by rw [if_neg (show ¬ (false = true) by decide)] at H; exact H
                    clear H
                    have H := H1
                    clear H1
                    exact absurd hrT.out (by have h_ := Option.some.inj H; rw [← h_]; decide)
                  rw [if_neg c31] at H
                  exact absurd H (by simp)
                rw [if_neg c30] at H
                exact absurd H (by simp)
              replace c29 := Bool.eq_false_iff.mpr c29
              subst c29
              have H1 : ((span_Of.f kj20 a0_0 a0_1 a0_2 x7_2).bind fun bt765 => (if bt765.2.2 = 0 then (if t759 ≤ bt765.1 then (some (decide (bt765.2.1 ≤ t760))) else (some false)) else (some false))) = some r := by rw [if_neg (show ¬ (false = true) by decide)] at H; exact H
              clear H
              have H := H1
              clear H1
              replace H := Option.bind_eq_some_iff.mp H
              obtain ⟨⟨t765, t766, t767⟩, A630, H⟩ := H
              replace H : (if t767 = 0 then (if t759 ≤ t765 then (some (decide (t766 ≤ t760))) else (some false)) else (some false)) = some r := H
              have A63 := Aside0.mk A630
              clear A630
              by_cases c64 : t767 = 0
              · rw [if_pos c64] at H
                have c64b0 : (t767 == 0) = true := beq_iff_eq.mpr c64
                have c64b1 : (t767 != 0) = false := bne_eq_false_iff_eq.mpr c64
                clear c64
                by_cases c65 : t759 ≤ t765
                · rw [if_pos c65] at H
                  have c65b0 : decide (t759 ≤ t765) = true := decide_eq_true c65
                  clear c65
                  obtain rfl := Option.some.inj H
                  have hnb66 := NB757_758.out
                  have hnc66 := NB758_757.out
                  have hnb67 := NB757_762.out
                  have hnc67 := NB762_757.out
                  have hcz68_0 : wc.cell? ⟨gb757, 0, none⟩ = some (.int .i64 a0_0) := (bC BK757.out 0).trans rfl
                  have hcz68_1 : wc.cell? ⟨gb757, 1, none⟩ = some (.int .i64 a0_1) := (bC BK757.out 1).trans rfl
                  have hcz68_2 : wc.cell? ⟨gb757, 2, none⟩ = some (.int .i64 a0_2) := (bC BK757.out 2).trans rfl
                  have hcz68_3 : wc.cell? ⟨gb757, 3, none⟩ = some (.slice A0_3 l0_3.length c0_3) := (bC BK757.out 3).trans rfl
                  have hfz68_0 := bZ BK757.out 0
                  have hfz68_1 := bZ BK757.out 1
                  have hfz68_2 := bZ BK757.out 2
                  have hfz68_3 := bZ BK757.out 3
                  obtain ⟨Ao69, co69, eo69⟩ := Kd.R_slice HO_7.out
                  subst eo69
                  go_wp2_with (first | ((with_reducible refine gate_callee (f := 26) rfl ?_); refine goesL_ (some 90) rfl rfl Try.func26 (by kernel_rfl) rfl #[.int .i64 a0_0, .int .i64 a0_1, .int .i64 a0_2, .slice Ao69 x7_2.length co69] rfl (by (try simp only [List.map_toArray, List.map_cons, List.map_nil]); first | done | rfl | (simp only [List.length_drop, List.length_take]; rfl)) ?_; (with_reducible refine (span_Of.calls kj20 a0_0 a0_1 a0_2 _ _ x7_2 t765 t766 t767 _ ?side1 ?side2 A63.out).mono ?_); (case side1 => repeat (first | exact (Kd.R_reads' HO_7.out).2.2 | (with_reducible refine Kd.C_alloc ?_ _) | (with_reducible refine Kd.C_drewN ?_ _) | (with_reducible refine Kd.C_drew ?_))); (case side2 => exact (Kd.R_reads' HO_7.out).2.1); rintro e w70 ⟨rfl, hb⟩; refine ⟨_, rfl, ?_⟩; have n0_ := Aside0.mk (Kd.R_below (by (with_reducible repeat (first | apply Kd.R_alloc | apply Kd.R_drewN | apply Kd.R_drew)); exact HO_7.out) hb); have n1_ := Aside0.mk (bB (g := gb757) (o := .cells #[.int .i64 a0_0, .int .i64 a0_1, .int .i64 a0_2, .slice A0_3 l0_3.length c0_3] 45 (0, 0)) (by (with_reducible repeat (first | apply bN | apply bD | apply bA)); exact BK757.out) hb); have n2_ := Aside0.mk (bB (g := gb758) (o := .cells #[.int .i64 a1_0, .int .i64 a1_1, .int .i64 a1_2, .int .i64 a1_3, .int .i64 a1_4, .int .i64 a1_5] 57 (0, 0)) (by (with_reducible repeat (first | apply bN | apply bD | apply bA)); exact BK758.out) hb); have n3_ := Aside0.mk (bB (g := gb762) (o := .cells #[.int .i64 t759, .int .i64 t760] 47 (0, 0)) (by (with_reducible repeat (first | apply bN | apply bD | apply bA)); exact BK762.out) hb); have n4_ := Aside0.mk (cT (by repeat (first | (with_reducible first | exact HB.out | apply cA | apply cN | apply cD | refine cS ?_ GE757.out | refine cS ?_ GE758.out | refine cS ?_ GE762.out) | exact HB.out)) hb); clear HO_7; clear BK757; clear BK758; clear BK762; clear HB; have HO_7 := n0_; have BK757 := n1_; have BK758 := n2_; have BK762 := n3_; have HB := n4_; clear n0_ n1_ n2_ n3_ n4_; (try clear hb); (try clear hb2); (try clear hk); (try clear hi)) | ((with_reducible refine gate_dst (N := 11) rfl ?_); refine box_event ?hg (N := 11) ?hd (cs := #[.int .i64 0, .int .i64 0]) (t := 47) ?hr ?_; (case hd => rfl); (case hg => rfl); (case hr => first | (go_simp; done) | (go_simp; rfl)); intro gb768 hg w71 hbox hb; have n0_ := Aside0.mk (Kd.R_below (Kd.R_elderB (by (with_reducible repeat (first | apply Kd.R_alloc | apply Kd.R_drewN | apply Kd.R_drew)); exact HO_7.out) gb768 (Nat.le_of_eq hg.symm)) hb); have n1_ := Aside0.mk (bB (g := gb757) (o := .cells #[.int .i64 a0_0, .int .i64 a0_1, .int .i64 a0_2, .slice A0_3 l0_3.length c0_3] 45 (0, 0)) (by (with_reducible repeat (first | apply bN | apply bD | apply bA)); exact BK757.out) hb); have n2_ := Aside0.mk (bB (g := gb758) (o := .cells #[.int .i64 a1_0, .int .i64 a1_1, .int .i64 a1_2, .int .i64 a1_3, .int .i64 a1_4, .int .i64 a1_5] 57 (0, 0)) (by (with_reducible repeat (first | apply bN | apply bD | apply bA)); exact BK758.out) hb); have n3_ := Aside0.mk (bB (g := gb762) (o := .cells #[.int .i64 t759, .int .i64 t760] 47 (0, 0)) (by (with_reducible repeat (first | apply bN | apply bD | apply bA)); exact BK762.out) hb); have n4_ := Aside0.mk (cT (by repeat (first | (with_reducible first | exact HB.out | apply cA | apply cN | apply cD | refine cS ?_ GE757.out | refine cS ?_ GE758.out | refine cS ?_ GE762.out) | exact HB.out)) hb); have n5_ := Aside0.mk (hbox); have n6_ := Aside0.mk ((by rw [hg]; exact (cZ (by repeat (first | (with_reducible first | exact HB.out | apply cA | apply cN | apply cD | refine cS ?_ GE757.out | refine cS ?_ GE758.out | refine cS ?_ GE762.out) | exact HB.out))) : w.heap.size ≤ gb768)); have n7_ := n6_; have n8_ := Aside0.mk ((by rw [hg]; exact Nat.ne_of_lt (blk_lt (g := gb757) (o := .cells #[.int .i64 a0_0, .int .i64 a0_1, .int .i64 a0_2, .slice A0_3 l0_3.length c0_3] 45 (0, 0)) (by (with_reducible repeat (first | apply bN | apply bD | apply bA)); exact BK757.out)) : gb757 ≠ gb768)); have n9_ := Aside0.mk ((by rw [hg]; exact Nat.ne_of_gt (blk_lt (g := gb757) (o := .cells #[.int .i64 a0_0, .int .i64 a0_1, .int .i64 a0_2, .slice A0_3 l0_3.length c0_3] 45 (0, 0)) (by (with_reducible repeat (first | apply bN | apply bD | apply bA)); exact BK757.out)) : gb768 ≠ gb757)); have n10_ := Aside0.mk ((by rw [hg]; exact Nat.ne_of_lt (blk_lt (g := gb758) (o := .cells #[.int .i64 a1_0, .int .i64 a1_1, .int .i64 a1_2, .int .i64 a1_3, .int .i64 a1_4, .int .i64 a1_5] 57 (0, 0)) (by (with_reducible repeat (first | apply bN | apply bD | apply bA)); exact BK758.out)) : gb758 ≠ gb768)); have n11_ := Aside0.mk ((by rw [hg]; exact Nat.ne_of_gt (blk_lt (g := gb758) (o := .cells #[.int .i64 a1_0, .int .i64 a1_1, .int .i64 a1_2, .int .i64 a1_3, .int .i64 a1_4, .int .i64 a1_5] 57 (0, 0)) (by (with_reducible repeat (first | apply bN | apply bD | apply bA)); exact BK758.out)) : gb768 ≠ gb758)); have n12_ := Aside0.mk ((by rw [hg]; exact Nat.ne_of_lt (blk_lt (g := gb762) (o := .cells #[.int .i64 t759, .int .i64 t760] 47 (0, 0)) (by (with_reducible repeat (first | apply bN | apply bD | apply bA)); exact BK762.out)) : gb762 ≠ gb768)); have n13_ := Aside0.mk ((by rw [hg]; exact Nat.ne_of_gt (blk_lt (g := gb762) (o := .cells #[.int .i64 t759, .int .i64 t760] 47 (0, 0)) (by (with_reducible repeat (first | apply bN | apply bD | apply bA)); exact BK762.out)) : gb768 ≠ gb762)); clear HO_7; clear BK757; clear BK758; clear BK762; clear HB; have HO_7 := n0_; have BK757 := n1_; have BK758 := n2_; have BK762 := n3_; have HB := n4_; have BK768 := n5_; have GW768 := n6_; have GE768 := n7_; have NB757_768 := n8_; have NB768_757 := n9_; have NB758_768 := n10_; have NB768_758 := n11_; have NB762_768 := n12_; have NB768_762 := n13_; clear n0_ n1_ n2_ n3_ n4_ n5_ n6_ n7_ n8_ n9_ n10_ n11_ n12_ n13_; clear hb hbox hg; have hnb72 := NB768_757.out; have hnc72 := NB757_768.out; have hnb73 := NB768_758.out; have hnc73 := NB758_768.out; have hnb74 := NB768_762.out; have hnc74 := NB762_768.out; have hcz75_0 : w71.cell? ⟨gb768, 0, none⟩ = some (.int .i64 0) := (bC BK768.out 0).trans rfl; have hcz75_1 : w71.cell? ⟨gb768, 1, none⟩ = some (.int .i64 0) := (bC BK768.out 1).trans rfl; have hfz75_0 := bZ BK768.out 0; have hfz75_1 := bZ BK768.out 1; have hnb76 := NB762_758.out; have hnc76 := NB758_762.out; have hcz77_0 : w71.cell? ⟨gb762, 0, none⟩ = some (.int .i64 t759) := (bC BK762.out 0).trans rfl; have hcz77_1 : w71.cell? ⟨gb762, 1, none⟩ = some (.int .i64 t760) := (bC BK762.out 1).trans rfl; have hfz77_0 := bZ BK762.out 0; have hfz77_1 := bZ BK762.out 1))
                  go_ret
                  exact ⟨by first | rfl | (simp [errW_none, errW_some] <;> rfl) | (simp [*, errW_none, errW_some] <;> rfl), by repeat (first | (with_reducible first | exact HB.out | apply cA | apply cN | apply cD | refine cS ?_ GE757.out | refine cS ?_ GE758.out | refine cS ?_ GE762.out | refine cS ?_ GE768.out) | exact HB.out)⟩
                rw [if_neg c65] at H
                have c65b0 : decide (t759 ≤ t765) = false := decide_eq_false c65
                clear c65
                exact absurd hrT.out (by have h_ := Option.some.inj H; rw [← h_]; decide)
              rw [if_neg c64] at H
              have c64b0 : (t767 == 0) = false := beq_eq_false_iff_ne.mpr c64
              have c64b1 : (t767 != 0) = true := bne_iff_ne.mpr c64
              exact absurd hrT.out (by have h_ := Option.some.inj H; rw [← h_]; decide)

/-- THE ONE PURE STATEMENT of damasklaw05_SpanGrows: yours. -/
def damasklaw05_SpanGrows.Pure : Prop := ∀ (a0_0 : Int) (a0_1 : Int) (a0_2 : Int) (l0_3 : List (S47)) (a1_0 : Int) (a1_1 : Int) (a1_2 : Int) (a1_3 : Int) (a1_4 : Int) (a1_5 : Int), (Lit.int .i64 a0_0).wf = true → (Lit.int .i64 a0_1).wf = true → (Lit.int .i64 a0_2).wf = true → l0_3.length ≤ maxLen → l0_3.length * 16 ≤ 140737488351232 → (∀ x ∈ l0_3, (Lit.int .i64 x.f0).wf = true ∧ (Lit.int .i64 x.f1).wf = true) → (Lit.int .i64 a1_0).wf = true → (Lit.int .i64 a1_1).wf = true → (Lit.int .i64 a1_2).wf = true → (Lit.int .i64 a1_3).wf = true → (Lit.int .i64 a1_4).wf = true → (Lit.int .i64 a1_5).wf = true → ∃ k, damasklaw05_SpanGrows.f k a0_0 a0_1 a0_2 l0_3 a1_0 a1_1 a1_2 a1_3 a1_4 a1_5 = some true
theorem damasklaw05_SpanGrows.walk (P : damasklaw05_SpanGrows.Pure) (a0_0 : Int) (a0_1 : Int) (a0_2 : Int) (A0_3 : Option Addr) (c0_3 : Nat) (l0_3 : List (S47)) (a1_0 : Int) (a1_1 : Int) (a1_2 : Int) (a1_3 : Int) (a1_4 : Int) (a1_5 : Int) (w : World) (o0_0 : (Lit.int .i64 a0_0).wf = true) (o0_1 : (Lit.int .i64 a0_1).wf = true) (o0_2 : (Lit.int .i64 a0_2).wf = true) (hr0_3 : Kd.C k47 w A0_3 l0_3.length l0_3) (hc0_3 : l0_3.length ≤ c0_3) (m0_3 : l0_3.length ≤ maxLen) (b0_3 : l0_3.length * 16 ≤ 140737488351232) (o0_3 : ∀ x ∈ l0_3, (Lit.int .i64 x.f0).wf = true ∧ (Lit.int .i64 x.f1).wf = true) (o1_0 : (Lit.int .i64 a1_0).wf = true) (o1_1 : (Lit.int .i64 a1_1).wf = true) (o1_2 : (Lit.int .i64 a1_2).wf = true) (o1_3 : (Lit.int .i64 a1_3).wf = true) (o1_4 : (Lit.int .i64 a1_4).wf = true) (o1_5 : (Lit.int .i64 a1_5).wf = true) :
    Calls Try.prog 12 #[.agg #[.int .i64 a0_0, .int .i64 a0_1, .int .i64 a0_2, .slice A0_3 l0_3.length c0_3], .agg #[.int .i64 a1_0, .int .i64 a1_1, .int .i64 a1_2, .int .i64 a1_3, .int .i64 a1_4, .int .i64 a1_5]] w fun e w' => e = .returned (.bool true) ∧ Below w.heap.size w w' := by
  obtain ⟨k, h⟩ := P a0_0 a0_1 a0_2 l0_3 a1_0 a1_1 a1_2 a1_3 a1_4 a1_5 o0_0 o0_1 o0_2 m0_3 b0_3 o0_3 o1_0 o1_1 o1_2 o1_3 o1_4 o1_5
  refine (damasklaw05_SpanGrows.calls k a0_0 a0_1 a0_2 A0_3 c0_3 l0_3 a1_0 a1_1 a1_2 a1_3 a1_4 a1_5 true w hr0_3 hc0_3 rfl h).mono ?_
  rintro e w' ⟨rfl, hd⟩
  exact ⟨rfl, hd⟩

end Go.Proofs.Ytpnldhimlpilhaa.F
