/- Written by wip/myprint.py of this session, out of Lean's print of the program: what Go functions come to, and that their calls come to it; no condition. -/
import Derived.Test.YtpnldhimlpilhaaF0
import Derived.Test.YtpnldhimlpilhaaFdamasklaw051
import Derived.Test.YtpnldhimlpilhaaFdamaskref045
import Derived.Test.YtpnldhimlpilhaaFeq1
import Derived.Test.YtpnldhimlpilhaaFspan3
import Derived.Test.YtpnldhimlpilhaaFspan8
namespace Go.Proofs.Ytpnldhimlpilhaa.F
open Go.RowKit Go.Proofs.YtpnldhimlpilhaaW.PrintWords Go.Proofs.YtpnldhimlpilhaaW.PrintLast Go.Proofs.YtpnldhimlpilhaaW.PrintMore Go.Proofs.YtpnldhimlpilhaaW
attribute [local go_sem] max2_int min2_int max_two min_two max_three min_three max_four min_four   -- for this text's walks alone
set_option linter.unusedVariables false
set_option linter.unusedSimpArgs false

attribute [local go_sem high] eqA47
/-! ### damasklaw05_SpanRefuses: function 13 -/
def damasklaw05_SpanRefuses.l0 : Nat → List Int → List (S47) → Int → Int → Int → Int → List (S47) → Option (Bool)
  | 0, _, _, _, _, _, _, _ => none
  | k + 1, x5, x6, x7, x782000, x782001, x782002, x782003 => if x7 < (x782003.length : Int) then (if 0 ≤ x7 then (if x5.length < 17592186044416 then (if x6.length < 8796093022208 then (damasklaw05_SpanRefuses.l0 k (x5 ++ [(rd_T47 x782003 x7).f0]) (x6 ++ [(⟨(rd_T47 x782003 x7).f0, (rd_T47 x782003 x7).f0⟩ : S47)]) (wrap64 (x7 + 1)) x782000 x782001 x782002 x782003) else (none)) else (none)) else (none)) else ((span_Of.f k x782000 x782001 x782002 x6).bind fun bt798 => ((damaskref04_Value.f k x782000 x782001 x782002 x5).bind fun bt802 => (if bt798.2.2 = bt802.2 then (if bt802.2 = 0 then ((span_Has.f bt798.1 bt798.2.1 bt802.1).bind fun t804 => (some t804)) else (some true)) else (some false))))
def damasklaw05_SpanRefuses.f (k : Nat) (a0_0 : Int) (a0_1 : Int) (a0_2 : Int) (l0_3 : List (S47)) : Option (Bool) := (span_Of.f k a0_0 a0_1 a0_2 l0_3).bind fun bt782 => ((damasklaw05_awake.f k).bind fun t786 => (if t786 = true then (if bt782.2.2 = 12 then (if (bt782.1 == 0 && (bt782.2.1 == 0)) = true then (if (l0_3.length : Int) = 2 then (if 1 < (l0_3.length : Int) then (if ((rd_T47 l0_3 1).f0) ≤ 0 then (if ((rd_T47 l0_3 1).f1) ≥ 0 then (if a0_0 = 11 then (some true) else (some (a0_0 == 12))) else (some false)) else (some false)) else (none)) else (some false)) else (some false)) else (damasklaw05_SpanRefuses.l0 k ([] : List Int) ([] : List (S47)) 0 a0_0 a0_1 a0_2 l0_3)) else (some false)))
theorem damasklaw05_SpanRefuses.mono_l : ∀ k, (∀ y0 y1 y2 y3 y4 y5 y6, LeO (damasklaw05_SpanRefuses.l0 k y0 y1 y2 y3 y4 y5 y6) (damasklaw05_SpanRefuses.l0 (k + 1) y0 y1 y2 y3 y4 y5 y6))
  | 0 => fun _ _ _ _ _ _ _ r h => by simp [damasklaw05_SpanRefuses.l0] at h
  | k + 1 => by
    have ih0 := damasklaw05_SpanRefuses.mono_l k
    · intro y0 y1 y2 y3 y4 y5 y6
      unfold damasklaw05_SpanRefuses.l0
      repeat' first
      | (with_reducible exact ih0 _ _ _ _ _ _ _)
      | (with_reducible exact damasklaw05_awake.mono _)
      | (with_reducible exact damaskref04_Value.mono _ _ _ _ _)
      | (with_reducible exact span_Of.mono _ _ _ _ _)
      | (with_reducible exact LeO.refl _)
      | (with_reducible exact LeO.none _)
      | (with_reducible refine LeO.ite ?_ ?_)
      | (with_reducible refine LeO.bind ?_ (fun _ => ?_))
      | exact ih0 _ _ _ _ _ _ _
      | exact damasklaw05_awake.mono _
      | exact damaskref04_Value.mono _ _ _ _ _
      | exact span_Of.mono _ _ _ _ _
      | exact LeO.none _
      | refine LeO.ite ?_ ?_
      | refine LeO.bind ?_ (fun _ => ?_)
theorem damasklaw05_SpanRefuses.mono : ∀ a0 a1 a2 a3 k, LeO (damasklaw05_SpanRefuses.f k a0 a1 a2 a3) (damasklaw05_SpanRefuses.f (k + 1) a0 a1 a2 a3) := by
  intro a0 a1 a2 a3 k
  have ih0 := damasklaw05_SpanRefuses.mono_l k
  unfold damasklaw05_SpanRefuses.f
  repeat' first
      | (with_reducible exact ih0 _ _ _ _ _ _ _)
      | (with_reducible exact damasklaw05_awake.mono _)
      | (with_reducible exact damaskref04_Value.mono _ _ _ _ _)
      | (with_reducible exact span_Of.mono _ _ _ _ _)
      | (with_reducible exact LeO.refl _)
      | (with_reducible exact LeO.none _)
      | (with_reducible refine LeO.ite ?_ ?_)
      | (with_reducible refine LeO.bind ?_ (fun _ => ?_))
      | exact ih0 _ _ _ _ _ _ _
      | exact damasklaw05_awake.mono _
      | exact damaskref04_Value.mono _ _ _ _ _
      | exact span_Of.mono _ _ _ _ _
      | exact LeO.none _
      | refine LeO.ite ?_ ?_
      | refine LeO.bind ?_ (fun _ => ?_)
def damasklaw05_SpanRefuses.T12 : Bool × List (List Nat × List Nat) := (true, [([], []), ([], []), ([1], [1]), ([], []), ([2, 3], [2, 3]), ([4], [4]), ([5], [5]), ([], []), ([7], [7]), ([], []), ([8, 9], [8, 9]), ([10], [10]), ([11], [11]), ([6, 12], [6, 12]), ([13], [13]), ([0, 14], [0, 14]), ([15, 15, 0, 1, 2, 3, 4, 5, 6, 7, 8, 9, 10, 11, 12, 13, 14, 15], [0, 15])])
def damasklaw05_SpanRefuses.B12 : List Nat := [0, 0, 2, 0, 14, 30, 62, 0, 128, 0, 896, 1920, 3968, 8190, 16382, 32767, 65535]
theorem damasklaw05_SpanRefuses.tab12 : rtab .any (opsOf Try.f13 12) = damasklaw05_SpanRefuses.T12 := by kernel_rfl
theorem damasklaw05_SpanRefuses.bits12 : waitsOk damasklaw05_SpanRefuses.T12.2 damasklaw05_SpanRefuses.B12 = true := by kernel_rfl
set_option maxHeartbeats 8000000 in
set_option maxRecDepth 100000 in
theorem damasklaw05_SpanRefuses.calls (k : Nat) (a0_0 : Int) (a0_1 : Int) (a0_2 : Int) (A0_3 : Option Addr) (c0_3 : Nat) (l0_3 : List (S47)) (r : Bool) (w : World) (hr0_3 : Kd.C k47 w A0_3 l0_3.length l0_3) (hc0_3 : l0_3.length ≤ c0_3) (hrT0 : r = true) (h : damasklaw05_SpanRefuses.f k a0_0 a0_1 a0_2 l0_3 = some r) :
    Calls Try.prog 13 #[.agg #[.int .i64 a0_0, .int .i64 a0_1, .int .i64 a0_2, .slice A0_3 l0_3.length c0_3]] w fun e w' => e = .returned (.bool r) ∧ Below w.heap.size w w' := by
  have hu45 := Try.underlying45
  have hu47 := Try.underlying47
  have HR0_3 := Aside0.mk hr0_3
  have HC0_3 := Aside0.mk hc0_3
  clear hr0_3 hc0_3
  have HB := Aside0.mk (Below.refl w.heap.size w)
  have hrT := Aside0.mk hrT0
  clear hrT0
  have H : ((span_Of.f k a0_0 a0_1 a0_2 l0_3).bind fun bt782 => ((damasklaw05_awake.f k).bind fun t786 => (if t786 = true then (if bt782.2.2 = 12 then (if (bt782.1 == 0 && (bt782.2.1 == 0)) = true then (if (l0_3.length : Int) = 2 then (if 1 < (l0_3.length : Int) then (if ((rd_T47 l0_3 1).f0) ≤ 0 then (if ((rd_T47 l0_3 1).f1) ≥ 0 then (if a0_0 = 11 then (some true) else (some (a0_0 == 12))) else (some false)) else (some false)) else (none)) else (some false)) else (some false)) else (damasklaw05_SpanRefuses.l0 k ([] : List Int) ([] : List (S47)) 0 a0_0 a0_1 a0_2 l0_3)) else (some false)))) = some r := h
  clear h
  replace H := Option.bind_eq_some_iff.mp H
  obtain ⟨⟨t782, t783, t784⟩, A20, H⟩ := H
  replace H : ((damasklaw05_awake.f k).bind fun t786 => (if t786 = true then (if t784 = 12 then (if (t782 == 0 && (t783 == 0)) = true then (if (l0_3.length : Int) = 2 then (if 1 < (l0_3.length : Int) then (if ((rd_T47 l0_3 1).f0) ≤ 0 then (if ((rd_T47 l0_3 1).f1) ≥ 0 then (if a0_0 = 11 then (some true) else (some (a0_0 == 12))) else (some false)) else (some false)) else (none)) else (some false)) else (some false)) else (damasklaw05_SpanRefuses.l0 k ([] : List Int) ([] : List (S47)) 0 a0_0 a0_1 a0_2 l0_3)) else (some false))) = some r := H
  have A2 := Aside0.mk A20
  clear A20
  replace H := Option.bind_eq_some_iff.mp H
  obtain ⟨t786, A30, H⟩ := H
  replace H : (if t786 = true then (if t784 = 12 then (if (t782 == 0 && (t783 == 0)) = true then (if (l0_3.length : Int) = 2 then (if 1 < (l0_3.length : Int) then (if ((rd_T47 l0_3 1).f0) ≤ 0 then (if ((rd_T47 l0_3 1).f1) ≥ 0 then (if a0_0 = 11 then (some true) else (some (a0_0 == 12))) else (some false)) else (some false)) else (none)) else (some false)) else (some false)) else (damasklaw05_SpanRefuses.l0 k ([] : List Int) ([] : List (S47)) 0 a0_0 a0_1 a0_2 l0_3)) else (some false)) = some r := H
  have A3 := Aside0.mk A30
  clear A30
  have HF4 := Aside0.mk H
  clear H
  go_enter Try.func13, Try.ntmps13
  go_upto_region 2 with (first | ((with_reducible refine gate_dst (N := 1) rfl ?_); (try (refine gate_guard (by rfl) ?_; dsimp only)); refine box_event ?hg (N := 1) ?hd (cs := #[.int .i64 a0_0, .int .i64 a0_1, .int .i64 a0_2, .slice A0_3 l0_3.length c0_3]) (t := 45) ?hr ?_; (case hd => rfl); (case hg => rfl); (case hr => first | (go_simp; done) | (go_simp; rfl)); intro gb781 hg w5 hbox hb; have n0_ := Aside0.mk (cT (by repeat (first | (with_reducible first | exact HB.out | apply cA | apply cN | apply cD) | exact HB.out)) hb); have n1_ := Aside0.mk (hbox); have n2_ := Aside0.mk ((by rw [hg]; exact (cZ (by repeat (first | (with_reducible first | exact HB.out | apply cA | apply cN | apply cD) | exact HB.out))) : w.heap.size ≤ gb781)); have n3_ := n2_; clear HB; have HB := n0_; have BK781 := n1_; have GW781 := n2_; have GE781 := n3_; clear n0_ n1_ n2_ n3_; clear hb hbox hg; have hcz6_0 : w5.cell? ⟨gb781, 0, none⟩ = some (.int .i64 a0_0) := (bC BK781.out 0).trans rfl; have hcz6_1 : w5.cell? ⟨gb781, 1, none⟩ = some (.int .i64 a0_1) := (bC BK781.out 1).trans rfl; have hcz6_2 : w5.cell? ⟨gb781, 2, none⟩ = some (.int .i64 a0_2) := (bC BK781.out 2).trans rfl; have hcz6_3 : w5.cell? ⟨gb781, 3, none⟩ = some (.slice A0_3 l0_3.length c0_3) := (bC BK781.out 3).trans rfl; have hfz6_0 := bZ BK781.out 0; have hfz6_1 := bZ BK781.out 1; have hfz6_2 := bZ BK781.out 2; have hfz6_3 := bZ BK781.out 3) | ((with_reducible refine gate_callee (f := 26) rfl ?_); refine goesL_ (some 21) rfl rfl Try.func26 (by kernel_rfl) rfl #[.int .i64 a0_0, .int .i64 a0_1, .int .i64 a0_2, .slice A0_3 l0_3.length c0_3] rfl (by (try simp only [List.map_toArray, List.map_cons, List.map_nil]); first | done | rfl | (simp only [List.length_drop, List.length_take]; rfl)) ?_; (with_reducible refine (span_Of.calls k a0_0 a0_1 a0_2 _ _ l0_3 t782 t783 t784 _ ?side1 ?side2 A2.out).mono ?_); (case side1 => repeat (first | exact (Kd.C_below HR0_3.out HB.out) | (with_reducible refine Kd.C_alloc ?_ _) | (with_reducible refine Kd.C_drewN ?_ _) | (with_reducible refine Kd.C_drew ?_))); (case side2 => exact HC0_3.out); rintro e w7 ⟨rfl, hb⟩; refine ⟨_, rfl, ?_⟩; have n0_ := Aside0.mk (bB (g := gb781) (o := .cells #[.int .i64 a0_0, .int .i64 a0_1, .int .i64 a0_2, .slice A0_3 l0_3.length c0_3] 45 (0, 0)) (by (with_reducible repeat (first | apply bN | apply bD | apply bA)); exact BK781.out) hb); have n1_ := Aside0.mk (cT (by repeat (first | (with_reducible first | exact HB.out | apply cA | apply cN | apply cD | refine cS ?_ GE781.out) | exact HB.out)) hb); clear BK781; clear HB; have BK781 := n0_; have HB := n1_; clear n0_ n1_; (try clear hb); (try clear hb2); (try clear hk); (try clear hi)) | ((with_reducible refine gate_dst (N := 3) rfl ?_); (try (refine gate_guard (by rfl) ?_; dsimp only)); refine box_event ?hg (N := 3) ?hd (cs := #[.int .i64 0, .int .i64 0]) (t := 47) ?hr ?_; (case hd => rfl); (case hg => rfl); (case hr => first | (go_simp; done) | (go_simp; rfl)); intro gb785 hg w8 hbox hb; have n0_ := Aside0.mk (bB (g := gb781) (o := .cells #[.int .i64 a0_0, .int .i64 a0_1, .int .i64 a0_2, .slice A0_3 l0_3.length c0_3] 45 (0, 0)) (by (with_reducible repeat (first | apply bN | apply bD | apply bA)); exact BK781.out) hb); have n1_ := Aside0.mk (cT (by repeat (first | (with_reducible first | exact HB.out | apply cA | apply cN | apply cD | refine cS ?_ GE781.out) | exact HB.out)) hb); have n2_ := Aside0.mk (hbox); have n3_ := Aside0.mk ((by rw [hg]; exact (cZ (by repeat (first | (with_reducible first | exact HB.out | apply cA | apply cN | apply cD | refine cS ?_ GE781.out) | exact HB.out))) : w.heap.size ≤ gb785)); have n4_ := n3_; have n5_ := Aside0.mk ((by rw [hg]; exact Nat.ne_of_lt (blk_lt (g := gb781) (o := .cells #[.int .i64 a0_0, .int .i64 a0_1, .int .i64 a0_2, .slice A0_3 l0_3.length c0_3] 45 (0, 0)) (by (with_reducible repeat (first | apply bN | apply bD | apply bA)); exact BK781.out)) : gb781 ≠ gb785)); have n6_ := Aside0.mk ((by rw [hg]; exact Nat.ne_of_gt (blk_lt (g := gb781) (o := .cells #[.int .i64 a0_0, .int .i64 a0_1, .int .i64 a0_2, .slice A0_3 l0_3.length c0_3] 45 (0, 0)) (by (with_reducible repeat (first | apply bN | apply bD | apply bA)); exact BK781.out)) : gb785 ≠ gb781)); clear BK781; clear HB; have BK781 := n0_; have HB := n1_; have BK785 := n2_; have GW785 := n3_; have GE785 := n4_; have NB781_785 := n5_; have NB785_781 := n6_; clear n0_ n1_ n2_ n3_ n4_ n5_ n6_; clear hb hbox hg; have hnb9 := NB785_781.out; have hnc9 := NB781_785.out; have hcz10_0 : w8.cell? ⟨gb785, 0, none⟩ = some (.int .i64 0) := (bC BK785.out 0).trans rfl; have hcz10_1 : w8.cell? ⟨gb785, 1, none⟩ = some (.int .i64 0) := (bC BK785.out 1).trans rfl; have hfz10_0 := bZ BK785.out 0; have hfz10_1 := bZ BK785.out 1))
  (try simp only [Act.put, List.setIfInBounds_toArray, List.set_cons_zero, List.set_cons_succ])
  have H := HF4.out
  clear HF4
  by_cases c11 : t786 = true
  · subst c11
    have H1 : (if t784 = 12 then (if (t782 == 0 && (t783 == 0)) = true then (if (l0_3.length : Int) = 2 then (if 1 < (l0_3.length : Int) then (if ((rd_T47 l0_3 1).f0) ≤ 0 then (if ((rd_T47 l0_3 1).f1) ≥ 0 then (if a0_0 = 11 then (some true) else (some (a0_0 == 12))) else (some false)) else (some false)) else (none)) else (some false)) else (some false)) else (damasklaw05_SpanRefuses.l0 k ([] : List Int) ([] : List (S47)) 0 a0_0 a0_1 a0_2 l0_3)) = some r := by rw [if_pos rfl] at H; exact H
    clear H
    have H := H1
    clear H1
    by_cases c12 : t784 = 12
    · rw [if_pos c12] at H
      have c12b0 : (t784 == 12) = true := beq_iff_eq.mpr c12
      have c12b1 : (t784 != 12) = false := bne_eq_false_iff_eq.mpr c12
      clear c12
      (first | rw [c12b0] | (simp only [i64_w, i32_w]; rw [c12b0]) | skip)
      by_cases c13 : (t782 == 0 && (t783 == 0)) = true
      · rw [if_pos c13] at H
        have c13b0 : (t782 == 0 && (t783 == 0)) = true := c13
        (try (have c13b1 : decide (t782 = 0 && (t783 == 0)) = true := by simpa using c13))
        (try (have c13b2 : (t782 == 0 && (t783 == 0)) = true := by simpa using c13))
        clear c13
        by_cases c14 : (l0_3.length : Int) = 2
        · rw [if_pos c14] at H
          have c14b0 : ((l0_3.length : Int) == 2) = true := beq_iff_eq.mpr c14
          have c14b1 : ((l0_3.length : Int) != 2) = false := bne_eq_false_iff_eq.mpr c14
          clear c14
          by_cases c15 : 1 < (l0_3.length : Int)
          · rw [if_pos c15] at H
            have c15b0 : decide (1 < (l0_3.length : Int)) = true := decide_eq_true c15
            have c15b1 : decide (1 < l0_3.length) = true := decide_eq_true (by omega)
            clear c15
            by_cases c16 : ((rd_T47 l0_3 1).f0) ≤ 0
            · rw [if_pos c16] at H
              have c16b0 : decide (((rd_T47 l0_3 1).f0) ≤ 0) = true := decide_eq_true c16
              clear c16
              by_cases c17 : ((rd_T47 l0_3 1).f1) ≥ 0
              · rw [if_pos c17] at H
                have c17b0 : decide (0 ≤ ((rd_T47 l0_3 1).f1)) = true := decide_eq_true c17
                clear c17
                by_cases c18 : a0_0 = 11
                · rw [if_pos c18] at H
                  have c18b0 : (a0_0 == 11) = true := beq_iff_eq.mpr c18
                  have c18b1 : (a0_0 != 11) = false := bne_eq_false_iff_eq.mpr c18
                  clear c18
                  obtain rfl := Option.some.inj H
                  (try simp only [List.append])
                  go_wp2_with (first | ((with_reducible refine gate_callee (f := 28) rfl ?_); refine goesL_ (some 24) rfl rfl Try.func28 (by kernel_rfl) rfl #[] rfl (by (try simp only [List.map_toArray, List.map_cons, List.map_nil]); first | done | rfl | (simp only [List.length_drop, List.length_take]; rfl)) ?_; (with_reducible refine (damasklaw05_awake.calls k  true _ A3.out).mono ?_); rintro e w19 ⟨rfl, hb⟩; refine ⟨_, rfl, ?_⟩; have n0_ := Aside0.mk (bB (g := gb781) (o := .cells #[.int .i64 a0_0, .int .i64 a0_1, .int .i64 a0_2, .slice A0_3 l0_3.length c0_3] 45 (0, 0)) (by (with_reducible repeat (first | apply bN | apply bD | apply bA)); refine bF ?_ NB781_785.out _; (with_reducible repeat (first | apply bN | apply bD | apply bA)); refine bF ?_ NB781_785.out _; (with_reducible repeat (first | apply bN | apply bD | apply bA)); exact BK781.out) hb); have n1_ := Aside0.mk (bB (g := gb785) (o := .cells #[.int .i64 t782, .int .i64 t783] 47 (0, 0)) (by (with_reducible repeat (first | apply bN | apply bD | apply bA)); refine bP (cs := #[.int .i64 t782, .int .i64 0]) ?_ 1 _ rfl; (with_reducible repeat (first | apply bN | apply bD | apply bA)); refine bP (cs := #[.int .i64 0, .int .i64 0]) ?_ 0 _ rfl; (with_reducible repeat (first | apply bN | apply bD | apply bA)); exact BK785.out) hb); have n2_ := Aside0.mk (cT (by repeat (first | (with_reducible first | exact HB.out | apply cA | apply cN | apply cD | refine cS ?_ GE781.out | refine cS ?_ GE785.out) | exact HB.out)) hb); clear BK781; clear BK785; clear HB; have BK781 := n0_; have BK785 := n1_; have HB := n2_; clear n0_ n1_ n2_; (try clear hb); (try clear hb2); (try clear hk); (try clear hi); have hnb20 := NB785_781.out; have hnc20 := NB781_785.out; have hcz21_0 : w19.cell? ⟨gb785, 0, none⟩ = some (.int .i64 t782) := (bC BK785.out 0).trans rfl; have hcz21_1 : w19.cell? ⟨gb785, 1, none⟩ = some (.int .i64 t783) := (bC BK785.out 1).trans rfl; have hfz21_0 := bZ BK785.out 0; have hfz21_1 := bZ BK785.out 1; have hcz22_0 : w19.cell? ⟨gb781, 0, none⟩ = some (.int .i64 a0_0) := (bC BK781.out 0).trans rfl; have hcz22_1 : w19.cell? ⟨gb781, 1, none⟩ = some (.int .i64 a0_1) := (bC BK781.out 1).trans rfl; have hcz22_2 : w19.cell? ⟨gb781, 2, none⟩ = some (.int .i64 a0_2) := (bC BK781.out 2).trans rfl; have hcz22_3 : w19.cell? ⟨gb781, 3, none⟩ = some (.slice A0_3 l0_3.length c0_3) := (bC BK781.out 3).trans rfl; have hfz22_0 := bZ BK781.out 0; have hfz22_1 := bZ BK781.out 1; have hfz22_2 := bZ BK781.out 2; have hfz22_3 := bZ BK781.out 3; have p787 : 0 ≤ (1 : Int) := (by omega); have q787 : 1 < (l0_3.length : Int) := of_decide_eq_true (by first | (with_reducible assumption) | assumption); obtain ⟨ad787, e787, hx787_0, hx787_1⟩ := at_T47 HR0_3.out 1 p787 q787; cases e787; (try simp only [show (1 : Int).toNat = 1 from rfl, Nat.reduceMul, Nat.reduceEqDiff, Go.Addr.add, ↓reduceIte] at hx787_0); (try simp only [show (1 : Int).toNat = 1 from rfl, Nat.reduceMul, Nat.reduceEqDiff, Go.Addr.add, ↓reduceIte] at hx787_1); have qi787 : (1 < l0_3.length) = True := eq_true (by omega); (try rw [show ((1 : Int)).toNat = 1 from rfl] at hx787_0); (try rw [show 1 * 2 = 2 from rfl] at hx787_0); (try rw [show ((1 : Int)).toNat = 1 from rfl] at hx787_1); (try rw [show 1 * 2 = 2 from rfl] at hx787_1); replace hx787_0 := (HB.out.cell (wB w hx787_0)).trans hx787_0; replace hx787_1 := (HB.out.cell (wB w hx787_1)).trans hx787_1; replace p787 := eq_true p787; replace q787 := eq_true q787; have p788 : 0 ≤ (1 : Int) := (by omega); have q788 : 1 < (l0_3.length : Int) := of_decide_eq_true (by first | (with_reducible assumption) | assumption); obtain ⟨ad788, e788, hx788_0, hx788_1⟩ := at_T47 HR0_3.out 1 p788 q788; obtain rfl : ad787 = ad788 := (by injection e788); (try simp only [show (1 : Int).toNat = 1 from rfl, Nat.reduceMul, Nat.reduceEqDiff, Go.Addr.add, ↓reduceIte] at hx788_0); (try simp only [show (1 : Int).toNat = 1 from rfl, Nat.reduceMul, Nat.reduceEqDiff, Go.Addr.add, ↓reduceIte] at hx788_1); have qi788 : (1 < l0_3.length) = True := eq_true (by omega); (try rw [show ((1 : Int)).toNat = 1 from rfl] at hx788_0); (try rw [show 1 * 2 = 2 from rfl] at hx788_0); (try rw [show ((1 : Int)).toNat = 1 from rfl] at hx788_1); (try rw [show 1 * 2 = 2 from rfl] at hx788_1); replace hx788_0 := (HB.out.cell (wB w hx788_0)).trans hx788_0; replace hx788_1 := (HB.out.cell (wB w hx788_1)).trans hx788_1; replace p788 := eq_true p788; replace q788 := eq_true q788))
                  go_ret
                  exact ⟨by first | rfl | (simp [errW_none, errW_some] <;> rfl) | (simp [*, errW_none, errW_some] <;> rfl), by repeat (first | (with_reducible first | exact HB.out | apply cA | apply cN | apply cD | refine cS ?_ GE781.out | refine cS ?_ GE785.out) | exact HB.out)⟩
                rw [if_neg c18] at H
                have c18b0 : (a0_0 == 11) = false := beq_eq_false_iff_ne.mpr c18
                have c18b1 : (a0_0 != 11) = true := bne_iff_ne.mpr c18
                obtain rfl := Option.some.inj H
                (try simp only [List.append])
                go_wp2_with (first | ((with_reducible refine gate_callee (f := 28) rfl ?_); refine goesL_ (some 24) rfl rfl Try.func28 (by kernel_rfl) rfl #[] rfl (by (try simp only [List.map_toArray, List.map_cons, List.map_nil]); first | done | rfl | (simp only [List.length_drop, List.length_take]; rfl)) ?_; (with_reducible refine (damasklaw05_awake.calls k  true _ A3.out).mono ?_); rintro e w23 ⟨rfl, hb⟩; refine ⟨_, rfl, ?_⟩; have n0_ := Aside0.mk (bB (g := gb781) (o := .cells #[.int .i64 a0_0, .int .i64 a0_1, .int .i64 a0_2, .slice A0_3 l0_3.length c0_3] 45 (0, 0)) (by (with_reducible repeat (first | apply bN | apply bD | apply bA)); refine bF ?_ NB781_785.out _; (with_reducible repeat (first | apply bN | apply bD | apply bA)); refine bF ?_ NB781_785.out _; (with_reducible repeat (first | apply bN | apply bD | apply bA)); exact BK781.out) hb); have n1_ := Aside0.mk (bB (g := gb785) (o := .cells #[.int .i64 t782, .int .i64 t783] 47 (0, 0)) (by (with_reducible repeat (first | apply bN | apply bD | apply bA)); refine bP (cs := #[.int .i64 t782, .int .i64 0]) ?_ 1 _ rfl; (with_reducible repeat (first | apply bN | apply bD | apply bA)); refine bP (cs := #[.int .i64 0, .int .i64 0]) ?_ 0 _ rfl; (with_reducible repeat (first | apply bN | apply bD | apply bA)); exact BK785.out) hb); have n2_ := Aside0.mk (cT (by repeat (first | (with_reducible first | exact HB.out | apply cA | apply cN | apply cD | refine cS ?_ GE781.out | refine cS ?_ GE785.out) | exact HB.out)) hb); clear BK781; clear BK785; clear HB; have BK781 := n0_; have BK785 := n1_; have HB := n2_; clear n0_ n1_ n2_; (try clear hb); (try clear hb2); (try clear hk); (try clear hi); have hnb24 := NB785_781.out; have hnc24 := NB781_785.out; have hcz25_0 : w23.cell? ⟨gb785, 0, none⟩ = some (.int .i64 t782) := (bC BK785.out 0).trans rfl; have hcz25_1 : w23.cell? ⟨gb785, 1, none⟩ = some (.int .i64 t783) := (bC BK785.out 1).trans rfl; have hfz25_0 := bZ BK785.out 0; have hfz25_1 := bZ BK785.out 1; have hcz26_0 : w23.cell? ⟨gb781, 0, none⟩ = some (.int .i64 a0_0) := (bC BK781.out 0).trans rfl; have hcz26_1 : w23.cell? ⟨gb781, 1, none⟩ = some (.int .i64 a0_1) := (bC BK781.out 1).trans rfl; have hcz26_2 : w23.cell? ⟨gb781, 2, none⟩ = some (.int .i64 a0_2) := (bC BK781.out 2).trans rfl; have hcz26_3 : w23.cell? ⟨gb781, 3, none⟩ = some (.slice A0_3 l0_3.length c0_3) := (bC BK781.out 3).trans rfl; have hfz26_0 := bZ BK781.out 0; have hfz26_1 := bZ BK781.out 1; have hfz26_2 := bZ BK781.out 2; have hfz26_3 := bZ BK781.out 3; have p787 : 0 ≤ (1 : Int) := (by omega); have q787 : 1 < (l0_3.length : Int) := of_decide_eq_true (by first | (with_reducible assumption) | assumption); obtain ⟨ad787, e787, hx787_0, hx787_1⟩ := at_T47 HR0_3.out 1 p787 q787; cases e787; (try simp only [show (1 : Int).toNat = 1 from rfl, Nat.reduceMul, Nat.reduceEqDiff, Go.Addr.add, ↓reduceIte] at hx787_0); (try simp only [show (1 : Int).toNat = 1 from rfl, Nat.reduceMul, Nat.reduceEqDiff, Go.Addr.add, ↓reduceIte] at hx787_1); have qi787 : (1 < l0_3.length) = True := eq_true (by omega); (try rw [show ((1 : Int)).toNat = 1 from rfl] at hx787_0); (try rw [show 1 * 2 = 2 from rfl] at hx787_0); (try rw [show ((1 : Int)).toNat = 1 from rfl] at hx787_1); (try rw [show 1 * 2 = 2 from rfl] at hx787_1); replace hx787_0 := (HB.out.cell (wB w hx787_0)).trans hx787_0; replace hx787_1 := (HB.out.cell (wB w hx787_1)).trans hx787_1; replace p787 := eq_true p787; replace q787 := eq_true q787; have p788 : 0 ≤ (1 : Int) := (by omega); have q788 : 1 < (l0_3.length : Int) := of_decide_eq_true (by first | (with_reducible assumption) | assumption); obtain ⟨ad788, e788, hx788_0, hx788_1⟩ := at_T47 HR0_3.out 1 p788 q788; obtain rfl : ad787 = ad788 := (by injection e788); (try simp only [show (1 : Int).toNat = 1 from rfl, Nat.reduceMul, Nat.reduceEqDiff, Go.Addr.add, ↓reduceIte] at hx788_0); (try simp only [show (1 : Int).toNat = 1 from rfl, Nat.reduceMul, Nat.reduceEqDiff, Go.Addr.add, ↓reduceIte] at hx788_1); have qi788 : (1 < l0_3.length) = True := eq_true (by omega); (try rw [show ((1 : Int)).toNat = 1 from rfl] at hx788_0); (try rw [show 1 * 2 = 2 from rfl] at hx788_0); (try rw [show ((1 : Int)).toNat = 1 from rfl] at hx788_1); (try rw [show 1 * 2 = 2 from rfl] at hx788_1); replace hx788_0 := (HB.out.cell (wB w hx788_0)).trans hx788_0; replace hx788_1 := (HB.out.cell (wB w hx788_1)).trans hx788_1; replace p788 := eq_true p788; replace q788 := eq_true q788))
                go_ret
                exact ⟨by first | rfl | (simp [errW_none, errW_some] <;> rfl) | (simp [*, errW_none, errW_some] <;> rfl), by repeat (first | (with_reducible first | exact HB.out | apply cA | apply cN | apply cD | refine cS ?_ GE781.out | refine cS ?_ GE785.out) | exact HB.out)⟩
              rw [if_neg c17] at H
              have c17b0 : decide (0 ≤ ((rd_T47 l0_3 1).f1)) = false := decide_eq_false c17
              clear c17
              exact absurd hrT.out (by have h_ := Option.some.inj H; rw [← h_]; decide)
            rw [if_neg c16] at H
            have c16b0 : decide (((rd_T47 l0_3 1).f0) ≤ 0) = false := decide_eq_false c16
            clear c16
            exact absurd hrT.out (by have h_ := Option.some.inj H; rw [← h_]; decide)
          rw [if_neg c15] at H
          exact absurd H (by simp)
        rw [if_neg c14] at H
        have c14b0 : ((l0_3.length : Int) == 2) = false := beq_eq_false_iff_ne.mpr c14
        have c14b1 : ((l0_3.length : Int) != 2) = true := bne_iff_ne.mpr c14
        exact absurd hrT.out (by have h_ := Option.some.inj H; rw [← h_]; decide)
      rw [if_neg c13] at H
      have c13b0 : (t782 == 0 && (t783 == 0)) = false := by simpa using c13
      (try (have c13b1 : decide (t782 = 0 && (t783 == 0)) = false := by simpa using c13))
      (try (have c13b2 : (t782 == 0 && (t783 == 0)) = false := by simpa using c13))
      (try (have c13b3 : ¬ (t782 = 0 && (t783 == 0)) := by simpa using c13))
      clear c13
      exact absurd hrT.out (by have h_ := Option.some.inj H; rw [← h_]; decide)
    rw [if_neg c12] at H
    have c12b0 : (t784 == 12) = false := beq_eq_false_iff_ne.mpr c12
    have c12b1 : (t784 != 12) = true := bne_iff_ne.mpr c12
    (first | rw [c12b0] | (simp only [i64_w, i32_w]; rw [c12b0]) | skip)
    have H' := Aside0.mk H
    clear H
    (try simp only [List.append])
    go_wp2_with (first | ((with_reducible refine gate_callee (f := 28) rfl ?_); refine goesL_ (some 24) rfl rfl Try.func28 (by kernel_rfl) rfl #[] rfl (by (try simp only [List.map_toArray, List.map_cons, List.map_nil]); first | done | rfl | (simp only [List.length_drop, List.length_take]; rfl)) ?_; (with_reducible refine (damasklaw05_awake.calls k  true _ A3.out).mono ?_); rintro e w27 ⟨rfl, hb⟩; refine ⟨_, rfl, ?_⟩; have n0_ := Aside0.mk (bB (g := gb781) (o := .cells #[.int .i64 a0_0, .int .i64 a0_1, .int .i64 a0_2, .slice A0_3 l0_3.length c0_3] 45 (0, 0)) (by (with_reducible repeat (first | apply bN | apply bD | apply bA)); refine bF ?_ NB781_785.out _; (with_reducible repeat (first | apply bN | apply bD | apply bA)); refine bF ?_ NB781_785.out _; (with_reducible repeat (first | apply bN | apply bD | apply bA)); exact BK781.out) hb); have n1_ := Aside0.mk (bB (g := gb785) (o := .cells #[.int .i64 t782, .int .i64 t783] 47 (0, 0)) (by (with_reducible repeat (first | apply bN | apply bD | apply bA)); refine bP (cs := #[.int .i64 t782, .int .i64 0]) ?_ 1 _ rfl; (with_reducible repeat (first | apply bN | apply bD | apply bA)); refine bP (cs := #[.int .i64 0, .int .i64 0]) ?_ 0 _ rfl; (with_reducible repeat (first | apply bN | apply bD | apply bA)); exact BK785.out) hb); have n2_ := Aside0.mk (cT (by repeat (first | (with_reducible first | exact HB.out | apply cA | apply cN | apply cD | refine cS ?_ GE781.out | refine cS ?_ GE785.out) | exact HB.out)) hb); clear BK781; clear BK785; clear HB; have BK781 := n0_; have BK785 := n1_; have HB := n2_; clear n0_ n1_ n2_; (try clear hb); (try clear hb2); (try clear hk); (try clear hi)))
    go_loopg [5, 6, 7] k (fun kq v5 v6 v7 w' => ∃ (x5_1 : List Int) (x6_1 : List (S47)) (x7_1 : Int), v7 = .int .i64 x7_1 ∧ Aside0 (damasklaw05_SpanRefuses.l0 kq x5_1 x6_1 x7_1 a0_0 a0_1 a0_2 l0_3 = some r) ∧ Aside0 (kq ≤ k) ∧ Aside0 (Kd.R (Kd.int .i64) 3 w' w.heap.size (fun _ => True) v5 x5_1) ∧ Aside0 (Kd.R k47 47 w' w.heap.size (fun k_ => k_ ≠ gb785) v6 x6_1) ∧ Aside0 (w'.heap[gb781]? = some (.cells #[.int .i64 a0_0, .int .i64 a0_1, .int .i64 a0_2, (.slice A0_3 l0_3.length c0_3)] 45 (0, 0))) ∧ Aside0 (w'.heap[gb785]? = some (.cells #[.int .i64 t782, .int .i64 t783] 47 (0, 0))) ∧ Aside0 (Below w.heap.size w w'))
    case atStart => exact ⟨(([] : List Int)), (([] : List (S47))), (0), (by first | rfl | (simp; done) | (simp [*]; done)), H', ⟨Nat.le_refl _⟩, ⟨by first | exact Kd.R_nil _ _ _ _ _ | exact Kd.N_nil _ _ _ _ _ | exact Kd.V_nil _ _ _ _ _ | exact Kd.Q_nil _ _ _ _ _ | exact Kd.S_nil _ _ _ _ _⟩, ⟨by first | exact Kd.R_nil _ _ _ _ _ | exact Kd.N_nil _ _ _ _ _ | exact Kd.V_nil _ _ _ _ _ | exact Kd.Q_nil _ _ _ _ _ | exact Kd.S_nil _ _ _ _ _⟩, ⟨by (with_reducible repeat (first | apply bN | apply bD | apply bA)); exact BK781.out⟩, ⟨by (with_reducible repeat (first | apply bN | apply bD | apply bA)); exact BK785.out⟩, ⟨by repeat (first | (with_reducible first | exact HB.out | apply cA | apply cN | apply cD | refine cS ?_ GE781.out | refine cS ?_ GE785.out) | exact HB.out)⟩⟩
    case round =>
      clear H'
      try clear c11
      try clear c12
      try clear c12b0
      try clear c12b1
      try clear c13
      try clear c13b0
      try clear c13b1
      try clear c13b2
      try clear c14
      try clear c14b0
      try clear c14b1
      try clear c15
      try clear c15b0
      try clear c15b1
      try clear c16
      try clear c16b0
      try clear c17
      try clear c17b0
      try clear c18
      try clear c18b0
      try clear c18b1
      try clear hcz10_0
      try clear hcz10_1
      try clear hcz21_0
      try clear hcz21_1
      try clear hcz22_0
      try clear hcz22_1
      try clear hcz22_2
      try clear hcz22_3
      try clear hcz25_0
      try clear hcz25_1
      try clear hcz26_0
      try clear hcz26_1
      try clear hcz26_2
      try clear hcz26_3
      try clear hcz6_0
      try clear hcz6_1
      try clear hcz6_2
      try clear hcz6_3
      try clear hfz10_0
      try clear hfz10_1
      try clear hfz21_0
      try clear hfz21_1
      try clear hfz22_0
      try clear hfz22_1
      try clear hfz22_2
      try clear hfz22_3
      try clear hfz25_0
      try clear hfz25_1
      try clear hfz26_0
      try clear hfz26_1
      try clear hfz26_2
      try clear hfz26_3
      try clear hfz6_0
      try clear hfz6_1
      try clear hfz6_2
      try clear hfz6_3
      try clear hx787_0
      try clear hx787_1
      try clear hx788_0
      try clear hx788_1
      try clear p787
      try clear p788
      try clear q787
      try clear q788
      obtain ⟨x5_1, x6_1, x7_1, rfl, HA, HK1, HO_5, HO_6, BK781, BK785, HB⟩ := hrel
      cases gk with
      | zero => exact absurd HA.out (by simp [damasklaw05_SpanRefuses.l0])
      | succ k1 =>
        have H := HA.out
        clear HA
        simp only [damasklaw05_SpanRefuses.l0] at H
        by_cases c28 : x7_1 < (l0_3.length : Int)
        · rw [if_pos c28] at H
          have c28b0 : decide (x7_1 < (l0_3.length : Int)) = true := decide_eq_true c28
          clear c28
          by_cases c29 : 0 ≤ x7_1
          · rw [if_pos c29] at H
            have c29b0 : decide (0 ≤ x7_1) = true := decide_eq_true c29
            clear c29
            by_cases c30 : x5_1.length < 17592186044416
            · rw [if_pos c30] at H
              have LMc30 := Aside0.mk c30
              clear c30
              obtain ⟨y790, hy790⟩ : ∃ y_ : List Int, y_ = (x5_1 ++ [(rd_T47 l0_3 x7_1).f0]) := ⟨_, rfl⟩
              replace H : (if x6_1.length < 8796093022208 then (damasklaw05_SpanRefuses.l0 k1 y790 (x6_1 ++ [(⟨(rd_T47 l0_3 x7_1).f0, (rd_T47 l0_3 x7_1).f0⟩ : S47)]) (wrap64 (x7_1 + 1)) a0_0 a0_1 a0_2 l0_3) else (none)) = some r := by first | (rw [hy790]; with_reducible exact H) | (have H2_ := (Option.bind_some _ _).symm.trans H; rw [hy790]; with_reducible exact H2_) | (have H2_ := (Option.bind_some _ _).symm.trans H; with_reducible exact H2_) | with_reducible exact H | (rw [hy790]; exact H) | exact H
              have Ny790 := Aside0.mk hy790
              clear hy790
              by_cases c31 : x6_1.length < 8796093022208
              · rw [if_pos c31] at H
                have LMc31 := Aside0.mk c31
                clear c31
                obtain ⟨y795, hy795⟩ : ∃ y_ : List (S47), y_ = (x6_1 ++ [(⟨(rd_T47 l0_3 x7_1).f0, (rd_T47 l0_3 x7_1).f0⟩ : S47)]) := ⟨_, rfl⟩
                replace H : (damasklaw05_SpanRefuses.l0 k1 y790 y795 (wrap64 (x7_1 + 1)) a0_0 a0_1 a0_2 l0_3) = some r := by first | (rw [hy795]; with_reducible exact H) | (have H2_ := (Option.bind_some _ _).symm.trans H; rw [hy795]; with_reducible exact H2_) | (have H2_ := (Option.bind_some _ _).symm.trans H; with_reducible exact H2_) | with_reducible exact H | (rw [hy795]; exact H) | exact H
                have Ny795 := Aside0.mk hy795
                clear hy795
                have H' := Aside0.mk H
                clear H
                have hnb32 := NB781_785.out
                have hnc32 := NB785_781.out
                have hcz33_0 : wr.cell? ⟨gb781, 0, none⟩ = some (.int .i64 a0_0) := (bC BK781.out 0).trans rfl
                have hcz33_1 : wr.cell? ⟨gb781, 1, none⟩ = some (.int .i64 a0_1) := (bC BK781.out 1).trans rfl
                have hcz33_2 : wr.cell? ⟨gb781, 2, none⟩ = some (.int .i64 a0_2) := (bC BK781.out 2).trans rfl
                have hcz33_3 : wr.cell? ⟨gb781, 3, none⟩ = some (.slice A0_3 l0_3.length c0_3) := (bC BK781.out 3).trans rfl
                have hfz33_0 := bZ BK781.out 0
                have hfz33_1 := bZ BK781.out 1
                have hfz33_2 := bZ BK781.out 2
                have hfz33_3 := bZ BK781.out 3
                have p789 : 0 ≤ (x7_1 : Int) := of_decide_eq_true (by first | (with_reducible assumption) | assumption)
                have q789 : x7_1 < (l0_3.length : Int) := of_decide_eq_true (by first | (with_reducible assumption) | assumption)
                obtain ⟨ad789, e789, hx789_0, hx789_1⟩ := at_T47 HR0_3.out x7_1 p789 q789
                cases e789
                replace hx789_0 := (HB.out.cell (wB w hx789_0)).trans hx789_0
                replace hx789_1 := (HB.out.cell (wB w hx789_1)).trans hx789_1
                replace p789 := eq_true p789
                replace q789 := eq_true q789
                (try simp only [List.append])
                try go_wp2_with (first | ((with_reducible refine gate_builtin (b := .append) (xs := #[.tmp 70, .tmp 77]) rfl ?_); (try (refine gate_guard (by rfl) ?_; dsimp only)); at_builtin; refine Kd.R_append (Kd.int .i64) (w0 := w) w.heap.size rfl (.tmp 70) (.tmp 77) 26 3 (.int .i64 0) 8 rfl Try.underlying26 info3 rfl (by decide) (by omega) u5 x5_1 ((rd_T47 l0_3 x7_1).f0) [.int .i64 ((rd_T47 l0_3 x7_1).f0)] (fun _ => True) (fun _ => False) rfl rfl ?aP (fun _ hk => hk.elim) ?aF ?aO ?aB ?aS ?aL ?_; (case aP => exact rfl); (case aB => exact (by repeat (first | (with_reducible first | exact HB.out | apply cA | apply cN | apply cD | refine cS ?_ GE781.out | refine cS ?_ GE785.out) | exact HB.out))); (case aF => exact (fun _ _ => trivial)); (case aO => exact (by (with_reducible repeat (first | apply Kd.R_alloc | apply Kd.R_drewN | apply Kd.R_drew)); exact HO_5.out)); (case aS => exact (cZ (by repeat (first | (with_reducible first | exact HB.out | apply cA | apply cN | apply cD | refine cS ?_ GE781.out | refine cS ?_ GE785.out) | exact HB.out)))); (case aL => have := LMc30.out; omega); intro v791 w34 ho hb hg hat; rw [← Ny790.out] at ho; have n0_ := Aside0.mk (Kd.R_over' (by (with_reducible repeat (first | apply Kd.R_alloc | apply Kd.R_drewN | apply Kd.R_drew)); exact HO_6.out) (Kd.R_typed (by (with_reducible repeat (first | apply Kd.R_alloc | apply Kd.R_drewN | apply Kd.R_drew)); exact HO_5.out)) (by decide) hg); have n1_ := Aside0.mk (blk_grown (g := gb781) (o := .cells #[.int .i64 a0_0, .int .i64 a0_1, .int .i64 a0_2, .slice (some ad789) l0_3.length c0_3] 45 (0, 0)) (by (with_reducible repeat (first | apply bN | apply bD | apply bA)); exact BK781.out) hg (Kd.R_ne HO_5.out BK781.out (by decide))); have n2_ := Aside0.mk (blk_grown (g := gb785) (o := .cells #[.int .i64 t782, .int .i64 t783] 47 (0, 0)) (by (with_reducible repeat (first | apply bN | apply bD | apply bA)); exact BK785.out) hg (Kd.R_ne HO_5.out BK785.out (by decide))); have n3_ := Aside0.mk (hb); have n4_ := Aside0.mk (ho); clear HO_6; clear BK781; clear BK785; clear HB; clear HO_5; have HO_6 := n0_; have BK781 := n1_; have BK785 := n2_; have HB := n3_; have HO792 := n4_; clear n0_ n1_ n2_ n3_ n4_; clear ho hb hg hat))
                have n0_ := Aside0.mk (Kd.R_drew HO_6.out)
                have n1_ := Aside0.mk (Kd.R_drew HO792.out)
                have n2_ := Aside0.mk (bD BK781.out)
                have n3_ := Aside0.mk (bD BK785.out)
                have n4_ := Aside0.mk (cD HB.out)
                clear HO_6
                clear HO792
                clear BK781
                clear BK785
                clear HB
                have HO_6 := n0_
                have HO792 := n1_
                have BK781 := n2_
                have BK785 := n3_
                have HB := n4_
                clear n0_ n1_ n2_ n3_ n4_
                have p793 : 0 ≤ (x7_1 : Int) := of_decide_eq_true (by first | (with_reducible assumption) | assumption)
                have q793 : x7_1 < (l0_3.length : Int) := of_decide_eq_true (by first | (with_reducible assumption) | assumption)
                obtain ⟨ad793, e793, hx793_0, hx793_1⟩ := at_T47 HR0_3.out x7_1 p793 q793
                have hw793_1 := hx793_1
                have hw793_0 := hx793_0
                obtain rfl : ad789 = ad793 := (by injection e793)
                replace hx793_0 := (HB.out.cell (wB w hx793_0)).trans hx793_0
                replace hx793_1 := (HB.out.cell (wB w hx793_1)).trans hx793_1
                replace p793 := eq_true p793
                replace q793 := eq_true q793
                have p794 : 0 ≤ (x7_1 : Int) := of_decide_eq_true (by first | (with_reducible assumption) | assumption)
                have q794 : x7_1 < (l0_3.length : Int) := of_decide_eq_true (by first | (with_reducible assumption) | assumption)
                obtain ⟨ad794, e794, hx794_0, hx794_1⟩ := at_T47 HR0_3.out x7_1 p794 q794
                have hw794_1 := hx794_1
                have hw794_0 := hx794_0
                obtain rfl : ad789 = ad794 := (by injection e794)
                replace hx794_0 := (HB.out.cell (wB w hx794_0)).trans hx794_0
                replace hx794_1 := (HB.out.cell (wB w hx794_1)).trans hx794_1
                replace p794 := eq_true p794
                replace q794 := eq_true q794
                refine start_ (n := 17) (S := fun w' => w'.cell? ⟨gb781, 0, none⟩ = some (.int .i64 a0_0) ∧ w'.cell? ⟨gb781, 1, none⟩ = some (.int .i64 a0_1) ∧ w'.cell? ⟨gb781, 2, none⟩ = some (.int .i64 a0_2) ∧ w'.cell? ⟨gb781, 3, none⟩ = some (.slice (some ad789) l0_3.length c0_3) ∧ w'.cell? (ad789.add ((x7_1).toNat * 2)) = some (.int .i64 ((rd_T47 l0_3 x7_1).f0)) ∧ w'.cell? ⟨(ad789.add ((x7_1).toNat * 2)).block, (ad789.add ((x7_1).toNat * 2)).off + 1, none⟩ = some (.int .i64 ((rd_T47 l0_3 x7_1).f1)) ∧ w'.cell? (ad789.add ((x7_1).toNat * 2)) = some (.int .i64 ((rd_T47 l0_3 x7_1).f0)) ∧ w'.cell? ⟨(ad789.add ((x7_1).toNat * 2)).block, (ad789.add ((x7_1).toNat * 2)).off + 1, none⟩ = some (.int .i64 ((rd_T47 l0_3 x7_1).f1))) (ds := []) #[false, false, false, false, false, false, false, false, false, false, false, false, false, false, false, false, false] (by kernel_rfl) rfl rfl ⟨(bC BK781.out 0).trans rfl, (bC BK781.out 1).trans rfl, (bC BK781.out 2).trans rfl, (bC BK781.out 3).trans rfl, ((HB.out.cell (wB w hw793_0)).trans hw793_0), ((HB.out.cell (wB w hw793_1)).trans hw793_1), ((HB.out.cell (wB w hw794_0)).trans hw794_0), ((HB.out.cell (wB w hw794_1)).trans hw794_1)⟩ (fun hHeld => ?_); refine with_tabW damasklaw05_SpanRefuses.tab12 damasklaw05_SpanRefuses.bits12 (fun HT_ HW_ => ?_)
                generalize w34.drew = w35 at HO_6 HO792 BK781 BK785 HB hx793_0 hx793_1 hx794_0 hx794_1 hHeld ⊢
                refine pure_ (i := 0) (N := some 79) (v := ?_) (a' := ?_) #[true, false, false, false, false, false, false, false, false, false, false, false, false, false, false, false, false] rfl rfl (any_of HT_.out (by kernel_rfl)) (fun _ _ _ h => h) (Or.inl ⟨by rfl, ?_⟩) ?_ ?_
                rotate_left
                · intro w'
                  go_simp
                  with_reducible rfl
                rotate_left
                · simp only [Act.put, List.setIfInBounds_toArray, List.set_cons_zero, List.set_cons_succ, i64_w, i32_w]
                  rfl
                refine pure_ (i := 1) (N := some 80) (v := ?_) (a' := ?_) #[true, true, false, false, false, false, false, false, false, false, false, false, false, false, false, false, false] rfl rfl (any_of HT_.out (by kernel_rfl)) (fun _ _ _ h => h) (Or.inl ⟨by rfl, ?_⟩) ?_ ?_
                rotate_left
                · intro w'
                  go_simp
                  with_reducible rfl
                rotate_left
                · simp only [Act.put, List.setIfInBounds_toArray, List.set_cons_zero, List.set_cons_succ, i64_w, i32_w]
                  rfl
                refine pure_ (i := 3) (N := some 82) (v := ?_) (a' := ?_) #[true, true, false, true, false, false, false, false, false, false, false, false, false, false, false, false, false] rfl rfl (any_of HT_.out (by kernel_rfl)) (fun _ _ _ h => h) (Or.inl ⟨by rfl, ?_⟩) ?_ ?_
                rotate_left
                · intro w'
                  go_simp
                  with_reducible rfl
                rotate_left
                · simp only [Act.put, List.setIfInBounds_toArray, List.set_cons_zero, List.set_cons_succ, i64_w, i32_w]
                  rfl
                refine pure_ (i := 7) (N := some 86) (v := ?_) (a' := ?_) #[true, true, false, true, false, false, false, true, false, false, false, false, false, false, false, false, false] rfl rfl (any_of HT_.out (by kernel_rfl)) (fun _ _ _ h => h) (Or.inl ⟨by rfl, ?_⟩) ?_ ?_
                rotate_left
                · intro w'
                  go_simp
                  with_reducible rfl
                rotate_left
                · simp only [Act.put, List.setIfInBounds_toArray, List.set_cons_zero, List.set_cons_succ, i64_w, i32_w]
                  rfl
                refine pure_ (i := 9) (N := some 88) (v := ?_) (a' := ?_) #[true, true, false, true, false, false, false, true, false, true, false, false, false, false, false, false, false] rfl rfl (any_of HT_.out (by kernel_rfl)) (fun _ _ _ h => h) (Or.inl ⟨by rfl, ?_⟩) ?_ ?_
                rotate_left
                · intro w'
                  go_simp
                  with_reducible rfl
                rotate_left
                · simp only [Act.put, List.setIfInBounds_toArray, List.set_cons_zero, List.set_cons_succ, i64_w, i32_w]
                  rfl
                refine take_ (i := 2) (N := some 81) (v := ?_) (a' := ?_) #[true, true, true, true, false, false, false, true, false, true, false, false, false, false, false, false, false] rfl rfl (take_ofW HT_.out HW_.out (by kernel_rfl)) (fun _ _ _ h => h) (Or.inl ⟨by rfl, ?_⟩) hHeld ?_ ?_
                rotate_left
                · rintro w' ⟨s0, s1, s2, s3, s4, s5, s6, s7⟩
                  go_simp
                  with_reducible rfl
                rotate_left
                · simp only [Act.put, List.setIfInBounds_toArray, List.set_cons_zero, List.set_cons_succ, i64_w, i32_w]
                  rfl
                refine pure_ (i := 4) (N := some 83) (v := ?_) (a' := ?_) #[true, true, true, true, true, false, false, true, false, true, false, false, false, false, false, false, false] rfl rfl (any_of HT_.out (by kernel_rfl)) (fun _ _ _ h => h) (Or.inl ⟨by rfl, ?_⟩) ?_ ?_
                rotate_left
                · intro w'
                  go_simp
                  with_reducible rfl
                rotate_left
                · simp only [Act.put, List.setIfInBounds_toArray, List.set_cons_zero, List.set_cons_succ, i64_w, i32_w]
                  rfl
                refine pure_ (i := 5) (N := some 84) (v := ?_) (a' := ?_) #[true, true, true, true, true, true, false, true, false, true, false, false, false, false, false, false, false] rfl rfl (any_of HT_.out (by kernel_rfl)) (fun _ _ _ h => h) (Or.inl ⟨by rfl, ?_⟩) ?_ ?_
                rotate_left
                · intro w'
                  go_simp
                  with_reducible rfl
                rotate_left
                · simp only [Act.put, List.setIfInBounds_toArray, List.set_cons_zero, List.set_cons_succ, i64_w, i32_w]
                  rfl
                refine take_ (i := 6) (N := some 85) (v := ?_) (a' := ?_) #[true, true, true, true, true, true, true, true, false, true, false, false, false, false, false, false, false] rfl rfl (take_ofW HT_.out HW_.out (by kernel_rfl)) (fun _ _ _ h => h) (Or.inl ⟨by rfl, ?_⟩) hHeld ?_ ?_
                rotate_left
                · rintro w' ⟨s0, s1, s2, s3, s4, s5, s6, s7⟩
                  go_simp
                  with_reducible rfl
                rotate_left
                · simp only [Act.put, List.setIfInBounds_toArray, List.set_cons_zero, List.set_cons_succ, i64_w, i32_w]
                  rfl
                refine take_ (i := 8) (N := some 87) (v := ?_) (a' := ?_) #[true, true, true, true, true, true, true, true, true, true, false, false, false, false, false, false, false] rfl rfl (take_ofW HT_.out HW_.out (by kernel_rfl)) (fun _ _ _ h => h) (Or.inl ⟨by rfl, ?_⟩) hHeld ?_ ?_
                rotate_left
                · rintro w' ⟨s0, s1, s2, s3, s4, s5, s6, s7⟩
                  go_simp
                  with_reducible rfl
                rotate_left
                · simp only [Act.put, List.setIfInBounds_toArray, List.set_cons_zero, List.set_cons_succ, i64_w, i32_w]
                  rfl
                refine pure_ (i := 10) (N := some 89) (v := ?_) (a' := ?_) #[true, true, true, true, true, true, true, true, true, true, true, false, false, false, false, false, false] rfl rfl (any_of HT_.out (by kernel_rfl)) (fun _ _ _ h => h) (Or.inl ⟨by rfl, ?_⟩) ?_ ?_
                rotate_left
                · intro w'
                  go_simp
                  with_reducible rfl
                rotate_left
                · simp only [Act.put, List.setIfInBounds_toArray, List.set_cons_zero, List.set_cons_succ, i64_w, i32_w]
                  rfl
                refine pure_ (i := 11) (N := some 90) (v := ?_) (a' := ?_) #[true, true, true, true, true, true, true, true, true, true, true, true, false, false, false, false, false] rfl rfl (any_of HT_.out (by kernel_rfl)) (fun _ _ _ h => h) (Or.inl ⟨by rfl, ?_⟩) ?_ ?_
                rotate_left
                · intro w'
                  go_simp
                  with_reducible rfl
                rotate_left
                · simp only [Act.put, List.setIfInBounds_toArray, List.set_cons_zero, List.set_cons_succ, i64_w, i32_w]
                  rfl
                refine take_ (i := 12) (N := some 91) (v := ?_) (a' := ?_) #[true, true, true, true, true, true, true, true, true, true, true, true, true, false, false, false, false] rfl rfl (take_ofW HT_.out HW_.out (by kernel_rfl)) (fun _ _ _ h => h) (Or.inl ⟨by rfl, ?_⟩) hHeld ?_ ?_
                rotate_left
                · rintro w' ⟨s0, s1, s2, s3, s4, s5, s6, s7⟩
                  go_simp
                  with_reducible rfl
                rotate_left
                · simp only [Act.put, List.setIfInBounds_toArray, List.set_cons_zero, List.set_cons_succ, i64_w, i32_w]
                  rfl
                refine pure_ (i := 13) (N := some 92) (v := ?_) (a' := ?_) #[true, true, true, true, true, true, true, true, true, true, true, true, true, true, false, false, false] rfl rfl (any_of HT_.out (by kernel_rfl)) (fun _ _ _ h => h) (Or.inl ⟨by rfl, ?_⟩) ?_ ?_
                rotate_left
                · intro w'
                  go_simp
                  with_reducible rfl
                rotate_left
                · simp only [Act.put, List.setIfInBounds_toArray, List.set_cons_zero, List.set_cons_succ, i64_w, i32_w]
                  rfl
                refine one_ (i := 14) (N := some 93) #[true, true, true, true, true, true, true, true, true, true, true, true, true, true, true, false, false] rfl rfl (one_of HT_.out (by kernel_rfl)) (by decide) (fun K hK => ?_)
                refine value_ (w1 := ?_) (v := ?_) (by rfl) rfl ?_ ?_
                rotate_left 2
                · go_simp
                  constructor
                  · rfl
                  · rfl
                refine hK.out _ _ ⟨(bC (bA BK781.out _) 0).trans rfl, (bC (bA BK781.out _) 1).trans rfl, (bC (bA BK781.out _) 2).trans rfl, (bC (bA BK781.out _) 3).trans rfl, (World.cell?_alloc_lt _ _ _ (wB _ (((HB.out.cell (wB w hw793_0)).trans hw793_0)))).trans (((HB.out.cell (wB w hw793_0)).trans hw793_0)), (World.cell?_alloc_lt _ _ _ (wB _ (((HB.out.cell (wB w hw793_1)).trans hw793_1)))).trans (((HB.out.cell (wB w hw793_1)).trans hw793_1)), (World.cell?_alloc_lt _ _ _ (wB _ (((HB.out.cell (wB w hw794_0)).trans hw794_0)))).trans (((HB.out.cell (wB w hw794_0)).trans hw794_0)), (World.cell?_alloc_lt _ _ _ (wB _ (((HB.out.cell (wB w hw794_1)).trans hw794_1)))).trans (((HB.out.cell (wB w hw794_1)).trans hw794_1))⟩ (fun hHeld => ?_)
                clear hK K
                refine norm_ (a' := ?_) ?_ ?_
                rotate_left
                · show Act.put _ (some 93) _ = _
                  simp only [Act.put, List.setIfInBounds_toArray, List.set_cons_zero, List.set_cons_succ, i64_w, i32_w]
                  rfl
                refine one_ (i := 15) (N := some 94) #[true, true, true, true, true, true, true, true, true, true, true, true, true, true, true, true, false] rfl rfl (one_of HT_.out (by kernel_rfl)) (by decide) (fun K hK => ?_)
                refine Kd.R_append_step k47 (w0 := w) w.heap.size (by rfl) (.tmp 79) (.tmp 93) 43 47 (.agg #[(.int .i64 0), (.int .i64 0)]) 16 rfl Try.underlying43 info47 rfl (by decide) (by omega) u6 x6_1 (⟨(rd_T47 l0_3 x7_1).f0, (rd_T47 l0_3 x7_1).f0⟩ : S47) [.int .i64 ((rd_T47 l0_3 x7_1).f0), .int .i64 ((rd_T47 l0_3 x7_1).f0)] (fun k_ => k_ ≠ gb785) (fun _ => False) rfl rfl ?aP (fun _ hk => hk.elim) ?aF ?aO ?aB ?aS ?aL ?_
                (case aP => exact k47_mkM _ _ _ (⟨(rd_T47 l0_3 x7_1).f0, (rd_T47 l0_3 x7_1).f0⟩ : S47))
                (case aB => exact (by repeat (first | (with_reducible first | exact HB.out | apply cA | apply cN | apply cD | refine cS ?_ GE781.out | refine cS ?_ GE785.out) | exact HB.out)))
                (case aF => exact (fun k_ hk => Kd.freshB (g := gb785) (o := .cells #[.int .i64 t782, .int .i64 t783] 47 (0, 0)) (by (with_reducible repeat (first | apply bN | apply bD | apply bA)); exact BK785.out) k_ hk))
                (case aO => exact (by (with_reducible repeat (first | apply Kd.R_alloc | apply Kd.R_drewN | apply Kd.R_drew)); exact HO_6.out))
                (case aS => exact (cZ (by repeat (first | (with_reducible first | exact HB.out | apply cA | apply cN | apply cD | refine cS ?_ GE781.out | refine cS ?_ GE785.out) | exact HB.out))))
                (case aL => have := LMc31.out; omega)
                intro v796 w36 ho hb hg hat
                rw [← Ny795.out] at ho
                have n0_ := Aside0.mk (blk_grown (g := gb781) (o := .cells #[.int .i64 a0_0, .int .i64 a0_1, .int .i64 a0_2, .slice (some ad789) l0_3.length c0_3] 45 (0, 0)) (by (with_reducible repeat (first | apply bN | apply bD | apply bA)); exact BK781.out) hg (Kd.R_ne HO_6.out BK781.out (by decide)))
                have n1_ := Aside0.mk (blk_grown (g := gb785) (o := .cells #[.int .i64 t782, .int .i64 t783] 47 (0, 0)) (by (with_reducible repeat (first | apply bN | apply bD | apply bA)); exact BK785.out) hg (Kd.R_away HO_6.out (fun _ hk => hk)))
                have n2_ := Aside0.mk (Kd.R_over' (by (with_reducible repeat (first | apply Kd.R_alloc | apply Kd.R_drewN | apply Kd.R_drew)); exact HO792.out) (Kd.R_typed (by (with_reducible repeat (first | apply Kd.R_alloc | apply Kd.R_drewN | apply Kd.R_drew)); exact HO_6.out)) (by decide) hg)
                have n3_ := Aside0.mk (hb)
                have n4_ := Aside0.mk (ho)
                clear BK781
                clear BK785
                clear HO792
                clear HB
                clear HO_6
                have BK781 := n0_
                have BK785 := n1_
                have HO792 := n2_
                have HB := n3_
                have HO797 := n4_
                clear n0_ n1_ n2_ n3_ n4_
                clear ho hb hg hat
                refine hK.out _ _ ⟨(bC BK781.out 0).trans rfl, (bC BK781.out 1).trans rfl, (bC BK781.out 2).trans rfl, (bC BK781.out 3).trans rfl, ((HB.out.cell (wB w hw793_0)).trans hw793_0), ((HB.out.cell (wB w hw793_1)).trans hw793_1), ((HB.out.cell (wB w hw794_0)).trans hw794_0), ((HB.out.cell (wB w hw794_1)).trans hw794_1)⟩ (fun hHeld => ?_)
                clear hK K
                refine norm_ (a' := ?_) ?_ ?_
                rotate_left
                · show Act.put _ (some 94) _ = _
                  simp only [Act.put, List.setIfInBounds_toArray, List.set_cons_zero, List.set_cons_succ, i64_w, i32_w]
                  rfl
                refine pure_ (i := 16) (N := some 6) (v := ?_) (a' := ?_) #[true, true, true, true, true, true, true, true, true, true, true, true, true, true, true, true, true] rfl rfl (any_of HT_.out (by kernel_rfl)) (fun _ _ _ h => h) (Or.inl ⟨by rfl, ?_⟩) ?_ ?_
                rotate_left
                · intro w'
                  go_simp
                  with_reducible rfl
                rotate_left
                · simp only [Act.put, List.setIfInBounds_toArray, List.set_cons_zero, List.set_cons_succ, i64_w, i32_w]
                  rfl
                refine done_ (done_of HT_.out (by kernel_rfl)) ?_
                (try simp only [List.append])
                try go_wp2
                go_roundg k1
                case measure => have := HK1.out; omega
                case rel => exact ⟨(y790), (y795), (wrap64 (x7_1 + 1)), (by first | rfl | (simp; done) | (simp [*]; done)), H', ⟨by have := HK1.out; omega⟩, ⟨by (with_reducible repeat (first | apply Kd.R_alloc | apply Kd.R_drewN | apply Kd.R_drew)); exact HO792.out⟩, ⟨by (with_reducible repeat (first | apply Kd.R_alloc | apply Kd.R_drewN | apply Kd.R_drew)); exact HO797.out⟩, ⟨by (with_reducible repeat (first | apply bN | apply bD | apply bA)); exact BK781.out⟩, ⟨by (with_reducible repeat (first | apply bN | apply bD | apply bA)); exact BK785.out⟩, ⟨by repeat (first | (with_reducible first | exact HB.out | apply cA | apply cN | apply cD | refine cS ?_ GE781.out | refine cS ?_ GE785.out) | exact HB.out)⟩⟩
              rw [if_neg c31] at H
              exact absurd H (by simp)
            rw [if_neg c30] at H
            exact absurd H (by simp)
          rw [if_neg c29] at H
          exact absurd H (by simp)
        rw [if_neg c28] at H
        have c28b0 : decide (x7_1 < (l0_3.length : Int)) = false := decide_eq_false c28
        clear c28
        replace H := Option.bind_eq_some_iff.mp H
        obtain ⟨⟨t798, t799, t800⟩, A370, H⟩ := H
        replace H : ((damaskref04_Value.f k1 a0_0 a0_1 a0_2 x5_1).bind fun bt802 => (if t800 = bt802.2 then (if bt802.2 = 0 then ((span_Has.f t798 t799 bt802.1).bind fun t804 => (some t804)) else (some true)) else (some false))) = some r := H
        have A37 := Aside0.mk A370
        clear A370
        replace H := Option.bind_eq_some_iff.mp H
        obtain ⟨⟨t802, t803⟩, A380, H⟩ := H
        replace H : (if t800 = t803 then (if t803 = 0 then ((span_Has.f t798 t799 t802).bind fun t804 => (some t804)) else (some true)) else (some false)) = some r := H
        have A38 := Aside0.mk A380
        clear A380
        by_cases c39 : t800 = t803
        · rw [if_pos c39] at H
          have c39b0 : (t800 == t803) = true := beq_iff_eq.mpr c39
          have c39b1 : (t800 != t803) = false := bne_eq_false_iff_eq.mpr c39
          clear c39
          by_cases c40 : t803 = 0
          · rw [if_pos c40] at H
            have c40b0 : (t803 == 0) = true := beq_iff_eq.mpr c40
            have c40b1 : (t803 != 0) = false := bne_eq_false_iff_eq.mpr c40
            clear c40
            replace H := Option.bind_eq_some_iff.mp H
            obtain ⟨t804, A410, H⟩ := H
            replace H : (some t804) = some r := H
            have A41 := Aside0.mk A410
            clear A410
            obtain rfl := Option.some.inj H
            have hnb42 := NB781_785.out
            have hnc42 := NB785_781.out
            have hcz43_0 : wr.cell? ⟨gb781, 0, none⟩ = some (.int .i64 a0_0) := (bC BK781.out 0).trans rfl
            have hcz43_1 : wr.cell? ⟨gb781, 1, none⟩ = some (.int .i64 a0_1) := (bC BK781.out 1).trans rfl
            have hcz43_2 : wr.cell? ⟨gb781, 2, none⟩ = some (.int .i64 a0_2) := (bC BK781.out 2).trans rfl
            have hcz43_3 : wr.cell? ⟨gb781, 3, none⟩ = some (.slice A0_3 l0_3.length c0_3) := (bC BK781.out 3).trans rfl
            have hfz43_0 := bZ BK781.out 0
            have hfz43_1 := bZ BK781.out 1
            have hfz43_2 := bZ BK781.out 2
            have hfz43_3 := bZ BK781.out 3
            obtain ⟨Ao44, co44, eo44⟩ := Kd.R_slice HO_6.out
            subst eo44
            (try simp only [List.append])
            go_wp2_with (first | ((with_reducible refine gate_callee (f := 26) rfl ?_); refine goesL_ (some 103) rfl rfl Try.func26 (by kernel_rfl) rfl #[.int .i64 a0_0, .int .i64 a0_1, .int .i64 a0_2, .slice Ao44 x6_1.length co44] rfl (by (try simp only [List.map_toArray, List.map_cons, List.map_nil]); first | done | rfl | (simp only [List.length_drop, List.length_take]; rfl)) ?_; (with_reducible refine (span_Of.calls k1 a0_0 a0_1 a0_2 _ _ x6_1 t798 t799 t800 _ ?side1 ?side2 A37.out).mono ?_); (case side1 => repeat (first | exact (Kd.R_reads' HO_6.out).2.2 | (with_reducible refine Kd.C_alloc ?_ _) | (with_reducible refine Kd.C_drewN ?_ _) | (with_reducible refine Kd.C_drew ?_))); (case side2 => exact (Kd.R_reads' HO_6.out).2.1); rintro e w45 ⟨rfl, hb⟩; refine ⟨_, rfl, ?_⟩; have n0_ := Aside0.mk (Kd.R_below (by (with_reducible repeat (first | apply Kd.R_alloc | apply Kd.R_drewN | apply Kd.R_drew)); exact HO_5.out) hb); have n1_ := Aside0.mk (Kd.R_below (by (with_reducible repeat (first | apply Kd.R_alloc | apply Kd.R_drewN | apply Kd.R_drew)); exact HO_6.out) hb); have n2_ := Aside0.mk (bB (g := gb781) (o := .cells #[.int .i64 a0_0, .int .i64 a0_1, .int .i64 a0_2, .slice A0_3 l0_3.length c0_3] 45 (0, 0)) (by (with_reducible repeat (first | apply bN | apply bD | apply bA)); exact BK781.out) hb); have n3_ := Aside0.mk (bB (g := gb785) (o := .cells #[.int .i64 t782, .int .i64 t783] 47 (0, 0)) (by (with_reducible repeat (first | apply bN | apply bD | apply bA)); exact BK785.out) hb); have n4_ := Aside0.mk (cT (by repeat (first | (with_reducible first | exact HB.out | apply cA | apply cN | apply cD | refine cS ?_ GE781.out | refine cS ?_ GE785.out) | exact HB.out)) hb); clear HO_5; clear HO_6; clear BK781; clear BK785; clear HB; have HO_5 := n0_; have HO_6 := n1_; have BK781 := n2_; have BK785 := n3_; have HB := n4_; clear n0_ n1_ n2_ n3_ n4_; (try clear hb); (try clear hb2); (try clear hk); (try clear hi)) | ((with_reducible refine gate_dst (N := 8) rfl ?_); (try (refine gate_guard (by rfl) ?_; dsimp only)); refine box_event ?hg (N := 8) ?hd (cs := #[.int .i64 0, .int .i64 0]) (t := 47) ?hr ?_; (case hd => rfl); (case hg => rfl); (case hr => first | (go_simp; done) | (go_simp; rfl)); intro gb801 hg w46 hbox hb; have n0_ := Aside0.mk (Kd.R_below (by (with_reducible repeat (first | apply Kd.R_alloc | apply Kd.R_drewN | apply Kd.R_drew)); exact HO_5.out) hb); have n1_ := Aside0.mk (Kd.R_below (Kd.R_elderB (by (with_reducible repeat (first | apply Kd.R_alloc | apply Kd.R_drewN | apply Kd.R_drew)); exact HO_6.out) gb801 (Nat.le_of_eq hg.symm)) hb); have n2_ := Aside0.mk (bB (g := gb781) (o := .cells #[.int .i64 a0_0, .int .i64 a0_1, .int .i64 a0_2, .slice A0_3 l0_3.length c0_3] 45 (0, 0)) (by (with_reducible repeat (first | apply bN | apply bD | apply bA)); exact BK781.out) hb); have n3_ := Aside0.mk (bB (g := gb785) (o := .cells #[.int .i64 t782, .int .i64 t783] 47 (0, 0)) (by (with_reducible repeat (first | apply bN | apply bD | apply bA)); exact BK785.out) hb); have n4_ := Aside0.mk (cT (by repeat (first | (with_reducible first | exact HB.out | apply cA | apply cN | apply cD | refine cS ?_ GE781.out | refine cS ?_ GE785.out) | exact HB.out)) hb); have n5_ := Aside0.mk (hbox); have n6_ := Aside0.mk ((by rw [hg]; exact (cZ (by repeat (first | (with_reducible first | exact HB.out | apply cA | apply cN | apply cD | refine cS ?_ GE781.out | refine cS ?_ GE785.out) | exact HB.out))) : w.heap.size ≤ gb801)); have n7_ := n6_; have n8_ := Aside0.mk ((by rw [hg]; exact Nat.ne_of_lt (blk_lt (g := gb781) (o := .cells #[.int .i64 a0_0, .int .i64 a0_1, .int .i64 a0_2, .slice A0_3 l0_3.length c0_3] 45 (0, 0)) (by (with_reducible repeat (first | apply bN | apply bD | apply bA)); exact BK781.out)) : gb781 ≠ gb801)); have n9_ := Aside0.mk ((by rw [hg]; exact Nat.ne_of_gt (blk_lt (g := gb781) (o := .cells #[.int .i64 a0_0, .int .i64 a0_1, .int .i64 a0_2, .slice A0_3 l0_3.length c0_3] 45 (0, 0)) (by (with_reducible repeat (first | apply bN | apply bD | apply bA)); exact BK781.out)) : gb801 ≠ gb781)); have n10_ := Aside0.mk ((by rw [hg]; exact Nat.ne_of_lt (blk_lt (g := gb785) (o := .cells #[.int .i64 t782, .int .i64 t783] 47 (0, 0)) (by (with_reducible repeat (first | apply bN | apply bD | apply bA)); exact BK785.out)) : gb785 ≠ gb801)); have n11_ := Aside0.mk ((by rw [hg]; exact Nat.ne_of_gt (blk_lt (g := gb785) (o := .cells #[.int .i64 t782, .int .i64 t783] 47 (0, 0)) (by (with_reducible repeat (first | apply bN | apply bD | apply bA)); exact BK785.out)) : gb801 ≠ gb785)); clear HO_5; clear HO_6; clear BK781; clear BK785; clear HB; have HO_5 := n0_; have HO_6 := n1_; have BK781 := n2_; have BK785 := n3_; have HB := n4_; have BK801 := n5_; have GW801 := n6_; have GE801 := n7_; have NB781_801 := n8_; have NB801_781 := n9_; have NB785_801 := n10_; have NB801_785 := n11_; clear n0_ n1_ n2_ n3_ n4_ n5_ n6_ n7_ n8_ n9_ n10_ n11_; clear hb hbox hg; have hnb47 := NB801_781.out; have hnc47 := NB781_801.out; have hnb48 := NB801_785.out; have hnc48 := NB785_801.out; have hcz49_0 : w46.cell? ⟨gb801, 0, none⟩ = some (.int .i64 0) := (bC BK801.out 0).trans rfl; have hcz49_1 : w46.cell? ⟨gb801, 1, none⟩ = some (.int .i64 0) := (bC BK801.out 1).trans rfl; have hfz49_0 := bZ BK801.out 0; have hfz49_1 := bZ BK801.out 1; have hcz50_0 : w46.cell? ⟨gb781, 0, none⟩ = some (.int .i64 a0_0) := (bC BK781.out 0).trans rfl; have hcz50_1 : w46.cell? ⟨gb781, 1, none⟩ = some (.int .i64 a0_1) := (bC BK781.out 1).trans rfl; have hcz50_2 : w46.cell? ⟨gb781, 2, none⟩ = some (.int .i64 a0_2) := (bC BK781.out 2).trans rfl; have hcz50_3 : w46.cell? ⟨gb781, 3, none⟩ = some (.slice A0_3 l0_3.length c0_3) := (bC BK781.out 3).trans rfl; have hfz50_0 := bZ BK781.out 0; have hfz50_1 := bZ BK781.out 1; have hfz50_2 := bZ BK781.out 2; have hfz50_3 := bZ BK781.out 3; obtain ⟨Ao51, co51, eo51⟩ := Kd.R_slice HO_5.out; subst eo51) | ((with_reducible refine gate_callee (f := 24) rfl ?_); refine goesL_ (some 114) rfl rfl Try.func24 (by kernel_rfl) rfl #[.int .i64 a0_0, .int .i64 a0_1, .int .i64 a0_2, .slice Ao51 x5_1.length co51] rfl (by (try simp only [List.map_toArray, List.map_cons, List.map_nil]); first | done | rfl | (simp only [List.length_drop, List.length_take]; rfl)) ?_; (with_reducible refine (damaskref04_Value.calls k1 a0_0 a0_1 a0_2 _ _ x5_1 t802 t803 _ ?side1 ?side2 A38.out).mono ?_); (case side1 => refine (Kd.R_reads' (e := 3) (base := w.heap.size) (ok := fun k_ => True) (n := x5_1.length) (c := co51) ?_).2.2; exact (by (with_reducible repeat (first | apply Kd.R_alloc | apply Kd.R_drewN | apply Kd.R_drew)); exact (Kd.R_mono (Kd.R_far (p := ⟨gb801, 1, none⟩) (Kd.R_far (p := ⟨gb801, 0, none⟩) (Kd.R_types HO_5.out BK801.out (by decide)) (fun _ hk => hk.2) (.int .i64 t798)) (fun _ hk => hk.2) (.int .i64 t799)) (fun _ h_ => h_.1)))); (case side2 => exact (Kd.R_reads' HO_5.out).2.1); rintro e w' ⟨rfl, ⟨nd, rfl⟩⟩; refine ⟨_, rfl, ?_⟩) | (go_at_call 32; (with_reducible refine (span_Has.calls t798 t799 t802 t804 _ A41.out).mono ?_); rintro e w52 ⟨rfl, hb⟩; have n0_ := Aside0.mk (Kd.R_below (by (with_reducible repeat (first | apply Kd.R_alloc | apply Kd.R_drewN | apply Kd.R_drew)); exact (Kd.R_mono (Kd.R_far (p := ⟨gb801, 1, none⟩) (Kd.R_far (p := ⟨gb801, 0, none⟩) (Kd.R_types HO_5.out BK801.out (by decide)) (fun _ hk => hk.2) (.int .i64 t798)) (fun _ hk => hk.2) (.int .i64 t799)) (fun _ h_ => h_.1))) hb); have n1_ := Aside0.mk (Kd.R_below (by (with_reducible repeat (first | apply Kd.R_alloc | apply Kd.R_drewN | apply Kd.R_drew)); exact (Kd.R_mono (Kd.R_far (p := ⟨gb801, 1, none⟩) (Kd.R_far (p := ⟨gb801, 0, none⟩) (Kd.R_mono HO_6.out (fun k_ hk => (⟨hk, hk.2⟩ : _ ∧ k_ ≠ gb801))) (fun _ hk => hk.2) (.int .i64 t798)) (fun _ hk => hk.2) (.int .i64 t799)) (fun _ h_ => h_.1))) hb); have n2_ := Aside0.mk (bB (g := gb781) (o := .cells #[.int .i64 a0_0, .int .i64 a0_1, .int .i64 a0_2, .slice A0_3 l0_3.length c0_3] 45 (0, 0)) (by (with_reducible repeat (first | apply bN | apply bD | apply bA)); refine bF ?_ NB781_801.out _; (with_reducible repeat (first | apply bN | apply bD | apply bA)); refine bF ?_ NB781_801.out _; (with_reducible repeat (first | apply bN | apply bD | apply bA)); exact BK781.out) hb); have n3_ := Aside0.mk (bB (g := gb785) (o := .cells #[.int .i64 t782, .int .i64 t783] 47 (0, 0)) (by (with_reducible repeat (first | apply bN | apply bD | apply bA)); refine bF ?_ NB785_801.out _; (with_reducible repeat (first | apply bN | apply bD | apply bA)); refine bF ?_ NB785_801.out _; (with_reducible repeat (first | apply bN | apply bD | apply bA)); exact BK785.out) hb); have n4_ := Aside0.mk (bB (g := gb801) (o := .cells #[.int .i64 t798, .int .i64 t799] 47 (0, 0)) (by (with_reducible repeat (first | apply bN | apply bD | apply bA)); refine bP (cs := #[.int .i64 t798, .int .i64 0]) ?_ 1 _ rfl; (with_reducible repeat (first | apply bN | apply bD | apply bA)); refine bP (cs := #[.int .i64 0, .int .i64 0]) ?_ 0 _ rfl; (with_reducible repeat (first | apply bN | apply bD | apply bA)); exact BK801.out) hb); have n5_ := Aside0.mk (cT (by repeat (first | (with_reducible first | exact HB.out | apply cA | apply cN | apply cD | refine cS ?_ GE781.out | refine cS ?_ GE785.out | refine cS ?_ GE801.out) | exact HB.out)) hb); clear HO_5; clear HO_6; clear BK781; clear BK785; clear BK801; clear HB; have HO_5 := n0_; have HO_6 := n1_; have BK781 := n2_; have BK785 := n3_; have BK801 := n4_; have HB := n5_; clear n0_ n1_ n2_ n3_ n4_ n5_; (try clear hb); (try clear hb2); (try clear hk); (try clear hi)))
            go_ret
            exact ⟨by first | rfl | (simp [errW_none, errW_some] <;> rfl) | (simp [*, errW_none, errW_some] <;> rfl), by repeat (first | (with_reducible first | exact HB.out | apply cA | apply cN | apply cD | refine cS ?_ GE781.out | refine cS ?_ GE785.out | refine cS ?_ GE801.out) | exact HB.out)⟩
          rw [if_neg c40] at H
          have c40b0 : (t803 == 0) = false := beq_eq_false_iff_ne.mpr c40
          have c40b1 : (t803 != 0) = true := bne_iff_ne.mpr c40
          obtain rfl := Option.some.inj H
          have hnb53 := NB781_785.out
          have hnc53 := NB785_781.out
          have hcz54_0 : wr.cell? ⟨gb781, 0, none⟩ = some (.int .i64 a0_0) := (bC BK781.out 0).trans rfl
          have hcz54_1 : wr.cell? ⟨gb781, 1, none⟩ = some (.int .i64 a0_1) := (bC BK781.out 1).trans rfl
          have hcz54_2 : wr.cell? ⟨gb781, 2, none⟩ = some (.int .i64 a0_2) := (bC BK781.out 2).trans rfl
          have hcz54_3 : wr.cell? ⟨gb781, 3, none⟩ = some (.slice A0_3 l0_3.length c0_3) := (bC BK781.out 3).trans rfl
          have hfz54_0 := bZ BK781.out 0
          have hfz54_1 := bZ BK781.out 1
          have hfz54_2 := bZ BK781.out 2
          have hfz54_3 := bZ BK781.out 3
          obtain ⟨Ao55, co55, eo55⟩ := Kd.R_slice HO_6.out
          subst eo55
          (try simp only [List.append])
          go_wp2_with (first | ((with_reducible refine gate_callee (f := 26) rfl ?_); refine goesL_ (some 103) rfl rfl Try.func26 (by kernel_rfl) rfl #[.int .i64 a0_0, .int .i64 a0_1, .int .i64 a0_2, .slice Ao55 x6_1.length co55] rfl (by (try simp only [List.map_toArray, List.map_cons, List.map_nil]); first | done | rfl | (simp only [List.length_drop, List.length_take]; rfl)) ?_; (with_reducible refine (span_Of.calls k1 a0_0 a0_1 a0_2 _ _ x6_1 t798 t799 t800 _ ?side1 ?side2 A37.out).mono ?_); (case side1 => repeat (first | exact (Kd.R_reads' HO_6.out).2.2 | (with_reducible refine Kd.C_alloc ?_ _) | (with_reducible refine Kd.C_drewN ?_ _) | (with_reducible refine Kd.C_drew ?_))); (case side2 => exact (Kd.R_reads' HO_6.out).2.1); rintro e w56 ⟨rfl, hb⟩; refine ⟨_, rfl, ?_⟩; have n0_ := Aside0.mk (Kd.R_below (by (with_reducible repeat (first | apply Kd.R_alloc | apply Kd.R_drewN | apply Kd.R_drew)); exact HO_5.out) hb); have n1_ := Aside0.mk (Kd.R_below (by (with_reducible repeat (first | apply Kd.R_alloc | apply Kd.R_drewN | apply Kd.R_drew)); exact HO_6.out) hb); have n2_ := Aside0.mk (bB (g := gb781) (o := .cells #[.int .i64 a0_0, .int .i64 a0_1, .int .i64 a0_2, .slice A0_3 l0_3.length c0_3] 45 (0, 0)) (by (with_reducible repeat (first | apply bN | apply bD | apply bA)); exact BK781.out) hb); have n3_ := Aside0.mk (bB (g := gb785) (o := .cells #[.int .i64 t782, .int .i64 t783] 47 (0, 0)) (by (with_reducible repeat (first | apply bN | apply bD | apply bA)); exact BK785.out) hb); have n4_ := Aside0.mk (cT (by repeat (first | (with_reducible first | exact HB.out | apply cA | apply cN | apply cD | refine cS ?_ GE781.out | refine cS ?_ GE785.out) | exact HB.out)) hb); clear HO_5; clear HO_6; clear BK781; clear BK785; clear HB; have HO_5 := n0_; have HO_6 := n1_; have BK781 := n2_; have BK785 := n3_; have HB := n4_; clear n0_ n1_ n2_ n3_ n4_; (try clear hb); (try clear hb2); (try clear hk); (try clear hi)) | ((with_reducible refine gate_dst (N := 8) rfl ?_); (try (refine gate_guard (by rfl) ?_; dsimp only)); refine box_event ?hg (N := 8) ?hd (cs := #[.int .i64 0, .int .i64 0]) (t := 47) ?hr ?_; (case hd => rfl); (case hg => rfl); (case hr => first | (go_simp; done) | (go_simp; rfl)); intro gb801 hg w57 hbox hb; have n0_ := Aside0.mk (Kd.R_below (by (with_reducible repeat (first | apply Kd.R_alloc | apply Kd.R_drewN | apply Kd.R_drew)); exact HO_5.out) hb); have n1_ := Aside0.mk (Kd.R_below (Kd.R_elderB (by (with_reducible repeat (first | apply Kd.R_alloc | apply Kd.R_drewN | apply Kd.R_drew)); exact HO_6.out) gb801 (Nat.le_of_eq hg.symm)) hb); have n2_ := Aside0.mk (bB (g := gb781) (o := .cells #[.int .i64 a0_0, .int .i64 a0_1, .int .i64 a0_2, .slice A0_3 l0_3.length c0_3] 45 (0, 0)) (by (with_reducible repeat (first | apply bN | apply bD | apply bA)); exact BK781.out) hb); have n3_ := Aside0.mk (bB (g := gb785) (o := .cells #[.int .i64 t782, .int .i64 t783] 47 (0, 0)) (by (with_reducible repeat (first | apply bN | apply bD | apply bA)); exact BK785.out) hb); have n4_ := Aside0.mk (cT (by repeat (first | (with_reducible first | exact HB.out | apply cA | apply cN | apply cD | refine cS ?_ GE781.out | refine cS ?_ GE785.out) | exact HB.out)) hb); have n5_ := Aside0.mk (hbox); have n6_ := Aside0.mk ((by rw [hg]; exact (cZ (by repeat (first | (with_reducible first | exact HB.out | apply cA | apply cN | apply cD | refine cS ?_ GE781.out | refine cS ?_ GE785.out) | exact HB.out))) : w.heap.size ≤ gb801)); have n7_ := n6_; have n8_ := Aside0.mk ((by rw [hg]; exact Nat.ne_of_lt (blk_lt (g := gb781) (o := .cells #[.int .i64 a0_0, .int .i64 a0_1, .int .i64 a0_2, .slice A0_3 l0_3.length c0_3] 45 (0, 0)) (by (with_reducible repeat (first | apply bN | apply bD | apply bA)); exact BK781.out)) : gb781 ≠ gb801)); have n9_ := Aside0.mk ((by rw [hg]; exact Nat.ne_of_gt (blk_lt (g := gb781) (o := .cells #[.int .i64 a0_0, .int .i64 a0_1, .int .i64 a0_2, .slice A0_3 l0_3.length c0_3] 45 (0, 0)) (by (with_reducible repeat (first | apply bN | apply bD | apply bA)); exact BK781.out)) : gb801 ≠ gb781)); have n10_ := Aside0.mk ((by rw [hg]; exact Nat.ne_of_lt (blk_lt (g := gb785) (o := .cells #[.int .i64 t782, .int .i64 t783] 47 (0, 0)) (by (with_reducible repeat (first | apply bN | apply bD | apply bA)); exact BK785.out)) : gb785 ≠ gb801)); have n11_ := Aside0.mk ((by rw [hg]; exact Nat.ne_of_gt (blk_lt (g := gb785) (o := .cells #[.int .i64 t782, .int .i64 t783] 47 (0, 0)) (by (with_reducible repeat (first | apply bN | apply bD | apply bA)); exact BK785.out)) : gb801 ≠ gb785)); clear HO_5; clear HO_6; clear BK781; clear BK785; clear HB; have HO_5 := n0_; have HO_6 := n1_; have BK781 := n2_; have BK785 := n3_; have HB := n4_; have BK801 := n5_; have GW801 := n6_; have GE801 := n7_; have NB781_801 := n8_; have NB801_781 := n9_; have NB785_801 := n10_; have NB801_785 := n11_; clear n0_ n1_ n2_ n3_ n4_ n5_ n6_ n7_ n8_ n9_ n10_ n11_; clear hb hbox hg; have hnb58 := NB801_781.out; have hnc58 := NB781_801.out; have hnb59 := NB801_785.out; have hnc59 := NB785_801.out; have hcz60_0 : w57.cell? ⟨gb801, 0, none⟩ = some (.int .i64 0) := (bC BK801.out 0).trans rfl; have hcz60_1 : w57.cell? ⟨gb801, 1, none⟩ = some (.int .i64 0) := (bC BK801.out 1).trans rfl; have hfz60_0 := bZ BK801.out 0; have hfz60_1 := bZ BK801.out 1; have hcz61_0 : w57.cell? ⟨gb781, 0, none⟩ = some (.int .i64 a0_0) := (bC BK781.out 0).trans rfl; have hcz61_1 : w57.cell? ⟨gb781, 1, none⟩ = some (.int .i64 a0_1) := (bC BK781.out 1).trans rfl; have hcz61_2 : w57.cell? ⟨gb781, 2, none⟩ = some (.int .i64 a0_2) := (bC BK781.out 2).trans rfl; have hcz61_3 : w57.cell? ⟨gb781, 3, none⟩ = some (.slice A0_3 l0_3.length c0_3) := (bC BK781.out 3).trans rfl; have hfz61_0 := bZ BK781.out 0; have hfz61_1 := bZ BK781.out 1; have hfz61_2 := bZ BK781.out 2; have hfz61_3 := bZ BK781.out 3; obtain ⟨Ao62, co62, eo62⟩ := Kd.R_slice HO_5.out; subst eo62) | ((with_reducible refine gate_callee (f := 24) rfl ?_); refine goesL_ (some 114) rfl rfl Try.func24 (by kernel_rfl) rfl #[.int .i64 a0_0, .int .i64 a0_1, .int .i64 a0_2, .slice Ao62 x5_1.length co62] rfl (by (try simp only [List.map_toArray, List.map_cons, List.map_nil]); first | done | rfl | (simp only [List.length_drop, List.length_take]; rfl)) ?_; (with_reducible refine (damaskref04_Value.calls k1 a0_0 a0_1 a0_2 _ _ x5_1 t802 t803 _ ?side1 ?side2 A38.out).mono ?_); (case side1 => refine (Kd.R_reads' (e := 3) (base := w.heap.size) (ok := fun k_ => True) (n := x5_1.length) (c := co62) ?_).2.2; exact (by (with_reducible repeat (first | apply Kd.R_alloc | apply Kd.R_drewN | apply Kd.R_drew)); exact (Kd.R_mono (Kd.R_far (p := ⟨gb801, 1, none⟩) (Kd.R_far (p := ⟨gb801, 0, none⟩) (Kd.R_types HO_5.out BK801.out (by decide)) (fun _ hk => hk.2) (.int .i64 t798)) (fun _ hk => hk.2) (.int .i64 t799)) (fun _ h_ => h_.1)))); (case side2 => exact (Kd.R_reads' HO_5.out).2.1); rintro e w' ⟨rfl, ⟨nd, rfl⟩⟩; refine ⟨_, rfl, ?_⟩))
          go_ret
          exact ⟨by first | rfl | (simp [errW_none, errW_some] <;> rfl) | (simp [*, errW_none, errW_some] <;> rfl), by repeat (first | (with_reducible first | exact HB.out | apply cA | apply cN | apply cD | refine cS ?_ GE781.out | refine cS ?_ GE785.out | refine cS ?_ GE801.out) | exact HB.out)⟩
        rw [if_neg c39] at H
        have c39b0 : (t800 == t803) = false := beq_eq_false_iff_ne.mpr c39
        have c39b1 : (t800 != t803) = true := bne_iff_ne.mpr c39
        exact absurd hrT.out (by have h_ := Option.some.inj H; rw [← h_]; decide)
  replace c11 := Bool.eq_false_iff.mpr c11
  subst c11
  have H1 : (some false) = some r := by rw [if_neg (show ¬ (false = true) by decide)] at H; exact H
  clear H
  have H := H1
  clear H1
  exact absurd hrT.out (by have h_ := Option.some.inj H; rw [← h_]; decide)

/-- THE ONE PURE STATEMENT of damasklaw05_SpanRefuses: yours. -/
def damasklaw05_SpanRefuses.Pure : Prop := ∀ (a0_0 : Int) (a0_1 : Int) (a0_2 : Int) (l0_3 : List (S47)), (Lit.int .i64 a0_0).wf = true → (Lit.int .i64 a0_1).wf = true → (Lit.int .i64 a0_2).wf = true → l0_3.length ≤ maxLen → l0_3.length * 16 ≤ 140737488351232 → (∀ x ∈ l0_3, (Lit.int .i64 x.f0).wf = true ∧ (Lit.int .i64 x.f1).wf = true) → ∃ k, damasklaw05_SpanRefuses.f k a0_0 a0_1 a0_2 l0_3 = some true
theorem damasklaw05_SpanRefuses.walk (P : damasklaw05_SpanRefuses.Pure) (a0_0 : Int) (a0_1 : Int) (a0_2 : Int) (A0_3 : Option Addr) (c0_3 : Nat) (l0_3 : List (S47)) (w : World) (o0_0 : (Lit.int .i64 a0_0).wf = true) (o0_1 : (Lit.int .i64 a0_1).wf = true) (o0_2 : (Lit.int .i64 a0_2).wf = true) (hr0_3 : Kd.C k47 w A0_3 l0_3.length l0_3) (hc0_3 : l0_3.length ≤ c0_3) (m0_3 : l0_3.length ≤ maxLen) (b0_3 : l0_3.length * 16 ≤ 140737488351232) (o0_3 : ∀ x ∈ l0_3, (Lit.int .i64 x.f0).wf = true ∧ (Lit.int .i64 x.f1).wf = true) :
    Calls Try.prog 13 #[.agg #[.int .i64 a0_0, .int .i64 a0_1, .int .i64 a0_2, .slice A0_3 l0_3.length c0_3]] w fun e w' => e = .returned (.bool true) ∧ Below w.heap.size w w' := by
  obtain ⟨k, h⟩ := P a0_0 a0_1 a0_2 l0_3 o0_0 o0_1 o0_2 m0_3 b0_3 o0_3
  refine (damasklaw05_SpanRefuses.calls k a0_0 a0_1 a0_2 A0_3 c0_3 l0_3 true w hr0_3 hc0_3 rfl h).mono ?_
  rintro e w' ⟨rfl, hd⟩
  exact ⟨rfl, hd⟩

end Go.Proofs.Ytpnldhimlpilhaa.F
