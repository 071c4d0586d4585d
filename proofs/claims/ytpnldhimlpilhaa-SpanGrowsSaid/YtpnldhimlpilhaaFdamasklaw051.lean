/- Written by wip/myprint.py of this session, out of Lean's print of the program: what Go functions come to, and that their calls come to it; no condition. -/
import Derived.Test.YtpnldhimlpilhaaF0
import Derived.Test.YtpnldhimlpilhaaFeq1
import Derived.Test.YtpnldhimlpilhaaFspan8
namespace Go.Proofs.Ytpnldhimlpilhaa.F
open Go.RowKit Go.Proofs.YtpnldhimlpilhaaW.PrintWords Go.Proofs.YtpnldhimlpilhaaW.PrintLast Go.Proofs.YtpnldhimlpilhaaW.PrintMore Go.Proofs.YtpnldhimlpilhaaW
attribute [local go_sem] max2_int min2_int max_two min_two max_three min_three max_four min_four   -- for this text's walks alone
set_option linter.unusedVariables false
set_option linter.unusedSimpArgs false

attribute [local go_sem high] eqA47
/-! ### damasklaw05_awake: function 28 -/
def damasklaw05_awake.f (k : Nat)  : Option (Bool) := (span_Of.f k 9 0 0 (([(⟨0, 255⟩ : S47), (⟨0, 255⟩ : S47)] : List (S47)))).bind fun bt718 => (if bt718.2.2 = 0 then (some (bt718.1 == (-255) && (bt718.2.1 == 255))) else (some false))
theorem damasklaw05_awake.mono : ∀ k, LeO (damasklaw05_awake.f k ) (damasklaw05_awake.f (k + 1) ) := by
  intro  k
  unfold damasklaw05_awake.f
  repeat' first
      | (with_reducible exact span_Of.mono _ _ _ _ _)
      | (with_reducible exact LeO.refl _)
      | (with_reducible exact LeO.none _)
      | (with_reducible refine LeO.ite ?_ ?_)
      | (with_reducible refine LeO.bind ?_ (fun _ => ?_))
      | exact span_Of.mono _ _ _ _ _
      | exact LeO.none _
      | refine LeO.ite ?_ ?_
      | refine LeO.bind ?_ (fun _ => ?_)
set_option maxHeartbeats 8000000 in
set_option maxRecDepth 100000 in
theorem damasklaw05_awake.calls (k : Nat)  (r : Bool) (w : World) (h : damasklaw05_awake.f k  = some r) :
    Calls Try.prog 28 #[] w fun e w' => e = .returned (.bool r) ∧ Below w.heap.size w w' := by
  have hu47 := Try.underlying47
  have HB := Aside0.mk (Below.refl w.heap.size w)
  have H : ((span_Of.f k 9 0 0 (([(⟨0, 255⟩ : S47), (⟨0, 255⟩ : S47)] : List (S47)))).bind fun bt718 => (if bt718.2.2 = 0 then (some (bt718.1 == (-255) && (bt718.2.1 == 255))) else (some false))) = some r := h
  clear h
  obtain ⟨y715, hy715⟩ : ∃ y_ : List (S47), y_ = (([(⟨0, 255⟩ : S47), (⟨0, 255⟩ : S47)] : List (S47))) := ⟨_, rfl⟩
  replace H : ((span_Of.f k 9 0 0 y715).bind fun bt718 => (if bt718.2.2 = 0 then (some (bt718.1 == (-255) && (bt718.2.1 == 255))) else (some false))) = some r := by first | (rw [hy715]; with_reducible exact H) | (have H2_ := (Option.bind_some _ _).symm.trans H; rw [hy715]; with_reducible exact H2_) | (have H2_ := (Option.bind_some _ _).symm.trans H; with_reducible exact H2_) | with_reducible exact H | (rw [hy715]; exact H) | exact H
  have Ny715 := Aside0.mk hy715
  clear hy715
  replace H := Option.bind_eq_some_iff.mp H
  obtain ⟨⟨t718, t719, t720⟩, A10, H⟩ := H
  replace H : (if t720 = 0 then (some (t718 == (-255) && (t719 == 255))) else (some false)) = some r := H
  have A1 := Aside0.mk A10
  clear A10
  have HF2 := Aside0.mk H
  clear H
  go_enter Try.func28, Try.ntmps28
  go_upto_region 2 with (first | ((with_reducible refine gate_dst (N := 6) rfl ?_); refine Kd.R_lit k47 _ 47 ?hg (N := 6) ?hd (xs := ([(⟨0, 255⟩ : S47), (⟨0, 255⟩ : S47)] : List (S47))) (inner := [.int .i64 0, .int .i64 255, .int .i64 0, .int .i64 255]) (ok := fun _ => True) (okp := fun _ => True) ?hr ?hp (fun _ hk => hk) trivial (Below.refl _ _) (Nat.le_refl _) (by simp) ?_; (case hd => rfl); (case hg => rfl); (case hr => first | (go_simp; done) | (go_simp; rfl)); (case hp => exact (Reps.c2 (show Kd.M k47 _ _ _ (⟨0, 255⟩ : S47) [.int .i64 0, .int .i64 255] from (k47_mkM _ _ _ (⟨0, 255⟩ : S47) )) (Reps.c2 (show Kd.M k47 _ _ _ (⟨0, 255⟩ : S47) [.int .i64 0, .int .i64 255] from (k47_mkM _ _ _ (⟨0, 255⟩ : S47) )) (Reps.none _ _)))); intro v716 w3 ho4 hb hg_ hnew_; clear hg_ hnew_; (first | rw [← Ny715.out] at ho4 | (simp only [Int.reduceToNat] at ho4; rw [← Ny715.out] at ho4)); have n0_ := Aside0.mk (Kd.R_lower ho4 (cZ (by repeat (first | (with_reducible first | exact HB.out | apply cA | apply cN | apply cD) | exact HB.out)))); have n1_ := Aside0.mk (cT (by repeat (first | (with_reducible first | exact HB.out | apply cA | apply cN | apply cD) | exact HB.out)) hb); clear HB; have HO717 := n0_; have HB := n1_; clear n0_ n1_; clear hb ho4; obtain ⟨Ao5, co5, eo5⟩ := Kd.R_slice HO717.out; subst eo5) | ((with_reducible refine gate_callee (f := 26) rfl ?_); refine goesL_ (some 7) rfl rfl Try.func26 (by kernel_rfl) rfl #[.int .i64 9, .int .i64 0, .int .i64 0, .slice Ao5 y715.length co5] rfl (by (try simp only [List.map_toArray, List.map_cons, List.map_nil]); first | done | rfl | (simp only [List.length_drop, List.length_take]; rfl)) ?_; (with_reducible refine (span_Of.calls k 9 0 0 _ _ y715 t718 t719 t720 _ ?side1 ?side2 A1.out).mono ?_); (case side1 => repeat (first | exact (Kd.R_reads' HO717.out).2.2 | (with_reducible refine Kd.C_alloc ?_ _) | (with_reducible refine Kd.C_drewN ?_ _) | (with_reducible refine Kd.C_drew ?_))); (case side2 => exact (Kd.R_reads' HO717.out).2.1); rintro e w6 ⟨rfl, hb⟩; refine ⟨_, rfl, ?_⟩; have n0_ := Aside0.mk (Kd.R_below (by (with_reducible repeat (first | apply Kd.R_alloc | apply Kd.R_drewN | apply Kd.R_drew)); exact HO717.out) hb); have n1_ := Aside0.mk (cT (by repeat (first | (with_reducible first | exact HB.out | apply cA | apply cN | apply cD) | exact HB.out)) hb); clear HO717; clear HB; have HO717 := n0_; have HB := n1_; clear n0_ n1_; (try clear hb); (try clear hb2); (try clear hk); (try clear hi)) | ((with_reducible refine gate_dst (N := 1) rfl ?_); refine box_event ?hg (N := 1) ?hd (cs := #[.int .i64 0, .int .i64 0]) (t := 47) ?hr ?_; (case hd => rfl); (case hg => rfl); (case hr => first | (go_simp; done) | (go_simp; rfl)); intro gb721 hg w7 hbox hb; have n0_ := Aside0.mk (Kd.R_below (Kd.R_elderB (by (with_reducible repeat (first | apply Kd.R_alloc | apply Kd.R_drewN | apply Kd.R_drew)); exact HO717.out) gb721 (Nat.le_of_eq hg.symm)) hb); have n1_ := Aside0.mk (cT (by repeat (first | (with_reducible first | exact HB.out | apply cA | apply cN | apply cD) | exact HB.out)) hb); have n2_ := Aside0.mk (hbox); have n3_ := Aside0.mk ((by rw [hg]; exact (cZ (by repeat (first | (with_reducible first | exact HB.out | apply cA | apply cN | apply cD) | exact HB.out))) : w.heap.size ≤ gb721)); have n4_ := n3_; clear HO717; clear HB; have HO717 := n0_; have HB := n1_; have BK721 := n2_; have GW721 := n3_; have GE721 := n4_; clear n0_ n1_ n2_ n3_ n4_; clear hb hbox hg; have hcz8_0 : w7.cell? ⟨gb721, 0, none⟩ = some (.int .i64 0) := (bC BK721.out 0).trans rfl; have hcz8_1 : w7.cell? ⟨gb721, 1, none⟩ = some (.int .i64 0) := (bC BK721.out 1).trans rfl; have hfz8_0 := bZ BK721.out 0; have hfz8_1 := bZ BK721.out 1))
  (try simp only [Act.put, List.setIfInBounds_toArray, List.set_cons_zero, List.set_cons_succ])
  have H := HF2.out
  clear HF2
  by_cases c9 : t720 = 0
  · rw [if_pos c9] at H
    have c9b0 : (t720 == 0) = true := beq_iff_eq.mpr c9
    have c9b1 : (t720 != 0) = false := bne_eq_false_iff_eq.mpr c9
    clear c9
    (first | rw [c9b0] | (simp only [i64_w, i32_w]; rw [c9b0]) | skip)
    obtain rfl := Option.some.inj H
    have hcz10_0 : w7.cell? ⟨gb721, 0, none⟩ = some (.int .i64 0) := (bC BK721.out 0).trans rfl
    have hcz10_1 : w7.cell? ⟨gb721, 1, none⟩ = some (.int .i64 0) := (bC BK721.out 1).trans rfl
    have hfz10_0 := bZ BK721.out 0
    have hfz10_1 := bZ BK721.out 1
    go_wp2
    go_ret
    exact ⟨by first | rfl | (simp [errW_none, errW_some] <;> rfl) | (simp [*, errW_none, errW_some] <;> rfl), by repeat (first | (with_reducible first | exact HB.out | apply cA | apply cN | apply cD | refine cS ?_ GE721.out) | exact HB.out)⟩
  rw [if_neg c9] at H
  have c9b0 : (t720 == 0) = false := beq_eq_false_iff_ne.mpr c9
  have c9b1 : (t720 != 0) = true := bne_iff_ne.mpr c9
  (first | rw [c9b0] | (simp only [i64_w, i32_w]; rw [c9b0]) | skip)
  obtain rfl := Option.some.inj H
  go_wp2
  go_ret
  exact ⟨by first | rfl | (simp [errW_none, errW_some] <;> rfl) | (simp [*, errW_none, errW_some] <;> rfl), by repeat (first | (with_reducible first | exact HB.out | apply cA | apply cN | apply cD | refine cS ?_ GE721.out) | exact HB.out)⟩

/-! ### damasklaw05_point: function 34 -/
def damasklaw05_point.f (a0_0 : Int) (a0_1 : Int) (a1 : Int) : Option (Int) := if (wrap64 ((wrap64 (a0_1 - a0_0)) + 1)) = 0 then (none) else (if (Int.tmod a1 (wrap64 ((wrap64 (a0_1 - a0_0)) + 1))) < 0 then (some (wrap64 (a0_0 + (wrap64 ((Int.tmod a1 (wrap64 ((wrap64 (a0_1 - a0_0)) + 1))) + (wrap64 ((wrap64 (a0_1 - a0_0)) + 1))))))) else (some (wrap64 (a0_0 + (Int.tmod a1 (wrap64 ((wrap64 (a0_1 - a0_0)) + 1)))))))
set_option maxHeartbeats 8000000 in
set_option maxRecDepth 100000 in
theorem damasklaw05_point.calls (a0_0 : Int) (a0_1 : Int) (a1 : Int) (r : Int) (w : World) (h : damasklaw05_point.f a0_0 a0_1 a1 = some r) :
    Calls Try.prog 34 #[.agg #[.int .i64 a0_0, .int .i64 a0_1], .int .i64 a1] w fun e w' => e = .returned (.int .i64 r) ∧ Below w.heap.size w w' := by
  have hu47 := Try.underlying47
  have HB := Aside0.mk (Below.refl w.heap.size w)
  have H : (if (wrap64 ((wrap64 (a0_1 - a0_0)) + 1)) = 0 then (none) else (if (Int.tmod a1 (wrap64 ((wrap64 (a0_1 - a0_0)) + 1))) < 0 then (some (wrap64 (a0_0 + (wrap64 ((Int.tmod a1 (wrap64 ((wrap64 (a0_1 - a0_0)) + 1))) + (wrap64 ((wrap64 (a0_1 - a0_0)) + 1))))))) else (some (wrap64 (a0_0 + (Int.tmod a1 (wrap64 ((wrap64 (a0_1 - a0_0)) + 1)))))))) = some r := h
  clear h
  have HF3 := Aside0.mk H
  clear H
  go_enter Try.func34, Try.ntmps34
  go_upto_region 2 with (first | ((with_reducible refine gate_dst (N := 2) rfl ?_); refine box_event ?hg (N := 2) ?hd (cs := #[.int .i64 a0_0, .int .i64 a0_1]) (t := 47) ?hr ?_; (case hd => rfl); (case hg => rfl); (case hr => first | (go_simp; done) | (go_simp; rfl)); intro gb756 hg w4 hbox hb; have n0_ := Aside0.mk (cT (by repeat (first | (with_reducible first | exact HB.out | apply cA | apply cN | apply cD) | exact HB.out)) hb); have n1_ := Aside0.mk (hbox); have n2_ := Aside0.mk ((by rw [hg]; exact (cZ (by repeat (first | (with_reducible first | exact HB.out | apply cA | apply cN | apply cD) | exact HB.out))) : w.heap.size ≤ gb756)); have n3_ := n2_; clear HB; have HB := n0_; have BK756 := n1_; have GW756 := n2_; have GE756 := n3_; clear n0_ n1_ n2_ n3_; clear hb hbox hg; have hcz5_0 : w4.cell? ⟨gb756, 0, none⟩ = some (.int .i64 a0_0) := (bC BK756.out 0).trans rfl; have hcz5_1 : w4.cell? ⟨gb756, 1, none⟩ = some (.int .i64 a0_1) := (bC BK756.out 1).trans rfl; have hfz5_0 := bZ BK756.out 0; have hfz5_1 := bZ BK756.out 1))
  (try simp only [Act.put, List.setIfInBounds_toArray, List.set_cons_zero, List.set_cons_succ])
  have H := HF3.out
  clear HF3
  by_cases c6 : (wrap64 ((wrap64 (a0_1 - a0_0)) + 1)) = 0
  · rw [if_pos c6] at H
    exact absurd H (by simp)
  rw [if_neg c6] at H
  have c6b0 : ((wrap64 ((wrap64 (a0_1 - a0_0)) + 1)) == 0) = false := beq_eq_false_iff_ne.mpr c6
  have c6b1 : ((wrap64 ((wrap64 (a0_1 - a0_0)) + 1)) != 0) = true := bne_iff_ne.mpr c6
  (first | rw [c6b0] | (simp only [i64_w, i32_w]; rw [c6b0]) | skip)
  by_cases c7 : (Int.tmod a1 (wrap64 ((wrap64 (a0_1 - a0_0)) + 1))) < 0
  · rw [if_pos c7] at H
    have c7b0 : decide ((Int.tmod a1 (wrap64 ((wrap64 (a0_1 - a0_0)) + 1))) < 0) = true := decide_eq_true c7
    clear c7
    obtain rfl := Option.some.inj H
    have hcz8_0 : w4.cell? ⟨gb756, 0, none⟩ = some (.int .i64 a0_0) := (bC BK756.out 0).trans rfl
    have hcz8_1 : w4.cell? ⟨gb756, 1, none⟩ = some (.int .i64 a0_1) := (bC BK756.out 1).trans rfl
    have hfz8_0 := bZ BK756.out 0
    have hfz8_1 := bZ BK756.out 1
    go_wp2
    go_ret
    exact ⟨by first | rfl | (simp [errW_none, errW_some] <;> rfl) | (simp [*, errW_none, errW_some] <;> rfl), by repeat (first | (with_reducible first | exact HB.out | apply cA | apply cN | apply cD | refine cS ?_ GE756.out) | exact HB.out)⟩
  rw [if_neg c7] at H
  have c7b0 : decide ((Int.tmod a1 (wrap64 ((wrap64 (a0_1 - a0_0)) + 1))) < 0) = false := decide_eq_false c7
  clear c7
  obtain rfl := Option.some.inj H
  have hcz9_0 : w4.cell? ⟨gb756, 0, none⟩ = some (.int .i64 a0_0) := (bC BK756.out 0).trans rfl
  have hcz9_1 : w4.cell? ⟨gb756, 1, none⟩ = some (.int .i64 a0_1) := (bC BK756.out 1).trans rfl
  have hfz9_0 := bZ BK756.out 0
  have hfz9_1 := bZ BK756.out 1
  go_wp2
  go_ret
  exact ⟨by first | rfl | (simp [errW_none, errW_some] <;> rfl) | (simp [*, errW_none, errW_some] <;> rfl), by repeat (first | (with_reducible first | exact HB.out | apply cA | apply cN | apply cD | refine cS ?_ GE756.out) | exact HB.out)⟩

/-! ### damasklaw05_tight: function 35 -/
def damasklaw05_tight.f (a0 : Int) : Option (Bool) := if a0 = 5 then (some true) else (if a0 = 7 then (some true) else (if a0 ≥ 8 then (if a0 ≤ 11 then (some true) else (if a0 = 13 then (some true) else (if a0 = 14 then (some true) else (if a0 ≥ 24 then (if a0 ≤ 27 then (some true) else (if a0 = 29 then (some true) else (if a0 = 30 then (some true) else (if a0 = 32 then (some true) else (some (a0 == 33)))))) else (if a0 = 29 then (some true) else (if a0 = 30 then (some true) else (if a0 = 32 then (some true) else (some (a0 == 33))))))))) else (if a0 = 13 then (some true) else (if a0 = 14 then (some true) else (if a0 ≥ 24 then (if a0 ≤ 27 then (some true) else (if a0 = 29 then (some true) else (if a0 = 30 then (some true) else (if a0 = 32 then (some true) else (some (a0 == 33)))))) else (if a0 = 29 then (some true) else (if a0 = 30 then (some true) else (if a0 = 32 then (some true) else (some (a0 == 33))))))))))
set_option maxHeartbeats 8000000 in
set_option maxRecDepth 100000 in
theorem damasklaw05_tight.calls (a0 : Int) (r : Bool) (w : World) (h : damasklaw05_tight.f a0 = some r) :
    Calls Try.prog 35 #[.int .i64 a0] w fun e w' => e = .returned (.bool r) ∧ Drawn0 w w' := by
  have H : (if a0 = 5 then (some true) else (if a0 = 7 then (some true) else (if a0 ≥ 8 then (if a0 ≤ 11 then (some true) else (if a0 = 13 then (some true) else (if a0 = 14 then (some true) else (if a0 ≥ 24 then (if a0 ≤ 27 then (some true) else (if a0 = 29 then (some true) else (if a0 = 30 then (some true) else (if a0 = 32 then (some true) else (some (a0 == 33)))))) else (if a0 = 29 then (some true) else (if a0 = 30 then (some true) else (if a0 = 32 then (some true) else (some (a0 == 33))))))))) else (if a0 = 13 then (some true) else (if a0 = 14 then (some true) else (if a0 ≥ 24 then (if a0 ≤ 27 then (some true) else (if a0 = 29 then (some true) else (if a0 = 30 then (some true) else (if a0 = 32 then (some true) else (some (a0 == 33)))))) else (if a0 = 29 then (some true) else (if a0 = 30 then (some true) else (if a0 = 32 then (some true) else (some (a0 == 33))))))))))) = some r := h
  clear h
  by_cases c2 : a0 = 5
  · rw [if_pos c2] at H
    have c2b0 : (a0 == 5) = true := beq_iff_eq.mpr c2
    have c2b1 : (a0 != 5) = false := bne_eq_false_iff_eq.mpr c2
    clear c2
    obtain rfl := Option.some.inj H
    go_enter Try.func35, Try.ntmps35
    (try simp only [List.append])
    go_wp2
    go_ret
    exact ⟨by first | rfl | (simp; done) | (simp [*]; done), by repeat (first | exact Drawn0.refl _ | apply Drawn0.step)⟩
  rw [if_neg c2] at H
  have c2b0 : (a0 == 5) = false := beq_eq_false_iff_ne.mpr c2
  have c2b1 : (a0 != 5) = true := bne_iff_ne.mpr c2
  by_cases c3 : a0 = 7
  · rw [if_pos c3] at H
    have c3b0 : (a0 == 7) = true := beq_iff_eq.mpr c3
    have c3b1 : (a0 != 7) = false := bne_eq_false_iff_eq.mpr c3
    clear c3
    obtain rfl := Option.some.inj H
    go_enter Try.func35, Try.ntmps35
    (try simp only [List.append])
    go_wp2
    go_ret
    exact ⟨by first | rfl | (simp; done) | (simp [*]; done), by repeat (first | exact Drawn0.refl _ | apply Drawn0.step)⟩
  rw [if_neg c3] at H
  have c3b0 : (a0 == 7) = false := beq_eq_false_iff_ne.mpr c3
  have c3b1 : (a0 != 7) = true := bne_iff_ne.mpr c3
  by_cases c4 : a0 ≥ 8
  · rw [if_pos c4] at H
    have c4b0 : decide (8 ≤ a0) = true := decide_eq_true c4
    clear c4
    by_cases c5 : a0 ≤ 11
    · rw [if_pos c5] at H
      have c5b0 : decide (a0 ≤ 11) = true := decide_eq_true c5
      clear c5
      obtain rfl := Option.some.inj H
      go_enter Try.func35, Try.ntmps35
      (try simp only [List.append])
      go_wp2
      go_ret
      exact ⟨by first | rfl | (simp; done) | (simp [*]; done), by repeat (first | exact Drawn0.refl _ | apply Drawn0.step)⟩
    rw [if_neg c5] at H
    have c5b0 : decide (a0 ≤ 11) = false := decide_eq_false c5
    clear c5
    by_cases c6 : a0 = 13
    · rw [if_pos c6] at H
      have c6b0 : (a0 == 13) = true := beq_iff_eq.mpr c6
      have c6b1 : (a0 != 13) = false := bne_eq_false_iff_eq.mpr c6
      clear c6
      obtain rfl := Option.some.inj H
      go_enter Try.func35, Try.ntmps35
      (try simp only [List.append])
      go_wp2
      go_ret
      exact ⟨by first | rfl | (simp; done) | (simp [*]; done), by repeat (first | exact Drawn0.refl _ | apply Drawn0.step)⟩
    rw [if_neg c6] at H
    have c6b0 : (a0 == 13) = false := beq_eq_false_iff_ne.mpr c6
    have c6b1 : (a0 != 13) = true := bne_iff_ne.mpr c6
    by_cases c7 : a0 = 14
    · rw [if_pos c7] at H
      have c7b0 : (a0 == 14) = true := beq_iff_eq.mpr c7
      have c7b1 : (a0 != 14) = false := bne_eq_false_iff_eq.mpr c7
      clear c7
      obtain rfl := Option.some.inj H
      go_enter Try.func35, Try.ntmps35
      (try simp only [List.append])
      go_wp2
      go_ret
      exact ⟨by first | rfl | (simp; done) | (simp [*]; done), by repeat (first | exact Drawn0.refl _ | apply Drawn0.step)⟩
    rw [if_neg c7] at H
    have c7b0 : (a0 == 14) = false := beq_eq_false_iff_ne.mpr c7
    have c7b1 : (a0 != 14) = true := bne_iff_ne.mpr c7
    by_cases c8 : a0 ≥ 24
    · rw [if_pos c8] at H
      have c8b0 : decide (24 ≤ a0) = true := decide_eq_true c8
      clear c8
      by_cases c9 : a0 ≤ 27
      · rw [if_pos c9] at H
        have c9b0 : decide (a0 ≤ 27) = true := decide_eq_true c9
        clear c9
        obtain rfl := Option.some.inj H
        go_enter Try.func35, Try.ntmps35
        (try simp only [List.append])
        go_wp2
        go_ret
        exact ⟨by first | rfl | (simp; done) | (simp [*]; done), by repeat (first | exact Drawn0.refl _ | apply Drawn0.step)⟩
      rw [if_neg c9] at H
      have c9b0 : decide (a0 ≤ 27) = false := decide_eq_false c9
      clear c9
      by_cases c10 : a0 = 29
      · rw [if_pos c10] at H
        have c10b0 : (a0 == 29) = true := beq_iff_eq.mpr c10
        have c10b1 : (a0 != 29) = false := bne_eq_false_iff_eq.mpr c10
        clear c10
        obtain rfl := Option.some.inj H
        go_enter Try.func35, Try.ntmps35
        (try simp only [List.append])
        go_wp2
        go_ret
        exact ⟨by first | rfl | (simp; done) | (simp [*]; done), by repeat (first | exact Drawn0.refl _ | apply Drawn0.step)⟩
      rw [if_neg c10] at H
      have c10b0 : (a0 == 29) = false := beq_eq_false_iff_ne.mpr c10
      have c10b1 : (a0 != 29) = true := bne_iff_ne.mpr c10
      by_cases c11 : a0 = 30
      · rw [if_pos c11] at H
        have c11b0 : (a0 == 30) = true := beq_iff_eq.mpr c11
        have c11b1 : (a0 != 30) = false := bne_eq_false_iff_eq.mpr c11
        clear c11
        obtain rfl := Option.some.inj H
        go_enter Try.func35, Try.ntmps35
        (try simp only [List.append])
        go_wp2
        go_ret
        exact ⟨by first | rfl | (simp; done) | (simp [*]; done), by repeat (first | exact Drawn0.refl _ | apply Drawn0.step)⟩
      rw [if_neg c11] at H
      have c11b0 : (a0 == 30) = false := beq_eq_false_iff_ne.mpr c11
      have c11b1 : (a0 != 30) = true := bne_iff_ne.mpr c11
      by_cases c12 : a0 = 32
      · rw [if_pos c12] at H
        have c12b0 : (a0 == 32) = true := beq_iff_eq.mpr c12
        have c12b1 : (a0 != 32) = false := bne_eq_false_iff_eq.mpr c12
        clear c12
        obtain rfl := Option.some.inj H
        go_enter Try.func35, Try.ntmps35
        (try simp only [List.append])
        go_wp2
        go_ret
        exact ⟨by first | rfl | (simp; done) | (simp [*]; done), by repeat (first | exact Drawn0.refl _ | apply Drawn0.step)⟩
      rw [if_neg c12] at H
      have c12b0 : (a0 == 32) = false := beq_eq_false_iff_ne.mpr c12
      have c12b1 : (a0 != 32) = true := bne_iff_ne.mpr c12
      obtain rfl := Option.some.inj H
      go_enter Try.func35, Try.ntmps35
      (try simp only [List.append])
      go_wp2
      go_ret
      exact ⟨by first | rfl | (simp; done) | (simp [*]; done), by repeat (first | exact Drawn0.refl _ | apply Drawn0.step)⟩
    rw [if_neg c8] at H
    have c8b0 : decide (24 ≤ a0) = false := decide_eq_false c8
    clear c8
    by_cases c13 : a0 = 29
    · rw [if_pos c13] at H
      have c13b0 : (a0 == 29) = true := beq_iff_eq.mpr c13
      have c13b1 : (a0 != 29) = false := bne_eq_false_iff_eq.mpr c13
      clear c13
      obtain rfl := Option.some.inj H
      go_enter Try.func35, Try.ntmps35
      (try simp only [List.append])
      go_wp2
      go_ret
      exact ⟨by first | rfl | (simp; done) | (simp [*]; done), by repeat (first | exact Drawn0.refl _ | apply Drawn0.step)⟩
    rw [if_neg c13] at H
    have c13b0 : (a0 == 29) = false := beq_eq_false_iff_ne.mpr c13
    have c13b1 : (a0 != 29) = true := bne_iff_ne.mpr c13
    by_cases c14 : a0 = 30
    · rw [if_pos c14] at H
      have c14b0 : (a0 == 30) = true := beq_iff_eq.mpr c14
      have c14b1 : (a0 != 30) = false := bne_eq_false_iff_eq.mpr c14
      clear c14
      obtain rfl := Option.some.inj H
      go_enter Try.func35, Try.ntmps35
      (try simp only [List.append])
      go_wp2
      go_ret
      exact ⟨by first | rfl | (simp; done) | (simp [*]; done), by repeat (first | exact Drawn0.refl _ | apply Drawn0.step)⟩
    rw [if_neg c14] at H
    have c14b0 : (a0 == 30) = false := beq_eq_false_iff_ne.mpr c14
    have c14b1 : (a0 != 30) = true := bne_iff_ne.mpr c14
    by_cases c15 : a0 = 32
    · rw [if_pos c15] at H
      have c15b0 : (a0 == 32) = true := beq_iff_eq.mpr c15
      have c15b1 : (a0 != 32) = false := bne_eq_false_iff_eq.mpr c15
      clear c15
      obtain rfl := Option.some.inj H
      go_enter Try.func35, Try.ntmps35
      (try simp only [List.append])
      go_wp2
      go_ret
      exact ⟨by first | rfl | (simp; done) | (simp [*]; done), by repeat (first | exact Drawn0.refl _ | apply Drawn0.step)⟩
    rw [if_neg c15] at H
    have c15b0 : (a0 == 32) = false := beq_eq_false_iff_ne.mpr c15
    have c15b1 : (a0 != 32) = true := bne_iff_ne.mpr c15
    obtain rfl := Option.some.inj H
    go_enter Try.func35, Try.ntmps35
    (try simp only [List.append])
    go_wp2
    go_ret
    exact ⟨by first | rfl | (simp; done) | (simp [*]; done), by repeat (first | exact Drawn0.refl _ | apply Drawn0.step)⟩
  rw [if_neg c4] at H
  have c4b0 : decide (8 ≤ a0) = false := decide_eq_false c4
  clear c4
  by_cases c16 : a0 = 13
  · rw [if_pos c16] at H
    have c16b0 : (a0 == 13) = true := beq_iff_eq.mpr c16
    have c16b1 : (a0 != 13) = false := bne_eq_false_iff_eq.mpr c16
    clear c16
    obtain rfl := Option.some.inj H
    go_enter Try.func35, Try.ntmps35
    (try simp only [List.append])
    go_wp2
    go_ret
    exact ⟨by first | rfl | (simp; done) | (simp [*]; done), by repeat (first | exact Drawn0.refl _ | apply Drawn0.step)⟩
  rw [if_neg c16] at H
  have c16b0 : (a0 == 13) = false := beq_eq_false_iff_ne.mpr c16
  have c16b1 : (a0 != 13) = true := bne_iff_ne.mpr c16
  by_cases c17 : a0 = 14
  · rw [if_pos c17] at H
    have c17b0 : (a0 == 14) = true := beq_iff_eq.mpr c17
    have c17b1 : (a0 != 14) = false := bne_eq_false_iff_eq.mpr c17
    clear c17
    obtain rfl := Option.some.inj H
    go_enter Try.func35, Try.ntmps35
    (try simp only [List.append])
    go_wp2
    go_ret
    exact ⟨by first | rfl | (simp; done) | (simp [*]; done), by repeat (first | exact Drawn0.refl _ | apply Drawn0.step)⟩
  rw [if_neg c17] at H
  have c17b0 : (a0 == 14) = false := beq_eq_false_iff_ne.mpr c17
  have c17b1 : (a0 != 14) = true := bne_iff_ne.mpr c17
  by_cases c18 : a0 ≥ 24
  · rw [if_pos c18] at H
    have c18b0 : decide (24 ≤ a0) = true := decide_eq_true c18
    clear c18
    by_cases c19 : a0 ≤ 27
    · rw [if_pos c19] at H
      have c19b0 : decide (a0 ≤ 27) = true := decide_eq_true c19
      clear c19
      obtain rfl := Option.some.inj H
      go_enter Try.func35, Try.ntmps35
      (try simp only [List.append])
      go_wp2
      go_ret
      exact ⟨by first | rfl | (simp; done) | (simp [*]; done), by repeat (first | exact Drawn0.refl _ | apply Drawn0.step)⟩
    rw [if_neg c19] at H
    have c19b0 : decide (a0 ≤ 27) = false := decide_eq_false c19
    clear c19
    by_cases c20 : a0 = 29
    · rw [if_pos c20] at H
      have c20b0 : (a0 == 29) = true := beq_iff_eq.mpr c20
      have c20b1 : (a0 != 29) = false := bne_eq_false_iff_eq.mpr c20
      clear c20
      obtain rfl := Option.some.inj H
      go_enter Try.func35, Try.ntmps35
      (try simp only [List.append])
      go_wp2
      go_ret
      exact ⟨by first | rfl | (simp; done) | (simp [*]; done), by repeat (first | exact Drawn0.refl _ | apply Drawn0.step)⟩
    rw [if_neg c20] at H
    have c20b0 : (a0 == 29) = false := beq_eq_false_iff_ne.mpr c20
    have c20b1 : (a0 != 29) = true := bne_iff_ne.mpr c20
    by_cases c21 : a0 = 30
    · rw [if_pos c21] at H
      have c21b0 : (a0 == 30) = true := beq_iff_eq.mpr c21
      have c21b1 : (a0 != 30) = false := bne_eq_false_iff_eq.mpr c21
      clear c21
      obtain rfl := Option.some.inj H
      go_enter Try.func35, Try.ntmps35
      (try simp only [List.append])
      go_wp2
      go_ret
      exact ⟨by first | rfl | (simp; done) | (simp [*]; done), by repeat (first | exact Drawn0.refl _ | apply Drawn0.step)⟩
    rw [if_neg c21] at H
    have c21b0 : (a0 == 30) = false := beq_eq_false_iff_ne.mpr c21
    have c21b1 : (a0 != 30) = true := bne_iff_ne.mpr c21
    by_cases c22 : a0 = 32
    · rw [if_pos c22] at H
      have c22b0 : (a0 == 32) = true := beq_iff_eq.mpr c22
      have c22b1 : (a0 != 32) = false := bne_eq_false_iff_eq.mpr c22
      clear c22
      obtain rfl := Option.some.inj H
      go_enter Try.func35, Try.ntmps35
      (try simp only [List.append])
      go_wp2
      go_ret
      exact ⟨by first | rfl | (simp; done) | (simp [*]; done), by repeat (first | exact Drawn0.refl _ | apply Drawn0.step)⟩
    rw [if_neg c22] at H
    have c22b0 : (a0 == 32) = false := beq_eq_false_iff_ne.mpr c22
    have c22b1 : (a0 != 32) = true := bne_iff_ne.mpr c22
    obtain rfl := Option.some.inj H
    go_enter Try.func35, Try.ntmps35
    (try simp only [List.append])
    go_wp2
    go_ret
    exact ⟨by first | rfl | (simp; done) | (simp [*]; done), by repeat (first | exact Drawn0.refl _ | apply Drawn0.step)⟩
  rw [if_neg c18] at H
  have c18b0 : decide (24 ≤ a0) = false := decide_eq_false c18
  clear c18
  by_cases c23 : a0 = 29
  · rw [if_pos c23] at H
    have c23b0 : (a0 == 29) = true := beq_iff_eq.mpr c23
    have c23b1 : (a0 != 29) = false := bne_eq_false_iff_eq.mpr c23
    clear c23
    obtain rfl := Option.some.inj H
    go_enter Try.func35, Try.ntmps35
    (try simp only [List.append])
    go_wp2
    go_ret
    exact ⟨by first | rfl | (simp; done) | (simp [*]; done), by repeat (first | exact Drawn0.refl _ | apply Drawn0.step)⟩
  rw [if_neg c23] at H
  have c23b0 : (a0 == 29) = false := beq_eq_false_iff_ne.mpr c23
  have c23b1 : (a0 != 29) = true := bne_iff_ne.mpr c23
  by_cases c24 : a0 = 30
  · rw [if_pos c24] at H
    have c24b0 : (a0 == 30) = true := beq_iff_eq.mpr c24
    have c24b1 : (a0 != 30) = false := bne_eq_false_iff_eq.mpr c24
    clear c24
    obtain rfl := Option.some.inj H
    go_enter Try.func35, Try.ntmps35
    (try simp only [List.append])
    go_wp2
    go_ret
    exact ⟨by first | rfl | (simp; done) | (simp [*]; done), by repeat (first | exact Drawn0.refl _ | apply Drawn0.step)⟩
  rw [if_neg c24] at H
  have c24b0 : (a0 == 30) = false := beq_eq_false_iff_ne.mpr c24
  have c24b1 : (a0 != 30) = true := bne_iff_ne.mpr c24
  by_cases c25 : a0 = 32
  · rw [if_pos c25] at H
    have c25b0 : (a0 == 32) = true := beq_iff_eq.mpr c25
    have c25b1 : (a0 != 32) = false := bne_eq_false_iff_eq.mpr c25
    clear c25
    obtain rfl := Option.some.inj H
    go_enter Try.func35, Try.ntmps35
    (try simp only [List.append])
    go_wp2
    go_ret
    exact ⟨by first | rfl | (simp; done) | (simp [*]; done), by repeat (first | exact Drawn0.refl _ | apply Drawn0.step)⟩
  rw [if_neg c25] at H
  have c25b0 : (a0 == 32) = false := beq_eq_false_iff_ne.mpr c25
  have c25b1 : (a0 != 32) = true := bne_iff_ne.mpr c25
  obtain rfl := Option.some.inj H
  go_enter Try.func35, Try.ntmps35
  (try simp only [List.append])
  go_wp2
  go_ret
  exact ⟨by first | rfl | (simp; done) | (simp [*]; done), by repeat (first | exact Drawn0.refl _ | apply Drawn0.step)⟩

end Go.Proofs.Ytpnldhimlpilhaa.F
