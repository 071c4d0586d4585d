/- Written by wip/myprint.py of this session, out of Lean's print of the program: what Go functions come to, and that their calls come to it; no condition. -/
import Derived.Test.YtpnldhimlpilhaaF0
import Derived.Test.YtpnldhimlpilhaaFspan1
namespace Go.Proofs.Ytpnldhimlpilhaa.F
open Go.RowKit Go.Proofs.YtpnldhimlpilhaaW.PrintWords Go.Proofs.YtpnldhimlpilhaaW.PrintLast Go.Proofs.YtpnldhimlpilhaaW.PrintMore Go.Proofs.YtpnldhimlpilhaaW
attribute [local go_sem] max2_int min2_int max_two min_two max_three min_three max_four min_four   -- for this text's walks alone
set_option linter.unusedVariables false
set_option linter.unusedSimpArgs false

/-! ### span_one: function 40 -/
def span_one.f (k : Nat) (a0 : Int) (a1 : Int) (a2 : Int) (a3_0 : Int) (a3_1 : Int) : Option (Int × Int × Int) := if a0 = 5 then (some (wrap64 (-a3_1), wrap64 (-a3_0), 0)) else (if a0 = 6 then (if a3_0 ≥ 0 then (some (a3_0, a3_1, 0)) else (some (mx 0 (wrap64 (-a3_1)), mx (wrap64 (-a3_0)) a3_1, 0))) else (if a0 = 7 then ((span_sign.f a3_0).bind fun t421 => ((span_sign.f a3_1).bind fun t422 => (some (t421, t422, 0)))) else (if a0 = 29 then (if 0 ≤ a1 then (some (shl .i64 a3_0 a1, shl .i64 a3_1 a1, 0)) else (none)) else (if a0 = 30 then (if 0 ≤ a1 then (some (shr .i64 a3_0 a1, shr .i64 a3_1 a1, 0)) else (none)) else (if a0 = 31 then ((span_both.f k a3_0 a3_1 a1 a1).bind fun bt423 => (some (bt423.1, bt423.2, 0))) else (if a0 = 32 then ((span_corners_with55.f a3_0 a3_1 a1 a1).bind fun bt425 => (some (bt425.1, bt425.2, 0))) else (if (mx (wrap64 (-a3_0)) a3_1) = 0 then (if 0 ≤ a2 then (some (shr .i64 (wrap64 (a3_0 * a1)) a2, shr .i64 (wrap64 (a3_1 * a1)) a2, 0)) else (none)) else (if a1 > (wrap64 (Int.tdiv (4611686018427387904 : Int) (mx (wrap64 (-a3_0)) a3_1))) then (some (0, 0, 13)) else (if 0 ≤ a2 then (some (shr .i64 (wrap64 (a3_0 * a1)) a2, shr .i64 (wrap64 (a3_1 * a1)) a2, 0)) else (none))))))))))
theorem span_one.mono : ∀ a0 a1 a2 a3 a4 k, LeO (span_one.f k a0 a1 a2 a3 a4) (span_one.f (k + 1) a0 a1 a2 a3 a4) := by
  intro a0 a1 a2 a3 a4 k
  unfold span_one.f
  repeat' first
      | (with_reducible exact span_both.mono _ _ _ _ _)
      | (with_reducible exact LeO.refl _)
      | (with_reducible exact LeO.none _)
      | (with_reducible refine LeO.ite ?_ ?_)
      | (with_reducible refine LeO.bind ?_ (fun _ => ?_))
      | exact span_both.mono _ _ _ _ _
      | exact LeO.none _
      | refine LeO.ite ?_ ?_
      | refine LeO.bind ?_ (fun _ => ?_)
def span_one.T9 : Bool × List (List Nat × List Nat) := (true, [([], []), ([0], [0]), ([1], [1]), ([], []), ([3], [3]), ([4, 2], [4]), ([2, 5], [2, 5]), ([6, 5, 0, 1, 2, 3, 4, 5, 6], [6]), ([7, 0, 1, 2, 3, 4, 5, 6, 7], [])])
def span_one.B9 : List Nat := [0, 1, 3, 0, 8, 31, 63, 127, 255]
theorem span_one.tab9 : rtab .any (opsOf Try.f40 9) = span_one.T9 := by kernel_rfl
theorem span_one.bits9 : waitsOk span_one.T9.2 span_one.B9 = true := by kernel_rfl
def span_one.T11 : Bool × List (List Nat × List Nat) := (true, [([], []), ([0], [0]), ([], []), ([1, 2], [1, 2]), ([], []), ([4], [4]), ([], []), ([5, 6], [5, 6]), ([3, 7], [3, 7]), ([8, 0, 1, 2, 3, 4, 5, 6, 7, 8], [8]), ([9, 0, 1, 2, 3, 4, 5, 6, 7, 8, 9], [])])
def span_one.B11 : List Nat := [0, 1, 0, 7, 0, 16, 0, 112, 255, 511, 1023]
theorem span_one.tab11 : rtab .any (opsOf Try.f40 11) = span_one.T11 := by kernel_rfl
theorem span_one.bits11 : waitsOk span_one.T11.2 span_one.B11 = true := by kernel_rfl
def span_one.T13 : Bool × List (List Nat × List Nat) := (true, [([], []), ([0], [0]), ([], []), ([1, 2], [1, 2]), ([], []), ([4], [4]), ([], []), ([5, 6], [5, 6]), ([3, 7], [3, 7]), ([8, 0, 1, 2, 3, 4, 5, 6, 7, 8], [8]), ([9, 0, 1, 2, 3, 4, 5, 6, 7, 8, 9], [])])
def span_one.B13 : List Nat := [0, 1, 0, 7, 0, 16, 0, 112, 255, 511, 1023]
theorem span_one.tab13 : rtab .any (opsOf Try.f40 13) = span_one.T13 := by kernel_rfl
theorem span_one.bits13 : waitsOk span_one.T13.2 span_one.B13 = true := by kernel_rfl
def span_one.T21 : Bool × List (List Nat × List Nat) := (true, [([], []), ([0], [0]), ([], []), ([1, 2], [1, 2]), ([], []), ([3, 4], [3, 4]), ([], []), ([6], [6]), ([], []), ([7, 8], [7, 8]), ([], []), ([9, 10], [9, 10]), ([5, 11], [5, 11]), ([12, 0, 1, 2, 3, 4, 5, 6, 7, 8, 9, 10, 11, 12], [12]), ([13, 0, 1, 2, 3, 4, 5, 6, 7, 8, 9, 10, 11, 12, 13], [])])
def span_one.B21 : List Nat := [0, 1, 0, 7, 0, 31, 0, 64, 0, 448, 0, 1984, 4095, 8191, 16383]
theorem span_one.tab21 : rtab .any (opsOf Try.f40 21) = span_one.T21 := by kernel_rfl
theorem span_one.bits21 : waitsOk span_one.T21.2 span_one.B21 = true := by kernel_rfl
set_option maxHeartbeats 8000000 in
set_option maxRecDepth 100000 in
theorem span_one.calls (k : Nat) (a0 : Int) (a1 : Int) (a2 : Int) (a3_0 : Int) (a3_1 : Int) (r1 : Int) (r2 : Int) (r3 : Int) (w : World) (h : span_one.f k a0 a1 a2 a3_0 a3_1 = some (r1, r2, r3)) :
    Calls Try.prog 40 #[.int .i64 a0, .int .i64 a1, .int .i64 a2, .agg #[.int .i64 a3_0, .int .i64 a3_1]] w fun e w' => e = .returned (.tuple #[.agg #[.int .i64 r1, .int .i64 r2], .int .i64 r3]) ∧ Below w.heap.size w w' := by
  have hu47 := Try.underlying47
  have HB := Aside0.mk (Below.refl w.heap.size w)
  have H : (if a0 = 5 then (some (wrap64 (-a3_1), wrap64 (-a3_0), 0)) else (if a0 = 6 then (if a3_0 ≥ 0 then (some (a3_0, a3_1, 0)) else (some (mx 0 (wrap64 (-a3_1)), mx (wrap64 (-a3_0)) a3_1, 0))) else (if a0 = 7 then ((span_sign.f a3_0).bind fun t421 => ((span_sign.f a3_1).bind fun t422 => (some (t421, t422, 0)))) else (if a0 = 29 then (if 0 ≤ a1 then (some (shl .i64 a3_0 a1, shl .i64 a3_1 a1, 0)) else (none)) else (if a0 = 30 then (if 0 ≤ a1 then (some (shr .i64 a3_0 a1, shr .i64 a3_1 a1, 0)) else (none)) else (if a0 = 31 then ((span_both.f k a3_0 a3_1 a1 a1).bind fun bt423 => (some (bt423.1, bt423.2, 0))) else (if a0 = 32 then ((span_corners_with55.f a3_0 a3_1 a1 a1).bind fun bt425 => (some (bt425.1, bt425.2, 0))) else (if (mx (wrap64 (-a3_0)) a3_1) = 0 then (if 0 ≤ a2 then (some (shr .i64 (wrap64 (a3_0 * a1)) a2, shr .i64 (wrap64 (a3_1 * a1)) a2, 0)) else (none)) else (if a1 > (wrap64 (Int.tdiv (4611686018427387904 : Int) (mx (wrap64 (-a3_0)) a3_1))) then (some (0, 0, 13)) else (if 0 ≤ a2 then (some (shr .i64 (wrap64 (a3_0 * a1)) a2, shr .i64 (wrap64 (a3_1 * a1)) a2, 0)) else (none))))))))))) = some (r1, r2, r3) := h
  clear h
  have HF5 := Aside0.mk H
  clear H
  go_enter Try.func40, Try.ntmps40
  go_upto_region 2 with (first | ((with_reducible refine gate_dst (N := 7) rfl ?_); refine box_event ?hg (N := 7) ?hd (cs := #[.int .i64 a3_0, .int .i64 a3_1]) (t := 47) ?hr ?_; (case hd => rfl); (case hg => rfl); (case hr => first | (go_simp; done) | (go_simp; rfl)); intro gb419 hg w6 hbox hb; have n0_ := Aside0.mk (cT (by repeat (first | (with_reducible first | exact HB.out | apply cA | apply cN | apply cD) | exact HB.out)) hb); have n1_ := Aside0.mk (hbox); have n2_ := Aside0.mk ((by rw [hg]; exact (cZ (by repeat (first | (with_reducible first | exact HB.out | apply cA | apply cN | apply cD) | exact HB.out))) : w.heap.size ≤ gb419)); have n3_ := n2_; clear HB; have HB := n0_; have BK419 := n1_; have GW419 := n2_; have GE419 := n3_; clear n0_ n1_ n2_ n3_; clear hb hbox hg) | ((with_reducible refine gate_dst (N := 8) rfl ?_); refine box_event ?hg (N := 8) ?hd (cs := #[.int .i64 0, .int .i64 0]) (t := 47) ?hr ?_; (case hd => rfl); (case hg => rfl); (case hr => first | (go_simp; done) | (go_simp; rfl)); intro gb420 hg w7 hbox hb; have n0_ := Aside0.mk (bB (g := gb419) (o := .cells #[.int .i64 a3_0, .int .i64 a3_1] 47 (0, 0)) (by (with_reducible repeat (first | apply bN | apply bD | apply bA)); exact BK419.out) hb); have n1_ := Aside0.mk (cT (by repeat (first | (with_reducible first | exact HB.out | apply cA | apply cN | apply cD | refine cS ?_ GE419.out) | exact HB.out)) hb); have n2_ := Aside0.mk (hbox); have n3_ := Aside0.mk ((by rw [hg]; exact (cZ (by repeat (first | (with_reducible first | exact HB.out | apply cA | apply cN | apply cD | refine cS ?_ GE419.out) | exact HB.out))) : w.heap.size ≤ gb420)); have n4_ := n3_; have n5_ := Aside0.mk ((by rw [hg]; exact Nat.ne_of_lt (blk_lt (g := gb419) (o := .cells #[.int .i64 a3_0, .int .i64 a3_1] 47 (0, 0)) (by (with_reducible repeat (first | apply bN | apply bD | apply bA)); exact BK419.out)) : gb419 ≠ gb420)); have n6_ := Aside0.mk ((by rw [hg]; exact Nat.ne_of_gt (blk_lt (g := gb419) (o := .cells #[.int .i64 a3_0, .int .i64 a3_1] 47 (0, 0)) (by (with_reducible repeat (first | apply bN | apply bD | apply bA)); exact BK419.out)) : gb420 ≠ gb419)); clear BK419; clear HB; have BK419 := n0_; have HB := n1_; have BK420 := n2_; have GW420 := n3_; have GE420 := n4_; have NB419_420 := n5_; have NB420_419 := n6_; clear n0_ n1_ n2_ n3_ n4_ n5_ n6_; clear hb hbox hg))
  (try simp only [Act.put, List.setIfInBounds_toArray, List.set_cons_zero, List.set_cons_succ])
  have H := HF5.out
  clear HF5
  by_cases c8 : a0 = 5
  · rw [if_pos c8] at H
    have c8b0 : (a0 == 5) = true := beq_iff_eq.mpr c8
    have c8b1 : (a0 != 5) = false := bne_eq_false_iff_eq.mpr c8
    clear c8
    (first | rw [c8b0] | (simp only [i64_w, i32_w]; rw [c8b0]) | skip)
    simp only [Option.some.injEq, Prod.mk.injEq] at H
    obtain ⟨rfl, rfl, rfl⟩ := H
    have hnb9 := NB419_420.out
    have hnc9 := NB420_419.out
    have hcz10_0 : w7.cell? ⟨gb419, 0, none⟩ = some (.int .i64 a3_0) := (bC BK419.out 0).trans rfl
    have hcz10_1 : w7.cell? ⟨gb419, 1, none⟩ = some (.int .i64 a3_1) := (bC BK419.out 1).trans rfl
    have hfz10_0 := bZ BK419.out 0
    have hfz10_1 := bZ BK419.out 1
    have hcz11_0 : w7.cell? ⟨gb420, 0, none⟩ = some (.int .i64 0) := (bC BK420.out 0).trans rfl
    have hcz11_1 : w7.cell? ⟨gb420, 1, none⟩ = some (.int .i64 0) := (bC BK420.out 1).trans rfl
    have hfz11_0 := bZ BK420.out 0
    have hfz11_1 := bZ BK420.out 1
    go_wp2
    refine bodyPost_ret (results_ct rfl _ _ gb420 47 #[.int .i64 (wrap64 (-a3_1)), .int .i64 (wrap64 (-a3_0))] (0, 0) _ rfl (by (with_reducible repeat (first | apply bN | apply bD | apply bA)); refine bP (cs := #[.int .i64 (wrap64 (-a3_1)), .int .i64 0]) ?_ 1 _ rfl; (with_reducible repeat (first | apply bN | apply bD | apply bA)); refine bP (cs := #[.int .i64 0, .int .i64 0]) ?_ 0 _ rfl; (with_reducible repeat (first | apply bN | apply bD | apply bA)); exact BK420.out) Try.underlying47 rfl (by kernel_rfl)) rfl ?_
    exact ⟨by first | rfl | (simp [errW_none, errW_some] <;> rfl) | (simp [*, errW_none, errW_some] <;> rfl), by repeat (first | (with_reducible first | exact HB.out | apply cA | apply cN | apply cD | refine cS ?_ GE419.out | refine cS ?_ GE420.out) | exact HB.out)⟩
  rw [if_neg c8] at H
  have c8b0 : (a0 == 5) = false := beq_eq_false_iff_ne.mpr c8
  have c8b1 : (a0 != 5) = true := bne_iff_ne.mpr c8
  (first | rw [c8b0] | (simp only [i64_w, i32_w]; rw [c8b0]) | skip)
  by_cases c12 : a0 = 6
  · rw [if_pos c12] at H
    have c12b0 : (a0 == 6) = true := beq_iff_eq.mpr c12
    have c12b1 : (a0 != 6) = false := bne_eq_false_iff_eq.mpr c12
    clear c12
    by_cases c13 : a3_0 ≥ 0
    · rw [if_pos c13] at H
      have c13b0 : decide (0 ≤ a3_0) = true := decide_eq_true c13
      clear c13
      simp only [Option.some.injEq, Prod.mk.injEq] at H
      obtain ⟨rfl, rfl, rfl⟩ := H
      have hnb14 := NB419_420.out
      have hnc14 := NB420_419.out
      have hcz15_0 : w7.cell? ⟨gb419, 0, none⟩ = some (.int .i64 a3_0) := (bC BK419.out 0).trans rfl
      have hcz15_1 : w7.cell? ⟨gb419, 1, none⟩ = some (.int .i64 a3_1) := (bC BK419.out 1).trans rfl
      have hfz15_0 := bZ BK419.out 0
      have hfz15_1 := bZ BK419.out 1
      have hcz16_0 : w7.cell? ⟨gb420, 0, none⟩ = some (.int .i64 0) := (bC BK420.out 0).trans rfl
      have hcz16_1 : w7.cell? ⟨gb420, 1, none⟩ = some (.int .i64 0) := (bC BK420.out 1).trans rfl
      have hfz16_0 := bZ BK420.out 0
      have hfz16_1 := bZ BK420.out 1
      go_wp2
      refine bodyPost_ret (results_ct rfl _ _ gb420 47 #[.int .i64 a3_0, .int .i64 a3_1] (0, 0) _ rfl (by (with_reducible repeat (first | apply bN | apply bD | apply bA)); refine bP (cs := #[.int .i64 a3_0, .int .i64 0]) ?_ 1 _ rfl; (with_reducible repeat (first | apply bN | apply bD | apply bA)); refine bP (cs := #[.int .i64 0, .int .i64 0]) ?_ 0 _ rfl; (with_reducible repeat (first | apply bN | apply bD | apply bA)); exact BK420.out) Try.underlying47 rfl (by kernel_rfl)) rfl ?_
      exact ⟨by first | rfl | (simp [errW_none, errW_some] <;> rfl) | (simp [*, errW_none, errW_some] <;> rfl), by repeat (first | (with_reducible first | exact HB.out | apply cA | apply cN | apply cD | refine cS ?_ GE419.out | refine cS ?_ GE420.out) | exact HB.out)⟩
    rw [if_neg c13] at H
    have c13b0 : decide (0 ≤ a3_0) = false := decide_eq_false c13
    clear c13
    obtain ⟨ji17, hji17⟩ : ∃ j_ : Int, (mx 0 (wrap64 (-a3_1))) = j_ := ⟨_, rfl⟩
    replace H : (some (ji17, mx (wrap64 (-a3_0)) a3_1, 0)) = some (r1, r2, r3) := by first | (rw [hji17] at H; exact H) | (simp only [hji17] at H ⊢; exact H)
    (try (have hji17l : 0 ≤ ji17 := by (rw [← hji17]; unfold mx; (repeat' split) <;> omega)))
    (try (have hji17m : 0 ≤ ji17 := by omega))
    have hji17_ : (if 0 < (wrap64 (-a3_1)) then (wrap64 (-a3_1)) else 0) = ji17 := hji17
    obtain ⟨ji18, hji18⟩ : ∃ j_ : Int, (mx (wrap64 (-a3_0)) a3_1) = j_ := ⟨_, rfl⟩
    replace H : (some (ji17, ji18, 0)) = some (r1, r2, r3) := by first | (rw [hji18] at H; exact H) | (simp only [hji18] at H ⊢; exact H)
    have hji18_ : (if (wrap64 (-a3_0)) < a3_1 then a3_1 else (wrap64 (-a3_0))) = ji18 := hji18
    simp only [Option.some.injEq, Prod.mk.injEq] at H
    obtain ⟨rfl, rfl, rfl⟩ := H
    have hnb19 := NB419_420.out
    have hnc19 := NB420_419.out
    have hcz20_0 : w7.cell? ⟨gb419, 0, none⟩ = some (.int .i64 a3_0) := (bC BK419.out 0).trans rfl
    have hcz20_1 : w7.cell? ⟨gb419, 1, none⟩ = some (.int .i64 a3_1) := (bC BK419.out 1).trans rfl
    have hfz20_0 := bZ BK419.out 0
    have hfz20_1 := bZ BK419.out 1
    have hcz21_0 : w7.cell? ⟨gb420, 0, none⟩ = some (.int .i64 0) := (bC BK420.out 0).trans rfl
    have hcz21_1 : w7.cell? ⟨gb420, 1, none⟩ = some (.int .i64 0) := (bC BK420.out 1).trans rfl
    have hfz21_0 := bZ BK420.out 0
    have hfz21_1 := bZ BK420.out 1
    go_wp2
    refine bodyPost_ret (results_ct rfl _ _ gb420 47 #[.int .i64 ji17, .int .i64 ji18] (0, 0) _ rfl (by (with_reducible repeat (first | apply bN | apply bD | apply bA)); refine bP (cs := #[.int .i64 ji17, .int .i64 0]) ?_ 1 _ rfl; (with_reducible repeat (first | apply bN | apply bD | apply bA)); refine bP (cs := #[.int .i64 0, .int .i64 0]) ?_ 0 _ rfl; (with_reducible repeat (first | apply bN | apply bD | apply bA)); exact BK420.out) Try.underlying47 rfl (by kernel_rfl)) rfl ?_
    exact ⟨by first | rfl | (simp [errW_none, errW_some] <;> rfl) | (simp only [← hji17, ← hji18]; first | rfl | (simp [errW_none, errW_some] <;> rfl)) | (simp [*, errW_none, errW_some] <;> rfl), by repeat (first | (with_reducible first | exact HB.out | apply cA | apply cN | apply cD | refine cS ?_ GE419.out | refine cS ?_ GE420.out) | exact HB.out)⟩
  rw [if_neg c12] at H
  have c12b0 : (a0 == 6) = false := beq_eq_false_iff_ne.mpr c12
  have c12b1 : (a0 != 6) = true := bne_iff_ne.mpr c12
  by_cases c22 : a0 = 7
  · rw [if_pos c22] at H
    have c22b0 : (a0 == 7) = true := beq_iff_eq.mpr c22
    have c22b1 : (a0 != 7) = false := bne_eq_false_iff_eq.mpr c22
    clear c22
    replace H := Option.bind_eq_some_iff.mp H
    obtain ⟨t421, A230, H⟩ := H
    replace H : ((span_sign.f a3_1).bind fun t422 => (some (t421, t422, 0))) = some (r1, r2, r3) := H
    have A23 := Aside0.mk A230
    clear A230
    replace H := Option.bind_eq_some_iff.mp H
    obtain ⟨t422, A240, H⟩ := H
    replace H : (some (t421, t422, 0)) = some (r1, r2, r3) := H
    have A24 := Aside0.mk A240
    clear A240
    simp only [Option.some.injEq, Prod.mk.injEq] at H
    obtain ⟨rfl, rfl, rfl⟩ := H
    try go_wp2
    have n0_ := Aside0.mk (bD BK419.out)
    have n1_ := Aside0.mk (bD BK420.out)
    have n2_ := Aside0.mk (cD HB.out)
    clear BK419
    clear BK420
    clear HB
    have BK419 := n0_
    have BK420 := n1_
    have HB := n2_
    clear n0_ n1_ n2_
    refine start_ (n := 9) (S := fun w' => w'.cell? ⟨gb419, 0, none⟩ = some (.int .i64 a3_0) ∧ w'.cell? ⟨gb419, 1, none⟩ = some (.int .i64 a3_1)) (ds := []) #[false, false, false, false, false, false, false, false, false] (by kernel_rfl) rfl rfl ⟨(bC BK419.out 0).trans rfl, (bC BK419.out 1).trans rfl⟩ (fun hHeld => ?_); refine with_tabW span_one.tab9 span_one.bits9 (fun HT_ HW_ => ?_)
    generalize w7.drew = w25 at BK419 BK420 HB hHeld ⊢
    refine pure_ (i := 0) (N := some 40) (v := ?_) (a' := ?_) #[true, false, false, false, false, false, false, false, false] rfl rfl (any_of HT_.out (by kernel_rfl)) (fun _ _ _ h => h) (Or.inl ⟨by rfl, ?_⟩) ?_ ?_
    rotate_left
    · intro w'
      go_simp
      with_reducible rfl
    rotate_left
    · simp only [Act.put, List.setIfInBounds_toArray, List.set_cons_zero, List.set_cons_succ, i64_w, i32_w]
      rfl
    refine pure_ (i := 3) (N := some 43) (v := ?_) (a' := ?_) #[true, false, false, true, false, false, false, false, false] rfl rfl (any_of HT_.out (by kernel_rfl)) (fun _ _ _ h => h) (Or.inl ⟨by rfl, ?_⟩) ?_ ?_
    rotate_left
    · intro w'
      go_simp
      with_reducible rfl
    rotate_left
    · simp only [Act.put, List.setIfInBounds_toArray, List.set_cons_zero, List.set_cons_succ, i64_w, i32_w]
      rfl
    refine take_ (i := 1) (N := some 41) (v := ?_) (a' := ?_) #[true, true, false, true, false, false, false, false, false] rfl rfl (take_ofW HT_.out HW_.out (by kernel_rfl)) (fun _ _ _ h => h) (Or.inl ⟨by rfl, ?_⟩) hHeld ?_ ?_
    rotate_left
    · rintro w' ⟨s0, s1⟩
      go_simp
      with_reducible rfl
    rotate_left
    · simp only [Act.put, List.setIfInBounds_toArray, List.set_cons_zero, List.set_cons_succ, i64_w, i32_w]
      rfl
    refine take_ (i := 4) (N := some 44) (v := ?_) (a' := ?_) #[true, true, false, true, true, false, false, false, false] rfl rfl (take_ofW HT_.out HW_.out (by kernel_rfl)) (fun _ _ _ h => h) (Or.inl ⟨by rfl, ?_⟩) hHeld ?_ ?_
    rotate_left
    · rintro w' ⟨s0, s1⟩
      go_simp
      with_reducible rfl
    rotate_left
    · simp only [Act.put, List.setIfInBounds_toArray, List.set_cons_zero, List.set_cons_succ, i64_w, i32_w]
      rfl
    refine one_ (i := 2) (N := some 42) #[true, true, true, true, true, false, false, false, false] rfl rfl (one_of HT_.out (by kernel_rfl)) (by decide) (fun K hK => ?_)
    refine goes_ Try.func52 (by kernel_rfl) rfl #[.int .i64 a3_0] (by rfl) rfl rfl (by (try simp only [List.map_toArray, List.map_cons, List.map_nil]); first | done | rfl | (simp only [List.length_drop, List.length_take]; rfl)) ?_
    with_reducible refine (span_sign.calls a3_0 t421 _ A23.out).mono ?_
    rintro e w26 ⟨rfl, hb⟩
    refine ⟨_, rfl, ?_⟩
    have n0_ := Aside0.mk (bB (g := gb419) (o := .cells #[.int .i64 a3_0, .int .i64 a3_1] 47 (0, 0)) (by (with_reducible repeat (first | apply bN | apply bD | apply bA)); exact BK419.out) hb)
    have n1_ := Aside0.mk (bB (g := gb420) (o := .cells #[.int .i64 0, .int .i64 0] 47 (0, 0)) (by (with_reducible repeat (first | apply bN | apply bD | apply bA)); exact BK420.out) hb)
    have n2_ := Aside0.mk (cT (by repeat (first | (with_reducible first | exact HB.out | apply cA | apply cN | apply cD | refine cS ?_ GE419.out | refine cS ?_ GE420.out) | exact HB.out)) hb)
    clear BK419
    clear BK420
    clear HB
    have BK419 := n0_
    have BK420 := n1_
    have HB := n2_
    clear n0_ n1_ n2_
    (try clear hb)
    (try clear hb2)
    (try clear hk)
    (try clear hi)
    refine hK.out _ _ ⟨(bC BK419.out 0).trans rfl, (bC BK419.out 1).trans rfl⟩ (fun hHeld => ?_)
    clear hK K
    refine norm_ (a' := ?_) ?_ ?_
    rotate_left
    · show Act.put _ (some 42) _ = _
      simp only [Act.put, List.setIfInBounds_toArray, List.set_cons_zero, List.set_cons_succ, i64_w, i32_w]
      rfl
    refine one_ (i := 5) (N := some 45) #[true, true, true, true, true, true, false, false, false] rfl rfl (one_of HT_.out (by kernel_rfl)) (by decide) (fun K hK => ?_)
    refine goes_ Try.func52 (by kernel_rfl) rfl #[.int .i64 a3_1] (by rfl) rfl rfl (by (try simp only [List.map_toArray, List.map_cons, List.map_nil]); first | done | rfl | (simp only [List.length_drop, List.length_take]; rfl)) ?_
    with_reducible refine (span_sign.calls a3_1 t422 _ A24.out).mono ?_
    rintro e w27 ⟨rfl, hb⟩
    refine ⟨_, rfl, ?_⟩
    have n0_ := Aside0.mk (bB (g := gb419) (o := .cells #[.int .i64 a3_0, .int .i64 a3_1] 47 (0, 0)) (by (with_reducible repeat (first | apply bN | apply bD | apply bA)); exact BK419.out) hb)
    have n1_ := Aside0.mk (bB (g := gb420) (o := .cells #[.int .i64 0, .int .i64 0] 47 (0, 0)) (by (with_reducible repeat (first | apply bN | apply bD | apply bA)); exact BK420.out) hb)
    have n2_ := Aside0.mk (cT (by repeat (first | (with_reducible first | exact HB.out | apply cA | apply cN | apply cD | refine cS ?_ GE419.out | refine cS ?_ GE420.out) | exact HB.out)) hb)
    clear BK419
    clear BK420
    clear HB
    have BK419 := n0_
    have BK420 := n1_
    have HB := n2_
    clear n0_ n1_ n2_
    (try clear hb)
    (try clear hb2)
    (try clear hk)
    (try clear hi)
    refine hK.out _ _ ⟨(bC BK419.out 0).trans rfl, (bC BK419.out 1).trans rfl⟩ (fun hHeld => ?_)
    clear hK K
    refine norm_ (a' := ?_) ?_ ?_
    rotate_left
    · show Act.put _ (some 45) _ = _
      simp only [Act.put, List.setIfInBounds_toArray, List.set_cons_zero, List.set_cons_succ, i64_w, i32_w]
      rfl
    refine pure_ (i := 6) (N := some 46) (v := ?_) (a' := ?_) #[true, true, true, true, true, true, true, false, false] rfl rfl (any_of HT_.out (by kernel_rfl)) (fun _ _ _ h => h) (Or.inl ⟨by rfl, ?_⟩) ?_ ?_
    rotate_left
    · intro w'
      go_simp
      with_reducible rfl
    rotate_left
    · simp only [Act.put, List.setIfInBounds_toArray, List.set_cons_zero, List.set_cons_succ, i64_w, i32_w]
      rfl
    refine one_ (i := 7) (N := none) #[true, true, true, true, true, true, true, true, false] rfl rfl (one_of HT_.out (by kernel_rfl)) (by decide) (fun K hK => ?_)
    have hs28 : w27.cell? ⟨gb420, 0, none⟩ = some (.int .i64 0) := (bC BK420.out 0).trans rfl
    have hfs28 := bZ BK420.out 0
    have hns28_0 := NB419_420.out
    have hms28_0 := NB420_419.out
    have hs29 : w27.cell? ⟨gb420, 1, none⟩ = some (.int .i64 0) := (bC BK420.out 1).trans rfl
    have hfs29 := bZ BK420.out 1
    have hns29_0 := NB419_420.out
    have hms29_0 := NB420_419.out
    refine skip_ (w1 := ?_) (by rfl) rfl ?_ ?_
    rotate_left
    · go_simp
      rfl
    refine hK.out _ _ ⟨((cell_far (p := ⟨gb420, _, none⟩) NB419_420.out _).trans (((cell_far (p := ⟨gb420, _, none⟩) NB419_420.out _).trans (hHeld.1)))), ((cell_far (p := ⟨gb420, _, none⟩) NB419_420.out _).trans (((cell_far (p := ⟨gb420, _, none⟩) NB419_420.out _).trans (hHeld.2))))⟩ (fun hHeld => ?_)
    clear hK K
    refine pure_ (i := 8) (N := some 9) (v := ?_) (a' := ?_) #[true, true, true, true, true, true, true, true, true] rfl rfl (any_of HT_.out (by kernel_rfl)) (fun _ _ _ h => h) (Or.inl ⟨by rfl, ?_⟩) ?_ ?_
    rotate_left
    · intro w'
      go_simp
      with_reducible rfl
    rotate_left
    · simp only [Act.put, List.setIfInBounds_toArray, List.set_cons_zero, List.set_cons_succ, i64_w, i32_w]
      rfl
    refine done_ (done_of HT_.out (by kernel_rfl)) ?_
    try go_wp2
    refine bodyPost_ret (results_ct rfl _ _ gb420 47 #[.int .i64 t421, .int .i64 t422] (0, 0) _ rfl (by (with_reducible repeat (first | apply bN | apply bD | apply bA)); refine bP (cs := #[.int .i64 t421, .int .i64 0]) ?_ 1 _ rfl; (with_reducible repeat (first | apply bN | apply bD | apply bA)); refine bP (cs := #[.int .i64 0, .int .i64 0]) ?_ 0 _ rfl; (with_reducible repeat (first | apply bN | apply bD | apply bA)); exact BK420.out) Try.underlying47 rfl (by kernel_rfl)) rfl ?_
    exact ⟨by first | rfl | (simp [errW_none, errW_some] <;> rfl) | (simp [*, errW_none, errW_some] <;> rfl), by repeat (first | (with_reducible first | exact HB.out | apply cA | apply cN | apply cD | refine cS ?_ GE419.out | refine cS ?_ GE420.out) | exact HB.out)⟩
  rw [if_neg c22] at H
  have c22b0 : (a0 == 7) = false := beq_eq_false_iff_ne.mpr c22
  have c22b1 : (a0 != 7) = true := bne_iff_ne.mpr c22
  by_cases c30 : a0 = 29
  · rw [if_pos c30] at H
    have c30b0 : (a0 == 29) = true := beq_iff_eq.mpr c30
    have c30b1 : (a0 != 29) = false := bne_eq_false_iff_eq.mpr c30
    clear c30
    by_cases c31 : 0 ≤ a1
    · rw [if_pos c31] at H
      have c31b0 := eq_true c31
      have c31b1 : decide (0 ≤ a1) = true := decide_eq_true c31
      clear c31
      obtain ⟨ji32, hji32⟩ : ∃ j_ : Int, (shl .i64 a3_0 a1) = j_ := ⟨_, rfl⟩
      replace H : (some (ji32, shl .i64 a3_1 a1, 0)) = some (r1, r2, r3) := by first | (rw [hji32] at H; exact H) | (simp only [hji32] at H ⊢; exact H)
      have hji32_ : (IntKind.i64.wrap (a3_0 * 2 ^ min a1.toNat 64)) = ji32 := hji32
      have hji32z : a1 ≤ 64 → (IntKind.i64.wrap (a3_0 * 2 ^ a1.toNat)) = ji32 := shl_small hji32
      have hji32y : (wrap64 (a3_0 * 2 ^ min a1.toNat 64)) = ji32 := (i64_w _).symm.trans hji32_
      have hji32x : a1 ≤ 64 → (wrap64 (a3_0 * 2 ^ a1.toNat)) = ji32 := fun h_ => (i64_w _).symm.trans (hji32z h_)
      have c33b0 := eq_true (of_decide_eq_true (by first | (with_reducible assumption) | assumption) : 0 ≤ a1)
      obtain ⟨ji34, hji34⟩ : ∃ j_ : Int, (shl .i64 a3_1 a1) = j_ := ⟨_, rfl⟩
      replace H : (some (ji32, ji34, 0)) = some (r1, r2, r3) := by first | (rw [hji34] at H; exact H) | (simp only [hji34] at H ⊢; exact H)
      have hji34_ : (IntKind.i64.wrap (a3_1 * 2 ^ min a1.toNat 64)) = ji34 := hji34
      have hji34z : a1 ≤ 64 → (IntKind.i64.wrap (a3_1 * 2 ^ a1.toNat)) = ji34 := shl_small hji34
      have hji34y : (wrap64 (a3_1 * 2 ^ min a1.toNat 64)) = ji34 := (i64_w _).symm.trans hji34_
      have hji34x : a1 ≤ 64 → (wrap64 (a3_1 * 2 ^ a1.toNat)) = ji34 := fun h_ => (i64_w _).symm.trans (hji34z h_)
      simp only [Option.some.injEq, Prod.mk.injEq] at H
      obtain ⟨rfl, rfl, rfl⟩ := H
      try go_wp2
      have n0_ := Aside0.mk (bD BK419.out)
      have n1_ := Aside0.mk (bD BK420.out)
      have n2_ := Aside0.mk (cD HB.out)
      clear BK419
      clear BK420
      clear HB
      have BK419 := n0_
      have BK420 := n1_
      have HB := n2_
      clear n0_ n1_ n2_
      refine start_ (n := 11) (S := fun w' => w'.cell? ⟨gb419, 0, none⟩ = some (.int .i64 a3_0) ∧ w'.cell? ⟨gb419, 1, none⟩ = some (.int .i64 a3_1)) (ds := []) #[false, false, false, false, false, false, false, false, false, false, false] (by kernel_rfl) rfl rfl ⟨(bC BK419.out 0).trans rfl, (bC BK419.out 1).trans rfl⟩ (fun hHeld => ?_); refine with_tabW span_one.tab11 span_one.bits11 (fun HT_ HW_ => ?_)
      generalize w7.drew = w35 at BK419 BK420 HB hHeld ⊢
      refine pure_ (i := 0) (N := some 49) (v := ?_) (a' := ?_) #[true, false, false, false, false, false, false, false, false, false, false] rfl rfl (any_of HT_.out (by kernel_rfl)) (fun _ _ _ h => h) (Or.inl ⟨by rfl, ?_⟩) ?_ ?_
      rotate_left
      · intro w'
        go_simp
        with_reducible rfl
      rotate_left
      · simp only [Act.put, List.setIfInBounds_toArray, List.set_cons_zero, List.set_cons_succ, i64_w, i32_w]
        rfl
      refine pure_ (i := 2) (N := some 51) (v := ?_) (a' := ?_) #[true, false, true, false, false, false, false, false, false, false, false] rfl rfl (any_of HT_.out (by kernel_rfl)) (fun _ _ _ h => h) (Or.inl ⟨by rfl, ?_⟩) ?_ ?_
      rotate_left
      · intro w'
        go_simp
        with_reducible rfl
      rotate_left
      · simp only [Act.put, List.setIfInBounds_toArray, List.set_cons_zero, List.set_cons_succ, i64_w, i32_w]
        rfl
      refine pure_ (i := 4) (N := some 53) (v := ?_) (a' := ?_) #[true, false, true, false, true, false, false, false, false, false, false] rfl rfl (any_of HT_.out (by kernel_rfl)) (fun _ _ _ h => h) (Or.inl ⟨by rfl, ?_⟩) ?_ ?_
      rotate_left
      · intro w'
        go_simp
        with_reducible rfl
      rotate_left
      · simp only [Act.put, List.setIfInBounds_toArray, List.set_cons_zero, List.set_cons_succ, i64_w, i32_w]
        rfl
      refine pure_ (i := 6) (N := some 55) (v := ?_) (a' := ?_) #[true, false, true, false, true, false, true, false, false, false, false] rfl rfl (any_of HT_.out (by kernel_rfl)) (fun _ _ _ h => h) (Or.inl ⟨by rfl, ?_⟩) ?_ ?_
      rotate_left
      · intro w'
        go_simp
        with_reducible rfl
      rotate_left
      · simp only [Act.put, List.setIfInBounds_toArray, List.set_cons_zero, List.set_cons_succ, i64_w, i32_w]
        rfl
      refine take_ (i := 1) (N := some 50) (v := ?_) (a' := ?_) #[true, true, true, false, true, false, true, false, false, false, false] rfl rfl (take_ofW HT_.out HW_.out (by kernel_rfl)) (fun _ _ _ h => h) (Or.inl ⟨by rfl, ?_⟩) hHeld ?_ ?_
      rotate_left
      · rintro w' ⟨s0, s1⟩
        go_simp
        with_reducible rfl
      rotate_left
      · simp only [Act.put, List.setIfInBounds_toArray, List.set_cons_zero, List.set_cons_succ, i64_w, i32_w]
        rfl
      refine pure_ (i := 3) (N := some 52) (v := ?_) (a' := ?_) #[true, true, true, true, true, false, true, false, false, false, false] rfl rfl (any_of HT_.out (by kernel_rfl)) (fun _ _ _ h => h) (Or.inl ⟨by rfl, ?_⟩) ?_ ?_
      rotate_left
      · intro w'
        go_simp
        with_reducible rfl
      rotate_left
      · simp only [Act.put, List.setIfInBounds_toArray, List.set_cons_zero, List.set_cons_succ, i64_w, i32_w]
        rfl
      refine take_ (i := 5) (N := some 54) (v := ?_) (a' := ?_) #[true, true, true, true, true, true, true, false, false, false, false] rfl rfl (take_ofW HT_.out HW_.out (by kernel_rfl)) (fun _ _ _ h => h) (Or.inl ⟨by rfl, ?_⟩) hHeld ?_ ?_
      rotate_left
      · rintro w' ⟨s0, s1⟩
        go_simp
        with_reducible rfl
      rotate_left
      · simp only [Act.put, List.setIfInBounds_toArray, List.set_cons_zero, List.set_cons_succ, i64_w, i32_w]
        rfl
      refine pure_ (i := 7) (N := some 56) (v := ?_) (a' := ?_) #[true, true, true, true, true, true, true, true, false, false, false] rfl rfl (any_of HT_.out (by kernel_rfl)) (fun _ _ _ h => h) (Or.inl ⟨by rfl, ?_⟩) ?_ ?_
      rotate_left
      · intro w'
        go_simp
        with_reducible rfl
      rotate_left
      · simp only [Act.put, List.setIfInBounds_toArray, List.set_cons_zero, List.set_cons_succ, i64_w, i32_w]
        rfl
      refine pure_ (i := 8) (N := some 57) (v := ?_) (a' := ?_) #[true, true, true, true, true, true, true, true, true, false, false] rfl rfl (any_of HT_.out (by kernel_rfl)) (fun _ _ _ h => h) (Or.inl ⟨by rfl, ?_⟩) ?_ ?_
      rotate_left
      · intro w'
        go_simp
        with_reducible rfl
      rotate_left
      · simp only [Act.put, List.setIfInBounds_toArray, List.set_cons_zero, List.set_cons_succ, i64_w, i32_w]
        rfl
      refine one_ (i := 9) (N := none) #[true, true, true, true, true, true, true, true, true, true, false] rfl rfl (one_of HT_.out (by kernel_rfl)) (by decide) (fun K hK => ?_)
      have hs36 : w35.cell? ⟨gb420, 0, none⟩ = some (.int .i64 0) := (bC BK420.out 0).trans rfl
      have hfs36 := bZ BK420.out 0
      have hns36_0 := NB419_420.out
      have hms36_0 := NB420_419.out
      have hs37 : w35.cell? ⟨gb420, 1, none⟩ = some (.int .i64 0) := (bC BK420.out 1).trans rfl
      have hfs37 := bZ BK420.out 1
      have hns37_0 := NB419_420.out
      have hms37_0 := NB420_419.out
      refine skip_ (w1 := ?_) (by rfl) rfl ?_ ?_
      rotate_left
      · go_simp
        rfl
      refine hK.out _ _ ⟨((cell_far (p := ⟨gb420, _, none⟩) NB419_420.out _).trans (((cell_far (p := ⟨gb420, _, none⟩) NB419_420.out _).trans (hHeld.1)))), ((cell_far (p := ⟨gb420, _, none⟩) NB419_420.out _).trans (((cell_far (p := ⟨gb420, _, none⟩) NB419_420.out _).trans (hHeld.2))))⟩ (fun hHeld => ?_)
      clear hK K
      refine pure_ (i := 10) (N := some 9) (v := ?_) (a' := ?_) #[true, true, true, true, true, true, true, true, true, true, true] rfl rfl (any_of HT_.out (by kernel_rfl)) (fun _ _ _ h => h) (Or.inl ⟨by rfl, ?_⟩) ?_ ?_
      rotate_left
      · intro w'
        go_simp
        with_reducible rfl
      rotate_left
      · simp only [Act.put, List.setIfInBounds_toArray, List.set_cons_zero, List.set_cons_succ, i64_w, i32_w]
        rfl
      refine done_ (done_of HT_.out (by kernel_rfl)) ?_
      try go_wp2
      refine bodyPost_ret (results_ct rfl _ _ gb420 47 #[.int .i64 ji32, .int .i64 ji34] (0, 0) _ rfl (by (with_reducible repeat (first | apply bN | apply bD | apply bA)); refine bP (cs := #[.int .i64 ji32, .int .i64 0]) ?_ 1 _ rfl; (with_reducible repeat (first | apply bN | apply bD | apply bA)); refine bP (cs := #[.int .i64 0, .int .i64 0]) ?_ 0 _ rfl; (with_reducible repeat (first | apply bN | apply bD | apply bA)); exact BK420.out) Try.underlying47 rfl (by kernel_rfl)) rfl ?_
      exact ⟨by first | rfl | (simp [errW_none, errW_some] <;> rfl) | (simp only [← hji32, ← hji34]; first | rfl | (simp [errW_none, errW_some] <;> rfl)) | (simp [*, errW_none, errW_some] <;> rfl), by repeat (first | (with_reducible first | exact HB.out | apply cA | apply cN | apply cD | refine cS ?_ GE419.out | refine cS ?_ GE420.out) | exact HB.out)⟩
    rw [if_neg c31] at H
    exact absurd H (by simp)
  rw [if_neg c30] at H
  have c30b0 : (a0 == 29) = false := beq_eq_false_iff_ne.mpr c30
  have c30b1 : (a0 != 29) = true := bne_iff_ne.mpr c30
  by_cases c38 : a0 = 30
  · rw [if_pos c38] at H
    have c38b0 : (a0 == 30) = true := beq_iff_eq.mpr c38
    have c38b1 : (a0 != 30) = false := bne_eq_false_iff_eq.mpr c38
    clear c38
    by_cases c39 : 0 ≤ a1
    · rw [if_pos c39] at H
      have c39b0 := eq_true c39
      have c39b1 : decide (0 ≤ a1) = true := decide_eq_true c39
      clear c39
      obtain ⟨ji40, hji40⟩ : ∃ j_ : Int, (shr .i64 a3_0 a1) = j_ := ⟨_, rfl⟩
      replace H : (some (ji40, shr .i64 a3_1 a1, 0)) = some (r1, r2, r3) := by first | (rw [hji40] at H; exact H) | (simp only [hji40] at H ⊢; exact H)
      have hji40_ : (a3_0 / 2 ^ min a1.toNat 64) = ji40 := hji40
      have hji40z : a1 ≤ 64 → (a3_0 / 2 ^ a1.toNat) = ji40 := shr_small hji40
      have c41b0 := eq_true (of_decide_eq_true (by first | (with_reducible assumption) | assumption) : 0 ≤ a1)
      obtain ⟨ji42, hji42⟩ : ∃ j_ : Int, (shr .i64 a3_1 a1) = j_ := ⟨_, rfl⟩
      replace H : (some (ji40, ji42, 0)) = some (r1, r2, r3) := by first | (rw [hji42] at H; exact H) | (simp only [hji42] at H ⊢; exact H)
      have hji42_ : (a3_1 / 2 ^ min a1.toNat 64) = ji42 := hji42
      have hji42z : a1 ≤ 64 → (a3_1 / 2 ^ a1.toNat) = ji42 := shr_small hji42
      simp only [Option.some.injEq, Prod.mk.injEq] at H
      obtain ⟨rfl, rfl, rfl⟩ := H
      try go_wp2
      have n0_ := Aside0.mk (bD BK419.out)
      have n1_ := Aside0.mk (bD BK420.out)
      have n2_ := Aside0.mk (cD HB.out)
      clear BK419
      clear BK420
      clear HB
      have BK419 := n0_
      have BK420 := n1_
      have HB := n2_
      clear n0_ n1_ n2_
      refine start_ (n := 11) (S := fun w' => w'.cell? ⟨gb419, 0, none⟩ = some (.int .i64 a3_0) ∧ w'.cell? ⟨gb419, 1, none⟩ = some (.int .i64 a3_1)) (ds := []) #[false, false, false, false, false, false, false, false, false, false, false] (by kernel_rfl) rfl rfl ⟨(bC BK419.out 0).trans rfl, (bC BK419.out 1).trans rfl⟩ (fun hHeld => ?_); refine with_tabW span_one.tab13 span_one.bits13 (fun HT_ HW_ => ?_)
      generalize w7.drew = w43 at BK419 BK420 HB hHeld ⊢
      refine pure_ (i := 0) (N := some 60) (v := ?_) (a' := ?_) #[true, false, false, false, false, false, false, false, false, false, false] rfl rfl (any_of HT_.out (by kernel_rfl)) (fun _ _ _ h => h) (Or.inl ⟨by rfl, ?_⟩) ?_ ?_
      rotate_left
      · intro w'
        go_simp
        with_reducible rfl
      rotate_left
      · simp only [Act.put, List.setIfInBounds_toArray, List.set_cons_zero, List.set_cons_succ, i64_w, i32_w]
        rfl
      refine pure_ (i := 2) (N := some 62) (v := ?_) (a' := ?_) #[true, false, true, false, false, false, false, false, false, false, false] rfl rfl (any_of HT_.out (by kernel_rfl)) (fun _ _ _ h => h) (Or.inl ⟨by rfl, ?_⟩) ?_ ?_
      rotate_left
      · intro w'
        go_simp
        with_reducible rfl
      rotate_left
      · simp only [Act.put, List.setIfInBounds_toArray, List.set_cons_zero, List.set_cons_succ, i64_w, i32_w]
        rfl
      refine pure_ (i := 4) (N := some 64) (v := ?_) (a' := ?_) #[true, false, true, false, true, false, false, false, false, false, false] rfl rfl (any_of HT_.out (by kernel_rfl)) (fun _ _ _ h => h) (Or.inl ⟨by rfl, ?_⟩) ?_ ?_
      rotate_left
      · intro w'
        go_simp
        with_reducible rfl
      rotate_left
      · simp only [Act.put, List.setIfInBounds_toArray, List.set_cons_zero, List.set_cons_succ, i64_w, i32_w]
        rfl
      refine pure_ (i := 6) (N := some 66) (v := ?_) (a' := ?_) #[true, false, true, false, true, false, true, false, false, false, false] rfl rfl (any_of HT_.out (by kernel_rfl)) (fun _ _ _ h => h) (Or.inl ⟨by rfl, ?_⟩) ?_ ?_
      rotate_left
      · intro w'
        go_simp
        with_reducible rfl
      rotate_left
      · simp only [Act.put, List.setIfInBounds_toArray, List.set_cons_zero, List.set_cons_succ, i64_w, i32_w]
        rfl
      refine take_ (i := 1) (N := some 61) (v := ?_) (a' := ?_) #[true, true, true, false, true, false, true, false, false, false, false] rfl rfl (take_ofW HT_.out HW_.out (by kernel_rfl)) (fun _ _ _ h => h) (Or.inl ⟨by rfl, ?_⟩) hHeld ?_ ?_
      rotate_left
      · rintro w' ⟨s0, s1⟩
        go_simp
        with_reducible rfl
      rotate_left
      · simp only [Act.put, List.setIfInBounds_toArray, List.set_cons_zero, List.set_cons_succ, i64_w, i32_w]
        rfl
      refine pure_ (i := 3) (N := some 63) (v := ?_) (a' := ?_) #[true, true, true, true, true, false, true, false, false, false, false] rfl rfl (any_of HT_.out (by kernel_rfl)) (fun _ _ _ h => h) (Or.inl ⟨by rfl, ?_⟩) ?_ ?_
      rotate_left
      · intro w'
        go_simp
        with_reducible rfl
      rotate_left
      · simp only [Act.put, List.setIfInBounds_toArray, List.set_cons_zero, List.set_cons_succ, i64_w, i32_w]
        rfl
      refine take_ (i := 5) (N := some 65) (v := ?_) (a' := ?_) #[true, true, true, true, true, true, true, false, false, false, false] rfl rfl (take_ofW HT_.out HW_.out (by kernel_rfl)) (fun _ _ _ h => h) (Or.inl ⟨by rfl, ?_⟩) hHeld ?_ ?_
      rotate_left
      · rintro w' ⟨s0, s1⟩
        go_simp
        with_reducible rfl
      rotate_left
      · simp only [Act.put, List.setIfInBounds_toArray, List.set_cons_zero, List.set_cons_succ, i64_w, i32_w]
        rfl
      refine pure_ (i := 7) (N := some 67) (v := ?_) (a' := ?_) #[true, true, true, true, true, true, true, true, false, false, false] rfl rfl (any_of HT_.out (by kernel_rfl)) (fun _ _ _ h => h) (Or.inl ⟨by rfl, ?_⟩) ?_ ?_
      rotate_left
      · intro w'
        go_simp
        with_reducible rfl
      rotate_left
      · simp only [Act.put, List.setIfInBounds_toArray, List.set_cons_zero, List.set_cons_succ, i64_w, i32_w]
        rfl
      refine pure_ (i := 8) (N := some 68) (v := ?_) (a' := ?_) #[true, true, true, true, true, true, true, true, true, false, false] rfl rfl (any_of HT_.out (by kernel_rfl)) (fun _ _ _ h => h) (Or.inl ⟨by rfl, ?_⟩) ?_ ?_
      rotate_left
      · intro w'
        go_simp
        with_reducible rfl
      rotate_left
      · simp only [Act.put, List.setIfInBounds_toArray, List.set_cons_zero, List.set_cons_succ, i64_w, i32_w]
        rfl
      refine one_ (i := 9) (N := none) #[true, true, true, true, true, true, true, true, true, true, false] rfl rfl (one_of HT_.out (by kernel_rfl)) (by decide) (fun K hK => ?_)
      have hs44 : w43.cell? ⟨gb420, 0, none⟩ = some (.int .i64 0) := (bC BK420.out 0).trans rfl
      have hfs44 := bZ BK420.out 0
      have hns44_0 := NB419_420.out
      have hms44_0 := NB420_419.out
      have hs45 : w43.cell? ⟨gb420, 1, none⟩ = some (.int .i64 0) := (bC BK420.out 1).trans rfl
      have hfs45 := bZ BK420.out 1
      have hns45_0 := NB419_420.out
      have hms45_0 := NB420_419.out
      refine skip_ (w1 := ?_) (by rfl) rfl ?_ ?_
      rotate_left
      · go_simp
        rfl
      refine hK.out _ _ ⟨((cell_far (p := ⟨gb420, _, none⟩) NB419_420.out _).trans (((cell_far (p := ⟨gb420, _, none⟩) NB419_420.out _).trans (hHeld.1)))), ((cell_far (p := ⟨gb420, _, none⟩) NB419_420.out _).trans (((cell_far (p := ⟨gb420, _, none⟩) NB419_420.out _).trans (hHeld.2))))⟩ (fun hHeld => ?_)
      clear hK K
      refine pure_ (i := 10) (N := some 9) (v := ?_) (a' := ?_) #[true, true, true, true, true, true, true, true, true, true, true] rfl rfl (any_of HT_.out (by kernel_rfl)) (fun _ _ _ h => h) (Or.inl ⟨by rfl, ?_⟩) ?_ ?_
      rotate_left
      · intro w'
        go_simp
        with_reducible rfl
      rotate_left
      · simp only [Act.put, List.setIfInBounds_toArray, List.set_cons_zero, List.set_cons_succ, i64_w, i32_w]
        rfl
      refine done_ (done_of HT_.out (by kernel_rfl)) ?_
      try go_wp2
      refine bodyPost_ret (results_ct rfl _ _ gb420 47 #[.int .i64 ji40, .int .i64 ji42] (0, 0) _ rfl (by (with_reducible repeat (first | apply bN | apply bD | apply bA)); refine bP (cs := #[.int .i64 ji40, .int .i64 0]) ?_ 1 _ rfl; (with_reducible repeat (first | apply bN | apply bD | apply bA)); refine bP (cs := #[.int .i64 0, .int .i64 0]) ?_ 0 _ rfl; (with_reducible repeat (first | apply bN | apply bD | apply bA)); exact BK420.out) Try.underlying47 rfl (by kernel_rfl)) rfl ?_
      exact ⟨by first | rfl | (simp [errW_none, errW_some] <;> rfl) | (simp only [← hji40, ← hji42]; first | rfl | (simp [errW_none, errW_some] <;> rfl)) | (simp [*, errW_none, errW_some] <;> rfl), by repeat (first | (with_reducible first | exact HB.out | apply cA | apply cN | apply cD | refine cS ?_ GE419.out | refine cS ?_ GE420.out) | exact HB.out)⟩
    rw [if_neg c39] at H
    exact absurd H (by simp)
  rw [if_neg c38] at H
  have c38b0 : (a0 == 30) = false := beq_eq_false_iff_ne.mpr c38
  have c38b1 : (a0 != 30) = true := bne_iff_ne.mpr c38
  by_cases c46 : a0 = 31
  · rw [if_pos c46] at H
    have c46b0 : (a0 == 31) = true := beq_iff_eq.mpr c46
    have c46b1 : (a0 != 31) = false := bne_eq_false_iff_eq.mpr c46
    clear c46
    replace H := Option.bind_eq_some_iff.mp H
    obtain ⟨⟨t423, t424⟩, A470, H⟩ := H
    replace H : (some (t423, t424, 0)) = some (r1, r2, r3) := H
    have A47 := Aside0.mk A470
    clear A470
    simp only [Option.some.injEq, Prod.mk.injEq] at H
    obtain ⟨rfl, rfl, rfl⟩ := H
    have hnb48 := NB419_420.out
    have hnc48 := NB420_419.out
    have hcz49_0 : w7.cell? ⟨gb419, 0, none⟩ = some (.int .i64 a3_0) := (bC BK419.out 0).trans rfl
    have hcz49_1 : w7.cell? ⟨gb419, 1, none⟩ = some (.int .i64 a3_1) := (bC BK419.out 1).trans rfl
    have hfz49_0 := bZ BK419.out 0
    have hfz49_1 := bZ BK419.out 1
    go_wp2_with (first | ((with_reducible refine gate_callee (f := 53) rfl ?_); refine goesL_ (some 75) rfl rfl Try.func53 (by kernel_rfl) rfl #[.agg #[.int .i64 a3_0, .int .i64 a3_1], .agg #[.int .i64 a1, .int .i64 a1]] rfl (by (try simp only [List.map_toArray, List.map_cons, List.map_nil]); first | done | rfl | (simp only [List.length_drop, List.length_take]; rfl)) ?_; (with_reducible refine (span_both.calls k a3_0 a3_1 a1 a1 t423 t424 _ A47.out).mono ?_); rintro e w50 ⟨rfl, hb⟩; refine ⟨_, rfl, ?_⟩; have n0_ := Aside0.mk (bB (g := gb419) (o := .cells #[.int .i64 a3_0, .int .i64 a3_1] 47 (0, 0)) (by (with_reducible repeat (first | apply bN | apply bD | apply bA)); exact BK419.out) hb); have n1_ := Aside0.mk (bB (g := gb420) (o := .cells #[.int .i64 0, .int .i64 0] 47 (0, 0)) (by (with_reducible repeat (first | apply bN | apply bD | apply bA)); exact BK420.out) hb); have n2_ := Aside0.mk (cT (by repeat (first | (with_reducible first | exact HB.out | apply cA | apply cN | apply cD | refine cS ?_ GE419.out | refine cS ?_ GE420.out) | exact HB.out)) hb); clear BK419; clear BK420; clear HB; have BK419 := n0_; have BK420 := n1_; have HB := n2_; clear n0_ n1_ n2_; (try clear hb); (try clear hb2); (try clear hk); (try clear hi); have hcz51_0 : w50.cell? ⟨gb420, 0, none⟩ = some (.int .i64 0) := (bC BK420.out 0).trans rfl; have hcz51_1 : w50.cell? ⟨gb420, 1, none⟩ = some (.int .i64 0) := (bC BK420.out 1).trans rfl; have hfz51_0 := bZ BK420.out 0; have hfz51_1 := bZ BK420.out 1))
    refine bodyPost_ret (results_ct rfl _ _ gb420 47 #[.int .i64 t423, .int .i64 t424] (0, 0) _ rfl (by (with_reducible repeat (first | apply bN | apply bD | apply bA)); refine bP (cs := #[.int .i64 t423, .int .i64 0]) ?_ 1 _ rfl; (with_reducible repeat (first | apply bN | apply bD | apply bA)); refine bP (cs := #[.int .i64 0, .int .i64 0]) ?_ 0 _ rfl; (with_reducible repeat (first | apply bN | apply bD | apply bA)); exact BK420.out) Try.underlying47 rfl (by kernel_rfl)) rfl ?_
    exact ⟨by first | rfl | (simp [errW_none, errW_some] <;> rfl) | (simp [*, errW_none, errW_some] <;> rfl), by repeat (first | (with_reducible first | exact HB.out | apply cA | apply cN | apply cD | refine cS ?_ GE419.out | refine cS ?_ GE420.out) | exact HB.out)⟩
  rw [if_neg c46] at H
  have c46b0 : (a0 == 31) = false := beq_eq_false_iff_ne.mpr c46
  have c46b1 : (a0 != 31) = true := bne_iff_ne.mpr c46
  by_cases c52 : a0 = 32
  · rw [if_pos c52] at H
    have c52b0 : (a0 == 32) = true := beq_iff_eq.mpr c52
    have c52b1 : (a0 != 32) = false := bne_eq_false_iff_eq.mpr c52
    clear c52
    replace H := Option.bind_eq_some_iff.mp H
    obtain ⟨⟨t425, t426⟩, A530, H⟩ := H
    replace H : (some (t425, t426, 0)) = some (r1, r2, r3) := H
    have A53 := Aside0.mk A530
    clear A530
    simp only [Option.some.injEq, Prod.mk.injEq] at H
    obtain ⟨rfl, rfl, rfl⟩ := H
    have hnb54 := NB419_420.out
    have hnc54 := NB420_419.out
    have hcz55_0 : w7.cell? ⟨gb419, 0, none⟩ = some (.int .i64 a3_0) := (bC BK419.out 0).trans rfl
    have hcz55_1 : w7.cell? ⟨gb419, 1, none⟩ = some (.int .i64 a3_1) := (bC BK419.out 1).trans rfl
    have hfz55_0 := bZ BK419.out 0
    have hfz55_1 := bZ BK419.out 1
    go_wp2_with (first | ((with_reducible refine gate_callee (f := 54) rfl ?_); refine goesL_ (some 82) rfl rfl Try.func54 (by kernel_rfl) rfl #[.agg #[.int .i64 a3_0, .int .i64 a3_1], .agg #[.int .i64 a1, .int .i64 a1], .func (.func 55) #[] #[]] rfl (by (try simp only [List.map_toArray, List.map_cons, List.map_nil]); first | done | rfl | (simp only [List.length_drop, List.length_take]; rfl)) ?_; (with_reducible refine (span_corners_with55.calls a3_0 a3_1 a1 a1  t425 t426 _ A53.out).mono ?_); rintro e w56 ⟨rfl, hb⟩; refine ⟨_, rfl, ?_⟩; have n0_ := Aside0.mk (bB (g := gb419) (o := .cells #[.int .i64 a3_0, .int .i64 a3_1] 47 (0, 0)) (by (with_reducible repeat (first | apply bN | apply bD | apply bA)); exact BK419.out) hb); have n1_ := Aside0.mk (bB (g := gb420) (o := .cells #[.int .i64 0, .int .i64 0] 47 (0, 0)) (by (with_reducible repeat (first | apply bN | apply bD | apply bA)); exact BK420.out) hb); have n2_ := Aside0.mk (cT (by repeat (first | (with_reducible first | exact HB.out | apply cA | apply cN | apply cD | refine cS ?_ GE419.out | refine cS ?_ GE420.out) | exact HB.out)) hb); clear BK419; clear BK420; clear HB; have BK419 := n0_; have BK420 := n1_; have HB := n2_; clear n0_ n1_ n2_; (try clear hb); (try clear hb2); (try clear hk); (try clear hi); have hcz57_0 : w56.cell? ⟨gb420, 0, none⟩ = some (.int .i64 0) := (bC BK420.out 0).trans rfl; have hcz57_1 : w56.cell? ⟨gb420, 1, none⟩ = some (.int .i64 0) := (bC BK420.out 1).trans rfl; have hfz57_0 := bZ BK420.out 0; have hfz57_1 := bZ BK420.out 1))
    refine bodyPost_ret (results_ct rfl _ _ gb420 47 #[.int .i64 t425, .int .i64 t426] (0, 0) _ rfl (by (with_reducible repeat (first | apply bN | apply bD | apply bA)); refine bP (cs := #[.int .i64 t425, .int .i64 0]) ?_ 1 _ rfl; (with_reducible repeat (first | apply bN | apply bD | apply bA)); refine bP (cs := #[.int .i64 0, .int .i64 0]) ?_ 0 _ rfl; (with_reducible repeat (first | apply bN | apply bD | apply bA)); exact BK420.out) Try.underlying47 rfl (by kernel_rfl)) rfl ?_
    exact ⟨by first | rfl | (simp [errW_none, errW_some] <;> rfl) | (simp [*, errW_none, errW_some] <;> rfl), by repeat (first | (with_reducible first | exact HB.out | apply cA | apply cN | apply cD | refine cS ?_ GE419.out | refine cS ?_ GE420.out) | exact HB.out)⟩
  rw [if_neg c52] at H
  have c52b0 : (a0 == 32) = false := beq_eq_false_iff_ne.mpr c52
  have c52b1 : (a0 != 32) = true := bne_iff_ne.mpr c52
  obtain ⟨ji58, hji58⟩ : ∃ j_ : Int, (mx (wrap64 (-a3_0)) a3_1) = j_ := ⟨_, rfl⟩
  replace H : (if (ji58) = 0 then (if 0 ≤ a2 then (some (shr .i64 (wrap64 (a3_0 * a1)) a2, shr .i64 (wrap64 (a3_1 * a1)) a2, 0)) else (none)) else (if a1 > (wrap64 (Int.tdiv (4611686018427387904 : Int) (ji58))) then (some (0, 0, 13)) else (if 0 ≤ a2 then (some (shr .i64 (wrap64 (a3_0 * a1)) a2, shr .i64 (wrap64 (a3_1 * a1)) a2, 0)) else (none)))) = some (r1, r2, r3) := by first | (rw [hji58] at H; exact H) | (simp only [hji58] at H ⊢; exact H)
  have hji58_ : (if (wrap64 (-a3_0)) < a3_1 then a3_1 else (wrap64 (-a3_0))) = ji58 := hji58
  by_cases c59 : (ji58) = 0
  · rw [if_pos c59] at H
    have c59b0 : ((ji58) == 0) = true := beq_iff_eq.mpr c59
    have c59b1 : ((ji58) != 0) = false := bne_eq_false_iff_eq.mpr c59
    clear c59
    by_cases c60 : 0 ≤ a2
    · rw [if_pos c60] at H
      have c60b0 := eq_true c60
      have c60b1 : decide (0 ≤ a2) = true := decide_eq_true c60
      clear c60
      obtain ⟨ji61, hji61⟩ : ∃ j_ : Int, (shr .i64 (wrap64 (a3_0 * a1)) a2) = j_ := ⟨_, rfl⟩
      replace H : (some (ji61, shr .i64 (wrap64 (a3_1 * a1)) a2, 0)) = some (r1, r2, r3) := by first | (rw [hji61] at H; exact H) | (simp only [hji61] at H ⊢; exact H)
      have hji61_ : ((wrap64 (a3_0 * a1)) / 2 ^ min a2.toNat 64) = ji61 := hji61
      have hji61z : a2 ≤ 64 → ((wrap64 (a3_0 * a1)) / 2 ^ a2.toNat) = ji61 := shr_small hji61
      have c62b0 := eq_true (of_decide_eq_true (by first | (with_reducible assumption) | assumption) : 0 ≤ a2)
      obtain ⟨ji63, hji63⟩ : ∃ j_ : Int, (shr .i64 (wrap64 (a3_1 * a1)) a2) = j_ := ⟨_, rfl⟩
      replace H : (some (ji61, ji63, 0)) = some (r1, r2, r3) := by first | (rw [hji63] at H; exact H) | (simp only [hji63] at H ⊢; exact H)
      have hji63_ : ((wrap64 (a3_1 * a1)) / 2 ^ min a2.toNat 64) = ji63 := hji63
      have hji63z : a2 ≤ 64 → ((wrap64 (a3_1 * a1)) / 2 ^ a2.toNat) = ji63 := shr_small hji63
      simp only [Option.some.injEq, Prod.mk.injEq] at H
      obtain ⟨rfl, rfl, rfl⟩ := H
      have hnb64 := NB419_420.out
      have hnc64 := NB420_419.out
      have hcz65_0 : w7.cell? ⟨gb419, 0, none⟩ = some (.int .i64 a3_0) := (bC BK419.out 0).trans rfl
      have hcz65_1 : w7.cell? ⟨gb419, 1, none⟩ = some (.int .i64 a3_1) := (bC BK419.out 1).trans rfl
      have hfz65_0 := bZ BK419.out 0
      have hfz65_1 := bZ BK419.out 1
      try go_wp2
      have n0_ := Aside0.mk (bD BK419.out)
      have n1_ := Aside0.mk (bD BK420.out)
      have n2_ := Aside0.mk (cD HB.out)
      clear BK419
      clear BK420
      clear HB
      have BK419 := n0_
      have BK420 := n1_
      have HB := n2_
      clear n0_ n1_ n2_
      refine start_ (n := 15) (S := fun w' => w'.cell? ⟨gb419, 0, none⟩ = some (.int .i64 a3_0) ∧ w'.cell? ⟨gb419, 1, none⟩ = some (.int .i64 a3_1)) (ds := []) #[false, false, false, false, false, false, false, false, false, false, false, false, false, false, false] (by kernel_rfl) rfl rfl ⟨(bC BK419.out 0).trans rfl, (bC BK419.out 1).trans rfl⟩ (fun hHeld => ?_); refine with_tabW span_one.tab21 span_one.bits21 (fun HT_ HW_ => ?_)
      generalize w7.drew = w66 at BK419 BK420 HB hHeld ⊢
      refine pure_ (i := 0) (N := some 98) (v := ?_) (a' := ?_) #[true, false, false, false, false, false, false, false, false, false, false, false, false, false, false] rfl rfl (any_of HT_.out (by kernel_rfl)) (fun _ _ _ h => h) (Or.inl ⟨by rfl, ?_⟩) ?_ ?_
      rotate_left
      · intro w'
        go_simp
        with_reducible rfl
      rotate_left
      · simp only [Act.put, List.setIfInBounds_toArray, List.set_cons_zero, List.set_cons_succ, i64_w, i32_w]
        rfl
      refine pure_ (i := 2) (N := some 100) (v := ?_) (a' := ?_) #[true, false, true, false, false, false, false, false, false, false, false, false, false, false, false] rfl rfl (any_of HT_.out (by kernel_rfl)) (fun _ _ _ h => h) (Or.inl ⟨by rfl, ?_⟩) ?_ ?_
      rotate_left
      · intro w'
        go_simp
        with_reducible rfl
      rotate_left
      · simp only [Act.put, List.setIfInBounds_toArray, List.set_cons_zero, List.set_cons_succ, i64_w, i32_w]
        rfl
      refine pure_ (i := 4) (N := some 102) (v := ?_) (a' := ?_) #[true, false, true, false, true, false, false, false, false, false, false, false, false, false, false] rfl rfl (any_of HT_.out (by kernel_rfl)) (fun _ _ _ h => h) (Or.inl ⟨by rfl, ?_⟩) ?_ ?_
      rotate_left
      · intro w'
        go_simp
        with_reducible rfl
      rotate_left
      · simp only [Act.put, List.setIfInBounds_toArray, List.set_cons_zero, List.set_cons_succ, i64_w, i32_w]
        rfl
      refine pure_ (i := 6) (N := some 104) (v := ?_) (a' := ?_) #[true, false, true, false, true, false, true, false, false, false, false, false, false, false, false] rfl rfl (any_of HT_.out (by kernel_rfl)) (fun _ _ _ h => h) (Or.inl ⟨by rfl, ?_⟩) ?_ ?_
      rotate_left
      · intro w'
        go_simp
        with_reducible rfl
      rotate_left
      · simp only [Act.put, List.setIfInBounds_toArray, List.set_cons_zero, List.set_cons_succ, i64_w, i32_w]
        rfl
      refine pure_ (i := 8) (N := some 106) (v := ?_) (a' := ?_) #[true, false, true, false, true, false, true, false, true, false, false, false, false, false, false] rfl rfl (any_of HT_.out (by kernel_rfl)) (fun _ _ _ h => h) (Or.inl ⟨by rfl, ?_⟩) ?_ ?_
      rotate_left
      · intro w'
        go_simp
        with_reducible rfl
      rotate_left
      · simp only [Act.put, List.setIfInBounds_toArray, List.set_cons_zero, List.set_cons_succ, i64_w, i32_w]
        rfl
      refine pure_ (i := 10) (N := some 108) (v := ?_) (a' := ?_) #[true, false, true, false, true, false, true, false, true, false, true, false, false, false, false] rfl rfl (any_of HT_.out (by kernel_rfl)) (fun _ _ _ h => h) (Or.inl ⟨by rfl, ?_⟩) ?_ ?_
      rotate_left
      · intro w'
        go_simp
        with_reducible rfl
      rotate_left
      · simp only [Act.put, List.setIfInBounds_toArray, List.set_cons_zero, List.set_cons_succ, i64_w, i32_w]
        rfl
      refine take_ (i := 1) (N := some 99) (v := ?_) (a' := ?_) #[true, true, true, false, true, false, true, false, true, false, true, false, false, false, false] rfl rfl (take_ofW HT_.out HW_.out (by kernel_rfl)) (fun _ _ _ h => h) (Or.inl ⟨by rfl, ?_⟩) hHeld ?_ ?_
      rotate_left
      · rintro w' ⟨s0, s1⟩
        go_simp
        with_reducible rfl
      rotate_left
      · simp only [Act.put, List.setIfInBounds_toArray, List.set_cons_zero, List.set_cons_succ, i64_w, i32_w]
        rfl
      refine pure_ (i := 3) (N := some 101) (v := ?_) (a' := ?_) #[true, true, true, true, true, false, true, false, true, false, true, false, false, false, false] rfl rfl (any_of HT_.out (by kernel_rfl)) (fun _ _ _ h => h) (Or.inl ⟨by rfl, ?_⟩) ?_ ?_
      rotate_left
      · intro w'
        go_simp
        with_reducible rfl
      rotate_left
      · simp only [Act.put, List.setIfInBounds_toArray, List.set_cons_zero, List.set_cons_succ, i64_w, i32_w]
        rfl
      refine pure_ (i := 5) (N := some 103) (v := ?_) (a' := ?_) #[true, true, true, true, true, true, true, false, true, false, true, false, false, false, false] rfl rfl (any_of HT_.out (by kernel_rfl)) (fun _ _ _ h => h) (Or.inl ⟨by rfl, ?_⟩) ?_ ?_
      rotate_left
      · intro w'
        go_simp
        with_reducible rfl
      rotate_left
      · simp only [Act.put, List.setIfInBounds_toArray, List.set_cons_zero, List.set_cons_succ, i64_w, i32_w]
        rfl
      refine take_ (i := 7) (N := some 105) (v := ?_) (a' := ?_) #[true, true, true, true, true, true, true, true, true, false, true, false, false, false, false] rfl rfl (take_ofW HT_.out HW_.out (by kernel_rfl)) (fun _ _ _ h => h) (Or.inl ⟨by rfl, ?_⟩) hHeld ?_ ?_
      rotate_left
      · rintro w' ⟨s0, s1⟩
        go_simp
        with_reducible rfl
      rotate_left
      · simp only [Act.put, List.setIfInBounds_toArray, List.set_cons_zero, List.set_cons_succ, i64_w, i32_w]
        rfl
      refine pure_ (i := 9) (N := some 107) (v := ?_) (a' := ?_) #[true, true, true, true, true, true, true, true, true, true, true, false, false, false, false] rfl rfl (any_of HT_.out (by kernel_rfl)) (fun _ _ _ h => h) (Or.inl ⟨by rfl, ?_⟩) ?_ ?_
      rotate_left
      · intro w'
        go_simp
        with_reducible rfl
      rotate_left
      · simp only [Act.put, List.setIfInBounds_toArray, List.set_cons_zero, List.set_cons_succ, i64_w, i32_w]
        rfl
      refine pure_ (i := 11) (N := some 109) (v := ?_) (a' := ?_) #[true, true, true, true, true, true, true, true, true, true, true, true, false, false, false] rfl rfl (any_of HT_.out (by kernel_rfl)) (fun _ _ _ h => h) (Or.inl ⟨by rfl, ?_⟩) ?_ ?_
      rotate_left
      · intro w'
        go_simp
        with_reducible rfl
      rotate_left
      · simp only [Act.put, List.setIfInBounds_toArray, List.set_cons_zero, List.set_cons_succ, i64_w, i32_w]
        rfl
      refine pure_ (i := 12) (N := some 110) (v := ?_) (a' := ?_) #[true, true, true, true, true, true, true, true, true, true, true, true, true, false, false] rfl rfl (any_of HT_.out (by kernel_rfl)) (fun _ _ _ h => h) (Or.inl ⟨by rfl, ?_⟩) ?_ ?_
      rotate_left
      · intro w'
        go_simp
        with_reducible rfl
      rotate_left
      · simp only [Act.put, List.setIfInBounds_toArray, List.set_cons_zero, List.set_cons_succ, i64_w, i32_w]
        rfl
      refine one_ (i := 13) (N := none) #[true, true, true, true, true, true, true, true, true, true, true, true, true, true, false] rfl rfl (one_of HT_.out (by kernel_rfl)) (by decide) (fun K hK => ?_)
      have hs67 : w66.cell? ⟨gb420, 0, none⟩ = some (.int .i64 0) := (bC BK420.out 0).trans rfl
      have hfs67 := bZ BK420.out 0
      have hns67_0 := NB419_420.out
      have hms67_0 := NB420_419.out
      have hs68 : w66.cell? ⟨gb420, 1, none⟩ = some (.int .i64 0) := (bC BK420.out 1).trans rfl
      have hfs68 := bZ BK420.out 1
      have hns68_0 := NB419_420.out
      have hms68_0 := NB420_419.out
      refine skip_ (w1 := ?_) (by rfl) rfl ?_ ?_
      rotate_left
      · go_simp
        rfl
      refine hK.out _ _ ⟨((cell_far (p := ⟨gb420, _, none⟩) NB419_420.out _).trans (((cell_far (p := ⟨gb420, _, none⟩) NB419_420.out _).trans (hHeld.1)))), ((cell_far (p := ⟨gb420, _, none⟩) NB419_420.out _).trans (((cell_far (p := ⟨gb420, _, none⟩) NB419_420.out _).trans (hHeld.2))))⟩ (fun hHeld => ?_)
      clear hK K
      refine pure_ (i := 14) (N := some 9) (v := ?_) (a' := ?_) #[true, true, true, true, true, true, true, true, true, true, true, true, true, true, true] rfl rfl (any_of HT_.out (by kernel_rfl)) (fun _ _ _ h => h) (Or.inl ⟨by rfl, ?_⟩) ?_ ?_
      rotate_left
      · intro w'
        go_simp
        with_reducible rfl
      rotate_left
      · simp only [Act.put, List.setIfInBounds_toArray, List.set_cons_zero, List.set_cons_succ, i64_w, i32_w]
        rfl
      refine done_ (done_of HT_.out (by kernel_rfl)) ?_
      try go_wp2
      refine bodyPost_ret (results_ct rfl _ _ gb420 47 #[.int .i64 ji61, .int .i64 ji63] (0, 0) _ rfl (by (with_reducible repeat (first | apply bN | apply bD | apply bA)); refine bP (cs := #[.int .i64 ji61, .int .i64 0]) ?_ 1 _ rfl; (with_reducible repeat (first | apply bN | apply bD | apply bA)); refine bP (cs := #[.int .i64 0, .int .i64 0]) ?_ 0 _ rfl; (with_reducible repeat (first | apply bN | apply bD | apply bA)); exact BK420.out) Try.underlying47 rfl (by kernel_rfl)) rfl ?_
      exact ⟨by first | rfl | (simp [errW_none, errW_some] <;> rfl) | (simp only [← hji58, ← hji61, ← hji63]; first | rfl | (simp [errW_none, errW_some] <;> rfl)) | (simp [*, errW_none, errW_some] <;> rfl), by repeat (first | (with_reducible first | exact HB.out | apply cA | apply cN | apply cD | refine cS ?_ GE419.out | refine cS ?_ GE420.out) | exact HB.out)⟩
    rw [if_neg c60] at H
    exact absurd H (by simp)
  rw [if_neg c59] at H
  have c59b0 : ((ji58) == 0) = false := beq_eq_false_iff_ne.mpr c59
  have c59b1 : ((ji58) != 0) = true := bne_iff_ne.mpr c59
  by_cases c69 : a1 > (wrap64 (Int.tdiv (4611686018427387904 : Int) (ji58)))
  · rw [if_pos c69] at H
    have c69b0 : decide ((wrap64 (Int.tdiv (4611686018427387904 : Int) (ji58))) < a1) = true := decide_eq_true c69
    clear c69
    simp only [Option.some.injEq, Prod.mk.injEq] at H
    obtain ⟨rfl, rfl, rfl⟩ := H
    have hnb70 := NB419_420.out
    have hnc70 := NB420_419.out
    have hcz71_0 : w7.cell? ⟨gb419, 0, none⟩ = some (.int .i64 a3_0) := (bC BK419.out 0).trans rfl
    have hcz71_1 : w7.cell? ⟨gb419, 1, none⟩ = some (.int .i64 a3_1) := (bC BK419.out 1).trans rfl
    have hfz71_0 := bZ BK419.out 0
    have hfz71_1 := bZ BK419.out 1
    have hcz72_0 : w7.cell? ⟨gb420, 0, none⟩ = some (.int .i64 0) := (bC BK420.out 0).trans rfl
    have hcz72_1 : w7.cell? ⟨gb420, 1, none⟩ = some (.int .i64 0) := (bC BK420.out 1).trans rfl
    have hfz72_0 := bZ BK420.out 0
    have hfz72_1 := bZ BK420.out 1
    go_wp2
    refine bodyPost_ret (results_ct rfl _ _ gb420 47 #[.int .i64 0, .int .i64 0] (0, 0) _ rfl (by (with_reducible repeat (first | apply bN | apply bD | apply bA)); refine bP (cs := #[.int .i64 0, .int .i64 0]) ?_ 1 _ rfl; (with_reducible repeat (first | apply bN | apply bD | apply bA)); refine bP (cs := #[.int .i64 0, .int .i64 0]) ?_ 0 _ rfl; (with_reducible repeat (first | apply bN | apply bD | apply bA)); exact BK420.out) Try.underlying47 rfl (by kernel_rfl)) rfl ?_
    exact ⟨by first | rfl | (simp [errW_none, errW_some] <;> rfl) | (simp only [← hji58]; first | rfl | (simp [errW_none, errW_some] <;> rfl)) | (simp [*, errW_none, errW_some] <;> rfl), by repeat (first | (with_reducible first | exact HB.out | apply cA | apply cN | apply cD | refine cS ?_ GE419.out | refine cS ?_ GE420.out) | exact HB.out)⟩
  rw [if_neg c69] at H
  have c69b0 : decide ((wrap64 (Int.tdiv (4611686018427387904 : Int) (ji58))) < a1) = false := decide_eq_false c69
  clear c69
  by_cases c73 : 0 ≤ a2
  · rw [if_pos c73] at H
    have c73b0 := eq_true c73
    have c73b1 : decide (0 ≤ a2) = true := decide_eq_true c73
    clear c73
    obtain ⟨ji74, hji74⟩ : ∃ j_ : Int, (shr .i64 (wrap64 (a3_0 * a1)) a2) = j_ := ⟨_, rfl⟩
    replace H : (some (ji74, shr .i64 (wrap64 (a3_1 * a1)) a2, 0)) = some (r1, r2, r3) := by first | (rw [hji74] at H; exact H) | (simp only [hji74] at H ⊢; exact H)
    have hji74_ : ((wrap64 (a3_0 * a1)) / 2 ^ min a2.toNat 64) = ji74 := hji74
    have hji74z : a2 ≤ 64 → ((wrap64 (a3_0 * a1)) / 2 ^ a2.toNat) = ji74 := shr_small hji74
    have c75b0 := eq_true (of_decide_eq_true (by first | (with_reducible assumption) | assumption) : 0 ≤ a2)
    obtain ⟨ji76, hji76⟩ : ∃ j_ : Int, (shr .i64 (wrap64 (a3_1 * a1)) a2) = j_ := ⟨_, rfl⟩
    replace H : (some (ji74, ji76, 0)) = some (r1, r2, r3) := by first | (rw [hji76] at H; exact H) | (simp only [hji76] at H ⊢; exact H)
    have hji76_ : ((wrap64 (a3_1 * a1)) / 2 ^ min a2.toNat 64) = ji76 := hji76
    have hji76z : a2 ≤ 64 → ((wrap64 (a3_1 * a1)) / 2 ^ a2.toNat) = ji76 := shr_small hji76
    simp only [Option.some.injEq, Prod.mk.injEq] at H
    obtain ⟨rfl, rfl, rfl⟩ := H
    have hnb77 := NB419_420.out
    have hnc77 := NB420_419.out
    have hcz78_0 : w7.cell? ⟨gb419, 0, none⟩ = some (.int .i64 a3_0) := (bC BK419.out 0).trans rfl
    have hcz78_1 : w7.cell? ⟨gb419, 1, none⟩ = some (.int .i64 a3_1) := (bC BK419.out 1).trans rfl
    have hfz78_0 := bZ BK419.out 0
    have hfz78_1 := bZ BK419.out 1
    try go_wp2
    have n0_ := Aside0.mk (bD BK419.out)
    have n1_ := Aside0.mk (bD BK420.out)
    have n2_ := Aside0.mk (cD HB.out)
    clear BK419
    clear BK420
    clear HB
    have BK419 := n0_
    have BK420 := n1_
    have HB := n2_
    clear n0_ n1_ n2_
    refine start_ (n := 15) (S := fun w' => w'.cell? ⟨gb419, 0, none⟩ = some (.int .i64 a3_0) ∧ w'.cell? ⟨gb419, 1, none⟩ = some (.int .i64 a3_1)) (ds := []) #[false, false, false, false, false, false, false, false, false, false, false, false, false, false, false] (by kernel_rfl) rfl rfl ⟨(bC BK419.out 0).trans rfl, (bC BK419.out 1).trans rfl⟩ (fun hHeld => ?_); refine with_tabW span_one.tab21 span_one.bits21 (fun HT_ HW_ => ?_)
    generalize w7.drew = w79 at BK419 BK420 HB hHeld ⊢
    refine pure_ (i := 0) (N := some 98) (v := ?_) (a' := ?_) #[true, false, false, false, false, false, false, false, false, false, false, false, false, false, false] rfl rfl (any_of HT_.out (by kernel_rfl)) (fun _ _ _ h => h) (Or.inl ⟨by rfl, ?_⟩) ?_ ?_
    rotate_left
    · intro w'
      go_simp
      with_reducible rfl
    rotate_left
    · simp only [Act.put, List.setIfInBounds_toArray, List.set_cons_zero, List.set_cons_succ, i64_w, i32_w]
      rfl
    refine pure_ (i := 2) (N := some 100) (v := ?_) (a' := ?_) #[true, false, true, false, false, false, false, false, false, false, false, false, false, false, false] rfl rfl (any_of HT_.out (by kernel_rfl)) (fun _ _ _ h => h) (Or.inl ⟨by rfl, ?_⟩) ?_ ?_
    rotate_left
    · intro w'
      go_simp
      with_reducible rfl
    rotate_left
    · simp only [Act.put, List.setIfInBounds_toArray, List.set_cons_zero, List.set_cons_succ, i64_w, i32_w]
      rfl
    refine pure_ (i := 4) (N := some 102) (v := ?_) (a' := ?_) #[true, false, true, false, true, false, false, false, false, false, false, false, false, false, false] rfl rfl (any_of HT_.out (by kernel_rfl)) (fun _ _ _ h => h) (Or.inl ⟨by rfl, ?_⟩) ?_ ?_
    rotate_left
    · intro w'
      go_simp
      with_reducible rfl
    rotate_left
    · simp only [Act.put, List.setIfInBounds_toArray, List.set_cons_zero, List.set_cons_succ, i64_w, i32_w]
      rfl
    refine pure_ (i := 6) (N := some 104) (v := ?_) (a' := ?_) #[true, false, true, false, true, false, true, false, false, false, false, false, false, false, false] rfl rfl (any_of HT_.out (by kernel_rfl)) (fun _ _ _ h => h) (Or.inl ⟨by rfl, ?_⟩) ?_ ?_
    rotate_left
    · intro w'
      go_simp
      with_reducible rfl
    rotate_left
    · simp only [Act.put, List.setIfInBounds_toArray, List.set_cons_zero, List.set_cons_succ, i64_w, i32_w]
      rfl
    refine pure_ (i := 8) (N := some 106) (v := ?_) (a' := ?_) #[true, false, true, false, true, false, true, false, true, false, false, false, false, false, false] rfl rfl (any_of HT_.out (by kernel_rfl)) (fun _ _ _ h => h) (Or.inl ⟨by rfl, ?_⟩) ?_ ?_
    rotate_left
    · intro w'
      go_simp
      with_reducible rfl
    rotate_left
    · simp only [Act.put, List.setIfInBounds_toArray, List.set_cons_zero, List.set_cons_succ, i64_w, i32_w]
      rfl
    refine pure_ (i := 10) (N := some 108) (v := ?_) (a' := ?_) #[true, false, true, false, true, false, true, false, true, false, true, false, false, false, false] rfl rfl (any_of HT_.out (by kernel_rfl)) (fun _ _ _ h => h) (Or.inl ⟨by rfl, ?_⟩) ?_ ?_
    rotate_left
    · intro w'
      go_simp
      with_reducible rfl
    rotate_left
    · simp only [Act.put, List.setIfInBounds_toArray, List.set_cons_zero, List.set_cons_succ, i64_w, i32_w]
      rfl
    refine take_ (i := 1) (N := some 99) (v := ?_) (a' := ?_) #[true, true, true, false, true, false, true, false, true, false, true, false, false, false, false] rfl rfl (take_ofW HT_.out HW_.out (by kernel_rfl)) (fun _ _ _ h => h) (Or.inl ⟨by rfl, ?_⟩) hHeld ?_ ?_
    rotate_left
    · rintro w' ⟨s0, s1⟩
      go_simp
      with_reducible rfl
    rotate_left
    · simp only [Act.put, List.setIfInBounds_toArray, List.set_cons_zero, List.set_cons_succ, i64_w, i32_w]
      rfl
    refine pure_ (i := 3) (N := some 101) (v := ?_) (a' := ?_) #[true, true, true, true, true, false, true, false, true, false, true, false, false, false, false] rfl rfl (any_of HT_.out (by kernel_rfl)) (fun _ _ _ h => h) (Or.inl ⟨by rfl, ?_⟩) ?_ ?_
    rotate_left
    · intro w'
      go_simp
      with_reducible rfl
    rotate_left
    · simp only [Act.put, List.setIfInBounds_toArray, List.set_cons_zero, List.set_cons_succ, i64_w, i32_w]
      rfl
    refine pure_ (i := 5) (N := some 103) (v := ?_) (a' := ?_) #[true, true, true, true, true, true, true, false, true, false, true, false, false, false, false] rfl rfl (any_of HT_.out (by kernel_rfl)) (fun _ _ _ h => h) (Or.inl ⟨by rfl, ?_⟩) ?_ ?_
    rotate_left
    · intro w'
      go_simp
      with_reducible rfl
    rotate_left
    · simp only [Act.put, List.setIfInBounds_toArray, List.set_cons_zero, List.set_cons_succ, i64_w, i32_w]
      rfl
    refine take_ (i := 7) (N := some 105) (v := ?_) (a' := ?_) #[true, true, true, true, true, true, true, true, true, false, true, false, false, false, false] rfl rfl (take_ofW HT_.out HW_.out (by kernel_rfl)) (fun _ _ _ h => h) (Or.inl ⟨by rfl, ?_⟩) hHeld ?_ ?_
    rotate_left
    · rintro w' ⟨s0, s1⟩
      go_simp
      with_reducible rfl
    rotate_left
    · simp only [Act.put, List.setIfInBounds_toArray, List.set_cons_zero, List.set_cons_succ, i64_w, i32_w]
      rfl
    refine pure_ (i := 9) (N := some 107) (v := ?_) (a' := ?_) #[true, true, true, true, true, true, true, true, true, true, true, false, false, false, false] rfl rfl (any_of HT_.out (by kernel_rfl)) (fun _ _ _ h => h) (Or.inl ⟨by rfl, ?_⟩) ?_ ?_
    rotate_left
    · intro w'
      go_simp
      with_reducible rfl
    rotate_left
    · simp only [Act.put, List.setIfInBounds_toArray, List.set_cons_zero, List.set_cons_succ, i64_w, i32_w]
      rfl
    refine pure_ (i := 11) (N := some 109) (v := ?_) (a' := ?_) #[true, true, true, true, true, true, true, true, true, true, true, true, false, false, false] rfl rfl (any_of HT_.out (by kernel_rfl)) (fun _ _ _ h => h) (Or.inl ⟨by rfl, ?_⟩) ?_ ?_
    rotate_left
    · intro w'
      go_simp
      with_reducible rfl
    rotate_left
    · simp only [Act.put, List.setIfInBounds_toArray, List.set_cons_zero, List.set_cons_succ, i64_w, i32_w]
      rfl
    refine pure_ (i := 12) (N := some 110) (v := ?_) (a' := ?_) #[true, true, true, true, true, true, true, true, true, true, true, true, true, false, false] rfl rfl (any_of HT_.out (by kernel_rfl)) (fun _ _ _ h => h) (Or.inl ⟨by rfl, ?_⟩) ?_ ?_
    rotate_left
    · intro w'
      go_simp
      with_reducible rfl
    rotate_left
    · simp only [Act.put, List.setIfInBounds_toArray, List.set_cons_zero, List.set_cons_succ, i64_w, i32_w]
      rfl
    refine one_ (i := 13) (N := none) #[true, true, true, true, true, true, true, true, true, true, true, true, true, true, false] rfl rfl (one_of HT_.out (by kernel_rfl)) (by decide) (fun K hK => ?_)
    have hs80 : w79.cell? ⟨gb420, 0, none⟩ = some (.int .i64 0) := (bC BK420.out 0).trans rfl
    have hfs80 := bZ BK420.out 0
    have hns80_0 := NB419_420.out
    have hms80_0 := NB420_419.out
    have hs81 : w79.cell? ⟨gb420, 1, none⟩ = some (.int .i64 0) := (bC BK420.out 1).trans rfl
    have hfs81 := bZ BK420.out 1
    have hns81_0 := NB419_420.out
    have hms81_0 := NB420_419.out
    refine skip_ (w1 := ?_) (by rfl) rfl ?_ ?_
    rotate_left
    · go_simp
      rfl
    refine hK.out _ _ ⟨((cell_far (p := ⟨gb420, _, none⟩) NB419_420.out _).trans (((cell_far (p := ⟨gb420, _, none⟩) NB419_420.out _).trans (hHeld.1)))), ((cell_far (p := ⟨gb420, _, none⟩) NB419_420.out _).trans (((cell_far (p := ⟨gb420, _, none⟩) NB419_420.out _).trans (hHeld.2))))⟩ (fun hHeld => ?_)
    clear hK K
    refine pure_ (i := 14) (N := some 9) (v := ?_) (a' := ?_) #[true, true, true, true, true, true, true, true, true, true, true, true, true, true, true] rfl rfl (any_of HT_.out (by kernel_rfl)) (fun _ _ _ h => h) (Or.inl ⟨by rfl, ?_⟩) ?_ ?_
    rotate_left
    · intro w'
      go_simp
      with_reducible rfl
    rotate_left
    · simp only [Act.put, List.setIfInBounds_toArray, List.set_cons_zero, List.set_cons_succ, i64_w, i32_w]
      rfl
    refine done_ (done_of HT_.out (by kernel_rfl)) ?_
    try go_wp2
    refine bodyPost_ret (results_ct rfl _ _ gb420 47 #[.int .i64 ji74, .int .i64 ji76] (0, 0) _ rfl (by (with_reducible repeat (first | apply bN | apply bD | apply bA)); refine bP (cs := #[.int .i64 ji74, .int .i64 0]) ?_ 1 _ rfl; (with_reducible repeat (first | apply bN | apply bD | apply bA)); refine bP (cs := #[.int .i64 0, .int .i64 0]) ?_ 0 _ rfl; (with_reducible repeat (first | apply bN | apply bD | apply bA)); exact BK420.out) Try.underlying47 rfl (by kernel_rfl)) rfl ?_
    exact ⟨by first | rfl | (simp [errW_none, errW_some] <;> rfl) | (simp only [← hji58, ← hji74, ← hji76]; first | rfl | (simp [errW_none, errW_some] <;> rfl)) | (simp [*, errW_none, errW_some] <;> rfl), by repeat (first | (with_reducible first | exact HB.out | apply cA | apply cN | apply cD | refine cS ?_ GE419.out | refine cS ?_ GE420.out) | exact HB.out)⟩
  rw [if_neg c73] at H
  exact absurd H (by simp)

end Go.Proofs.Ytpnldhimlpilhaa.F
