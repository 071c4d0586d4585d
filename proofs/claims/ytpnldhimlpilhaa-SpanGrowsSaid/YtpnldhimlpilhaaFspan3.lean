/- Written by wip/myprint.py of this session, out of Lean's print of the program: what Go functions come to, and that their calls come to it; no condition. -/
import Derived.Test.YtpnldhimlpilhaaF0
import Derived.Test.YtpnldhimlpilhaaFspan1
namespace Go.Proofs.Ytpnldhimlpilhaa.F
open Go.RowKit Go.Proofs.YtpnldhimlpilhaaW.PrintWords Go.Proofs.YtpnldhimlpilhaaW.PrintLast Go.Proofs.YtpnldhimlpilhaaW.PrintMore Go.Proofs.YtpnldhimlpilhaaW
attribute [local go_sem] max2_int min2_int max_two min_two max_three min_three max_four min_four   -- for this text's walks alone
set_option linter.unusedVariables false
set_option linter.unusedSimpArgs false

/-! ### span_Has: function 32 -/
def span_Has.f (a0_0 : Int) (a0_1 : Int) (a1 : Int) : Option (Bool) := if a0_0 ≤ a1 then (some (decide (a1 ≤ a0_1))) else (some false)
set_option maxHeartbeats 8000000 in
set_option maxRecDepth 100000 in
theorem span_Has.calls (a0_0 : Int) (a0_1 : Int) (a1 : Int) (r : Bool) (w : World) (h : span_Has.f a0_0 a0_1 a1 = some r) :
    Calls Try.prog 32 #[.agg #[.int .i64 a0_0, .int .i64 a0_1], .int .i64 a1] w fun e w' => e = .returned (.bool r) ∧ Below w.heap.size w w' := by
  have hu47 := Try.underlying47
  have HB := Aside0.mk (Below.refl w.heap.size w)
  have H : (if a0_0 ≤ a1 then (some (decide (a1 ≤ a0_1))) else (some false)) = some r := h
  clear h
  have HF3 := Aside0.mk H
  clear H
  go_enter Try.func32, Try.ntmps32
  go_upto_region 1 with (first | ((with_reducible refine gate_dst (N := 2) rfl ?_); refine box_event ?hg (N := 2) ?hd (cs := #[.int .i64 a0_0, .int .i64 a0_1]) (t := 47) ?hr ?_; (case hd => rfl); (case hg => rfl); (case hr => first | (go_simp; done) | (go_simp; rfl)); intro gb427 hg w4 hbox hb; have n0_ := Aside0.mk (cT (by repeat (first | (with_reducible first | exact HB.out | apply cA | apply cN | apply cD) | exact HB.out)) hb); have n1_ := Aside0.mk (hbox); have n2_ := Aside0.mk ((by rw [hg]; exact (cZ (by repeat (first | (with_reducible first | exact HB.out | apply cA | apply cN | apply cD) | exact HB.out))) : w.heap.size ≤ gb427)); have n3_ := n2_; clear HB; have HB := n0_; have BK427 := n1_; have GW427 := n2_; have GE427 := n3_; clear n0_ n1_ n2_ n3_; clear hb hbox hg))
  (try simp only [Act.put, List.setIfInBounds_toArray, List.set_cons_zero, List.set_cons_succ])
  have H := HF3.out
  clear HF3
  by_cases c5 : a0_0 ≤ a1
  · rw [if_pos c5] at H
    have c5b0 : decide (a0_0 ≤ a1) = true := decide_eq_true c5
    clear c5
    (first | rw [c5b0] | (simp only [i64_w, i32_w]; rw [c5b0]) | skip)
    obtain rfl := Option.some.inj H
    have hcz6_0 : w4.cell? ⟨gb427, 0, none⟩ = some (.int .i64 a0_0) := (bC BK427.out 0).trans rfl
    have hcz6_1 : w4.cell? ⟨gb427, 1, none⟩ = some (.int .i64 a0_1) := (bC BK427.out 1).trans rfl
    have hfz6_0 := bZ BK427.out 0
    have hfz6_1 := bZ BK427.out 1
    go_wp2
    go_ret
    exact ⟨by first | rfl | (simp [errW_none, errW_some] <;> rfl) | (simp [*, errW_none, errW_some] <;> rfl), by repeat (first | (with_reducible first | exact HB.out | apply cA | apply cN | apply cD | refine cS ?_ GE427.out) | exact HB.out)⟩
  rw [if_neg c5] at H
  have c5b0 : decide (a0_0 ≤ a1) = false := decide_eq_false c5
  clear c5
  (first | rw [c5b0] | (simp only [i64_w, i32_w]; rw [c5b0]) | skip)
  obtain rfl := Option.some.inj H
  have hcz7_0 : w4.cell? ⟨gb427, 0, none⟩ = some (.int .i64 a0_0) := (bC BK427.out 0).trans rfl
  have hcz7_1 : w4.cell? ⟨gb427, 1, none⟩ = some (.int .i64 a0_1) := (bC BK427.out 1).trans rfl
  have hfz7_0 := bZ BK427.out 0
  have hfz7_1 := bZ BK427.out 1
  go_wp2
  go_ret
  exact ⟨by first | rfl | (simp [errW_none, errW_some] <;> rfl) | (simp [*, errW_none, errW_some] <;> rfl), by repeat (first | (with_reducible first | exact HB.out | apply cA | apply cN | apply cD | refine cS ?_ GE427.out) | exact HB.out)⟩

/-! ### span_two_1: function 56 -/
def span_two_1.f (a0 : Int) (a1 : Int) : Option (Int) := if a1 = 0 then (none) else (some (wrap64 (Int.tdiv a0 a1)))
set_option maxHeartbeats 8000000 in
set_option maxRecDepth 100000 in
theorem span_two_1.calls (a0 : Int) (a1 : Int) (r : Int) (w : World) (h : span_two_1.f a0 a1 = some r) :
    Calls Try.prog 56 #[.int .i64 a0, .int .i64 a1] w fun e w' => e = .returned (.int .i64 r) ∧ Drawn0 w w' := by
  have H : (if a1 = 0 then (none) else (some (wrap64 (Int.tdiv a0 a1)))) = some r := h
  clear h
  by_cases c3 : a1 = 0
  · rw [if_pos c3] at H
    exact absurd H (by simp)
  rw [if_neg c3] at H
  have c3b0 : (a1 == 0) = false := beq_eq_false_iff_ne.mpr c3
  have c3b1 : (a1 != 0) = true := bne_iff_ne.mpr c3
  obtain rfl := Option.some.inj H
  go_enter Try.func56, Try.ntmps56
  go_wp2
  go_ret
  exact ⟨by first | rfl | (simp; done) | (simp [*]; done), by repeat (first | exact Drawn0.refl _ | apply Drawn0.step)⟩

/-! ### span_two_2: function 57 -/
def span_two_2.f (a0 : Int) (a1 : Int) : Option (Int) := if 0 ≤ a1 then (some (shl .i64 a0 a1)) else (none)
set_option maxHeartbeats 8000000 in
set_option maxRecDepth 100000 in
theorem span_two_2.calls (a0 : Int) (a1 : Int) (r : Int) (w : World) (h : span_two_2.f a0 a1 = some r) :
    Calls Try.prog 57 #[.int .i64 a0, .int .i64 a1] w fun e w' => e = .returned (.int .i64 r) ∧ Drawn0 w w' := by
  have H : (if 0 ≤ a1 then (some (shl .i64 a0 a1)) else (none)) = some r := h
  clear h
  by_cases c3 : 0 ≤ a1
  · rw [if_pos c3] at H
    have c3b0 := eq_true c3
    have c3b1 : decide (0 ≤ a1) = true := decide_eq_true c3
    clear c3
    obtain ⟨ji4, hji4⟩ : ∃ j_ : Int, (shl .i64 a0 a1) = j_ := ⟨_, rfl⟩
    replace H : (some ji4) = some r := by first | (rw [hji4] at H; exact H) | (simp only [hji4] at H ⊢; exact H)
    have hji4_ : (IntKind.i64.wrap (a0 * 2 ^ min a1.toNat 64)) = ji4 := hji4
    have hji4z : a1 ≤ 64 → (IntKind.i64.wrap (a0 * 2 ^ a1.toNat)) = ji4 := shl_small hji4
    have hji4y : (wrap64 (a0 * 2 ^ min a1.toNat 64)) = ji4 := (i64_w _).symm.trans hji4_
    have hji4x : a1 ≤ 64 → (wrap64 (a0 * 2 ^ a1.toNat)) = ji4 := fun h_ => (i64_w _).symm.trans (hji4z h_)
    obtain rfl := Option.some.inj H
    go_enter Try.func57, Try.ntmps57
    go_wp2
    go_ret
    exact ⟨by first | rfl | (simp; done) | (simp only [← hji4] <;> (first | rfl | simp)) | (simp [*]; done), by repeat (first | exact Drawn0.refl _ | apply Drawn0.step)⟩
  rw [if_neg c3] at H
  exact absurd H (by simp)

/-! ### span_two_3: function 58 -/
def span_two_3.f (a0 : Int) (a1 : Int) : Option (Int) := if 0 ≤ a1 then (some (shr .i64 a0 a1)) else (none)
set_option maxHeartbeats 8000000 in
set_option maxRecDepth 100000 in
theorem span_two_3.calls (a0 : Int) (a1 : Int) (r : Int) (w : World) (h : span_two_3.f a0 a1 = some r) :
    Calls Try.prog 58 #[.int .i64 a0, .int .i64 a1] w fun e w' => e = .returned (.int .i64 r) ∧ Drawn0 w w' := by
  have H : (if 0 ≤ a1 then (some (shr .i64 a0 a1)) else (none)) = some r := h
  clear h
  by_cases c3 : 0 ≤ a1
  · rw [if_pos c3] at H
    have c3b0 := eq_true c3
    have c3b1 : decide (0 ≤ a1) = true := decide_eq_true c3
    clear c3
    obtain ⟨ji4, hji4⟩ : ∃ j_ : Int, (shr .i64 a0 a1) = j_ := ⟨_, rfl⟩
    replace H : (some ji4) = some r := by first | (rw [hji4] at H; exact H) | (simp only [hji4] at H ⊢; exact H)
    have hji4_ : (a0 / 2 ^ min a1.toNat 64) = ji4 := hji4
    have hji4z : a1 ≤ 64 → (a0 / 2 ^ a1.toNat) = ji4 := shr_small hji4
    obtain rfl := Option.some.inj H
    go_enter Try.func58, Try.ntmps58
    go_wp2
    go_ret
    exact ⟨by first | rfl | (simp; done) | (simp only [← hji4] <;> (first | rfl | simp)) | (simp [*]; done), by repeat (first | exact Drawn0.refl _ | apply Drawn0.step)⟩
  rw [if_neg c3] at H
  exact absurd H (by simp)

/-! ### span_two_4: function 59 -/
def span_two_4.f (a0 : Int) (a1 : Int) : Option (Int) := some (wrap64 (a0 * a1))
set_option maxHeartbeats 8000000 in
set_option maxRecDepth 100000 in
theorem span_two_4.calls (a0 : Int) (a1 : Int) (r : Int) (w : World) (h : span_two_4.f a0 a1 = some r) :
    Calls Try.prog 59 #[.int .i64 a0, .int .i64 a1] w fun e w' => e = .returned (.int .i64 r) ∧ Drawn0 w w' := by
  have H : (some (wrap64 (a0 * a1))) = some r := h
  clear h
  obtain rfl := Option.some.inj H
  go_enter Try.func59, Try.ntmps59
  go_wp2
  go_ret
  exact ⟨by first | rfl | (simp; done) | (simp [*]; done), by repeat (first | exact Drawn0.refl _ | apply Drawn0.step)⟩

/-! ### span_either: function 60 -/
def span_either.j0 : Nat → Int → Bool → Int → Int → Int → Int → Int → Int → Option (Int × Int)
  | 0, _, _, _, _, _, _, _, _ => none
  | k + 1, x0, x25, x429000, x429001, x430000, x430001, x433000, x433001 => if x25 = true then (if x0 = 16 then (some (mx x429000 x430000, x433001)) else (some (0, x433001))) else (some (x433000, x433001))
def span_either.f (k : Nat) (a0 : Int) (a1_0 : Int) (a1_1 : Int) (a2_0 : Int) (a2_1 : Int) : Option (Int × Int) := (span_digits.f k a1_0 a1_1 a2_0 a2_1).bind fun t431 => (if 0 ≤ t431 then (if a1_0 ≥ 0 then (span_either.j0 k a0 (decide (a2_0 ≥ 0)) a1_0 a1_1 a2_0 a2_1 (shl .i64 (-1) t431) (wrap64 ((shl .i64 1 t431) - 1))) else (span_either.j0 k a0 false a1_0 a1_1 a2_0 a2_1 (shl .i64 (-1) t431) (wrap64 ((shl .i64 1 t431) - 1)))) else (none))
theorem span_either.mono_l : ∀ k, (∀ y0 y1 y2 y3 y4 y5 y6 y7, LeO (span_either.j0 k y0 y1 y2 y3 y4 y5 y6 y7) (span_either.j0 (k + 1) y0 y1 y2 y3 y4 y5 y6 y7))
  | 0 => fun _ _ _ _ _ _ _ _ r h => by simp [span_either.j0] at h
  | k + 1 => by
    have ih0 := span_either.mono_l k
    · intro y0 y1 y2 y3 y4 y5 y6 y7
      unfold span_either.j0
      repeat' first
      | (with_reducible exact ih0 _ _ _ _ _ _ _ _)
      | (with_reducible exact span_digits.mono _ _ _ _ _)
      | (with_reducible exact LeO.refl _)
      | (with_reducible exact LeO.none _)
      | (with_reducible refine LeO.ite ?_ ?_)
      | (with_reducible refine LeO.bind ?_ (fun _ => ?_))
      | exact ih0 _ _ _ _ _ _ _ _
      | exact span_digits.mono _ _ _ _ _
      | exact LeO.none _
      | refine LeO.ite ?_ ?_
      | refine LeO.bind ?_ (fun _ => ?_)
theorem span_either.mono : ∀ a0 a1 a2 a3 a4 k, LeO (span_either.f k a0 a1 a2 a3 a4) (span_either.f (k + 1) a0 a1 a2 a3 a4) := by
  intro a0 a1 a2 a3 a4 k
  have ih0 := span_either.mono_l k
  unfold span_either.f
  repeat' first
      | (with_reducible exact ih0 _ _ _ _ _ _ _ _)
      | (with_reducible exact span_digits.mono _ _ _ _ _)
      | (with_reducible exact LeO.refl _)
      | (with_reducible exact LeO.none _)
      | (with_reducible refine LeO.ite ?_ ?_)
      | (with_reducible refine LeO.bind ?_ (fun _ => ?_))
      | exact ih0 _ _ _ _ _ _ _ _
      | exact span_digits.mono _ _ _ _ _
      | exact LeO.none _
      | refine LeO.ite ?_ ?_
      | refine LeO.bind ?_ (fun _ => ?_)
def span_either.T2 : Bool × List (List Nat × List Nat) := (true, [([], []), ([0], [0]), ([], []), ([2], [2]), ([3], [3]), ([1, 4], [1, 4]), ([], []), ([6, 5, 0, 1, 2, 3, 4, 5, 6], [5, 6])])
def span_either.B2 : List Nat := [0, 1, 0, 4, 12, 31, 0, 127]
theorem span_either.tab2 : rtab .any (opsOf Try.f60 2) = span_either.T2 := by kernel_rfl
theorem span_either.bits2 : waitsOk span_either.T2.2 span_either.B2 = true := by kernel_rfl
set_option maxHeartbeats 8000000 in
set_option maxRecDepth 100000 in
theorem span_either.calls (k : Nat) (a0 : Int) (a1_0 : Int) (a1_1 : Int) (a2_0 : Int) (a2_1 : Int) (r1 : Int) (r2 : Int) (w : World) (h : span_either.f k a0 a1_0 a1_1 a2_0 a2_1 = some (r1, r2)) :
    Calls Try.prog 60 #[.int .i64 a0, .agg #[.int .i64 a1_0, .int .i64 a1_1], .agg #[.int .i64 a2_0, .int .i64 a2_1]] w fun e w' => e = .returned (.agg #[.int .i64 r1, .int .i64 r2]) ∧ Below w.heap.size w w' := by
  have hu47 := Try.underlying47
  have HB := Aside0.mk (Below.refl w.heap.size w)
  have H : ((span_digits.f k a1_0 a1_1 a2_0 a2_1).bind fun t431 => (if 0 ≤ t431 then (if a1_0 ≥ 0 then (span_either.j0 k a0 (decide (a2_0 ≥ 0)) a1_0 a1_1 a2_0 a2_1 (shl .i64 (-1) t431) (wrap64 ((shl .i64 1 t431) - 1))) else (span_either.j0 k a0 false a1_0 a1_1 a2_0 a2_1 (shl .i64 (-1) t431) (wrap64 ((shl .i64 1 t431) - 1)))) else (none))) = some (r1, r2) := h
  clear h
  replace H := Option.bind_eq_some_iff.mp H
  obtain ⟨t431, A40, H⟩ := H
  replace H : (if 0 ≤ t431 then (if a1_0 ≥ 0 then (span_either.j0 k a0 (decide (a2_0 ≥ 0)) a1_0 a1_1 a2_0 a2_1 (shl .i64 (-1) t431) (wrap64 ((shl .i64 1 t431) - 1))) else (span_either.j0 k a0 false a1_0 a1_1 a2_0 a2_1 (shl .i64 (-1) t431) (wrap64 ((shl .i64 1 t431) - 1)))) else (none)) = some (r1, r2) := H
  have A4 := Aside0.mk A40
  clear A40
  have HF5 := Aside0.mk H
  clear H
  go_enter Try.func60, Try.ntmps60
  go_upto_region 2 with (first | ((with_reducible refine gate_dst (N := 4) rfl ?_); refine box_event ?hg (N := 4) ?hd (cs := #[.int .i64 a1_0, .int .i64 a1_1]) (t := 47) ?hr ?_; (case hd => rfl); (case hg => rfl); (case hr => first | (go_simp; done) | (go_simp; rfl)); intro gb428 hg w6 hbox hb; have n0_ := Aside0.mk (cT (by repeat (first | (with_reducible first | exact HB.out | apply cA | apply cN | apply cD) | exact HB.out)) hb); have n1_ := Aside0.mk (hbox); have n2_ := Aside0.mk ((by rw [hg]; exact (cZ (by repeat (first | (with_reducible first | exact HB.out | apply cA | apply cN | apply cD) | exact HB.out))) : w.heap.size ≤ gb428)); have n3_ := n2_; clear HB; have HB := n0_; have BK428 := n1_; have GW428 := n2_; have GE428 := n3_; clear n0_ n1_ n2_ n3_; clear hb hbox hg) | ((with_reducible refine gate_dst (N := 5) rfl ?_); refine box_event ?hg (N := 5) ?hd (cs := #[.int .i64 a2_0, .int .i64 a2_1]) (t := 47) ?hr ?_; (case hd => rfl); (case hg => rfl); (case hr => first | (go_simp; done) | (go_simp; rfl)); intro gb429 hg w7 hbox hb; have n0_ := Aside0.mk (bB (g := gb428) (o := .cells #[.int .i64 a1_0, .int .i64 a1_1] 47 (0, 0)) (by (with_reducible repeat (first | apply bN | apply bD | apply bA)); exact BK428.out) hb); have n1_ := Aside0.mk (cT (by repeat (first | (with_reducible first | exact HB.out | apply cA | apply cN | apply cD | refine cS ?_ GE428.out) | exact HB.out)) hb); have n2_ := Aside0.mk (hbox); have n3_ := Aside0.mk ((by rw [hg]; exact (cZ (by repeat (first | (with_reducible first | exact HB.out | apply cA | apply cN | apply cD | refine cS ?_ GE428.out) | exact HB.out))) : w.heap.size ≤ gb429)); have n4_ := n3_; have n5_ := Aside0.mk ((by rw [hg]; exact Nat.ne_of_lt (blk_lt (g := gb428) (o := .cells #[.int .i64 a1_0, .int .i64 a1_1] 47 (0, 0)) (by (with_reducible repeat (first | apply bN | apply bD | apply bA)); exact BK428.out)) : gb428 ≠ gb429)); have n6_ := Aside0.mk ((by rw [hg]; exact Nat.ne_of_gt (blk_lt (g := gb428) (o := .cells #[.int .i64 a1_0, .int .i64 a1_1] 47 (0, 0)) (by (with_reducible repeat (first | apply bN | apply bD | apply bA)); exact BK428.out)) : gb429 ≠ gb428)); clear BK428; clear HB; have BK428 := n0_; have HB := n1_; have BK429 := n2_; have GW429 := n3_; have GE429 := n4_; have NB428_429 := n5_; have NB429_428 := n6_; clear n0_ n1_ n2_ n3_ n4_ n5_ n6_; clear hb hbox hg) | ((with_reducible refine gate_dst (N := 6) rfl ?_); refine box_event ?hg (N := 6) ?hd (cs := #[.int .i64 0, .int .i64 0]) (t := 47) ?hr ?_; (case hd => rfl); (case hg => rfl); (case hr => first | (go_simp; done) | (go_simp; rfl)); intro gb430 hg w8 hbox hb; have n0_ := Aside0.mk (bB (g := gb428) (o := .cells #[.int .i64 a1_0, .int .i64 a1_1] 47 (0, 0)) (by (with_reducible repeat (first | apply bN | apply bD | apply bA)); exact BK428.out) hb); have n1_ := Aside0.mk (bB (g := gb429) (o := .cells #[.int .i64 a2_0, .int .i64 a2_1] 47 (0, 0)) (by (with_reducible repeat (first | apply bN | apply bD | apply bA)); exact BK429.out) hb); have n2_ := Aside0.mk (cT (by repeat (first | (with_reducible first | exact HB.out | apply cA | apply cN | apply cD | refine cS ?_ GE428.out | refine cS ?_ GE429.out) | exact HB.out)) hb); have n3_ := Aside0.mk (hbox); have n4_ := Aside0.mk ((by rw [hg]; exact (cZ (by repeat (first | (with_reducible first | exact HB.out | apply cA | apply cN | apply cD | refine cS ?_ GE428.out | refine cS ?_ GE429.out) | exact HB.out))) : w.heap.size ≤ gb430)); have n5_ := n4_; have n6_ := Aside0.mk ((by rw [hg]; exact Nat.ne_of_lt (blk_lt (g := gb428) (o := .cells #[.int .i64 a1_0, .int .i64 a1_1] 47 (0, 0)) (by (with_reducible repeat (first | apply bN | apply bD | apply bA)); exact BK428.out)) : gb428 ≠ gb430)); have n7_ := Aside0.mk ((by rw [hg]; exact Nat.ne_of_gt (blk_lt (g := gb428) (o := .cells #[.int .i64 a1_0, .int .i64 a1_1] 47 (0, 0)) (by (with_reducible repeat (first | apply bN | apply bD | apply bA)); exact BK428.out)) : gb430 ≠ gb428)); have n8_ := Aside0.mk ((by rw [hg]; exact Nat.ne_of_lt (blk_lt (g := gb429) (o := .cells #[.int .i64 a2_0, .int .i64 a2_1] 47 (0, 0)) (by (with_reducible repeat (first | apply bN | apply bD | apply bA)); exact BK429.out)) : gb429 ≠ gb430)); have n9_ := Aside0.mk ((by rw [hg]; exact Nat.ne_of_gt (blk_lt (g := gb429) (o := .cells #[.int .i64 a2_0, .int .i64 a2_1] 47 (0, 0)) (by (with_reducible repeat (first | apply bN | apply bD | apply bA)); exact BK429.out)) : gb430 ≠ gb429)); clear BK428; clear BK429; clear HB; have BK428 := n0_; have BK429 := n1_; have HB := n2_; have BK430 := n3_; have GW430 := n4_; have GE430 := n5_; have NB428_430 := n6_; have NB430_428 := n7_; have NB429_430 := n8_; have NB430_429 := n9_; clear n0_ n1_ n2_ n3_ n4_ n5_ n6_ n7_ n8_ n9_; clear hb hbox hg; have hnb9 := NB428_429.out; have hnc9 := NB429_428.out; have hnb10 := NB428_430.out; have hnc10 := NB430_428.out; have hcz11_0 : w8.cell? ⟨gb428, 0, none⟩ = some (.int .i64 a1_0) := (bC BK428.out 0).trans rfl; have hcz11_1 : w8.cell? ⟨gb428, 1, none⟩ = some (.int .i64 a1_1) := (bC BK428.out 1).trans rfl; have hfz11_0 := bZ BK428.out 0; have hfz11_1 := bZ BK428.out 1; have hnb12 := NB429_430.out; have hnc12 := NB430_429.out; have hcz13_0 : w8.cell? ⟨gb429, 0, none⟩ = some (.int .i64 a2_0) := (bC BK429.out 0).trans rfl; have hcz13_1 : w8.cell? ⟨gb429, 1, none⟩ = some (.int .i64 a2_1) := (bC BK429.out 1).trans rfl; have hfz13_0 := bZ BK429.out 0; have hfz13_1 := bZ BK429.out 1) | ((with_reducible refine gate_callee (f := 68) rfl ?_); refine goesL_ (some 11) rfl rfl Try.func68 (by kernel_rfl) rfl #[.agg #[.int .i64 a1_0, .int .i64 a1_1], .agg #[.int .i64 a2_0, .int .i64 a2_1]] rfl (by (try simp only [List.map_toArray, List.map_cons, List.map_nil]); first | done | rfl | (simp only [List.length_drop, List.length_take]; rfl)) ?_; (with_reducible refine (span_digits.calls k a1_0 a1_1 a2_0 a2_1 t431 _ A4.out).mono ?_); rintro e w14 ⟨rfl, hb⟩; refine ⟨_, rfl, ?_⟩; have n0_ := Aside0.mk (bB (g := gb428) (o := .cells #[.int .i64 a1_0, .int .i64 a1_1] 47 (0, 0)) (by (with_reducible repeat (first | apply bN | apply bD | apply bA)); exact BK428.out) hb); have n1_ := Aside0.mk (bB (g := gb429) (o := .cells #[.int .i64 a2_0, .int .i64 a2_1] 47 (0, 0)) (by (with_reducible repeat (first | apply bN | apply bD | apply bA)); exact BK429.out) hb); have n2_ := Aside0.mk (bB (g := gb430) (o := .cells #[.int .i64 0, .int .i64 0] 47 (0, 0)) (by (with_reducible repeat (first | apply bN | apply bD | apply bA)); exact BK430.out) hb); have n3_ := Aside0.mk (cT (by repeat (first | (with_reducible first | exact HB.out | apply cA | apply cN | apply cD | refine cS ?_ GE428.out | refine cS ?_ GE429.out | refine cS ?_ GE430.out) | exact HB.out)) hb); clear BK428; clear BK429; clear BK430; clear HB; have BK428 := n0_; have BK429 := n1_; have BK430 := n2_; have HB := n3_; clear n0_ n1_ n2_ n3_; (try clear hb); (try clear hb2); (try clear hk); (try clear hi)))
  (try simp only [Act.put, List.setIfInBounds_toArray, List.set_cons_zero, List.set_cons_succ])
  have H := HF5.out
  clear HF5
  by_cases c15 : 0 ≤ t431
  · rw [if_pos c15] at H
    have c15b0 := eq_true c15
    have c15b1 : decide (0 ≤ t431) = true := decide_eq_true c15
    clear c15
    obtain ⟨ji16, hji16⟩ : ∃ j_ : Int, (shl .i64 (-1) t431) = j_ := ⟨_, rfl⟩
    replace H : (if a1_0 ≥ 0 then (span_either.j0 k a0 (decide (a2_0 ≥ 0)) a1_0 a1_1 a2_0 a2_1 ji16 (wrap64 ((shl .i64 1 t431) - 1))) else (span_either.j0 k a0 false a1_0 a1_1 a2_0 a2_1 ji16 (wrap64 ((shl .i64 1 t431) - 1)))) = some (r1, r2) := by first | (rw [hji16] at H; exact H) | (simp only [hji16] at H ⊢; exact H)
    have hji16_ : (IntKind.i64.wrap ((-1) * 2 ^ min t431.toNat 64)) = ji16 := hji16
    have hji16z : t431 ≤ 64 → (IntKind.i64.wrap ((-1) * 2 ^ t431.toNat)) = ji16 := shl_small hji16
    have hji16n0 : (IntKind.i64.wrap (-2 ^ min t431.toNat 64)) = ji16 := by have h_ := hji16_; rw [Int.neg_mul, Int.one_mul] at h_; exact h_
    have hji16n1 : t431 ≤ 64 → (IntKind.i64.wrap (-2 ^ t431.toNat)) = ji16 := fun hle_ => by have h_ := hji16z hle_; rw [Int.neg_mul, Int.one_mul] at h_; exact h_
    have hji16n2 : (wrap64 (-2 ^ min t431.toNat 64)) = ji16 := (i64_w _).symm.trans hji16n0
    have hji16n3 : t431 ≤ 64 → (wrap64 (-2 ^ t431.toNat)) = ji16 := fun h_ => (i64_w _).symm.trans (hji16n1 h_)
    have hji16y : (wrap64 ((-1) * 2 ^ min t431.toNat 64)) = ji16 := (i64_w _).symm.trans hji16_
    have hji16x : t431 ≤ 64 → (wrap64 ((-1) * 2 ^ t431.toNat)) = ji16 := fun h_ => (i64_w _).symm.trans (hji16z h_)
    have c17b0 := eq_true (of_decide_eq_true (by first | (with_reducible assumption) | assumption) : 0 ≤ t431)
    obtain ⟨ji18, hji18⟩ : ∃ j_ : Int, (shl .i64 1 t431) = j_ := ⟨_, rfl⟩
    replace H : (if a1_0 ≥ 0 then (span_either.j0 k a0 (decide (a2_0 ≥ 0)) a1_0 a1_1 a2_0 a2_1 ji16 (wrap64 ((ji18) - 1))) else (span_either.j0 k a0 false a1_0 a1_1 a2_0 a2_1 ji16 (wrap64 ((ji18) - 1)))) = some (r1, r2) := by first | (rw [hji18] at H; exact H) | (simp only [hji18] at H ⊢; exact H)
    have hji18_ : (IntKind.i64.wrap (1 * 2 ^ min t431.toNat 64)) = ji18 := hji18
    have hji18z : t431 ≤ 64 → (IntKind.i64.wrap (1 * 2 ^ t431.toNat)) = ji18 := shl_small hji18
    have hji18u : (IntKind.i64.wrap (2 ^ min t431.toNat 64)) = ji18 := by have h_ := hji18_; rw [Int.one_mul] at h_; exact h_
    have hji18v : t431 ≤ 64 → (IntKind.i64.wrap (2 ^ t431.toNat)) = ji18 := fun hle_ => by have h_ := hji18z hle_; rw [Int.one_mul] at h_; exact h_
    have hji18y : (wrap64 (1 * 2 ^ min t431.toNat 64)) = ji18 := (i64_w _).symm.trans hji18_
    have hji18x : t431 ≤ 64 → (wrap64 (1 * 2 ^ t431.toNat)) = ji18 := fun h_ => (i64_w _).symm.trans (hji18z h_)
    have HC19 := Aside0.mk H
    clear H
    try go_wp2
    have n0_ := Aside0.mk (bD BK428.out)
    have n1_ := Aside0.mk (bD BK429.out)
    have n2_ := Aside0.mk (bD BK430.out)
    have n3_ := Aside0.mk (cD HB.out)
    clear BK428
    clear BK429
    clear BK430
    clear HB
    have BK428 := n0_
    have BK429 := n1_
    have BK430 := n2_
    have HB := n3_
    clear n0_ n1_ n2_ n3_
    refine start_ (n := 8) (S := fun w' => True) (ds := []) #[false, false, false, false, false, false, false, false] (by kernel_rfl) rfl rfl trivial (fun hHeld => ?_); refine with_tabW span_either.tab2 span_either.bits2 (fun HT_ HW_ => ?_)
    generalize w14.drew = w20 at BK428 BK429 BK430 HB hHeld ⊢
    refine pure_ (i := 0) (N := some 12) (v := ?_) (a' := ?_) #[true, false, false, false, false, false, false, false] rfl rfl (any_of HT_.out (by kernel_rfl)) (fun _ _ _ h => h) (Or.inl ⟨by rfl, ?_⟩) ?_ ?_
    rotate_left
    · intro w'
      go_simp
      with_reducible rfl
    rotate_left
    · simp only [Act.put, List.setIfInBounds_toArray, List.set_cons_zero, List.set_cons_succ, i64_w, i32_w]
      rfl
    refine pure_ (i := 1) (N := some 13) (v := ?_) (a' := ?_) #[true, true, false, false, false, false, false, false] rfl rfl (any_of HT_.out (by kernel_rfl)) (fun _ _ _ h => h) (Or.inl ⟨by rfl, ?_⟩) ?_ ?_
    rotate_left
    · intro w'
      go_simp
      with_reducible rfl
    rotate_left
    · simp only [Act.put, List.setIfInBounds_toArray, List.set_cons_zero, List.set_cons_succ, i64_w, i32_w]
      rfl
    refine pure_ (i := 2) (N := some 14) (v := ?_) (a' := ?_) #[true, true, true, false, false, false, false, false] rfl rfl (any_of HT_.out (by kernel_rfl)) (fun _ _ _ h => h) (Or.inl ⟨by rfl, ?_⟩) ?_ ?_
    rotate_left
    · intro w'
      go_simp
      with_reducible rfl
    rotate_left
    · simp only [Act.put, List.setIfInBounds_toArray, List.set_cons_zero, List.set_cons_succ, i64_w, i32_w]
      rfl
    refine pure_ (i := 3) (N := some 15) (v := ?_) (a' := ?_) #[true, true, true, true, false, false, false, false] rfl rfl (any_of HT_.out (by kernel_rfl)) (fun _ _ _ h => h) (Or.inl ⟨by rfl, ?_⟩) ?_ ?_
    rotate_left
    · intro w'
      go_simp
      with_reducible rfl
    rotate_left
    · simp only [Act.put, List.setIfInBounds_toArray, List.set_cons_zero, List.set_cons_succ, i64_w, i32_w]
      rfl
    refine pure_ (i := 4) (N := some 16) (v := ?_) (a' := ?_) #[true, true, true, true, true, false, false, false] rfl rfl (any_of HT_.out (by kernel_rfl)) (fun _ _ _ h => h) (Or.inl ⟨by rfl, ?_⟩) ?_ ?_
    rotate_left
    · intro w'
      go_simp
      with_reducible rfl
    rotate_left
    · simp only [Act.put, List.setIfInBounds_toArray, List.set_cons_zero, List.set_cons_succ, i64_w, i32_w]
      rfl
    refine pure_ (i := 5) (N := some 17) (v := ?_) (a' := ?_) #[true, true, true, true, true, true, false, false] rfl rfl (any_of HT_.out (by kernel_rfl)) (fun _ _ _ h => h) (Or.inl ⟨by rfl, ?_⟩) ?_ ?_
    rotate_left
    · intro w'
      go_simp
      with_reducible rfl
    rotate_left
    · simp only [Act.put, List.setIfInBounds_toArray, List.set_cons_zero, List.set_cons_succ, i64_w, i32_w]
      rfl
    refine one_ (i := 6) (N := some 8) #[true, true, true, true, true, true, true, false] rfl rfl (one_of HT_.out (by kernel_rfl)) (by decide) (fun K hK => ?_)
    refine box_step ?hg (N := 8) ?hd (cs := #[.int .i64 0, .int .i64 0]) (t := 47) ?hr ?_; (case hd => rfl); (case hg => rfl); (case hr => first | (go_simp; done) | (go_simp; rfl))
    intro gb432 hg w21 hbox hb
    have n0_ := Aside0.mk (bB (g := gb428) (o := .cells #[.int .i64 a1_0, .int .i64 a1_1] 47 (0, 0)) (by (with_reducible repeat (first | apply bN | apply bD | apply bA)); exact BK428.out) hb)
    have n1_ := Aside0.mk (bB (g := gb429) (o := .cells #[.int .i64 a2_0, .int .i64 a2_1] 47 (0, 0)) (by (with_reducible repeat (first | apply bN | apply bD | apply bA)); exact BK429.out) hb)
    have n2_ := Aside0.mk (bB (g := gb430) (o := .cells #[.int .i64 0, .int .i64 0] 47 (0, 0)) (by (with_reducible repeat (first | apply bN | apply bD | apply bA)); exact BK430.out) hb)
    have n3_ := Aside0.mk (cT (by repeat (first | (with_reducible first | exact HB.out | apply cA | apply cN | apply cD | refine cS ?_ GE428.out | refine cS ?_ GE429.out | refine cS ?_ GE430.out) | exact HB.out)) hb)
    have n4_ := Aside0.mk (hbox)
    have n5_ := Aside0.mk ((by rw [hg]; exact (cZ (by repeat (first | (with_reducible first | exact HB.out | apply cA | apply cN | apply cD | refine cS ?_ GE428.out | refine cS ?_ GE429.out | refine cS ?_ GE430.out) | exact HB.out))) : w.heap.size ≤ gb432))
    have n6_ := Aside0.mk ((by rw [hg]; exact (cZ (by repeat (first | (with_reducible first | exact HB.out | apply cA | apply cN | apply cD | refine cS ?_ GE428.out | refine cS ?_ GE429.out | refine cS ?_ GE430.out) | exact HB.out))) : w.heap.size ≤ gb432))
    have n7_ := Aside0.mk ((by rw [hg]; exact Nat.ne_of_lt (blk_lt (g := gb428) (o := .cells #[.int .i64 a1_0, .int .i64 a1_1] 47 (0, 0)) (by (with_reducible repeat (first | apply bN | apply bD | apply bA)); exact BK428.out)) : gb428 ≠ gb432))
    have n8_ := Aside0.mk ((by rw [hg]; exact Nat.ne_of_gt (blk_lt (g := gb428) (o := .cells #[.int .i64 a1_0, .int .i64 a1_1] 47 (0, 0)) (by (with_reducible repeat (first | apply bN | apply bD | apply bA)); exact BK428.out)) : gb432 ≠ gb428))
    have n9_ := Aside0.mk ((by rw [hg]; exact Nat.ne_of_lt (blk_lt (g := gb429) (o := .cells #[.int .i64 a2_0, .int .i64 a2_1] 47 (0, 0)) (by (with_reducible repeat (first | apply bN | apply bD | apply bA)); exact BK429.out)) : gb429 ≠ gb432))
    have n10_ := Aside0.mk ((by rw [hg]; exact Nat.ne_of_gt (blk_lt (g := gb429) (o := .cells #[.int .i64 a2_0, .int .i64 a2_1] 47 (0, 0)) (by (with_reducible repeat (first | apply bN | apply bD | apply bA)); exact BK429.out)) : gb432 ≠ gb429))
    have n11_ := Aside0.mk ((by rw [hg]; exact Nat.ne_of_lt (blk_lt (g := gb430) (o := .cells #[.int .i64 0, .int .i64 0] 47 (0, 0)) (by (with_reducible repeat (first | apply bN | apply bD | apply bA)); exact BK430.out)) : gb430 ≠ gb432))
    have n12_ := Aside0.mk ((by rw [hg]; exact Nat.ne_of_gt (blk_lt (g := gb430) (o := .cells #[.int .i64 0, .int .i64 0] 47 (0, 0)) (by (with_reducible repeat (first | apply bN | apply bD | apply bA)); exact BK430.out)) : gb432 ≠ gb430))
    clear BK428
    clear BK429
    clear BK430
    clear HB
    have BK428 := n0_
    have BK429 := n1_
    have BK430 := n2_
    have HB := n3_
    have BK432 := n4_
    have GW432 := n5_
    have GE432 := n6_
    have NB428_432 := n7_
    have NB432_428 := n8_
    have NB429_432 := n9_
    have NB432_429 := n10_
    have NB430_432 := n11_
    have NB432_430 := n12_
    clear n0_ n1_ n2_ n3_ n4_ n5_ n6_ n7_ n8_ n9_ n10_ n11_ n12_
    clear hb hbox hg
    refine hK.out _ _ trivial (fun hHeld => ?_)
    clear hK K
    refine norm_ (a' := ?_) ?_ ?_
    rotate_left
    · show Act.put _ (some 8) _ = _
      simp only [Act.put, List.setIfInBounds_toArray, List.set_cons_zero, List.set_cons_succ, i64_w, i32_w]
      rfl
    refine one_ (i := 7) (N := none) #[true, true, true, true, true, true, true, true] rfl rfl (one_of HT_.out (by kernel_rfl)) (by decide) (fun K hK => ?_)
    have hs22 : w21.cell? ⟨gb432, 0, none⟩ = some (.int .i64 0) := (bC BK432.out 0).trans rfl
    have hfs22 := bZ BK432.out 0
    have hns22_0 := NB428_432.out
    have hns22_1 := NB429_432.out
    have hns22_2 := NB430_432.out
    have hms22_0 := NB432_428.out
    have hms22_1 := NB432_429.out
    have hms22_2 := NB432_430.out
    have hs23 : w21.cell? ⟨gb432, 1, none⟩ = some (.int .i64 0) := (bC BK432.out 1).trans rfl
    have hfs23 := bZ BK432.out 1
    have hns23_0 := NB428_432.out
    have hns23_1 := NB429_432.out
    have hns23_2 := NB430_432.out
    have hms23_0 := NB432_428.out
    have hms23_1 := NB432_429.out
    have hms23_2 := NB432_430.out
    refine skip_ (w1 := ?_) (by rfl) rfl ?_ ?_
    rotate_left
    · go_simp
      rfl
    refine hK.out _ _ trivial (fun hHeld => ?_)
    clear hK K
    refine done_ (done_of HT_.out (by kernel_rfl)) ?_
    go_upto_region 3 with (fail)
    go_cut [25] (fun v25 wc => ∃ (kq : Nat) (x25_18 : Bool), v25 = .bool x25_18 ∧ Aside0 (span_either.j0 kq a0 x25_18 a1_0 a1_1 a2_0 a2_1 ji16 (wrap64 ((ji18) - 1)) = some (r1, r2)) ∧ Aside0 (kq ≤ k) ∧ Aside0 (wc.heap[gb428]? = some (.cells #[.int .i64 a1_0, .int .i64 a1_1] 47 (0, 0))) ∧ Aside0 (wc.heap[gb429]? = some (.cells #[.int .i64 a2_0, .int .i64 a2_1] 47 (0, 0))) ∧ Aside0 (wc.heap[gb430]? = some (.cells #[.int .i64 0, .int .i64 0] 47 (0, 0))) ∧ Aside0 (wc.heap[gb432]? = some (.cells #[.int .i64 ji16, .int .i64 (wrap64 ((ji18) - 1))] 47 (0, 0))) ∧ Aside0 (Below w.heap.size w wc))
    case first =>
      have H := HC19.out
      clear HC19
      by_cases c24 : a1_0 ≥ 0
      · rw [if_pos c24] at H
        have c24b0 : decide (0 ≤ a1_0) = true := decide_eq_true c24
        clear c24
        (first | rw [c24b0] | (simp only [i64_w, i32_w]; rw [c24b0]) | skip)
        have H' := Aside0.mk H
        clear H
        have hnb25 := NB428_429.out
        have hnc25 := NB429_428.out
        have hnb26 := NB428_430.out
        have hnc26 := NB430_428.out
        have hnb27 := NB428_432.out
        have hnc27 := NB432_428.out
        have hcz28_0 : w21.cell? ⟨gb428, 0, none⟩ = some (.int .i64 a1_0) := (bC BK428.out 0).trans rfl
        have hcz28_1 : w21.cell? ⟨gb428, 1, none⟩ = some (.int .i64 a1_1) := (bC BK428.out 1).trans rfl
        have hfz28_0 := bZ BK428.out 0
        have hfz28_1 := bZ BK428.out 1
        have hnb29 := NB429_430.out
        have hnc29 := NB430_429.out
        have hnb30 := NB429_432.out
        have hnc30 := NB432_429.out
        have hcz31_0 : w21.cell? ⟨gb429, 0, none⟩ = some (.int .i64 a2_0) := (bC BK429.out 0).trans rfl
        have hcz31_1 : w21.cell? ⟨gb429, 1, none⟩ = some (.int .i64 a2_1) := (bC BK429.out 1).trans rfl
        have hfz31_0 := bZ BK429.out 0
        have hfz31_1 := bZ BK429.out 1
        go_wp2
        go_meet
        case rel => exact ⟨_, (decide (a2_0 ≥ 0)), (by first | rfl | (simp; done) | (simp [*]; done)), H', ⟨by first | omega | exact Nat.le_refl _⟩, ⟨by (with_reducible repeat (first | apply bN | apply bD | apply bA)); refine bF ?_ NB428_432.out _; (with_reducible repeat (first | apply bN | apply bD | apply bA)); refine bF ?_ NB428_432.out _; (with_reducible repeat (first | apply bN | apply bD | apply bA)); exact BK428.out⟩, ⟨by (with_reducible repeat (first | apply bN | apply bD | apply bA)); refine bF ?_ NB429_432.out _; (with_reducible repeat (first | apply bN | apply bD | apply bA)); refine bF ?_ NB429_432.out _; (with_reducible repeat (first | apply bN | apply bD | apply bA)); exact BK429.out⟩, ⟨by (with_reducible repeat (first | apply bN | apply bD | apply bA)); refine bF ?_ NB430_432.out _; (with_reducible repeat (first | apply bN | apply bD | apply bA)); refine bF ?_ NB430_432.out _; (with_reducible repeat (first | apply bN | apply bD | apply bA)); exact BK430.out⟩, ⟨by (with_reducible repeat (first | apply bN | apply bD | apply bA)); refine bP (cs := #[.int .i64 ji16, .int .i64 0]) ?_ 1 _ rfl; (with_reducible repeat (first | apply bN | apply bD | apply bA)); refine bP (cs := #[.int .i64 0, .int .i64 0]) ?_ 0 _ rfl; (with_reducible repeat (first | apply bN | apply bD | apply bA)); exact BK432.out⟩, ⟨by repeat (first | (with_reducible first | exact HB.out | apply cA | apply cN | apply cD | refine cS ?_ GE428.out | refine cS ?_ GE429.out | refine cS ?_ GE430.out | refine cS ?_ GE432.out) | exact HB.out)⟩⟩
      rw [if_neg c24] at H
      have c24b0 : decide (0 ≤ a1_0) = false := decide_eq_false c24
      clear c24
      (first | rw [c24b0] | (simp only [i64_w, i32_w]; rw [c24b0]) | skip)
      have H' := Aside0.mk H
      clear H
      have hnb32 := NB428_429.out
      have hnc32 := NB429_428.out
      have hnb33 := NB428_430.out
      have hnc33 := NB430_428.out
      have hnb34 := NB428_432.out
      have hnc34 := NB432_428.out
      have hcz35_0 : w21.cell? ⟨gb428, 0, none⟩ = some (.int .i64 a1_0) := (bC BK428.out 0).trans rfl
      have hcz35_1 : w21.cell? ⟨gb428, 1, none⟩ = some (.int .i64 a1_1) := (bC BK428.out 1).trans rfl
      have hfz35_0 := bZ BK428.out 0
      have hfz35_1 := bZ BK428.out 1
      go_wp2
      go_meet
      case rel => exact ⟨_, (false), (by first | rfl | (simp; done) | (simp [*]; done)), H', ⟨by first | omega | exact Nat.le_refl _⟩, ⟨by (with_reducible repeat (first | apply bN | apply bD | apply bA)); refine bF ?_ NB428_432.out _; (with_reducible repeat (first | apply bN | apply bD | apply bA)); refine bF ?_ NB428_432.out _; (with_reducible repeat (first | apply bN | apply bD | apply bA)); exact BK428.out⟩, ⟨by (with_reducible repeat (first | apply bN | apply bD | apply bA)); refine bF ?_ NB429_432.out _; (with_reducible repeat (first | apply bN | apply bD | apply bA)); refine bF ?_ NB429_432.out _; (with_reducible repeat (first | apply bN | apply bD | apply bA)); exact BK429.out⟩, ⟨by (with_reducible repeat (first | apply bN | apply bD | apply bA)); refine bF ?_ NB430_432.out _; (with_reducible repeat (first | apply bN | apply bD | apply bA)); refine bF ?_ NB430_432.out _; (with_reducible repeat (first | apply bN | apply bD | apply bA)); exact BK430.out⟩, ⟨by (with_reducible repeat (first | apply bN | apply bD | apply bA)); refine bP (cs := #[.int .i64 ji16, .int .i64 0]) ?_ 1 _ rfl; (with_reducible repeat (first | apply bN | apply bD | apply bA)); refine bP (cs := #[.int .i64 0, .int .i64 0]) ?_ 0 _ rfl; (with_reducible repeat (first | apply bN | apply bD | apply bA)); exact BK432.out⟩, ⟨by repeat (first | (with_reducible first | exact HB.out | apply cA | apply cN | apply cD | refine cS ?_ GE428.out | refine cS ?_ GE429.out | refine cS ?_ GE430.out | refine cS ?_ GE432.out) | exact HB.out)⟩⟩
    case rest =>
      clear HC19
      try clear c15
      try clear c15b0
      try clear c15b1
      try clear c17b0
      try clear c24
      try clear c24b0
      try clear hcz11_0
      try clear hcz11_1
      try clear hcz13_0
      try clear hcz13_1
      try clear hcz28_0
      try clear hcz28_1
      try clear hcz31_0
      try clear hcz31_1
      try clear hcz35_0
      try clear hcz35_1
      try clear hfz11_0
      try clear hfz11_1
      try clear hfz13_0
      try clear hfz13_1
      try clear hfz28_0
      try clear hfz28_1
      try clear hfz31_0
      try clear hfz31_1
      try clear hfz35_0
      try clear hfz35_1
      obtain ⟨kq, x25_18, rfl, HA, HJ18, BK428, BK429, BK430, BK432, HB⟩ := hcut
      cases kq with
      | zero => exact absurd HA.out (by simp [span_either.j0])
      | succ kj18 =>
        have H := HA.out
        clear HA
        simp only [span_either.j0] at H
        by_cases c36 : x25_18 = true
        · subst c36
          have H1 : (if a0 = 16 then (some (mx a1_0 a2_0, (wrap64 ((ji18) - 1)))) else (some (0, (wrap64 ((ji18) - 1))))) = some (r1, r2) := by rw [if_pos rfl] at H; exact H
          clear H
          have H := H1
          clear H1
          by_cases c37 : a0 = 16
          · rw [if_pos c37] at H
            have c37b0 : (a0 == 16) = true := beq_iff_eq.mpr c37
            have c37b1 : (a0 != 16) = false := bne_eq_false_iff_eq.mpr c37
            clear c37
            obtain ⟨ji38, hji38⟩ : ∃ j_ : Int, (mx a1_0 a2_0) = j_ := ⟨_, rfl⟩
            replace H : (some (ji38, (wrap64 ((ji18) - 1)))) = some (r1, r2) := by first | (rw [hji38] at H; exact H) | (simp only [hji38] at H ⊢; exact H)
            have hji38_ : (if a1_0 < a2_0 then a2_0 else a1_0) = ji38 := hji38
            simp only [Option.some.injEq, Prod.mk.injEq] at H
            obtain ⟨rfl, rfl⟩ := H
            have hnb39 := NB432_428.out
            have hnc39 := NB428_432.out
            have hnb40 := NB432_429.out
            have hnc40 := NB429_432.out
            have hnb41 := NB432_430.out
            have hnc41 := NB430_432.out
            have hcz42_0 : wc.cell? ⟨gb432, 0, none⟩ = some (.int .i64 ji16) := (bC BK432.out 0).trans rfl
            have hcz42_1 : wc.cell? ⟨gb432, 1, none⟩ = some (.int .i64 (wrap64 ((ji18) - 1))) := (bC BK432.out 1).trans rfl
            have hfz42_0 := bZ BK432.out 0
            have hfz42_1 := bZ BK432.out 1
            have hnb43 := NB428_429.out
            have hnc43 := NB429_428.out
            have hnb44 := NB428_430.out
            have hnc44 := NB430_428.out
            have hcz45_0 : wc.cell? ⟨gb428, 0, none⟩ = some (.int .i64 a1_0) := (bC BK428.out 0).trans rfl
            have hcz45_1 : wc.cell? ⟨gb428, 1, none⟩ = some (.int .i64 a1_1) := (bC BK428.out 1).trans rfl
            have hfz45_0 := bZ BK428.out 0
            have hfz45_1 := bZ BK428.out 1
            have hnb46 := NB429_430.out
            have hnc46 := NB430_429.out
            have hcz47_0 : wc.cell? ⟨gb429, 0, none⟩ = some (.int .i64 a2_0) := (bC BK429.out 0).trans rfl
            have hcz47_1 : wc.cell? ⟨gb429, 1, none⟩ = some (.int .i64 a2_1) := (bC BK429.out 1).trans rfl
            have hfz47_0 := bZ BK429.out 0
            have hfz47_1 := bZ BK429.out 1
            have hcz48_0 : wc.cell? ⟨gb430, 0, none⟩ = some (.int .i64 0) := (bC BK430.out 0).trans rfl
            have hcz48_1 : wc.cell? ⟨gb430, 1, none⟩ = some (.int .i64 0) := (bC BK430.out 1).trans rfl
            have hfz48_0 := bZ BK430.out 0
            have hfz48_1 := bZ BK430.out 1
            go_wp2
            refine bodyPost_ret (results_cell_row rfl _ _ gb430 47 #[.int .i64 ji38, .int .i64 (wrap64 ((ji18) - 1))] (0, 0) _ rfl (by (with_reducible repeat (first | apply bN | apply bD | apply bA)); refine bP (cs := #[.int .i64 ji38, .int .i64 0]) ?_ 1 _ rfl; (with_reducible repeat (first | apply bN | apply bD | apply bA)); refine bP (cs := #[.int .i64 0, .int .i64 0]) ?_ 0 _ rfl; (with_reducible repeat (first | apply bN | apply bD | apply bA)); refine bF ?_ NB430_432.out _; (with_reducible repeat (first | apply bN | apply bD | apply bA)); refine bF ?_ NB430_432.out _; (with_reducible repeat (first | apply bN | apply bD | apply bA)); exact BK430.out) Try.underlying47 rfl (by kernel_rfl)) rfl ?_
            exact ⟨by first | rfl | (simp [errW_none, errW_some] <;> rfl) | (simp only [← hji16, ← hji18, ← hji38]; first | rfl | (simp [errW_none, errW_some] <;> rfl)) | (simp [*, errW_none, errW_some] <;> rfl), by repeat (first | (with_reducible first | exact HB.out | apply cA | apply cN | apply cD | refine cS ?_ GE428.out | refine cS ?_ GE429.out | refine cS ?_ GE430.out | refine cS ?_ GE432.out) | exact HB.out)⟩
          rw [if_neg c37] at H
          have c37b0 : (a0 == 16) = false := beq_eq_false_iff_ne.mpr c37
          have c37b1 : (a0 != 16) = true := bne_iff_ne.mpr c37
          simp only [Option.some.injEq, Prod.mk.injEq] at H
          obtain ⟨rfl, rfl⟩ := H
          have hnb49 := NB432_428.out
          have hnc49 := NB428_432.out
          have hnb50 := NB432_429.out
          have hnc50 := NB429_432.out
          have hnb51 := NB432_430.out
          have hnc51 := NB430_432.out
          have hcz52_0 : wc.cell? ⟨gb432, 0, none⟩ = some (.int .i64 ji16) := (bC BK432.out 0).trans rfl
          have hcz52_1 : wc.cell? ⟨gb432, 1, none⟩ = some (.int .i64 (wrap64 ((ji18) - 1))) := (bC BK432.out 1).trans rfl
          have hfz52_0 := bZ BK432.out 0
          have hfz52_1 := bZ BK432.out 1
          have hnb53 := NB430_428.out
          have hnc53 := NB428_430.out
          have hnb54 := NB430_429.out
          have hnc54 := NB429_430.out
          have hcz55_0 : wc.cell? ⟨gb430, 0, none⟩ = some (.int .i64 0) := (bC BK430.out 0).trans rfl
          have hcz55_1 : wc.cell? ⟨gb430, 1, none⟩ = some (.int .i64 0) := (bC BK430.out 1).trans rfl
          have hfz55_0 := bZ BK430.out 0
          have hfz55_1 := bZ BK430.out 1
          go_wp2
          refine bodyPost_ret (results_cell_row rfl _ _ gb430 47 #[.int .i64 0, .int .i64 (wrap64 ((ji18) - 1))] (0, 0) _ rfl (by (with_reducible repeat (first | apply bN | apply bD | apply bA)); refine bP (cs := #[.int .i64 0, .int .i64 0]) ?_ 1 _ rfl; (with_reducible repeat (first | apply bN | apply bD | apply bA)); refine bP (cs := #[.int .i64 0, .int .i64 0]) ?_ 0 _ rfl; (with_reducible repeat (first | apply bN | apply bD | apply bA)); refine bF ?_ NB430_432.out _; (with_reducible repeat (first | apply bN | apply bD | apply bA)); exact BK430.out) Try.underlying47 rfl (by kernel_rfl)) rfl ?_
          exact ⟨by first | rfl | (simp [errW_none, errW_some] <;> rfl) | (simp only [← hji16, ← hji18]; first | rfl | (simp [errW_none, errW_some] <;> rfl)) | (simp [*, errW_none, errW_some] <;> rfl), by repeat (first | (with_reducible first | exact HB.out | apply cA | apply cN | apply cD | refine cS ?_ GE428.out | refine cS ?_ GE429.out | refine cS ?_ GE430.out | refine cS ?_ GE432.out) | exact HB.out)⟩
        replace c36 := Bool.eq_false_iff.mpr c36
        subst c36
        have H1 : (some (ji16, (wrap64 ((ji18) - 1)))) = some (r1, r2) := by rw [if_neg (show ¬ (false = true) by decide)] at H; exact H
        clear H
        have H := H1
        clear H1
        simp only [Option.some.injEq, Prod.mk.injEq] at H
        obtain ⟨rfl, rfl⟩ := H
        have hnb56 := NB432_428.out
        have hnc56 := NB428_432.out
        have hnb57 := NB432_429.out
        have hnc57 := NB429_432.out
        have hnb58 := NB432_430.out
        have hnc58 := NB430_432.out
        have hcz59_0 : wc.cell? ⟨gb432, 0, none⟩ = some (.int .i64 ji16) := (bC BK432.out 0).trans rfl
        have hcz59_1 : wc.cell? ⟨gb432, 1, none⟩ = some (.int .i64 (wrap64 ((ji18) - 1))) := (bC BK432.out 1).trans rfl
        have hfz59_0 := bZ BK432.out 0
        have hfz59_1 := bZ BK432.out 1
        have hnb60 := NB430_428.out
        have hnc60 := NB428_430.out
        have hnb61 := NB430_429.out
        have hnc61 := NB429_430.out
        have hcz62_0 : wc.cell? ⟨gb430, 0, none⟩ = some (.int .i64 0) := (bC BK430.out 0).trans rfl
        have hcz62_1 : wc.cell? ⟨gb430, 1, none⟩ = some (.int .i64 0) := (bC BK430.out 1).trans rfl
        have hfz62_0 := bZ BK430.out 0
        have hfz62_1 := bZ BK430.out 1
        go_wp2
        refine bodyPost_ret (results_cell_row rfl _ _ gb430 47 #[.int .i64 ji16, .int .i64 (wrap64 ((ji18) - 1))] (0, 0) _ rfl (by (with_reducible repeat (first | apply bN | apply bD | apply bA)); refine bP (cs := #[.int .i64 ji16, .int .i64 0]) ?_ 1 _ rfl; (with_reducible repeat (first | apply bN | apply bD | apply bA)); refine bP (cs := #[.int .i64 0, .int .i64 0]) ?_ 0 _ rfl; (with_reducible repeat (first | apply bN | apply bD | apply bA)); exact BK430.out) Try.underlying47 rfl (by kernel_rfl)) rfl ?_
        exact ⟨by first | rfl | (simp [errW_none, errW_some] <;> rfl) | (simp only [← hji16, ← hji18]; first | rfl | (simp [errW_none, errW_some] <;> rfl)) | (simp [*, errW_none, errW_some] <;> rfl), by repeat (first | (with_reducible first | exact HB.out | apply cA | apply cN | apply cD | refine cS ?_ GE428.out | refine cS ?_ GE429.out | refine cS ?_ GE430.out | refine cS ?_ GE432.out) | exact HB.out)⟩
  rw [if_neg c15] at H
  exact absurd H (by simp)

end Go.Proofs.Ytpnldhimlpilhaa.F
