/- Written by wip/myprint.py of this session, out of Lean's print of the program: what Go functions come to, and that their calls come to it; no condition. -/
import Derived.Test.YtpnldhimlpilhaaF0
import Derived.Test.YtpnldhimlpilhaaFspan3
namespace Go.Proofs.Ytpnldhimlpilhaa.F
open Go.RowKit Go.Proofs.YtpnldhimlpilhaaW.PrintWords Go.Proofs.YtpnldhimlpilhaaW.PrintLast Go.Proofs.YtpnldhimlpilhaaW.PrintMore Go.Proofs.YtpnldhimlpilhaaW
attribute [local go_sem] max2_int min2_int max_two min_two max_three min_three max_four min_four   -- for this text's walks alone
set_option linter.unusedVariables false
set_option linter.unusedSimpArgs false

/-! ### span_Join: function 29 -/
def span_Join.f (a0_0 : Int) (a0_1 : Int) (a1_0 : Int) (a1_1 : Int) : Option (Int × Int) := some (mn a0_0 a1_0, mx a0_1 a1_1)
set_option maxHeartbeats 8000000 in
set_option maxRecDepth 100000 in
theorem span_Join.calls (a0_0 : Int) (a0_1 : Int) (a1_0 : Int) (a1_1 : Int) (r1 : Int) (r2 : Int) (w : World) (h : span_Join.f a0_0 a0_1 a1_0 a1_1 = some (r1, r2)) :
    Calls Try.prog 29 #[.agg #[.int .i64 a0_0, .int .i64 a0_1], .agg #[.int .i64 a1_0, .int .i64 a1_1]] w fun e w' => e = .returned (.agg #[.int .i64 r1, .int .i64 r2]) ∧ Below w.heap.size w w' := by
  have hu47 := Try.underlying47
  have HB := Aside0.mk (Below.refl w.heap.size w)
  have H : (some (mn a0_0 a1_0, mx a0_1 a1_1)) = some (r1, r2) := h
  clear h
  obtain ⟨ji3, hji3⟩ : ∃ j_ : Int, (mn a0_0 a1_0) = j_ := ⟨_, rfl⟩
  replace H : (some (ji3, mx a0_1 a1_1)) = some (r1, r2) := by first | (rw [hji3] at H; exact H) | (simp only [hji3] at H ⊢; exact H)
  have hji3_ : (if a1_0 < a0_0 then a1_0 else a0_0) = ji3 := hji3
  obtain ⟨ji4, hji4⟩ : ∃ j_ : Int, (mx a0_1 a1_1) = j_ := ⟨_, rfl⟩
  replace H : (some (ji3, ji4)) = some (r1, r2) := by first | (rw [hji4] at H; exact H) | (simp only [hji4] at H ⊢; exact H)
  have hji4_ : (if a0_1 < a1_1 then a1_1 else a0_1) = ji4 := hji4
  simp only [Option.some.injEq, Prod.mk.injEq] at H
  obtain ⟨rfl, rfl⟩ := H
  go_enter Try.func29, Try.ntmps29
  go_wp2_with (first | ((with_reducible refine gate_dst (N := 2) rfl ?_); refine box_event ?hg (N := 2) ?hd (cs := #[.int .i64 a0_0, .int .i64 a0_1]) (t := 47) ?hr ?_; (case hd => rfl); (case hg => rfl); (case hr => first | (go_simp; done) | (go_simp; rfl)); intro gb482 hg w5 hbox hb; have n0_ := Aside0.mk (cT (by repeat (first | (with_reducible first | exact HB.out | apply cA | apply cN | apply cD) | exact HB.out)) hb); have n1_ := Aside0.mk (hbox); have n2_ := Aside0.mk ((by rw [hg]; exact (cZ (by repeat (first | (with_reducible first | exact HB.out | apply cA | apply cN | apply cD) | exact HB.out))) : w.heap.size ≤ gb482)); have n3_ := n2_; clear HB; have HB := n0_; have BK482 := n1_; have GW482 := n2_; have GE482 := n3_; clear n0_ n1_ n2_ n3_; clear hb hbox hg) | ((with_reducible refine gate_dst (N := 3) rfl ?_); refine box_event ?hg (N := 3) ?hd (cs := #[.int .i64 a1_0, .int .i64 a1_1]) (t := 47) ?hr ?_; (case hd => rfl); (case hg => rfl); (case hr => first | (go_simp; done) | (go_simp; rfl)); intro gb483 hg w6 hbox hb; have n0_ := Aside0.mk (bB (g := gb482) (o := .cells #[.int .i64 a0_0, .int .i64 a0_1] 47 (0, 0)) (by (with_reducible repeat (first | apply bN | apply bD | apply bA)); exact BK482.out) hb); have n1_ := Aside0.mk (cT (by repeat (first | (with_reducible first | exact HB.out | apply cA | apply cN | apply cD | refine cS ?_ GE482.out) | exact HB.out)) hb); have n2_ := Aside0.mk (hbox); have n3_ := Aside0.mk ((by rw [hg]; exact (cZ (by repeat (first | (with_reducible first | exact HB.out | apply cA | apply cN | apply cD | refine cS ?_ GE482.out) | exact HB.out))) : w.heap.size ≤ gb483)); have n4_ := n3_; have n5_ := Aside0.mk ((by rw [hg]; exact Nat.ne_of_lt (blk_lt (g := gb482) (o := .cells #[.int .i64 a0_0, .int .i64 a0_1] 47 (0, 0)) (by (with_reducible repeat (first | apply bN | apply bD | apply bA)); exact BK482.out)) : gb482 ≠ gb483)); have n6_ := Aside0.mk ((by rw [hg]; exact Nat.ne_of_gt (blk_lt (g := gb482) (o := .cells #[.int .i64 a0_0, .int .i64 a0_1] 47 (0, 0)) (by (with_reducible repeat (first | apply bN | apply bD | apply bA)); exact BK482.out)) : gb483 ≠ gb482)); clear BK482; clear HB; have BK482 := n0_; have HB := n1_; have BK483 := n2_; have GW483 := n3_; have GE483 := n4_; have NB482_483 := n5_; have NB483_482 := n6_; clear n0_ n1_ n2_ n3_ n4_ n5_ n6_; clear hb hbox hg) | ((with_reducible refine gate_dst (N := 4) rfl ?_); refine box_event ?hg (N := 4) ?hd (cs := #[.int .i64 0, .int .i64 0]) (t := 47) ?hr ?_; (case hd => rfl); (case hg => rfl); (case hr => first | (go_simp; done) | (go_simp; rfl)); intro gb484 hg w7 hbox hb; have n0_ := Aside0.mk (bB (g := gb482) (o := .cells #[.int .i64 a0_0, .int .i64 a0_1] 47 (0, 0)) (by (with_reducible repeat (first | apply bN | apply bD | apply bA)); exact BK482.out) hb); have n1_ := Aside0.mk (bB (g := gb483) (o := .cells #[.int .i64 a1_0, .int .i64 a1_1] 47 (0, 0)) (by (with_reducible repeat (first | apply bN | apply bD | apply bA)); exact BK483.out) hb); have n2_ := Aside0.mk (cT (by repeat (first | (with_reducible first | exact HB.out | apply cA | apply cN | apply cD | refine cS ?_ GE482.out | refine cS ?_ GE483.out) | exact HB.out)) hb); have n3_ := Aside0.mk (hbox); have n4_ := Aside0.mk ((by rw [hg]; exact (cZ (by repeat (first | (with_reducible first | exact HB.out | apply cA | apply cN | apply cD | refine cS ?_ GE482.out | refine cS ?_ GE483.out) | exact HB.out))) : w.heap.size ≤ gb484)); have n5_ := n4_; have n6_ := Aside0.mk ((by rw [hg]; exact Nat.ne_of_lt (blk_lt (g := gb482) (o := .cells #[.int .i64 a0_0, .int .i64 a0_1] 47 (0, 0)) (by (with_reducible repeat (first | apply bN | apply bD | apply bA)); exact BK482.out)) : gb482 ≠ gb484)); have n7_ := Aside0.mk ((by rw [hg]; exact Nat.ne_of_gt (blk_lt (g := gb482) (o := .cells #[.int .i64 a0_0, .int .i64 a0_1] 47 (0, 0)) (by (with_reducible repeat (first | apply bN | apply bD | apply bA)); exact BK482.out)) : gb484 ≠ gb482)); have n8_ := Aside0.mk ((by rw [hg]; exact Nat.ne_of_lt (blk_lt (g := gb483) (o := .cells #[.int .i64 a1_0, .int .i64 a1_1] 47 (0, 0)) (by (with_reducible repeat (first | apply bN | apply bD | apply bA)); exact BK483.out)) : gb483 ≠ gb484)); have n9_ := Aside0.mk ((by rw [hg]; exact Nat.ne_of_gt (blk_lt (g := gb483) (o := .cells #[.int .i64 a1_0, .int .i64 a1_1] 47 (0, 0)) (by (with_reducible repeat (first | apply bN | apply bD | apply bA)); exact BK483.out)) : gb484 ≠ gb483)); clear BK482; clear BK483; clear HB; have BK482 := n0_; have BK483 := n1_; have HB := n2_; have BK484 := n3_; have GW484 := n4_; have GE484 := n5_; have NB482_484 := n6_; have NB484_482 := n7_; have NB483_484 := n8_; have NB484_483 := n9_; clear n0_ n1_ n2_ n3_ n4_ n5_ n6_ n7_ n8_ n9_; clear hb hbox hg; have hnb8 := NB482_483.out; have hnc8 := NB483_482.out; have hnb9 := NB482_484.out; have hnc9 := NB484_482.out; have hcz10_0 : w7.cell? ⟨gb482, 0, none⟩ = some (.int .i64 a0_0) := (bC BK482.out 0).trans rfl; have hcz10_1 : w7.cell? ⟨gb482, 1, none⟩ = some (.int .i64 a0_1) := (bC BK482.out 1).trans rfl; have hfz10_0 := bZ BK482.out 0; have hfz10_1 := bZ BK482.out 1; have hnb11 := NB483_484.out; have hnc11 := NB484_483.out; have hcz12_0 : w7.cell? ⟨gb483, 0, none⟩ = some (.int .i64 a1_0) := (bC BK483.out 0).trans rfl; have hcz12_1 : w7.cell? ⟨gb483, 1, none⟩ = some (.int .i64 a1_1) := (bC BK483.out 1).trans rfl; have hfz12_0 := bZ BK483.out 0; have hfz12_1 := bZ BK483.out 1; have hcz13_0 : w7.cell? ⟨gb484, 0, none⟩ = some (.int .i64 0) := (bC BK484.out 0).trans rfl; have hcz13_1 : w7.cell? ⟨gb484, 1, none⟩ = some (.int .i64 0) := (bC BK484.out 1).trans rfl; have hfz13_0 := bZ BK484.out 0; have hfz13_1 := bZ BK484.out 1))
  refine bodyPost_ret (results_cell_row rfl _ _ gb484 47 #[.int .i64 ji3, .int .i64 ji4] (0, 0) _ rfl (by (with_reducible repeat (first | apply bN | apply bD | apply bA)); refine bP (cs := #[.int .i64 ji3, .int .i64 0]) ?_ 1 _ rfl; (with_reducible repeat (first | apply bN | apply bD | apply bA)); refine bP (cs := #[.int .i64 0, .int .i64 0]) ?_ 0 _ rfl; (with_reducible repeat (first | apply bN | apply bD | apply bA)); exact BK484.out) Try.underlying47 rfl (by kernel_rfl)) rfl ?_
  exact ⟨by first | rfl | (simp [errW_none, errW_some] <;> rfl) | (simp only [← hji3, ← hji4]; first | rfl | (simp [errW_none, errW_some] <;> rfl)) | (simp [*, errW_none, errW_some] <;> rfl), by repeat (first | (with_reducible first | exact HB.out | apply cA | apply cN | apply cD | refine cS ?_ GE482.out | refine cS ?_ GE483.out | refine cS ?_ GE484.out) | exact HB.out)⟩

/-! ### span_middle: function 62 -/
def span_middle.f (a0 : Int) (a1 : Int) (a2 : Int) : Option (Int) := some (mx (mn a0 a1) (mn (mx a0 a1) a2))
set_option maxHeartbeats 8000000 in
set_option maxRecDepth 100000 in
theorem span_middle.calls (a0 : Int) (a1 : Int) (a2 : Int) (r : Int) (w : World) (h : span_middle.f a0 a1 a2 = some r) :
    Calls Try.prog 62 #[.int .i64 a0, .int .i64 a1, .int .i64 a2] w fun e w' => e = .returned (.int .i64 r) ∧ Below w.heap.size w w' := by
  have HB := Aside0.mk (Below.refl w.heap.size w)
  have H : (some (mx (mn a0 a1) (mn (mx a0 a1) a2))) = some r := h
  clear h
  obtain ⟨ji4, hji4⟩ : ∃ j_ : Int, (mn a0 a1) = j_ := ⟨_, rfl⟩
  replace H : (some (mx (ji4) (mn (mx a0 a1) a2))) = some r := by first | (rw [hji4] at H; exact H) | (simp only [hji4] at H ⊢; exact H)
  have hji4_ : (if a1 < a0 then a1 else a0) = ji4 := hji4
  obtain ⟨ji5, hji5⟩ : ∃ j_ : Int, (mx a0 a1) = j_ := ⟨_, rfl⟩
  replace H : (some (mx (ji4) (mn (ji5) a2))) = some r := by first | (rw [hji5] at H; exact H) | (simp only [hji5] at H ⊢; exact H)
  have hji5_ : (if a0 < a1 then a1 else a0) = ji5 := hji5
  obtain ⟨ji6, hji6⟩ : ∃ j_ : Int, (mn (ji5) a2) = j_ := ⟨_, rfl⟩
  replace H : (some (mx (ji4) (ji6))) = some r := by first | (rw [hji6] at H; exact H) | (simp only [hji6] at H ⊢; exact H)
  have hji6_ : (if a2 < (ji5) then a2 else (ji5)) = ji6 := hji6
  obtain ⟨ji7, hji7⟩ : ∃ j_ : Int, (mx (ji4) (ji6)) = j_ := ⟨_, rfl⟩
  replace H : (some ji7) = some r := by first | (rw [hji7] at H; exact H) | (simp only [hji7] at H ⊢; exact H)
  have hji7_ : (if (ji4) < (ji6) then (ji6) else (ji4)) = ji7 := hji7
  obtain rfl := Option.some.inj H
  go_enter Try.func62, Try.ntmps62
  go_wp2
  go_ret
  exact ⟨by first | rfl | (simp [errW_none, errW_some] <;> rfl) | (simp only [← hji4, ← hji5, ← hji6, ← hji7]; first | rfl | (simp [errW_none, errW_some] <;> rfl)) | (simp [*, errW_none, errW_some] <;> rfl), by repeat (first | (with_reducible first | exact HB.out | apply cA | apply cN | apply cD) | exact HB.out)⟩

/-! ### span_three: function 42 -/
def span_three.f (a0 : Int) (a1_0 : Int) (a1_1 : Int) (a2_0 : Int) (a2_1 : Int) (a3_0 : Int) (a3_1 : Int) : Option (Int × Int) := if a0 = 26 then (some (mn (mx a1_0 a2_0) a3_0, mn (mx a1_1 a2_1) a3_1)) else (if a0 = 27 then ((span_middle.f a1_0 a2_0 a3_0).bind fun t489 => ((span_middle.f a1_1 a2_1 a3_1).bind fun t490 => (some (t489, t490)))) else ((span_Has.f a1_0 a1_1 0).bind fun t491 => (if t491 = true then (if a1_0 = 0 then (if a1_1 = 0 then (some (a3_0, a3_1)) else ((span_Join.f a2_0 a2_1 a3_0 a3_1).bind fun bt492 => (some (bt492.1, bt492.2)))) else ((span_Join.f a2_0 a2_1 a3_0 a3_1).bind fun bt494 => (some (bt494.1, bt494.2)))) else (some (a2_0, a2_1)))))
def span_three.T4 : Bool × List (List Nat × List Nat) := (true, [([], []), ([0], [0]), ([], []), ([2], [2]), ([], []), ([4], [4]), ([1, 3, 5], [1, 3, 5]), ([], []), ([7], [7]), ([], []), ([9], [9]), ([], []), ([11], [11]), ([8, 10, 12, 6], [8, 10, 12]), ([6, 13], [6, 13]), ([14, 13, 0, 1, 2, 3, 4, 5, 6, 7, 8, 9, 10, 11, 12, 13, 14], [14])])
def span_three.B4 : List Nat := [0, 1, 0, 4, 0, 16, 63, 0, 128, 0, 512, 0, 2048, 8191, 16383, 32767]
theorem span_three.tab4 : rtab .any (opsOf Try.f42 4) = span_three.T4 := by kernel_rfl
theorem span_three.bits4 : waitsOk span_three.T4.2 span_three.B4 = true := by kernel_rfl
set_option maxHeartbeats 8000000 in
set_option maxRecDepth 100000 in
theorem span_three.calls (a0 : Int) (a1_0 : Int) (a1_1 : Int) (a2_0 : Int) (a2_1 : Int) (a3_0 : Int) (a3_1 : Int) (r1 : Int) (r2 : Int) (w : World) (h : span_three.f a0 a1_0 a1_1 a2_0 a2_1 a3_0 a3_1 = some (r1, r2)) :
    Calls Try.prog 42 #[.int .i64 a0, .agg #[.int .i64 a1_0, .int .i64 a1_1], .agg #[.int .i64 a2_0, .int .i64 a2_1], .agg #[.int .i64 a3_0, .int .i64 a3_1]] w fun e w' => e = .returned (.agg #[.int .i64 r1, .int .i64 r2]) ∧ Below w.heap.size w w' := by
  have hu47 := Try.underlying47
  have HB := Aside0.mk (Below.refl w.heap.size w)
  have H : (if a0 = 26 then (some (mn (mx a1_0 a2_0) a3_0, mn (mx a1_1 a2_1) a3_1)) else (if a0 = 27 then ((span_middle.f a1_0 a2_0 a3_0).bind fun t489 => ((span_middle.f a1_1 a2_1 a3_1).bind fun t490 => (some (t489, t490)))) else ((span_Has.f a1_0 a1_1 0).bind fun t491 => (if t491 = true then (if a1_0 = 0 then (if a1_1 = 0 then (some (a3_0, a3_1)) else ((span_Join.f a2_0 a2_1 a3_0 a3_1).bind fun bt492 => (some (bt492.1, bt492.2)))) else ((span_Join.f a2_0 a2_1 a3_0 a3_1).bind fun bt494 => (some (bt494.1, bt494.2)))) else (some (a2_0, a2_1)))))) = some (r1, r2) := h
  clear h
  have HF5 := Aside0.mk H
  clear H
  go_enter Try.func42, Try.ntmps42
  go_upto_region 1 with (first | ((with_reducible refine gate_dst (N := 5) rfl ?_); refine box_event ?hg (N := 5) ?hd (cs := #[.int .i64 a1_0, .int .i64 a1_1]) (t := 47) ?hr ?_; (case hd => rfl); (case hg => rfl); (case hr => first | (go_simp; done) | (go_simp; rfl)); intro gb485 hg w6 hbox hb; have n0_ := Aside0.mk (cT (by repeat (first | (with_reducible first | exact HB.out | apply cA | apply cN | apply cD) | exact HB.out)) hb); have n1_ := Aside0.mk (hbox); have n2_ := Aside0.mk ((by rw [hg]; exact (cZ (by repeat (first | (with_reducible first | exact HB.out | apply cA | apply cN | apply cD) | exact HB.out))) : w.heap.size ≤ gb485)); have n3_ := n2_; clear HB; have HB := n0_; have BK485 := n1_; have GW485 := n2_; have GE485 := n3_; clear n0_ n1_ n2_ n3_; clear hb hbox hg) | ((with_reducible refine gate_dst (N := 6) rfl ?_); refine box_event ?hg (N := 6) ?hd (cs := #[.int .i64 a2_0, .int .i64 a2_1]) (t := 47) ?hr ?_; (case hd => rfl); (case hg => rfl); (case hr => first | (go_simp; done) | (go_simp; rfl)); intro gb486 hg w7 hbox hb; have n0_ := Aside0.mk (bB (g := gb485) (o := .cells #[.int .i64 a1_0, .int .i64 a1_1] 47 (0, 0)) (by (with_reducible repeat (first | apply bN | apply bD | apply bA)); exact BK485.out) hb); have n1_ := Aside0.mk (cT (by repeat (first | (with_reducible first | exact HB.out | apply cA | apply cN | apply cD | refine cS ?_ GE485.out) | exact HB.out)) hb); have n2_ := Aside0.mk (hbox); have n3_ := Aside0.mk ((by rw [hg]; exact (cZ (by repeat (first | (with_reducible first | exact HB.out | apply cA | apply cN | apply cD | refine cS ?_ GE485.out) | exact HB.out))) : w.heap.size ≤ gb486)); have n4_ := n3_; have n5_ := Aside0.mk ((by rw [hg]; exact Nat.ne_of_lt (blk_lt (g := gb485) (o := .cells #[.int .i64 a1_0, .int .i64 a1_1] 47 (0, 0)) (by (with_reducible repeat (first | apply bN | apply bD | apply bA)); exact BK485.out)) : gb485 ≠ gb486)); have n6_ := Aside0.mk ((by rw [hg]; exact Nat.ne_of_gt (blk_lt (g := gb485) (o := .cells #[.int .i64 a1_0, .int .i64 a1_1] 47 (0, 0)) (by (with_reducible repeat (first | apply bN | apply bD | apply bA)); exact BK485.out)) : gb486 ≠ gb485)); clear BK485; clear HB; have BK485 := n0_; have HB := n1_; have BK486 := n2_; have GW486 := n3_; have GE486 := n4_; have NB485_486 := n5_; have NB486_485 := n6_; clear n0_ n1_ n2_ n3_ n4_ n5_ n6_; clear hb hbox hg) | ((with_reducible refine gate_dst (N := 7) rfl ?_); refine box_event ?hg (N := 7) ?hd (cs := #[.int .i64 a3_0, .int .i64 a3_1]) (t := 47) ?hr ?_; (case hd => rfl); (case hg => rfl); (case hr => first | (go_simp; done) | (go_simp; rfl)); intro gb487 hg w8 hbox hb; have n0_ := Aside0.mk (bB (g := gb485) (o := .cells #[.int .i64 a1_0, .int .i64 a1_1] 47 (0, 0)) (by (with_reducible repeat (first | apply bN | apply bD | apply bA)); exact BK485.out) hb); have n1_ := Aside0.mk (bB (g := gb486) (o := .cells #[.int .i64 a2_0, .int .i64 a2_1] 47 (0, 0)) (by (with_reducible repeat (first | apply bN | apply bD | apply bA)); exact BK486.out) hb); have n2_ := Aside0.mk (cT (by repeat (first | (with_reducible first | exact HB.out | apply cA | apply cN | apply cD | refine cS ?_ GE485.out | refine cS ?_ GE486.out) | exact HB.out)) hb); have n3_ := Aside0.mk (hbox); have n4_ := Aside0.mk ((by rw [hg]; exact (cZ (by repeat (first | (with_reducible first | exact HB.out | apply cA | apply cN | apply cD | refine cS ?_ GE485.out | refine cS ?_ GE486.out) | exact HB.out))) : w.heap.size ≤ gb487)); have n5_ := n4_; have n6_ := Aside0.mk ((by rw [hg]; exact Nat.ne_of_lt (blk_lt (g := gb485) (o := .cells #[.int .i64 a1_0, .int .i64 a1_1] 47 (0, 0)) (by (with_reducible repeat (first | apply bN | apply bD | apply bA)); exact BK485.out)) : gb485 ≠ gb487)); have n7_ := Aside0.mk ((by rw [hg]; exact Nat.ne_of_gt (blk_lt (g := gb485) (o := .cells #[.int .i64 a1_0, .int .i64 a1_1] 47 (0, 0)) (by (with_reducible repeat (first | apply bN | apply bD | apply bA)); exact BK485.out)) : gb487 ≠ gb485)); have n8_ := Aside0.mk ((by rw [hg]; exact Nat.ne_of_lt (blk_lt (g := gb486) (o := .cells #[.int .i64 a2_0, .int .i64 a2_1] 47 (0, 0)) (by (with_reducible repeat (first | apply bN | apply bD | apply bA)); exact BK486.out)) : gb486 ≠ gb487)); have n9_ := Aside0.mk ((by rw [hg]; exact Nat.ne_of_gt (blk_lt (g := gb486) (o := .cells #[.int .i64 a2_0, .int .i64 a2_1] 47 (0, 0)) (by (with_reducible repeat (first | apply bN | apply bD | apply bA)); exact BK486.out)) : gb487 ≠ gb486)); clear BK485; clear BK486; clear HB; have BK485 := n0_; have BK486 := n1_; have HB := n2_; have BK487 := n3_; have GW487 := n4_; have GE487 := n5_; have NB485_487 := n6_; have NB487_485 := n7_; have NB486_487 := n8_; have NB487_486 := n9_; clear n0_ n1_ n2_ n3_ n4_ n5_ n6_ n7_ n8_ n9_; clear hb hbox hg) | ((with_reducible refine gate_dst (N := 8) rfl ?_); refine box_event ?hg (N := 8) ?hd (cs := #[.int .i64 0, .int .i64 0]) (t := 47) ?hr ?_; (case hd => rfl); (case hg => rfl); (case hr => first | (go_simp; done) | (go_simp; rfl)); intro gb488 hg w9 hbox hb; have n0_ := Aside0.mk (bB (g := gb485) (o := .cells #[.int .i64 a1_0, .int .i64 a1_1] 47 (0, 0)) (by (with_reducible repeat (first | apply bN | apply bD | apply bA)); exact BK485.out) hb); have n1_ := Aside0.mk (bB (g := gb486) (o := .cells #[.int .i64 a2_0, .int .i64 a2_1] 47 (0, 0)) (by (with_reducible repeat (first | apply bN | apply bD | apply bA)); exact BK486.out) hb); have n2_ := Aside0.mk (bB (g := gb487) (o := .cells #[.int .i64 a3_0, .int .i64 a3_1] 47 (0, 0)) (by (with_reducible repeat (first | apply bN | apply bD | apply bA)); exact BK487.out) hb); have n3_ := Aside0.mk (cT (by repeat (first | (with_reducible first | exact HB.out | apply cA | apply cN | apply cD | refine cS ?_ GE485.out | refine cS ?_ GE486.out | refine cS ?_ GE487.out) | exact HB.out)) hb); have n4_ := Aside0.mk (hbox); have n5_ := Aside0.mk ((by rw [hg]; exact (cZ (by repeat (first | (with_reducible first | exact HB.out | apply cA | apply cN | apply cD | refine cS ?_ GE485.out | refine cS ?_ GE486.out | refine cS ?_ GE487.out) | exact HB.out))) : w.heap.size ≤ gb488)); have n6_ := n5_; have n7_ := Aside0.mk ((by rw [hg]; exact Nat.ne_of_lt (blk_lt (g := gb485) (o := .cells #[.int .i64 a1_0, .int .i64 a1_1] 47 (0, 0)) (by (with_reducible repeat (first | apply bN | apply bD | apply bA)); exact BK485.out)) : gb485 ≠ gb488)); have n8_ := Aside0.mk ((by rw [hg]; exact Nat.ne_of_gt (blk_lt (g := gb485) (o := .cells #[.int .i64 a1_0, .int .i64 a1_1] 47 (0, 0)) (by (with_reducible repeat (first | apply bN | apply bD | apply bA)); exact BK485.out)) : gb488 ≠ gb485)); have n9_ := Aside0.mk ((by rw [hg]; exact Nat.ne_of_lt (blk_lt (g := gb486) (o := .cells #[.int .i64 a2_0, .int .i64 a2_1] 47 (0, 0)) (by (with_reducible repeat (first | apply bN | apply bD | apply bA)); exact BK486.out)) : gb486 ≠ gb488)); have n10_ := Aside0.mk ((by rw [hg]; exact Nat.ne_of_gt (blk_lt (g := gb486) (o := .cells #[.int .i64 a2_0, .int .i64 a2_1] 47 (0, 0)) (by (with_reducible repeat (first | apply bN | apply bD | apply bA)); exact BK486.out)) : gb488 ≠ gb486)); have n11_ := Aside0.mk ((by rw [hg]; exact Nat.ne_of_lt (blk_lt (g := gb487) (o := .cells #[.int .i64 a3_0, .int .i64 a3_1] 47 (0, 0)) (by (with_reducible repeat (first | apply bN | apply bD | apply bA)); exact BK487.out)) : gb487 ≠ gb488)); have n12_ := Aside0.mk ((by rw [hg]; exact Nat.ne_of_gt (blk_lt (g := gb487) (o := .cells #[.int .i64 a3_0, .int .i64 a3_1] 47 (0, 0)) (by (with_reducible repeat (first | apply bN | apply bD | apply bA)); exact BK487.out)) : gb488 ≠ gb487)); clear BK485; clear BK486; clear BK487; clear HB; have BK485 := n0_; have BK486 := n1_; have BK487 := n2_; have HB := n3_; have BK488 := n4_; have GW488 := n5_; have GE488 := n6_; have NB485_488 := n7_; have NB488_485 := n8_; have NB486_488 := n9_; have NB488_486 := n10_; have NB487_488 := n11_; have NB488_487 := n12_; clear n0_ n1_ n2_ n3_ n4_ n5_ n6_ n7_ n8_ n9_ n10_ n11_ n12_; clear hb hbox hg))
  (try simp only [Act.put, List.setIfInBounds_toArray, List.set_cons_zero, List.set_cons_succ])
  have H := HF5.out
  clear HF5
  by_cases c10 : a0 = 26
  · rw [if_pos c10] at H
    have c10b0 : (a0 == 26) = true := beq_iff_eq.mpr c10
    have c10b1 : (a0 != 26) = false := bne_eq_false_iff_eq.mpr c10
    clear c10
    (first | rw [c10b0] | (simp only [i64_w, i32_w]; rw [c10b0]) | skip)
    obtain ⟨ji11, hji11⟩ : ∃ j_ : Int, (mx a1_0 a2_0) = j_ := ⟨_, rfl⟩
    replace H : (some (mn (ji11) a3_0, mn (mx a1_1 a2_1) a3_1)) = some (r1, r2) := by first | (rw [hji11] at H; exact H) | (simp only [hji11] at H ⊢; exact H)
    have hji11_ : (if a1_0 < a2_0 then a2_0 else a1_0) = ji11 := hji11
    obtain ⟨ji12, hji12⟩ : ∃ j_ : Int, (mn (ji11) a3_0) = j_ := ⟨_, rfl⟩
    replace H : (some (ji12, mn (mx a1_1 a2_1) a3_1)) = some (r1, r2) := by first | (rw [hji12] at H; exact H) | (simp only [hji12] at H ⊢; exact H)
    have hji12_ : (if a3_0 < (ji11) then a3_0 else (ji11)) = ji12 := hji12
    obtain ⟨ji13, hji13⟩ : ∃ j_ : Int, (mx a1_1 a2_1) = j_ := ⟨_, rfl⟩
    replace H : (some (ji12, mn (ji13) a3_1)) = some (r1, r2) := by first | (rw [hji13] at H; exact H) | (simp only [hji13] at H ⊢; exact H)
    have hji13_ : (if a1_1 < a2_1 then a2_1 else a1_1) = ji13 := hji13
    obtain ⟨ji14, hji14⟩ : ∃ j_ : Int, (mn (ji13) a3_1) = j_ := ⟨_, rfl⟩
    replace H : (some (ji12, ji14)) = some (r1, r2) := by first | (rw [hji14] at H; exact H) | (simp only [hji14] at H ⊢; exact H)
    have hji14_ : (if a3_1 < (ji13) then a3_1 else (ji13)) = ji14 := hji14
    simp only [Option.some.injEq, Prod.mk.injEq] at H
    obtain ⟨rfl, rfl⟩ := H
    have hnb15 := NB485_486.out
    have hnc15 := NB486_485.out
    have hnb16 := NB485_487.out
    have hnc16 := NB487_485.out
    have hnb17 := NB485_488.out
    have hnc17 := NB488_485.out
    have hcz18_0 : w9.cell? ⟨gb485, 0, none⟩ = some (.int .i64 a1_0) := (bC BK485.out 0).trans rfl
    have hcz18_1 : w9.cell? ⟨gb485, 1, none⟩ = some (.int .i64 a1_1) := (bC BK485.out 1).trans rfl
    have hfz18_0 := bZ BK485.out 0
    have hfz18_1 := bZ BK485.out 1
    have hnb19 := NB486_487.out
    have hnc19 := NB487_486.out
    have hnb20 := NB486_488.out
    have hnc20 := NB488_486.out
    have hcz21_0 : w9.cell? ⟨gb486, 0, none⟩ = some (.int .i64 a2_0) := (bC BK486.out 0).trans rfl
    have hcz21_1 : w9.cell? ⟨gb486, 1, none⟩ = some (.int .i64 a2_1) := (bC BK486.out 1).trans rfl
    have hfz21_0 := bZ BK486.out 0
    have hfz21_1 := bZ BK486.out 1
    have hnb22 := NB487_488.out
    have hnc22 := NB488_487.out
    have hcz23_0 : w9.cell? ⟨gb487, 0, none⟩ = some (.int .i64 a3_0) := (bC BK487.out 0).trans rfl
    have hcz23_1 : w9.cell? ⟨gb487, 1, none⟩ = some (.int .i64 a3_1) := (bC BK487.out 1).trans rfl
    have hfz23_0 := bZ BK487.out 0
    have hfz23_1 := bZ BK487.out 1
    have hcz24_0 : w9.cell? ⟨gb488, 0, none⟩ = some (.int .i64 0) := (bC BK488.out 0).trans rfl
    have hcz24_1 : w9.cell? ⟨gb488, 1, none⟩ = some (.int .i64 0) := (bC BK488.out 1).trans rfl
    have hfz24_0 := bZ BK488.out 0
    have hfz24_1 := bZ BK488.out 1
    go_wp2
    refine bodyPost_ret (results_cell_row rfl _ _ gb488 47 #[.int .i64 ji12, .int .i64 ji14] (0, 0) _ rfl (by (with_reducible repeat (first | apply bN | apply bD | apply bA)); refine bP (cs := #[.int .i64 ji12, .int .i64 0]) ?_ 1 _ rfl; (with_reducible repeat (first | apply bN | apply bD | apply bA)); refine bP (cs := #[.int .i64 0, .int .i64 0]) ?_ 0 _ rfl; (with_reducible repeat (first | apply bN | apply bD | apply bA)); exact BK488.out) Try.underlying47 rfl (by kernel_rfl)) rfl ?_
    exact ⟨by first | rfl | (simp [errW_none, errW_some] <;> rfl) | (simp only [← hji11, ← hji12, ← hji13, ← hji14]; first | rfl | (simp [errW_none, errW_some] <;> rfl)) | (simp [*, errW_none, errW_some] <;> rfl), by repeat (first | (with_reducible first | exact HB.out | apply cA | apply cN | apply cD | refine cS ?_ GE485.out | refine cS ?_ GE486.out | refine cS ?_ GE487.out | refine cS ?_ GE488.out) | exact HB.out)⟩
  rw [if_neg c10] at H
  have c10b0 : (a0 == 26) = false := beq_eq_false_iff_ne.mpr c10
  have c10b1 : (a0 != 26) = true := bne_iff_ne.mpr c10
  (first | rw [c10b0] | (simp only [i64_w, i32_w]; rw [c10b0]) | skip)
  by_cases c25 : a0 = 27
  · rw [if_pos c25] at H
    have c25b0 : (a0 == 27) = true := beq_iff_eq.mpr c25
    have c25b1 : (a0 != 27) = false := bne_eq_false_iff_eq.mpr c25
    clear c25
    replace H := Option.bind_eq_some_iff.mp H
    obtain ⟨t489, A260, H⟩ := H
    replace H : ((span_middle.f a1_1 a2_1 a3_1).bind fun t490 => (some (t489, t490))) = some (r1, r2) := H
    have A26 := Aside0.mk A260
    clear A260
    replace H := Option.bind_eq_some_iff.mp H
    obtain ⟨t490, A270, H⟩ := H
    replace H : (some (t489, t490)) = some (r1, r2) := H
    have A27 := Aside0.mk A270
    clear A270
    simp only [Option.some.injEq, Prod.mk.injEq] at H
    obtain ⟨rfl, rfl⟩ := H
    try go_wp2
    have n0_ := Aside0.mk (bD BK485.out)
    have n1_ := Aside0.mk (bD BK486.out)
    have n2_ := Aside0.mk (bD BK487.out)
    have n3_ := Aside0.mk (bD BK488.out)
    have n4_ := Aside0.mk (cD HB.out)
    clear BK485
    clear BK486
    clear BK487
    clear BK488
    clear HB
    have BK485 := n0_
    have BK486 := n1_
    have BK487 := n2_
    have BK488 := n3_
    have HB := n4_
    clear n0_ n1_ n2_ n3_ n4_
    refine start_ (n := 16) (S := fun w' => w'.cell? ⟨gb485, 0, none⟩ = some (.int .i64 a1_0) ∧ w'.cell? ⟨gb485, 1, none⟩ = some (.int .i64 a1_1) ∧ w'.cell? ⟨gb486, 0, none⟩ = some (.int .i64 a2_0) ∧ w'.cell? ⟨gb486, 1, none⟩ = some (.int .i64 a2_1) ∧ w'.cell? ⟨gb487, 0, none⟩ = some (.int .i64 a3_0) ∧ w'.cell? ⟨gb487, 1, none⟩ = some (.int .i64 a3_1)) (ds := []) #[false, false, false, false, false, false, false, false, false, false, false, false, false, false, false, false] (by kernel_rfl) rfl rfl ⟨(bC BK485.out 0).trans rfl, (bC BK485.out 1).trans rfl, (bC BK486.out 0).trans rfl, (bC BK486.out 1).trans rfl, (bC BK487.out 0).trans rfl, (bC BK487.out 1).trans rfl⟩ (fun hHeld => ?_); refine with_tabW span_three.tab4 span_three.bits4 (fun HT_ HW_ => ?_)
    generalize w9.drew = w28 at BK485 BK486 BK487 BK488 HB hHeld ⊢
    refine pure_ (i := 0) (N := some 32) (v := ?_) (a' := ?_) #[true, false, false, false, false, false, false, false, false, false, false, false, false, false, false, false] rfl rfl (any_of HT_.out (by kernel_rfl)) (fun _ _ _ h => h) (Or.inl ⟨by rfl, ?_⟩) ?_ ?_
    rotate_left
    · intro w'
      go_simp
      with_reducible rfl
    rotate_left
    · simp only [Act.put, List.setIfInBounds_toArray, List.set_cons_zero, List.set_cons_succ, i64_w, i32_w]
      rfl
    refine pure_ (i := 2) (N := some 34) (v := ?_) (a' := ?_) #[true, false, true, false, false, false, false, false, false, false, false, false, false, false, false, false] rfl rfl (any_of HT_.out (by kernel_rfl)) (fun _ _ _ h => h) (Or.inl ⟨by rfl, ?_⟩) ?_ ?_
    rotate_left
    · intro w'
      go_simp
      with_reducible rfl
    rotate_left
    · simp only [Act.put, List.setIfInBounds_toArray, List.set_cons_zero, List.set_cons_succ, i64_w, i32_w]
      rfl
    refine pure_ (i := 4) (N := some 36) (v := ?_) (a' := ?_) #[true, false, true, false, true, false, false, false, false, false, false, false, false, false, false, false] rfl rfl (any_of HT_.out (by kernel_rfl)) (fun _ _ _ h => h) (Or.inl ⟨by rfl, ?_⟩) ?_ ?_
    rotate_left
    · intro w'
      go_simp
      with_reducible rfl
    rotate_left
    · simp only [Act.put, List.setIfInBounds_toArray, List.set_cons_zero, List.set_cons_succ, i64_w, i32_w]
      rfl
    refine pure_ (i := 7) (N := some 39) (v := ?_) (a' := ?_) #[true, false, true, false, true, false, false, true, false, false, false, false, false, false, false, false] rfl rfl (any_of HT_.out (by kernel_rfl)) (fun _ _ _ h => h) (Or.inl ⟨by rfl, ?_⟩) ?_ ?_
    rotate_left
    · intro w'
      go_simp
      with_reducible rfl
    rotate_left
    · simp only [Act.put, List.setIfInBounds_toArray, List.set_cons_zero, List.set_cons_succ, i64_w, i32_w]
      rfl
    refine pure_ (i := 9) (N := some 41) (v := ?_) (a' := ?_) #[true, false, true, false, true, false, false, true, false, true, false, false, false, false, false, false] rfl rfl (any_of HT_.out (by kernel_rfl)) (fun _ _ _ h => h) (Or.inl ⟨by rfl, ?_⟩) ?_ ?_
    rotate_left
    · intro w'
      go_simp
      with_reducible rfl
    rotate_left
    · simp only [Act.put, List.setIfInBounds_toArray, List.set_cons_zero, List.set_cons_succ, i64_w, i32_w]
      rfl
    refine pure_ (i := 11) (N := some 43) (v := ?_) (a' := ?_) #[true, false, true, false, true, false, false, true, false, true, false, true, false, false, false, false] rfl rfl (any_of HT_.out (by kernel_rfl)) (fun _ _ _ h => h) (Or.inl ⟨by rfl, ?_⟩) ?_ ?_
    rotate_left
    · intro w'
      go_simp
      with_reducible rfl
    rotate_left
    · simp only [Act.put, List.setIfInBounds_toArray, List.set_cons_zero, List.set_cons_succ, i64_w, i32_w]
      rfl
    refine take_ (i := 1) (N := some 33) (v := ?_) (a' := ?_) #[true, true, true, false, true, false, false, true, false, true, false, true, false, false, false, false] rfl rfl (take_ofW HT_.out HW_.out (by kernel_rfl)) (fun _ _ _ h => h) (Or.inl ⟨by rfl, ?_⟩) hHeld ?_ ?_
    rotate_left
    · rintro w' ⟨s0, s1, s2, s3, s4, s5⟩
      go_simp
      with_reducible rfl
    rotate_left
    · simp only [Act.put, List.setIfInBounds_toArray, List.set_cons_zero, List.set_cons_succ, i64_w, i32_w]
      rfl
    refine take_ (i := 3) (N := some 35) (v := ?_) (a' := ?_) #[true, true, true, true, true, false, false, true, false, true, false, true, false, false, false, false] rfl rfl (take_ofW HT_.out HW_.out (by kernel_rfl)) (fun _ _ _ h => h) (Or.inl ⟨by rfl, ?_⟩) hHeld ?_ ?_
    rotate_left
    · rintro w' ⟨s0, s1, s2, s3, s4, s5⟩
      go_simp
      with_reducible rfl
    rotate_left
    · simp only [Act.put, List.setIfInBounds_toArray, List.set_cons_zero, List.set_cons_succ, i64_w, i32_w]
      rfl
    refine take_ (i := 5) (N := some 37) (v := ?_) (a' := ?_) #[true, true, true, true, true, true, false, true, false, true, false, true, false, false, false, false] rfl rfl (take_ofW HT_.out HW_.out (by kernel_rfl)) (fun _ _ _ h => h) (Or.inl ⟨by rfl, ?_⟩) hHeld ?_ ?_
    rotate_left
    · rintro w' ⟨s0, s1, s2, s3, s4, s5⟩
      go_simp
      with_reducible rfl
    rotate_left
    · simp only [Act.put, List.setIfInBounds_toArray, List.set_cons_zero, List.set_cons_succ, i64_w, i32_w]
      rfl
    refine take_ (i := 8) (N := some 40) (v := ?_) (a' := ?_) #[true, true, true, true, true, true, false, true, true, true, false, true, false, false, false, false] rfl rfl (take_ofW HT_.out HW_.out (by kernel_rfl)) (fun _ _ _ h => h) (Or.inl ⟨by rfl, ?_⟩) hHeld ?_ ?_
    rotate_left
    · rintro w' ⟨s0, s1, s2, s3, s4, s5⟩
      go_simp
      with_reducible rfl
    rotate_left
    · simp only [Act.put, List.setIfInBounds_toArray, List.set_cons_zero, List.set_cons_succ, i64_w, i32_w]
      rfl
    refine take_ (i := 10) (N := some 42) (v := ?_) (a' := ?_) #[true, true, true, true, true, true, false, true, true, true, true, true, false, false, false, false] rfl rfl (take_ofW HT_.out HW_.out (by kernel_rfl)) (fun _ _ _ h => h) (Or.inl ⟨by rfl, ?_⟩) hHeld ?_ ?_
    rotate_left
    · rintro w' ⟨s0, s1, s2, s3, s4, s5⟩
      go_simp
      with_reducible rfl
    rotate_left
    · simp only [Act.put, List.setIfInBounds_toArray, List.set_cons_zero, List.set_cons_succ, i64_w, i32_w]
      rfl
    refine take_ (i := 12) (N := some 44) (v := ?_) (a' := ?_) #[true, true, true, true, true, true, false, true, true, true, true, true, true, false, false, false] rfl rfl (take_ofW HT_.out HW_.out (by kernel_rfl)) (fun _ _ _ h => h) (Or.inl ⟨by rfl, ?_⟩) hHeld ?_ ?_
    rotate_left
    · rintro w' ⟨s0, s1, s2, s3, s4, s5⟩
      go_simp
      with_reducible rfl
    rotate_left
    · simp only [Act.put, List.setIfInBounds_toArray, List.set_cons_zero, List.set_cons_succ, i64_w, i32_w]
      rfl
    refine one_ (i := 6) (N := some 38) #[true, true, true, true, true, true, true, true, true, true, true, true, true, false, false, false] rfl rfl (one_of HT_.out (by kernel_rfl)) (by decide) (fun K hK => ?_)
    refine goes_ Try.func62 (by kernel_rfl) rfl #[.int .i64 a1_0, .int .i64 a2_0, .int .i64 a3_0] (by rfl) rfl rfl (by (try simp only [List.map_toArray, List.map_cons, List.map_nil]); first | done | rfl | (simp only [List.length_drop, List.length_take]; rfl)) ?_
    with_reducible refine (span_middle.calls a1_0 a2_0 a3_0 t489 _ A26.out).mono ?_
    rintro e w29 ⟨rfl, hb⟩
    refine ⟨_, rfl, ?_⟩
    have n0_ := Aside0.mk (bB (g := gb485) (o := .cells #[.int .i64 a1_0, .int .i64 a1_1] 47 (0, 0)) (by (with_reducible repeat (first | apply bN | apply bD | apply bA)); exact BK485.out) hb)
    have n1_ := Aside0.mk (bB (g := gb486) (o := .cells #[.int .i64 a2_0, .int .i64 a2_1] 47 (0, 0)) (by (with_reducible repeat (first | apply bN | apply bD | apply bA)); exact BK486.out) hb)
    have n2_ := Aside0.mk (bB (g := gb487) (o := .cells #[.int .i64 a3_0, .int .i64 a3_1] 47 (0, 0)) (by (with_reducible repeat (first | apply bN | apply bD | apply bA)); exact BK487.out) hb)
    have n3_ := Aside0.mk (bB (g := gb488) (o := .cells #[.int .i64 0, .int .i64 0] 47 (0, 0)) (by (with_reducible repeat (first | apply bN | apply bD | apply bA)); exact BK488.out) hb)
    have n4_ := Aside0.mk (cT (by repeat (first | (with_reducible first | exact HB.out | apply cA | apply cN | apply cD | refine cS ?_ GE485.out | refine cS ?_ GE486.out | refine cS ?_ GE487.out | refine cS ?_ GE488.out) | exact HB.out)) hb)
    clear BK485
    clear BK486
    clear BK487
    clear BK488
    clear HB
    have BK485 := n0_
    have BK486 := n1_
    have BK487 := n2_
    have BK488 := n3_
    have HB := n4_
    clear n0_ n1_ n2_ n3_ n4_
    (try clear hb)
    (try clear hb2)
    (try clear hk)
    (try clear hi)
    refine hK.out _ _ ⟨(bC BK485.out 0).trans rfl, (bC BK485.out 1).trans rfl, (bC BK486.out 0).trans rfl, (bC BK486.out 1).trans rfl, (bC BK487.out 0).trans rfl, (bC BK487.out 1).trans rfl⟩ (fun hHeld => ?_)
    clear hK K
    refine norm_ (a' := ?_) ?_ ?_
    rotate_left
    · show Act.put _ (some 38) _ = _
      simp only [Act.put, List.setIfInBounds_toArray, List.set_cons_zero, List.set_cons_succ, i64_w, i32_w]
      rfl
    refine one_ (i := 13) (N := some 45) #[true, true, true, true, true, true, true, true, true, true, true, true, true, true, false, false] rfl rfl (one_of HT_.out (by kernel_rfl)) (by decide) (fun K hK => ?_)
    refine goes_ Try.func62 (by kernel_rfl) rfl #[.int .i64 a1_1, .int .i64 a2_1, .int .i64 a3_1] (by rfl) rfl rfl (by (try simp only [List.map_toArray, List.map_cons, List.map_nil]); first | done | rfl | (simp only [List.length_drop, List.length_take]; rfl)) ?_
    with_reducible refine (span_middle.calls a1_1 a2_1 a3_1 t490 _ A27.out).mono ?_
    rintro e w30 ⟨rfl, hb⟩
    refine ⟨_, rfl, ?_⟩
    have n0_ := Aside0.mk (bB (g := gb485) (o := .cells #[.int .i64 a1_0, .int .i64 a1_1] 47 (0, 0)) (by (with_reducible repeat (first | apply bN | apply bD | apply bA)); exact BK485.out) hb)
    have n1_ := Aside0.mk (bB (g := gb486) (o := .cells #[.int .i64 a2_0, .int .i64 a2_1] 47 (0, 0)) (by (with_reducible repeat (first | apply bN | apply bD | apply bA)); exact BK486.out) hb)
    have n2_ := Aside0.mk (bB (g := gb487) (o := .cells #[.int .i64 a3_0, .int .i64 a3_1] 47 (0, 0)) (by (with_reducible repeat (first | apply bN | apply bD | apply bA)); exact BK487.out) hb)
    have n3_ := Aside0.mk (bB (g := gb488) (o := .cells #[.int .i64 0, .int .i64 0] 47 (0, 0)) (by (with_reducible repeat (first | apply bN | apply bD | apply bA)); exact BK488.out) hb)
    have n4_ := Aside0.mk (cT (by repeat (first | (with_reducible first | exact HB.out | apply cA | apply cN | apply cD | refine cS ?_ GE485.out | refine cS ?_ GE486.out | refine cS ?_ GE487.out | refine cS ?_ GE488.out) | exact HB.out)) hb)
    clear BK485
    clear BK486
    clear BK487
    clear BK488
    clear HB
    have BK485 := n0_
    have BK486 := n1_
    have BK487 := n2_
    have BK488 := n3_
    have HB := n4_
    clear n0_ n1_ n2_ n3_ n4_
    (try clear hb)
    (try clear hb2)
    (try clear hk)
    (try clear hi)
    refine hK.out _ _ ⟨(bC BK485.out 0).trans rfl, (bC BK485.out 1).trans rfl, (bC BK486.out 0).trans rfl, (bC BK486.out 1).trans rfl, (bC BK487.out 0).trans rfl, (bC BK487.out 1).trans rfl⟩ (fun hHeld => ?_)
    clear hK K
    refine norm_ (a' := ?_) ?_ ?_
    rotate_left
    · show Act.put _ (some 45) _ = _
      simp only [Act.put, List.setIfInBounds_toArray, List.set_cons_zero, List.set_cons_succ, i64_w, i32_w]
      rfl
    refine pure_ (i := 14) (N := some 46) (v := ?_) (a' := ?_) #[true, true, true, true, true, true, true, true, true, true, true, true, true, true, true, false] rfl rfl (any_of HT_.out (by kernel_rfl)) (fun _ _ _ h => h) (Or.inl ⟨by rfl, ?_⟩) ?_ ?_
    rotate_left
    · intro w'
      go_simp
      with_reducible rfl
    rotate_left
    · simp only [Act.put, List.setIfInBounds_toArray, List.set_cons_zero, List.set_cons_succ, i64_w, i32_w]
      rfl
    refine one_ (i := 15) (N := none) #[true, true, true, true, true, true, true, true, true, true, true, true, true, true, true, true] rfl rfl (one_of HT_.out (by kernel_rfl)) (by decide) (fun K hK => ?_)
    have hs31 : w30.cell? ⟨gb488, 0, none⟩ = some (.int .i64 0) := (bC BK488.out 0).trans rfl
    have hfs31 := bZ BK488.out 0
    have hns31_0 := NB485_488.out
    have hns31_1 := NB486_488.out
    have hns31_2 := NB487_488.out
    have hms31_0 := NB488_485.out
    have hms31_1 := NB488_486.out
    have hms31_2 := NB488_487.out
    have hs32 : w30.cell? ⟨gb488, 1, none⟩ = some (.int .i64 0) := (bC BK488.out 1).trans rfl
    have hfs32 := bZ BK488.out 1
    have hns32_0 := NB485_488.out
    have hns32_1 := NB486_488.out
    have hns32_2 := NB487_488.out
    have hms32_0 := NB488_485.out
    have hms32_1 := NB488_486.out
    have hms32_2 := NB488_487.out
    refine skip_ (w1 := ?_) (by rfl) rfl ?_ ?_
    rotate_left
    · go_simp
      rfl
    refine hK.out _ _ ⟨((cell_far (p := ⟨gb488, _, none⟩) NB485_488.out _).trans (((cell_far (p := ⟨gb488, _, none⟩) NB485_488.out _).trans (hHeld.1)))), ((cell_far (p := ⟨gb488, _, none⟩) NB485_488.out _).trans (((cell_far (p := ⟨gb488, _, none⟩) NB485_488.out _).trans (hHeld.2.1)))), ((cell_far (p := ⟨gb488, _, none⟩) NB486_488.out _).trans (((cell_far (p := ⟨gb488, _, none⟩) NB486_488.out _).trans (hHeld.2.2.1)))), ((cell_far (p := ⟨gb488, _, none⟩) NB486_488.out _).trans (((cell_far (p := ⟨gb488, _, none⟩) NB486_488.out _).trans (hHeld.2.2.2.1)))), ((cell_far (p := ⟨gb488, _, none⟩) NB487_488.out _).trans (((cell_far (p := ⟨gb488, _, none⟩) NB487_488.out _).trans (hHeld.2.2.2.2.1)))), ((cell_far (p := ⟨gb488, _, none⟩) NB487_488.out _).trans (((cell_far (p := ⟨gb488, _, none⟩) NB487_488.out _).trans (hHeld.2.2.2.2.2))))⟩ (fun hHeld => ?_)
    clear hK K
    refine done_ (done_of HT_.out (by kernel_rfl)) ?_
    try go_wp2
    refine bodyPost_ret (results_cell_row rfl _ _ gb488 47 #[.int .i64 t489, .int .i64 t490] (0, 0) _ rfl (by (with_reducible repeat (first | apply bN | apply bD | apply bA)); refine bP (cs := #[.int .i64 t489, .int .i64 0]) ?_ 1 _ rfl; (with_reducible repeat (first | apply bN | apply bD | apply bA)); refine bP (cs := #[.int .i64 0, .int .i64 0]) ?_ 0 _ rfl; (with_reducible repeat (first | apply bN | apply bD | apply bA)); exact BK488.out) Try.underlying47 rfl (by kernel_rfl)) rfl ?_
    exact ⟨by first | rfl | (simp [errW_none, errW_some] <;> rfl) | (simp [*, errW_none, errW_some] <;> rfl), by repeat (first | (with_reducible first | exact HB.out | apply cA | apply cN | apply cD | refine cS ?_ GE485.out | refine cS ?_ GE486.out | refine cS ?_ GE487.out | refine cS ?_ GE488.out) | exact HB.out)⟩
  rw [if_neg c25] at H
  have c25b0 : (a0 == 27) = false := beq_eq_false_iff_ne.mpr c25
  have c25b1 : (a0 != 27) = true := bne_iff_ne.mpr c25
  replace H := Option.bind_eq_some_iff.mp H
  obtain ⟨t491, A330, H⟩ := H
  replace H : (if t491 = true then (if a1_0 = 0 then (if a1_1 = 0 then (some (a3_0, a3_1)) else ((span_Join.f a2_0 a2_1 a3_0 a3_1).bind fun bt492 => (some (bt492.1, bt492.2)))) else ((span_Join.f a2_0 a2_1 a3_0 a3_1).bind fun bt494 => (some (bt494.1, bt494.2)))) else (some (a2_0, a2_1))) = some (r1, r2) := H
  have A33 := Aside0.mk A330
  clear A330
  by_cases c34 : t491 = true
  · subst c34
    have H1 : (if a1_0 = 0 then (if a1_1 = 0 then (some (a3_0, a3_1)) else ((span_Join.f a2_0 a2_1 a3_0 a3_1).bind fun bt492 => (some (bt492.1, bt492.2)))) else ((span_Join.f a2_0 a2_1 a3_0 a3_1).bind fun bt494 => (some (bt494.1, bt494.2)))) = some (r1, r2) := by rw [if_pos rfl] at H; exact H
    clear H
    have H := H1
    clear H1
    by_cases c35 : a1_0 = 0
    · rw [if_pos c35] at H
      have c35b0 : (a1_0 == 0) = true := beq_iff_eq.mpr c35
      have c35b1 : (a1_0 != 0) = false := bne_eq_false_iff_eq.mpr c35
      clear c35
      by_cases c36 : a1_1 = 0
      · rw [if_pos c36] at H
        have c36b0 : (a1_1 == 0) = true := beq_iff_eq.mpr c36
        have c36b1 : (a1_1 != 0) = false := bne_eq_false_iff_eq.mpr c36
        clear c36
        simp only [Option.some.injEq, Prod.mk.injEq] at H
        obtain ⟨rfl, rfl⟩ := H
        have hnb37 := NB485_486.out
        have hnc37 := NB486_485.out
        have hnb38 := NB485_487.out
        have hnc38 := NB487_485.out
        have hnb39 := NB485_488.out
        have hnc39 := NB488_485.out
        have hcz40_0 : w9.cell? ⟨gb485, 0, none⟩ = some (.int .i64 a1_0) := (bC BK485.out 0).trans rfl
        have hcz40_1 : w9.cell? ⟨gb485, 1, none⟩ = some (.int .i64 a1_1) := (bC BK485.out 1).trans rfl
        have hfz40_0 := bZ BK485.out 0
        have hfz40_1 := bZ BK485.out 1
        go_wp2_with (first | ((with_reducible refine gate_callee (f := 32) rfl ?_); refine goesL_ (some 49) rfl rfl Try.func32 (by kernel_rfl) rfl #[.agg #[.int .i64 a1_0, .int .i64 a1_1], .int .i64 0] rfl (by (try simp only [List.map_toArray, List.map_cons, List.map_nil]); first | done | rfl | (simp only [List.length_drop, List.length_take]; rfl)) ?_; (with_reducible refine (span_Has.calls a1_0 a1_1 0 true _ A33.out).mono ?_); rintro e w41 ⟨rfl, hb⟩; refine ⟨_, rfl, ?_⟩; have n0_ := Aside0.mk (bB (g := gb485) (o := .cells #[.int .i64 a1_0, .int .i64 a1_1] 47 (0, 0)) (by (with_reducible repeat (first | apply bN | apply bD | apply bA)); exact BK485.out) hb); have n1_ := Aside0.mk (bB (g := gb486) (o := .cells #[.int .i64 a2_0, .int .i64 a2_1] 47 (0, 0)) (by (with_reducible repeat (first | apply bN | apply bD | apply bA)); exact BK486.out) hb); have n2_ := Aside0.mk (bB (g := gb487) (o := .cells #[.int .i64 a3_0, .int .i64 a3_1] 47 (0, 0)) (by (with_reducible repeat (first | apply bN | apply bD | apply bA)); exact BK487.out) hb); have n3_ := Aside0.mk (bB (g := gb488) (o := .cells #[.int .i64 0, .int .i64 0] 47 (0, 0)) (by (with_reducible repeat (first | apply bN | apply bD | apply bA)); exact BK488.out) hb); have n4_ := Aside0.mk (cT (by repeat (first | (with_reducible first | exact HB.out | apply cA | apply cN | apply cD | refine cS ?_ GE485.out | refine cS ?_ GE486.out | refine cS ?_ GE487.out | refine cS ?_ GE488.out) | exact HB.out)) hb); clear BK485; clear BK486; clear BK487; clear BK488; clear HB; have BK485 := n0_; have BK486 := n1_; have BK487 := n2_; have BK488 := n3_; have HB := n4_; clear n0_ n1_ n2_ n3_ n4_; (try clear hb); (try clear hb2); (try clear hk); (try clear hi); have hcz42_0 : w41.cell? ⟨gb485, 0, none⟩ = some (.int .i64 a1_0) := (bC BK485.out 0).trans rfl; have hcz42_1 : w41.cell? ⟨gb485, 1, none⟩ = some (.int .i64 a1_1) := (bC BK485.out 1).trans rfl; have hfz42_0 := bZ BK485.out 0; have hfz42_1 := bZ BK485.out 1; have hnb43 := NB487_486.out; have hnc43 := NB486_487.out; have hnb44 := NB487_488.out; have hnc44 := NB488_487.out; have hcz45_0 : w41.cell? ⟨gb487, 0, none⟩ = some (.int .i64 a3_0) := (bC BK487.out 0).trans rfl; have hcz45_1 : w41.cell? ⟨gb487, 1, none⟩ = some (.int .i64 a3_1) := (bC BK487.out 1).trans rfl; have hfz45_0 := bZ BK487.out 0; have hfz45_1 := bZ BK487.out 1; have hnb46 := NB488_486.out; have hnc46 := NB486_488.out; have hcz47_0 : w41.cell? ⟨gb488, 0, none⟩ = some (.int .i64 0) := (bC BK488.out 0).trans rfl; have hcz47_1 : w41.cell? ⟨gb488, 1, none⟩ = some (.int .i64 0) := (bC BK488.out 1).trans rfl; have hfz47_0 := bZ BK488.out 0; have hfz47_1 := bZ BK488.out 1))
        refine bodyPost_ret (results_cell_row rfl _ _ gb488 47 #[.int .i64 a3_0, .int .i64 a3_1] (0, 0) _ rfl (by (with_reducible repeat (first | apply bN | apply bD | apply bA)); refine bP (cs := #[.int .i64 a3_0, .int .i64 0]) ?_ 1 _ rfl; (with_reducible repeat (first | apply bN | apply bD | apply bA)); refine bP (cs := #[.int .i64 0, .int .i64 0]) ?_ 0 _ rfl; (with_reducible repeat (first | apply bN | apply bD | apply bA)); exact BK488.out) Try.underlying47 rfl (by kernel_rfl)) rfl ?_
        exact ⟨by first | rfl | (simp [errW_none, errW_some] <;> rfl) | (simp [*, errW_none, errW_some] <;> rfl), by repeat (first | (with_reducible first | exact HB.out | apply cA | apply cN | apply cD | refine cS ?_ GE485.out | refine cS ?_ GE486.out | refine cS ?_ GE487.out | refine cS ?_ GE488.out) | exact HB.out)⟩
      rw [if_neg c36] at H
      have c36b0 : (a1_1 == 0) = false := beq_eq_false_iff_ne.mpr c36
      have c36b1 : (a1_1 != 0) = true := bne_iff_ne.mpr c36
      replace H := Option.bind_eq_some_iff.mp H
      obtain ⟨⟨t492, t493⟩, A480, H⟩ := H
      replace H : (some (t492, t493)) = some (r1, r2) := H
      have A48 := Aside0.mk A480
      clear A480
      simp only [Option.some.injEq, Prod.mk.injEq] at H
      obtain ⟨rfl, rfl⟩ := H
      have hnb49 := NB485_486.out
      have hnc49 := NB486_485.out
      have hnb50 := NB485_487.out
      have hnc50 := NB487_485.out
      have hnb51 := NB485_488.out
      have hnc51 := NB488_485.out
      have hcz52_0 : w9.cell? ⟨gb485, 0, none⟩ = some (.int .i64 a1_0) := (bC BK485.out 0).trans rfl
      have hcz52_1 : w9.cell? ⟨gb485, 1, none⟩ = some (.int .i64 a1_1) := (bC BK485.out 1).trans rfl
      have hfz52_0 := bZ BK485.out 0
      have hfz52_1 := bZ BK485.out 1
      go_wp2_with (first | ((with_reducible refine gate_callee (f := 32) rfl ?_); refine goesL_ (some 49) rfl rfl Try.func32 (by kernel_rfl) rfl #[.agg #[.int .i64 a1_0, .int .i64 a1_1], .int .i64 0] rfl (by (try simp only [List.map_toArray, List.map_cons, List.map_nil]); first | done | rfl | (simp only [List.length_drop, List.length_take]; rfl)) ?_; (with_reducible refine (span_Has.calls a1_0 a1_1 0 true _ A33.out).mono ?_); rintro e w53 ⟨rfl, hb⟩; refine ⟨_, rfl, ?_⟩; have n0_ := Aside0.mk (bB (g := gb485) (o := .cells #[.int .i64 a1_0, .int .i64 a1_1] 47 (0, 0)) (by (with_reducible repeat (first | apply bN | apply bD | apply bA)); exact BK485.out) hb); have n1_ := Aside0.mk (bB (g := gb486) (o := .cells #[.int .i64 a2_0, .int .i64 a2_1] 47 (0, 0)) (by (with_reducible repeat (first | apply bN | apply bD | apply bA)); exact BK486.out) hb); have n2_ := Aside0.mk (bB (g := gb487) (o := .cells #[.int .i64 a3_0, .int .i64 a3_1] 47 (0, 0)) (by (with_reducible repeat (first | apply bN | apply bD | apply bA)); exact BK487.out) hb); have n3_ := Aside0.mk (bB (g := gb488) (o := .cells #[.int .i64 0, .int .i64 0] 47 (0, 0)) (by (with_reducible repeat (first | apply bN | apply bD | apply bA)); exact BK488.out) hb); have n4_ := Aside0.mk (cT (by repeat (first | (with_reducible first | exact HB.out | apply cA | apply cN | apply cD | refine cS ?_ GE485.out | refine cS ?_ GE486.out | refine cS ?_ GE487.out | refine cS ?_ GE488.out) | exact HB.out)) hb); clear BK485; clear BK486; clear BK487; clear BK488; clear HB; have BK485 := n0_; have BK486 := n1_; have BK487 := n2_; have BK488 := n3_; have HB := n4_; clear n0_ n1_ n2_ n3_ n4_; (try clear hb); (try clear hb2); (try clear hk); (try clear hi); have hcz54_0 : w53.cell? ⟨gb485, 0, none⟩ = some (.int .i64 a1_0) := (bC BK485.out 0).trans rfl; have hcz54_1 : w53.cell? ⟨gb485, 1, none⟩ = some (.int .i64 a1_1) := (bC BK485.out 1).trans rfl; have hfz54_0 := bZ BK485.out 0; have hfz54_1 := bZ BK485.out 1; have hnb55 := NB486_487.out; have hnc55 := NB487_486.out; have hnb56 := NB486_488.out; have hnc56 := NB488_486.out; have hcz57_0 : w53.cell? ⟨gb486, 0, none⟩ = some (.int .i64 a2_0) := (bC BK486.out 0).trans rfl; have hcz57_1 : w53.cell? ⟨gb486, 1, none⟩ = some (.int .i64 a2_1) := (bC BK486.out 1).trans rfl; have hfz57_0 := bZ BK486.out 0; have hfz57_1 := bZ BK486.out 1; have hnb58 := NB487_488.out; have hnc58 := NB488_487.out; have hcz59_0 : w53.cell? ⟨gb487, 0, none⟩ = some (.int .i64 a3_0) := (bC BK487.out 0).trans rfl; have hcz59_1 : w53.cell? ⟨gb487, 1, none⟩ = some (.int .i64 a3_1) := (bC BK487.out 1).trans rfl; have hfz59_0 := bZ BK487.out 0; have hfz59_1 := bZ BK487.out 1) | ((with_reducible refine gate_callee (f := 29) rfl ?_); refine goesL_ (some 64) rfl rfl Try.func29 (by kernel_rfl) rfl #[.agg #[.int .i64 a2_0, .int .i64 a2_1], .agg #[.int .i64 a3_0, .int .i64 a3_1]] rfl (by (try simp only [List.map_toArray, List.map_cons, List.map_nil]); first | done | rfl | (simp only [List.length_drop, List.length_take]; rfl)) ?_; (with_reducible refine (span_Join.calls a2_0 a2_1 a3_0 a3_1 t492 t493 _ A48.out).mono ?_); rintro e w60 ⟨rfl, hb⟩; refine ⟨_, rfl, ?_⟩; have n0_ := Aside0.mk (bB (g := gb485) (o := .cells #[.int .i64 a1_0, .int .i64 a1_1] 47 (0, 0)) (by (with_reducible repeat (first | apply bN | apply bD | apply bA)); exact BK485.out) hb); have n1_ := Aside0.mk (bB (g := gb486) (o := .cells #[.int .i64 a2_0, .int .i64 a2_1] 47 (0, 0)) (by (with_reducible repeat (first | apply bN | apply bD | apply bA)); exact BK486.out) hb); have n2_ := Aside0.mk (bB (g := gb487) (o := .cells #[.int .i64 a3_0, .int .i64 a3_1] 47 (0, 0)) (by (with_reducible repeat (first | apply bN | apply bD | apply bA)); exact BK487.out) hb); have n3_ := Aside0.mk (bB (g := gb488) (o := .cells #[.int .i64 0, .int .i64 0] 47 (0, 0)) (by (with_reducible repeat (first | apply bN | apply bD | apply bA)); exact BK488.out) hb); have n4_ := Aside0.mk (cT (by repeat (first | (with_reducible first | exact HB.out | apply cA | apply cN | apply cD | refine cS ?_ GE485.out | refine cS ?_ GE486.out | refine cS ?_ GE487.out | refine cS ?_ GE488.out) | exact HB.out)) hb); clear BK485; clear BK486; clear BK487; clear BK488; clear HB; have BK485 := n0_; have BK486 := n1_; have BK487 := n2_; have BK488 := n3_; have HB := n4_; clear n0_ n1_ n2_ n3_ n4_; (try clear hb); (try clear hb2); (try clear hk); (try clear hi); have hcz61_0 : w60.cell? ⟨gb488, 0, none⟩ = some (.int .i64 0) := (bC BK488.out 0).trans rfl; have hcz61_1 : w60.cell? ⟨gb488, 1, none⟩ = some (.int .i64 0) := (bC BK488.out 1).trans rfl; have hfz61_0 := bZ BK488.out 0; have hfz61_1 := bZ BK488.out 1))
      refine bodyPost_ret (results_cell_row rfl _ _ gb488 47 #[.int .i64 t492, .int .i64 t493] (0, 0) _ rfl (by (with_reducible repeat (first | apply bN | apply bD | apply bA)); refine bP (cs := #[.int .i64 t492, .int .i64 0]) ?_ 1 _ rfl; (with_reducible repeat (first | apply bN | apply bD | apply bA)); refine bP (cs := #[.int .i64 0, .int .i64 0]) ?_ 0 _ rfl; (with_reducible repeat (first | apply bN | apply bD | apply bA)); exact BK488.out) Try.underlying47 rfl (by kernel_rfl)) rfl ?_
      exact ⟨by first | rfl | (simp [errW_none, errW_some] <;> rfl) | (simp [*, errW_none, errW_some] <;> rfl), by repeat (first | (with_reducible first | exact HB.out | apply cA | apply cN | apply cD | refine cS ?_ GE485.out | refine cS ?_ GE486.out | refine cS ?_ GE487.out | refine cS ?_ GE488.out) | exact HB.out)⟩
    rw [if_neg c35] at H
    have c35b0 : (a1_0 == 0) = false := beq_eq_false_iff_ne.mpr c35
    have c35b1 : (a1_0 != 0) = true := bne_iff_ne.mpr c35
    replace H := Option.bind_eq_some_iff.mp H
    obtain ⟨⟨t494, t495⟩, A620, H⟩ := H
    replace H : (some (t494, t495)) = some (r1, r2) := H
    have A62 := Aside0.mk A620
    clear A620
    simp only [Option.some.injEq, Prod.mk.injEq] at H
    obtain ⟨rfl, rfl⟩ := H
    have hnb63 := NB485_486.out
    have hnc63 := NB486_485.out
    have hnb64 := NB485_487.out
    have hnc64 := NB487_485.out
    have hnb65 := NB485_488.out
    have hnc65 := NB488_485.out
    have hcz66_0 : w9.cell? ⟨gb485, 0, none⟩ = some (.int .i64 a1_0) := (bC BK485.out 0).trans rfl
    have hcz66_1 : w9.cell? ⟨gb485, 1, none⟩ = some (.int .i64 a1_1) := (bC BK485.out 1).trans rfl
    have hfz66_0 := bZ BK485.out 0
    have hfz66_1 := bZ BK485.out 1
    go_wp2_with (first | ((with_reducible refine gate_callee (f := 32) rfl ?_); refine goesL_ (some 49) rfl rfl Try.func32 (by kernel_rfl) rfl #[.agg #[.int .i64 a1_0, .int .i64 a1_1], .int .i64 0] rfl (by (try simp only [List.map_toArray, List.map_cons, List.map_nil]); first | done | rfl | (simp only [List.length_drop, List.length_take]; rfl)) ?_; (with_reducible refine (span_Has.calls a1_0 a1_1 0 true _ A33.out).mono ?_); rintro e w67 ⟨rfl, hb⟩; refine ⟨_, rfl, ?_⟩; have n0_ := Aside0.mk (bB (g := gb485) (o := .cells #[.int .i64 a1_0, .int .i64 a1_1] 47 (0, 0)) (by (with_reducible repeat (first | apply bN | apply bD | apply bA)); exact BK485.out) hb); have n1_ := Aside0.mk (bB (g := gb486) (o := .cells #[.int .i64 a2_0, .int .i64 a2_1] 47 (0, 0)) (by (with_reducible repeat (first | apply bN | apply bD | apply bA)); exact BK486.out) hb); have n2_ := Aside0.mk (bB (g := gb487) (o := .cells #[.int .i64 a3_0, .int .i64 a3_1] 47 (0, 0)) (by (with_reducible repeat (first | apply bN | apply bD | apply bA)); exact BK487.out) hb); have n3_ := Aside0.mk (bB (g := gb488) (o := .cells #[.int .i64 0, .int .i64 0] 47 (0, 0)) (by (with_reducible repeat (first | apply bN | apply bD | apply bA)); exact BK488.out) hb); have n4_ := Aside0.mk (cT (by repeat (first | (with_reducible first | exact HB.out | apply cA | apply cN | apply cD | refine cS ?_ GE485.out | refine cS ?_ GE486.out | refine cS ?_ GE487.out | refine cS ?_ GE488.out) | exact HB.out)) hb); clear BK485; clear BK486; clear BK487; clear BK488; clear HB; have BK485 := n0_; have BK486 := n1_; have BK487 := n2_; have BK488 := n3_; have HB := n4_; clear n0_ n1_ n2_ n3_ n4_; (try clear hb); (try clear hb2); (try clear hk); (try clear hi); have hcz68_0 : w67.cell? ⟨gb485, 0, none⟩ = some (.int .i64 a1_0) := (bC BK485.out 0).trans rfl; have hcz68_1 : w67.cell? ⟨gb485, 1, none⟩ = some (.int .i64 a1_1) := (bC BK485.out 1).trans rfl; have hfz68_0 := bZ BK485.out 0; have hfz68_1 := bZ BK485.out 1; have hnb69 := NB486_487.out; have hnc69 := NB487_486.out; have hnb70 := NB486_488.out; have hnc70 := NB488_486.out; have hcz71_0 : w67.cell? ⟨gb486, 0, none⟩ = some (.int .i64 a2_0) := (bC BK486.out 0).trans rfl; have hcz71_1 : w67.cell? ⟨gb486, 1, none⟩ = some (.int .i64 a2_1) := (bC BK486.out 1).trans rfl; have hfz71_0 := bZ BK486.out 0; have hfz71_1 := bZ BK486.out 1; have hnb72 := NB487_488.out; have hnc72 := NB488_487.out; have hcz73_0 : w67.cell? ⟨gb487, 0, none⟩ = some (.int .i64 a3_0) := (bC BK487.out 0).trans rfl; have hcz73_1 : w67.cell? ⟨gb487, 1, none⟩ = some (.int .i64 a3_1) := (bC BK487.out 1).trans rfl; have hfz73_0 := bZ BK487.out 0; have hfz73_1 := bZ BK487.out 1) | ((with_reducible refine gate_callee (f := 29) rfl ?_); refine goesL_ (some 64) rfl rfl Try.func29 (by kernel_rfl) rfl #[.agg #[.int .i64 a2_0, .int .i64 a2_1], .agg #[.int .i64 a3_0, .int .i64 a3_1]] rfl (by (try simp only [List.map_toArray, List.map_cons, List.map_nil]); first | done | rfl | (simp only [List.length_drop, List.length_take]; rfl)) ?_; (with_reducible refine (span_Join.calls a2_0 a2_1 a3_0 a3_1 t494 t495 _ A62.out).mono ?_); rintro e w74 ⟨rfl, hb⟩; refine ⟨_, rfl, ?_⟩; have n0_ := Aside0.mk (bB (g := gb485) (o := .cells #[.int .i64 a1_0, .int .i64 a1_1] 47 (0, 0)) (by (with_reducible repeat (first | apply bN | apply bD | apply bA)); exact BK485.out) hb); have n1_ := Aside0.mk (bB (g := gb486) (o := .cells #[.int .i64 a2_0, .int .i64 a2_1] 47 (0, 0)) (by (with_reducible repeat (first | apply bN | apply bD | apply bA)); exact BK486.out) hb); have n2_ := Aside0.mk (bB (g := gb487) (o := .cells #[.int .i64 a3_0, .int .i64 a3_1] 47 (0, 0)) (by (with_reducible repeat (first | apply bN | apply bD | apply bA)); exact BK487.out) hb); have n3_ := Aside0.mk (bB (g := gb488) (o := .cells #[.int .i64 0, .int .i64 0] 47 (0, 0)) (by (with_reducible repeat (first | apply bN | apply bD | apply bA)); exact BK488.out) hb); have n4_ := Aside0.mk (cT (by repeat (first | (with_reducible first | exact HB.out | apply cA | apply cN | apply cD | refine cS ?_ GE485.out | refine cS ?_ GE486.out | refine cS ?_ GE487.out | refine cS ?_ GE488.out) | exact HB.out)) hb); clear BK485; clear BK486; clear BK487; clear BK488; clear HB; have BK485 := n0_; have BK486 := n1_; have BK487 := n2_; have BK488 := n3_; have HB := n4_; clear n0_ n1_ n2_ n3_ n4_; (try clear hb); (try clear hb2); (try clear hk); (try clear hi); have hcz75_0 : w74.cell? ⟨gb488, 0, none⟩ = some (.int .i64 0) := (bC BK488.out 0).trans rfl; have hcz75_1 : w74.cell? ⟨gb488, 1, none⟩ = some (.int .i64 0) := (bC BK488.out 1).trans rfl; have hfz75_0 := bZ BK488.out 0; have hfz75_1 := bZ BK488.out 1))
    refine bodyPost_ret (results_cell_row rfl _ _ gb488 47 #[.int .i64 t494, .int .i64 t495] (0, 0) _ rfl (by (with_reducible repeat (first | apply bN | apply bD | apply bA)); refine bP (cs := #[.int .i64 t494, .int .i64 0]) ?_ 1 _ rfl; (with_reducible repeat (first | apply bN | apply bD | apply bA)); refine bP (cs := #[.int .i64 0, .int .i64 0]) ?_ 0 _ rfl; (with_reducible repeat (first | apply bN | apply bD | apply bA)); exact BK488.out) Try.underlying47 rfl (by kernel_rfl)) rfl ?_
    exact ⟨by first | rfl | (simp [errW_none, errW_some] <;> rfl) | (simp [*, errW_none, errW_some] <;> rfl), by repeat (first | (with_reducible first | exact HB.out | apply cA | apply cN | apply cD | refine cS ?_ GE485.out | refine cS ?_ GE486.out | refine cS ?_ GE487.out | refine cS ?_ GE488.out) | exact HB.out)⟩
  replace c34 := Bool.eq_false_iff.mpr c34
  subst c34
  have H1 : (some (a2_0, a2_1)) = some (r1, r2) := by rw [if_neg (show ¬ (false = true) by decide)] at H; exact H
  clear H
  have H := H1
  clear H1
  simp only [Option.some.injEq, Prod.mk.injEq] at H
  obtain ⟨rfl, rfl⟩ := H
  have hnb76 := NB485_486.out
  have hnc76 := NB486_485.out
  have hnb77 := NB485_487.out
  have hnc77 := NB487_485.out
  have hnb78 := NB485_488.out
  have hnc78 := NB488_485.out
  have hcz79_0 : w9.cell? ⟨gb485, 0, none⟩ = some (.int .i64 a1_0) := (bC BK485.out 0).trans rfl
  have hcz79_1 : w9.cell? ⟨gb485, 1, none⟩ = some (.int .i64 a1_1) := (bC BK485.out 1).trans rfl
  have hfz79_0 := bZ BK485.out 0
  have hfz79_1 := bZ BK485.out 1
  go_wp2_with (first | ((with_reducible refine gate_callee (f := 32) rfl ?_); refine goesL_ (some 49) rfl rfl Try.func32 (by kernel_rfl) rfl #[.agg #[.int .i64 a1_0, .int .i64 a1_1], .int .i64 0] rfl (by (try simp only [List.map_toArray, List.map_cons, List.map_nil]); first | done | rfl | (simp only [List.length_drop, List.length_take]; rfl)) ?_; (with_reducible refine (span_Has.calls a1_0 a1_1 0 false _ A33.out).mono ?_); rintro e w80 ⟨rfl, hb⟩; refine ⟨_, rfl, ?_⟩; have n0_ := Aside0.mk (bB (g := gb485) (o := .cells #[.int .i64 a1_0, .int .i64 a1_1] 47 (0, 0)) (by (with_reducible repeat (first | apply bN | apply bD | apply bA)); exact BK485.out) hb); have n1_ := Aside0.mk (bB (g := gb486) (o := .cells #[.int .i64 a2_0, .int .i64 a2_1] 47 (0, 0)) (by (with_reducible repeat (first | apply bN | apply bD | apply bA)); exact BK486.out) hb); have n2_ := Aside0.mk (bB (g := gb487) (o := .cells #[.int .i64 a3_0, .int .i64 a3_1] 47 (0, 0)) (by (with_reducible repeat (first | apply bN | apply bD | apply bA)); exact BK487.out) hb); have n3_ := Aside0.mk (bB (g := gb488) (o := .cells #[.int .i64 0, .int .i64 0] 47 (0, 0)) (by (with_reducible repeat (first | apply bN | apply bD | apply bA)); exact BK488.out) hb); have n4_ := Aside0.mk (cT (by repeat (first | (with_reducible first | exact HB.out | apply cA | apply cN | apply cD | refine cS ?_ GE485.out | refine cS ?_ GE486.out | refine cS ?_ GE487.out | refine cS ?_ GE488.out) | exact HB.out)) hb); clear BK485; clear BK486; clear BK487; clear BK488; clear HB; have BK485 := n0_; have BK486 := n1_; have BK487 := n2_; have BK488 := n3_; have HB := n4_; clear n0_ n1_ n2_ n3_ n4_; (try clear hb); (try clear hb2); (try clear hk); (try clear hi); have hnb81 := NB486_487.out; have hnc81 := NB487_486.out; have hnb82 := NB486_488.out; have hnc82 := NB488_486.out; have hcz83_0 : w80.cell? ⟨gb486, 0, none⟩ = some (.int .i64 a2_0) := (bC BK486.out 0).trans rfl; have hcz83_1 : w80.cell? ⟨gb486, 1, none⟩ = some (.int .i64 a2_1) := (bC BK486.out 1).trans rfl; have hfz83_0 := bZ BK486.out 0; have hfz83_1 := bZ BK486.out 1; have hnb84 := NB488_487.out; have hnc84 := NB487_488.out; have hcz85_0 : w80.cell? ⟨gb488, 0, none⟩ = some (.int .i64 0) := (bC BK488.out 0).trans rfl; have hcz85_1 : w80.cell? ⟨gb488, 1, none⟩ = some (.int .i64 0) := (bC BK488.out 1).trans rfl; have hfz85_0 := bZ BK488.out 0; have hfz85_1 := bZ BK488.out 1))
  refine bodyPost_ret (results_cell_row rfl _ _ gb488 47 #[.int .i64 a2_0, .int .i64 a2_1] (0, 0) _ rfl (by (with_reducible repeat (first | apply bN | apply bD | apply bA)); refine bP (cs := #[.int .i64 a2_0, .int .i64 0]) ?_ 1 _ rfl; (with_reducible repeat (first | apply bN | apply bD | apply bA)); refine bP (cs := #[.int .i64 0, .int .i64 0]) ?_ 0 _ rfl; (with_reducible repeat (first | apply bN | apply bD | apply bA)); exact BK488.out) Try.underlying47 rfl (by kernel_rfl)) rfl ?_
  exact ⟨by first | rfl | (simp [errW_none, errW_some] <;> rfl) | (simp [*, errW_none, errW_some] <;> rfl), by repeat (first | (with_reducible first | exact HB.out | apply cA | apply cN | apply cD | refine cS ?_ GE485.out | refine cS ?_ GE486.out | refine cS ?_ GE487.out | refine cS ?_ GE488.out) | exact HB.out)⟩

end Go.Proofs.Ytpnldhimlpilhaa.F
