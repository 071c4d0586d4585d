/- Written by wip/myprint.py of this session, out of Lean's print of the program: what Go functions come to, and that their calls come to it; no condition. -/
import Derived.Test.YtggfgbhodkfllaaF0
import Derived.Test.YtggfgbhodkfllaaFkind1
import Derived.Test.YtggfgbhodkfllaaFsignal1
namespace Go.Proofs.Ytggfgbhodkfllaa.F
open Go.RowKit Go.Proofs.YtggfgbhodkfllaaW.PrintWords Go.Proofs.YtggfgbhodkfllaaW.PrintLast Go.Proofs.YtggfgbhodkfllaaW.PrintMore Go.Proofs.YtggfgbhodkfllaaW
attribute [local go_sem] max2_int min2_int max_two min_two max_three min_three max_four min_four   -- for this text's walks alone
set_option linter.unusedVariables false
set_option linter.unusedSimpArgs false

/-! ### signal_New: function 47 -/
def signal_New.l0 : Nat → Int → Int → Int → Int → Int → Int → Int → Int → Int → List Int → Option (Int × Int × Int × Int × Int × List Int × Int)
  | 0, _, _, _, _, _, _, _, _, _, _ => none
  | k + 1, x35, x36, x125000, x125001, x132000, x132001, x132002, x132003, x132004, x132005 => if x36 < x35 then ((kind_Border.f x125000 x125001).bind fun t132 => (if 0 ≤ x36 then (if x36 < (x132005.length : Int) then (signal_New.l0 k x35 (wrap64 (x36 + 1)) x125000 x125001 x132000 x132001 x132002 x132003 x132004 (x132005.set (x36 : Int).toNat t132)) else (none)) else (none))) else (some (x132000, x132001, x132002, x132003, x132004, x132005, 0))
def signal_New.f (k : Nat) (a0_0 : Int) (a0_1 : Int) (a1 : Int) (a2 : Int) (a3 : Int) : Option (Int × Int × Int × Int × Int × List Int × Int) := (signal_Shape.f k a0_0 a0_1 a1 a2 a3).bind fun bt126 => (if bt126.2 = 0 then (if 0 ≤ bt126.1 then (if (bt126.1 : Int).toNat ≤ 35184372088832 then ((some (List.replicate (bt126.1 : Int).toNat 0 : List Int)).bind fun y128 => (signal_New.l0 k (y128.length : Int) 0 a0_0 a0_1 a0_0 a0_1 a1 a2 a3 y128)) else (none)) else (none)) else (some (0, 0, 0, 0, 0, ([] : List Int), bt126.2)))
theorem signal_New.mono_l : ∀ k, (∀ y0 y1 y2 y3 y4 y5 y6 y7 y8 y9, LeO (signal_New.l0 k y0 y1 y2 y3 y4 y5 y6 y7 y8 y9) (signal_New.l0 (k + 1) y0 y1 y2 y3 y4 y5 y6 y7 y8 y9))
  | 0 => fun _ _ _ _ _ _ _ _ _ _ r h => by simp [signal_New.l0] at h
  | k + 1 => by
    have ih0 := signal_New.mono_l k
    · intro y0 y1 y2 y3 y4 y5 y6 y7 y8 y9
      unfold signal_New.l0
      repeat' first
      | (with_reducible exact ih0 _ _ _ _ _ _ _ _ _ _)
      | (with_reducible exact signal_Shape.mono _ _ _ _ _ _)
      | (with_reducible exact LeO.refl _)
      | (with_reducible exact LeO.none _)
      | (with_reducible refine LeO.ite ?_ ?_)
      | (with_reducible refine LeO.bind ?_ (fun _ => ?_))
      | exact ih0 _ _ _ _ _ _ _ _ _ _
      | exact signal_Shape.mono _ _ _ _ _ _
      | exact LeO.none _
      | refine LeO.ite ?_ ?_
      | refine LeO.bind ?_ (fun _ => ?_)
theorem signal_New.mono : ∀ a0 a1 a2 a3 a4 k, LeO (signal_New.f k a0 a1 a2 a3 a4) (signal_New.f (k + 1) a0 a1 a2 a3 a4) := by
  intro a0 a1 a2 a3 a4 k
  have ih0 := signal_New.mono_l k
  unfold signal_New.f
  repeat' first
      | (with_reducible exact ih0 _ _ _ _ _ _ _ _ _ _)
      | (with_reducible exact signal_Shape.mono _ _ _ _ _ _)
      | (with_reducible exact LeO.refl _)
      | (with_reducible exact LeO.none _)
      | (with_reducible refine LeO.ite ?_ ?_)
      | (with_reducible refine LeO.bind ?_ (fun _ => ?_))
      | exact ih0 _ _ _ _ _ _ _ _ _ _
      | exact signal_Shape.mono _ _ _ _ _ _
      | exact LeO.none _
      | refine LeO.ite ?_ ?_
      | refine LeO.bind ?_ (fun _ => ?_)
def signal_New.T4 : Bool × List (List Nat × List Nat) := (true, [([], []), ([], []), ([], []), ([], []), ([], []), ([4, 4], [4]), ([0, 1, 2, 3, 5], [0, 1, 2, 3, 5]), ([], []), ([7, 6, 0, 1, 2, 3, 4, 5, 6, 7], [6, 7])])
def signal_New.B4 : List Nat := [0, 0, 0, 0, 0, 16, 63, 0, 255]
theorem signal_New.tab4 : rtab .any (opsOf Try.f47 4) = signal_New.T4 := by kernel_rfl
theorem signal_New.bits4 : waitsOk signal_New.T4.2 signal_New.B4 = true := by kernel_rfl
set_option maxHeartbeats 8000000 in
set_option maxRecDepth 100000 in
theorem signal_New.calls (k : Nat) (a0_0 : Int) (a0_1 : Int) (a1 : Int) (a2 : Int) (a3 : Int) (r1 : Int) (r2 : Int) (r3 : Int) (r4 : Int) (r5 : Int) (r6 : List Int) (r7 : Int) (w : World) (h : signal_New.f k a0_0 a0_1 a1 a2 a3 = some (r1, r2, r3, r4, r5, r6, r7)) :
    Calls Try.prog 47 #[.agg #[.int .i64 a0_0, .int .i64 a0_1], .int .i64 a1, .int .i64 a2, .int .i64 a3] w fun e w' => ∃ v5_ : Value, e = .returned (.tuple #[.agg #[.int .i64 r1, .int .i64 r2, .int .i64 r3, .int .i64 r4, .int .i64 r5, v5_], .int .i64 r7]) ∧ Kd.R (Kd.int .i64) 3 w' w.heap.size (fun _ => True) v5_ r6 ∧ Below w.heap.size w w' := by
  have hu23 := Try.underlying23
  have hu26 := Try.underlying26
  have HB := Aside0.mk (Below.refl w.heap.size w)
  have H : ((signal_Shape.f k a0_0 a0_1 a1 a2 a3).bind fun bt126 => (if bt126.2 = 0 then (if 0 ≤ bt126.1 then (if (bt126.1 : Int).toNat ≤ 35184372088832 then ((some (List.replicate (bt126.1 : Int).toNat 0 : List Int)).bind fun y128 => (signal_New.l0 k (y128.length : Int) 0 a0_0 a0_1 a0_0 a0_1 a1 a2 a3 y128)) else (none)) else (none)) else (some (0, 0, 0, 0, 0, ([] : List Int), bt126.2)))) = some (r1, r2, r3, r4, r5, r6, r7) := h
  clear h
  replace H := Option.bind_eq_some_iff.mp H
  obtain ⟨⟨t126, t127⟩, A50, H⟩ := H
  replace H : (if t127 = 0 then (if 0 ≤ t126 then (if (t126 : Int).toNat ≤ 35184372088832 then ((some (List.replicate (t126 : Int).toNat 0 : List Int)).bind fun y128 => (signal_New.l0 k (y128.length : Int) 0 a0_0 a0_1 a0_0 a0_1 a1 a2 a3 y128)) else (none)) else (none)) else (some (0, 0, 0, 0, 0, ([] : List Int), t127))) = some (r1, r2, r3, r4, r5, r6, r7) := H
  have A5 := Aside0.mk A50
  clear A50
  by_cases c6 : t127 = 0
  · rw [if_pos c6] at H
    have c6b0 : (t127 == 0) = true := beq_iff_eq.mpr c6
    have c6b1 : (t127 != 0) = false := bne_eq_false_iff_eq.mpr c6
    clear c6
    by_cases c7 : 0 ≤ t126
    · rw [if_pos c7] at H
      have c7b0 := eq_true c7
      have c7b1 : decide (0 ≤ t126) = true := decide_eq_true c7
      clear c7
      by_cases c8 : (t126 : Int).toNat ≤ 35184372088832
      · rw [if_pos c8] at H
        have c8b0 := eq_true c8
        have c8b1 : decide ((t126 : Int).toNat ≤ 35184372088832) = true := decide_eq_true c8
        clear c8
        obtain ⟨y128, hy128⟩ : ∃ y_ : List Int, y_ = (List.replicate (t126 : Int).toNat 0) := ⟨_, rfl⟩
        replace H : (signal_New.l0 k (y128.length : Int) 0 a0_0 a0_1 a0_0 a0_1 a1 a2 a3 y128) = some (r1, r2, r3, r4, r5, r6, r7) := by first | (rw [hy128]; with_reducible exact H) | (have H2_ := (Option.bind_some _ _).symm.trans H; rw [hy128]; with_reducible exact H2_) | (have H2_ := (Option.bind_some _ _).symm.trans H; with_reducible exact H2_) | with_reducible exact H | (rw [hy128]; exact H) | exact H
        have Ny128 := Aside0.mk hy128
        clear hy128
        have H' := Aside0.mk H
        clear H
        go_enter Try.func47, Try.ntmps47
        try go_wp2_with (first | ((with_reducible refine gate_dst (N := 4) rfl ?_); refine box_event ?hg (N := 4) ?hd (cs := #[.int .i64 a0_0, .int .i64 a0_1]) (t := 23) ?hr ?_; (case hd => rfl); (case hg => rfl); (case hr => first | (go_simp; done) | (go_simp; rfl)); intro gb124 hg w9 hbox hb; have n0_ := Aside0.mk (below_step (by repeat (first | (with_reducible first | exact HB.out | apply below_alloc | apply pw_below_drewN | apply below_drew1) | exact HB.out)) hb); have n1_ := Aside0.mk (hbox); have n2_ := Aside0.mk ((by rw [hg]; exact (below_size (by repeat (first | (with_reducible first | exact HB.out | apply below_alloc | apply pw_below_drewN | apply below_drew1) | exact HB.out))) : w.heap.size ≤ gb124)); have n3_ := Aside0.mk ((by rw [hg]; exact (below_size (by repeat (first | (with_reducible first | exact HB.out | apply below_alloc | apply pw_below_drewN | apply below_drew1) | exact HB.out))) : w.heap.size ≤ gb124)); clear HB; have HB := n0_; have BK124 := n1_; have GW124 := n2_; have GE124 := n3_; clear n0_ n1_ n2_ n3_; clear hb hbox hg) | ((with_reducible refine gate_dst (N := 8) rfl ?_); refine box_event ?hg (N := 8) ?hd (cs := #[.int .i64 0, .int .i64 0, .int .i64 0, .int .i64 0, .int .i64 0, .slice none 0 0]) (t := 26) ?hr ?_; (case hd => rfl); (case hg => rfl); (case hr => first | (go_simp; done) | (go_simp; rfl)); intro gb125 hg w10 hbox hb; have n0_ := Aside0.mk (blk_below (g := gb124) (o := .cells #[.int .i64 a0_0, .int .i64 a0_1] 23 (0, 0)) (by (with_reducible repeat (first | refine blk_drewN ?_ _ | refine blk_drew ?_ | refine blk_alloc ?_ _)); exact BK124.out) hb); have n1_ := Aside0.mk (below_step (by repeat (first | (with_reducible first | exact HB.out | apply below_alloc | apply pw_below_drewN | apply below_drew1 | refine below_set ?_ GE124.out) | exact HB.out)) hb); have n2_ := Aside0.mk (hbox); have n3_ := Aside0.mk ((by rw [hg]; exact (below_size (by repeat (first | (with_reducible first | exact HB.out | apply below_alloc | apply pw_below_drewN | apply below_drew1 | refine below_set ?_ GE124.out) | exact HB.out))) : w.heap.size ≤ gb125)); have n4_ := Aside0.mk ((by rw [hg]; exact (below_size (by repeat (first | (with_reducible first | exact HB.out | apply below_alloc | apply pw_below_drewN | apply below_drew1 | refine below_set ?_ GE124.out) | exact HB.out))) : w.heap.size ≤ gb125)); have n5_ := Aside0.mk ((by rw [hg]; exact Nat.ne_of_lt (blk_lt (g := gb124) (o := .cells #[.int .i64 a0_0, .int .i64 a0_1] 23 (0, 0)) (by (with_reducible repeat (first | refine blk_drewN ?_ _ | refine blk_drew ?_ | refine blk_alloc ?_ _)); exact BK124.out)) : gb124 ≠ gb125)); have n6_ := Aside0.mk ((by rw [hg]; exact Nat.ne_of_gt (blk_lt (g := gb124) (o := .cells #[.int .i64 a0_0, .int .i64 a0_1] 23 (0, 0)) (by (with_reducible repeat (first | refine blk_drewN ?_ _ | refine blk_drew ?_ | refine blk_alloc ?_ _)); exact BK124.out)) : gb125 ≠ gb124)); clear BK124; clear HB; have BK124 := n0_; have HB := n1_; have BK125 := n2_; have GW125 := n3_; have GE125 := n4_; have NB124_125 := n5_; have NB125_124 := n6_; clear n0_ n1_ n2_ n3_ n4_ n5_ n6_; clear hb hbox hg; have hnb11 := NB124_125.out; have hnc11 := NB125_124.out; have hcz12_0 : w10.cell? ⟨gb124, 0, none⟩ = some (.int .i64 a0_0) := (blk_cell BK124.out 0).trans rfl; have hcz12_1 : w10.cell? ⟨gb124, 1, none⟩ = some (.int .i64 a0_1) := (blk_cell BK124.out 1).trans rfl; have hfz12_0 := blk_frozen BK124.out 0; have hfz12_1 := blk_frozen BK124.out 1) | ((with_reducible refine gate_callee (f := 22) rfl ?_); refine goesL_ (some 19) rfl rfl Try.func22 (by kernel_rfl) rfl #[.agg #[.int .i64 a0_0, .int .i64 a0_1], .int .i64 a1, .int .i64 a2, .int .i64 a3] rfl (by (try simp only [List.map_toArray, List.map_cons, List.map_nil]); first | done | rfl | (simp only [List.length_drop, List.length_take]; rfl)) ?_; (with_reducible refine (signal_Shape.calls k a0_0 a0_1 a1 a2 a3 t126 t127 _ A5.out).mono ?_); rintro e w13 ⟨rfl, hb⟩; refine ⟨_, rfl, ?_⟩; have n0_ := Aside0.mk (blk_below (g := gb124) (o := .cells #[.int .i64 a0_0, .int .i64 a0_1] 23 (0, 0)) (by (with_reducible repeat (first | refine blk_drewN ?_ _ | refine blk_drew ?_ | refine blk_alloc ?_ _)); exact BK124.out) hb); have n1_ := Aside0.mk (blk_below (g := gb125) (o := .cells #[.int .i64 0, .int .i64 0, .int .i64 0, .int .i64 0, .int .i64 0, .slice none 0 0] 26 (0, 0)) (by (with_reducible repeat (first | refine blk_drewN ?_ _ | refine blk_drew ?_ | refine blk_alloc ?_ _)); exact BK125.out) hb); have n2_ := Aside0.mk (below_step (by repeat (first | (with_reducible first | exact HB.out | apply below_alloc | apply pw_below_drewN | apply below_drew1 | refine below_set ?_ GE124.out | refine below_set ?_ GE125.out) | exact HB.out)) hb); clear BK124; clear BK125; clear HB; have BK124 := n0_; have BK125 := n1_; have HB := n2_; clear n0_ n1_ n2_; (try clear hb); (try clear hb2); (try clear hk); (try clear hi)))
        have n0_ := Aside0.mk (blk_drew BK124.out)
        have n1_ := Aside0.mk (blk_drew BK125.out)
        have n2_ := Aside0.mk (below_drew1 HB.out)
        clear BK124
        clear BK125
        clear HB
        have BK124 := n0_
        have BK125 := n1_
        have HB := n2_
        clear n0_ n1_ n2_
        refine start_ (n := 9) (S := fun w' => w'.cell? ⟨gb124, 0, none⟩ = some (.int .i64 a0_0) ∧ w'.cell? ⟨gb124, 1, none⟩ = some (.int .i64 a0_1)) (ds := []) #[false, false, false, false, false, false, false, false, false] (by kernel_rfl) rfl rfl ⟨(blk_cell BK124.out 0).trans rfl, (blk_cell BK124.out 1).trans rfl⟩ (fun hHeld => ?_); refine with_tabW signal_New.tab4 signal_New.bits4 (fun HT_ HW_ => ?_)
        generalize w13.drew = w14 at BK124 BK125 HB hHeld ⊢
        refine pure_ (i := 1) (N := some 27) (v := ?_) (a' := ?_) #[false, true, false, false, false, false, false, false, false] rfl rfl (any_of HT_.out (by kernel_rfl)) (fun _ _ _ h => h) (Or.inl ⟨by rfl, ?_⟩) ?_ ?_
        rotate_left
        · intro w'
          go_simp
          with_reducible rfl
        rotate_left
        · simp only [Act.put, List.setIfInBounds_toArray, List.set_cons_zero, List.set_cons_succ, i64_w, i32_w]
          rfl
        refine pure_ (i := 2) (N := some 28) (v := ?_) (a' := ?_) #[false, true, true, false, false, false, false, false, false] rfl rfl (any_of HT_.out (by kernel_rfl)) (fun _ _ _ h => h) (Or.inl ⟨by rfl, ?_⟩) ?_ ?_
        rotate_left
        · intro w'
          go_simp
          with_reducible rfl
        rotate_left
        · simp only [Act.put, List.setIfInBounds_toArray, List.set_cons_zero, List.set_cons_succ, i64_w, i32_w]
          rfl
        refine pure_ (i := 3) (N := some 29) (v := ?_) (a' := ?_) #[false, true, true, true, false, false, false, false, false] rfl rfl (any_of HT_.out (by kernel_rfl)) (fun _ _ _ h => h) (Or.inl ⟨by rfl, ?_⟩) ?_ ?_
        rotate_left
        · intro w'
          go_simp
          with_reducible rfl
        rotate_left
        · simp only [Act.put, List.setIfInBounds_toArray, List.set_cons_zero, List.set_cons_succ, i64_w, i32_w]
          rfl
        refine pure_ (i := 4) (N := some 30) (v := ?_) (a' := ?_) #[false, true, true, true, true, false, false, false, false] rfl rfl (any_of HT_.out (by kernel_rfl)) (fun _ _ _ h => h) (Or.inl ⟨by rfl, ?_⟩) ?_ ?_
        rotate_left
        · intro w'
          go_simp
          with_reducible rfl
        rotate_left
        · simp only [Act.put, List.setIfInBounds_toArray, List.set_cons_zero, List.set_cons_succ, i64_w, i32_w]
          rfl
        refine take_ (i := 0) (N := some 26) (v := ?_) (a' := ?_) #[true, true, true, true, true, false, false, false, false] rfl rfl (take_ofW HT_.out HW_.out (by kernel_rfl)) (fun _ _ _ h => h) (Or.inl ⟨by rfl, ?_⟩) hHeld ?_ ?_
        rotate_left
        · rintro w' ⟨s0, s1⟩
          go_simp
          with_reducible rfl
        rotate_left
        · simp only [Act.put, List.setIfInBounds_toArray, List.set_cons_zero, List.set_cons_succ, i64_w, i32_w]
          rfl
        refine join_ (σ := Value × Nat) 1 #[true, true, true, true, true, true, true, true, false] (fun s_ => [(31, s_.1), (12, .pointer (some ⟨s_.2, 0, none⟩)), (32, .agg #[.int .i64 a0_0, .int .i64 a0_1, .int .i64 a1, .int .i64 a2, .int .i64 a3, s_.1])]) (fun s_ w' => (w'.cell? ⟨gb124, 0, none⟩ = some (.int .i64 a0_0) ∧ w'.cell? ⟨gb124, 1, none⟩ = some (.int .i64 a0_1)) ∧ (Kd.R (Kd.int .i64) 3 w' w.heap.size (fun _ => True) s_.1 y128) ∧ (w'.heap[gb124]? = some (.cells #[.int .i64 a0_0, .int .i64 a0_1] 23 (0, 0))) ∧ (w'.heap[gb125]? = some (.cells #[.int .i64 0, .int .i64 0, .int .i64 0, .int .i64 0, .int .i64 0, .slice none 0 0] 26 (0, 0))) ∧ (w'.heap[s_.2]? = some (.cells #[.int .i64 0, .int .i64 0, .int .i64 0, .int .i64 0, .int .i64 0, .slice none 0 0] 26 (0, 0))) ∧ (w.heap.size ≤ s_.2) ∧ (w.heap.size ≤ s_.2) ∧ (gb124 ≠ s_.2) ∧ (s_.2 ≠ gb124) ∧ (gb125 ≠ s_.2) ∧ (s_.2 ≠ gb125) ∧ (Below w.heap.size w w')) ?_ ?_
        rotate_left
        · intro hCont
          refine two_ (i := 5) (j := 7) (Ni := some 31) (Nj := some 12) #[true, true, true, true, true, true, false, false, false] #[true, true, true, true, true, false, false, true, false] rfl rfl rfl rfl (two_of HT_.out (by kernel_rfl)) (by decide) (by decide) (fun K hK => ?_) (fun K hK => ?_)
          · skip
            refine Kd.R_make_step (Kd.int .i64) _ 3 (by rfl) (N := 31) rfl 24 _ _ rfl t126 rfl rfl Try.underlying24 (.int .i64 0) 8 info3 rfl (by decide) (by omega) 0 (ok := fun _ => True) (okp := fun _ => True) rfl (fun _ hk => hk) trivial (of_decide_eq_true (by first | (with_reducible assumption) | assumption)) (Nat.le_trans (Nat.mul_le_mul_right _ (of_decide_eq_true (by first | (with_reducible assumption) | assumption) : t126.toNat ≤ 35184372088832)) (by omega)) (Below.refl _ _) (Nat.le_refl _) ?_
            intro v129 w15 ho16 hb hg_ hnew_
            clear hg_ hnew_
            (first | rw [← Ny128.out] at ho16 | (simp only [Int.reduceToNat] at ho16; rw [← Ny128.out] at ho16))
            have n0_ := Aside0.mk (Kd.R_lower ho16 (below_size (by repeat (first | (with_reducible first | exact HB.out | apply below_alloc | apply pw_below_drewN | apply below_drew1 | refine below_set ?_ GE124.out | refine below_set ?_ GE125.out) | exact HB.out))))
            have n1_ := Aside0.mk (blk_below (g := gb124) (o := .cells #[.int .i64 a0_0, .int .i64 a0_1] 23 (0, 0)) (by (with_reducible repeat (first | refine blk_drewN ?_ _ | refine blk_drew ?_ | refine blk_alloc ?_ _)); exact BK124.out) hb)
            have n2_ := Aside0.mk (blk_below (g := gb125) (o := .cells #[.int .i64 0, .int .i64 0, .int .i64 0, .int .i64 0, .int .i64 0, .slice none 0 0] 26 (0, 0)) (by (with_reducible repeat (first | refine blk_drewN ?_ _ | refine blk_drew ?_ | refine blk_alloc ?_ _)); exact BK125.out) hb)
            have n3_ := Aside0.mk (below_step (by repeat (first | (with_reducible first | exact HB.out | apply below_alloc | apply pw_below_drewN | apply below_drew1 | refine below_set ?_ GE124.out | refine below_set ?_ GE125.out) | exact HB.out)) hb)
            clear BK124
            clear BK125
            clear HB
            have HO130 := n0_
            have BK124 := n1_
            have BK125 := n2_
            have HB := n3_
            clear n0_ n1_ n2_ n3_
            clear hb ho16
            obtain ⟨Ao17, co17, eo17⟩ := Kd.R_slice HO130.out
            (first | subst eo17 | (injection eo17 with f1_ f2_ f3_; have f4_ := f1_.symm; have f5_ := f3_.symm; clear f1_ f2_ f3_; subst f4_; subst f5_))
            refine hK.out _ _ ⟨(blk_cell BK124.out 0).trans rfl, (blk_cell BK124.out 1).trans rfl⟩ (fun hHeld => ?_)
            clear hK K
            refine norm_ (a' := ?_) ?_ ?_
            rotate_left
            · show Act.put _ (some 31) _ = _
              simp only [Act.put, List.setIfInBounds_toArray, List.set_cons_zero, List.set_cons_succ, i64_w, i32_w]
              rfl
            refine pure_ (i := 6) (N := some 32) (v := ?_) (a' := ?_) #[true, true, true, true, true, true, true, false, false] rfl rfl (any_of HT_.out (by kernel_rfl)) (fun _ _ _ h => h) (Or.inl ⟨by rfl, ?_⟩) ?_ ?_
            rotate_left
            · intro w'
              go_simp
              with_reducible rfl
            rotate_left
            · simp only [Act.put, List.setIfInBounds_toArray, List.set_cons_zero, List.set_cons_succ, i64_w, i32_w]
              rfl
            refine one_ (i := 7) (N := some 12) #[true, true, true, true, true, true, true, true, false] rfl rfl (one_of HT_.out (by kernel_rfl)) (by decide) (fun K hK => ?_)
            refine box_step ?hg (N := 12) ?hd (cs := #[.int .i64 0, .int .i64 0, .int .i64 0, .int .i64 0, .int .i64 0, .slice none 0 0]) (t := 26) ?hr ?_; (case hd => rfl); (case hg => rfl); (case hr => first | (go_simp; done) | (go_simp; rfl))
            intro gb131 hg w18 hbox hb
            have n0_ := Aside0.mk (Kd.R_below (by (with_reducible repeat (first | apply Kd.R_alloc | apply Kd.R_drewN | apply Kd.R_drew)); exact HO130.out) hb)
            have n1_ := Aside0.mk (blk_below (g := gb124) (o := .cells #[.int .i64 a0_0, .int .i64 a0_1] 23 (0, 0)) (by (with_reducible repeat (first | refine blk_drewN ?_ _ | refine blk_drew ?_ | refine blk_alloc ?_ _)); exact BK124.out) hb)
            have n2_ := Aside0.mk (blk_below (g := gb125) (o := .cells #[.int .i64 0, .int .i64 0, .int .i64 0, .int .i64 0, .int .i64 0, .slice none 0 0] 26 (0, 0)) (by (with_reducible repeat (first | refine blk_drewN ?_ _ | refine blk_drew ?_ | refine blk_alloc ?_ _)); exact BK125.out) hb)
            have n3_ := Aside0.mk (below_step (by repeat (first | (with_reducible first | exact HB.out | apply below_alloc | apply pw_below_drewN | apply below_drew1 | refine below_set ?_ GE124.out | refine below_set ?_ GE125.out) | exact HB.out)) hb)
            have n4_ := Aside0.mk (hbox)
            have n5_ := Aside0.mk ((by rw [hg]; exact (below_size (by repeat (first | (with_reducible first | exact HB.out | apply below_alloc | apply pw_below_drewN | apply below_drew1 | refine below_set ?_ GE124.out | refine below_set ?_ GE125.out) | exact HB.out))) : w.heap.size ≤ gb131))
            have n6_ := Aside0.mk ((by rw [hg]; exact (below_size (by repeat (first | (with_reducible first | exact HB.out | apply below_alloc | apply pw_below_drewN | apply below_drew1 | refine below_set ?_ GE124.out | refine below_set ?_ GE125.out) | exact HB.out))) : w.heap.size ≤ gb131))
            have n7_ := Aside0.mk ((by rw [hg]; exact Nat.ne_of_lt (blk_lt (g := gb124) (o := .cells #[.int .i64 a0_0, .int .i64 a0_1] 23 (0, 0)) (by (with_reducible repeat (first | refine blk_drewN ?_ _ | refine blk_drew ?_ | refine blk_alloc ?_ _)); exact BK124.out)) : gb124 ≠ gb131))
            have n8_ := Aside0.mk ((by rw [hg]; exact Nat.ne_of_gt (blk_lt (g := gb124) (o := .cells #[.int .i64 a0_0, .int .i64 a0_1] 23 (0, 0)) (by (with_reducible repeat (first | refine blk_drewN ?_ _ | refine blk_drew ?_ | refine blk_alloc ?_ _)); exact BK124.out)) : gb131 ≠ gb124))
            have n9_ := Aside0.mk ((by rw [hg]; exact Nat.ne_of_lt (blk_lt (g := gb125) (o := .cells #[.int .i64 0, .int .i64 0, .int .i64 0, .int .i64 0, .int .i64 0, .slice none 0 0] 26 (0, 0)) (by (with_reducible repeat (first | refine blk_drewN ?_ _ | refine blk_drew ?_ | refine blk_alloc ?_ _)); exact BK125.out)) : gb125 ≠ gb131))
            have n10_ := Aside0.mk ((by rw [hg]; exact Nat.ne_of_gt (blk_lt (g := gb125) (o := .cells #[.int .i64 0, .int .i64 0, .int .i64 0, .int .i64 0, .int .i64 0, .slice none 0 0] 26 (0, 0)) (by (with_reducible repeat (first | refine blk_drewN ?_ _ | refine blk_drew ?_ | refine blk_alloc ?_ _)); exact BK125.out)) : gb131 ≠ gb125))
            clear HO130
            clear BK124
            clear BK125
            clear HB
            have HO130 := n0_
            have BK124 := n1_
            have BK125 := n2_
            have HB := n3_
            have BK131 := n4_
            have GW131 := n5_
            have GE131 := n6_
            have NB124_131 := n7_
            have NB131_124 := n8_
            have NB125_131 := n9_
            have NB131_125 := n10_
            clear n0_ n1_ n2_ n3_ n4_ n5_ n6_ n7_ n8_ n9_ n10_
            clear hb hbox hg
            refine hK.out _ _ ⟨(blk_cell BK124.out 0).trans rfl, (blk_cell BK124.out 1).trans rfl⟩ (fun hHeld => ?_)
            clear hK K
            refine norm_ (a' := ?_) ?_ ?_
            rotate_left
            · show Act.put _ (some 12) _ = _
              simp only [Act.put, List.setIfInBounds_toArray, List.set_cons_zero, List.set_cons_succ, i64_w, i32_w]
              rfl
            exact norm_ (by simp only [putAll, Act.put, List.setIfInBounds_toArray, List.set_cons_zero, List.set_cons_succ]) (hCont (.slice Ao17 y128.length co17, gb131) _ ⟨hHeld, (by (with_reducible repeat (first | apply Kd.R_alloc | apply Kd.R_drewN | apply Kd.R_drew)); exact HO130.out), (by (with_reducible repeat (first | refine blk_drewN ?_ _ | refine blk_drew ?_ | refine blk_alloc ?_ _)); exact BK124.out), (by (with_reducible repeat (first | refine blk_drewN ?_ _ | refine blk_drew ?_ | refine blk_alloc ?_ _)); exact BK125.out), (by (with_reducible repeat (first | refine blk_drewN ?_ _ | refine blk_drew ?_ | refine blk_alloc ?_ _)); exact BK131.out), GW131.out, GE131.out, NB124_131.out, NB131_124.out, NB125_131.out, NB131_125.out, (by repeat (first | (with_reducible first | exact HB.out | apply below_alloc | apply pw_below_drewN | apply below_drew1 | refine below_set ?_ GE124.out | refine below_set ?_ GE125.out | refine below_set ?_ GE131.out) | exact HB.out))⟩)
          · skip
            refine box_step ?hg (N := 12) ?hd (cs := #[.int .i64 0, .int .i64 0, .int .i64 0, .int .i64 0, .int .i64 0, .slice none 0 0]) (t := 26) ?hr ?_; (case hd => rfl); (case hg => rfl); (case hr => first | (go_simp; done) | (go_simp; rfl))
            intro gb131 hg w15 hbox hb
            have n0_ := Aside0.mk (blk_below (g := gb124) (o := .cells #[.int .i64 a0_0, .int .i64 a0_1] 23 (0, 0)) (by (with_reducible repeat (first | refine blk_drewN ?_ _ | refine blk_drew ?_ | refine blk_alloc ?_ _)); exact BK124.out) hb)
            have n1_ := Aside0.mk (blk_below (g := gb125) (o := .cells #[.int .i64 0, .int .i64 0, .int .i64 0, .int .i64 0, .int .i64 0, .slice none 0 0] 26 (0, 0)) (by (with_reducible repeat (first | refine blk_drewN ?_ _ | refine blk_drew ?_ | refine blk_alloc ?_ _)); exact BK125.out) hb)
            have n2_ := Aside0.mk (below_step (by repeat (first | (with_reducible first | exact HB.out | apply below_alloc | apply pw_below_drewN | apply below_drew1 | refine below_set ?_ GE124.out | refine below_set ?_ GE125.out) | exact HB.out)) hb)
            have n3_ := Aside0.mk (hbox)
            have n4_ := Aside0.mk ((by rw [hg]; exact (below_size (by repeat (first | (with_reducible first | exact HB.out | apply below_alloc | apply pw_below_drewN | apply below_drew1 | refine below_set ?_ GE124.out | refine below_set ?_ GE125.out) | exact HB.out))) : w.heap.size ≤ gb131))
            have n5_ := Aside0.mk ((by rw [hg]; exact (below_size (by repeat (first | (with_reducible first | exact HB.out | apply below_alloc | apply pw_below_drewN | apply below_drew1 | refine below_set ?_ GE124.out | refine below_set ?_ GE125.out) | exact HB.out))) : w.heap.size ≤ gb131))
            have n6_ := Aside0.mk ((by rw [hg]; exact Nat.ne_of_lt (blk_lt (g := gb124) (o := .cells #[.int .i64 a0_0, .int .i64 a0_1] 23 (0, 0)) (by (with_reducible repeat (first | refine blk_drewN ?_ _ | refine blk_drew ?_ | refine blk_alloc ?_ _)); exact BK124.out)) : gb124 ≠ gb131))
            have n7_ := Aside0.mk ((by rw [hg]; exact Nat.ne_of_gt (blk_lt (g := gb124) (o := .cells #[.int .i64 a0_0, .int .i64 a0_1] 23 (0, 0)) (by (with_reducible repeat (first | refine blk_drewN ?_ _ | refine blk_drew ?_ | refine blk_alloc ?_ _)); exact BK124.out)) : gb131 ≠ gb124))
            have n8_ := Aside0.mk ((by rw [hg]; exact Nat.ne_of_lt (blk_lt (g := gb125) (o := .cells #[.int .i64 0, .int .i64 0, .int .i64 0, .int .i64 0, .int .i64 0, .slice none 0 0] 26 (0, 0)) (by (with_reducible repeat (first | refine blk_drewN ?_ _ | refine blk_drew ?_ | refine blk_alloc ?_ _)); exact BK125.out)) : gb125 ≠ gb131))
            have n9_ := Aside0.mk ((by rw [hg]; exact Nat.ne_of_gt (blk_lt (g := gb125) (o := .cells #[.int .i64 0, .int .i64 0, .int .i64 0, .int .i64 0, .int .i64 0, .slice none 0 0] 26 (0, 0)) (by (with_reducible repeat (first | refine blk_drewN ?_ _ | refine blk_drew ?_ | refine blk_alloc ?_ _)); exact BK125.out)) : gb131 ≠ gb125))
            clear BK124
            clear BK125
            clear HB
            have BK124 := n0_
            have BK125 := n1_
            have HB := n2_
            have BK131 := n3_
            have GW131 := n4_
            have GE131 := n5_
            have NB124_131 := n6_
            have NB131_124 := n7_
            have NB125_131 := n8_
            have NB131_125 := n9_
            clear n0_ n1_ n2_ n3_ n4_ n5_ n6_ n7_ n8_ n9_
            clear hb hbox hg
            refine hK.out _ _ ⟨(blk_cell BK124.out 0).trans rfl, (blk_cell BK124.out 1).trans rfl⟩ (fun hHeld => ?_)
            clear hK K
            refine norm_ (a' := ?_) ?_ ?_
            rotate_left
            · show Act.put _ (some 12) _ = _
              simp only [Act.put, List.setIfInBounds_toArray, List.set_cons_zero, List.set_cons_succ, i64_w, i32_w]
              rfl
            refine one_ (i := 5) (N := some 31) #[true, true, true, true, true, true, false, true, false] rfl rfl (one_of HT_.out (by kernel_rfl)) (by decide) (fun K hK => ?_)
            refine Kd.R_make_step (Kd.int .i64) _ 3 (by rfl) (N := 31) rfl 24 _ _ rfl t126 rfl rfl Try.underlying24 (.int .i64 0) 8 info3 rfl (by decide) (by omega) 0 (ok := fun _ => True) (okp := fun _ => True) rfl (fun _ hk => hk) trivial (of_decide_eq_true (by first | (with_reducible assumption) | assumption)) (Nat.le_trans (Nat.mul_le_mul_right _ (of_decide_eq_true (by first | (with_reducible assumption) | assumption) : t126.toNat ≤ 35184372088832)) (by omega)) (Below.refl _ _) (Nat.le_refl _) ?_
            intro v129 w16 ho17 hb hg_ hnew_
            clear hg_ hnew_
            (first | rw [← Ny128.out] at ho17 | (simp only [Int.reduceToNat] at ho17; rw [← Ny128.out] at ho17))
            have n0_ := Aside0.mk (Kd.R_lower ho17 (below_size (by repeat (first | (with_reducible first | exact HB.out | apply below_alloc | apply pw_below_drewN | apply below_drew1 | refine below_set ?_ GE124.out | refine below_set ?_ GE125.out | refine below_set ?_ GE131.out) | exact HB.out))))
            have n1_ := Aside0.mk (blk_below (g := gb124) (o := .cells #[.int .i64 a0_0, .int .i64 a0_1] 23 (0, 0)) (by (with_reducible repeat (first | refine blk_drewN ?_ _ | refine blk_drew ?_ | refine blk_alloc ?_ _)); exact BK124.out) hb)
            have n2_ := Aside0.mk (blk_below (g := gb125) (o := .cells #[.int .i64 0, .int .i64 0, .int .i64 0, .int .i64 0, .int .i64 0, .slice none 0 0] 26 (0, 0)) (by (with_reducible repeat (first | refine blk_drewN ?_ _ | refine blk_drew ?_ | refine blk_alloc ?_ _)); exact BK125.out) hb)
            have n3_ := Aside0.mk (blk_below (g := gb131) (o := .cells #[.int .i64 0, .int .i64 0, .int .i64 0, .int .i64 0, .int .i64 0, .slice none 0 0] 26 (0, 0)) (by (with_reducible repeat (first | refine blk_drewN ?_ _ | refine blk_drew ?_ | refine blk_alloc ?_ _)); exact BK131.out) hb)
            have n4_ := Aside0.mk (below_step (by repeat (first | (with_reducible first | exact HB.out | apply below_alloc | apply pw_below_drewN | apply below_drew1 | refine below_set ?_ GE124.out | refine below_set ?_ GE125.out | refine below_set ?_ GE131.out) | exact HB.out)) hb)
            clear BK124
            clear BK125
            clear BK131
            clear HB
            have HO130 := n0_
            have BK124 := n1_
            have BK125 := n2_
            have BK131 := n3_
            have HB := n4_
            clear n0_ n1_ n2_ n3_ n4_
            clear hb ho17
            obtain ⟨Ao18, co18, eo18⟩ := Kd.R_slice HO130.out
            (first | subst eo18 | (injection eo18 with f1_ f2_ f3_; have f4_ := f1_.symm; have f5_ := f3_.symm; clear f1_ f2_ f3_; subst f4_; subst f5_))
            refine hK.out _ _ ⟨(blk_cell BK124.out 0).trans rfl, (blk_cell BK124.out 1).trans rfl⟩ (fun hHeld => ?_)
            clear hK K
            refine norm_ (a' := ?_) ?_ ?_
            rotate_left
            · show Act.put _ (some 31) _ = _
              simp only [Act.put, List.setIfInBounds_toArray, List.set_cons_zero, List.set_cons_succ, i64_w, i32_w]
              rfl
            refine pure_ (i := 6) (N := some 32) (v := ?_) (a' := ?_) #[true, true, true, true, true, true, true, true, false] rfl rfl (any_of HT_.out (by kernel_rfl)) (fun _ _ _ h => h) (Or.inl ⟨by rfl, ?_⟩) ?_ ?_
            rotate_left
            · intro w'
              go_simp
              with_reducible rfl
            rotate_left
            · simp only [Act.put, List.setIfInBounds_toArray, List.set_cons_zero, List.set_cons_succ, i64_w, i32_w]
              rfl
            exact norm_ (by simp only [putAll, Act.put, List.setIfInBounds_toArray, List.set_cons_zero, List.set_cons_succ]) (hCont (.slice Ao18 y128.length co18, gb131) _ ⟨hHeld, (by (with_reducible repeat (first | apply Kd.R_alloc | apply Kd.R_drewN | apply Kd.R_drew)); exact HO130.out), (by (with_reducible repeat (first | refine blk_drewN ?_ _ | refine blk_drew ?_ | refine blk_alloc ?_ _)); exact BK124.out), (by (with_reducible repeat (first | refine blk_drewN ?_ _ | refine blk_drew ?_ | refine blk_alloc ?_ _)); exact BK125.out), (by (with_reducible repeat (first | refine blk_drewN ?_ _ | refine blk_drew ?_ | refine blk_alloc ?_ _)); exact BK131.out), GW131.out, GE131.out, NB124_131.out, NB131_124.out, NB125_131.out, NB131_125.out, (by repeat (first | (with_reducible first | exact HB.out | apply below_alloc | apply pw_below_drewN | apply below_drew1 | refine below_set ?_ GE124.out | refine below_set ?_ GE125.out | refine below_set ?_ GE131.out) | exact HB.out))⟩)
        rintro ⟨v129, gb131⟩ w19 ⟨hS_, h0_, h1_, h2_, h3_, h4_, h5_, h6_, h7_, h8_, h9_, h10_⟩
        have n0_ : Aside0 (Kd.R (Kd.int .i64) 3 w19 w.heap.size (fun _ => True) v129 y128) := ⟨h0_⟩
        have n1_ : Aside0 (w19.heap[gb124]? = some (.cells #[.int .i64 a0_0, .int .i64 a0_1] 23 (0, 0))) := ⟨h1_⟩
        have n2_ : Aside0 (w19.heap[gb125]? = some (.cells #[.int .i64 0, .int .i64 0, .int .i64 0, .int .i64 0, .int .i64 0, .slice none 0 0] 26 (0, 0))) := ⟨h2_⟩
        have n3_ : Aside0 (w19.heap[gb131]? = some (.cells #[.int .i64 0, .int .i64 0, .int .i64 0, .int .i64 0, .int .i64 0, .slice none 0 0] 26 (0, 0))) := ⟨h3_⟩
        have n4_ : Aside0 (w.heap.size ≤ gb131) := ⟨h4_⟩
        have n5_ : Aside0 (w.heap.size ≤ gb131) := ⟨h5_⟩
        have n6_ : Aside0 (gb124 ≠ gb131) := ⟨h6_⟩
        have n7_ : Aside0 (gb131 ≠ gb124) := ⟨h7_⟩
        have n8_ : Aside0 (gb125 ≠ gb131) := ⟨h8_⟩
        have n9_ : Aside0 (gb131 ≠ gb125) := ⟨h9_⟩
        have n10_ : Aside0 (Below w.heap.size w w19) := ⟨h10_⟩
        clear BK124
        clear BK125
        clear HB
        clear h0_ h1_ h2_ h3_ h4_ h5_ h6_ h7_ h8_ h9_ h10_
        have HO130 := n0_
        have BK124 := n1_
        have BK125 := n2_
        have BK131 := n3_
        have GW131 := n4_
        have GE131 := n5_
        have NB124_131 := n6_
        have NB131_124 := n7_
        have NB125_131 := n8_
        have NB131_125 := n9_
        have HB := n10_
        clear n0_ n1_ n2_ n3_ n4_ n5_ n6_ n7_ n8_ n9_ n10_
        have hHeld : w19.cell? ⟨gb124, 0, none⟩ = some (.int .i64 a0_0) ∧ w19.cell? ⟨gb124, 1, none⟩ = some (.int .i64 a0_1) := hS_
        obtain ⟨Ao20, co20, eo20⟩ := Kd.R_slice HO130.out
        (first | subst eo20 | (injection eo20 with f1_ f2_ f3_; have f4_ := f1_.symm; have f5_ := f3_.symm; clear f1_ f2_ f3_; subst f4_; subst f5_))
        refine norm_ (a' := ?_) ?_ ?_
        rotate_left
        · simp only [putAll, Act.put, List.setIfInBounds_toArray, List.set_cons_zero, List.set_cons_succ]
          rfl
        refine one_ (i := 8) (N := none) #[true, true, true, true, true, true, true, true, true] rfl rfl (one_of HT_.out (by kernel_rfl)) (by decide) (fun K hK => ?_)
        have hs21 : w19.cell? ⟨gb131, 0, none⟩ = some (.int .i64 0) := (blk_cell BK131.out 0).trans rfl
        have hfs21 := blk_frozen BK131.out 0
        have hns21_0 := NB124_131.out
        have hns21_1 := NB125_131.out
        have hms21_0 := NB131_124.out
        have hms21_1 := NB131_125.out
        have hs22 : w19.cell? ⟨gb131, 1, none⟩ = some (.int .i64 0) := (blk_cell BK131.out 1).trans rfl
        have hfs22 := blk_frozen BK131.out 1
        have hns22_0 := NB124_131.out
        have hns22_1 := NB125_131.out
        have hms22_0 := NB131_124.out
        have hms22_1 := NB131_125.out
        have hs23 : w19.cell? ⟨gb131, 2, none⟩ = some (.int .i64 0) := (blk_cell BK131.out 2).trans rfl
        have hfs23 := blk_frozen BK131.out 2
        have hns23_0 := NB124_131.out
        have hns23_1 := NB125_131.out
        have hms23_0 := NB131_124.out
        have hms23_1 := NB131_125.out
        have hs24 : w19.cell? ⟨gb131, 3, none⟩ = some (.int .i64 0) := (blk_cell BK131.out 3).trans rfl
        have hfs24 := blk_frozen BK131.out 3
        have hns24_0 := NB124_131.out
        have hns24_1 := NB125_131.out
        have hms24_0 := NB131_124.out
        have hms24_1 := NB131_125.out
        have hs25 : w19.cell? ⟨gb131, 4, none⟩ = some (.int .i64 0) := (blk_cell BK131.out 4).trans rfl
        have hfs25 := blk_frozen BK131.out 4
        have hns25_0 := NB124_131.out
        have hns25_1 := NB125_131.out
        have hms25_0 := NB131_124.out
        have hms25_1 := NB131_125.out
        have hs26 : w19.cell? ⟨gb131, 5, none⟩ = some (.slice none 0 0) := (blk_cell BK131.out 5).trans rfl
        have hfs26 := blk_frozen BK131.out 5
        have hns26_0 := NB124_131.out
        have hns26_1 := NB125_131.out
        have hms26_0 := NB131_124.out
        have hms26_1 := NB131_125.out
        refine skip_ (w1 := ?_) (by rfl) rfl ?_ ?_
        rotate_left
        · go_simp
          rfl
        refine hK.out _ _ ⟨((cell_far (p := ⟨gb131, _, none⟩) NB124_131.out _).trans (((cell_far (p := ⟨gb131, _, none⟩) NB124_131.out _).trans (((cell_far (p := ⟨gb131, _, none⟩) NB124_131.out _).trans (((cell_far (p := ⟨gb131, _, none⟩) NB124_131.out _).trans (((cell_far (p := ⟨gb131, _, none⟩) NB124_131.out _).trans (((cell_far (p := ⟨gb131, _, none⟩) NB124_131.out _).trans (hHeld.1)))))))))))), ((cell_far (p := ⟨gb131, _, none⟩) NB124_131.out _).trans (((cell_far (p := ⟨gb131, _, none⟩) NB124_131.out _).trans (((cell_far (p := ⟨gb131, _, none⟩) NB124_131.out _).trans (((cell_far (p := ⟨gb131, _, none⟩) NB124_131.out _).trans (((cell_far (p := ⟨gb131, _, none⟩) NB124_131.out _).trans (((cell_far (p := ⟨gb131, _, none⟩) NB124_131.out _).trans (hHeld.2))))))))))))⟩ (fun hHeld => ?_)
        clear hK K
        refine done_ (done_of HT_.out (by kernel_rfl)) ?_
        have hnb27 := NB131_124.out
        have hnc27 := NB124_131.out
        have hnb28 := NB131_125.out
        have hnc28 := NB125_131.out
        have hcz29_0 : w19.cell? ⟨gb131, 0, none⟩ = some (.int .i64 0) := (blk_cell BK131.out 0).trans rfl
        have hcz29_1 : w19.cell? ⟨gb131, 1, none⟩ = some (.int .i64 0) := (blk_cell BK131.out 1).trans rfl
        have hcz29_2 : w19.cell? ⟨gb131, 2, none⟩ = some (.int .i64 0) := (blk_cell BK131.out 2).trans rfl
        have hcz29_3 : w19.cell? ⟨gb131, 3, none⟩ = some (.int .i64 0) := (blk_cell BK131.out 3).trans rfl
        have hcz29_4 : w19.cell? ⟨gb131, 4, none⟩ = some (.int .i64 0) := (blk_cell BK131.out 4).trans rfl
        have hcz29_5 : w19.cell? ⟨gb131, 5, none⟩ = some (.slice none 0 0) := (blk_cell BK131.out 5).trans rfl
        have hfz29_0 := blk_frozen BK131.out 0
        have hfz29_1 := blk_frozen BK131.out 1
        have hfz29_2 := blk_frozen BK131.out 2
        have hfz29_3 := blk_frozen BK131.out 3
        have hfz29_4 := blk_frozen BK131.out 4
        have hfz29_5 := blk_frozen BK131.out 5
        try go_wp2
        go_loopg [36] k (fun kq v36 w' => ∃ (x36_1 : Int) (x132005_1 : List Int) (u132005 : Value), v36 = .int .i64 x36_1 ∧ Aside0 (signal_New.l0 kq (y128.length : Int) x36_1 a0_0 a0_1 a0_0 a0_1 a1 a2 a3 x132005_1 = some (r1, r2, r3, r4, r5, r6, r7)) ∧ Aside0 (kq ≤ k) ∧ Aside0 (Kd.R (Kd.int .i64) 3 w' w.heap.size (fun _ => True) u132005 x132005_1) ∧ Aside0 (w'.heap[gb124]? = some (.cells #[.int .i64 a0_0, .int .i64 a0_1] 23 (0, 0))) ∧ Aside0 (w'.heap[gb125]? = some (.cells #[.int .i64 0, .int .i64 0, .int .i64 0, .int .i64 0, .int .i64 0, (.slice none 0 0)] 26 (0, 0))) ∧ Aside0 (w'.heap[gb131]? = some (.cells #[.int .i64 a0_0, .int .i64 a0_1, .int .i64 a1, .int .i64 a2, .int .i64 a3, u132005] 26 (0, 0))) ∧ Aside0 (Below w.heap.size w w'))
        case atStart => exact ⟨(0), (y128), (.slice Ao20 y128.length co20), (by first | rfl | (simp; done) | (simp [*]; done)), H', ⟨Nat.le_refl _⟩, ⟨by (with_reducible repeat (first | apply Kd.R_alloc | apply Kd.R_drewN | apply Kd.R_drew)); exact Kd.R_mono (Kd.R_far (p := ⟨gb131, 5, none⟩) (Kd.R_far (p := ⟨gb131, 4, none⟩) (Kd.R_far (p := ⟨gb131, 3, none⟩) (Kd.R_far (p := ⟨gb131, 2, none⟩) (Kd.R_far (p := ⟨gb131, 1, none⟩) (Kd.R_far (p := ⟨gb131, 0, none⟩) (Kd.R_types HO130.out BK131.out (by decide)) (fun _ hk => hk.2) (.int .i64 a0_0)) (fun _ hk => hk.2) (.int .i64 a0_1)) (fun _ hk => hk.2) (.int .i64 a1)) (fun _ hk => hk.2) (.int .i64 a2)) (fun _ hk => hk.2) (.int .i64 a3)) (fun _ hk => hk.2) (.slice Ao20 y128.length co20)) (fun _ hk => trivial)⟩, ⟨by (with_reducible repeat (first | refine blk_drewN ?_ _ | refine blk_drew ?_ | refine blk_alloc ?_ _)); refine blk_far ?_ NB124_131.out _; (with_reducible repeat (first | refine blk_drewN ?_ _ | refine blk_drew ?_ | refine blk_alloc ?_ _)); refine blk_far ?_ NB124_131.out _; (with_reducible repeat (first | refine blk_drewN ?_ _ | refine blk_drew ?_ | refine blk_alloc ?_ _)); refine blk_far ?_ NB124_131.out _; (with_reducible repeat (first | refine blk_drewN ?_ _ | refine blk_drew ?_ | refine blk_alloc ?_ _)); refine blk_far ?_ NB124_131.out _; (with_reducible repeat (first | refine blk_drewN ?_ _ | refine blk_drew ?_ | refine blk_alloc ?_ _)); refine blk_far ?_ NB124_131.out _; (with_reducible repeat (first | refine blk_drewN ?_ _ | refine blk_drew ?_ | refine blk_alloc ?_ _)); refine blk_far ?_ NB124_131.out _; (with_reducible repeat (first | refine blk_drewN ?_ _ | refine blk_drew ?_ | refine blk_alloc ?_ _)); exact BK124.out⟩, ⟨by (with_reducible repeat (first | refine blk_drewN ?_ _ | refine blk_drew ?_ | refine blk_alloc ?_ _)); refine blk_far ?_ NB125_131.out _; (with_reducible repeat (first | refine blk_drewN ?_ _ | refine blk_drew ?_ | refine blk_alloc ?_ _)); refine blk_far ?_ NB125_131.out _; (with_reducible repeat (first | refine blk_drewN ?_ _ | refine blk_drew ?_ | refine blk_alloc ?_ _)); refine blk_far ?_ NB125_131.out _; (with_reducible repeat (first | refine blk_drewN ?_ _ | refine blk_drew ?_ | refine blk_alloc ?_ _)); refine blk_far ?_ NB125_131.out _; (with_reducible repeat (first | refine blk_drewN ?_ _ | refine blk_drew ?_ | refine blk_alloc ?_ _)); refine blk_far ?_ NB125_131.out _; (with_reducible repeat (first | refine blk_drewN ?_ _ | refine blk_drew ?_ | refine blk_alloc ?_ _)); refine blk_far ?_ NB125_131.out _; (with_reducible repeat (first | refine blk_drewN ?_ _ | refine blk_drew ?_ | refine blk_alloc ?_ _)); exact BK125.out⟩, ⟨by (with_reducible repeat (first | refine blk_drewN ?_ _ | refine blk_drew ?_ | refine blk_alloc ?_ _)); refine blk_put (cs := #[.int .i64 a0_0, .int .i64 a0_1, .int .i64 a1, .int .i64 a2, .int .i64 a3, .slice none 0 0]) ?_ 5 _ rfl; (with_reducible repeat (first | refine blk_drewN ?_ _ | refine blk_drew ?_ | refine blk_alloc ?_ _)); refine blk_put (cs := #[.int .i64 a0_0, .int .i64 a0_1, .int .i64 a1, .int .i64 a2, .int .i64 0, .slice none 0 0]) ?_ 4 _ rfl; (with_reducible repeat (first | refine blk_drewN ?_ _ | refine blk_drew ?_ | refine blk_alloc ?_ _)); refine blk_put (cs := #[.int .i64 a0_0, .int .i64 a0_1, .int .i64 a1, .int .i64 0, .int .i64 0, .slice none 0 0]) ?_ 3 _ rfl; (with_reducible repeat (first | refine blk_drewN ?_ _ | refine blk_drew ?_ | refine blk_alloc ?_ _)); refine blk_put (cs := #[.int .i64 a0_0, .int .i64 a0_1, .int .i64 0, .int .i64 0, .int .i64 0, .slice none 0 0]) ?_ 2 _ rfl; (with_reducible repeat (first | refine blk_drewN ?_ _ | refine blk_drew ?_ | refine blk_alloc ?_ _)); refine blk_put (cs := #[.int .i64 a0_0, .int .i64 0, .int .i64 0, .int .i64 0, .int .i64 0, .slice none 0 0]) ?_ 1 _ rfl; (with_reducible repeat (first | refine blk_drewN ?_ _ | refine blk_drew ?_ | refine blk_alloc ?_ _)); refine blk_put (cs := #[.int .i64 0, .int .i64 0, .int .i64 0, .int .i64 0, .int .i64 0, .slice none 0 0]) ?_ 0 _ rfl; (with_reducible repeat (first | refine blk_drewN ?_ _ | refine blk_drew ?_ | refine blk_alloc ?_ _)); exact BK131.out⟩, ⟨by repeat (first | (with_reducible first | exact HB.out | apply below_alloc | apply pw_below_drewN | apply below_drew1 | refine below_set ?_ GE124.out | refine below_set ?_ GE125.out | refine below_set ?_ GE131.out) | exact HB.out)⟩⟩
        case round =>
          clear H'
          try clear c1
          try clear c2
          try clear p2
          try clear c4
          try clear c6
          try clear c6b0
          try clear c6b1
          try clear c7
          try clear c7b0
          try clear c7b1
          try clear c8
          try clear c8b0
          try clear c8b1
          try clear c11
          try clear c22
          try clear c27
          try clear c28
          try clear hcz12_0
          try clear hcz12_1
          try clear hcz29_0
          try clear hcz29_1
          try clear hcz29_2
          try clear hcz29_3
          try clear hcz29_4
          try clear hcz29_5
          try clear hfz12_0
          try clear hfz12_1
          try clear hfz29_0
          try clear hfz29_1
          try clear hfz29_2
          try clear hfz29_3
          try clear hfz29_4
          try clear hfz29_5
          obtain ⟨x36_1, x132005_1, u132005, rfl, HA, HK1, HO_132005, BK124, BK125, BK131, HB⟩ := hrel
          cases gk with
          | zero => exact absurd HA.out (by simp [signal_New.l0])
          | succ k1 =>
            have H := HA.out
            clear HA
            simp only [signal_New.l0] at H
            by_cases c30 : x36_1 < (y128.length : Int)
            · rw [if_pos c30] at H
              have c30b0 : decide (x36_1 < (y128.length : Int)) = true := decide_eq_true c30
              clear c30
              replace H := Option.bind_eq_some_iff.mp H
              obtain ⟨t132, A310, H⟩ := H
              replace H : (if 0 ≤ x36_1 then (if x36_1 < (x132005_1.length : Int) then (signal_New.l0 k1 (y128.length : Int) (wrap64 (x36_1 + 1)) a0_0 a0_1 a0_0 a0_1 a1 a2 a3 (x132005_1.set (x36_1 : Int).toNat t132)) else (none)) else (none)) = some (r1, r2, r3, r4, r5, r6, r7) := H
              have A31 := Aside0.mk A310
              clear A310
              by_cases c32 : 0 ≤ x36_1
              · rw [if_pos c32] at H
                have c32b0 : decide (0 ≤ x36_1) = true := decide_eq_true c32
                clear c32
                by_cases c33 : x36_1 < (x132005_1.length : Int)
                · rw [if_pos c33] at H
                  have c33b0 : decide (x36_1 < (x132005_1.length : Int)) = true := decide_eq_true c33
                  clear c33
                  obtain ⟨y133, hy133⟩ : ∃ y_ : List Int, y_ = (x132005_1.set (x36_1 : Int).toNat t132) := ⟨_, rfl⟩
                  replace H : (signal_New.l0 k1 (y128.length : Int) (wrap64 (x36_1 + 1)) a0_0 a0_1 a0_0 a0_1 a1 a2 a3 y133) = some (r1, r2, r3, r4, r5, r6, r7) := by first | (rw [hy133]; with_reducible exact H) | (have H2_ := (Option.bind_some _ _).symm.trans H; rw [hy133]; with_reducible exact H2_) | (have H2_ := (Option.bind_some _ _).symm.trans H; with_reducible exact H2_) | with_reducible exact H | (rw [hy133]; exact H) | exact H
                  have Ny133 := Aside0.mk hy133
                  clear hy133
                  have H' := Aside0.mk H
                  clear H
                  try go_wp2
                  have n0_ := Aside0.mk (Kd.R_drew HO_132005.out)
                  have n1_ := Aside0.mk (blk_drew BK124.out)
                  have n2_ := Aside0.mk (blk_drew BK125.out)
                  have n3_ := Aside0.mk (blk_drew BK131.out)
                  have n4_ := Aside0.mk (below_drew1 HB.out)
                  clear HO_132005
                  clear BK124
                  clear BK125
                  clear BK131
                  clear HB
                  have HO_132005 := n0_
                  have BK124 := n1_
                  have BK125 := n2_
                  have BK131 := n3_
                  have HB := n4_
                  clear n0_ n1_ n2_ n3_ n4_
                  refine start_ (n := 7) (S := fun w' => w'.cell? ⟨gb131, 0, none⟩ = some (.int .i64 a0_0) ∧ w'.cell? ⟨gb131, 1, none⟩ = some (.int .i64 a0_1) ∧ w'.cell? ⟨gb131, 2, none⟩ = some (.int .i64 a1) ∧ w'.cell? ⟨gb131, 3, none⟩ = some (.int .i64 a2) ∧ w'.cell? ⟨gb131, 4, none⟩ = some (.int .i64 a3) ∧ w'.cell? ⟨gb131, 5, none⟩ = some (u132005) ∧ w'.cell? ⟨gb124, 0, none⟩ = some (.int .i64 a0_0) ∧ w'.cell? ⟨gb124, 1, none⟩ = some (.int .i64 a0_1)) (ds := [6]) #[false, false, false, false, false, false, false] (by kernel_rfl) rfl rfl ⟨(blk_cell BK131.out 0).trans rfl, (blk_cell BK131.out 1).trans rfl, (blk_cell BK131.out 2).trans rfl, (blk_cell BK131.out 3).trans rfl, (blk_cell BK131.out 4).trans rfl, (blk_cell BK131.out 5).trans rfl, (blk_cell BK124.out 0).trans rfl, (blk_cell BK124.out 1).trans rfl⟩ (fun hHeld => ?_)
                  generalize wr.drew = w35 at HO_132005 BK124 BK125 BK131 HB hHeld ⊢
                  refine pure_ (i := 0) (N := some 39) (v := ?_) (a' := ?_) #[true, false, false, false, false, false, false] rfl rfl (by kernel_rfl) (fun _ _ _ h => h) (Or.inl ⟨by rfl, ?_⟩) ?_ ?_
                  rotate_left
                  · intro w'
                    go_simp
                    with_reducible rfl
                  rotate_left
                  · simp only [Act.put, List.setIfInBounds_toArray, List.set_cons_zero, List.set_cons_succ, i64_w, i32_w]
                    rfl
                  refine pure_ (i := 2) (N := some 41) (v := ?_) (a' := ?_) #[true, false, true, false, false, false, false] rfl rfl (by kernel_rfl) (fun _ _ _ h => h) (Or.inl ⟨by rfl, ?_⟩) ?_ ?_
                  rotate_left
                  · intro w'
                    go_simp
                    with_reducible rfl
                  rotate_left
                  · simp only [Act.put, List.setIfInBounds_toArray, List.set_cons_zero, List.set_cons_succ, i64_w, i32_w]
                    rfl
                  refine take_ (i := 1) (N := some 40) (v := ?_) (a' := ?_) #[true, true, true, false, false, false, false] rfl rfl (by kernel_rfl) (fun _ _ _ h => h) (Or.inl ⟨by rfl, ?_⟩) hHeld ?_ ?_
                  rotate_left
                  · rintro w' ⟨s0, s1, s2, s3, s4, s5, s6, s7⟩
                    go_simp
                    with_reducible rfl
                  rotate_left
                  · simp only [Act.put, List.setIfInBounds_toArray, List.set_cons_zero, List.set_cons_succ, i64_w, i32_w]
                    rfl
                  refine take_ (i := 3) (N := some 42) (v := ?_) (a' := ?_) #[true, true, true, true, false, false, false] rfl rfl (by kernel_rfl) (fun _ _ _ h => h) (Or.inl ⟨by rfl, ?_⟩) hHeld ?_ ?_
                  rotate_left
                  · rintro w' ⟨s0, s1, s2, s3, s4, s5, s6, s7⟩
                    go_simp
                    with_reducible rfl
                  rotate_left
                  · simp only [Act.put, List.setIfInBounds_toArray, List.set_cons_zero, List.set_cons_succ, i64_w, i32_w]
                    rfl
                  refine one_ (i := 4) (N := some 43) #[true, true, true, true, true, false, false] rfl rfl (by kernel_rfl) (by decide) (fun K hK => ?_)
                  refine goes_ Try.func30 (by kernel_rfl) rfl #[.agg #[.int .i64 a0_0, .int .i64 a0_1]] (by rfl) rfl rfl (by (try simp only [List.map_toArray, List.map_cons, List.map_nil]); first | done | rfl | (simp only [List.length_drop, List.length_take]; rfl)) ?_
                  with_reducible refine (kind_Border.calls a0_0 a0_1 t132 _ A31.out).mono ?_
                  rintro e w36 ⟨rfl, hb⟩
                  refine ⟨_, rfl, ?_⟩
                  have n0_ := Aside0.mk (Kd.R_below (by (with_reducible repeat (first | apply Kd.R_alloc | apply Kd.R_drewN | apply Kd.R_drew)); exact HO_132005.out) hb)
                  have n1_ := Aside0.mk (blk_below (g := gb124) (o := .cells #[.int .i64 a0_0, .int .i64 a0_1] 23 (0, 0)) (by (with_reducible repeat (first | refine blk_drewN ?_ _ | refine blk_drew ?_ | refine blk_alloc ?_ _)); exact BK124.out) hb)
                  have n2_ := Aside0.mk (blk_below (g := gb125) (o := .cells #[.int .i64 0, .int .i64 0, .int .i64 0, .int .i64 0, .int .i64 0, .slice none 0 0] 26 (0, 0)) (by (with_reducible repeat (first | refine blk_drewN ?_ _ | refine blk_drew ?_ | refine blk_alloc ?_ _)); exact BK125.out) hb)
                  have n3_ := Aside0.mk (blk_below (g := gb131) (o := .cells #[.int .i64 a0_0, .int .i64 a0_1, .int .i64 a1, .int .i64 a2, .int .i64 a3, u132005] 26 (0, 0)) (by (with_reducible repeat (first | refine blk_drewN ?_ _ | refine blk_drew ?_ | refine blk_alloc ?_ _)); exact BK131.out) hb)
                  have n4_ := Aside0.mk (below_step (by repeat (first | (with_reducible first | exact HB.out | apply below_alloc | apply pw_below_drewN | apply below_drew1 | refine below_set ?_ GE124.out | refine below_set ?_ GE125.out | refine below_set ?_ GE131.out) | exact HB.out)) hb)
                  clear HO_132005
                  clear BK124
                  clear BK125
                  clear BK131
                  clear HB
                  have HO_132005 := n0_
                  have BK124 := n1_
                  have BK125 := n2_
                  have BK131 := n3_
                  have HB := n4_
                  clear n0_ n1_ n2_ n3_ n4_
                  (try clear hb)
                  (try clear hb2)
                  (try clear hk)
                  (try clear hi)
                  have p34 : 0 ≤ (x36_1 : Int) := of_decide_eq_true (by first | (with_reducible assumption) | assumption)
                  have q34 : (x36_1 : Int) < ((x132005_1.length : Int) : Int) := of_decide_eq_true (by first | (with_reducible assumption) | assumption)
                  obtain ⟨go34, co34, eo34, gb34, gl34, cl34, HG34⟩ := Kd.R_form HO_132005.out (by omega)
                  (first | cases eo34 | (injection eo34 with ea_ en_ ec_; (first | subst ea_ | (injection ea_ with ea_; subst ea_)); subst ec_; clear en_))
                  have GB34 := Aside0.mk gb34
                  have GG34 := Aside0.mk HG34
                  clear gb34 gl34 HG34
                  obtain ⟨hx34_0, hf34_0⟩ := Kd.R_celln 0 HO_132005.out (x36_1 : Int) p34 q34
                  replace p34 := eq_true p34
                  replace q34 := eq_true q34
                  have HP37 := Kd.R_putn HO_132005.out (x36_1 : Int) t132
                  rw [← Ny133.out] at HP37
                  have HQ37 := Aside0.mk HP37
                  clear HP37
                  refine hK.out _ _ ⟨(blk_cell BK131.out 0).trans rfl, (blk_cell BK131.out 1).trans rfl, (blk_cell BK131.out 2).trans rfl, (blk_cell BK131.out 3).trans rfl, (blk_cell BK131.out 4).trans rfl, (blk_cell BK131.out 5).trans rfl, (blk_cell BK124.out 0).trans rfl, (blk_cell BK124.out 1).trans rfl⟩ (fun hHeld => ?_)
                  clear hK K
                  refine norm_ (a' := ?_) ?_ ?_
                  rotate_left
                  · show Act.put _ (some 43) _ = _
                    simp only [Act.put, List.setIfInBounds_toArray, List.set_cons_zero, List.set_cons_succ, i64_w, i32_w]
                    rfl
                  refine pure_ (i := 5) (N := some 44) (v := ?_) (a' := ?_) #[true, true, true, true, true, true, false] rfl rfl (by kernel_rfl) (fun _ _ _ h => h) (Or.inl ⟨by rfl, ?_⟩) ?_ ?_
                  rotate_left
                  · intro w'
                    go_simp
                    with_reducible rfl
                  rotate_left
                  · simp only [Act.put, List.setIfInBounds_toArray, List.set_cons_zero, List.set_cons_succ, i64_w, i32_w]
                    rfl
                  refine last_ (i := 6) (N := none) #[true, true, true, true, true, true, true] rfl rfl (by kernel_rfl) (by decide) (fun K hK => ?_)
                  refine skip_ (w1 := ?_) (by rfl) rfl ?_ ?_
                  rotate_left
                  · go_simp
                    rfl
                  refine hK.out _ _ ?_
                  clear hK K
                  refine done_ (by kernel_rfl) ?_
                  try go_wp2
                  go_roundg k1
                  case measure => have := HK1.out; omega
                  case rel => exact ⟨(wrap64 (x36_1 + 1)), (y133), (.slice (some ⟨go34, 0, none⟩) x132005_1.length co34), (by first | rfl | (simp; done) | (simp [*]; done)), H', ⟨by have := HK1.out; omega⟩, ⟨by (with_reducible repeat (first | apply Kd.R_alloc | apply Kd.R_drewN | apply Kd.R_drew)); exact HQ37.out⟩, ⟨by (with_reducible repeat (first | refine blk_drewN ?_ _ | refine blk_drew ?_ | refine blk_alloc ?_ _)); refine blk_far ?_ (by have h_ := Kd.R_ne HO_132005.out BK124.out (by decide); intro e_; exact h_ (by rw [e_]; rfl)) _; (with_reducible repeat (first | refine blk_drewN ?_ _ | refine blk_drew ?_ | refine blk_alloc ?_ _)); exact BK124.out⟩, ⟨by (with_reducible repeat (first | refine blk_drewN ?_ _ | refine blk_drew ?_ | refine blk_alloc ?_ _)); refine blk_far ?_ (by have h_ := Kd.R_ne HO_132005.out BK125.out (by decide); intro e_; exact h_ (by rw [e_]; rfl)) _; (with_reducible repeat (first | refine blk_drewN ?_ _ | refine blk_drew ?_ | refine blk_alloc ?_ _)); exact BK125.out⟩, ⟨by (with_reducible repeat (first | refine blk_drewN ?_ _ | refine blk_drew ?_ | refine blk_alloc ?_ _)); refine blk_far ?_ (by have h_ := Kd.R_ne HO_132005.out BK131.out (by decide); intro e_; exact h_ (by rw [e_]; rfl)) _; (with_reducible repeat (first | refine blk_drewN ?_ _ | refine blk_drew ?_ | refine blk_alloc ?_ _)); exact BK131.out⟩, ⟨by repeat (first | (with_reducible first | exact HB.out | apply below_alloc | apply pw_below_drewN | apply below_drew1 | refine below_set ?_ GB34.out | refine below_set ?_ GE124.out | refine below_set ?_ GE125.out | refine below_set ?_ GE131.out) | exact HB.out)⟩⟩
                · rw [if_neg c33] at H
                  exact absurd H (by simp)
              · rw [if_neg c32] at H
                exact absurd H (by simp)
            · rw [if_neg c30] at H
              have c30b0 : decide (x36_1 < (y128.length : Int)) = false := decide_eq_false c30
              clear c30
              simp only [Option.some.injEq, Prod.mk.injEq] at H
              obtain ⟨rfl, rfl, rfl, rfl, rfl, rfl, rfl⟩ := H
              have hnb38 := NB131_124.out
              have hnc38 := NB124_131.out
              have hnb39 := NB131_125.out
              have hnc39 := NB125_131.out
              have hcz40_0 : wr.cell? ⟨gb131, 0, none⟩ = some (.int .i64 a0_0) := (blk_cell BK131.out 0).trans rfl
              have hcz40_1 : wr.cell? ⟨gb131, 1, none⟩ = some (.int .i64 a0_1) := (blk_cell BK131.out 1).trans rfl
              have hcz40_2 : wr.cell? ⟨gb131, 2, none⟩ = some (.int .i64 a1) := (blk_cell BK131.out 2).trans rfl
              have hcz40_3 : wr.cell? ⟨gb131, 3, none⟩ = some (.int .i64 a2) := (blk_cell BK131.out 3).trans rfl
              have hcz40_4 : wr.cell? ⟨gb131, 4, none⟩ = some (.int .i64 a3) := (blk_cell BK131.out 4).trans rfl
              have hcz40_5 : wr.cell? ⟨gb131, 5, none⟩ = some (u132005) := (blk_cell BK131.out 5).trans rfl
              have hfz40_0 := blk_frozen BK131.out 0
              have hfz40_1 := blk_frozen BK131.out 1
              have hfz40_2 := blk_frozen BK131.out 2
              have hfz40_3 := blk_frozen BK131.out 3
              have hfz40_4 := blk_frozen BK131.out 4
              have hfz40_5 := blk_frozen BK131.out 5
              have hnb41 := NB125_124.out
              have hnc41 := NB124_125.out
              have hcz42_0 : wr.cell? ⟨gb125, 0, none⟩ = some (.int .i64 0) := (blk_cell BK125.out 0).trans rfl
              have hcz42_1 : wr.cell? ⟨gb125, 1, none⟩ = some (.int .i64 0) := (blk_cell BK125.out 1).trans rfl
              have hcz42_2 : wr.cell? ⟨gb125, 2, none⟩ = some (.int .i64 0) := (blk_cell BK125.out 2).trans rfl
              have hcz42_3 : wr.cell? ⟨gb125, 3, none⟩ = some (.int .i64 0) := (blk_cell BK125.out 3).trans rfl
              have hcz42_4 : wr.cell? ⟨gb125, 4, none⟩ = some (.int .i64 0) := (blk_cell BK125.out 4).trans rfl
              have hcz42_5 : wr.cell? ⟨gb125, 5, none⟩ = some (.slice none 0 0) := (blk_cell BK125.out 5).trans rfl
              have hfz42_0 := blk_frozen BK125.out 0
              have hfz42_1 := blk_frozen BK125.out 1
              have hfz42_2 := blk_frozen BK125.out 2
              have hfz42_3 := blk_frozen BK125.out 3
              have hfz42_4 := blk_frozen BK125.out 4
              have hfz42_5 := blk_frozen BK125.out 5
              obtain ⟨Ao43, co43, eo43⟩ := Kd.R_slice HO_132005.out
              subst eo43
              go_wp2
              refine bodyPost_ret (results_ct rfl _ _ gb125 26 #[.int .i64 a0_0, .int .i64 a0_1, .int .i64 a1, .int .i64 a2, .int .i64 a3, .slice Ao43 x132005_1.length co43] (0, 0) _ rfl (by (with_reducible repeat (first | refine blk_drewN ?_ _ | refine blk_drew ?_ | refine blk_alloc ?_ _)); refine blk_put (cs := #[.int .i64 a0_0, .int .i64 a0_1, .int .i64 a1, .int .i64 a2, .int .i64 a3, .slice none 0 0]) ?_ 5 _ rfl; (with_reducible repeat (first | refine blk_drewN ?_ _ | refine blk_drew ?_ | refine blk_alloc ?_ _)); refine blk_put (cs := #[.int .i64 a0_0, .int .i64 a0_1, .int .i64 a1, .int .i64 a2, .int .i64 0, .slice none 0 0]) ?_ 4 _ rfl; (with_reducible repeat (first | refine blk_drewN ?_ _ | refine blk_drew ?_ | refine blk_alloc ?_ _)); refine blk_put (cs := #[.int .i64 a0_0, .int .i64 a0_1, .int .i64 a1, .int .i64 0, .int .i64 0, .slice none 0 0]) ?_ 3 _ rfl; (with_reducible repeat (first | refine blk_drewN ?_ _ | refine blk_drew ?_ | refine blk_alloc ?_ _)); refine blk_put (cs := #[.int .i64 a0_0, .int .i64 a0_1, .int .i64 0, .int .i64 0, .int .i64 0, .slice none 0 0]) ?_ 2 _ rfl; (with_reducible repeat (first | refine blk_drewN ?_ _ | refine blk_drew ?_ | refine blk_alloc ?_ _)); refine blk_put (cs := #[.int .i64 a0_0, .int .i64 0, .int .i64 0, .int .i64 0, .int .i64 0, .slice none 0 0]) ?_ 1 _ rfl; (with_reducible repeat (first | refine blk_drewN ?_ _ | refine blk_drew ?_ | refine blk_alloc ?_ _)); refine blk_put (cs := #[.int .i64 0, .int .i64 0, .int .i64 0, .int .i64 0, .int .i64 0, .slice none 0 0]) ?_ 0 _ rfl; (with_reducible repeat (first | refine blk_drewN ?_ _ | refine blk_drew ?_ | refine blk_alloc ?_ _)); exact BK125.out) Try.underlying26 rfl (by kernel_rfl)) rfl ?_
              exact ⟨_, by first | rfl | (simp [errW_none, errW_some] <;> rfl) | (simp [*, errW_none, errW_some] <;> rfl), by (with_reducible repeat (first | apply Kd.R_alloc | apply Kd.R_drewN | apply Kd.R_drew)); exact Kd.R_mono (Kd.R_far (p := ⟨gb125, 5, none⟩) (Kd.R_far (p := ⟨gb125, 4, none⟩) (Kd.R_far (p := ⟨gb125, 3, none⟩) (Kd.R_far (p := ⟨gb125, 2, none⟩) (Kd.R_far (p := ⟨gb125, 1, none⟩) (Kd.R_far (p := ⟨gb125, 0, none⟩) (Kd.R_types HO_132005.out BK125.out (by decide)) (fun _ hk => hk.2) (.int .i64 a0_0)) (fun _ hk => hk.2) (.int .i64 a0_1)) (fun _ hk => hk.2) (.int .i64 a1)) (fun _ hk => hk.2) (.int .i64 a2)) (fun _ hk => hk.2) (.int .i64 a3)) (fun _ hk => hk.2) (.slice Ao43 x132005_1.length co43)) (fun _ hk => trivial), by repeat (first | (with_reducible first | exact HB.out | apply below_alloc | apply pw_below_drewN | apply below_drew1 | refine below_set ?_ GE124.out | refine below_set ?_ GE125.out | refine below_set ?_ GE131.out) | exact HB.out)⟩
      · rw [if_neg c8] at H
        exact absurd H (by simp)
    · rw [if_neg c7] at H
      exact absurd H (by simp)
  · rw [if_neg c6] at H
    have c6b0 : (t127 == 0) = false := beq_eq_false_iff_ne.mpr c6
    have c6b1 : (t127 != 0) = true := bne_iff_ne.mpr c6
    simp only [Option.some.injEq, Prod.mk.injEq] at H
    obtain ⟨rfl, rfl, rfl, rfl, rfl, rfl, rfl⟩ := H
    go_enter Try.func47, Try.ntmps47
    go_wp2_with (first | ((with_reducible refine gate_dst (N := 4) rfl ?_); refine box_event ?hg (N := 4) ?hd (cs := #[.int .i64 a0_0, .int .i64 a0_1]) (t := 23) ?hr ?_; (case hd => rfl); (case hg => rfl); (case hr => first | (go_simp; done) | (go_simp; rfl)); intro gb124 hg w44 hbox hb; have n0_ := Aside0.mk (below_step (by repeat (first | (with_reducible first | exact HB.out | apply below_alloc | apply pw_below_drewN | apply below_drew1) | exact HB.out)) hb); have n1_ := Aside0.mk (hbox); have n2_ := Aside0.mk ((by rw [hg]; exact (below_size (by repeat (first | (with_reducible first | exact HB.out | apply below_alloc | apply pw_below_drewN | apply below_drew1) | exact HB.out))) : w.heap.size ≤ gb124)); have n3_ := Aside0.mk ((by rw [hg]; exact (below_size (by repeat (first | (with_reducible first | exact HB.out | apply below_alloc | apply pw_below_drewN | apply below_drew1) | exact HB.out))) : w.heap.size ≤ gb124)); clear HB; have HB := n0_; have BK124 := n1_; have GW124 := n2_; have GE124 := n3_; clear n0_ n1_ n2_ n3_; clear hb hbox hg) | ((with_reducible refine gate_dst (N := 8) rfl ?_); refine box_event ?hg (N := 8) ?hd (cs := #[.int .i64 0, .int .i64 0, .int .i64 0, .int .i64 0, .int .i64 0, .slice none 0 0]) (t := 26) ?hr ?_; (case hd => rfl); (case hg => rfl); (case hr => first | (go_simp; done) | (go_simp; rfl)); intro gb125 hg w45 hbox hb; have n0_ := Aside0.mk (blk_below (g := gb124) (o := .cells #[.int .i64 a0_0, .int .i64 a0_1] 23 (0, 0)) (by (with_reducible repeat (first | refine blk_drewN ?_ _ | refine blk_drew ?_ | refine blk_alloc ?_ _)); exact BK124.out) hb); have n1_ := Aside0.mk (below_step (by repeat (first | (with_reducible first | exact HB.out | apply below_alloc | apply pw_below_drewN | apply below_drew1 | refine below_set ?_ GE124.out) | exact HB.out)) hb); have n2_ := Aside0.mk (hbox); have n3_ := Aside0.mk ((by rw [hg]; exact (below_size (by repeat (first | (with_reducible first | exact HB.out | apply below_alloc | apply pw_below_drewN | apply below_drew1 | refine below_set ?_ GE124.out) | exact HB.out))) : w.heap.size ≤ gb125)); have n4_ := Aside0.mk ((by rw [hg]; exact (below_size (by repeat (first | (with_reducible first | exact HB.out | apply below_alloc | apply pw_below_drewN | apply below_drew1 | refine below_set ?_ GE124.out) | exact HB.out))) : w.heap.size ≤ gb125)); have n5_ := Aside0.mk ((by rw [hg]; exact Nat.ne_of_lt (blk_lt (g := gb124) (o := .cells #[.int .i64 a0_0, .int .i64 a0_1] 23 (0, 0)) (by (with_reducible repeat (first | refine blk_drewN ?_ _ | refine blk_drew ?_ | refine blk_alloc ?_ _)); exact BK124.out)) : gb124 ≠ gb125)); have n6_ := Aside0.mk ((by rw [hg]; exact Nat.ne_of_gt (blk_lt (g := gb124) (o := .cells #[.int .i64 a0_0, .int .i64 a0_1] 23 (0, 0)) (by (with_reducible repeat (first | refine blk_drewN ?_ _ | refine blk_drew ?_ | refine blk_alloc ?_ _)); exact BK124.out)) : gb125 ≠ gb124)); clear BK124; clear HB; have BK124 := n0_; have HB := n1_; have BK125 := n2_; have GW125 := n3_; have GE125 := n4_; have NB124_125 := n5_; have NB125_124 := n6_; clear n0_ n1_ n2_ n3_ n4_ n5_ n6_; clear hb hbox hg; have hnb46 := NB124_125.out; have hnc46 := NB125_124.out; have hcz47_0 : w45.cell? ⟨gb124, 0, none⟩ = some (.int .i64 a0_0) := (blk_cell BK124.out 0).trans rfl; have hcz47_1 : w45.cell? ⟨gb124, 1, none⟩ = some (.int .i64 a0_1) := (blk_cell BK124.out 1).trans rfl; have hfz47_0 := blk_frozen BK124.out 0; have hfz47_1 := blk_frozen BK124.out 1) | ((with_reducible refine gate_callee (f := 22) rfl ?_); refine goesL_ (some 19) rfl rfl Try.func22 (by kernel_rfl) rfl #[.agg #[.int .i64 a0_0, .int .i64 a0_1], .int .i64 a1, .int .i64 a2, .int .i64 a3] rfl (by (try simp only [List.map_toArray, List.map_cons, List.map_nil]); first | done | rfl | (simp only [List.length_drop, List.length_take]; rfl)) ?_; (with_reducible refine (signal_Shape.calls k a0_0 a0_1 a1 a2 a3 t126 t127 _ A5.out).mono ?_); rintro e w48 ⟨rfl, hb⟩; refine ⟨_, rfl, ?_⟩; have n0_ := Aside0.mk (blk_below (g := gb124) (o := .cells #[.int .i64 a0_0, .int .i64 a0_1] 23 (0, 0)) (by (with_reducible repeat (first | refine blk_drewN ?_ _ | refine blk_drew ?_ | refine blk_alloc ?_ _)); exact BK124.out) hb); have n1_ := Aside0.mk (blk_below (g := gb125) (o := .cells #[.int .i64 0, .int .i64 0, .int .i64 0, .int .i64 0, .int .i64 0, .slice none 0 0] 26 (0, 0)) (by (with_reducible repeat (first | refine blk_drewN ?_ _ | refine blk_drew ?_ | refine blk_alloc ?_ _)); exact BK125.out) hb); have n2_ := Aside0.mk (below_step (by repeat (first | (with_reducible first | exact HB.out | apply below_alloc | apply pw_below_drewN | apply below_drew1 | refine below_set ?_ GE124.out | refine below_set ?_ GE125.out) | exact HB.out)) hb); clear BK124; clear BK125; clear HB; have BK124 := n0_; have BK125 := n1_; have HB := n2_; clear n0_ n1_ n2_; (try clear hb); (try clear hb2); (try clear hk); (try clear hi); have hcz49_0 : w48.cell? ⟨gb125, 0, none⟩ = some (.int .i64 0) := (blk_cell BK125.out 0).trans rfl; have hcz49_1 : w48.cell? ⟨gb125, 1, none⟩ = some (.int .i64 0) := (blk_cell BK125.out 1).trans rfl; have hcz49_2 : w48.cell? ⟨gb125, 2, none⟩ = some (.int .i64 0) := (blk_cell BK125.out 2).trans rfl; have hcz49_3 : w48.cell? ⟨gb125, 3, none⟩ = some (.int .i64 0) := (blk_cell BK125.out 3).trans rfl; have hcz49_4 : w48.cell? ⟨gb125, 4, none⟩ = some (.int .i64 0) := (blk_cell BK125.out 4).trans rfl; have hcz49_5 : w48.cell? ⟨gb125, 5, none⟩ = some (.slice none 0 0) := (blk_cell BK125.out 5).trans rfl; have hfz49_0 := blk_frozen BK125.out 0; have hfz49_1 := blk_frozen BK125.out 1; have hfz49_2 := blk_frozen BK125.out 2; have hfz49_3 := blk_frozen BK125.out 3; have hfz49_4 := blk_frozen BK125.out 4; have hfz49_5 := blk_frozen BK125.out 5))
    refine bodyPost_ret (results_ct rfl _ _ gb125 26 #[.int .i64 0, .int .i64 0, .int .i64 0, .int .i64 0, .int .i64 0, .slice none 0 0] (0, 0) _ rfl (by (with_reducible repeat (first | refine blk_drewN ?_ _ | refine blk_drew ?_ | refine blk_alloc ?_ _)); refine blk_put (cs := #[.int .i64 0, .int .i64 0, .int .i64 0, .int .i64 0, .int .i64 0, .slice none 0 0]) ?_ 5 _ rfl; (with_reducible repeat (first | refine blk_drewN ?_ _ | refine blk_drew ?_ | refine blk_alloc ?_ _)); refine blk_put (cs := #[.int .i64 0, .int .i64 0, .int .i64 0, .int .i64 0, .int .i64 0, .slice none 0 0]) ?_ 4 _ rfl; (with_reducible repeat (first | refine blk_drewN ?_ _ | refine blk_drew ?_ | refine blk_alloc ?_ _)); refine blk_put (cs := #[.int .i64 0, .int .i64 0, .int .i64 0, .int .i64 0, .int .i64 0, .slice none 0 0]) ?_ 3 _ rfl; (with_reducible repeat (first | refine blk_drewN ?_ _ | refine blk_drew ?_ | refine blk_alloc ?_ _)); refine blk_put (cs := #[.int .i64 0, .int .i64 0, .int .i64 0, .int .i64 0, .int .i64 0, .slice none 0 0]) ?_ 2 _ rfl; (with_reducible repeat (first | refine blk_drewN ?_ _ | refine blk_drew ?_ | refine blk_alloc ?_ _)); refine blk_put (cs := #[.int .i64 0, .int .i64 0, .int .i64 0, .int .i64 0, .int .i64 0, .slice none 0 0]) ?_ 1 _ rfl; (with_reducible repeat (first | refine blk_drewN ?_ _ | refine blk_drew ?_ | refine blk_alloc ?_ _)); refine blk_put (cs := #[.int .i64 0, .int .i64 0, .int .i64 0, .int .i64 0, .int .i64 0, .slice none 0 0]) ?_ 0 _ rfl; (with_reducible repeat (first | refine blk_drewN ?_ _ | refine blk_drew ?_ | refine blk_alloc ?_ _)); exact BK125.out) Try.underlying26 rfl (by kernel_rfl)) rfl ?_
    exact ⟨_, by first | rfl | (simp [errW_none, errW_some] <;> rfl) | (simp [*, errW_none, errW_some] <;> rfl), by first | exact Kd.R_nil _ _ _ _ _ | exact Kd.N_nil _ _ _ _ _ | exact Kd.V_nil _ _ _ _ _ | exact Kd.Q_nil _ _ _ _ _ | exact Kd.S_nil _ _ _ _ _, by repeat (first | (with_reducible first | exact HB.out | apply below_alloc | apply pw_below_drewN | apply below_drew1 | refine below_set ?_ GE124.out | refine below_set ?_ GE125.out) | exact HB.out)⟩

/-! ### signal_Check: function 42 -/
def signal_Check.l0 : Nat → List Int → Int → Int → Int → Int → Int → Int → Int → List Int → Option (Int)
  | 0, _, _, _, _, _, _, _, _, _ => none
  | k + 1, x28, x29, x30, x248000, x248001, x248002, x248003, x248004, x248005 => if x30 < x29 then (if 0 ≤ x30 then (if x30 < (x28.length : Int) then ((kind_Low.f x248000 x248001).bind fun t251 => (if (rd x28 x30) < t251 then (some 17) else ((kind_High.f x248000 x248001).bind fun t252 => (if (rd x28 x30) > t252 then (some 17) else (signal_Check.l0 k x28 x29 (wrap64 (x30 + 1)) x248000 x248001 x248002 x248003 x248004 x248005))))) else (none)) else (none)) else (some 0)
def signal_Check.f (k : Nat) (a0_0 : Int) (a0_1 : Int) (a0_2 : Int) (a0_3 : Int) (a0_4 : Int) (l0_5 : List Int) : Option (Int) := (signal_Shape.f k a0_0 a0_1 a0_2 a0_3 a0_4).bind fun bt248 => (if bt248.2 = 0 then (if bt248.1 = (l0_5.length : Int) then (signal_Check.l0 k l0_5 (l0_5.length : Int) 0 a0_0 a0_1 a0_2 a0_3 a0_4 l0_5) else (some 17)) else (some bt248.2))
theorem signal_Check.mono_l : ∀ k, (∀ y0 y1 y2 y3 y4 y5 y6 y7 y8, LeO (signal_Check.l0 k y0 y1 y2 y3 y4 y5 y6 y7 y8) (signal_Check.l0 (k + 1) y0 y1 y2 y3 y4 y5 y6 y7 y8))
  | 0 => fun _ _ _ _ _ _ _ _ _ r h => by simp [signal_Check.l0] at h
  | k + 1 => by
    have ih0 := signal_Check.mono_l k
    · intro y0 y1 y2 y3 y4 y5 y6 y7 y8
      unfold signal_Check.l0
      repeat' first
      | (with_reducible exact ih0 _ _ _ _ _ _ _ _ _)
      | (with_reducible exact signal_Shape.mono _ _ _ _ _ _)
      | (with_reducible exact LeO.refl _)
      | (with_reducible exact LeO.none _)
      | (with_reducible refine LeO.ite ?_ ?_)
      | (with_reducible refine LeO.bind ?_ (fun _ => ?_))
      | exact ih0 _ _ _ _ _ _ _ _ _
      | exact signal_Shape.mono _ _ _ _ _ _
      | exact LeO.none _
      | refine LeO.ite ?_ ?_
      | refine LeO.bind ?_ (fun _ => ?_)
theorem signal_Check.mono : ∀ a0 a1 a2 a3 a4 a5 k, LeO (signal_Check.f k a0 a1 a2 a3 a4 a5) (signal_Check.f (k + 1) a0 a1 a2 a3 a4 a5) := by
  intro a0 a1 a2 a3 a4 a5 k
  have ih0 := signal_Check.mono_l k
  unfold signal_Check.f
  repeat' first
      | (with_reducible exact ih0 _ _ _ _ _ _ _ _ _)
      | (with_reducible exact signal_Shape.mono _ _ _ _ _ _)
      | (with_reducible exact LeO.refl _)
      | (with_reducible exact LeO.none _)
      | (with_reducible refine LeO.ite ?_ ?_)
      | (with_reducible refine LeO.bind ?_ (fun _ => ?_))
      | exact ih0 _ _ _ _ _ _ _ _ _
      | exact signal_Shape.mono _ _ _ _ _ _
      | exact LeO.none _
      | refine LeO.ite ?_ ?_
      | refine LeO.bind ?_ (fun _ => ?_)
set_option maxHeartbeats 8000000 in
set_option maxRecDepth 100000 in
theorem signal_Check.calls (k : Nat) (a0_0 : Int) (a0_1 : Int) (a0_2 : Int) (a0_3 : Int) (a0_4 : Int) (A0_5 : Option Addr) (c0_5 : Nat) (l0_5 : List Int) (r : Int) (w : World) (hr0_5 : Kd.C (Kd.int .i64) w A0_5 l0_5.length l0_5) (hc0_5 : l0_5.length ≤ c0_5) (h : signal_Check.f k a0_0 a0_1 a0_2 a0_3 a0_4 l0_5 = some r) :
    Calls Try.prog 42 #[.agg #[.int .i64 a0_0, .int .i64 a0_1, .int .i64 a0_2, .int .i64 a0_3, .int .i64 a0_4, .slice A0_5 l0_5.length c0_5]] w fun e w' => e = .returned (.int .i64 r) ∧ Below w.heap.size w w' := by
  have hu26 := Try.underlying26
  have hu23 := Try.underlying23
  have HR0_5 := Aside0.mk hr0_5
  have HC0_5 := Aside0.mk hc0_5
  clear hr0_5 hc0_5
  have HB := Aside0.mk (Below.refl w.heap.size w)
  have H : ((signal_Shape.f k a0_0 a0_1 a0_2 a0_3 a0_4).bind fun bt248 => (if bt248.2 = 0 then (if bt248.1 = (l0_5.length : Int) then (signal_Check.l0 k l0_5 (l0_5.length : Int) 0 a0_0 a0_1 a0_2 a0_3 a0_4 l0_5) else (some 17)) else (some bt248.2))) = some r := h
  clear h
  replace H := Option.bind_eq_some_iff.mp H
  obtain ⟨⟨t248, t249⟩, A20, H⟩ := H
  replace H : (if t249 = 0 then (if t248 = (l0_5.length : Int) then (signal_Check.l0 k l0_5 (l0_5.length : Int) 0 a0_0 a0_1 a0_2 a0_3 a0_4 l0_5) else (some 17)) else (some t249)) = some r := H
  have A2 := Aside0.mk A20
  clear A20
  by_cases c3 : t249 = 0
  · rw [if_pos c3] at H
    have c3b0 : (t249 == 0) = true := beq_iff_eq.mpr c3
    have c3b1 : (t249 != 0) = false := bne_eq_false_iff_eq.mpr c3
    clear c3
    by_cases c4 : t248 = (l0_5.length : Int)
    · rw [if_pos c4] at H
      have c4b0 : (t248 == (l0_5.length : Int)) = true := beq_iff_eq.mpr c4
      have c4b1 : (t248 != (l0_5.length : Int)) = false := bne_eq_false_iff_eq.mpr c4
      clear c4
      have H' := Aside0.mk H
      clear H
      go_enter Try.func42, Try.ntmps42
      go_wp2_with (first | ((with_reducible refine gate_dst (N := 1) rfl ?_); refine box_event ?hg (N := 1) ?hd (cs := #[.int .i64 a0_0, .int .i64 a0_1, .int .i64 a0_2, .int .i64 a0_3, .int .i64 a0_4, .slice A0_5 l0_5.length c0_5]) (t := 26) ?hr ?_; (case hd => rfl); (case hg => rfl); (case hr => first | (go_simp; done) | (go_simp; rfl)); intro gb247 hg w5 hbox hb; have n0_ := Aside0.mk (below_step (by repeat (first | (with_reducible first | exact HB.out | apply below_alloc | apply pw_below_drewN | apply below_drew1) | exact HB.out)) hb); have n1_ := Aside0.mk (hbox); have n2_ := Aside0.mk ((by rw [hg]; exact (below_size (by repeat (first | (with_reducible first | exact HB.out | apply below_alloc | apply pw_below_drewN | apply below_drew1) | exact HB.out))) : w.heap.size ≤ gb247)); have n3_ := Aside0.mk ((by rw [hg]; exact (below_size (by repeat (first | (with_reducible first | exact HB.out | apply below_alloc | apply pw_below_drewN | apply below_drew1) | exact HB.out))) : w.heap.size ≤ gb247)); clear HB; have HB := n0_; have BK247 := n1_; have GW247 := n2_; have GE247 := n3_; clear n0_ n1_ n2_ n3_; clear hb hbox hg; have hcz6_0 : w5.cell? ⟨gb247, 0, none⟩ = some (.int .i64 a0_0) := (blk_cell BK247.out 0).trans rfl; have hcz6_1 : w5.cell? ⟨gb247, 1, none⟩ = some (.int .i64 a0_1) := (blk_cell BK247.out 1).trans rfl; have hcz6_2 : w5.cell? ⟨gb247, 2, none⟩ = some (.int .i64 a0_2) := (blk_cell BK247.out 2).trans rfl; have hcz6_3 : w5.cell? ⟨gb247, 3, none⟩ = some (.int .i64 a0_3) := (blk_cell BK247.out 3).trans rfl; have hcz6_4 : w5.cell? ⟨gb247, 4, none⟩ = some (.int .i64 a0_4) := (blk_cell BK247.out 4).trans rfl; have hcz6_5 : w5.cell? ⟨gb247, 5, none⟩ = some (.slice A0_5 l0_5.length c0_5) := (blk_cell BK247.out 5).trans rfl; have hfz6_0 := blk_frozen BK247.out 0; have hfz6_1 := blk_frozen BK247.out 1; have hfz6_2 := blk_frozen BK247.out 2; have hfz6_3 := blk_frozen BK247.out 3; have hfz6_4 := blk_frozen BK247.out 4; have hfz6_5 := blk_frozen BK247.out 5) | ((with_reducible refine gate_callee (f := 22) rfl ?_); refine goesL_ (some 16) rfl rfl Try.func22 (by kernel_rfl) rfl #[.agg #[.int .i64 a0_0, .int .i64 a0_1], .int .i64 a0_2, .int .i64 a0_3, .int .i64 a0_4] rfl (by (try simp only [List.map_toArray, List.map_cons, List.map_nil]); first | done | rfl | (simp only [List.length_drop, List.length_take]; rfl)) ?_; (with_reducible refine (signal_Shape.calls k a0_0 a0_1 a0_2 a0_3 a0_4 t248 t249 _ A2.out).mono ?_); rintro e w7 ⟨rfl, hb⟩; refine ⟨_, rfl, ?_⟩; have n0_ := Aside0.mk (blk_below (g := gb247) (o := .cells #[.int .i64 a0_0, .int .i64 a0_1, .int .i64 a0_2, .int .i64 a0_3, .int .i64 a0_4, .slice A0_5 l0_5.length c0_5] 26 (0, 0)) (by (with_reducible repeat (first | refine blk_drewN ?_ _ | refine blk_drew ?_ | refine blk_alloc ?_ _)); exact BK247.out) hb); have n1_ := Aside0.mk (below_step (by repeat (first | (with_reducible first | exact HB.out | apply below_alloc | apply pw_below_drewN | apply below_drew1 | refine below_set ?_ GE247.out) | exact HB.out)) hb); clear BK247; clear HB; have BK247 := n0_; have HB := n1_; clear n0_ n1_; (try clear hb); (try clear hb2); (try clear hk); (try clear hi); have hcz8_0 : w7.cell? ⟨gb247, 0, none⟩ = some (.int .i64 a0_0) := (blk_cell BK247.out 0).trans rfl; have hcz8_1 : w7.cell? ⟨gb247, 1, none⟩ = some (.int .i64 a0_1) := (blk_cell BK247.out 1).trans rfl; have hcz8_2 : w7.cell? ⟨gb247, 2, none⟩ = some (.int .i64 a0_2) := (blk_cell BK247.out 2).trans rfl; have hcz8_3 : w7.cell? ⟨gb247, 3, none⟩ = some (.int .i64 a0_3) := (blk_cell BK247.out 3).trans rfl; have hcz8_4 : w7.cell? ⟨gb247, 4, none⟩ = some (.int .i64 a0_4) := (blk_cell BK247.out 4).trans rfl; have hcz8_5 : w7.cell? ⟨gb247, 5, none⟩ = some (.slice A0_5 l0_5.length c0_5) := (blk_cell BK247.out 5).trans rfl; have hfz8_0 := blk_frozen BK247.out 0; have hfz8_1 := blk_frozen BK247.out 1; have hfz8_2 := blk_frozen BK247.out 2; have hfz8_3 := blk_frozen BK247.out 3; have hfz8_4 := blk_frozen BK247.out 4; have hfz8_5 := blk_frozen BK247.out 5))
      go_loopg [30] k (fun kq v30 w' => ∃ (x30_1 : Int), v30 = .int .i64 x30_1 ∧ Aside0 (signal_Check.l0 kq l0_5 (l0_5.length : Int) x30_1 a0_0 a0_1 a0_2 a0_3 a0_4 l0_5 = some r) ∧ Aside0 (kq ≤ k) ∧ Aside0 (w'.heap[gb247]? = some (.cells #[.int .i64 a0_0, .int .i64 a0_1, .int .i64 a0_2, .int .i64 a0_3, .int .i64 a0_4, (.slice A0_5 l0_5.length c0_5)] 26 (0, 0))) ∧ Aside0 (Below w.heap.size w w'))
      case atStart => exact ⟨(0), (by first | rfl | (simp; done) | (simp [*]; done)), H', ⟨Nat.le_refl _⟩, ⟨by (with_reducible repeat (first | refine blk_drewN ?_ _ | refine blk_drew ?_ | refine blk_alloc ?_ _)); exact BK247.out⟩, ⟨by repeat (first | (with_reducible first | exact HB.out | apply below_alloc | apply pw_below_drewN | apply below_drew1 | refine below_set ?_ GE247.out) | exact HB.out)⟩⟩
      case round =>
        clear H'
        try clear c2
        try clear p2
        try clear c3
        try clear c3b0
        try clear c3b1
        try clear c4
        try clear c4b0
        try clear c4b1
        try clear hcz6_0
        try clear hcz6_1
        try clear hcz6_2
        try clear hcz6_3
        try clear hcz6_4
        try clear hcz6_5
        try clear hcz8_0
        try clear hcz8_1
        try clear hcz8_2
        try clear hcz8_3
        try clear hcz8_4
        try clear hcz8_5
        try clear hfz6_0
        try clear hfz6_1
        try clear hfz6_2
        try clear hfz6_3
        try clear hfz6_4
        try clear hfz6_5
        try clear hfz8_0
        try clear hfz8_1
        try clear hfz8_2
        try clear hfz8_3
        try clear hfz8_4
        try clear hfz8_5
        obtain ⟨x30_1, rfl, HA, HK1, BK247, HB⟩ := hrel
        cases gk with
        | zero => exact absurd HA.out (by simp [signal_Check.l0])
        | succ k1 =>
          have H := HA.out
          clear HA
          simp only [signal_Check.l0] at H
          by_cases c9 : x30_1 < (l0_5.length : Int)
          · rw [if_pos c9] at H
            have c9b0 : decide (x30_1 < (l0_5.length : Int)) = true := decide_eq_true c9
            clear c9
            by_cases c10 : 0 ≤ x30_1
            · rw [if_pos c10] at H
              have c10b0 : decide (0 ≤ x30_1) = true := decide_eq_true c10
              clear c10
              by_cases c11 : x30_1 < (l0_5.length : Int)
              · rw [if_pos c11] at H
                have c11b0 : decide (x30_1 < (l0_5.length : Int)) = true := decide_eq_true c11
                clear c11
                replace H := Option.bind_eq_some_iff.mp H
                obtain ⟨t251, A120, H⟩ := H
                replace H : (if (rd l0_5 x30_1) < t251 then (some 17) else ((kind_High.f a0_0 a0_1).bind fun t252 => (if (rd l0_5 x30_1) > t252 then (some 17) else (signal_Check.l0 k1 l0_5 (l0_5.length : Int) (wrap64 (x30_1 + 1)) a0_0 a0_1 a0_2 a0_3 a0_4 l0_5)))) = some r := H
                have A12 := Aside0.mk A120
                clear A120
                by_cases c13 : (rd l0_5 x30_1) < t251
                · rw [if_pos c13] at H
                  have c13b0 : decide ((rd l0_5 x30_1) < t251) = true := decide_eq_true c13
                  clear c13
                  obtain rfl := Option.some.inj H
                  have p250 : 0 ≤ (x30_1 : Int) := of_decide_eq_true (by first | (with_reducible assumption) | assumption)
                  have q250 : x30_1 < (l0_5.length : Int) := of_decide_eq_true (by first | (with_reducible assumption) | assumption)
                  obtain ⟨ad250, e250, hx250_0⟩ := Kd.at_int HR0_5.out x30_1 p250 q250
                  cases e250
                  replace hx250_0 := (HB.out.cell (World.block_lt_of_cell? w _ hx250_0)).trans hx250_0
                  replace p250 := eq_true p250
                  replace q250 := eq_true q250
                  have hcz14_0 : wr.cell? ⟨gb247, 0, none⟩ = some (.int .i64 a0_0) := (blk_cell BK247.out 0).trans rfl
                  have hcz14_1 : wr.cell? ⟨gb247, 1, none⟩ = some (.int .i64 a0_1) := (blk_cell BK247.out 1).trans rfl
                  have hcz14_2 : wr.cell? ⟨gb247, 2, none⟩ = some (.int .i64 a0_2) := (blk_cell BK247.out 2).trans rfl
                  have hcz14_3 : wr.cell? ⟨gb247, 3, none⟩ = some (.int .i64 a0_3) := (blk_cell BK247.out 3).trans rfl
                  have hcz14_4 : wr.cell? ⟨gb247, 4, none⟩ = some (.int .i64 a0_4) := (blk_cell BK247.out 4).trans rfl
                  have hcz14_5 : wr.cell? ⟨gb247, 5, none⟩ = some (.slice (some ad250) l0_5.length c0_5) := (blk_cell BK247.out 5).trans rfl
                  have hfz14_0 := blk_frozen BK247.out 0
                  have hfz14_1 := blk_frozen BK247.out 1
                  have hfz14_2 := blk_frozen BK247.out 2
                  have hfz14_3 := blk_frozen BK247.out 3
                  have hfz14_4 := blk_frozen BK247.out 4
                  have hfz14_5 := blk_frozen BK247.out 5
                  go_wp2_with (first | ((with_reducible refine gate_callee (f := 26) rfl ?_); refine goesL_ (some 37) rfl rfl Try.func26 (by kernel_rfl) rfl #[.agg #[.int .i64 a0_0, .int .i64 a0_1]] rfl (by (try simp only [List.map_toArray, List.map_cons, List.map_nil]); first | done | rfl | (simp only [List.length_drop, List.length_take]; rfl)) ?_; (with_reducible refine (kind_Low.calls a0_0 a0_1 t251 _ A12.out).mono ?_); rintro e w15 ⟨rfl, hb⟩; refine ⟨_, rfl, ?_⟩; have n0_ := Aside0.mk (blk_below (g := gb247) (o := .cells #[.int .i64 a0_0, .int .i64 a0_1, .int .i64 a0_2, .int .i64 a0_3, .int .i64 a0_4, .slice (some ad250) l0_5.length c0_5] 26 (0, 0)) (by (with_reducible repeat (first | refine blk_drewN ?_ _ | refine blk_drew ?_ | refine blk_alloc ?_ _)); exact BK247.out) hb); have n1_ := Aside0.mk (below_step (by repeat (first | (with_reducible first | exact HB.out | apply below_alloc | apply pw_below_drewN | apply below_drew1 | refine below_set ?_ GE247.out) | exact HB.out)) hb); clear BK247; clear HB; have BK247 := n0_; have HB := n1_; clear n0_ n1_; (try clear hb); (try clear hb2); (try clear hk); (try clear hi)))
                  go_ret
                  exact ⟨by first | rfl | (simp [errW_none, errW_some] <;> rfl) | (simp [*, errW_none, errW_some] <;> rfl), by repeat (first | (with_reducible first | exact HB.out | apply below_alloc | apply pw_below_drewN | apply below_drew1 | refine below_set ?_ GE247.out) | exact HB.out)⟩
                · rw [if_neg c13] at H
                  have c13b0 : decide ((rd l0_5 x30_1) < t251) = false := decide_eq_false c13
                  clear c13
                  replace H := Option.bind_eq_some_iff.mp H
                  obtain ⟨t252, A160, H⟩ := H
                  replace H : (if (rd l0_5 x30_1) > t252 then (some 17) else (signal_Check.l0 k1 l0_5 (l0_5.length : Int) (wrap64 (x30_1 + 1)) a0_0 a0_1 a0_2 a0_3 a0_4 l0_5)) = some r := H
                  have A16 := Aside0.mk A160
                  clear A160
                  by_cases c17 : (rd l0_5 x30_1) > t252
                  · rw [if_pos c17] at H
                    have c17b0 : decide (t252 < (rd l0_5 x30_1)) = true := decide_eq_true c17
                    clear c17
                    obtain rfl := Option.some.inj H
                    have p250 : 0 ≤ (x30_1 : Int) := of_decide_eq_true (by first | (with_reducible assumption) | assumption)
                    have q250 : x30_1 < (l0_5.length : Int) := of_decide_eq_true (by first | (with_reducible assumption) | assumption)
                    obtain ⟨ad250, e250, hx250_0⟩ := Kd.at_int HR0_5.out x30_1 p250 q250
                    cases e250
                    replace hx250_0 := (HB.out.cell (World.block_lt_of_cell? w _ hx250_0)).trans hx250_0
                    replace p250 := eq_true p250
                    replace q250 := eq_true q250
                    have hcz18_0 : wr.cell? ⟨gb247, 0, none⟩ = some (.int .i64 a0_0) := (blk_cell BK247.out 0).trans rfl
                    have hcz18_1 : wr.cell? ⟨gb247, 1, none⟩ = some (.int .i64 a0_1) := (blk_cell BK247.out 1).trans rfl
                    have hcz18_2 : wr.cell? ⟨gb247, 2, none⟩ = some (.int .i64 a0_2) := (blk_cell BK247.out 2).trans rfl
                    have hcz18_3 : wr.cell? ⟨gb247, 3, none⟩ = some (.int .i64 a0_3) := (blk_cell BK247.out 3).trans rfl
                    have hcz18_4 : wr.cell? ⟨gb247, 4, none⟩ = some (.int .i64 a0_4) := (blk_cell BK247.out 4).trans rfl
                    have hcz18_5 : wr.cell? ⟨gb247, 5, none⟩ = some (.slice (some ad250) l0_5.length c0_5) := (blk_cell BK247.out 5).trans rfl
                    have hfz18_0 := blk_frozen BK247.out 0
                    have hfz18_1 := blk_frozen BK247.out 1
                    have hfz18_2 := blk_frozen BK247.out 2
                    have hfz18_3 := blk_frozen BK247.out 3
                    have hfz18_4 := blk_frozen BK247.out 4
                    have hfz18_5 := blk_frozen BK247.out 5
                    go_wp2_with (first | ((with_reducible refine gate_callee (f := 26) rfl ?_); refine goesL_ (some 37) rfl rfl Try.func26 (by kernel_rfl) rfl #[.agg #[.int .i64 a0_0, .int .i64 a0_1]] rfl (by (try simp only [List.map_toArray, List.map_cons, List.map_nil]); first | done | rfl | (simp only [List.length_drop, List.length_take]; rfl)) ?_; (with_reducible refine (kind_Low.calls a0_0 a0_1 t251 _ A12.out).mono ?_); rintro e w19 ⟨rfl, hb⟩; refine ⟨_, rfl, ?_⟩; have n0_ := Aside0.mk (blk_below (g := gb247) (o := .cells #[.int .i64 a0_0, .int .i64 a0_1, .int .i64 a0_2, .int .i64 a0_3, .int .i64 a0_4, .slice (some ad250) l0_5.length c0_5] 26 (0, 0)) (by (with_reducible repeat (first | refine blk_drewN ?_ _ | refine blk_drew ?_ | refine blk_alloc ?_ _)); exact BK247.out) hb); have n1_ := Aside0.mk (below_step (by repeat (first | (with_reducible first | exact HB.out | apply below_alloc | apply pw_below_drewN | apply below_drew1 | refine below_set ?_ GE247.out) | exact HB.out)) hb); clear BK247; clear HB; have BK247 := n0_; have HB := n1_; clear n0_ n1_; (try clear hb); (try clear hb2); (try clear hk); (try clear hi); have hcz20_0 : w19.cell? ⟨gb247, 0, none⟩ = some (.int .i64 a0_0) := (blk_cell BK247.out 0).trans rfl; have hcz20_1 : w19.cell? ⟨gb247, 1, none⟩ = some (.int .i64 a0_1) := (blk_cell BK247.out 1).trans rfl; have hcz20_2 : w19.cell? ⟨gb247, 2, none⟩ = some (.int .i64 a0_2) := (blk_cell BK247.out 2).trans rfl; have hcz20_3 : w19.cell? ⟨gb247, 3, none⟩ = some (.int .i64 a0_3) := (blk_cell BK247.out 3).trans rfl; have hcz20_4 : w19.cell? ⟨gb247, 4, none⟩ = some (.int .i64 a0_4) := (blk_cell BK247.out 4).trans rfl; have hcz20_5 : w19.cell? ⟨gb247, 5, none⟩ = some (.slice (some ad250) l0_5.length c0_5) := (blk_cell BK247.out 5).trans rfl; have hfz20_0 := blk_frozen BK247.out 0; have hfz20_1 := blk_frozen BK247.out 1; have hfz20_2 := blk_frozen BK247.out 2; have hfz20_3 := blk_frozen BK247.out 3; have hfz20_4 := blk_frozen BK247.out 4; have hfz20_5 := blk_frozen BK247.out 5) | (go_at_call 28; (with_reducible refine (kind_High.calls a0_0 a0_1 t252 _ A16.out).mono ?_); rintro e w21 ⟨rfl, hb⟩; have n0_ := Aside0.mk (blk_below (g := gb247) (o := .cells #[.int .i64 a0_0, .int .i64 a0_1, .int .i64 a0_2, .int .i64 a0_3, .int .i64 a0_4, .slice (some ad250) l0_5.length c0_5] 26 (0, 0)) (by (with_reducible repeat (first | refine blk_drewN ?_ _ | refine blk_drew ?_ | refine blk_alloc ?_ _)); exact BK247.out) hb); have n1_ := Aside0.mk (below_step (by repeat (first | (with_reducible first | exact HB.out | apply below_alloc | apply pw_below_drewN | apply below_drew1 | refine below_set ?_ GE247.out) | exact HB.out)) hb); clear BK247; clear HB; have BK247 := n0_; have HB := n1_; clear n0_ n1_; (try clear hb); (try clear hb2); (try clear hk); (try clear hi)))
                    go_ret
                    exact ⟨by first | rfl | (simp [errW_none, errW_some] <;> rfl) | (simp [*, errW_none, errW_some] <;> rfl), by repeat (first | (with_reducible first | exact HB.out | apply below_alloc | apply pw_below_drewN | apply below_drew1 | refine below_set ?_ GE247.out) | exact HB.out)⟩
                  · rw [if_neg c17] at H
                    have c17b0 : decide (t252 < (rd l0_5 x30_1)) = false := decide_eq_false c17
                    clear c17
                    have H' := Aside0.mk H
                    clear H
                    have p250 : 0 ≤ (x30_1 : Int) := of_decide_eq_true (by first | (with_reducible assumption) | assumption)
                    have q250 : x30_1 < (l0_5.length : Int) := of_decide_eq_true (by first | (with_reducible assumption) | assumption)
                    obtain ⟨ad250, e250, hx250_0⟩ := Kd.at_int HR0_5.out x30_1 p250 q250
                    cases e250
                    replace hx250_0 := (HB.out.cell (World.block_lt_of_cell? w _ hx250_0)).trans hx250_0
                    replace p250 := eq_true p250
                    replace q250 := eq_true q250
                    have hcz22_0 : wr.cell? ⟨gb247, 0, none⟩ = some (.int .i64 a0_0) := (blk_cell BK247.out 0).trans rfl
                    have hcz22_1 : wr.cell? ⟨gb247, 1, none⟩ = some (.int .i64 a0_1) := (blk_cell BK247.out 1).trans rfl
                    have hcz22_2 : wr.cell? ⟨gb247, 2, none⟩ = some (.int .i64 a0_2) := (blk_cell BK247.out 2).trans rfl
                    have hcz22_3 : wr.cell? ⟨gb247, 3, none⟩ = some (.int .i64 a0_3) := (blk_cell BK247.out 3).trans rfl
                    have hcz22_4 : wr.cell? ⟨gb247, 4, none⟩ = some (.int .i64 a0_4) := (blk_cell BK247.out 4).trans rfl
                    have hcz22_5 : wr.cell? ⟨gb247, 5, none⟩ = some (.slice (some ad250) l0_5.length c0_5) := (blk_cell BK247.out 5).trans rfl
                    have hfz22_0 := blk_frozen BK247.out 0
                    have hfz22_1 := blk_frozen BK247.out 1
                    have hfz22_2 := blk_frozen BK247.out 2
                    have hfz22_3 := blk_frozen BK247.out 3
                    have hfz22_4 := blk_frozen BK247.out 4
                    have hfz22_5 := blk_frozen BK247.out 5
                    go_wp2_with (first | ((with_reducible refine gate_callee (f := 26) rfl ?_); refine goesL_ (some 37) rfl rfl Try.func26 (by kernel_rfl) rfl #[.agg #[.int .i64 a0_0, .int .i64 a0_1]] rfl (by (try simp only [List.map_toArray, List.map_cons, List.map_nil]); first | done | rfl | (simp only [List.length_drop, List.length_take]; rfl)) ?_; (with_reducible refine (kind_Low.calls a0_0 a0_1 t251 _ A12.out).mono ?_); rintro e w23 ⟨rfl, hb⟩; refine ⟨_, rfl, ?_⟩; have n0_ := Aside0.mk (blk_below (g := gb247) (o := .cells #[.int .i64 a0_0, .int .i64 a0_1, .int .i64 a0_2, .int .i64 a0_3, .int .i64 a0_4, .slice (some ad250) l0_5.length c0_5] 26 (0, 0)) (by (with_reducible repeat (first | refine blk_drewN ?_ _ | refine blk_drew ?_ | refine blk_alloc ?_ _)); exact BK247.out) hb); have n1_ := Aside0.mk (below_step (by repeat (first | (with_reducible first | exact HB.out | apply below_alloc | apply pw_below_drewN | apply below_drew1 | refine below_set ?_ GE247.out) | exact HB.out)) hb); clear BK247; clear HB; have BK247 := n0_; have HB := n1_; clear n0_ n1_; (try clear hb); (try clear hb2); (try clear hk); (try clear hi); have hcz24_0 : w23.cell? ⟨gb247, 0, none⟩ = some (.int .i64 a0_0) := (blk_cell BK247.out 0).trans rfl; have hcz24_1 : w23.cell? ⟨gb247, 1, none⟩ = some (.int .i64 a0_1) := (blk_cell BK247.out 1).trans rfl; have hcz24_2 : w23.cell? ⟨gb247, 2, none⟩ = some (.int .i64 a0_2) := (blk_cell BK247.out 2).trans rfl; have hcz24_3 : w23.cell? ⟨gb247, 3, none⟩ = some (.int .i64 a0_3) := (blk_cell BK247.out 3).trans rfl; have hcz24_4 : w23.cell? ⟨gb247, 4, none⟩ = some (.int .i64 a0_4) := (blk_cell BK247.out 4).trans rfl; have hcz24_5 : w23.cell? ⟨gb247, 5, none⟩ = some (.slice (some ad250) l0_5.length c0_5) := (blk_cell BK247.out 5).trans rfl; have hfz24_0 := blk_frozen BK247.out 0; have hfz24_1 := blk_frozen BK247.out 1; have hfz24_2 := blk_frozen BK247.out 2; have hfz24_3 := blk_frozen BK247.out 3; have hfz24_4 := blk_frozen BK247.out 4; have hfz24_5 := blk_frozen BK247.out 5) | (go_at_call 28; (with_reducible refine (kind_High.calls a0_0 a0_1 t252 _ A16.out).mono ?_); rintro e w25 ⟨rfl, hb⟩; have n0_ := Aside0.mk (blk_below (g := gb247) (o := .cells #[.int .i64 a0_0, .int .i64 a0_1, .int .i64 a0_2, .int .i64 a0_3, .int .i64 a0_4, .slice (some ad250) l0_5.length c0_5] 26 (0, 0)) (by (with_reducible repeat (first | refine blk_drewN ?_ _ | refine blk_drew ?_ | refine blk_alloc ?_ _)); exact BK247.out) hb); have n1_ := Aside0.mk (below_step (by repeat (first | (with_reducible first | exact HB.out | apply below_alloc | apply pw_below_drewN | apply below_drew1 | refine below_set ?_ GE247.out) | exact HB.out)) hb); clear BK247; clear HB; have BK247 := n0_; have HB := n1_; clear n0_ n1_; (try clear hb); (try clear hb2); (try clear hk); (try clear hi)))
                    go_roundg k1
                    case measure => have := HK1.out; omega
                    case rel => exact ⟨(wrap64 (x30_1 + 1)), (by first | rfl | (simp; done) | (simp [*]; done)), H', ⟨by have := HK1.out; omega⟩, ⟨by (with_reducible repeat (first | refine blk_drewN ?_ _ | refine blk_drew ?_ | refine blk_alloc ?_ _)); exact BK247.out⟩, ⟨by repeat (first | (with_reducible first | exact HB.out | apply below_alloc | apply pw_below_drewN | apply below_drew1 | refine below_set ?_ GE247.out) | exact HB.out)⟩⟩
              · rw [if_neg c11] at H
                exact absurd H (by simp)
            · rw [if_neg c10] at H
              exact absurd H (by simp)
          · rw [if_neg c9] at H
            have c9b0 : decide (x30_1 < (l0_5.length : Int)) = false := decide_eq_false c9
            clear c9
            obtain rfl := Option.some.inj H
            go_wp2
            go_ret
            exact ⟨by first | rfl | (simp [errW_none, errW_some] <;> rfl) | (simp [*, errW_none, errW_some] <;> rfl), by repeat (first | (with_reducible first | exact HB.out | apply below_alloc | apply pw_below_drewN | apply below_drew1 | refine below_set ?_ GE247.out) | exact HB.out)⟩
    · rw [if_neg c4] at H
      have c4b0 : (t248 == (l0_5.length : Int)) = false := beq_eq_false_iff_ne.mpr c4
      have c4b1 : (t248 != (l0_5.length : Int)) = true := bne_iff_ne.mpr c4
      obtain rfl := Option.some.inj H
      go_enter Try.func42, Try.ntmps42
      go_wp2_with (first | ((with_reducible refine gate_dst (N := 1) rfl ?_); refine box_event ?hg (N := 1) ?hd (cs := #[.int .i64 a0_0, .int .i64 a0_1, .int .i64 a0_2, .int .i64 a0_3, .int .i64 a0_4, .slice A0_5 l0_5.length c0_5]) (t := 26) ?hr ?_; (case hd => rfl); (case hg => rfl); (case hr => first | (go_simp; done) | (go_simp; rfl)); intro gb247 hg w26 hbox hb; have n0_ := Aside0.mk (below_step (by repeat (first | (with_reducible first | exact HB.out | apply below_alloc | apply pw_below_drewN | apply below_drew1) | exact HB.out)) hb); have n1_ := Aside0.mk (hbox); have n2_ := Aside0.mk ((by rw [hg]; exact (below_size (by repeat (first | (with_reducible first | exact HB.out | apply below_alloc | apply pw_below_drewN | apply below_drew1) | exact HB.out))) : w.heap.size ≤ gb247)); have n3_ := Aside0.mk ((by rw [hg]; exact (below_size (by repeat (first | (with_reducible first | exact HB.out | apply below_alloc | apply pw_below_drewN | apply below_drew1) | exact HB.out))) : w.heap.size ≤ gb247)); clear HB; have HB := n0_; have BK247 := n1_; have GW247 := n2_; have GE247 := n3_; clear n0_ n1_ n2_ n3_; clear hb hbox hg; have hcz27_0 : w26.cell? ⟨gb247, 0, none⟩ = some (.int .i64 a0_0) := (blk_cell BK247.out 0).trans rfl; have hcz27_1 : w26.cell? ⟨gb247, 1, none⟩ = some (.int .i64 a0_1) := (blk_cell BK247.out 1).trans rfl; have hcz27_2 : w26.cell? ⟨gb247, 2, none⟩ = some (.int .i64 a0_2) := (blk_cell BK247.out 2).trans rfl; have hcz27_3 : w26.cell? ⟨gb247, 3, none⟩ = some (.int .i64 a0_3) := (blk_cell BK247.out 3).trans rfl; have hcz27_4 : w26.cell? ⟨gb247, 4, none⟩ = some (.int .i64 a0_4) := (blk_cell BK247.out 4).trans rfl; have hcz27_5 : w26.cell? ⟨gb247, 5, none⟩ = some (.slice A0_5 l0_5.length c0_5) := (blk_cell BK247.out 5).trans rfl; have hfz27_0 := blk_frozen BK247.out 0; have hfz27_1 := blk_frozen BK247.out 1; have hfz27_2 := blk_frozen BK247.out 2; have hfz27_3 := blk_frozen BK247.out 3; have hfz27_4 := blk_frozen BK247.out 4; have hfz27_5 := blk_frozen BK247.out 5) | ((with_reducible refine gate_callee (f := 22) rfl ?_); refine goesL_ (some 16) rfl rfl Try.func22 (by kernel_rfl) rfl #[.agg #[.int .i64 a0_0, .int .i64 a0_1], .int .i64 a0_2, .int .i64 a0_3, .int .i64 a0_4] rfl (by (try simp only [List.map_toArray, List.map_cons, List.map_nil]); first | done | rfl | (simp only [List.length_drop, List.length_take]; rfl)) ?_; (with_reducible refine (signal_Shape.calls k a0_0 a0_1 a0_2 a0_3 a0_4 t248 t249 _ A2.out).mono ?_); rintro e w28 ⟨rfl, hb⟩; refine ⟨_, rfl, ?_⟩; have n0_ := Aside0.mk (blk_below (g := gb247) (o := .cells #[.int .i64 a0_0, .int .i64 a0_1, .int .i64 a0_2, .int .i64 a0_3, .int .i64 a0_4, .slice A0_5 l0_5.length c0_5] 26 (0, 0)) (by (with_reducible repeat (first | refine blk_drewN ?_ _ | refine blk_drew ?_ | refine blk_alloc ?_ _)); exact BK247.out) hb); have n1_ := Aside0.mk (below_step (by repeat (first | (with_reducible first | exact HB.out | apply below_alloc | apply pw_below_drewN | apply below_drew1 | refine below_set ?_ GE247.out) | exact HB.out)) hb); clear BK247; clear HB; have BK247 := n0_; have HB := n1_; clear n0_ n1_; (try clear hb); (try clear hb2); (try clear hk); (try clear hi); have hcz29_0 : w28.cell? ⟨gb247, 0, none⟩ = some (.int .i64 a0_0) := (blk_cell BK247.out 0).trans rfl; have hcz29_1 : w28.cell? ⟨gb247, 1, none⟩ = some (.int .i64 a0_1) := (blk_cell BK247.out 1).trans rfl; have hcz29_2 : w28.cell? ⟨gb247, 2, none⟩ = some (.int .i64 a0_2) := (blk_cell BK247.out 2).trans rfl; have hcz29_3 : w28.cell? ⟨gb247, 3, none⟩ = some (.int .i64 a0_3) := (blk_cell BK247.out 3).trans rfl; have hcz29_4 : w28.cell? ⟨gb247, 4, none⟩ = some (.int .i64 a0_4) := (blk_cell BK247.out 4).trans rfl; have hcz29_5 : w28.cell? ⟨gb247, 5, none⟩ = some (.slice A0_5 l0_5.length c0_5) := (blk_cell BK247.out 5).trans rfl; have hfz29_0 := blk_frozen BK247.out 0; have hfz29_1 := blk_frozen BK247.out 1; have hfz29_2 := blk_frozen BK247.out 2; have hfz29_3 := blk_frozen BK247.out 3; have hfz29_4 := blk_frozen BK247.out 4; have hfz29_5 := blk_frozen BK247.out 5))
      go_ret
      exact ⟨by first | rfl | (simp [errW_none, errW_some] <;> rfl) | (simp [*, errW_none, errW_some] <;> rfl), by repeat (first | (with_reducible first | exact HB.out | apply below_alloc | apply pw_below_drewN | apply below_drew1 | refine below_set ?_ GE247.out) | exact HB.out)⟩
  · rw [if_neg c3] at H
    have c3b0 : (t249 == 0) = false := beq_eq_false_iff_ne.mpr c3
    have c3b1 : (t249 != 0) = true := bne_iff_ne.mpr c3
    obtain rfl := Option.some.inj H
    go_enter Try.func42, Try.ntmps42
    go_wp2_with (first | ((with_reducible refine gate_dst (N := 1) rfl ?_); refine box_event ?hg (N := 1) ?hd (cs := #[.int .i64 a0_0, .int .i64 a0_1, .int .i64 a0_2, .int .i64 a0_3, .int .i64 a0_4, .slice A0_5 l0_5.length c0_5]) (t := 26) ?hr ?_; (case hd => rfl); (case hg => rfl); (case hr => first | (go_simp; done) | (go_simp; rfl)); intro gb247 hg w30 hbox hb; have n0_ := Aside0.mk (below_step (by repeat (first | (with_reducible first | exact HB.out | apply below_alloc | apply pw_below_drewN | apply below_drew1) | exact HB.out)) hb); have n1_ := Aside0.mk (hbox); have n2_ := Aside0.mk ((by rw [hg]; exact (below_size (by repeat (first | (with_reducible first | exact HB.out | apply below_alloc | apply pw_below_drewN | apply below_drew1) | exact HB.out))) : w.heap.size ≤ gb247)); have n3_ := Aside0.mk ((by rw [hg]; exact (below_size (by repeat (first | (with_reducible first | exact HB.out | apply below_alloc | apply pw_below_drewN | apply below_drew1) | exact HB.out))) : w.heap.size ≤ gb247)); clear HB; have HB := n0_; have BK247 := n1_; have GW247 := n2_; have GE247 := n3_; clear n0_ n1_ n2_ n3_; clear hb hbox hg; have hcz31_0 : w30.cell? ⟨gb247, 0, none⟩ = some (.int .i64 a0_0) := (blk_cell BK247.out 0).trans rfl; have hcz31_1 : w30.cell? ⟨gb247, 1, none⟩ = some (.int .i64 a0_1) := (blk_cell BK247.out 1).trans rfl; have hcz31_2 : w30.cell? ⟨gb247, 2, none⟩ = some (.int .i64 a0_2) := (blk_cell BK247.out 2).trans rfl; have hcz31_3 : w30.cell? ⟨gb247, 3, none⟩ = some (.int .i64 a0_3) := (blk_cell BK247.out 3).trans rfl; have hcz31_4 : w30.cell? ⟨gb247, 4, none⟩ = some (.int .i64 a0_4) := (blk_cell BK247.out 4).trans rfl; have hcz31_5 : w30.cell? ⟨gb247, 5, none⟩ = some (.slice A0_5 l0_5.length c0_5) := (blk_cell BK247.out 5).trans rfl; have hfz31_0 := blk_frozen BK247.out 0; have hfz31_1 := blk_frozen BK247.out 1; have hfz31_2 := blk_frozen BK247.out 2; have hfz31_3 := blk_frozen BK247.out 3; have hfz31_4 := blk_frozen BK247.out 4; have hfz31_5 := blk_frozen BK247.out 5) | ((with_reducible refine gate_callee (f := 22) rfl ?_); refine goesL_ (some 16) rfl rfl Try.func22 (by kernel_rfl) rfl #[.agg #[.int .i64 a0_0, .int .i64 a0_1], .int .i64 a0_2, .int .i64 a0_3, .int .i64 a0_4] rfl (by (try simp only [List.map_toArray, List.map_cons, List.map_nil]); first | done | rfl | (simp only [List.length_drop, List.length_take]; rfl)) ?_; (with_reducible refine (signal_Shape.calls k a0_0 a0_1 a0_2 a0_3 a0_4 t248 t249 _ A2.out).mono ?_); rintro e w32 ⟨rfl, hb⟩; refine ⟨_, rfl, ?_⟩; have n0_ := Aside0.mk (blk_below (g := gb247) (o := .cells #[.int .i64 a0_0, .int .i64 a0_1, .int .i64 a0_2, .int .i64 a0_3, .int .i64 a0_4, .slice A0_5 l0_5.length c0_5] 26 (0, 0)) (by (with_reducible repeat (first | refine blk_drewN ?_ _ | refine blk_drew ?_ | refine blk_alloc ?_ _)); exact BK247.out) hb); have n1_ := Aside0.mk (below_step (by repeat (first | (with_reducible first | exact HB.out | apply below_alloc | apply pw_below_drewN | apply below_drew1 | refine below_set ?_ GE247.out) | exact HB.out)) hb); clear BK247; clear HB; have BK247 := n0_; have HB := n1_; clear n0_ n1_; (try clear hb); (try clear hb2); (try clear hk); (try clear hi)))
    go_ret
    exact ⟨by first | rfl | (simp [errW_none, errW_some] <;> rfl) | (simp [*, errW_none, errW_some] <;> rfl), by repeat (first | (with_reducible first | exact HB.out | apply below_alloc | apply pw_below_drewN | apply below_drew1 | refine below_set ?_ GE247.out) | exact HB.out)⟩

end Go.Proofs.Ytggfgbhodkfllaa.F
