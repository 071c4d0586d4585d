/- Written by wip/myprint.py of this session, out of Lean's print of the program: what Go functions come to, and that their calls come to it; no condition. -/
import Derived.Test.YtggfgbhodkfllaaF0
import Derived.Test.YtggfgbhodkfllaaFdamaskref231
namespace Go.Proofs.Ytggfgbhodkfllaa.F
open Go.RowKit Go.Proofs.YtggfgbhodkfllaaW.PrintWords Go.Proofs.YtggfgbhodkfllaaW.PrintLast Go.Proofs.YtggfgbhodkfllaaW.PrintMore Go.Proofs.YtggfgbhodkfllaaW
attribute [local go_sem] max2_int min2_int max_two min_two max_three min_three max_four min_four   -- for this text's walks alone
set_option linter.unusedVariables false
set_option linter.unusedSimpArgs false

/-! ### damaskref23_Index: function 20 -/
def damaskref23_Index.j0 : Nat → Int → Int → Int → Bool → Int → Int → Int → Int → Int → List Int → Option (Int × Bool)
  | 0, _, _, _, _, _, _, _, _, _, _ => none
  | k + 1, x1, x2, x3, x58, x117000, x117001, x117002, x117003, x117004, x117005 => if x58 = true then (some (0, false)) else (if x117000 = 1 then (some (wrap64 ((wrap64 (x117002 * x2)) + x1), true)) else (some (wrap64 ((wrap64 ((wrap64 ((wrap64 (x117003 * x117004)) * x1)) + (wrap64 (x117003 * x3)))) + x2), true)))
def damaskref23_Index.f (k : Nat) (a0_0 : Int) (a0_1 : Int) (a0_2 : Int) (a0_3 : Int) (a0_4 : Int) (l0_5 : List Int) (a1 : Int) (a2 : Int) (a3 : Int) : Option (Int × Bool) := (damaskref23_Shape.f k a0_0 a0_1 a0_2 a0_3 a0_4).bind fun bt117 => (if bt117.2 = 0 then (if a1 < 0 then (damaskref23_Index.j0 k a1 a2 a3 true a0_0 a0_1 a0_2 a0_3 a0_4 l0_5) else (if a2 < 0 then (damaskref23_Index.j0 k a1 a2 a3 true a0_0 a0_1 a0_2 a0_3 a0_4 l0_5) else (if a3 < 0 then (damaskref23_Index.j0 k a1 a2 a3 true a0_0 a0_1 a0_2 a0_3 a0_4 l0_5) else (if a1 > (wrap64 (a0_2 - 1)) then (damaskref23_Index.j0 k a1 a2 a3 true a0_0 a0_1 a0_2 a0_3 a0_4 l0_5) else (if a2 > (wrap64 (a0_3 - 1)) then (damaskref23_Index.j0 k a1 a2 a3 true a0_0 a0_1 a0_2 a0_3 a0_4 l0_5) else (damaskref23_Index.j0 k a1 a2 a3 (decide (a3 > (wrap64 (a0_4 - 1)))) a0_0 a0_1 a0_2 a0_3 a0_4 l0_5)))))) else (damaskref23_Index.j0 k a1 a2 a3 true a0_0 a0_1 a0_2 a0_3 a0_4 l0_5))
theorem damaskref23_Index.mono_l : ∀ k, (∀ y0 y1 y2 y3 y4 y5 y6 y7 y8 y9, LeO (damaskref23_Index.j0 k y0 y1 y2 y3 y4 y5 y6 y7 y8 y9) (damaskref23_Index.j0 (k + 1) y0 y1 y2 y3 y4 y5 y6 y7 y8 y9))
  | 0 => fun _ _ _ _ _ _ _ _ _ _ r h => by simp [damaskref23_Index.j0] at h
  | k + 1 => by
    have ih0 := damaskref23_Index.mono_l k
    · intro y0 y1 y2 y3 y4 y5 y6 y7 y8 y9
      unfold damaskref23_Index.j0
      repeat' first
      | (with_reducible exact ih0 _ _ _ _ _ _ _ _ _ _)
      | (with_reducible exact damaskref23_Shape.mono _ _ _ _ _ _)
      | (with_reducible exact LeO.refl _)
      | (with_reducible exact LeO.none _)
      | (with_reducible refine LeO.ite ?_ ?_)
      | (with_reducible refine LeO.bind ?_ (fun _ => ?_))
      | exact ih0 _ _ _ _ _ _ _ _ _ _
      | exact damaskref23_Shape.mono _ _ _ _ _ _
      | exact LeO.none _
      | refine LeO.ite ?_ ?_
      | refine LeO.bind ?_ (fun _ => ?_)
theorem damaskref23_Index.mono : ∀ a0 a1 a2 a3 a4 a5 a6 a7 a8 k, LeO (damaskref23_Index.f k a0 a1 a2 a3 a4 a5 a6 a7 a8) (damaskref23_Index.f (k + 1) a0 a1 a2 a3 a4 a5 a6 a7 a8) := by
  intro a0 a1 a2 a3 a4 a5 a6 a7 a8 k
  have ih0 := damaskref23_Index.mono_l k
  unfold damaskref23_Index.f
  repeat' first
      | (with_reducible exact ih0 _ _ _ _ _ _ _ _ _ _)
      | (with_reducible exact damaskref23_Shape.mono _ _ _ _ _ _)
      | (with_reducible exact LeO.refl _)
      | (with_reducible exact LeO.none _)
      | (with_reducible refine LeO.ite ?_ ?_)
      | (with_reducible refine LeO.bind ?_ (fun _ => ?_))
      | exact ih0 _ _ _ _ _ _ _ _ _ _
      | exact damaskref23_Shape.mono _ _ _ _ _ _
      | exact LeO.none _
      | refine LeO.ite ?_ ?_
      | refine LeO.bind ?_ (fun _ => ?_)
set_option maxHeartbeats 8000000 in
set_option maxRecDepth 100000 in
theorem damaskref23_Index.calls (k : Nat) (a0_0 : Int) (a0_1 : Int) (a0_2 : Int) (a0_3 : Int) (a0_4 : Int) (A0_5 : Option Addr) (c0_5 : Nat) (l0_5 : List Int) (a1 : Int) (a2 : Int) (a3 : Int) (r1 : Int) (r2 : Bool) (w : World) (hr0_5 : Kd.C (Kd.int .i64) w A0_5 l0_5.length l0_5) (hc0_5 : l0_5.length ≤ c0_5) (h : damaskref23_Index.f k a0_0 a0_1 a0_2 a0_3 a0_4 l0_5 a1 a2 a3 = some (r1, r2)) :
    Calls Try.prog 20 #[.agg #[.int .i64 a0_0, .int .i64 a0_1, .int .i64 a0_2, .int .i64 a0_3, .int .i64 a0_4, .slice A0_5 l0_5.length c0_5], .int .i64 a1, .int .i64 a2, .int .i64 a3] w fun e w' => e = .returned (.tuple #[.int .i64 r1, .bool r2]) ∧ Below w.heap.size w w' := by
  have hu26 := Try.underlying26
  have hu23 := Try.underlying23
  have HR0_5 := Aside0.mk hr0_5
  have HC0_5 := Aside0.mk hc0_5
  clear hr0_5 hc0_5
  have HB := Aside0.mk (Below.refl w.heap.size w)
  have H : ((damaskref23_Shape.f k a0_0 a0_1 a0_2 a0_3 a0_4).bind fun bt117 => (if bt117.2 = 0 then (if a1 < 0 then (damaskref23_Index.j0 k a1 a2 a3 true a0_0 a0_1 a0_2 a0_3 a0_4 l0_5) else (if a2 < 0 then (damaskref23_Index.j0 k a1 a2 a3 true a0_0 a0_1 a0_2 a0_3 a0_4 l0_5) else (if a3 < 0 then (damaskref23_Index.j0 k a1 a2 a3 true a0_0 a0_1 a0_2 a0_3 a0_4 l0_5) else (if a1 > (wrap64 (a0_2 - 1)) then (damaskref23_Index.j0 k a1 a2 a3 true a0_0 a0_1 a0_2 a0_3 a0_4 l0_5) else (if a2 > (wrap64 (a0_3 - 1)) then (damaskref23_Index.j0 k a1 a2 a3 true a0_0 a0_1 a0_2 a0_3 a0_4 l0_5) else (damaskref23_Index.j0 k a1 a2 a3 (decide (a3 > (wrap64 (a0_4 - 1)))) a0_0 a0_1 a0_2 a0_3 a0_4 l0_5)))))) else (damaskref23_Index.j0 k a1 a2 a3 true a0_0 a0_1 a0_2 a0_3 a0_4 l0_5))) = some (r1, r2) := h
  clear h
  replace H := Option.bind_eq_some_iff.mp H
  obtain ⟨⟨t117, t118⟩, A50, H⟩ := H
  replace H : (if t118 = 0 then (if a1 < 0 then (damaskref23_Index.j0 k a1 a2 a3 true a0_0 a0_1 a0_2 a0_3 a0_4 l0_5) else (if a2 < 0 then (damaskref23_Index.j0 k a1 a2 a3 true a0_0 a0_1 a0_2 a0_3 a0_4 l0_5) else (if a3 < 0 then (damaskref23_Index.j0 k a1 a2 a3 true a0_0 a0_1 a0_2 a0_3 a0_4 l0_5) else (if a1 > (wrap64 (a0_2 - 1)) then (damaskref23_Index.j0 k a1 a2 a3 true a0_0 a0_1 a0_2 a0_3 a0_4 l0_5) else (if a2 > (wrap64 (a0_3 - 1)) then (damaskref23_Index.j0 k a1 a2 a3 true a0_0 a0_1 a0_2 a0_3 a0_4 l0_5) else (damaskref23_Index.j0 k a1 a2 a3 (decide (a3 > (wrap64 (a0_4 - 1)))) a0_0 a0_1 a0_2 a0_3 a0_4 l0_5)))))) else (damaskref23_Index.j0 k a1 a2 a3 true a0_0 a0_1 a0_2 a0_3 a0_4 l0_5)) = some (r1, r2) := H
  have A5 := Aside0.mk A50
  clear A50
  have HC6 := Aside0.mk H
  clear H
  go_enter Try.func20, Try.ntmps20
  go_upto_region 2 with (first | ((with_reducible refine gate_dst (N := 4) rfl ?_); refine box_event ?hg (N := 4) ?hd (cs := #[.int .i64 a0_0, .int .i64 a0_1, .int .i64 a0_2, .int .i64 a0_3, .int .i64 a0_4, .slice A0_5 l0_5.length c0_5]) (t := 26) ?hr ?_; (case hd => rfl); (case hg => rfl); (case hr => first | (go_simp; done) | (go_simp; rfl)); intro gb116 hg w7 hbox hb; have n0_ := Aside0.mk (below_step (by repeat (first | (with_reducible first | exact HB.out | apply below_alloc | apply pw_below_drewN | apply below_drew1) | exact HB.out)) hb); have n1_ := Aside0.mk (hbox); have n2_ := Aside0.mk ((by rw [hg]; exact (below_size (by repeat (first | (with_reducible first | exact HB.out | apply below_alloc | apply pw_below_drewN | apply below_drew1) | exact HB.out))) : w.heap.size ≤ gb116)); have n3_ := Aside0.mk ((by rw [hg]; exact (below_size (by repeat (first | (with_reducible first | exact HB.out | apply below_alloc | apply pw_below_drewN | apply below_drew1) | exact HB.out))) : w.heap.size ≤ gb116)); clear HB; have HB := n0_; have BK116 := n1_; have GW116 := n2_; have GE116 := n3_; clear n0_ n1_ n2_ n3_; clear hb hbox hg; have hcz8_0 : w7.cell? ⟨gb116, 0, none⟩ = some (.int .i64 a0_0) := (blk_cell BK116.out 0).trans rfl; have hcz8_1 : w7.cell? ⟨gb116, 1, none⟩ = some (.int .i64 a0_1) := (blk_cell BK116.out 1).trans rfl; have hcz8_2 : w7.cell? ⟨gb116, 2, none⟩ = some (.int .i64 a0_2) := (blk_cell BK116.out 2).trans rfl; have hcz8_3 : w7.cell? ⟨gb116, 3, none⟩ = some (.int .i64 a0_3) := (blk_cell BK116.out 3).trans rfl; have hcz8_4 : w7.cell? ⟨gb116, 4, none⟩ = some (.int .i64 a0_4) := (blk_cell BK116.out 4).trans rfl; have hcz8_5 : w7.cell? ⟨gb116, 5, none⟩ = some (.slice A0_5 l0_5.length c0_5) := (blk_cell BK116.out 5).trans rfl; have hfz8_0 := blk_frozen BK116.out 0; have hfz8_1 := blk_frozen BK116.out 1; have hfz8_2 := blk_frozen BK116.out 2; have hfz8_3 := blk_frozen BK116.out 3; have hfz8_4 := blk_frozen BK116.out 4; have hfz8_5 := blk_frozen BK116.out 5) | ((with_reducible refine gate_callee (f := 40) rfl ?_); refine goesL_ (some 21) rfl rfl Try.func40 (by kernel_rfl) rfl #[.agg #[.int .i64 a0_0, .int .i64 a0_1], .int .i64 a0_2, .int .i64 a0_3, .int .i64 a0_4] rfl (by (try simp only [List.map_toArray, List.map_cons, List.map_nil]); first | done | rfl | (simp only [List.length_drop, List.length_take]; rfl)) ?_; (with_reducible refine (damaskref23_Shape.calls k a0_0 a0_1 a0_2 a0_3 a0_4 t117 t118 _ A5.out).mono ?_); rintro e w9 ⟨rfl, hb⟩; refine ⟨_, rfl, ?_⟩; have n0_ := Aside0.mk (blk_below (g := gb116) (o := .cells #[.int .i64 a0_0, .int .i64 a0_1, .int .i64 a0_2, .int .i64 a0_3, .int .i64 a0_4, .slice A0_5 l0_5.length c0_5] 26 (0, 0)) (by (with_reducible repeat (first | refine blk_drewN ?_ _ | refine blk_drew ?_ | refine blk_alloc ?_ _)); exact BK116.out) hb); have n1_ := Aside0.mk (below_step (by repeat (first | (with_reducible first | exact HB.out | apply below_alloc | apply pw_below_drewN | apply below_drew1 | refine below_set ?_ GE116.out) | exact HB.out)) hb); clear BK116; clear HB; have BK116 := n0_; have HB := n1_; clear n0_ n1_; (try clear hb); (try clear hb2); (try clear hk); (try clear hi)))
  (try simp only [Act.put, List.setIfInBounds_toArray, List.set_cons_zero, List.set_cons_succ])
  go_cut [58] (fun v58 wc => ∃ (kq : Nat) (x58_5 : Bool), v58 = .bool x58_5 ∧ Aside0 (damaskref23_Index.j0 kq a1 a2 a3 x58_5 a0_0 a0_1 a0_2 a0_3 a0_4 l0_5 = some (r1, r2)) ∧ Aside0 (kq ≤ k) ∧ Aside0 (wc.heap[gb116]? = some (.cells #[.int .i64 a0_0, .int .i64 a0_1, .int .i64 a0_2, .int .i64 a0_3, .int .i64 a0_4, (.slice A0_5 l0_5.length c0_5)] 26 (0, 0))) ∧ Aside0 (Below w.heap.size w wc))
  case first =>
    have H := HC6.out
    clear HC6
    by_cases c10 : t118 = 0
    · rw [if_pos c10] at H
      have c10b0 : (t118 == 0) = true := beq_iff_eq.mpr c10
      have c10b1 : (t118 != 0) = false := bne_eq_false_iff_eq.mpr c10
      clear c10
      (first | rw [c10b0] | (simp only [i64_w, i32_w]; rw [c10b0]) | skip)
      by_cases c11 : a1 < 0
      · rw [if_pos c11] at H
        have c11b0 : decide (a1 < 0) = true := decide_eq_true c11
        clear c11
        have H' := Aside0.mk H
        clear H
        go_wp2
        go_meet
        case rel => exact ⟨_, (true), (by first | rfl | (simp; done) | (simp [*]; done)), H', ⟨by first | omega | exact Nat.le_refl _⟩, ⟨by (with_reducible repeat (first | refine blk_drewN ?_ _ | refine blk_drew ?_ | refine blk_alloc ?_ _)); exact BK116.out⟩, ⟨by repeat (first | (with_reducible first | exact HB.out | apply below_alloc | apply pw_below_drewN | apply below_drew1 | refine below_set ?_ GE116.out) | exact HB.out)⟩⟩
      · rw [if_neg c11] at H
        have c11b0 : decide (a1 < 0) = false := decide_eq_false c11
        clear c11
        by_cases c12 : a2 < 0
        · rw [if_pos c12] at H
          have c12b0 : decide (a2 < 0) = true := decide_eq_true c12
          clear c12
          have H' := Aside0.mk H
          clear H
          go_wp2
          go_meet
          case rel => exact ⟨_, (true), (by first | rfl | (simp; done) | (simp [*]; done)), H', ⟨by first | omega | exact Nat.le_refl _⟩, ⟨by (with_reducible repeat (first | refine blk_drewN ?_ _ | refine blk_drew ?_ | refine blk_alloc ?_ _)); exact BK116.out⟩, ⟨by repeat (first | (with_reducible first | exact HB.out | apply below_alloc | apply pw_below_drewN | apply below_drew1 | refine below_set ?_ GE116.out) | exact HB.out)⟩⟩
        · rw [if_neg c12] at H
          have c12b0 : decide (a2 < 0) = false := decide_eq_false c12
          clear c12
          by_cases c13 : a3 < 0
          · rw [if_pos c13] at H
            have c13b0 : decide (a3 < 0) = true := decide_eq_true c13
            clear c13
            have H' := Aside0.mk H
            clear H
            go_wp2
            go_meet
            case rel => exact ⟨_, (true), (by first | rfl | (simp; done) | (simp [*]; done)), H', ⟨by first | omega | exact Nat.le_refl _⟩, ⟨by (with_reducible repeat (first | refine blk_drewN ?_ _ | refine blk_drew ?_ | refine blk_alloc ?_ _)); exact BK116.out⟩, ⟨by repeat (first | (with_reducible first | exact HB.out | apply below_alloc | apply pw_below_drewN | apply below_drew1 | refine below_set ?_ GE116.out) | exact HB.out)⟩⟩
          · rw [if_neg c13] at H
            have c13b0 : decide (a3 < 0) = false := decide_eq_false c13
            clear c13
            by_cases c14 : a1 > (wrap64 (a0_2 - 1))
            · rw [if_pos c14] at H
              have c14b0 : decide ((wrap64 (a0_2 - 1)) < a1) = true := decide_eq_true c14
              clear c14
              have H' := Aside0.mk H
              clear H
              have hcz15_0 : w9.cell? ⟨gb116, 0, none⟩ = some (.int .i64 a0_0) := (blk_cell BK116.out 0).trans rfl
              have hcz15_1 : w9.cell? ⟨gb116, 1, none⟩ = some (.int .i64 a0_1) := (blk_cell BK116.out 1).trans rfl
              have hcz15_2 : w9.cell? ⟨gb116, 2, none⟩ = some (.int .i64 a0_2) := (blk_cell BK116.out 2).trans rfl
              have hcz15_3 : w9.cell? ⟨gb116, 3, none⟩ = some (.int .i64 a0_3) := (blk_cell BK116.out 3).trans rfl
              have hcz15_4 : w9.cell? ⟨gb116, 4, none⟩ = some (.int .i64 a0_4) := (blk_cell BK116.out 4).trans rfl
              have hcz15_5 : w9.cell? ⟨gb116, 5, none⟩ = some (.slice A0_5 l0_5.length c0_5) := (blk_cell BK116.out 5).trans rfl
              have hfz15_0 := blk_frozen BK116.out 0
              have hfz15_1 := blk_frozen BK116.out 1
              have hfz15_2 := blk_frozen BK116.out 2
              have hfz15_3 := blk_frozen BK116.out 3
              have hfz15_4 := blk_frozen BK116.out 4
              have hfz15_5 := blk_frozen BK116.out 5
              go_wp2
              go_meet
              case rel => exact ⟨_, (true), (by first | rfl | (simp; done) | (simp [*]; done)), H', ⟨by first | omega | exact Nat.le_refl _⟩, ⟨by (with_reducible repeat (first | refine blk_drewN ?_ _ | refine blk_drew ?_ | refine blk_alloc ?_ _)); exact BK116.out⟩, ⟨by repeat (first | (with_reducible first | exact HB.out | apply below_alloc | apply pw_below_drewN | apply below_drew1 | refine below_set ?_ GE116.out) | exact HB.out)⟩⟩
            · rw [if_neg c14] at H
              have c14b0 : decide ((wrap64 (a0_2 - 1)) < a1) = false := decide_eq_false c14
              clear c14
              by_cases c16 : a2 > (wrap64 (a0_3 - 1))
              · rw [if_pos c16] at H
                have c16b0 : decide ((wrap64 (a0_3 - 1)) < a2) = true := decide_eq_true c16
                clear c16
                have H' := Aside0.mk H
                clear H
                have hcz17_0 : w9.cell? ⟨gb116, 0, none⟩ = some (.int .i64 a0_0) := (blk_cell BK116.out 0).trans rfl
                have hcz17_1 : w9.cell? ⟨gb116, 1, none⟩ = some (.int .i64 a0_1) := (blk_cell BK116.out 1).trans rfl
                have hcz17_2 : w9.cell? ⟨gb116, 2, none⟩ = some (.int .i64 a0_2) := (blk_cell BK116.out 2).trans rfl
                have hcz17_3 : w9.cell? ⟨gb116, 3, none⟩ = some (.int .i64 a0_3) := (blk_cell BK116.out 3).trans rfl
                have hcz17_4 : w9.cell? ⟨gb116, 4, none⟩ = some (.int .i64 a0_4) := (blk_cell BK116.out 4).trans rfl
                have hcz17_5 : w9.cell? ⟨gb116, 5, none⟩ = some (.slice A0_5 l0_5.length c0_5) := (blk_cell BK116.out 5).trans rfl
                have hfz17_0 := blk_frozen BK116.out 0
                have hfz17_1 := blk_frozen BK116.out 1
                have hfz17_2 := blk_frozen BK116.out 2
                have hfz17_3 := blk_frozen BK116.out 3
                have hfz17_4 := blk_frozen BK116.out 4
                have hfz17_5 := blk_frozen BK116.out 5
                go_wp2
                go_meet
                case rel => exact ⟨_, (true), (by first | rfl | (simp; done) | (simp [*]; done)), H', ⟨by first | omega | exact Nat.le_refl _⟩, ⟨by (with_reducible repeat (first | refine blk_drewN ?_ _ | refine blk_drew ?_ | refine blk_alloc ?_ _)); exact BK116.out⟩, ⟨by repeat (first | (with_reducible first | exact HB.out | apply below_alloc | apply pw_below_drewN | apply below_drew1 | refine below_set ?_ GE116.out) | exact HB.out)⟩⟩
              · rw [if_neg c16] at H
                have c16b0 : decide ((wrap64 (a0_3 - 1)) < a2) = false := decide_eq_false c16
                clear c16
                have H' := Aside0.mk H
                clear H
                have hcz18_0 : w9.cell? ⟨gb116, 0, none⟩ = some (.int .i64 a0_0) := (blk_cell BK116.out 0).trans rfl
                have hcz18_1 : w9.cell? ⟨gb116, 1, none⟩ = some (.int .i64 a0_1) := (blk_cell BK116.out 1).trans rfl
                have hcz18_2 : w9.cell? ⟨gb116, 2, none⟩ = some (.int .i64 a0_2) := (blk_cell BK116.out 2).trans rfl
                have hcz18_3 : w9.cell? ⟨gb116, 3, none⟩ = some (.int .i64 a0_3) := (blk_cell BK116.out 3).trans rfl
                have hcz18_4 : w9.cell? ⟨gb116, 4, none⟩ = some (.int .i64 a0_4) := (blk_cell BK116.out 4).trans rfl
                have hcz18_5 : w9.cell? ⟨gb116, 5, none⟩ = some (.slice A0_5 l0_5.length c0_5) := (blk_cell BK116.out 5).trans rfl
                have hfz18_0 := blk_frozen BK116.out 0
                have hfz18_1 := blk_frozen BK116.out 1
                have hfz18_2 := blk_frozen BK116.out 2
                have hfz18_3 := blk_frozen BK116.out 3
                have hfz18_4 := blk_frozen BK116.out 4
                have hfz18_5 := blk_frozen BK116.out 5
                go_wp2
                go_meet
                case rel => exact ⟨_, (decide (a3 > (wrap64 (a0_4 - 1)))), (by first | rfl | (simp; done) | (simp [*]; done)), H', ⟨by first | omega | exact Nat.le_refl _⟩, ⟨by (with_reducible repeat (first | refine blk_drewN ?_ _ | refine blk_drew ?_ | refine blk_alloc ?_ _)); exact BK116.out⟩, ⟨by repeat (first | (with_reducible first | exact HB.out | apply below_alloc | apply pw_below_drewN | apply below_drew1 | refine below_set ?_ GE116.out) | exact HB.out)⟩⟩
    · rw [if_neg c10] at H
      have c10b0 : (t118 == 0) = false := beq_eq_false_iff_ne.mpr c10
      have c10b1 : (t118 != 0) = true := bne_iff_ne.mpr c10
      (first | rw [c10b0] | (simp only [i64_w, i32_w]; rw [c10b0]) | skip)
      have H' := Aside0.mk H
      clear H
      go_wp2
      go_meet
      case rel => exact ⟨_, (true), (by first | rfl | (simp; done) | (simp [*]; done)), H', ⟨by first | omega | exact Nat.le_refl _⟩, ⟨by (with_reducible repeat (first | refine blk_drewN ?_ _ | refine blk_drew ?_ | refine blk_alloc ?_ _)); exact BK116.out⟩, ⟨by repeat (first | (with_reducible first | exact HB.out | apply below_alloc | apply pw_below_drewN | apply below_drew1 | refine below_set ?_ GE116.out) | exact HB.out)⟩⟩
  case rest =>
    clear HC6
    try clear c1
    try clear c2
    try clear p2
    try clear c4
    try clear p6
    try clear c10
    try clear c10b0
    try clear c10b1
    try clear c11
    try clear c11b0
    try clear c12
    try clear c12b0
    try clear c13
    try clear c13b0
    try clear c14
    try clear c14b0
    try clear c16
    try clear c16b0
    try clear hcz15_0
    try clear hcz15_1
    try clear hcz15_2
    try clear hcz15_3
    try clear hcz15_4
    try clear hcz15_5
    try clear hcz17_0
    try clear hcz17_1
    try clear hcz17_2
    try clear hcz17_3
    try clear hcz17_4
    try clear hcz17_5
    try clear hcz18_0
    try clear hcz18_1
    try clear hcz18_2
    try clear hcz18_3
    try clear hcz18_4
    try clear hcz18_5
    try clear hcz8_0
    try clear hcz8_1
    try clear hcz8_2
    try clear hcz8_3
    try clear hcz8_4
    try clear hcz8_5
    try clear hfz15_0
    try clear hfz15_1
    try clear hfz15_2
    try clear hfz15_3
    try clear hfz15_4
    try clear hfz15_5
    try clear hfz17_0
    try clear hfz17_1
    try clear hfz17_2
    try clear hfz17_3
    try clear hfz17_4
    try clear hfz17_5
    try clear hfz18_0
    try clear hfz18_1
    try clear hfz18_2
    try clear hfz18_3
    try clear hfz18_4
    try clear hfz18_5
    try clear hfz8_0
    try clear hfz8_1
    try clear hfz8_2
    try clear hfz8_3
    try clear hfz8_4
    try clear hfz8_5
    obtain ⟨kq, x58_5, rfl, HA, HJ5, BK116, HB⟩ := hcut
    cases kq with
    | zero => exact absurd HA.out (by simp [damaskref23_Index.j0])
    | succ kj5 =>
      have H := HA.out
      clear HA
      simp only [damaskref23_Index.j0] at H
      by_cases c19 : x58_5 = true
      · subst c19
        have H1 : (some (0, false)) = some (r1, r2) := by rw [if_pos rfl] at H; exact H
        clear H
        have H := H1
        clear H1
        simp only [Option.some.injEq, Prod.mk.injEq] at H
        obtain ⟨rfl, rfl⟩ := H
        go_wp2
        go_ret2
        exact ⟨by first | rfl | (simp [errW_none, errW_some] <;> rfl) | (simp [*, errW_none, errW_some] <;> rfl), by repeat (first | (with_reducible first | exact HB.out | apply below_alloc | apply pw_below_drewN | apply below_drew1 | refine below_set ?_ GE116.out) | exact HB.out)⟩
      · replace c19 := Bool.eq_false_iff.mpr c19
        subst c19
        have H1 : (if a0_0 = 1 then (some (wrap64 ((wrap64 (a0_2 * a2)) + a1), true)) else (some (wrap64 ((wrap64 ((wrap64 ((wrap64 (a0_3 * a0_4)) * a1)) + (wrap64 (a0_3 * a3)))) + a2), true))) = some (r1, r2) := by rw [if_neg (show ¬ (false = true) by decide)] at H; exact H
        clear H
        have H := H1
        clear H1
        by_cases c20 : a0_0 = 1
        · rw [if_pos c20] at H
          have c20b0 : (a0_0 == 1) = true := beq_iff_eq.mpr c20
          have c20b1 : (a0_0 != 1) = false := bne_eq_false_iff_eq.mpr c20
          clear c20
          simp only [Option.some.injEq, Prod.mk.injEq] at H
          obtain ⟨rfl, rfl⟩ := H
          have hcz21_0 : wc.cell? ⟨gb116, 0, none⟩ = some (.int .i64 a0_0) := (blk_cell BK116.out 0).trans rfl
          have hcz21_1 : wc.cell? ⟨gb116, 1, none⟩ = some (.int .i64 a0_1) := (blk_cell BK116.out 1).trans rfl
          have hcz21_2 : wc.cell? ⟨gb116, 2, none⟩ = some (.int .i64 a0_2) := (blk_cell BK116.out 2).trans rfl
          have hcz21_3 : wc.cell? ⟨gb116, 3, none⟩ = some (.int .i64 a0_3) := (blk_cell BK116.out 3).trans rfl
          have hcz21_4 : wc.cell? ⟨gb116, 4, none⟩ = some (.int .i64 a0_4) := (blk_cell BK116.out 4).trans rfl
          have hcz21_5 : wc.cell? ⟨gb116, 5, none⟩ = some (.slice A0_5 l0_5.length c0_5) := (blk_cell BK116.out 5).trans rfl
          have hfz21_0 := blk_frozen BK116.out 0
          have hfz21_1 := blk_frozen BK116.out 1
          have hfz21_2 := blk_frozen BK116.out 2
          have hfz21_3 := blk_frozen BK116.out 3
          have hfz21_4 := blk_frozen BK116.out 4
          have hfz21_5 := blk_frozen BK116.out 5
          go_wp2
          go_ret2
          exact ⟨by first | rfl | (simp [errW_none, errW_some] <;> rfl) | (simp [*, errW_none, errW_some] <;> rfl), by repeat (first | (with_reducible first | exact HB.out | apply below_alloc | apply pw_below_drewN | apply below_drew1 | refine below_set ?_ GE116.out) | exact HB.out)⟩
        · rw [if_neg c20] at H
          have c20b0 : (a0_0 == 1) = false := beq_eq_false_iff_ne.mpr c20
          have c20b1 : (a0_0 != 1) = true := bne_iff_ne.mpr c20
          simp only [Option.some.injEq, Prod.mk.injEq] at H
          obtain ⟨rfl, rfl⟩ := H
          have hcz22_0 : wc.cell? ⟨gb116, 0, none⟩ = some (.int .i64 a0_0) := (blk_cell BK116.out 0).trans rfl
          have hcz22_1 : wc.cell? ⟨gb116, 1, none⟩ = some (.int .i64 a0_1) := (blk_cell BK116.out 1).trans rfl
          have hcz22_2 : wc.cell? ⟨gb116, 2, none⟩ = some (.int .i64 a0_2) := (blk_cell BK116.out 2).trans rfl
          have hcz22_3 : wc.cell? ⟨gb116, 3, none⟩ = some (.int .i64 a0_3) := (blk_cell BK116.out 3).trans rfl
          have hcz22_4 : wc.cell? ⟨gb116, 4, none⟩ = some (.int .i64 a0_4) := (blk_cell BK116.out 4).trans rfl
          have hcz22_5 : wc.cell? ⟨gb116, 5, none⟩ = some (.slice A0_5 l0_5.length c0_5) := (blk_cell BK116.out 5).trans rfl
          have hfz22_0 := blk_frozen BK116.out 0
          have hfz22_1 := blk_frozen BK116.out 1
          have hfz22_2 := blk_frozen BK116.out 2
          have hfz22_3 := blk_frozen BK116.out 3
          have hfz22_4 := blk_frozen BK116.out 4
          have hfz22_5 := blk_frozen BK116.out 5
          go_wp2
          go_ret2
          exact ⟨by first | rfl | (simp [errW_none, errW_some] <;> rfl) | (simp [*, errW_none, errW_some] <;> rfl), by repeat (first | (with_reducible first | exact HB.out | apply below_alloc | apply pw_below_drewN | apply below_drew1 | refine below_set ?_ GE116.out) | exact HB.out)⟩

end Go.Proofs.Ytggfgbhodkfllaa.F
