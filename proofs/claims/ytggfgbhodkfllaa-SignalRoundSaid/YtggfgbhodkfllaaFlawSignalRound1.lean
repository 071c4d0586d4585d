/- Written by wip/myprint.py of this session, out of Lean's print of the program: what Go functions come to, and that their calls come to it; no condition. -/
import Derived.Test.YtggfgbhodkfllaaF0
import Derived.Test.YtggfgbhodkfllaaFdamasklaw231
import Derived.Test.YtggfgbhodkfllaaFsignal1
import Derived.Test.YtggfgbhodkfllaaFsignal2
namespace Go.Proofs.Ytggfgbhodkfllaa.F
open Go.RowKit Go.Proofs.YtggfgbhodkfllaaW.PrintWords Go.Proofs.YtggfgbhodkfllaaW.PrintLast Go.Proofs.YtggfgbhodkfllaaW.PrintMore Go.Proofs.YtggfgbhodkfllaaW
attribute [local go_sem] max2_int min2_int max_two min_two max_three min_three max_four min_four   -- for this text's walks alone
set_option linter.unusedVariables false
set_option linter.unusedSimpArgs false

/-! ### damasklaw23_SignalRound: function 4 -/
mutual
def damasklaw23_SignalRound.j0 : Nat → Int → Int → Int → Int → Int → Bool → Bool → Int → Int → Int → Int → Int → List Int → Int → Int → Int → Option (Bool)
  | 0, _, _, _, _, _, _, _, _, _, _, _, _, _, _, _, _ => none
  | k + 1, x1, x7, x9, x10, x11, x12, x53, x163000, x163001, x163002, x163003, x163004, x163005, x164000, x164001, x164002 => if x53 = true then (some false) else (if x12 = true then ((signal_Index.f k x163000 x163001 x163002 x163003 x163004 x163005 x9 x10 x11).bind fun bt171 => (if bt171.2 = true then (if bt171.1 = x1 then (damasklaw23_SignalRound.j1 k x7 x163000 x163001 x163002 x163003 x163004 x163005 x164000 x164001 x164002) else (some false)) else (some false))) else (damasklaw23_SignalRound.j1 k x7 x163000 x163001 x163002 x163003 x163004 x163005 x164000 x164001 x164002))
def damasklaw23_SignalRound.j1 : Nat → Int → Int → Int → Int → Int → Int → List Int → Int → Int → Int → Option (Bool)
  | 0, _, _, _, _, _, _, _, _, _, _ => none
  | k + 1, x7, x163000, x163001, x163002, x163003, x163004, x163005, x164000, x164001, x164002 => (signal_Index.f k x163000 x163001 x163002 x163003 x163004 x163005 x164000 x164001 x164002).bind fun bt173 => (if bt173.2 = true then ((signal_Where.f k x163000 x163001 x163002 x163003 x163004 x163005 bt173.1).bind fun bt175 => (if bt175.2.2.2 = true then (if bt173.1 ≥ 0 then (if bt173.1 < x7 then (if bt175.1 = x164000 then (if bt175.2.1 = x164001 then (some (bt175.2.2.1 == x164002)) else (some false)) else (some false)) else (some false)) else (some false)) else (some false))) else (some (bt173.1 == 0)))
end
def damasklaw23_SignalRound.f (k : Nat) (a0_0 : Int) (a0_1 : Int) (a0_2 : Int) (a0_3 : Int) (a0_4 : Int) (l0_5 : List Int) (a1 : Int) (a2_0 : Int) (a2_1 : Int) (a2_2 : Int) : Option (Bool) := (signal_Shape.f k a0_0 a0_1 a0_2 a0_3 a0_4).bind fun bt164 => ((signal_Where.f k a0_0 a0_1 a0_2 a0_3 a0_4 l0_5 a1).bind fun bt166 => ((damasklaw23_awake.f k).bind fun t170 => (if t170 = true then (if bt164.2 = 0 then (if a1 ≥ 0 then (damasklaw23_SignalRound.j0 k a1 bt164.1 bt166.1 bt166.2.1 bt166.2.2.1 bt166.2.2.2 (bt166.2.2.2 != (decide (a1 < bt164.1))) a0_0 a0_1 a0_2 a0_3 a0_4 l0_5 a2_0 a2_1 a2_2) else (damasklaw23_SignalRound.j0 k a1 bt164.1 bt166.1 bt166.2.1 bt166.2.2.1 bt166.2.2.2 (bt166.2.2.2 != false) a0_0 a0_1 a0_2 a0_3 a0_4 l0_5 a2_0 a2_1 a2_2)) else (damasklaw23_SignalRound.j0 k a1 bt164.1 bt166.1 bt166.2.1 bt166.2.2.1 bt166.2.2.2 (bt166.2.2.2 != false) a0_0 a0_1 a0_2 a0_3 a0_4 l0_5 a2_0 a2_1 a2_2)) else (damasklaw23_SignalRound.j0 k a1 bt164.1 bt166.1 bt166.2.1 bt166.2.2.1 bt166.2.2.2 true a0_0 a0_1 a0_2 a0_3 a0_4 l0_5 a2_0 a2_1 a2_2))))
theorem damasklaw23_SignalRound.mono_l : ∀ k, (∀ y0 y1 y2 y3 y4 y5 y6 y7 y8 y9 y10 y11 y12 y13 y14 y15, LeO (damasklaw23_SignalRound.j0 k y0 y1 y2 y3 y4 y5 y6 y7 y8 y9 y10 y11 y12 y13 y14 y15) (damasklaw23_SignalRound.j0 (k + 1) y0 y1 y2 y3 y4 y5 y6 y7 y8 y9 y10 y11 y12 y13 y14 y15)) ∧ (∀ y0 y1 y2 y3 y4 y5 y6 y7 y8 y9, LeO (damasklaw23_SignalRound.j1 k y0 y1 y2 y3 y4 y5 y6 y7 y8 y9) (damasklaw23_SignalRound.j1 (k + 1) y0 y1 y2 y3 y4 y5 y6 y7 y8 y9))
  | 0 => ⟨fun _ _ _ _ _ _ _ _ _ _ _ _ _ _ _ _ r h => by simp [damasklaw23_SignalRound.j0] at h, fun _ _ _ _ _ _ _ _ _ _ r h => by simp [damasklaw23_SignalRound.j1] at h⟩
  | k + 1 => by
    obtain ⟨ih0, ih1⟩ := damasklaw23_SignalRound.mono_l k
    refine ⟨?_, ?_⟩
    · intro y0 y1 y2 y3 y4 y5 y6 y7 y8 y9 y10 y11 y12 y13 y14 y15
      unfold damasklaw23_SignalRound.j0
      repeat' first
      | (with_reducible exact ih0 _ _ _ _ _ _ _ _ _ _ _ _ _ _ _ _)
      | (with_reducible exact ih1 _ _ _ _ _ _ _ _ _ _)
      | (with_reducible exact damasklaw23_awake.mono _)
      | (with_reducible exact signal_Index.mono _ _ _ _ _ _ _ _ _ _)
      | (with_reducible exact signal_Shape.mono _ _ _ _ _ _)
      | (with_reducible exact signal_Where.mono _ _ _ _ _ _ _ _)
      | (with_reducible exact LeO.refl _)
      | (with_reducible exact LeO.none _)
      | (with_reducible refine LeO.ite ?_ ?_)
      | (with_reducible refine LeO.bind ?_ (fun _ => ?_))
      | exact ih0 _ _ _ _ _ _ _ _ _ _ _ _ _ _ _ _
      | exact ih1 _ _ _ _ _ _ _ _ _ _
      | exact damasklaw23_awake.mono _
      | exact signal_Index.mono _ _ _ _ _ _ _ _ _ _
      | exact signal_Shape.mono _ _ _ _ _ _
      | exact signal_Where.mono _ _ _ _ _ _ _ _
      | exact LeO.none _
      | refine LeO.ite ?_ ?_
      | refine LeO.bind ?_ (fun _ => ?_)
    · intro y0 y1 y2 y3 y4 y5 y6 y7 y8 y9
      unfold damasklaw23_SignalRound.j1
      repeat' first
      | (with_reducible exact ih0 _ _ _ _ _ _ _ _ _ _ _ _ _ _ _ _)
      | (with_reducible exact ih1 _ _ _ _ _ _ _ _ _ _)
      | (with_reducible exact damasklaw23_awake.mono _)
      | (with_reducible exact signal_Index.mono _ _ _ _ _ _ _ _ _ _)
      | (with_reducible exact signal_Shape.mono _ _ _ _ _ _)
      | (with_reducible exact signal_Where.mono _ _ _ _ _ _ _ _)
      | (with_reducible exact LeO.refl _)
      | (with_reducible exact LeO.none _)
      | (with_reducible refine LeO.ite ?_ ?_)
      | (with_reducible refine LeO.bind ?_ (fun _ => ?_))
      | exact ih0 _ _ _ _ _ _ _ _ _ _ _ _ _ _ _ _
      | exact ih1 _ _ _ _ _ _ _ _ _ _
      | exact damasklaw23_awake.mono _
      | exact signal_Index.mono _ _ _ _ _ _ _ _ _ _
      | exact signal_Shape.mono _ _ _ _ _ _
      | exact signal_Where.mono _ _ _ _ _ _ _ _
      | exact LeO.none _
      | refine LeO.ite ?_ ?_
      | refine LeO.bind ?_ (fun _ => ?_)
theorem damasklaw23_SignalRound.mono : ∀ a0 a1 a2 a3 a4 a5 a6 a7 a8 a9 k, LeO (damasklaw23_SignalRound.f k a0 a1 a2 a3 a4 a5 a6 a7 a8 a9) (damasklaw23_SignalRound.f (k + 1) a0 a1 a2 a3 a4 a5 a6 a7 a8 a9) := by
  intro a0 a1 a2 a3 a4 a5 a6 a7 a8 a9 k
  obtain ⟨ih0, ih1⟩ := damasklaw23_SignalRound.mono_l k
  unfold damasklaw23_SignalRound.f
  repeat' first
      | (with_reducible exact ih0 _ _ _ _ _ _ _ _ _ _ _ _ _ _ _ _)
      | (with_reducible exact ih1 _ _ _ _ _ _ _ _ _ _)
      | (with_reducible exact damasklaw23_awake.mono _)
      | (with_reducible exact signal_Index.mono _ _ _ _ _ _ _ _ _ _)
      | (with_reducible exact signal_Shape.mono _ _ _ _ _ _)
      | (with_reducible exact signal_Where.mono _ _ _ _ _ _ _ _)
      | (with_reducible exact LeO.refl _)
      | (with_reducible exact LeO.none _)
      | (with_reducible refine LeO.ite ?_ ?_)
      | (with_reducible refine LeO.bind ?_ (fun _ => ?_))
      | exact ih0 _ _ _ _ _ _ _ _ _ _ _ _ _ _ _ _
      | exact ih1 _ _ _ _ _ _ _ _ _ _
      | exact damasklaw23_awake.mono _
      | exact signal_Index.mono _ _ _ _ _ _ _ _ _ _
      | exact signal_Shape.mono _ _ _ _ _ _
      | exact signal_Where.mono _ _ _ _ _ _ _ _
      | exact LeO.none _
      | refine LeO.ite ?_ ?_
      | refine LeO.bind ?_ (fun _ => ?_)
set_option maxHeartbeats 8000000 in
set_option maxRecDepth 100000 in
theorem damasklaw23_SignalRound.calls (k : Nat) (a0_0 : Int) (a0_1 : Int) (a0_2 : Int) (a0_3 : Int) (a0_4 : Int) (A0_5 : Option Addr) (c0_5 : Nat) (l0_5 : List Int) (a1 : Int) (a2_0 : Int) (a2_1 : Int) (a2_2 : Int) (r : Bool) (w : World) (hr0_5 : Kd.C (Kd.int .i64) w A0_5 l0_5.length l0_5) (hc0_5 : l0_5.length ≤ c0_5) (hrT0 : r = true) (h : damasklaw23_SignalRound.f k a0_0 a0_1 a0_2 a0_3 a0_4 l0_5 a1 a2_0 a2_1 a2_2 = some r) :
    Calls Try.prog 4 #[.agg #[.int .i64 a0_0, .int .i64 a0_1, .int .i64 a0_2, .int .i64 a0_3, .int .i64 a0_4, .slice A0_5 l0_5.length c0_5], .int .i64 a1, .agg #[.int .i64 a2_0, .int .i64 a2_1, .int .i64 a2_2]] w fun e w' => e = .returned (.bool r) ∧ Below w.heap.size w w' := by
  have hu26 := Try.underlying26
  have hu27 := Try.underlying27
  have hu23 := Try.underlying23
  have HR0_5 := Aside0.mk hr0_5
  have HC0_5 := Aside0.mk hc0_5
  clear hr0_5 hc0_5
  have HB := Aside0.mk (Below.refl w.heap.size w)
  have hrT := Aside0.mk hrT0
  clear hrT0
  have H : ((signal_Shape.f k a0_0 a0_1 a0_2 a0_3 a0_4).bind fun bt164 => ((signal_Where.f k a0_0 a0_1 a0_2 a0_3 a0_4 l0_5 a1).bind fun bt166 => ((damasklaw23_awake.f k).bind fun t170 => (if t170 = true then (if bt164.2 = 0 then (if a1 ≥ 0 then (damasklaw23_SignalRound.j0 k a1 bt164.1 bt166.1 bt166.2.1 bt166.2.2.1 bt166.2.2.2 (bt166.2.2.2 != (decide (a1 < bt164.1))) a0_0 a0_1 a0_2 a0_3 a0_4 l0_5 a2_0 a2_1 a2_2) else (damasklaw23_SignalRound.j0 k a1 bt164.1 bt166.1 bt166.2.1 bt166.2.2.1 bt166.2.2.2 (bt166.2.2.2 != false) a0_0 a0_1 a0_2 a0_3 a0_4 l0_5 a2_0 a2_1 a2_2)) else (damasklaw23_SignalRound.j0 k a1 bt164.1 bt166.1 bt166.2.1 bt166.2.2.1 bt166.2.2.2 (bt166.2.2.2 != false) a0_0 a0_1 a0_2 a0_3 a0_4 l0_5 a2_0 a2_1 a2_2)) else (damasklaw23_SignalRound.j0 k a1 bt164.1 bt166.1 bt166.2.1 bt166.2.2.1 bt166.2.2.2 true a0_0 a0_1 a0_2 a0_3 a0_4 l0_5 a2_0 a2_1 a2_2))))) = some r := h
  clear h
  replace H := Option.bind_eq_some_iff.mp H
  obtain ⟨⟨t164, t165⟩, A40, H⟩ := H
  replace H : ((signal_Where.f k a0_0 a0_1 a0_2 a0_3 a0_4 l0_5 a1).bind fun bt166 => ((damasklaw23_awake.f k).bind fun t170 => (if t170 = true then (if t165 = 0 then (if a1 ≥ 0 then (damasklaw23_SignalRound.j0 k a1 t164 bt166.1 bt166.2.1 bt166.2.2.1 bt166.2.2.2 (bt166.2.2.2 != (decide (a1 < t164))) a0_0 a0_1 a0_2 a0_3 a0_4 l0_5 a2_0 a2_1 a2_2) else (damasklaw23_SignalRound.j0 k a1 t164 bt166.1 bt166.2.1 bt166.2.2.1 bt166.2.2.2 (bt166.2.2.2 != false) a0_0 a0_1 a0_2 a0_3 a0_4 l0_5 a2_0 a2_1 a2_2)) else (damasklaw23_SignalRound.j0 k a1 t164 bt166.1 bt166.2.1 bt166.2.2.1 bt166.2.2.2 (bt166.2.2.2 != false) a0_0 a0_1 a0_2 a0_3 a0_4 l0_5 a2_0 a2_1 a2_2)) else (damasklaw23_SignalRound.j0 k a1 t164 bt166.1 bt166.2.1 bt166.2.2.1 bt166.2.2.2 true a0_0 a0_1 a0_2 a0_3 a0_4 l0_5 a2_0 a2_1 a2_2)))) = some r := H
  have A4 := Aside0.mk A40
  clear A40
  replace H := Option.bind_eq_some_iff.mp H
  obtain ⟨⟨t166, t167, t168, t169⟩, A50, H⟩ := H
  replace H : ((damasklaw23_awake.f k).bind fun t170 => (if t170 = true then (if t165 = 0 then (if a1 ≥ 0 then (damasklaw23_SignalRound.j0 k a1 t164 t166 t167 t168 t169 (t169 != (decide (a1 < t164))) a0_0 a0_1 a0_2 a0_3 a0_4 l0_5 a2_0 a2_1 a2_2) else (damasklaw23_SignalRound.j0 k a1 t164 t166 t167 t168 t169 (t169 != false) a0_0 a0_1 a0_2 a0_3 a0_4 l0_5 a2_0 a2_1 a2_2)) else (damasklaw23_SignalRound.j0 k a1 t164 t166 t167 t168 t169 (t169 != false) a0_0 a0_1 a0_2 a0_3 a0_4 l0_5 a2_0 a2_1 a2_2)) else (damasklaw23_SignalRound.j0 k a1 t164 t166 t167 t168 t169 true a0_0 a0_1 a0_2 a0_3 a0_4 l0_5 a2_0 a2_1 a2_2))) = some r := H
  have A5 := Aside0.mk A50
  clear A50
  have HC6 := Aside0.mk H
  clear H
  go_enter Try.func4, Try.ntmps4
  go_upto_region 3 with (first | ((with_reducible refine gate_dst (N := 3) rfl ?_); refine box_event ?hg (N := 3) ?hd (cs := #[.int .i64 a0_0, .int .i64 a0_1, .int .i64 a0_2, .int .i64 a0_3, .int .i64 a0_4, .slice A0_5 l0_5.length c0_5]) (t := 26) ?hr ?_; (case hd => rfl); (case hg => rfl); (case hr => first | (go_simp; done) | (go_simp; rfl)); intro gb162 hg w7 hbox hb; have n0_ := Aside0.mk (below_step (by repeat (first | (with_reducible first | exact HB.out | apply below_alloc | apply pw_below_drewN | apply below_drew1) | exact HB.out)) hb); have n1_ := Aside0.mk (hbox); have n2_ := Aside0.mk ((by rw [hg]; exact (below_size (by repeat (first | (with_reducible first | exact HB.out | apply below_alloc | apply pw_below_drewN | apply below_drew1) | exact HB.out))) : w.heap.size ≤ gb162)); have n3_ := Aside0.mk ((by rw [hg]; exact (below_size (by repeat (first | (with_reducible first | exact HB.out | apply below_alloc | apply pw_below_drewN | apply below_drew1) | exact HB.out))) : w.heap.size ≤ gb162)); clear HB; have HB := n0_; have BK162 := n1_; have GW162 := n2_; have GE162 := n3_; clear n0_ n1_ n2_ n3_; clear hb hbox hg) | ((with_reducible refine gate_dst (N := 5) rfl ?_); refine box_event ?hg (N := 5) ?hd (cs := #[.int .i64 a2_0, .int .i64 a2_1, .int .i64 a2_2]) (t := 27) ?hr ?_; (case hd => rfl); (case hg => rfl); (case hr => first | (go_simp; done) | (go_simp; rfl)); intro gb163 hg w8 hbox hb; have n0_ := Aside0.mk (blk_below (g := gb162) (o := .cells #[.int .i64 a0_0, .int .i64 a0_1, .int .i64 a0_2, .int .i64 a0_3, .int .i64 a0_4, .slice A0_5 l0_5.length c0_5] 26 (0, 0)) (by (with_reducible repeat (first | refine blk_drewN ?_ _ | refine blk_drew ?_ | refine blk_alloc ?_ _)); exact BK162.out) hb); have n1_ := Aside0.mk (below_step (by repeat (first | (with_reducible first | exact HB.out | apply below_alloc | apply pw_below_drewN | apply below_drew1 | refine below_set ?_ GE162.out) | exact HB.out)) hb); have n2_ := Aside0.mk (hbox); have n3_ := Aside0.mk ((by rw [hg]; exact (below_size (by repeat (first | (with_reducible first | exact HB.out | apply below_alloc | apply pw_below_drewN | apply below_drew1 | refine below_set ?_ GE162.out) | exact HB.out))) : w.heap.size ≤ gb163)); have n4_ := Aside0.mk ((by rw [hg]; exact (below_size (by repeat (first | (with_reducible first | exact HB.out | apply below_alloc | apply pw_below_drewN | apply below_drew1 | refine below_set ?_ GE162.out) | exact HB.out))) : w.heap.size ≤ gb163)); have n5_ := Aside0.mk ((by rw [hg]; exact Nat.ne_of_lt (blk_lt (g := gb162) (o := .cells #[.int .i64 a0_0, .int .i64 a0_1, .int .i64 a0_2, .int .i64 a0_3, .int .i64 a0_4, .slice A0_5 l0_5.length c0_5] 26 (0, 0)) (by (with_reducible repeat (first | refine blk_drewN ?_ _ | refine blk_drew ?_ | refine blk_alloc ?_ _)); exact BK162.out)) : gb162 ≠ gb163)); have n6_ := Aside0.mk ((by rw [hg]; exact Nat.ne_of_gt (blk_lt (g := gb162) (o := .cells #[.int .i64 a0_0, .int .i64 a0_1, .int .i64 a0_2, .int .i64 a0_3, .int .i64 a0_4, .slice A0_5 l0_5.length c0_5] 26 (0, 0)) (by (with_reducible repeat (first | refine blk_drewN ?_ _ | refine blk_drew ?_ | refine blk_alloc ?_ _)); exact BK162.out)) : gb163 ≠ gb162)); clear BK162; clear HB; have BK162 := n0_; have HB := n1_; have BK163 := n2_; have GW163 := n3_; have GE163 := n4_; have NB162_163 := n5_; have NB163_162 := n6_; clear n0_ n1_ n2_ n3_ n4_ n5_ n6_; clear hb hbox hg; have hnb9 := NB162_163.out; have hnc9 := NB163_162.out; have hcz10_0 : w8.cell? ⟨gb162, 0, none⟩ = some (.int .i64 a0_0) := (blk_cell BK162.out 0).trans rfl; have hcz10_1 : w8.cell? ⟨gb162, 1, none⟩ = some (.int .i64 a0_1) := (blk_cell BK162.out 1).trans rfl; have hcz10_2 : w8.cell? ⟨gb162, 2, none⟩ = some (.int .i64 a0_2) := (blk_cell BK162.out 2).trans rfl; have hcz10_3 : w8.cell? ⟨gb162, 3, none⟩ = some (.int .i64 a0_3) := (blk_cell BK162.out 3).trans rfl; have hcz10_4 : w8.cell? ⟨gb162, 4, none⟩ = some (.int .i64 a0_4) := (blk_cell BK162.out 4).trans rfl; have hcz10_5 : w8.cell? ⟨gb162, 5, none⟩ = some (.slice A0_5 l0_5.length c0_5) := (blk_cell BK162.out 5).trans rfl; have hfz10_0 := blk_frozen BK162.out 0; have hfz10_1 := blk_frozen BK162.out 1; have hfz10_2 := blk_frozen BK162.out 2; have hfz10_3 := blk_frozen BK162.out 3; have hfz10_4 := blk_frozen BK162.out 4; have hfz10_5 := blk_frozen BK162.out 5) | ((with_reducible refine gate_callee (f := 22) rfl ?_); refine goesL_ (some 26) rfl rfl Try.func22 (by kernel_rfl) rfl #[.agg #[.int .i64 a0_0, .int .i64 a0_1], .int .i64 a0_2, .int .i64 a0_3, .int .i64 a0_4] rfl (by (try simp only [List.map_toArray, List.map_cons, List.map_nil]); first | done | rfl | (simp only [List.length_drop, List.length_take]; rfl)) ?_; (with_reducible refine (signal_Shape.calls k a0_0 a0_1 a0_2 a0_3 a0_4 t164 t165 _ A4.out).mono ?_); rintro e w11 ⟨rfl, hb⟩; refine ⟨_, rfl, ?_⟩; have n0_ := Aside0.mk (blk_below (g := gb162) (o := .cells #[.int .i64 a0_0, .int .i64 a0_1, .int .i64 a0_2, .int .i64 a0_3, .int .i64 a0_4, .slice A0_5 l0_5.length c0_5] 26 (0, 0)) (by (with_reducible repeat (first | refine blk_drewN ?_ _ | refine blk_drew ?_ | refine blk_alloc ?_ _)); exact BK162.out) hb); have n1_ := Aside0.mk (blk_below (g := gb163) (o := .cells #[.int .i64 a2_0, .int .i64 a2_1, .int .i64 a2_2] 27 (0, 0)) (by (with_reducible repeat (first | refine blk_drewN ?_ _ | refine blk_drew ?_ | refine blk_alloc ?_ _)); exact BK163.out) hb); have n2_ := Aside0.mk (below_step (by repeat (first | (with_reducible first | exact HB.out | apply below_alloc | apply pw_below_drewN | apply below_drew1 | refine below_set ?_ GE162.out | refine below_set ?_ GE163.out) | exact HB.out)) hb); clear BK162; clear BK163; clear HB; have BK162 := n0_; have BK163 := n1_; have HB := n2_; clear n0_ n1_ n2_; (try clear hb); (try clear hb2); (try clear hk); (try clear hi); have hcz12_0 : w11.cell? ⟨gb162, 0, none⟩ = some (.int .i64 a0_0) := (blk_cell BK162.out 0).trans rfl; have hcz12_1 : w11.cell? ⟨gb162, 1, none⟩ = some (.int .i64 a0_1) := (blk_cell BK162.out 1).trans rfl; have hcz12_2 : w11.cell? ⟨gb162, 2, none⟩ = some (.int .i64 a0_2) := (blk_cell BK162.out 2).trans rfl; have hcz12_3 : w11.cell? ⟨gb162, 3, none⟩ = some (.int .i64 a0_3) := (blk_cell BK162.out 3).trans rfl; have hcz12_4 : w11.cell? ⟨gb162, 4, none⟩ = some (.int .i64 a0_4) := (blk_cell BK162.out 4).trans rfl; have hcz12_5 : w11.cell? ⟨gb162, 5, none⟩ = some (.slice A0_5 l0_5.length c0_5) := (blk_cell BK162.out 5).trans rfl; have hfz12_0 := blk_frozen BK162.out 0; have hfz12_1 := blk_frozen BK162.out 1; have hfz12_2 := blk_frozen BK162.out 2; have hfz12_3 := blk_frozen BK162.out 3; have hfz12_4 := blk_frozen BK162.out 4; have hfz12_5 := blk_frozen BK162.out 5) | ((with_reducible refine gate_callee (f := 17) rfl ?_); refine goesL_ (some 32) rfl rfl Try.func17 (by kernel_rfl) rfl #[.agg #[.int .i64 a0_0, .int .i64 a0_1, .int .i64 a0_2, .int .i64 a0_3, .int .i64 a0_4, .slice A0_5 l0_5.length c0_5], .int .i64 a1] rfl (by (try simp only [List.map_toArray, List.map_cons, List.map_nil]); first | done | rfl | (simp only [List.length_drop, List.length_take]; rfl)) ?_; (with_reducible refine (signal_Where.calls k a0_0 a0_1 a0_2 a0_3 a0_4 _ _ l0_5 a1 t166 t167 t168 t169 _ ?side1 ?side2 A5.out).mono ?_); (case side1 => repeat (first | exact (Kd.C_below HR0_5.out HB.out) | (with_reducible refine Kd.C_alloc ?_ _) | (with_reducible refine Kd.C_drewN ?_ _) | (with_reducible refine Kd.C_drew ?_))); (case side2 => exact HC0_5.out); rintro e w13 ⟨rfl, hb⟩; refine ⟨_, rfl, ?_⟩; have n0_ := Aside0.mk (blk_below (g := gb162) (o := .cells #[.int .i64 a0_0, .int .i64 a0_1, .int .i64 a0_2, .int .i64 a0_3, .int .i64 a0_4, .slice A0_5 l0_5.length c0_5] 26 (0, 0)) (by (with_reducible repeat (first | refine blk_drewN ?_ _ | refine blk_drew ?_ | refine blk_alloc ?_ _)); exact BK162.out) hb); have n1_ := Aside0.mk (blk_below (g := gb163) (o := .cells #[.int .i64 a2_0, .int .i64 a2_1, .int .i64 a2_2] 27 (0, 0)) (by (with_reducible repeat (first | refine blk_drewN ?_ _ | refine blk_drew ?_ | refine blk_alloc ?_ _)); exact BK163.out) hb); have n2_ := Aside0.mk (below_step (by repeat (first | (with_reducible first | exact HB.out | apply below_alloc | apply pw_below_drewN | apply below_drew1 | refine below_set ?_ GE162.out | refine below_set ?_ GE163.out) | exact HB.out)) hb); clear BK162; clear BK163; clear HB; have BK162 := n0_; have BK163 := n1_; have HB := n2_; clear n0_ n1_ n2_; (try clear hb); (try clear hb2); (try clear hk); (try clear hi)))
  (try simp only [Act.put, List.setIfInBounds_toArray, List.set_cons_zero, List.set_cons_succ])
  go_cut [53] (fun v53 wc => ∃ (kq : Nat) (x53_5 : Bool), v53 = .bool x53_5 ∧ Aside0 (damasklaw23_SignalRound.j0 kq a1 t164 t166 t167 t168 t169 x53_5 a0_0 a0_1 a0_2 a0_3 a0_4 l0_5 a2_0 a2_1 a2_2 = some r) ∧ Aside0 (kq ≤ k) ∧ Aside0 (wc.heap[gb162]? = some (.cells #[.int .i64 a0_0, .int .i64 a0_1, .int .i64 a0_2, .int .i64 a0_3, .int .i64 a0_4, (.slice A0_5 l0_5.length c0_5)] 26 (0, 0))) ∧ Aside0 (wc.heap[gb163]? = some (.cells #[.int .i64 a2_0, .int .i64 a2_1, .int .i64 a2_2] 27 (0, 0))) ∧ Aside0 (Below w.heap.size w wc))
  case first =>
    have H := HC6.out
    clear HC6
    replace H := Option.bind_eq_some_iff.mp H
    obtain ⟨t170, A140, H⟩ := H
    replace H : (if t170 = true then (if t165 = 0 then (if a1 ≥ 0 then (damasklaw23_SignalRound.j0 k a1 t164 t166 t167 t168 t169 (t169 != (decide (a1 < t164))) a0_0 a0_1 a0_2 a0_3 a0_4 l0_5 a2_0 a2_1 a2_2) else (damasklaw23_SignalRound.j0 k a1 t164 t166 t167 t168 t169 (t169 != false) a0_0 a0_1 a0_2 a0_3 a0_4 l0_5 a2_0 a2_1 a2_2)) else (damasklaw23_SignalRound.j0 k a1 t164 t166 t167 t168 t169 (t169 != false) a0_0 a0_1 a0_2 a0_3 a0_4 l0_5 a2_0 a2_1 a2_2)) else (damasklaw23_SignalRound.j0 k a1 t164 t166 t167 t168 t169 true a0_0 a0_1 a0_2 a0_3 a0_4 l0_5 a2_0 a2_1 a2_2)) = some r := H
    have A14 := Aside0.mk A140
    clear A140
    by_cases c15 : t170 = true
    · subst c15
      have H1 : (if t165 = 0 then (if a1 ≥ 0 then (damasklaw23_SignalRound.j0 k a1 t164 t166 t167 t168 t169 (t169 != (decide (a1 < t164))) a0_0 a0_1 a0_2 a0_3 a0_4 l0_5 a2_0 a2_1 a2_2) else (damasklaw23_SignalRound.j0 k a1 t164 t166 t167 t168 t169 (t169 != false) a0_0 a0_1 a0_2 a0_3 a0_4 l0_5 a2_0 a2_1 a2_2)) else (damasklaw23_SignalRound.j0 k a1 t164 t166 t167 t168 t169 (t169 != false) a0_0 a0_1 a0_2 a0_3 a0_4 l0_5 a2_0 a2_1 a2_2)) = some r := by rw [if_pos rfl] at H; exact H
      clear H
      have H := H1
      clear H1
      by_cases c16 : t165 = 0
      · rw [if_pos c16] at H
        have c16b0 : (t165 == 0) = true := beq_iff_eq.mpr c16
        have c16b1 : (t165 != 0) = false := bne_eq_false_iff_eq.mpr c16
        clear c16
        (first | rw [c16b0] | (simp only [i64_w, i32_w]; rw [c16b0]) | skip)
        by_cases c17 : a1 ≥ 0
        · rw [if_pos c17] at H
          have c17b0 : decide (0 ≤ a1) = true := decide_eq_true c17
          clear c17
          have H' := Aside0.mk H
          clear H
          go_wp2_with (first | ((with_reducible refine gate_callee (f := 21) rfl ?_); refine goesL_ (some 37) rfl rfl Try.func21 (by kernel_rfl) rfl #[] rfl (by (try simp only [List.map_toArray, List.map_cons, List.map_nil]); first | done | rfl | (simp only [List.length_drop, List.length_take]; rfl)) ?_; (with_reducible refine (damasklaw23_awake.calls k  true _ A14.out).mono ?_); rintro e w18 ⟨rfl, hb⟩; refine ⟨_, rfl, ?_⟩; have n0_ := Aside0.mk (blk_below (g := gb162) (o := .cells #[.int .i64 a0_0, .int .i64 a0_1, .int .i64 a0_2, .int .i64 a0_3, .int .i64 a0_4, .slice A0_5 l0_5.length c0_5] 26 (0, 0)) (by (with_reducible repeat (first | refine blk_drewN ?_ _ | refine blk_drew ?_ | refine blk_alloc ?_ _)); exact BK162.out) hb); have n1_ := Aside0.mk (blk_below (g := gb163) (o := .cells #[.int .i64 a2_0, .int .i64 a2_1, .int .i64 a2_2] 27 (0, 0)) (by (with_reducible repeat (first | refine blk_drewN ?_ _ | refine blk_drew ?_ | refine blk_alloc ?_ _)); exact BK163.out) hb); have n2_ := Aside0.mk (below_step (by repeat (first | (with_reducible first | exact HB.out | apply below_alloc | apply pw_below_drewN | apply below_drew1 | refine below_set ?_ GE162.out | refine below_set ?_ GE163.out) | exact HB.out)) hb); clear BK162; clear BK163; clear HB; have BK162 := n0_; have BK163 := n1_; have HB := n2_; clear n0_ n1_ n2_; (try clear hb); (try clear hb2); (try clear hk); (try clear hi)))
          go_meet
          case rel => exact ⟨_, ((t169 != (decide (a1 < t164)))), (by first | rfl | (simp; done) | (simp [*]; done)), H', ⟨by first | omega | exact Nat.le_refl _⟩, ⟨by (with_reducible repeat (first | refine blk_drewN ?_ _ | refine blk_drew ?_ | refine blk_alloc ?_ _)); exact BK162.out⟩, ⟨by (with_reducible repeat (first | refine blk_drewN ?_ _ | refine blk_drew ?_ | refine blk_alloc ?_ _)); exact BK163.out⟩, ⟨by repeat (first | (with_reducible first | exact HB.out | apply below_alloc | apply pw_below_drewN | apply below_drew1 | refine below_set ?_ GE162.out | refine below_set ?_ GE163.out) | exact HB.out)⟩⟩
        · rw [if_neg c17] at H
          have c17b0 : decide (0 ≤ a1) = false := decide_eq_false c17
          clear c17
          have H' := Aside0.mk H
          clear H
          go_wp2_with (first | ((with_reducible refine gate_callee (f := 21) rfl ?_); refine goesL_ (some 37) rfl rfl Try.func21 (by kernel_rfl) rfl #[] rfl (by (try simp only [List.map_toArray, List.map_cons, List.map_nil]); first | done | rfl | (simp only [List.length_drop, List.length_take]; rfl)) ?_; (with_reducible refine (damasklaw23_awake.calls k  true _ A14.out).mono ?_); rintro e w19 ⟨rfl, hb⟩; refine ⟨_, rfl, ?_⟩; have n0_ := Aside0.mk (blk_below (g := gb162) (o := .cells #[.int .i64 a0_0, .int .i64 a0_1, .int .i64 a0_2, .int .i64 a0_3, .int .i64 a0_4, .slice A0_5 l0_5.length c0_5] 26 (0, 0)) (by (with_reducible repeat (first | refine blk_drewN ?_ _ | refine blk_drew ?_ | refine blk_alloc ?_ _)); exact BK162.out) hb); have n1_ := Aside0.mk (blk_below (g := gb163) (o := .cells #[.int .i64 a2_0, .int .i64 a2_1, .int .i64 a2_2] 27 (0, 0)) (by (with_reducible repeat (first | refine blk_drewN ?_ _ | refine blk_drew ?_ | refine blk_alloc ?_ _)); exact BK163.out) hb); have n2_ := Aside0.mk (below_step (by repeat (first | (with_reducible first | exact HB.out | apply below_alloc | apply pw_below_drewN | apply below_drew1 | refine below_set ?_ GE162.out | refine below_set ?_ GE163.out) | exact HB.out)) hb); clear BK162; clear BK163; clear HB; have BK162 := n0_; have BK163 := n1_; have HB := n2_; clear n0_ n1_ n2_; (try clear hb); (try clear hb2); (try clear hk); (try clear hi)))
          go_meet
          case rel => exact ⟨_, ((t169 != false)), (by first | rfl | (simp; done) | (simp [*]; done)), H', ⟨by first | omega | exact Nat.le_refl _⟩, ⟨by (with_reducible repeat (first | refine blk_drewN ?_ _ | refine blk_drew ?_ | refine blk_alloc ?_ _)); exact BK162.out⟩, ⟨by (with_reducible repeat (first | refine blk_drewN ?_ _ | refine blk_drew ?_ | refine blk_alloc ?_ _)); exact BK163.out⟩, ⟨by repeat (first | (with_reducible first | exact HB.out | apply below_alloc | apply pw_below_drewN | apply below_drew1 | refine below_set ?_ GE162.out | refine below_set ?_ GE163.out) | exact HB.out)⟩⟩
      · rw [if_neg c16] at H
        have c16b0 : (t165 == 0) = false := beq_eq_false_iff_ne.mpr c16
        have c16b1 : (t165 != 0) = true := bne_iff_ne.mpr c16
        (first | rw [c16b0] | (simp only [i64_w, i32_w]; rw [c16b0]) | skip)
        have H' := Aside0.mk H
        clear H
        go_wp2_with (first | ((with_reducible refine gate_callee (f := 21) rfl ?_); refine goesL_ (some 37) rfl rfl Try.func21 (by kernel_rfl) rfl #[] rfl (by (try simp only [List.map_toArray, List.map_cons, List.map_nil]); first | done | rfl | (simp only [List.length_drop, List.length_take]; rfl)) ?_; (with_reducible refine (damasklaw23_awake.calls k  true _ A14.out).mono ?_); rintro e w20 ⟨rfl, hb⟩; refine ⟨_, rfl, ?_⟩; have n0_ := Aside0.mk (blk_below (g := gb162) (o := .cells #[.int .i64 a0_0, .int .i64 a0_1, .int .i64 a0_2, .int .i64 a0_3, .int .i64 a0_4, .slice A0_5 l0_5.length c0_5] 26 (0, 0)) (by (with_reducible repeat (first | refine blk_drewN ?_ _ | refine blk_drew ?_ | refine blk_alloc ?_ _)); exact BK162.out) hb); have n1_ := Aside0.mk (blk_below (g := gb163) (o := .cells #[.int .i64 a2_0, .int .i64 a2_1, .int .i64 a2_2] 27 (0, 0)) (by (with_reducible repeat (first | refine blk_drewN ?_ _ | refine blk_drew ?_ | refine blk_alloc ?_ _)); exact BK163.out) hb); have n2_ := Aside0.mk (below_step (by repeat (first | (with_reducible first | exact HB.out | apply below_alloc | apply pw_below_drewN | apply below_drew1 | refine below_set ?_ GE162.out | refine below_set ?_ GE163.out) | exact HB.out)) hb); clear BK162; clear BK163; clear HB; have BK162 := n0_; have BK163 := n1_; have HB := n2_; clear n0_ n1_ n2_; (try clear hb); (try clear hb2); (try clear hk); (try clear hi)))
        go_meet
        case rel => exact ⟨_, ((t169 != false)), (by first | rfl | (simp; done) | (simp [*]; done)), H', ⟨by first | omega | exact Nat.le_refl _⟩, ⟨by (with_reducible repeat (first | refine blk_drewN ?_ _ | refine blk_drew ?_ | refine blk_alloc ?_ _)); exact BK162.out⟩, ⟨by (with_reducible repeat (first | refine blk_drewN ?_ _ | refine blk_drew ?_ | refine blk_alloc ?_ _)); exact BK163.out⟩, ⟨by repeat (first | (with_reducible first | exact HB.out | apply below_alloc | apply pw_below_drewN | apply below_drew1 | refine below_set ?_ GE162.out | refine below_set ?_ GE163.out) | exact HB.out)⟩⟩
    · replace c15 := Bool.eq_false_iff.mpr c15
      subst c15
      have H1 : (damasklaw23_SignalRound.j0 k a1 t164 t166 t167 t168 t169 true a0_0 a0_1 a0_2 a0_3 a0_4 l0_5 a2_0 a2_1 a2_2) = some r := by rw [if_neg (show ¬ (false = true) by decide)] at H; exact H
      clear H
      have H := H1
      clear H1
      exact absurd H (by have h_ := hrT.out; subst h_; clear hrT; cases k <;> simp [damasklaw23_SignalRound.j0])
  case rest =>
    clear HC6
    try clear c1
    try clear c2
    try clear p2
    try clear c4
    try clear c9
    try clear c15
    try clear c16
    try clear c16b0
    try clear c16b1
    try clear c17
    try clear c17b0
    try clear hcz10_0
    try clear hcz10_1
    try clear hcz10_2
    try clear hcz10_3
    try clear hcz10_4
    try clear hcz10_5
    try clear hcz12_0
    try clear hcz12_1
    try clear hcz12_2
    try clear hcz12_3
    try clear hcz12_4
    try clear hcz12_5
    try clear hfz10_0
    try clear hfz10_1
    try clear hfz10_2
    try clear hfz10_3
    try clear hfz10_4
    try clear hfz10_5
    try clear hfz12_0
    try clear hfz12_1
    try clear hfz12_2
    try clear hfz12_3
    try clear hfz12_4
    try clear hfz12_5
    obtain ⟨kq, x53_5, rfl, HA, HJ5, BK162, BK163, HB⟩ := hcut
    cases kq with
    | zero => exact absurd HA.out (by simp [damasklaw23_SignalRound.j0])
    | succ kj5 =>
      have H := HA.out
      clear HA
      simp only [damasklaw23_SignalRound.j0] at H
      by_cases c21 : x53_5 = true
      · subst c21
        have H1 : (some false) = some r := by rw [if_pos rfl] at H; exact H
        clear H
        have H := H1
        clear H1
        exact absurd hrT.out (by have h_ := Option.some.inj H; rw [← h_]; decide)
      · replace c21 := Bool.eq_false_iff.mpr c21
        subst c21
        have H1 : (if t169 = true then ((signal_Index.f kj5 a0_0 a0_1 a0_2 a0_3 a0_4 l0_5 t166 t167 t168).bind fun bt171 => (if bt171.2 = true then (if bt171.1 = a1 then (damasklaw23_SignalRound.j1 kj5 t164 a0_0 a0_1 a0_2 a0_3 a0_4 l0_5 a2_0 a2_1 a2_2) else (some false)) else (some false))) else (damasklaw23_SignalRound.j1 kj5 t164 a0_0 a0_1 a0_2 a0_3 a0_4 l0_5 a2_0 a2_1 a2_2)) = some r := by rw [if_neg (show ¬ (false = true) by decide)] at H; exact H
        clear H
        have H := H1
        clear H1
        have HC22 := Aside0.mk H
        clear H
        go_upto_if 54 with (fail)
        go_cut [] (fun wc => ∃ (kq : Nat), Aside0 (damasklaw23_SignalRound.j1 kq t164 a0_0 a0_1 a0_2 a0_3 a0_4 l0_5 a2_0 a2_1 a2_2 = some r) ∧ Aside0 (kq ≤ kj5) ∧ Aside0 (wc.heap[gb162]? = some (.cells #[.int .i64 a0_0, .int .i64 a0_1, .int .i64 a0_2, .int .i64 a0_3, .int .i64 a0_4, (.slice A0_5 l0_5.length c0_5)] 26 (0, 0))) ∧ Aside0 (wc.heap[gb163]? = some (.cells #[.int .i64 a2_0, .int .i64 a2_1, .int .i64 a2_2] 27 (0, 0))) ∧ Aside0 (Below w.heap.size w wc))
        case first =>
          have H := HC22.out
          clear HC22
          by_cases c23 : t169 = true
          · subst c23
            have H1 : ((signal_Index.f kj5 a0_0 a0_1 a0_2 a0_3 a0_4 l0_5 t166 t167 t168).bind fun bt171 => (if bt171.2 = true then (if bt171.1 = a1 then (damasklaw23_SignalRound.j1 kj5 t164 a0_0 a0_1 a0_2 a0_3 a0_4 l0_5 a2_0 a2_1 a2_2) else (some false)) else (some false))) = some r := by rw [if_pos rfl] at H; exact H
            clear H
            have H := H1
            clear H1
            replace H := Option.bind_eq_some_iff.mp H
            obtain ⟨⟨t171, t172⟩, A240, H⟩ := H
            replace H : (if t172 = true then (if t171 = a1 then (damasklaw23_SignalRound.j1 kj5 t164 a0_0 a0_1 a0_2 a0_3 a0_4 l0_5 a2_0 a2_1 a2_2) else (some false)) else (some false)) = some r := H
            have A24 := Aside0.mk A240
            clear A240
            by_cases c25 : t172 = true
            · subst c25
              have H1 : (if t171 = a1 then (damasklaw23_SignalRound.j1 kj5 t164 a0_0 a0_1 a0_2 a0_3 a0_4 l0_5 a2_0 a2_1 a2_2) else (some false)) = some r := by rw [if_pos rfl] at H; exact H
              clear H
              have H := H1
              clear H1
              by_cases c26 : t171 = a1
              · rw [if_pos c26] at H
                have c26b0 : (t171 == a1) = true := beq_iff_eq.mpr c26
                have c26b1 : (t171 != a1) = false := bne_eq_false_iff_eq.mpr c26
                clear c26
                (first | rw [c26b0] | (simp only [i64_w, i32_w]; rw [c26b0]) | skip)
                have H' := Aside0.mk H
                clear H
                have hnb27 := NB162_163.out
                have hnc27 := NB163_162.out
                have hcz28_0 : wc.cell? ⟨gb162, 0, none⟩ = some (.int .i64 a0_0) := (blk_cell BK162.out 0).trans rfl
                have hcz28_1 : wc.cell? ⟨gb162, 1, none⟩ = some (.int .i64 a0_1) := (blk_cell BK162.out 1).trans rfl
                have hcz28_2 : wc.cell? ⟨gb162, 2, none⟩ = some (.int .i64 a0_2) := (blk_cell BK162.out 2).trans rfl
                have hcz28_3 : wc.cell? ⟨gb162, 3, none⟩ = some (.int .i64 a0_3) := (blk_cell BK162.out 3).trans rfl
                have hcz28_4 : wc.cell? ⟨gb162, 4, none⟩ = some (.int .i64 a0_4) := (blk_cell BK162.out 4).trans rfl
                have hcz28_5 : wc.cell? ⟨gb162, 5, none⟩ = some (.slice A0_5 l0_5.length c0_5) := (blk_cell BK162.out 5).trans rfl
                have hfz28_0 := blk_frozen BK162.out 0
                have hfz28_1 := blk_frozen BK162.out 1
                have hfz28_2 := blk_frozen BK162.out 2
                have hfz28_3 := blk_frozen BK162.out 3
                have hfz28_4 := blk_frozen BK162.out 4
                have hfz28_5 := blk_frozen BK162.out 5
                go_wp2_with (first | ((with_reducible refine gate_callee (f := 19) rfl ?_); refine goesL_ (some 60) rfl rfl Try.func19 (by kernel_rfl) rfl #[.agg #[.int .i64 a0_0, .int .i64 a0_1, .int .i64 a0_2, .int .i64 a0_3, .int .i64 a0_4, .slice A0_5 l0_5.length c0_5], .int .i64 t166, .int .i64 t167, .int .i64 t168] rfl (by (try simp only [List.map_toArray, List.map_cons, List.map_nil]); first | done | rfl | (simp only [List.length_drop, List.length_take]; rfl)) ?_; (with_reducible refine (signal_Index.calls kj5 a0_0 a0_1 a0_2 a0_3 a0_4 _ _ l0_5 t166 t167 t168 t171 true _ ?side1 ?side2 A24.out).mono ?_); (case side1 => repeat (first | exact (Kd.C_below HR0_5.out HB.out) | (with_reducible refine Kd.C_alloc ?_ _) | (with_reducible refine Kd.C_drewN ?_ _) | (with_reducible refine Kd.C_drew ?_))); (case side2 => exact HC0_5.out); rintro e w29 ⟨rfl, hb⟩; refine ⟨_, rfl, ?_⟩; have n0_ := Aside0.mk (blk_below (g := gb162) (o := .cells #[.int .i64 a0_0, .int .i64 a0_1, .int .i64 a0_2, .int .i64 a0_3, .int .i64 a0_4, .slice A0_5 l0_5.length c0_5] 26 (0, 0)) (by (with_reducible repeat (first | refine blk_drewN ?_ _ | refine blk_drew ?_ | refine blk_alloc ?_ _)); exact BK162.out) hb); have n1_ := Aside0.mk (blk_below (g := gb163) (o := .cells #[.int .i64 a2_0, .int .i64 a2_1, .int .i64 a2_2] 27 (0, 0)) (by (with_reducible repeat (first | refine blk_drewN ?_ _ | refine blk_drew ?_ | refine blk_alloc ?_ _)); exact BK163.out) hb); have n2_ := Aside0.mk (below_step (by repeat (first | (with_reducible first | exact HB.out | apply below_alloc | apply pw_below_drewN | apply below_drew1 | refine below_set ?_ GE162.out | refine below_set ?_ GE163.out) | exact HB.out)) hb); clear BK162; clear BK163; clear HB; have BK162 := n0_; have BK163 := n1_; have HB := n2_; clear n0_ n1_ n2_; (try clear hb); (try clear hb2); (try clear hk); (try clear hi)))
                go_meet
                case rel => exact ⟨_, H', ⟨by have := HJ5.out; first | omega | exact Nat.le_refl _⟩, ⟨by (with_reducible repeat (first | refine blk_drewN ?_ _ | refine blk_drew ?_ | refine blk_alloc ?_ _)); exact BK162.out⟩, ⟨by (with_reducible repeat (first | refine blk_drewN ?_ _ | refine blk_drew ?_ | refine blk_alloc ?_ _)); exact BK163.out⟩, ⟨by repeat (first | (with_reducible first | exact HB.out | apply below_alloc | apply pw_below_drewN | apply below_drew1 | refine below_set ?_ GE162.out | refine below_set ?_ GE163.out) | exact HB.out)⟩⟩
              · rw [if_neg c26] at H
                have c26b0 : (t171 == a1) = false := beq_eq_false_iff_ne.mpr c26
                have c26b1 : (t171 != a1) = true := bne_iff_ne.mpr c26
                (first | rw [c26b0] | (simp only [i64_w, i32_w]; rw [c26b0]) | skip)
                exact absurd hrT.out (by have h_ := Option.some.inj H; rw [← h_]; decide)
            · replace c25 := Bool.eq_false_iff.mpr c25
              subst c25
              have H1 : (some false) = some r := by rw [if_neg (show ¬ (false = true) by decide)] at H; exact H
              clear H
              have H := H1
              clear H1
              exact absurd hrT.out (by have h_ := Option.some.inj H; rw [← h_]; decide)
          · replace c23 := Bool.eq_false_iff.mpr c23
            subst c23
            have H1 : (damasklaw23_SignalRound.j1 kj5 t164 a0_0 a0_1 a0_2 a0_3 a0_4 l0_5 a2_0 a2_1 a2_2) = some r := by rw [if_neg (show ¬ (false = true) by decide)] at H; exact H
            clear H
            have H := H1
            clear H1
            have H' := Aside0.mk H
            clear H
            go_wp2
            go_meet
            case rel => exact ⟨_, H', ⟨by have := HJ5.out; first | omega | exact Nat.le_refl _⟩, ⟨by (with_reducible repeat (first | refine blk_drewN ?_ _ | refine blk_drew ?_ | refine blk_alloc ?_ _)); exact BK162.out⟩, ⟨by (with_reducible repeat (first | refine blk_drewN ?_ _ | refine blk_drew ?_ | refine blk_alloc ?_ _)); exact BK163.out⟩, ⟨by repeat (first | (with_reducible first | exact HB.out | apply below_alloc | apply pw_below_drewN | apply below_drew1 | refine below_set ?_ GE162.out | refine below_set ?_ GE163.out) | exact HB.out)⟩⟩
        case rest =>
          clear HC22
          try clear c1
          try clear c2
          try clear p2
          try clear c4
          try clear c9
          try clear c15
          try clear c16
          try clear c16b0
          try clear c16b1
          try clear c17
          try clear c17b0
          try clear c19
          try clear c21
          try clear c22
          try clear c23
          try clear c25
          try clear c26
          try clear c26b0
          try clear c26b1
          try clear c27
          try clear hcz10_0
          try clear hcz10_1
          try clear hcz10_2
          try clear hcz10_3
          try clear hcz10_4
          try clear hcz10_5
          try clear hcz12_0
          try clear hcz12_1
          try clear hcz12_2
          try clear hcz12_3
          try clear hcz12_4
          try clear hcz12_5
          try clear hcz28_0
          try clear hcz28_1
          try clear hcz28_2
          try clear hcz28_3
          try clear hcz28_4
          try clear hcz28_5
          try clear hfz10_0
          try clear hfz10_1
          try clear hfz10_2
          try clear hfz10_3
          try clear hfz10_4
          try clear hfz10_5
          try clear hfz12_0
          try clear hfz12_1
          try clear hfz12_2
          try clear hfz12_3
          try clear hfz12_4
          try clear hfz12_5
          try clear hfz28_0
          try clear hfz28_1
          try clear hfz28_2
          try clear hfz28_3
          try clear hfz28_4
          try clear hfz28_5
          try clear p2
          obtain ⟨kq, HA, HJ21, BK162, BK163, HB⟩ := hcut
          cases kq with
          | zero => exact absurd HA.out (by simp [damasklaw23_SignalRound.j1])
          | succ kj21 =>
            have H := HA.out
            clear HA
            simp only [damasklaw23_SignalRound.j1] at H
            replace H := Option.bind_eq_some_iff.mp H
            obtain ⟨⟨t173, t174⟩, A300, H⟩ := H
            replace H : (if t174 = true then ((signal_Where.f kj21 a0_0 a0_1 a0_2 a0_3 a0_4 l0_5 t173).bind fun bt175 => (if bt175.2.2.2 = true then (if t173 ≥ 0 then (if t173 < t164 then (if bt175.1 = a2_0 then (if bt175.2.1 = a2_1 then (some (bt175.2.2.1 == a2_2)) else (some false)) else (some false)) else (some false)) else (some false)) else (some false))) else (some (t173 == 0))) = some r := H
            have A30 := Aside0.mk A300
            clear A300
            by_cases c31 : t174 = true
            · subst c31
              have H1 : ((signal_Where.f kj21 a0_0 a0_1 a0_2 a0_3 a0_4 l0_5 t173).bind fun bt175 => (if bt175.2.2.2 = true then (if t173 ≥ 0 then (if t173 < t164 then (if bt175.1 = a2_0 then (if bt175.2.1 = a2_1 then (some (bt175.2.2.1 == a2_2)) else (some false)) else (some false)) else (some false)) else (some false)) else (some false))) = some r := by rw [if_pos rfl] at H; exact H
              clear H
              have H := H1
              clear H1
              replace H := Option.bind_eq_some_iff.mp H
              obtain ⟨⟨t175, t176, t177, t178⟩, A320, H⟩ := H
              replace H : (if t178 = true then (if t173 ≥ 0 then (if t173 < t164 then (if t175 = a2_0 then (if t176 = a2_1 then (some (t177 == a2_2)) else (some false)) else (some false)) else (some false)) else (some false)) else (some false)) = some r := H
              have A32 := Aside0.mk A320
              clear A320
              by_cases c33 : t178 = true
              · subst c33
                have H1 : (if t173 ≥ 0 then (if t173 < t164 then (if t175 = a2_0 then (if t176 = a2_1 then (some (t177 == a2_2)) else (some false)) else (some false)) else (some false)) else (some false)) = some r := by rw [if_pos rfl] at H; exact H
                clear H
                have H := H1
                clear H1
                by_cases c34 : t173 ≥ 0
                · rw [if_pos c34] at H
                  have c34b0 : decide (0 ≤ t173) = true := decide_eq_true c34
                  clear c34
                  by_cases c35 : t173 < t164
                  · rw [if_pos c35] at H
                    have c35b0 : decide (t173 < t164) = true := decide_eq_true c35
                    clear c35
                    by_cases c36 : t175 = a2_0
                    · rw [if_pos c36] at H
                      have c36b0 : (t175 == a2_0) = true := beq_iff_eq.mpr c36
                      have c36b1 : (t175 != a2_0) = false := bne_eq_false_iff_eq.mpr c36
                      clear c36
                      by_cases c37 : t176 = a2_1
                      · rw [if_pos c37] at H
                        have c37b0 : (t176 == a2_1) = true := beq_iff_eq.mpr c37
                        have c37b1 : (t176 != a2_1) = false := bne_eq_false_iff_eq.mpr c37
                        clear c37
                        obtain rfl := Option.some.inj H
                        have hnb38 := NB162_163.out
                        have hnc38 := NB163_162.out
                        have hcz39_0 : wc.cell? ⟨gb162, 0, none⟩ = some (.int .i64 a0_0) := (blk_cell BK162.out 0).trans rfl
                        have hcz39_1 : wc.cell? ⟨gb162, 1, none⟩ = some (.int .i64 a0_1) := (blk_cell BK162.out 1).trans rfl
                        have hcz39_2 : wc.cell? ⟨gb162, 2, none⟩ = some (.int .i64 a0_2) := (blk_cell BK162.out 2).trans rfl
                        have hcz39_3 : wc.cell? ⟨gb162, 3, none⟩ = some (.int .i64 a0_3) := (blk_cell BK162.out 3).trans rfl
                        have hcz39_4 : wc.cell? ⟨gb162, 4, none⟩ = some (.int .i64 a0_4) := (blk_cell BK162.out 4).trans rfl
                        have hcz39_5 : wc.cell? ⟨gb162, 5, none⟩ = some (.slice A0_5 l0_5.length c0_5) := (blk_cell BK162.out 5).trans rfl
                        have hfz39_0 := blk_frozen BK162.out 0
                        have hfz39_1 := blk_frozen BK162.out 1
                        have hfz39_2 := blk_frozen BK162.out 2
                        have hfz39_3 := blk_frozen BK162.out 3
                        have hfz39_4 := blk_frozen BK162.out 4
                        have hfz39_5 := blk_frozen BK162.out 5
                        have hcz40_0 : wc.cell? ⟨gb163, 0, none⟩ = some (.int .i64 a2_0) := (blk_cell BK163.out 0).trans rfl
                        have hcz40_1 : wc.cell? ⟨gb163, 1, none⟩ = some (.int .i64 a2_1) := (blk_cell BK163.out 1).trans rfl
                        have hcz40_2 : wc.cell? ⟨gb163, 2, none⟩ = some (.int .i64 a2_2) := (blk_cell BK163.out 2).trans rfl
                        have hfz40_0 := blk_frozen BK163.out 0
                        have hfz40_1 := blk_frozen BK163.out 1
                        have hfz40_2 := blk_frozen BK163.out 2
                        go_wp2_with (first | ((with_reducible refine gate_callee (f := 19) rfl ?_); refine goesL_ (some 78) rfl rfl Try.func19 (by kernel_rfl) rfl #[.agg #[.int .i64 a0_0, .int .i64 a0_1, .int .i64 a0_2, .int .i64 a0_3, .int .i64 a0_4, .slice A0_5 l0_5.length c0_5], .int .i64 a2_0, .int .i64 a2_1, .int .i64 a2_2] rfl (by (try simp only [List.map_toArray, List.map_cons, List.map_nil]); first | done | rfl | (simp only [List.length_drop, List.length_take]; rfl)) ?_; (with_reducible refine (signal_Index.calls kj21 a0_0 a0_1 a0_2 a0_3 a0_4 _ _ l0_5 a2_0 a2_1 a2_2 t173 true _ ?side1 ?side2 A30.out).mono ?_); (case side1 => repeat (first | exact (Kd.C_below HR0_5.out HB.out) | (with_reducible refine Kd.C_alloc ?_ _) | (with_reducible refine Kd.C_drewN ?_ _) | (with_reducible refine Kd.C_drew ?_))); (case side2 => exact HC0_5.out); rintro e w41 ⟨rfl, hb⟩; refine ⟨_, rfl, ?_⟩; have n0_ := Aside0.mk (blk_below (g := gb162) (o := .cells #[.int .i64 a0_0, .int .i64 a0_1, .int .i64 a0_2, .int .i64 a0_3, .int .i64 a0_4, .slice A0_5 l0_5.length c0_5] 26 (0, 0)) (by (with_reducible repeat (first | refine blk_drewN ?_ _ | refine blk_drew ?_ | refine blk_alloc ?_ _)); exact BK162.out) hb); have n1_ := Aside0.mk (blk_below (g := gb163) (o := .cells #[.int .i64 a2_0, .int .i64 a2_1, .int .i64 a2_2] 27 (0, 0)) (by (with_reducible repeat (first | refine blk_drewN ?_ _ | refine blk_drew ?_ | refine blk_alloc ?_ _)); exact BK163.out) hb); have n2_ := Aside0.mk (below_step (by repeat (first | (with_reducible first | exact HB.out | apply below_alloc | apply pw_below_drewN | apply below_drew1 | refine below_set ?_ GE162.out | refine below_set ?_ GE163.out) | exact HB.out)) hb); clear BK162; clear BK163; clear HB; have BK162 := n0_; have BK163 := n1_; have HB := n2_; clear n0_ n1_ n2_; (try clear hb); (try clear hb2); (try clear hk); (try clear hi); have hcz42_0 : w41.cell? ⟨gb162, 0, none⟩ = some (.int .i64 a0_0) := (blk_cell BK162.out 0).trans rfl; have hcz42_1 : w41.cell? ⟨gb162, 1, none⟩ = some (.int .i64 a0_1) := (blk_cell BK162.out 1).trans rfl; have hcz42_2 : w41.cell? ⟨gb162, 2, none⟩ = some (.int .i64 a0_2) := (blk_cell BK162.out 2).trans rfl; have hcz42_3 : w41.cell? ⟨gb162, 3, none⟩ = some (.int .i64 a0_3) := (blk_cell BK162.out 3).trans rfl; have hcz42_4 : w41.cell? ⟨gb162, 4, none⟩ = some (.int .i64 a0_4) := (blk_cell BK162.out 4).trans rfl; have hcz42_5 : w41.cell? ⟨gb162, 5, none⟩ = some (.slice A0_5 l0_5.length c0_5) := (blk_cell BK162.out 5).trans rfl; have hfz42_0 := blk_frozen BK162.out 0; have hfz42_1 := blk_frozen BK162.out 1; have hfz42_2 := blk_frozen BK162.out 2; have hfz42_3 := blk_frozen BK162.out 3; have hfz42_4 := blk_frozen BK162.out 4; have hfz42_5 := blk_frozen BK162.out 5) | ((with_reducible refine gate_callee (f := 17) rfl ?_); refine goesL_ (some 88) rfl rfl Try.func17 (by kernel_rfl) rfl #[.agg #[.int .i64 a0_0, .int .i64 a0_1, .int .i64 a0_2, .int .i64 a0_3, .int .i64 a0_4, .slice A0_5 l0_5.length c0_5], .int .i64 t173] rfl (by (try simp only [List.map_toArray, List.map_cons, List.map_nil]); first | done | rfl | (simp only [List.length_drop, List.length_take]; rfl)) ?_; (with_reducible refine (signal_Where.calls kj21 a0_0 a0_1 a0_2 a0_3 a0_4 _ _ l0_5 t173 t175 t176 t177 true _ ?side1 ?side2 A32.out).mono ?_); (case side1 => repeat (first | exact (Kd.C_below HR0_5.out HB.out) | (with_reducible refine Kd.C_alloc ?_ _) | (with_reducible refine Kd.C_drewN ?_ _) | (with_reducible refine Kd.C_drew ?_))); (case side2 => exact HC0_5.out); rintro e w43 ⟨rfl, hb⟩; refine ⟨_, rfl, ?_⟩; have n0_ := Aside0.mk (blk_below (g := gb162) (o := .cells #[.int .i64 a0_0, .int .i64 a0_1, .int .i64 a0_2, .int .i64 a0_3, .int .i64 a0_4, .slice A0_5 l0_5.length c0_5] 26 (0, 0)) (by (with_reducible repeat (first | refine blk_drewN ?_ _ | refine blk_drew ?_ | refine blk_alloc ?_ _)); exact BK162.out) hb); have n1_ := Aside0.mk (blk_below (g := gb163) (o := .cells #[.int .i64 a2_0, .int .i64 a2_1, .int .i64 a2_2] 27 (0, 0)) (by (with_reducible repeat (first | refine blk_drewN ?_ _ | refine blk_drew ?_ | refine blk_alloc ?_ _)); exact BK163.out) hb); have n2_ := Aside0.mk (below_step (by repeat (first | (with_reducible first | exact HB.out | apply below_alloc | apply pw_below_drewN | apply below_drew1 | refine below_set ?_ GE162.out | refine below_set ?_ GE163.out) | exact HB.out)) hb); clear BK162; clear BK163; clear HB; have BK162 := n0_; have BK163 := n1_; have HB := n2_; clear n0_ n1_ n2_; (try clear hb); (try clear hb2); (try clear hk); (try clear hi); have hcz44_0 : w43.cell? ⟨gb163, 0, none⟩ = some (.int .i64 a2_0) := (blk_cell BK163.out 0).trans rfl; have hcz44_1 : w43.cell? ⟨gb163, 1, none⟩ = some (.int .i64 a2_1) := (blk_cell BK163.out 1).trans rfl; have hcz44_2 : w43.cell? ⟨gb163, 2, none⟩ = some (.int .i64 a2_2) := (blk_cell BK163.out 2).trans rfl; have hfz44_0 := blk_frozen BK163.out 0; have hfz44_1 := blk_frozen BK163.out 1; have hfz44_2 := blk_frozen BK163.out 2))
                        go_ret
                        exact ⟨by first | rfl | (simp [errW_none, errW_some] <;> rfl) | (simp [*, errW_none, errW_some] <;> rfl), by repeat (first | (with_reducible first | exact HB.out | apply below_alloc | apply pw_below_drewN | apply below_drew1 | refine below_set ?_ GE162.out | refine below_set ?_ GE163.out) | exact HB.out)⟩
                      · rw [if_neg c37] at H
                        have c37b0 : (t176 == a2_1) = false := beq_eq_false_iff_ne.mpr c37
                        have c37b1 : (t176 != a2_1) = true := bne_iff_ne.mpr c37
                        exact absurd hrT.out (by have h_ := Option.some.inj H; rw [← h_]; decide)
                    · rw [if_neg c36] at H
                      have c36b0 : (t175 == a2_0) = false := beq_eq_false_iff_ne.mpr c36
                      have c36b1 : (t175 != a2_0) = true := bne_iff_ne.mpr c36
                      exact absurd hrT.out (by have h_ := Option.some.inj H; rw [← h_]; decide)
                  · rw [if_neg c35] at H
                    have c35b0 : decide (t173 < t164) = false := decide_eq_false c35
                    clear c35
                    exact absurd hrT.out (by have h_ := Option.some.inj H; rw [← h_]; decide)
                · rw [if_neg c34] at H
                  have c34b0 : decide (0 ≤ t173) = false := decide_eq_false c34
                  clear c34
                  exact absurd hrT.out (by have h_ := Option.some.inj H; rw [← h_]; decide)
              · replace c33 := Bool.eq_false_iff.mpr c33
                subst c33
                have H1 : (some false) = some r := by rw [if_neg (show ¬ (false = true) by decide)] at H; exact H
                clear H
                have H := H1
                clear H1
                exact absurd hrT.out (by have h_ := Option.some.inj H; rw [← h_]; decide)
            · replace c31 := Bool.eq_false_iff.mpr c31
              subst c31
              have H1 : (some (t173 == 0)) = some r := by rw [if_neg (show ¬ (false = true) by decide)] at H; exact H
              clear H
              have H := H1
              clear H1
              obtain rfl := Option.some.inj H
              have hnb45 := NB162_163.out
              have hnc45 := NB163_162.out
              have hcz46_0 : wc.cell? ⟨gb162, 0, none⟩ = some (.int .i64 a0_0) := (blk_cell BK162.out 0).trans rfl
              have hcz46_1 : wc.cell? ⟨gb162, 1, none⟩ = some (.int .i64 a0_1) := (blk_cell BK162.out 1).trans rfl
              have hcz46_2 : wc.cell? ⟨gb162, 2, none⟩ = some (.int .i64 a0_2) := (blk_cell BK162.out 2).trans rfl
              have hcz46_3 : wc.cell? ⟨gb162, 3, none⟩ = some (.int .i64 a0_3) := (blk_cell BK162.out 3).trans rfl
              have hcz46_4 : wc.cell? ⟨gb162, 4, none⟩ = some (.int .i64 a0_4) := (blk_cell BK162.out 4).trans rfl
              have hcz46_5 : wc.cell? ⟨gb162, 5, none⟩ = some (.slice A0_5 l0_5.length c0_5) := (blk_cell BK162.out 5).trans rfl
              have hfz46_0 := blk_frozen BK162.out 0
              have hfz46_1 := blk_frozen BK162.out 1
              have hfz46_2 := blk_frozen BK162.out 2
              have hfz46_3 := blk_frozen BK162.out 3
              have hfz46_4 := blk_frozen BK162.out 4
              have hfz46_5 := blk_frozen BK162.out 5
              have hcz47_0 : wc.cell? ⟨gb163, 0, none⟩ = some (.int .i64 a2_0) := (blk_cell BK163.out 0).trans rfl
              have hcz47_1 : wc.cell? ⟨gb163, 1, none⟩ = some (.int .i64 a2_1) := (blk_cell BK163.out 1).trans rfl
              have hcz47_2 : wc.cell? ⟨gb163, 2, none⟩ = some (.int .i64 a2_2) := (blk_cell BK163.out 2).trans rfl
              have hfz47_0 := blk_frozen BK163.out 0
              have hfz47_1 := blk_frozen BK163.out 1
              have hfz47_2 := blk_frozen BK163.out 2
              go_wp2_with (first | ((with_reducible refine gate_callee (f := 19) rfl ?_); refine goesL_ (some 78) rfl rfl Try.func19 (by kernel_rfl) rfl #[.agg #[.int .i64 a0_0, .int .i64 a0_1, .int .i64 a0_2, .int .i64 a0_3, .int .i64 a0_4, .slice A0_5 l0_5.length c0_5], .int .i64 a2_0, .int .i64 a2_1, .int .i64 a2_2] rfl (by (try simp only [List.map_toArray, List.map_cons, List.map_nil]); first | done | rfl | (simp only [List.length_drop, List.length_take]; rfl)) ?_; (with_reducible refine (signal_Index.calls kj21 a0_0 a0_1 a0_2 a0_3 a0_4 _ _ l0_5 a2_0 a2_1 a2_2 t173 false _ ?side1 ?side2 A30.out).mono ?_); (case side1 => repeat (first | exact (Kd.C_below HR0_5.out HB.out) | (with_reducible refine Kd.C_alloc ?_ _) | (with_reducible refine Kd.C_drewN ?_ _) | (with_reducible refine Kd.C_drew ?_))); (case side2 => exact HC0_5.out); rintro e w48 ⟨rfl, hb⟩; refine ⟨_, rfl, ?_⟩; have n0_ := Aside0.mk (blk_below (g := gb162) (o := .cells #[.int .i64 a0_0, .int .i64 a0_1, .int .i64 a0_2, .int .i64 a0_3, .int .i64 a0_4, .slice A0_5 l0_5.length c0_5] 26 (0, 0)) (by (with_reducible repeat (first | refine blk_drewN ?_ _ | refine blk_drew ?_ | refine blk_alloc ?_ _)); exact BK162.out) hb); have n1_ := Aside0.mk (blk_below (g := gb163) (o := .cells #[.int .i64 a2_0, .int .i64 a2_1, .int .i64 a2_2] 27 (0, 0)) (by (with_reducible repeat (first | refine blk_drewN ?_ _ | refine blk_drew ?_ | refine blk_alloc ?_ _)); exact BK163.out) hb); have n2_ := Aside0.mk (below_step (by repeat (first | (with_reducible first | exact HB.out | apply below_alloc | apply pw_below_drewN | apply below_drew1 | refine below_set ?_ GE162.out | refine below_set ?_ GE163.out) | exact HB.out)) hb); clear BK162; clear BK163; clear HB; have BK162 := n0_; have BK163 := n1_; have HB := n2_; clear n0_ n1_ n2_; (try clear hb); (try clear hb2); (try clear hk); (try clear hi)))
              go_ret
              exact ⟨by first | rfl | (simp [errW_none, errW_some] <;> rfl) | (simp [*, errW_none, errW_some] <;> rfl), by repeat (first | (with_reducible first | exact HB.out | apply below_alloc | apply pw_below_drewN | apply below_drew1 | refine below_set ?_ GE162.out | refine below_set ?_ GE163.out) | exact HB.out)⟩

/-- THE ONE PURE STATEMENT of damasklaw23_SignalRound: yours. -/
def damasklaw23_SignalRound.Pure : Prop := ∀ (a0_0 : Int) (a0_1 : Int) (a0_2 : Int) (a0_3 : Int) (a0_4 : Int) (l0_5 : List Int) (a1 : Int) (a2_0 : Int) (a2_1 : Int) (a2_2 : Int), (Lit.int .i64 a0_0).wf = true → (Lit.int .i64 a0_1).wf = true → (Lit.int .i64 a0_2).wf = true → (Lit.int .i64 a0_3).wf = true → (Lit.int .i64 a0_4).wf = true → l0_5.length ≤ maxLen → l0_5.length * 8 ≤ 140737488351232 → (∀ x ∈ l0_5, (Lit.int .i64 x).wf = true) → (Lit.int .i64 a1).wf = true → (Lit.int .i64 a2_0).wf = true → (Lit.int .i64 a2_1).wf = true → (Lit.int .i64 a2_2).wf = true → ∃ k, damasklaw23_SignalRound.f k a0_0 a0_1 a0_2 a0_3 a0_4 l0_5 a1 a2_0 a2_1 a2_2 = some true
theorem damasklaw23_SignalRound.walk (P : damasklaw23_SignalRound.Pure) (a0_0 : Int) (a0_1 : Int) (a0_2 : Int) (a0_3 : Int) (a0_4 : Int) (A0_5 : Option Addr) (c0_5 : Nat) (l0_5 : List Int) (a1 : Int) (a2_0 : Int) (a2_1 : Int) (a2_2 : Int) (w : World) (o0_0 : (Lit.int .i64 a0_0).wf = true) (o0_1 : (Lit.int .i64 a0_1).wf = true) (o0_2 : (Lit.int .i64 a0_2).wf = true) (o0_3 : (Lit.int .i64 a0_3).wf = true) (o0_4 : (Lit.int .i64 a0_4).wf = true) (hr0_5 : Kd.C (Kd.int .i64) w A0_5 l0_5.length l0_5) (hc0_5 : l0_5.length ≤ c0_5) (m0_5 : l0_5.length ≤ maxLen) (b0_5 : l0_5.length * 8 ≤ 140737488351232) (o0_5 : ∀ x ∈ l0_5, (Lit.int .i64 x).wf = true) (o1 : (Lit.int .i64 a1).wf = true) (o2_0 : (Lit.int .i64 a2_0).wf = true) (o2_1 : (Lit.int .i64 a2_1).wf = true) (o2_2 : (Lit.int .i64 a2_2).wf = true) :
    Calls Try.prog 4 #[.agg #[.int .i64 a0_0, .int .i64 a0_1, .int .i64 a0_2, .int .i64 a0_3, .int .i64 a0_4, .slice A0_5 l0_5.length c0_5], .int .i64 a1, .agg #[.int .i64 a2_0, .int .i64 a2_1, .int .i64 a2_2]] w fun e w' => e = .returned (.bool true) ∧ Below w.heap.size w w' := by
  obtain ⟨k, h⟩ := P a0_0 a0_1 a0_2 a0_3 a0_4 l0_5 a1 a2_0 a2_1 a2_2 o0_0 o0_1 o0_2 o0_3 o0_4 m0_5 b0_5 o0_5 o1 o2_0 o2_1 o2_2
  refine (damasklaw23_SignalRound.calls k a0_0 a0_1 a0_2 a0_3 a0_4 A0_5 c0_5 l0_5 a1 a2_0 a2_1 a2_2 true w hr0_5 hc0_5 rfl h).mono ?_
  rintro e w' ⟨rfl, hd⟩
  exact ⟨rfl, hd⟩

end Go.Proofs.Ytggfgbhodkfllaa.F
