/- Written by wip/myprint.py of this session, out of Lean's print of the program: what Go functions come to, and that their calls come to it; no condition. -/
import Derived.Test.YtpnldhimlpilhaaF0
import Derived.Test.YtpnldhimlpilhaaFarith1
import Derived.Test.YtpnldhimlpilhaaFbits1
namespace Go.Proofs.Ytpnldhimlpilhaa.F
open Go.RowKit Go.Proofs.YtpnldhimlpilhaaW.PrintWords Go.Proofs.YtpnldhimlpilhaaW.PrintLast Go.Proofs.YtpnldhimlpilhaaW.PrintMore Go.Proofs.YtpnldhimlpilhaaW
attribute [local go_sem] max2_int min2_int max_two min_two max_three min_three max_four min_four   -- for this text's walks alone
set_option linter.unusedVariables false
set_option linter.unusedSimpArgs false

/-! ### span_Whole: function 30 -/
def span_Whole.f (a0_0 : Int) (a0_1 : Int) : Option (Bool) := if a0_0 ≤ a0_1 then ((arith_Word.f a0_0).bind fun t403 => (if t403 = true then ((arith_Word.f a0_1).bind fun t404 => (some t404)) else (some false))) else (some false)
set_option maxHeartbeats 8000000 in
set_option maxRecDepth 100000 in
theorem span_Whole.calls (a0_0 : Int) (a0_1 : Int) (r : Bool) (w : World) (h : span_Whole.f a0_0 a0_1 = some r) :
    Calls Try.prog 30 #[.agg #[.int .i64 a0_0, .int .i64 a0_1]] w fun e w' => e = .returned (.bool r) ∧ Below w.heap.size w w' := by
  have hu47 := Try.underlying47
  have HB := Aside0.mk (Below.refl w.heap.size w)
  have H : (if a0_0 ≤ a0_1 then ((arith_Word.f a0_0).bind fun t403 => (if t403 = true then ((arith_Word.f a0_1).bind fun t404 => (some t404)) else (some false))) else (some false)) = some r := h
  clear h
  have HF2 := Aside0.mk H
  clear H
  go_enter Try.func30, Try.ntmps30
  go_upto_region 1 with (first | ((with_reducible refine gate_dst (N := 1) rfl ?_); refine box_event ?hg (N := 1) ?hd (cs := #[.int .i64 a0_0, .int .i64 a0_1]) (t := 47) ?hr ?_; (case hd => rfl); (case hg => rfl); (case hr => first | (go_simp; done) | (go_simp; rfl)); intro gb402 hg w3 hbox hb; have n0_ := Aside0.mk (cT (by repeat (first | (with_reducible first | exact HB.out | apply cA | apply cN | apply cD) | exact HB.out)) hb); have n1_ := Aside0.mk (hbox); have n2_ := Aside0.mk ((by rw [hg]; exact (cZ (by repeat (first | (with_reducible first | exact HB.out | apply cA | apply cN | apply cD) | exact HB.out))) : w.heap.size ≤ gb402)); have n3_ := n2_; clear HB; have HB := n0_; have BK402 := n1_; have GW402 := n2_; have GE402 := n3_; clear n0_ n1_ n2_ n3_; clear hb hbox hg))
  (try simp only [Act.put, List.setIfInBounds_toArray, List.set_cons_zero, List.set_cons_succ])
  have H := HF2.out
  clear HF2
  by_cases c4 : a0_0 ≤ a0_1
  · rw [if_pos c4] at H
    have c4b0 : decide (a0_0 ≤ a0_1) = true := decide_eq_true c4
    clear c4
    (first | rw [c4b0] | (simp only [i64_w, i32_w]; rw [c4b0]) | skip)
    replace H := Option.bind_eq_some_iff.mp H
    obtain ⟨t403, A50, H⟩ := H
    replace H : (if t403 = true then ((arith_Word.f a0_1).bind fun t404 => (some t404)) else (some false)) = some r := H
    have A5 := Aside0.mk A50
    clear A50
    by_cases c6 : t403 = true
    · subst c6
      have H1 : ((arith_Word.f a0_1).bind fun t404 => (some t404)) = some r := by rw [if_pos rfl] at H; exact H
      clear H
      have H := H1
      clear H1
      replace H := Option.bind_eq_some_iff.mp H
      obtain ⟨t404, A70, H⟩ := H
      replace H : (some t404) = some r := H
      have A7 := Aside0.mk A70
      clear A70
      obtain rfl := Option.some.inj H
      have hcz8_0 : w3.cell? ⟨gb402, 0, none⟩ = some (.int .i64 a0_0) := (bC BK402.out 0).trans rfl
      have hcz8_1 : w3.cell? ⟨gb402, 1, none⟩ = some (.int .i64 a0_1) := (bC BK402.out 1).trans rfl
      have hfz8_0 := bZ BK402.out 0
      have hfz8_1 := bZ BK402.out 1
      go_wp2_with (first | (go_at_call 21; (with_reducible refine (arith_Word.calls a0_0 true _ A5.out).mono ?_); rintro e w' ⟨rfl, ⟨nd, rfl⟩⟩) | (go_at_call 21; (with_reducible refine (arith_Word.calls a0_1 t404 _ A7.out).mono ?_); rintro e w' ⟨rfl, ⟨nd, rfl⟩⟩))
      go_ret
      exact ⟨by first | rfl | (simp [errW_none, errW_some] <;> rfl) | (simp [*, errW_none, errW_some] <;> rfl), by repeat (first | (with_reducible first | exact HB.out | apply cA | apply cN | apply cD | refine cS ?_ GE402.out) | exact HB.out)⟩
    replace c6 := Bool.eq_false_iff.mpr c6
    subst c6
    have H1 : (some false) = some r := by rw [if_neg (show ¬ (false = true) by decide)] at H; exact H
    clear H
    have H := H1
    clear H1
    obtain rfl := Option.some.inj H
    have hcz9_0 : w3.cell? ⟨gb402, 0, none⟩ = some (.int .i64 a0_0) := (bC BK402.out 0).trans rfl
    have hcz9_1 : w3.cell? ⟨gb402, 1, none⟩ = some (.int .i64 a0_1) := (bC BK402.out 1).trans rfl
    have hfz9_0 := bZ BK402.out 0
    have hfz9_1 := bZ BK402.out 1
    go_wp2_with (first | (go_at_call 21; (with_reducible refine (arith_Word.calls a0_0 false _ A5.out).mono ?_); rintro e w' ⟨rfl, ⟨nd, rfl⟩⟩))
    go_ret
    exact ⟨by first | rfl | (simp [errW_none, errW_some] <;> rfl) | (simp [*, errW_none, errW_some] <;> rfl), by repeat (first | (with_reducible first | exact HB.out | apply cA | apply cN | apply cD | refine cS ?_ GE402.out) | exact HB.out)⟩
  rw [if_neg c4] at H
  have c4b0 : decide (a0_0 ≤ a0_1) = false := decide_eq_false c4
  clear c4
  (first | rw [c4b0] | (simp only [i64_w, i32_w]; rw [c4b0]) | skip)
  obtain rfl := Option.some.inj H
  have hcz10_0 : w3.cell? ⟨gb402, 0, none⟩ = some (.int .i64 a0_0) := (bC BK402.out 0).trans rfl
  have hcz10_1 : w3.cell? ⟨gb402, 1, none⟩ = some (.int .i64 a0_1) := (bC BK402.out 1).trans rfl
  have hfz10_0 := bZ BK402.out 0
  have hfz10_1 := bZ BK402.out 1
  go_wp2
  go_ret
  exact ⟨by first | rfl | (simp [errW_none, errW_some] <;> rfl) | (simp [*, errW_none, errW_some] <;> rfl), by repeat (first | (with_reducible first | exact HB.out | apply cA | apply cN | apply cD | refine cS ?_ GE402.out) | exact HB.out)⟩

/-! ### span_sign: function 52 -/
def span_sign.f (a0 : Int) : Option (Int) := some (mx (-1) (mn 1 a0))
set_option maxHeartbeats 8000000 in
set_option maxRecDepth 100000 in
theorem span_sign.calls (a0 : Int) (r : Int) (w : World) (h : span_sign.f a0 = some r) :
    Calls Try.prog 52 #[.int .i64 a0] w fun e w' => e = .returned (.int .i64 r) ∧ Below w.heap.size w w' := by
  have HB := Aside0.mk (Below.refl w.heap.size w)
  have H : (some (mx (-1) (mn 1 a0))) = some r := h
  clear h
  obtain ⟨ji2, hji2⟩ : ∃ j_ : Int, (mn 1 a0) = j_ := ⟨_, rfl⟩
  replace H : (some (mx (-1) (ji2))) = some r := by first | (rw [hji2] at H; exact H) | (simp only [hji2] at H ⊢; exact H)
  (try (have hji2h : ji2 ≤ 1 := by (rw [← hji2]; unfold mn; (repeat' split) <;> omega)))
  (try (have hji2g : ji2 ≤ 64 := by omega))
  have hji2_ : (if a0 < 1 then a0 else 1) = ji2 := hji2
  obtain ⟨ji3, hji3⟩ : ∃ j_ : Int, (mx (-1) (ji2)) = j_ := ⟨_, rfl⟩
  replace H : (some ji3) = some r := by first | (rw [hji3] at H; exact H) | (simp only [hji3] at H ⊢; exact H)
  have hji3_ : (if (-1) < (ji2) then (ji2) else (-1)) = ji3 := hji3
  obtain rfl := Option.some.inj H
  go_enter Try.func52, Try.ntmps52
  go_wp2
  go_ret
  exact ⟨by first | rfl | (simp [errW_none, errW_some] <;> rfl) | (simp only [← hji2, ← hji3]; first | rfl | (simp [errW_none, errW_some] <;> rfl)) | (simp [*, errW_none, errW_some] <;> rfl), by repeat (first | (with_reducible first | exact HB.out | apply cA | apply cN | apply cD) | exact HB.out)⟩

/-! ### span_digits: function 68 -/
def span_digits.l0 : Nat → Int → Int → Int → Int → Int → Int → Option (Int)
  | 0, _, _, _, _, _, _ => none
  | k + 1, x5, x17, x600, x601, x602, x603 => if x17 < 4 then (if 0 ≤ x17 then ((bits_Len64.f k (IntKind.u64.wrap (Go.bits .xor .i64 (rd ([x600, x601, x602, x603] : List Int) x17) ((rd ([x600, x601, x602, x603] : List Int) x17) / 9223372036854775808)))).bind fun t407 => (span_digits.l0 k (mx x5 t407) (wrap64 (x17 + 1)) x600 x601 x602 x603)) else (none)) else (some x5)
def span_digits.f (k : Nat) (a0_0 : Int) (a0_1 : Int) (a1_0 : Int) (a1_1 : Int) : Option (Int) := span_digits.l0 k 0 0 a0_0 a0_1 a1_0 a1_1
theorem span_digits.mono_l : ∀ k, (∀ y0 y1 y2 y3 y4 y5, LeO (span_digits.l0 k y0 y1 y2 y3 y4 y5) (span_digits.l0 (k + 1) y0 y1 y2 y3 y4 y5))
  | 0 => fun _ _ _ _ _ _ r h => by simp [span_digits.l0] at h
  | k + 1 => by
    have ih0 := span_digits.mono_l k
    · intro y0 y1 y2 y3 y4 y5
      unfold span_digits.l0
      repeat' first
      | (with_reducible exact ih0 _ _ _ _ _ _)
      | (with_reducible exact bits_Len64.mono _ _)
      | (with_reducible exact LeO.refl _)
      | (with_reducible exact LeO.none _)
      | (with_reducible refine LeO.ite ?_ ?_)
      | (with_reducible refine LeO.bind ?_ (fun _ => ?_))
      | exact ih0 _ _ _ _ _ _
      | exact bits_Len64.mono _ _
      | exact LeO.none _
      | refine LeO.ite ?_ ?_
      | refine LeO.bind ?_ (fun _ => ?_)
theorem span_digits.mono : ∀ a0 a1 a2 a3 k, LeO (span_digits.f k a0 a1 a2 a3) (span_digits.f (k + 1) a0 a1 a2 a3) := by
  intro a0 a1 a2 a3 k
  have ih0 := span_digits.mono_l k
  unfold span_digits.f
  repeat' first
      | (with_reducible exact ih0 _ _ _ _ _ _)
      | (with_reducible exact bits_Len64.mono _ _)
      | (with_reducible exact LeO.refl _)
      | (with_reducible exact LeO.none _)
      | (with_reducible refine LeO.ite ?_ ?_)
      | (with_reducible refine LeO.bind ?_ (fun _ => ?_))
      | exact ih0 _ _ _ _ _ _
      | exact bits_Len64.mono _ _
      | exact LeO.none _
      | refine LeO.ite ?_ ?_
      | refine LeO.bind ?_ (fun _ => ?_)
set_option maxHeartbeats 8000000 in
set_option maxRecDepth 100000 in
theorem span_digits.calls (k : Nat) (a0_0 : Int) (a0_1 : Int) (a1_0 : Int) (a1_1 : Int) (r : Int) (w : World) (h : span_digits.f k a0_0 a0_1 a1_0 a1_1 = some r) :
    Calls Try.prog 68 #[.agg #[.int .i64 a0_0, .int .i64 a0_1], .agg #[.int .i64 a1_0, .int .i64 a1_1]] w fun e w' => e = .returned (.int .i64 r) ∧ Below w.heap.size w w' := by
  have hu47 := Try.underlying47
  have hu78 := Try.underlying78
  have HB := Aside0.mk (Below.refl w.heap.size w)
  have H : (span_digits.l0 k 0 0 a0_0 a0_1 a1_0 a1_1) = some r := h
  clear h
  have H' := Aside0.mk H
  clear H
  go_enter Try.func68, Try.ntmps68
  go_wp2_with (first | ((with_reducible refine gate_dst (N := 2) rfl ?_); refine box_event ?hg (N := 2) ?hd (cs := #[.int .i64 a0_0, .int .i64 a0_1]) (t := 47) ?hr ?_; (case hd => rfl); (case hg => rfl); (case hr => first | (go_simp; done) | (go_simp; rfl)); intro gb405 hg w3 hbox hb; have n0_ := Aside0.mk (cT (by repeat (first | (with_reducible first | exact HB.out | apply cA | apply cN | apply cD) | exact HB.out)) hb); have n1_ := Aside0.mk (hbox); have n2_ := Aside0.mk ((by rw [hg]; exact (cZ (by repeat (first | (with_reducible first | exact HB.out | apply cA | apply cN | apply cD) | exact HB.out))) : w.heap.size ≤ gb405)); have n3_ := n2_; clear HB; have HB := n0_; have BK405 := n1_; have GW405 := n2_; have GE405 := n3_; clear n0_ n1_ n2_ n3_; clear hb hbox hg) | ((with_reducible refine gate_dst (N := 3) rfl ?_); refine box_event ?hg (N := 3) ?hd (cs := #[.int .i64 a1_0, .int .i64 a1_1]) (t := 47) ?hr ?_; (case hd => rfl); (case hg => rfl); (case hr => first | (go_simp; done) | (go_simp; rfl)); intro gb406 hg w4 hbox hb; have n0_ := Aside0.mk (bB (g := gb405) (o := .cells #[.int .i64 a0_0, .int .i64 a0_1] 47 (0, 0)) (by (with_reducible repeat (first | apply bN | apply bD | apply bA)); exact BK405.out) hb); have n1_ := Aside0.mk (cT (by repeat (first | (with_reducible first | exact HB.out | apply cA | apply cN | apply cD | refine cS ?_ GE405.out) | exact HB.out)) hb); have n2_ := Aside0.mk (hbox); have n3_ := Aside0.mk ((by rw [hg]; exact (cZ (by repeat (first | (with_reducible first | exact HB.out | apply cA | apply cN | apply cD | refine cS ?_ GE405.out) | exact HB.out))) : w.heap.size ≤ gb406)); have n4_ := n3_; have n5_ := Aside0.mk ((by rw [hg]; exact Nat.ne_of_lt (blk_lt (g := gb405) (o := .cells #[.int .i64 a0_0, .int .i64 a0_1] 47 (0, 0)) (by (with_reducible repeat (first | apply bN | apply bD | apply bA)); exact BK405.out)) : gb405 ≠ gb406)); have n6_ := Aside0.mk ((by rw [hg]; exact Nat.ne_of_gt (blk_lt (g := gb405) (o := .cells #[.int .i64 a0_0, .int .i64 a0_1] 47 (0, 0)) (by (with_reducible repeat (first | apply bN | apply bD | apply bA)); exact BK405.out)) : gb406 ≠ gb405)); clear BK405; clear HB; have BK405 := n0_; have HB := n1_; have BK406 := n2_; have GW406 := n3_; have GE406 := n4_; have NB405_406 := n5_; have NB406_405 := n6_; clear n0_ n1_ n2_ n3_ n4_ n5_ n6_; clear hb hbox hg; have hnb5 := NB405_406.out; have hnc5 := NB406_405.out; have hcz6_0 : w4.cell? ⟨gb405, 0, none⟩ = some (.int .i64 a0_0) := (bC BK405.out 0).trans rfl; have hcz6_1 : w4.cell? ⟨gb405, 1, none⟩ = some (.int .i64 a0_1) := (bC BK405.out 1).trans rfl; have hfz6_0 := bZ BK405.out 0; have hfz6_1 := bZ BK405.out 1; have hcz7_0 : w4.cell? ⟨gb406, 0, none⟩ = some (.int .i64 a1_0) := (bC BK406.out 0).trans rfl; have hcz7_1 : w4.cell? ⟨gb406, 1, none⟩ = some (.int .i64 a1_1) := (bC BK406.out 1).trans rfl; have hfz7_0 := bZ BK406.out 0; have hfz7_1 := bZ BK406.out 1))
  go_loopg [5, 17] k (fun kq v5 v17 w' => ∃ (x5_1 : Int) (x17_1 : Int), v5 = .int .i64 x5_1 ∧ v17 = .int .i64 x17_1 ∧ Aside0 (span_digits.l0 kq x5_1 x17_1 a0_0 a0_1 a1_0 a1_1 = some r) ∧ Aside0 (kq ≤ k) ∧ Aside0 (w'.heap[gb405]? = some (.cells #[.int .i64 a0_0, .int .i64 a0_1] 47 (0, 0))) ∧ Aside0 (w'.heap[gb406]? = some (.cells #[.int .i64 a1_0, .int .i64 a1_1] 47 (0, 0))) ∧ Aside0 (Below w.heap.size w w'))
  case atStart => exact ⟨(0), (0), (by first | rfl | (simp; done) | (simp [*]; done)), (by first | rfl | (simp; done) | (simp [*]; done)), H', ⟨Nat.le_refl _⟩, ⟨by (with_reducible repeat (first | apply bN | apply bD | apply bA)); exact BK405.out⟩, ⟨by (with_reducible repeat (first | apply bN | apply bD | apply bA)); exact BK406.out⟩, ⟨by repeat (first | (with_reducible first | exact HB.out | apply cA | apply cN | apply cD | refine cS ?_ GE405.out | refine cS ?_ GE406.out) | exact HB.out)⟩⟩
  case round =>
    clear H'
    try clear hcz6_0
    try clear hcz6_1
    try clear hcz7_0
    try clear hcz7_1
    try clear hfz6_0
    try clear hfz6_1
    try clear hfz7_0
    try clear hfz7_1
    obtain ⟨x5_1, x17_1, rfl, rfl, HA, HK1, BK405, BK406, HB⟩ := hrel
    cases gk with
    | zero => exact absurd HA.out (by simp [span_digits.l0])
    | succ k1 =>
      have H := HA.out
      clear HA
      simp only [span_digits.l0] at H
      by_cases c8 : x17_1 < 4
      · rw [if_pos c8] at H
        have c8b0 : decide (x17_1 < 4) = true := decide_eq_true c8
        clear c8
        by_cases c9 : 0 ≤ x17_1
        · rw [if_pos c9] at H
          have c9b0 : decide (0 ≤ x17_1) = true := decide_eq_true c9
          clear c9
          replace H := Option.bind_eq_some_iff.mp H
          obtain ⟨t407, A110, H⟩ := H
          replace H : (span_digits.l0 k1 (mx x5_1 t407) (wrap64 (x17_1 + 1)) a0_0 a0_1 a1_0 a1_1) = some r := H
          have A11 := Aside0.mk A110
          clear A110
          obtain ⟨ji12, hji12⟩ : ∃ j_ : Int, (mx x5_1 t407) = j_ := ⟨_, rfl⟩
          replace H : (span_digits.l0 k1 ji12 (wrap64 (x17_1 + 1)) a0_0 a0_1 a1_0 a1_1) = some r := by first | (rw [hji12] at H; exact H) | (simp only [hji12] at H ⊢; exact H)
          (try rw [hji12] at A11)
          have hji12_ : (if x5_1 < t407 then t407 else x5_1) = ji12 := hji12
          have H' := Aside0.mk H
          clear H
          have p10 : 0 ≤ (x17_1 : Int) := of_decide_eq_true (by first | (with_reducible assumption) | assumption)
          have q10 : (x17_1 : Int) < (4 : Int) := of_decide_eq_true (by first | (with_reducible assumption) | assumption)
          have hx10 : ∀ W : World, (Instr.index 78 (.agg #[.int .i64 a0_0, .int .i64 a0_1, .int .i64 a1_0, .int .i64 a1_1]) (.int .i64 x17_1)).run Try.prog W = .ok (.int .i64 (rd ([a0_0, a0_1, a1_0, a1_1] : List Int) x17_1)) W := Op.index_arr Try.underlying78 (by kernel_rfl) (by kernel_rfl) Try.underlying3 ([a0_0, a0_1, a1_0, a1_1] : List Int) rfl x17_1 p10 q10
          replace p10 := eq_true p10
          replace q10 := eq_true q10
          go_wp2_with (first | ((with_reducible refine gate_callee (f := 72) rfl ?_); refine goesL_ (some 26) rfl rfl Try.func72 (by kernel_rfl) rfl #[.int .u64 (IntKind.u64.wrap (Go.bits .xor .i64 (rd ([a0_0, a0_1, a1_0, a1_1] : List Int) x17_1) ((rd ([a0_0, a0_1, a1_0, a1_1] : List Int) x17_1) / 9223372036854775808)))] rfl (by (try simp only [List.map_toArray, List.map_cons, List.map_nil]); first | done | rfl | (simp only [List.length_drop, List.length_take]; rfl)) ?_; (with_reducible refine (bits_Len64.calls k1 (IntKind.u64.wrap (Go.bits .xor .i64 (rd ([a0_0, a0_1, a1_0, a1_1] : List Int) x17_1) ((rd ([a0_0, a0_1, a1_0, a1_1] : List Int) x17_1) / 9223372036854775808))) t407 _ A11.out).mono ?_); rintro e w' ⟨rfl, ⟨nd, rfl⟩⟩; refine ⟨_, rfl, ?_⟩))
          go_roundg k1
          case measure => have := HK1.out; omega
          case rel => exact ⟨(ji12), (wrap64 (x17_1 + 1)), (by first | rfl | (simp; done) | (simp only [← hji12] <;> (first | rfl | simp)) | (simp [*]; done)), (by first | rfl | (simp; done) | (simp [*]; done)), H', ⟨by have := HK1.out; omega⟩, ⟨by (with_reducible repeat (first | apply bN | apply bD | apply bA)); exact BK405.out⟩, ⟨by (with_reducible repeat (first | apply bN | apply bD | apply bA)); exact BK406.out⟩, ⟨by repeat (first | (with_reducible first | exact HB.out | apply cA | apply cN | apply cD | refine cS ?_ GE405.out | refine cS ?_ GE406.out) | exact HB.out)⟩⟩
        rw [if_neg c9] at H
        exact absurd H (by simp)
      rw [if_neg c8] at H
      have c8b0 : decide (x17_1 < 4) = false := decide_eq_false c8
      clear c8
      obtain rfl := Option.some.inj H
      go_wp2
      go_ret
      exact ⟨by first | rfl | (simp [errW_none, errW_some] <;> rfl) | (simp [*, errW_none, errW_some] <;> rfl), by repeat (first | (with_reducible first | exact HB.out | apply cA | apply cN | apply cD | refine cS ?_ GE405.out | refine cS ?_ GE406.out) | exact HB.out)⟩

/-! ### span_both: function 53 -/
def span_both.j0 : Nat → Bool → Int → Int → Int → Int → Option (Int × Int)
  | 0, _, _, _, _, _ => none
  | k + 1, x6, x409000, x409001, x410000, x410001 => if x6 = true then (some (0, mn x409001 x410001)) else (if x409000 ≥ 0 then (some (0, x409001)) else (if x410000 ≥ 0 then (some (0, x410001)) else ((span_digits.f k x409000 x409001 x410000 x410001).bind fun t411 => (if 0 ≤ t411 then (some (shl .i64 (-1) t411, wrap64 ((shl .i64 1 t411) - 1))) else (none)))))
def span_both.f (k : Nat) (a0_0 : Int) (a0_1 : Int) (a1_0 : Int) (a1_1 : Int) : Option (Int × Int) := if a0_0 ≥ 0 then (span_both.j0 k (decide (a1_0 ≥ 0)) a0_0 a0_1 a1_0 a1_1) else (span_both.j0 k false a0_0 a0_1 a1_0 a1_1)
theorem span_both.mono_l : ∀ k, (∀ y0 y1 y2 y3 y4, LeO (span_both.j0 k y0 y1 y2 y3 y4) (span_both.j0 (k + 1) y0 y1 y2 y3 y4))
  | 0 => fun _ _ _ _ _ r h => by simp [span_both.j0] at h
  | k + 1 => by
    have ih0 := span_both.mono_l k
    · intro y0 y1 y2 y3 y4
      unfold span_both.j0
      repeat' first
      | (with_reducible exact ih0 _ _ _ _ _)
      | (with_reducible exact span_digits.mono _ _ _ _ _)
      | (with_reducible exact LeO.refl _)
      | (with_reducible exact LeO.none _)
      | (with_reducible refine LeO.ite ?_ ?_)
      | (with_reducible refine LeO.bind ?_ (fun _ => ?_))
      | exact ih0 _ _ _ _ _
      | exact span_digits.mono _ _ _ _ _
      | exact LeO.none _
      | refine LeO.ite ?_ ?_
      | refine LeO.bind ?_ (fun _ => ?_)
theorem span_both.mono : ∀ a0 a1 a2 a3 k, LeO (span_both.f k a0 a1 a2 a3) (span_both.f (k + 1) a0 a1 a2 a3) := by
  intro a0 a1 a2 a3 k
  have ih0 := span_both.mono_l k
  unfold span_both.f
  repeat' first
      | (with_reducible exact ih0 _ _ _ _ _)
      | (with_reducible exact span_digits.mono _ _ _ _ _)
      | (with_reducible exact LeO.refl _)
      | (with_reducible exact LeO.none _)
      | (with_reducible refine LeO.ite ?_ ?_)
      | (with_reducible refine LeO.bind ?_ (fun _ => ?_))
      | exact ih0 _ _ _ _ _
      | exact span_digits.mono _ _ _ _ _
      | exact LeO.none _
      | refine LeO.ite ?_ ?_
      | refine LeO.bind ?_ (fun _ => ?_)
set_option maxHeartbeats 8000000 in
set_option maxRecDepth 100000 in
theorem span_both.calls (k : Nat) (a0_0 : Int) (a0_1 : Int) (a1_0 : Int) (a1_1 : Int) (r1 : Int) (r2 : Int) (w : World) (h : span_both.f k a0_0 a0_1 a1_0 a1_1 = some (r1, r2)) :
    Calls Try.prog 53 #[.agg #[.int .i64 a0_0, .int .i64 a0_1], .agg #[.int .i64 a1_0, .int .i64 a1_1]] w fun e w' => e = .returned (.agg #[.int .i64 r1, .int .i64 r2]) ∧ Below w.heap.size w w' := by
  have hu47 := Try.underlying47
  have HB := Aside0.mk (Below.refl w.heap.size w)
  have H : (if a0_0 ≥ 0 then (span_both.j0 k (decide (a1_0 ≥ 0)) a0_0 a0_1 a1_0 a1_1) else (span_both.j0 k false a0_0 a0_1 a1_0 a1_1)) = some (r1, r2) := h
  clear h
  have HC3 := Aside0.mk H
  clear H
  go_enter Try.func53, Try.ntmps53
  go_upto_region 1 with (first | ((with_reducible refine gate_dst (N := 2) rfl ?_); refine box_event ?hg (N := 2) ?hd (cs := #[.int .i64 a0_0, .int .i64 a0_1]) (t := 47) ?hr ?_; (case hd => rfl); (case hg => rfl); (case hr => first | (go_simp; done) | (go_simp; rfl)); intro gb408 hg w4 hbox hb; have n0_ := Aside0.mk (cT (by repeat (first | (with_reducible first | exact HB.out | apply cA | apply cN | apply cD) | exact HB.out)) hb); have n1_ := Aside0.mk (hbox); have n2_ := Aside0.mk ((by rw [hg]; exact (cZ (by repeat (first | (with_reducible first | exact HB.out | apply cA | apply cN | apply cD) | exact HB.out))) : w.heap.size ≤ gb408)); have n3_ := n2_; clear HB; have HB := n0_; have BK408 := n1_; have GW408 := n2_; have GE408 := n3_; clear n0_ n1_ n2_ n3_; clear hb hbox hg) | ((with_reducible refine gate_dst (N := 3) rfl ?_); refine box_event ?hg (N := 3) ?hd (cs := #[.int .i64 a1_0, .int .i64 a1_1]) (t := 47) ?hr ?_; (case hd => rfl); (case hg => rfl); (case hr => first | (go_simp; done) | (go_simp; rfl)); intro gb409 hg w5 hbox hb; have n0_ := Aside0.mk (bB (g := gb408) (o := .cells #[.int .i64 a0_0, .int .i64 a0_1] 47 (0, 0)) (by (with_reducible repeat (first | apply bN | apply bD | apply bA)); exact BK408.out) hb); have n1_ := Aside0.mk (cT (by repeat (first | (with_reducible first | exact HB.out | apply cA | apply cN | apply cD | refine cS ?_ GE408.out) | exact HB.out)) hb); have n2_ := Aside0.mk (hbox); have n3_ := Aside0.mk ((by rw [hg]; exact (cZ (by repeat (first | (with_reducible first | exact HB.out | apply cA | apply cN | apply cD | refine cS ?_ GE408.out) | exact HB.out))) : w.heap.size ≤ gb409)); have n4_ := n3_; have n5_ := Aside0.mk ((by rw [hg]; exact Nat.ne_of_lt (blk_lt (g := gb408) (o := .cells #[.int .i64 a0_0, .int .i64 a0_1] 47 (0, 0)) (by (with_reducible repeat (first | apply bN | apply bD | apply bA)); exact BK408.out)) : gb408 ≠ gb409)); have n6_ := Aside0.mk ((by rw [hg]; exact Nat.ne_of_gt (blk_lt (g := gb408) (o := .cells #[.int .i64 a0_0, .int .i64 a0_1] 47 (0, 0)) (by (with_reducible repeat (first | apply bN | apply bD | apply bA)); exact BK408.out)) : gb409 ≠ gb408)); clear BK408; clear HB; have BK408 := n0_; have HB := n1_; have BK409 := n2_; have GW409 := n3_; have GE409 := n4_; have NB408_409 := n5_; have NB409_408 := n6_; clear n0_ n1_ n2_ n3_ n4_ n5_ n6_; clear hb hbox hg) | ((with_reducible refine gate_dst (N := 4) rfl ?_); refine box_event ?hg (N := 4) ?hd (cs := #[.int .i64 0, .int .i64 0]) (t := 47) ?hr ?_; (case hd => rfl); (case hg => rfl); (case hr => first | (go_simp; done) | (go_simp; rfl)); intro gb410 hg w6 hbox hb; have n0_ := Aside0.mk (bB (g := gb408) (o := .cells #[.int .i64 a0_0, .int .i64 a0_1] 47 (0, 0)) (by (with_reducible repeat (first | apply bN | apply bD | apply bA)); exact BK408.out) hb); have n1_ := Aside0.mk (bB (g := gb409) (o := .cells #[.int .i64 a1_0, .int .i64 a1_1] 47 (0, 0)) (by (with_reducible repeat (first | apply bN | apply bD | apply bA)); exact BK409.out) hb); have n2_ := Aside0.mk (cT (by repeat (first | (with_reducible first | exact HB.out | apply cA | apply cN | apply cD | refine cS ?_ GE408.out | refine cS ?_ GE409.out) | exact HB.out)) hb); have n3_ := Aside0.mk (hbox); have n4_ := Aside0.mk ((by rw [hg]; exact (cZ (by repeat (first | (with_reducible first | exact HB.out | apply cA | apply cN | apply cD | refine cS ?_ GE408.out | refine cS ?_ GE409.out) | exact HB.out))) : w.heap.size ≤ gb410)); have n5_ := n4_; have n6_ := Aside0.mk ((by rw [hg]; exact Nat.ne_of_lt (blk_lt (g := gb408) (o := .cells #[.int .i64 a0_0, .int .i64 a0_1] 47 (0, 0)) (by (with_reducible repeat (first | apply bN | apply bD | apply bA)); exact BK408.out)) : gb408 ≠ gb410)); have n7_ := Aside0.mk ((by rw [hg]; exact Nat.ne_of_gt (blk_lt (g := gb408) (o := .cells #[.int .i64 a0_0, .int .i64 a0_1] 47 (0, 0)) (by (with_reducible repeat (first | apply bN | apply bD | apply bA)); exact BK408.out)) : gb410 ≠ gb408)); have n8_ := Aside0.mk ((by rw [hg]; exact Nat.ne_of_lt (blk_lt (g := gb409) (o := .cells #[.int .i64 a1_0, .int .i64 a1_1] 47 (0, 0)) (by (with_reducible repeat (first | apply bN | apply bD | apply bA)); exact BK409.out)) : gb409 ≠ gb410)); have n9_ := Aside0.mk ((by rw [hg]; exact Nat.ne_of_gt (blk_lt (g := gb409) (o := .cells #[.int .i64 a1_0, .int .i64 a1_1] 47 (0, 0)) (by (with_reducible repeat (first | apply bN | apply bD | apply bA)); exact BK409.out)) : gb410 ≠ gb409)); clear BK408; clear BK409; clear HB; have BK408 := n0_; have BK409 := n1_; have HB := n2_; have BK410 := n3_; have GW410 := n4_; have GE410 := n5_; have NB408_410 := n6_; have NB410_408 := n7_; have NB409_410 := n8_; have NB410_409 := n9_; clear n0_ n1_ n2_ n3_ n4_ n5_ n6_ n7_ n8_ n9_; clear hb hbox hg))
  (try simp only [Act.put, List.setIfInBounds_toArray, List.set_cons_zero, List.set_cons_succ])
  go_cut [6] (fun v6 wc => ∃ (kq : Nat) (x6_2 : Bool), v6 = .bool x6_2 ∧ Aside0 (span_both.j0 kq x6_2 a0_0 a0_1 a1_0 a1_1 = some (r1, r2)) ∧ Aside0 (kq ≤ k) ∧ Aside0 (wc.heap[gb408]? = some (.cells #[.int .i64 a0_0, .int .i64 a0_1] 47 (0, 0))) ∧ Aside0 (wc.heap[gb409]? = some (.cells #[.int .i64 a1_0, .int .i64 a1_1] 47 (0, 0))) ∧ Aside0 (wc.heap[gb410]? = some (.cells #[.int .i64 0, .int .i64 0] 47 (0, 0))) ∧ Aside0 (Below w.heap.size w wc))
  case first =>
    have H := HC3.out
    clear HC3
    by_cases c7 : a0_0 ≥ 0
    · rw [if_pos c7] at H
      have c7b0 : decide (0 ≤ a0_0) = true := decide_eq_true c7
      clear c7
      (first | rw [c7b0] | (simp only [i64_w, i32_w]; rw [c7b0]) | skip)
      have H' := Aside0.mk H
      clear H
      have hnb8 := NB408_409.out
      have hnc8 := NB409_408.out
      have hnb9 := NB408_410.out
      have hnc9 := NB410_408.out
      have hcz10_0 : w6.cell? ⟨gb408, 0, none⟩ = some (.int .i64 a0_0) := (bC BK408.out 0).trans rfl
      have hcz10_1 : w6.cell? ⟨gb408, 1, none⟩ = some (.int .i64 a0_1) := (bC BK408.out 1).trans rfl
      have hfz10_0 := bZ BK408.out 0
      have hfz10_1 := bZ BK408.out 1
      have hnb11 := NB409_410.out
      have hnc11 := NB410_409.out
      have hcz12_0 : w6.cell? ⟨gb409, 0, none⟩ = some (.int .i64 a1_0) := (bC BK409.out 0).trans rfl
      have hcz12_1 : w6.cell? ⟨gb409, 1, none⟩ = some (.int .i64 a1_1) := (bC BK409.out 1).trans rfl
      have hfz12_0 := bZ BK409.out 0
      have hfz12_1 := bZ BK409.out 1
      go_wp2
      go_meet
      case rel => exact ⟨_, (decide (a1_0 ≥ 0)), (by first | rfl | (simp; done) | (simp [*]; done)), H', ⟨by first | omega | exact Nat.le_refl _⟩, ⟨by (with_reducible repeat (first | apply bN | apply bD | apply bA)); exact BK408.out⟩, ⟨by (with_reducible repeat (first | apply bN | apply bD | apply bA)); exact BK409.out⟩, ⟨by (with_reducible repeat (first | apply bN | apply bD | apply bA)); exact BK410.out⟩, ⟨by repeat (first | (with_reducible first | exact HB.out | apply cA | apply cN | apply cD | refine cS ?_ GE408.out | refine cS ?_ GE409.out | refine cS ?_ GE410.out) | exact HB.out)⟩⟩
    rw [if_neg c7] at H
    have c7b0 : decide (0 ≤ a0_0) = false := decide_eq_false c7
    clear c7
    (first | rw [c7b0] | (simp only [i64_w, i32_w]; rw [c7b0]) | skip)
    have H' := Aside0.mk H
    clear H
    have hnb13 := NB408_409.out
    have hnc13 := NB409_408.out
    have hnb14 := NB408_410.out
    have hnc14 := NB410_408.out
    have hcz15_0 : w6.cell? ⟨gb408, 0, none⟩ = some (.int .i64 a0_0) := (bC BK408.out 0).trans rfl
    have hcz15_1 : w6.cell? ⟨gb408, 1, none⟩ = some (.int .i64 a0_1) := (bC BK408.out 1).trans rfl
    have hfz15_0 := bZ BK408.out 0
    have hfz15_1 := bZ BK408.out 1
    go_wp2
    go_meet
    case rel => exact ⟨_, (false), (by first | rfl | (simp; done) | (simp [*]; done)), H', ⟨by first | omega | exact Nat.le_refl _⟩, ⟨by (with_reducible repeat (first | apply bN | apply bD | apply bA)); exact BK408.out⟩, ⟨by (with_reducible repeat (first | apply bN | apply bD | apply bA)); exact BK409.out⟩, ⟨by (with_reducible repeat (first | apply bN | apply bD | apply bA)); exact BK410.out⟩, ⟨by repeat (first | (with_reducible first | exact HB.out | apply cA | apply cN | apply cD | refine cS ?_ GE408.out | refine cS ?_ GE409.out | refine cS ?_ GE410.out) | exact HB.out)⟩⟩
  case rest =>
    clear HC3
    try clear c7
    try clear c7b0
    try clear hcz10_0
    try clear hcz10_1
    try clear hcz12_0
    try clear hcz12_1
    try clear hcz15_0
    try clear hcz15_1
    try clear hfz10_0
    try clear hfz10_1
    try clear hfz12_0
    try clear hfz12_1
    try clear hfz15_0
    try clear hfz15_1
    obtain ⟨kq, x6_2, rfl, HA, HJ2, BK408, BK409, BK410, HB⟩ := hcut
    cases kq with
    | zero => exact absurd HA.out (by simp [span_both.j0])
    | succ kj2 =>
      have H := HA.out
      clear HA
      simp only [span_both.j0] at H
      by_cases c16 : x6_2 = true
      · subst c16
        have H1 : (some (0, mn a0_1 a1_1)) = some (r1, r2) := by rw [if_pos rfl] at H; exact H
        clear H
        have H := H1
        clear H1
        obtain ⟨ji17, hji17⟩ : ∃ j_ : Int, (mn a0_1 a1_1) = j_ := ⟨_, rfl⟩
        replace H : (some (0, ji17)) = some (r1, r2) := by first | (rw [hji17] at H; exact H) | (simp only [hji17] at H ⊢; exact H)
        have hji17_ : (if a1_1 < a0_1 then a1_1 else a0_1) = ji17 := hji17
        simp only [Option.some.injEq, Prod.mk.injEq] at H
        obtain ⟨rfl, rfl⟩ := H
        have hnb18 := NB408_409.out
        have hnc18 := NB409_408.out
        have hnb19 := NB408_410.out
        have hnc19 := NB410_408.out
        have hcz20_0 : wc.cell? ⟨gb408, 0, none⟩ = some (.int .i64 a0_0) := (bC BK408.out 0).trans rfl
        have hcz20_1 : wc.cell? ⟨gb408, 1, none⟩ = some (.int .i64 a0_1) := (bC BK408.out 1).trans rfl
        have hfz20_0 := bZ BK408.out 0
        have hfz20_1 := bZ BK408.out 1
        have hnb21 := NB409_410.out
        have hnc21 := NB410_409.out
        have hcz22_0 : wc.cell? ⟨gb409, 0, none⟩ = some (.int .i64 a1_0) := (bC BK409.out 0).trans rfl
        have hcz22_1 : wc.cell? ⟨gb409, 1, none⟩ = some (.int .i64 a1_1) := (bC BK409.out 1).trans rfl
        have hfz22_0 := bZ BK409.out 0
        have hfz22_1 := bZ BK409.out 1
        have hcz23_0 : wc.cell? ⟨gb410, 0, none⟩ = some (.int .i64 0) := (bC BK410.out 0).trans rfl
        have hcz23_1 : wc.cell? ⟨gb410, 1, none⟩ = some (.int .i64 0) := (bC BK410.out 1).trans rfl
        have hfz23_0 := bZ BK410.out 0
        have hfz23_1 := bZ BK410.out 1
        go_wp2
        refine bodyPost_ret (results_cell_row rfl _ _ gb410 47 #[.int .i64 0, .int .i64 ji17] (0, 0) _ rfl (by (with_reducible repeat (first | apply bN | apply bD | apply bA)); refine bP (cs := #[.int .i64 0, .int .i64 0]) ?_ 1 _ rfl; (with_reducible repeat (first | apply bN | apply bD | apply bA)); refine bP (cs := #[.int .i64 0, .int .i64 0]) ?_ 0 _ rfl; (with_reducible repeat (first | apply bN | apply bD | apply bA)); exact BK410.out) Try.underlying47 rfl (by kernel_rfl)) rfl ?_
        exact ⟨by first | rfl | (simp [errW_none, errW_some] <;> rfl) | (simp only [← hji17]; first | rfl | (simp [errW_none, errW_some] <;> rfl)) | (simp [*, errW_none, errW_some] <;> rfl), by repeat (first | (with_reducible first | exact HB.out | apply cA | apply cN | apply cD | refine cS ?_ GE408.out | refine cS ?_ GE409.out | refine cS ?_ GE410.out) | exact HB.out)⟩
      replace c16 := Bool.eq_false_iff.mpr c16
      subst c16
      have H1 : (if a0_0 ≥ 0 then (some (0, a0_1)) else (if a1_0 ≥ 0 then (some (0, a1_1)) else ((span_digits.f kj2 a0_0 a0_1 a1_0 a1_1).bind fun t411 => (if 0 ≤ t411 then (some (shl .i64 (-1) t411, wrap64 ((shl .i64 1 t411) - 1))) else (none))))) = some (r1, r2) := by rw [if_neg (show ¬ (false = true) by decide)] at H; exact H
      clear H
      have H := H1
      clear H1
      by_cases c24 : a0_0 ≥ 0
      · rw [if_pos c24] at H
        have c24b0 : decide (0 ≤ a0_0) = true := decide_eq_true c24
        clear c24
        simp only [Option.some.injEq, Prod.mk.injEq] at H
        obtain ⟨rfl, rfl⟩ := H
        have hnb25 := NB408_409.out
        have hnc25 := NB409_408.out
        have hnb26 := NB408_410.out
        have hnc26 := NB410_408.out
        have hcz27_0 : wc.cell? ⟨gb408, 0, none⟩ = some (.int .i64 a0_0) := (bC BK408.out 0).trans rfl
        have hcz27_1 : wc.cell? ⟨gb408, 1, none⟩ = some (.int .i64 a0_1) := (bC BK408.out 1).trans rfl
        have hfz27_0 := bZ BK408.out 0
        have hfz27_1 := bZ BK408.out 1
        have hnb28 := NB410_409.out
        have hnc28 := NB409_410.out
        have hcz29_0 : wc.cell? ⟨gb410, 0, none⟩ = some (.int .i64 0) := (bC BK410.out 0).trans rfl
        have hcz29_1 : wc.cell? ⟨gb410, 1, none⟩ = some (.int .i64 0) := (bC BK410.out 1).trans rfl
        have hfz29_0 := bZ BK410.out 0
        have hfz29_1 := bZ BK410.out 1
        go_wp2
        refine bodyPost_ret (results_cell_row rfl _ _ gb410 47 #[.int .i64 0, .int .i64 a0_1] (0, 0) _ rfl (by (with_reducible repeat (first | apply bN | apply bD | apply bA)); refine bP (cs := #[.int .i64 0, .int .i64 0]) ?_ 1 _ rfl; (with_reducible repeat (first | apply bN | apply bD | apply bA)); refine bP (cs := #[.int .i64 0, .int .i64 0]) ?_ 0 _ rfl; (with_reducible repeat (first | apply bN | apply bD | apply bA)); exact BK410.out) Try.underlying47 rfl (by kernel_rfl)) rfl ?_
        exact ⟨by first | rfl | (simp [errW_none, errW_some] <;> rfl) | (simp [*, errW_none, errW_some] <;> rfl), by repeat (first | (with_reducible first | exact HB.out | apply cA | apply cN | apply cD | refine cS ?_ GE408.out | refine cS ?_ GE409.out | refine cS ?_ GE410.out) | exact HB.out)⟩
      rw [if_neg c24] at H
      have c24b0 : decide (0 ≤ a0_0) = false := decide_eq_false c24
      clear c24
      by_cases c30 : a1_0 ≥ 0
      · rw [if_pos c30] at H
        have c30b0 : decide (0 ≤ a1_0) = true := decide_eq_true c30
        clear c30
        simp only [Option.some.injEq, Prod.mk.injEq] at H
        obtain ⟨rfl, rfl⟩ := H
        have hnb31 := NB408_409.out
        have hnc31 := NB409_408.out
        have hnb32 := NB408_410.out
        have hnc32 := NB410_408.out
        have hcz33_0 : wc.cell? ⟨gb408, 0, none⟩ = some (.int .i64 a0_0) := (bC BK408.out 0).trans rfl
        have hcz33_1 : wc.cell? ⟨gb408, 1, none⟩ = some (.int .i64 a0_1) := (bC BK408.out 1).trans rfl
        have hfz33_0 := bZ BK408.out 0
        have hfz33_1 := bZ BK408.out 1
        have hnb34 := NB409_410.out
        have hnc34 := NB410_409.out
        have hcz35_0 : wc.cell? ⟨gb409, 0, none⟩ = some (.int .i64 a1_0) := (bC BK409.out 0).trans rfl
        have hcz35_1 : wc.cell? ⟨gb409, 1, none⟩ = some (.int .i64 a1_1) := (bC BK409.out 1).trans rfl
        have hfz35_0 := bZ BK409.out 0
        have hfz35_1 := bZ BK409.out 1
        have hcz36_0 : wc.cell? ⟨gb410, 0, none⟩ = some (.int .i64 0) := (bC BK410.out 0).trans rfl
        have hcz36_1 : wc.cell? ⟨gb410, 1, none⟩ = some (.int .i64 0) := (bC BK410.out 1).trans rfl
        have hfz36_0 := bZ BK410.out 0
        have hfz36_1 := bZ BK410.out 1
        go_wp2
        refine bodyPost_ret (results_cell_row rfl _ _ gb410 47 #[.int .i64 0, .int .i64 a1_1] (0, 0) _ rfl (by (with_reducible repeat (first | apply bN | apply bD | apply bA)); refine bP (cs := #[.int .i64 0, .int .i64 0]) ?_ 1 _ rfl; (with_reducible repeat (first | apply bN | apply bD | apply bA)); refine bP (cs := #[.int .i64 0, .int .i64 0]) ?_ 0 _ rfl; (with_reducible repeat (first | apply bN | apply bD | apply bA)); exact BK410.out) Try.underlying47 rfl (by kernel_rfl)) rfl ?_
        exact ⟨by first | rfl | (simp [errW_none, errW_some] <;> rfl) | (simp [*, errW_none, errW_some] <;> rfl), by repeat (first | (with_reducible first | exact HB.out | apply cA | apply cN | apply cD | refine cS ?_ GE408.out | refine cS ?_ GE409.out | refine cS ?_ GE410.out) | exact HB.out)⟩
      rw [if_neg c30] at H
      have c30b0 : decide (0 ≤ a1_0) = false := decide_eq_false c30
      clear c30
      replace H := Option.bind_eq_some_iff.mp H
      obtain ⟨t411, A370, H⟩ := H
      replace H : (if 0 ≤ t411 then (some (shl .i64 (-1) t411, wrap64 ((shl .i64 1 t411) - 1))) else (none)) = some (r1, r2) := H
      have A37 := Aside0.mk A370
      clear A370
      by_cases c38 : 0 ≤ t411
      · rw [if_pos c38] at H
        have c38b0 := eq_true c38
        have c38b1 : decide (0 ≤ t411) = true := decide_eq_true c38
        clear c38
        obtain ⟨ji39, hji39⟩ : ∃ j_ : Int, (shl .i64 (-1) t411) = j_ := ⟨_, rfl⟩
        replace H : (some (ji39, wrap64 ((shl .i64 1 t411) - 1))) = some (r1, r2) := by first | (rw [hji39] at H; exact H) | (simp only [hji39] at H ⊢; exact H)
        (try rw [hji39] at A37)
        have hji39_ : (IntKind.i64.wrap ((-1) * 2 ^ min t411.toNat 64)) = ji39 := hji39
        have hji39z : t411 ≤ 64 → (IntKind.i64.wrap ((-1) * 2 ^ t411.toNat)) = ji39 := shl_small hji39
        have hji39n0 : (IntKind.i64.wrap (-2 ^ min t411.toNat 64)) = ji39 := by have h_ := hji39_; rw [Int.neg_mul, Int.one_mul] at h_; exact h_
        have hji39n1 : t411 ≤ 64 → (IntKind.i64.wrap (-2 ^ t411.toNat)) = ji39 := fun hle_ => by have h_ := hji39z hle_; rw [Int.neg_mul, Int.one_mul] at h_; exact h_
        have hji39n2 : (wrap64 (-2 ^ min t411.toNat 64)) = ji39 := (i64_w _).symm.trans hji39n0
        have hji39n3 : t411 ≤ 64 → (wrap64 (-2 ^ t411.toNat)) = ji39 := fun h_ => (i64_w _).symm.trans (hji39n1 h_)
        have hji39y : (wrap64 ((-1) * 2 ^ min t411.toNat 64)) = ji39 := (i64_w _).symm.trans hji39_
        have hji39x : t411 ≤ 64 → (wrap64 ((-1) * 2 ^ t411.toNat)) = ji39 := fun h_ => (i64_w _).symm.trans (hji39z h_)
        have c40b0 := eq_true (of_decide_eq_true (by first | (with_reducible assumption) | assumption) : 0 ≤ t411)
        obtain ⟨ji41, hji41⟩ : ∃ j_ : Int, (shl .i64 1 t411) = j_ := ⟨_, rfl⟩
        replace H : (some (ji39, wrap64 ((ji41) - 1))) = some (r1, r2) := by first | (rw [hji41] at H; exact H) | (simp only [hji41] at H ⊢; exact H)
        (try rw [hji41] at A37)
        have hji41_ : (IntKind.i64.wrap (1 * 2 ^ min t411.toNat 64)) = ji41 := hji41
        have hji41z : t411 ≤ 64 → (IntKind.i64.wrap (1 * 2 ^ t411.toNat)) = ji41 := shl_small hji41
        have hji41u : (IntKind.i64.wrap (2 ^ min t411.toNat 64)) = ji41 := by have h_ := hji41_; rw [Int.one_mul] at h_; exact h_
        have hji41v : t411 ≤ 64 → (IntKind.i64.wrap (2 ^ t411.toNat)) = ji41 := fun hle_ => by have h_ := hji41z hle_; rw [Int.one_mul] at h_; exact h_
        have hji41y : (wrap64 (1 * 2 ^ min t411.toNat 64)) = ji41 := (i64_w _).symm.trans hji41_
        have hji41x : t411 ≤ 64 → (wrap64 (1 * 2 ^ t411.toNat)) = ji41 := fun h_ => (i64_w _).symm.trans (hji41z h_)
        simp only [Option.some.injEq, Prod.mk.injEq] at H
        obtain ⟨rfl, rfl⟩ := H
        have hnb42 := NB408_409.out
        have hnc42 := NB409_408.out
        have hnb43 := NB408_410.out
        have hnc43 := NB410_408.out
        have hcz44_0 : wc.cell? ⟨gb408, 0, none⟩ = some (.int .i64 a0_0) := (bC BK408.out 0).trans rfl
        have hcz44_1 : wc.cell? ⟨gb408, 1, none⟩ = some (.int .i64 a0_1) := (bC BK408.out 1).trans rfl
        have hfz44_0 := bZ BK408.out 0
        have hfz44_1 := bZ BK408.out 1
        have hnb45 := NB409_410.out
        have hnc45 := NB410_409.out
        have hcz46_0 : wc.cell? ⟨gb409, 0, none⟩ = some (.int .i64 a1_0) := (bC BK409.out 0).trans rfl
        have hcz46_1 : wc.cell? ⟨gb409, 1, none⟩ = some (.int .i64 a1_1) := (bC BK409.out 1).trans rfl
        have hfz46_0 := bZ BK409.out 0
        have hfz46_1 := bZ BK409.out 1
        try go_wp2_with (first | ((with_reducible refine gate_callee (f := 68) rfl ?_); refine goesL_ (some 37) rfl rfl Try.func68 (by kernel_rfl) rfl #[.agg #[.int .i64 a0_0, .int .i64 a0_1], .agg #[.int .i64 a1_0, .int .i64 a1_1]] rfl (by (try simp only [List.map_toArray, List.map_cons, List.map_nil]); first | done | rfl | (simp only [List.length_drop, List.length_take]; rfl)) ?_; (with_reducible refine (span_digits.calls kj2 a0_0 a0_1 a1_0 a1_1 t411 _ A37.out).mono ?_); rintro e w47 ⟨rfl, hb⟩; refine ⟨_, rfl, ?_⟩; have n0_ := Aside0.mk (bB (g := gb408) (o := .cells #[.int .i64 a0_0, .int .i64 a0_1] 47 (0, 0)) (by (with_reducible repeat (first | apply bN | apply bD | apply bA)); exact BK408.out) hb); have n1_ := Aside0.mk (bB (g := gb409) (o := .cells #[.int .i64 a1_0, .int .i64 a1_1] 47 (0, 0)) (by (with_reducible repeat (first | apply bN | apply bD | apply bA)); exact BK409.out) hb); have n2_ := Aside0.mk (bB (g := gb410) (o := .cells #[.int .i64 0, .int .i64 0] 47 (0, 0)) (by (with_reducible repeat (first | apply bN | apply bD | apply bA)); exact BK410.out) hb); have n3_ := Aside0.mk (cT (by repeat (first | (with_reducible first | exact HB.out | apply cA | apply cN | apply cD | refine cS ?_ GE408.out | refine cS ?_ GE409.out | refine cS ?_ GE410.out) | exact HB.out)) hb); clear BK408; clear BK409; clear BK410; clear HB; have BK408 := n0_; have BK409 := n1_; have BK410 := n2_; have HB := n3_; clear n0_ n1_ n2_ n3_; (try clear hb); (try clear hb2); (try clear hk); (try clear hi)))
        have n0_ := Aside0.mk (bD BK408.out)
        have n1_ := Aside0.mk (bD BK409.out)
        have n2_ := Aside0.mk (bD BK410.out)
        have n3_ := Aside0.mk (cD HB.out)
        clear BK408
        clear BK409
        clear BK410
        clear HB
        have BK408 := n0_
        have BK409 := n1_
        have BK410 := n2_
        have HB := n3_
        clear n0_ n1_ n2_ n3_
        refine start_ (n := 7) (S := fun w' => True) (ds := []) #[false, false, false, false, false, false, false] (by kernel_rfl) rfl rfl trivial (fun hHeld => ?_)
        generalize w47.drew = w48 at BK408 BK409 BK410 HB hHeld ⊢
        refine pure_ (i := 0) (N := some 38) (v := ?_) (a' := ?_) #[true, false, false, false, false, false, false] rfl rfl (by kernel_rfl) (fun _ _ _ h => h) (Or.inl ⟨by rfl, ?_⟩) ?_ ?_
        rotate_left
        · intro w'
          go_simp
          with_reducible rfl
        rotate_left
        · simp only [Act.put, List.setIfInBounds_toArray, List.set_cons_zero, List.set_cons_succ, i64_w, i32_w]
          rfl
        refine pure_ (i := 1) (N := some 39) (v := ?_) (a' := ?_) #[true, true, false, false, false, false, false] rfl rfl (by kernel_rfl) (fun _ _ _ h => h) (Or.inl ⟨by rfl, ?_⟩) ?_ ?_
        rotate_left
        · intro w'
          go_simp
          with_reducible rfl
        rotate_left
        · simp only [Act.put, List.setIfInBounds_toArray, List.set_cons_zero, List.set_cons_succ, i64_w, i32_w]
          rfl
        refine pure_ (i := 2) (N := some 40) (v := ?_) (a' := ?_) #[true, true, true, false, false, false, false] rfl rfl (by kernel_rfl) (fun _ _ _ h => h) (Or.inl ⟨by rfl, ?_⟩) ?_ ?_
        rotate_left
        · intro w'
          go_simp
          with_reducible rfl
        rotate_left
        · simp only [Act.put, List.setIfInBounds_toArray, List.set_cons_zero, List.set_cons_succ, i64_w, i32_w]
          rfl
        refine pure_ (i := 3) (N := some 41) (v := ?_) (a' := ?_) #[true, true, true, true, false, false, false] rfl rfl (by kernel_rfl) (fun _ _ _ h => h) (Or.inl ⟨by rfl, ?_⟩) ?_ ?_
        rotate_left
        · intro w'
          go_simp
          with_reducible rfl
        rotate_left
        · simp only [Act.put, List.setIfInBounds_toArray, List.set_cons_zero, List.set_cons_succ, i64_w, i32_w]
          rfl
        refine pure_ (i := 4) (N := some 42) (v := ?_) (a' := ?_) #[true, true, true, true, true, false, false] rfl rfl (by kernel_rfl) (fun _ _ _ h => h) (Or.inl ⟨by rfl, ?_⟩) ?_ ?_
        rotate_left
        · intro w'
          go_simp
          with_reducible rfl
        rotate_left
        · simp only [Act.put, List.setIfInBounds_toArray, List.set_cons_zero, List.set_cons_succ, i64_w, i32_w]
          rfl
        refine pure_ (i := 5) (N := some 43) (v := ?_) (a' := ?_) #[true, true, true, true, true, true, false] rfl rfl (by kernel_rfl) (fun _ _ _ h => h) (Or.inl ⟨by rfl, ?_⟩) ?_ ?_
        rotate_left
        · intro w'
          go_simp
          with_reducible rfl
        rotate_left
        · simp only [Act.put, List.setIfInBounds_toArray, List.set_cons_zero, List.set_cons_succ, i64_w, i32_w]
          rfl
        refine one_ (i := 6) (N := none) #[true, true, true, true, true, true, true] rfl rfl (by kernel_rfl) (by decide) (fun K hK => ?_)
        have hs49 : w48.cell? ⟨gb410, 0, none⟩ = some (.int .i64 0) := (bC BK410.out 0).trans rfl
        have hfs49 := bZ BK410.out 0
        have hns49_0 := NB408_410.out
        have hns49_1 := NB409_410.out
        have hms49_0 := NB410_408.out
        have hms49_1 := NB410_409.out
        have hs50 : w48.cell? ⟨gb410, 1, none⟩ = some (.int .i64 0) := (bC BK410.out 1).trans rfl
        have hfs50 := bZ BK410.out 1
        have hns50_0 := NB408_410.out
        have hns50_1 := NB409_410.out
        have hms50_0 := NB410_408.out
        have hms50_1 := NB410_409.out
        refine skip_ (w1 := ?_) (by rfl) rfl ?_ ?_
        rotate_left
        · go_simp
          rfl
        refine hK.out _ _ trivial (fun hHeld => ?_)
        clear hK K
        refine done_ (by kernel_rfl) ?_
        try go_wp2
        refine bodyPost_ret (results_cell_row rfl _ _ gb410 47 #[.int .i64 ji39, .int .i64 (wrap64 ((ji41) - 1))] (0, 0) _ rfl (by (with_reducible repeat (first | apply bN | apply bD | apply bA)); refine bP (cs := #[.int .i64 ji39, .int .i64 0]) ?_ 1 _ rfl; (with_reducible repeat (first | apply bN | apply bD | apply bA)); refine bP (cs := #[.int .i64 0, .int .i64 0]) ?_ 0 _ rfl; (with_reducible repeat (first | apply bN | apply bD | apply bA)); exact BK410.out) Try.underlying47 rfl (by kernel_rfl)) rfl ?_
        exact ⟨by first | rfl | (simp [errW_none, errW_some] <;> rfl) | (simp only [← hji39, ← hji41]; first | rfl | (simp [errW_none, errW_some] <;> rfl)) | (simp [*, errW_none, errW_some] <;> rfl), by repeat (first | (with_reducible first | exact HB.out | apply cA | apply cN | apply cD | refine cS ?_ GE408.out | refine cS ?_ GE409.out | refine cS ?_ GE410.out) | exact HB.out)⟩
      rw [if_neg c38] at H
      exact absurd H (by simp)

/-! ### span_one_1: function 55 -/
def span_one_1.f (a0 : Int) (a1 : Int) : Option (Int) := some (wrap64 (a0 * a1))
set_option maxHeartbeats 8000000 in
set_option maxRecDepth 100000 in
theorem span_one_1.calls (a0 : Int) (a1 : Int) (r : Int) (w : World) (h : span_one_1.f a0 a1 = some r) :
    Calls Try.prog 55 #[.int .i64 a0, .int .i64 a1] w fun e w' => e = .returned (.int .i64 r) ∧ Drawn0 w w' := by
  have H : (some (wrap64 (a0 * a1))) = some r := h
  clear h
  obtain rfl := Option.some.inj H
  go_enter Try.func55, Try.ntmps55
  go_wp2
  go_ret
  exact ⟨by first | rfl | (simp; done) | (simp [*]; done), by repeat (first | exact Drawn0.refl _ | apply Drawn0.step)⟩

/-! ### span_corners_with55: function 900000 -/
def span_corners_with55.f (a0_0 : Int) (a0_1 : Int) (a1_0 : Int) (a1_1 : Int)  : Option (Int × Int) := (span_one_1.f a0_0 a1_0).bind fun t415 => ((span_one_1.f a0_0 a1_1).bind fun t416 => ((span_one_1.f a0_1 a1_0).bind fun t417 => ((span_one_1.f a0_1 a1_1).bind fun t418 => (some (mn (mn (mn t415 t416) t417) t418, mx (mx (mx t415 t416) t417) t418)))))
set_option maxHeartbeats 8000000 in
set_option maxRecDepth 100000 in
theorem span_corners_with55.calls (a0_0 : Int) (a0_1 : Int) (a1_0 : Int) (a1_1 : Int)  (r1 : Int) (r2 : Int) (w : World) (h : span_corners_with55.f a0_0 a0_1 a1_0 a1_1 = some (r1, r2)) :
    Calls Try.prog 54 #[.agg #[.int .i64 a0_0, .int .i64 a0_1], .agg #[.int .i64 a1_0, .int .i64 a1_1], .func (.func 55) #[] #[]] w fun e w' => e = .returned (.agg #[.int .i64 r1, .int .i64 r2]) ∧ Below w.heap.size w w' := by
  have hu47 := Try.underlying47
  have HB := Aside0.mk (Below.refl w.heap.size w)
  have H : ((span_one_1.f a0_0 a1_0).bind fun t415 => ((span_one_1.f a0_0 a1_1).bind fun t416 => ((span_one_1.f a0_1 a1_0).bind fun t417 => ((span_one_1.f a0_1 a1_1).bind fun t418 => (some (mn (mn (mn t415 t416) t417) t418, mx (mx (mx t415 t416) t417) t418)))))) = some (r1, r2) := h
  clear h
  replace H := Option.bind_eq_some_iff.mp H
  obtain ⟨t415, A40, H⟩ := H
  replace H : ((span_one_1.f a0_0 a1_1).bind fun t416 => ((span_one_1.f a0_1 a1_0).bind fun t417 => ((span_one_1.f a0_1 a1_1).bind fun t418 => (some (mn (mn (mn t415 t416) t417) t418, mx (mx (mx t415 t416) t417) t418))))) = some (r1, r2) := H
  have A4 := Aside0.mk A40
  clear A40
  replace H := Option.bind_eq_some_iff.mp H
  obtain ⟨t416, A50, H⟩ := H
  replace H : ((span_one_1.f a0_1 a1_0).bind fun t417 => ((span_one_1.f a0_1 a1_1).bind fun t418 => (some (mn (mn (mn t415 t416) t417) t418, mx (mx (mx t415 t416) t417) t418)))) = some (r1, r2) := H
  have A5 := Aside0.mk A50
  clear A50
  replace H := Option.bind_eq_some_iff.mp H
  obtain ⟨t417, A60, H⟩ := H
  replace H : ((span_one_1.f a0_1 a1_1).bind fun t418 => (some (mn (mn (mn t415 t416) t417) t418, mx (mx (mx t415 t416) t417) t418))) = some (r1, r2) := H
  have A6 := Aside0.mk A60
  clear A60
  replace H := Option.bind_eq_some_iff.mp H
  obtain ⟨t418, A70, H⟩ := H
  replace H : (some (mn (mn (mn t415 t416) t417) t418, mx (mx (mx t415 t416) t417) t418)) = some (r1, r2) := H
  have A7 := Aside0.mk A70
  clear A70
  obtain ⟨ji8, hji8⟩ : ∃ j_ : Int, (mn t415 t416) = j_ := ⟨_, rfl⟩
  replace H : (some (mn (mn (ji8) t417) t418, mx (mx (mx t415 t416) t417) t418)) = some (r1, r2) := by first | (rw [hji8] at H; exact H) | (simp only [hji8] at H ⊢; exact H)
  (try rw [hji8] at A4)
  (try rw [hji8] at A5)
  (try rw [hji8] at A6)
  (try rw [hji8] at A7)
  have hji8_ : (if t416 < t415 then t416 else t415) = ji8 := hji8
  obtain ⟨ji9, hji9⟩ : ∃ j_ : Int, (mn (ji8) t417) = j_ := ⟨_, rfl⟩
  replace H : (some (mn (ji9) t418, mx (mx (mx t415 t416) t417) t418)) = some (r1, r2) := by first | (rw [hji9] at H; exact H) | (simp only [hji9] at H ⊢; exact H)
  (try rw [hji9] at A4)
  (try rw [hji9] at A5)
  (try rw [hji9] at A6)
  (try rw [hji9] at A7)
  have hji9_ : (if t417 < (ji8) then t417 else (ji8)) = ji9 := hji9
  obtain ⟨ji10, hji10⟩ : ∃ j_ : Int, (mn (ji9) t418) = j_ := ⟨_, rfl⟩
  replace H : (some (ji10, mx (mx (mx t415 t416) t417) t418)) = some (r1, r2) := by first | (rw [hji10] at H; exact H) | (simp only [hji10] at H ⊢; exact H)
  (try rw [hji10] at A4)
  (try rw [hji10] at A5)
  (try rw [hji10] at A6)
  (try rw [hji10] at A7)
  have hji10_ : (if t418 < (ji9) then t418 else (ji9)) = ji10 := hji10
  obtain ⟨ji11, hji11⟩ : ∃ j_ : Int, (mx t415 t416) = j_ := ⟨_, rfl⟩
  replace H : (some (ji10, mx (mx (ji11) t417) t418)) = some (r1, r2) := by first | (rw [hji11] at H; exact H) | (simp only [hji11] at H ⊢; exact H)
  (try rw [hji11] at A4)
  (try rw [hji11] at A5)
  (try rw [hji11] at A6)
  (try rw [hji11] at A7)
  have hji11_ : (if t415 < t416 then t416 else t415) = ji11 := hji11
  obtain ⟨ji12, hji12⟩ : ∃ j_ : Int, (mx (ji11) t417) = j_ := ⟨_, rfl⟩
  replace H : (some (ji10, mx (ji12) t418)) = some (r1, r2) := by first | (rw [hji12] at H; exact H) | (simp only [hji12] at H ⊢; exact H)
  (try rw [hji12] at A4)
  (try rw [hji12] at A5)
  (try rw [hji12] at A6)
  (try rw [hji12] at A7)
  have hji12_ : (if (ji11) < t417 then t417 else (ji11)) = ji12 := hji12
  obtain ⟨ji13, hji13⟩ : ∃ j_ : Int, (mx (ji12) t418) = j_ := ⟨_, rfl⟩
  replace H : (some (ji10, ji13)) = some (r1, r2) := by first | (rw [hji13] at H; exact H) | (simp only [hji13] at H ⊢; exact H)
  (try rw [hji13] at A4)
  (try rw [hji13] at A5)
  (try rw [hji13] at A6)
  (try rw [hji13] at A7)
  have hji13_ : (if (ji12) < t418 then t418 else (ji12)) = ji13 := hji13
  simp only [Option.some.injEq, Prod.mk.injEq] at H
  obtain ⟨rfl, rfl⟩ := H
  go_enter Try.func54, Try.ntmps54
  go_wp2_with (first | ((with_reducible refine gate_dst (N := 3) rfl ?_); refine box_event ?hg (N := 3) ?hd (cs := #[.int .i64 a0_0, .int .i64 a0_1]) (t := 47) ?hr ?_; (case hd => rfl); (case hg => rfl); (case hr => first | (go_simp; done) | (go_simp; rfl)); intro gb412 hg w14 hbox hb; have n0_ := Aside0.mk (cT (by repeat (first | (with_reducible first | exact HB.out | apply cA | apply cN | apply cD) | exact HB.out)) hb); have n1_ := Aside0.mk (hbox); have n2_ := Aside0.mk ((by rw [hg]; exact (cZ (by repeat (first | (with_reducible first | exact HB.out | apply cA | apply cN | apply cD) | exact HB.out))) : w.heap.size ≤ gb412)); have n3_ := n2_; clear HB; have HB := n0_; have BK412 := n1_; have GW412 := n2_; have GE412 := n3_; clear n0_ n1_ n2_ n3_; clear hb hbox hg) | ((with_reducible refine gate_dst (N := 4) rfl ?_); refine box_event ?hg (N := 4) ?hd (cs := #[.int .i64 a1_0, .int .i64 a1_1]) (t := 47) ?hr ?_; (case hd => rfl); (case hg => rfl); (case hr => first | (go_simp; done) | (go_simp; rfl)); intro gb413 hg w15 hbox hb; have n0_ := Aside0.mk (bB (g := gb412) (o := .cells #[.int .i64 a0_0, .int .i64 a0_1] 47 (0, 0)) (by (with_reducible repeat (first | apply bN | apply bD | apply bA)); exact BK412.out) hb); have n1_ := Aside0.mk (cT (by repeat (first | (with_reducible first | exact HB.out | apply cA | apply cN | apply cD | refine cS ?_ GE412.out) | exact HB.out)) hb); have n2_ := Aside0.mk (hbox); have n3_ := Aside0.mk ((by rw [hg]; exact (cZ (by repeat (first | (with_reducible first | exact HB.out | apply cA | apply cN | apply cD | refine cS ?_ GE412.out) | exact HB.out))) : w.heap.size ≤ gb413)); have n4_ := n3_; have n5_ := Aside0.mk ((by rw [hg]; exact Nat.ne_of_lt (blk_lt (g := gb412) (o := .cells #[.int .i64 a0_0, .int .i64 a0_1] 47 (0, 0)) (by (with_reducible repeat (first | apply bN | apply bD | apply bA)); exact BK412.out)) : gb412 ≠ gb413)); have n6_ := Aside0.mk ((by rw [hg]; exact Nat.ne_of_gt (blk_lt (g := gb412) (o := .cells #[.int .i64 a0_0, .int .i64 a0_1] 47 (0, 0)) (by (with_reducible repeat (first | apply bN | apply bD | apply bA)); exact BK412.out)) : gb413 ≠ gb412)); clear BK412; clear HB; have BK412 := n0_; have HB := n1_; have BK413 := n2_; have GW413 := n3_; have GE413 := n4_; have NB412_413 := n5_; have NB413_412 := n6_; clear n0_ n1_ n2_ n3_ n4_ n5_ n6_; clear hb hbox hg) | ((with_reducible refine gate_dst (N := 6) rfl ?_); refine box_event ?hg (N := 6) ?hd (cs := #[.int .i64 0, .int .i64 0]) (t := 47) ?hr ?_; (case hd => rfl); (case hg => rfl); (case hr => first | (go_simp; done) | (go_simp; rfl)); intro gb414 hg w16 hbox hb; have n0_ := Aside0.mk (bB (g := gb412) (o := .cells #[.int .i64 a0_0, .int .i64 a0_1] 47 (0, 0)) (by (with_reducible repeat (first | apply bN | apply bD | apply bA)); exact BK412.out) hb); have n1_ := Aside0.mk (bB (g := gb413) (o := .cells #[.int .i64 a1_0, .int .i64 a1_1] 47 (0, 0)) (by (with_reducible repeat (first | apply bN | apply bD | apply bA)); exact BK413.out) hb); have n2_ := Aside0.mk (cT (by repeat (first | (with_reducible first | exact HB.out | apply cA | apply cN | apply cD | refine cS ?_ GE412.out | refine cS ?_ GE413.out) | exact HB.out)) hb); have n3_ := Aside0.mk (hbox); have n4_ := Aside0.mk ((by rw [hg]; exact (cZ (by repeat (first | (with_reducible first | exact HB.out | apply cA | apply cN | apply cD | refine cS ?_ GE412.out | refine cS ?_ GE413.out) | exact HB.out))) : w.heap.size ≤ gb414)); have n5_ := n4_; have n6_ := Aside0.mk ((by rw [hg]; exact Nat.ne_of_lt (blk_lt (g := gb412) (o := .cells #[.int .i64 a0_0, .int .i64 a0_1] 47 (0, 0)) (by (with_reducible repeat (first | apply bN | apply bD | apply bA)); exact BK412.out)) : gb412 ≠ gb414)); have n7_ := Aside0.mk ((by rw [hg]; exact Nat.ne_of_gt (blk_lt (g := gb412) (o := .cells #[.int .i64 a0_0, .int .i64 a0_1] 47 (0, 0)) (by (with_reducible repeat (first | apply bN | apply bD | apply bA)); exact BK412.out)) : gb414 ≠ gb412)); have n8_ := Aside0.mk ((by rw [hg]; exact Nat.ne_of_lt (blk_lt (g := gb413) (o := .cells #[.int .i64 a1_0, .int .i64 a1_1] 47 (0, 0)) (by (with_reducible repeat (first | apply bN | apply bD | apply bA)); exact BK413.out)) : gb413 ≠ gb414)); have n9_ := Aside0.mk ((by rw [hg]; exact Nat.ne_of_gt (blk_lt (g := gb413) (o := .cells #[.int .i64 a1_0, .int .i64 a1_1] 47 (0, 0)) (by (with_reducible repeat (first | apply bN | apply bD | apply bA)); exact BK413.out)) : gb414 ≠ gb413)); clear BK412; clear BK413; clear HB; have BK412 := n0_; have BK413 := n1_; have HB := n2_; have BK414 := n3_; have GW414 := n4_; have GE414 := n5_; have NB412_414 := n6_; have NB414_412 := n7_; have NB413_414 := n8_; have NB414_413 := n9_; clear n0_ n1_ n2_ n3_ n4_ n5_ n6_ n7_ n8_ n9_; clear hb hbox hg; have hnb17 := NB412_413.out; have hnc17 := NB413_412.out; have hnb18 := NB412_414.out; have hnc18 := NB414_412.out; have hcz19_0 : w16.cell? ⟨gb412, 0, none⟩ = some (.int .i64 a0_0) := (bC BK412.out 0).trans rfl; have hcz19_1 : w16.cell? ⟨gb412, 1, none⟩ = some (.int .i64 a0_1) := (bC BK412.out 1).trans rfl; have hfz19_0 := bZ BK412.out 0; have hfz19_1 := bZ BK412.out 1; have hnb20 := NB413_414.out; have hnc20 := NB414_413.out; have hcz21_0 : w16.cell? ⟨gb413, 0, none⟩ = some (.int .i64 a1_0) := (bC BK413.out 0).trans rfl; have hcz21_1 : w16.cell? ⟨gb413, 1, none⟩ = some (.int .i64 a1_1) := (bC BK413.out 1).trans rfl; have hfz21_0 := bZ BK413.out 0; have hfz21_1 := bZ BK413.out 1) | (go_at_call 55; (with_reducible refine (span_one_1.calls a0_0 a1_0 t415 _ A4.out).mono ?_); rintro e w' ⟨rfl, ⟨nd, rfl⟩⟩; (try first | exact ⟨rfl, _, World.drewN_drewN _ _ _⟩ | exact ⟨rfl, _, Eq.trans (World.drewN_drewN _ _ _) (congrArg (World.drewN _) (Nat.add_assoc _ _ _))⟩)) | (go_at_call 55; (with_reducible refine (span_one_1.calls a0_0 a1_1 t416 _ A5.out).mono ?_); rintro e w' ⟨rfl, ⟨nd, rfl⟩⟩; (try first | exact ⟨rfl, _, World.drewN_drewN _ _ _⟩ | exact ⟨rfl, _, Eq.trans (World.drewN_drewN _ _ _) (congrArg (World.drewN _) (Nat.add_assoc _ _ _))⟩)) | (go_at_call 55; (with_reducible refine (span_one_1.calls a0_1 a1_0 t417 _ A6.out).mono ?_); rintro e w' ⟨rfl, ⟨nd, rfl⟩⟩; (try first | exact ⟨rfl, _, World.drewN_drewN _ _ _⟩ | exact ⟨rfl, _, Eq.trans (World.drewN_drewN _ _ _) (congrArg (World.drewN _) (Nat.add_assoc _ _ _))⟩)) | (go_at_call 55; (with_reducible refine (span_one_1.calls a0_1 a1_1 t418 _ A7.out).mono ?_); rintro e w' ⟨rfl, ⟨nd, rfl⟩⟩; (try first | exact ⟨rfl, _, World.drewN_drewN _ _ _⟩ | exact ⟨rfl, _, Eq.trans (World.drewN_drewN _ _ _) (congrArg (World.drewN _) (Nat.add_assoc _ _ _))⟩); have hcz22_0 : w16.cell? ⟨gb414, 0, none⟩ = some (.int .i64 0) := (bC BK414.out 0).trans rfl; have hcz22_1 : w16.cell? ⟨gb414, 1, none⟩ = some (.int .i64 0) := (bC BK414.out 1).trans rfl; have hfz22_0 := bZ BK414.out 0; have hfz22_1 := bZ BK414.out 1))
  repeat (go_quiet (first | ((with_reducible refine gate_dst (N := 3) rfl ?_); refine box_event ?hg (N := 3) ?hd (cs := #[.int .i64 a0_0, .int .i64 a0_1]) (t := 47) ?hr ?_; (case hd => rfl); (case hg => rfl); (case hr => first | (go_simp; done) | (go_simp; rfl)); intro gb412 hg w14 hbox hb; have n0_ := Aside0.mk (cT (by repeat (first | (with_reducible first | exact HB.out | apply cA | apply cN | apply cD) | exact HB.out)) hb); have n1_ := Aside0.mk (hbox); have n2_ := Aside0.mk ((by rw [hg]; exact (cZ (by repeat (first | (with_reducible first | exact HB.out | apply cA | apply cN | apply cD) | exact HB.out))) : w.heap.size ≤ gb412)); have n3_ := n2_; clear HB; have HB := n0_; have BK412 := n1_; have GW412 := n2_; have GE412 := n3_; clear n0_ n1_ n2_ n3_; clear hb hbox hg) | ((with_reducible refine gate_dst (N := 4) rfl ?_); refine box_event ?hg (N := 4) ?hd (cs := #[.int .i64 a1_0, .int .i64 a1_1]) (t := 47) ?hr ?_; (case hd => rfl); (case hg => rfl); (case hr => first | (go_simp; done) | (go_simp; rfl)); intro gb413 hg w15 hbox hb; have n0_ := Aside0.mk (bB (g := gb412) (o := .cells #[.int .i64 a0_0, .int .i64 a0_1] 47 (0, 0)) (by (with_reducible repeat (first | apply bN | apply bD | apply bA)); exact BK412.out) hb); have n1_ := Aside0.mk (cT (by repeat (first | (with_reducible first | exact HB.out | apply cA | apply cN | apply cD | refine cS ?_ GE412.out) | exact HB.out)) hb); have n2_ := Aside0.mk (hbox); have n3_ := Aside0.mk ((by rw [hg]; exact (cZ (by repeat (first | (with_reducible first | exact HB.out | apply cA | apply cN | apply cD | refine cS ?_ GE412.out) | exact HB.out))) : w.heap.size ≤ gb413)); have n4_ := n3_; have n5_ := Aside0.mk ((by rw [hg]; exact Nat.ne_of_lt (blk_lt (g := gb412) (o := .cells #[.int .i64 a0_0, .int .i64 a0_1] 47 (0, 0)) (by (with_reducible repeat (first | apply bN | apply bD | apply bA)); exact BK412.out)) : gb412 ≠ gb413)); have n6_ := Aside0.mk ((by rw [hg]; exact Nat.ne_of_gt (blk_lt (g := gb412) (o := .cells #[.int .i64 a0_0, .int .i64 a0_1] 47 (0, 0)) (by (with_reducible repeat (first | apply bN | apply bD | apply bA)); exact BK412.out)) : gb413 ≠ gb412)); clear BK412; clear HB; have BK412 := n0_; have HB := n1_; have BK413 := n2_; have GW413 := n3_; have GE413 := n4_; have NB412_413 := n5_; have NB413_412 := n6_; clear n0_ n1_ n2_ n3_ n4_ n5_ n6_; clear hb hbox hg) | ((with_reducible refine gate_dst (N := 6) rfl ?_); refine box_event ?hg (N := 6) ?hd (cs := #[.int .i64 0, .int .i64 0]) (t := 47) ?hr ?_; (case hd => rfl); (case hg => rfl); (case hr => first | (go_simp; done) | (go_simp; rfl)); intro gb414 hg w16 hbox hb; have n0_ := Aside0.mk (bB (g := gb412) (o := .cells #[.int .i64 a0_0, .int .i64 a0_1] 47 (0, 0)) (by (with_reducible repeat (first | apply bN | apply bD | apply bA)); exact BK412.out) hb); have n1_ := Aside0.mk (bB (g := gb413) (o := .cells #[.int .i64 a1_0, .int .i64 a1_1] 47 (0, 0)) (by (with_reducible repeat (first | apply bN | apply bD | apply bA)); exact BK413.out) hb); have n2_ := Aside0.mk (cT (by repeat (first | (with_reducible first | exact HB.out | apply cA | apply cN | apply cD | refine cS ?_ GE412.out | refine cS ?_ GE413.out) | exact HB.out)) hb); have n3_ := Aside0.mk (hbox); have n4_ := Aside0.mk ((by rw [hg]; exact (cZ (by repeat (first | (with_reducible first | exact HB.out | apply cA | apply cN | apply cD | refine cS ?_ GE412.out | refine cS ?_ GE413.out) | exact HB.out))) : w.heap.size ≤ gb414)); have n5_ := n4_; have n6_ := Aside0.mk ((by rw [hg]; exact Nat.ne_of_lt (blk_lt (g := gb412) (o := .cells #[.int .i64 a0_0, .int .i64 a0_1] 47 (0, 0)) (by (with_reducible repeat (first | apply bN | apply bD | apply bA)); exact BK412.out)) : gb412 ≠ gb414)); have n7_ := Aside0.mk ((by rw [hg]; exact Nat.ne_of_gt (blk_lt (g := gb412) (o := .cells #[.int .i64 a0_0, .int .i64 a0_1] 47 (0, 0)) (by (with_reducible repeat (first | apply bN | apply bD | apply bA)); exact BK412.out)) : gb414 ≠ gb412)); have n8_ := Aside0.mk ((by rw [hg]; exact Nat.ne_of_lt (blk_lt (g := gb413) (o := .cells #[.int .i64 a1_0, .int .i64 a1_1] 47 (0, 0)) (by (with_reducible repeat (first | apply bN | apply bD | apply bA)); exact BK413.out)) : gb413 ≠ gb414)); have n9_ := Aside0.mk ((by rw [hg]; exact Nat.ne_of_gt (blk_lt (g := gb413) (o := .cells #[.int .i64 a1_0, .int .i64 a1_1] 47 (0, 0)) (by (with_reducible repeat (first | apply bN | apply bD | apply bA)); exact BK413.out)) : gb414 ≠ gb413)); clear BK412; clear BK413; clear HB; have BK412 := n0_; have BK413 := n1_; have HB := n2_; have BK414 := n3_; have GW414 := n4_; have GE414 := n5_; have NB412_414 := n6_; have NB414_412 := n7_; have NB413_414 := n8_; have NB414_413 := n9_; clear n0_ n1_ n2_ n3_ n4_ n5_ n6_ n7_ n8_ n9_; clear hb hbox hg; have hnb17 := NB412_413.out; have hnc17 := NB413_412.out; have hnb18 := NB412_414.out; have hnc18 := NB414_412.out; have hcz19_0 : w16.cell? ⟨gb412, 0, none⟩ = some (.int .i64 a0_0) := (bC BK412.out 0).trans rfl; have hcz19_1 : w16.cell? ⟨gb412, 1, none⟩ = some (.int .i64 a0_1) := (bC BK412.out 1).trans rfl; have hfz19_0 := bZ BK412.out 0; have hfz19_1 := bZ BK412.out 1; have hnb20 := NB413_414.out; have hnc20 := NB414_413.out; have hcz21_0 : w16.cell? ⟨gb413, 0, none⟩ = some (.int .i64 a1_0) := (bC BK413.out 0).trans rfl; have hcz21_1 : w16.cell? ⟨gb413, 1, none⟩ = some (.int .i64 a1_1) := (bC BK413.out 1).trans rfl; have hfz21_0 := bZ BK413.out 0; have hfz21_1 := bZ BK413.out 1) | (go_at_call 55; (with_reducible refine (span_one_1.calls a0_0 a1_0 t415 _ A4.out).mono ?_); rintro e w' ⟨rfl, ⟨nd, rfl⟩⟩; (try first | exact ⟨rfl, _, World.drewN_drewN _ _ _⟩ | exact ⟨rfl, _, Eq.trans (World.drewN_drewN _ _ _) (congrArg (World.drewN _) (Nat.add_assoc _ _ _))⟩)) | (go_at_call 55; (with_reducible refine (span_one_1.calls a0_0 a1_1 t416 _ A5.out).mono ?_); rintro e w' ⟨rfl, ⟨nd, rfl⟩⟩; (try first | exact ⟨rfl, _, World.drewN_drewN _ _ _⟩ | exact ⟨rfl, _, Eq.trans (World.drewN_drewN _ _ _) (congrArg (World.drewN _) (Nat.add_assoc _ _ _))⟩)) | (go_at_call 55; (with_reducible refine (span_one_1.calls a0_1 a1_0 t417 _ A6.out).mono ?_); rintro e w' ⟨rfl, ⟨nd, rfl⟩⟩; (try first | exact ⟨rfl, _, World.drewN_drewN _ _ _⟩ | exact ⟨rfl, _, Eq.trans (World.drewN_drewN _ _ _) (congrArg (World.drewN _) (Nat.add_assoc _ _ _))⟩)) | (go_at_call 55; (with_reducible refine (span_one_1.calls a0_1 a1_1 t418 _ A7.out).mono ?_); rintro e w' ⟨rfl, ⟨nd, rfl⟩⟩; (try first | exact ⟨rfl, _, World.drewN_drewN _ _ _⟩ | exact ⟨rfl, _, Eq.trans (World.drewN_drewN _ _ _) (congrArg (World.drewN _) (Nat.add_assoc _ _ _))⟩); have hcz22_0 : w16.cell? ⟨gb414, 0, none⟩ = some (.int .i64 0) := (bC BK414.out 0).trans rfl; have hcz22_1 : w16.cell? ⟨gb414, 1, none⟩ = some (.int .i64 0) := (bC BK414.out 1).trans rfl; have hfz22_0 := bZ BK414.out 0; have hfz22_1 := bZ BK414.out 1)); try go_wp2_with (first | ((with_reducible refine gate_dst (N := 3) rfl ?_); refine box_event ?hg (N := 3) ?hd (cs := #[.int .i64 a0_0, .int .i64 a0_1]) (t := 47) ?hr ?_; (case hd => rfl); (case hg => rfl); (case hr => first | (go_simp; done) | (go_simp; rfl)); intro gb412 hg w14 hbox hb; have n0_ := Aside0.mk (cT (by repeat (first | (with_reducible first | exact HB.out | apply cA | apply cN | apply cD) | exact HB.out)) hb); have n1_ := Aside0.mk (hbox); have n2_ := Aside0.mk ((by rw [hg]; exact (cZ (by repeat (first | (with_reducible first | exact HB.out | apply cA | apply cN | apply cD) | exact HB.out))) : w.heap.size ≤ gb412)); have n3_ := n2_; clear HB; have HB := n0_; have BK412 := n1_; have GW412 := n2_; have GE412 := n3_; clear n0_ n1_ n2_ n3_; clear hb hbox hg) | ((with_reducible refine gate_dst (N := 4) rfl ?_); refine box_event ?hg (N := 4) ?hd (cs := #[.int .i64 a1_0, .int .i64 a1_1]) (t := 47) ?hr ?_; (case hd => rfl); (case hg => rfl); (case hr => first | (go_simp; done) | (go_simp; rfl)); intro gb413 hg w15 hbox hb; have n0_ := Aside0.mk (bB (g := gb412) (o := .cells #[.int .i64 a0_0, .int .i64 a0_1] 47 (0, 0)) (by (with_reducible repeat (first | apply bN | apply bD | apply bA)); exact BK412.out) hb); have n1_ := Aside0.mk (cT (by repeat (first | (with_reducible first | exact HB.out | apply cA | apply cN | apply cD | refine cS ?_ GE412.out) | exact HB.out)) hb); have n2_ := Aside0.mk (hbox); have n3_ := Aside0.mk ((by rw [hg]; exact (cZ (by repeat (first | (with_reducible first | exact HB.out | apply cA | apply cN | apply cD | refine cS ?_ GE412.out) | exact HB.out))) : w.heap.size ≤ gb413)); have n4_ := n3_; have n5_ := Aside0.mk ((by rw [hg]; exact Nat.ne_of_lt (blk_lt (g := gb412) (o := .cells #[.int .i64 a0_0, .int .i64 a0_1] 47 (0, 0)) (by (with_reducible repeat (first | apply bN | apply bD | apply bA)); exact BK412.out)) : gb412 ≠ gb413)); have n6_ := Aside0.mk ((by rw [hg]; exact Nat.ne_of_gt (blk_lt (g := gb412) (o := .cells #[.int .i64 a0_0, .int .i64 a0_1] 47 (0, 0)) (by (with_reducible repeat (first | apply bN | apply bD | apply bA)); exact BK412.out)) : gb413 ≠ gb412)); clear BK412; clear HB; have BK412 := n0_; have HB := n1_; have BK413 := n2_; have GW413 := n3_; have GE413 := n4_; have NB412_413 := n5_; have NB413_412 := n6_; clear n0_ n1_ n2_ n3_ n4_ n5_ n6_; clear hb hbox hg) | ((with_reducible refine gate_dst (N := 6) rfl ?_); refine box_event ?hg (N := 6) ?hd (cs := #[.int .i64 0, .int .i64 0]) (t := 47) ?hr ?_; (case hd => rfl); (case hg => rfl); (case hr => first | (go_simp; done) | (go_simp; rfl)); intro gb414 hg w16 hbox hb; have n0_ := Aside0.mk (bB (g := gb412) (o := .cells #[.int .i64 a0_0, .int .i64 a0_1] 47 (0, 0)) (by (with_reducible repeat (first | apply bN | apply bD | apply bA)); exact BK412.out) hb); have n1_ := Aside0.mk (bB (g := gb413) (o := .cells #[.int .i64 a1_0, .int .i64 a1_1] 47 (0, 0)) (by (with_reducible repeat (first | apply bN | apply bD | apply bA)); exact BK413.out) hb); have n2_ := Aside0.mk (cT (by repeat (first | (with_reducible first | exact HB.out | apply cA | apply cN | apply cD | refine cS ?_ GE412.out | refine cS ?_ GE413.out) | exact HB.out)) hb); have n3_ := Aside0.mk (hbox); have n4_ := Aside0.mk ((by rw [hg]; exact (cZ (by repeat (first | (with_reducible first | exact HB.out | apply cA | apply cN | apply cD | refine cS ?_ GE412.out | refine cS ?_ GE413.out) | exact HB.out))) : w.heap.size ≤ gb414)); have n5_ := n4_; have n6_ := Aside0.mk ((by rw [hg]; exact Nat.ne_of_lt (blk_lt (g := gb412) (o := .cells #[.int .i64 a0_0, .int .i64 a0_1] 47 (0, 0)) (by (with_reducible repeat (first | apply bN | apply bD | apply bA)); exact BK412.out)) : gb412 ≠ gb414)); have n7_ := Aside0.mk ((by rw [hg]; exact Nat.ne_of_gt (blk_lt (g := gb412) (o := .cells #[.int .i64 a0_0, .int .i64 a0_1] 47 (0, 0)) (by (with_reducible repeat (first | apply bN | apply bD | apply bA)); exact BK412.out)) : gb414 ≠ gb412)); have n8_ := Aside0.mk ((by rw [hg]; exact Nat.ne_of_lt (blk_lt (g := gb413) (o := .cells #[.int .i64 a1_0, .int .i64 a1_1] 47 (0, 0)) (by (with_reducible repeat (first | apply bN | apply bD | apply bA)); exact BK413.out)) : gb413 ≠ gb414)); have n9_ := Aside0.mk ((by rw [hg]; exact Nat.ne_of_gt (blk_lt (g := gb413) (o := .cells #[.int .i64 a1_0, .int .i64 a1_1] 47 (0, 0)) (by (with_reducible repeat (first | apply bN | apply bD | apply bA)); exact BK413.out)) : gb414 ≠ gb413)); clear BK412; clear BK413; clear HB; have BK412 := n0_; have BK413 := n1_; have HB := n2_; have BK414 := n3_; have GW414 := n4_; have GE414 := n5_; have NB412_414 := n6_; have NB414_412 := n7_; have NB413_414 := n8_; have NB414_413 := n9_; clear n0_ n1_ n2_ n3_ n4_ n5_ n6_ n7_ n8_ n9_; clear hb hbox hg; have hnb17 := NB412_413.out; have hnc17 := NB413_412.out; have hnb18 := NB412_414.out; have hnc18 := NB414_412.out; have hcz19_0 : w16.cell? ⟨gb412, 0, none⟩ = some (.int .i64 a0_0) := (bC BK412.out 0).trans rfl; have hcz19_1 : w16.cell? ⟨gb412, 1, none⟩ = some (.int .i64 a0_1) := (bC BK412.out 1).trans rfl; have hfz19_0 := bZ BK412.out 0; have hfz19_1 := bZ BK412.out 1; have hnb20 := NB413_414.out; have hnc20 := NB414_413.out; have hcz21_0 : w16.cell? ⟨gb413, 0, none⟩ = some (.int .i64 a1_0) := (bC BK413.out 0).trans rfl; have hcz21_1 : w16.cell? ⟨gb413, 1, none⟩ = some (.int .i64 a1_1) := (bC BK413.out 1).trans rfl; have hfz21_0 := bZ BK413.out 0; have hfz21_1 := bZ BK413.out 1) | (go_at_call 55; (with_reducible refine (span_one_1.calls a0_0 a1_0 t415 _ A4.out).mono ?_); rintro e w' ⟨rfl, ⟨nd, rfl⟩⟩; (try first | exact ⟨rfl, _, World.drewN_drewN _ _ _⟩ | exact ⟨rfl, _, Eq.trans (World.drewN_drewN _ _ _) (congrArg (World.drewN _) (Nat.add_assoc _ _ _))⟩)) | (go_at_call 55; (with_reducible refine (span_one_1.calls a0_0 a1_1 t416 _ A5.out).mono ?_); rintro e w' ⟨rfl, ⟨nd, rfl⟩⟩; (try first | exact ⟨rfl, _, World.drewN_drewN _ _ _⟩ | exact ⟨rfl, _, Eq.trans (World.drewN_drewN _ _ _) (congrArg (World.drewN _) (Nat.add_assoc _ _ _))⟩)) | (go_at_call 55; (with_reducible refine (span_one_1.calls a0_1 a1_0 t417 _ A6.out).mono ?_); rintro e w' ⟨rfl, ⟨nd, rfl⟩⟩; (try first | exact ⟨rfl, _, World.drewN_drewN _ _ _⟩ | exact ⟨rfl, _, Eq.trans (World.drewN_drewN _ _ _) (congrArg (World.drewN _) (Nat.add_assoc _ _ _))⟩)) | (go_at_call 55; (with_reducible refine (span_one_1.calls a0_1 a1_1 t418 _ A7.out).mono ?_); rintro e w' ⟨rfl, ⟨nd, rfl⟩⟩; (try first | exact ⟨rfl, _, World.drewN_drewN _ _ _⟩ | exact ⟨rfl, _, Eq.trans (World.drewN_drewN _ _ _) (congrArg (World.drewN _) (Nat.add_assoc _ _ _))⟩); have hcz22_0 : w16.cell? ⟨gb414, 0, none⟩ = some (.int .i64 0) := (bC BK414.out 0).trans rfl; have hcz22_1 : w16.cell? ⟨gb414, 1, none⟩ = some (.int .i64 0) := (bC BK414.out 1).trans rfl; have hfz22_0 := bZ BK414.out 0; have hfz22_1 := bZ BK414.out 1)))
  refine bodyPost_ret (results_cell_row rfl _ _ gb414 47 #[.int .i64 ji10, .int .i64 ji13] (0, 0) _ rfl (by (with_reducible repeat (first | apply bN | apply bD | apply bA)); refine bP (cs := #[.int .i64 ji10, .int .i64 0]) ?_ 1 _ rfl; (with_reducible repeat (first | apply bN | apply bD | apply bA)); refine bP (cs := #[.int .i64 0, .int .i64 0]) ?_ 0 _ rfl; (with_reducible repeat (first | apply bN | apply bD | apply bA)); exact BK414.out) Try.underlying47 rfl (by kernel_rfl)) rfl ?_
  exact ⟨by first | rfl | (simp [errW_none, errW_some] <;> rfl) | (simp only [← hji8, ← hji9, ← hji10, ← hji11, ← hji12, ← hji13]; first | rfl | (simp [errW_none, errW_some] <;> rfl)) | (simp [*, errW_none, errW_some] <;> rfl), by repeat (first | (with_reducible first | exact HB.out | apply cA | apply cN | apply cD | refine cS ?_ GE412.out | refine cS ?_ GE413.out | refine cS ?_ GE414.out) | exact HB.out)⟩

end Go.Proofs.Ytpnldhimlpilhaa.F
