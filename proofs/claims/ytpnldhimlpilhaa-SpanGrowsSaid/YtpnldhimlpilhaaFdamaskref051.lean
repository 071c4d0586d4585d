/- Written by wip/myprint.py of this session, out of Lean's print of the program: what Go functions come to, and that their calls come to it; no condition. -/
import Derived.Test.YtpnldhimlpilhaaF0
import Derived.Test.YtpnldhimlpilhaaFdamaskref041
namespace Go.Proofs.Ytpnldhimlpilhaa.F
open Go.RowKit Go.Proofs.YtpnldhimlpilhaaW.PrintWords Go.Proofs.YtpnldhimlpilhaaW.PrintLast Go.Proofs.YtpnldhimlpilhaaW.PrintMore Go.Proofs.YtpnldhimlpilhaaW
attribute [local go_sem] max2_int min2_int max_two min_two max_three min_three max_four min_four   -- for this text's walks alone
set_option linter.unusedVariables false
set_option linter.unusedSimpArgs false

/-! ### damaskref05_Whole: function 31 -/
def damaskref05_Whole.f (a0_0 : Int) (a0_1 : Int) : Option (Bool) := if a0_0 ≤ a0_1 then ((damaskref04_Word.f a0_0).bind fun t520 => (if t520 = true then ((damaskref04_Word.f a0_1).bind fun t521 => (some t521)) else (some false))) else (some false)
set_option maxHeartbeats 8000000 in
set_option maxRecDepth 100000 in
theorem damaskref05_Whole.calls (a0_0 : Int) (a0_1 : Int) (r : Bool) (w : World) (h : damaskref05_Whole.f a0_0 a0_1 = some r) :
    Calls Try.prog 31 #[.agg #[.int .i64 a0_0, .int .i64 a0_1]] w fun e w' => e = .returned (.bool r) ∧ Below w.heap.size w w' := by
  have hu47 := Try.underlying47
  have HB := Aside0.mk (Below.refl w.heap.size w)
  have H : (if a0_0 ≤ a0_1 then ((damaskref04_Word.f a0_0).bind fun t520 => (if t520 = true then ((damaskref04_Word.f a0_1).bind fun t521 => (some t521)) else (some false))) else (some false)) = some r := h
  clear h
  have HF2 := Aside0.mk H
  clear H
  go_enter Try.func31, Try.ntmps31
  go_upto_region 1 with (first | ((with_reducible refine gate_dst (N := 1) rfl ?_); refine box_event ?hg (N := 1) ?hd (cs := #[.int .i64 a0_0, .int .i64 a0_1]) (t := 47) ?hr ?_; (case hd => rfl); (case hg => rfl); (case hr => first | (go_simp; done) | (go_simp; rfl)); intro gb519 hg w3 hbox hb; have n0_ := Aside0.mk (cT (by repeat (first | (with_reducible first | exact HB.out | apply cA | apply cN | apply cD) | exact HB.out)) hb); have n1_ := Aside0.mk (hbox); have n2_ := Aside0.mk ((by rw [hg]; exact (cZ (by repeat (first | (with_reducible first | exact HB.out | apply cA | apply cN | apply cD) | exact HB.out))) : w.heap.size ≤ gb519)); have n3_ := n2_; clear HB; have HB := n0_; have BK519 := n1_; have GW519 := n2_; have GE519 := n3_; clear n0_ n1_ n2_ n3_; clear hb hbox hg))
  (try simp only [Act.put, List.setIfInBounds_toArray, List.set_cons_zero, List.set_cons_succ])
  have H := HF2.out
  clear HF2
  by_cases c4 : a0_0 ≤ a0_1
  · rw [if_pos c4] at H
    have c4b0 : decide (a0_0 ≤ a0_1) = true := decide_eq_true c4
    clear c4
    (first | rw [c4b0] | (simp only [i64_w, i32_w]; rw [c4b0]) | skip)
    replace H := Option.bind_eq_some_iff.mp H
    obtain ⟨t520, A50, H⟩ := H
    replace H : (if t520 = true then ((damaskref04_Word.f a0_1).bind fun t521 => (some t521)) else (some false)) = some r := H
    have A5 := Aside0.mk A50
    clear A50
    by_cases c6 : t520 = true
    · subst c6
      have H1 : ((damaskref04_Word.f a0_1).bind fun t521 => (some t521)) = some r := by rw [if_pos rfl] at H; exact H
      clear H
      have H := H1
      clear H1
      replace H := Option.bind_eq_some_iff.mp H
      obtain ⟨t521, A70, H⟩ := H
      replace H : (some t521) = some r := H
      have A7 := Aside0.mk A70
      clear A70
      obtain rfl := Option.some.inj H
      have hcz8_0 : w3.cell? ⟨gb519, 0, none⟩ = some (.int .i64 a0_0) := (bC BK519.out 0).trans rfl
      have hcz8_1 : w3.cell? ⟨gb519, 1, none⟩ = some (.int .i64 a0_1) := (bC BK519.out 1).trans rfl
      have hfz8_0 := bZ BK519.out 0
      have hfz8_1 := bZ BK519.out 1
      go_wp2_with (first | (go_at_call 22; (with_reducible refine (damaskref04_Word.calls a0_0 true _ A5.out).mono ?_); rintro e w' ⟨rfl, ⟨nd, rfl⟩⟩) | (go_at_call 22; (with_reducible refine (damaskref04_Word.calls a0_1 t521 _ A7.out).mono ?_); rintro e w' ⟨rfl, ⟨nd, rfl⟩⟩))
      go_ret
      exact ⟨by first | rfl | (simp [errW_none, errW_some] <;> rfl) | (simp [*, errW_none, errW_some] <;> rfl), by repeat (first | (with_reducible first | exact HB.out | apply cA | apply cN | apply cD | refine cS ?_ GE519.out) | exact HB.out)⟩
    replace c6 := Bool.eq_false_iff.mpr c6
    subst c6
    have H1 : (some false) = some r := by rw [if_neg (show ¬ (false = true) by decide)] at H; exact H
    clear H
    have H := H1
    clear H1
    obtain rfl := Option.some.inj H
    have hcz9_0 : w3.cell? ⟨gb519, 0, none⟩ = some (.int .i64 a0_0) := (bC BK519.out 0).trans rfl
    have hcz9_1 : w3.cell? ⟨gb519, 1, none⟩ = some (.int .i64 a0_1) := (bC BK519.out 1).trans rfl
    have hfz9_0 := bZ BK519.out 0
    have hfz9_1 := bZ BK519.out 1
    go_wp2_with (first | (go_at_call 22; (with_reducible refine (damaskref04_Word.calls a0_0 false _ A5.out).mono ?_); rintro e w' ⟨rfl, ⟨nd, rfl⟩⟩))
    go_ret
    exact ⟨by first | rfl | (simp [errW_none, errW_some] <;> rfl) | (simp [*, errW_none, errW_some] <;> rfl), by repeat (first | (with_reducible first | exact HB.out | apply cA | apply cN | apply cD | refine cS ?_ GE519.out) | exact HB.out)⟩
  rw [if_neg c4] at H
  have c4b0 : decide (a0_0 ≤ a0_1) = false := decide_eq_false c4
  clear c4
  (first | rw [c4b0] | (simp only [i64_w, i32_w]; rw [c4b0]) | skip)
  obtain rfl := Option.some.inj H
  have hcz10_0 : w3.cell? ⟨gb519, 0, none⟩ = some (.int .i64 a0_0) := (bC BK519.out 0).trans rfl
  have hcz10_1 : w3.cell? ⟨gb519, 1, none⟩ = some (.int .i64 a0_1) := (bC BK519.out 1).trans rfl
  have hfz10_0 := bZ BK519.out 0
  have hfz10_1 := bZ BK519.out 1
  go_wp2
  go_ret
  exact ⟨by first | rfl | (simp [errW_none, errW_some] <;> rfl) | (simp [*, errW_none, errW_some] <;> rfl), by repeat (first | (with_reducible first | exact HB.out | apply cA | apply cN | apply cD | refine cS ?_ GE519.out) | exact HB.out)⟩

/-! ### damaskref05_Has: function 33 -/
def damaskref05_Has.f (a0_0 : Int) (a0_1 : Int) (a1 : Int) : Option (Bool) := if a1 < a0_0 then (some (!true)) else (some (!(decide (a0_1 < a1))))
set_option maxHeartbeats 8000000 in
set_option maxRecDepth 100000 in
theorem damaskref05_Has.calls (a0_0 : Int) (a0_1 : Int) (a1 : Int) (r : Bool) (w : World) (h : damaskref05_Has.f a0_0 a0_1 a1 = some r) :
    Calls Try.prog 33 #[.agg #[.int .i64 a0_0, .int .i64 a0_1], .int .i64 a1] w fun e w' => e = .returned (.bool r) ∧ Below w.heap.size w w' := by
  have hu47 := Try.underlying47
  have HB := Aside0.mk (Below.refl w.heap.size w)
  have H : (if a1 < a0_0 then (some (!true)) else (some (!(decide (a0_1 < a1))))) = some r := h
  clear h
  have HF3 := Aside0.mk H
  clear H
  go_enter Try.func33, Try.ntmps33
  go_upto_region 1 with (first | ((with_reducible refine gate_dst (N := 2) rfl ?_); refine box_event ?hg (N := 2) ?hd (cs := #[.int .i64 a0_0, .int .i64 a0_1]) (t := 47) ?hr ?_; (case hd => rfl); (case hg => rfl); (case hr => first | (go_simp; done) | (go_simp; rfl)); intro gb522 hg w4 hbox hb; have n0_ := Aside0.mk (cT (by repeat (first | (with_reducible first | exact HB.out | apply cA | apply cN | apply cD) | exact HB.out)) hb); have n1_ := Aside0.mk (hbox); have n2_ := Aside0.mk ((by rw [hg]; exact (cZ (by repeat (first | (with_reducible first | exact HB.out | apply cA | apply cN | apply cD) | exact HB.out))) : w.heap.size ≤ gb522)); have n3_ := n2_; clear HB; have HB := n0_; have BK522 := n1_; have GW522 := n2_; have GE522 := n3_; clear n0_ n1_ n2_ n3_; clear hb hbox hg))
  (try simp only [Act.put, List.setIfInBounds_toArray, List.set_cons_zero, List.set_cons_succ])
  have H := HF3.out
  clear HF3
  by_cases c5 : a1 < a0_0
  · rw [if_pos c5] at H
    have c5b0 : decide (a1 < a0_0) = true := decide_eq_true c5
    clear c5
    (first | rw [c5b0] | (simp only [i64_w, i32_w]; rw [c5b0]) | skip)
    obtain rfl := Option.some.inj H
    have hcz6_0 : w4.cell? ⟨gb522, 0, none⟩ = some (.int .i64 a0_0) := (bC BK522.out 0).trans rfl
    have hcz6_1 : w4.cell? ⟨gb522, 1, none⟩ = some (.int .i64 a0_1) := (bC BK522.out 1).trans rfl
    have hfz6_0 := bZ BK522.out 0
    have hfz6_1 := bZ BK522.out 1
    go_wp2
    go_ret
    exact ⟨by first | rfl | (simp [errW_none, errW_some] <;> rfl) | (simp [*, errW_none, errW_some] <;> rfl), by repeat (first | (with_reducible first | exact HB.out | apply cA | apply cN | apply cD | refine cS ?_ GE522.out) | exact HB.out)⟩
  rw [if_neg c5] at H
  have c5b0 : decide (a1 < a0_0) = false := decide_eq_false c5
  clear c5
  (first | rw [c5b0] | (simp only [i64_w, i32_w]; rw [c5b0]) | skip)
  obtain rfl := Option.some.inj H
  have hcz7_0 : w4.cell? ⟨gb522, 0, none⟩ = some (.int .i64 a0_0) := (bC BK522.out 0).trans rfl
  have hcz7_1 : w4.cell? ⟨gb522, 1, none⟩ = some (.int .i64 a0_1) := (bC BK522.out 1).trans rfl
  have hfz7_0 := bZ BK522.out 0
  have hfz7_1 := bZ BK522.out 1
  go_wp2
  go_ret
  exact ⟨by first | rfl | (simp [errW_none, errW_some] <;> rfl) | (simp [*, errW_none, errW_some] <;> rfl), by repeat (first | (with_reducible first | exact HB.out | apply cA | apply cN | apply cD | refine cS ?_ GE522.out) | exact HB.out)⟩

end Go.Proofs.Ytpnldhimlpilhaa.F
