/- What the printed functions of layers 3 and 23 come to: kinds, shapes, places. -/
import Derived.Test.YtggfgbhodkfllaaSh
import Derived.Test.YtggfgbhodkfllaaFkind1
import Derived.Test.YtggfgbhodkfllaaFsignal1
import Derived.Test.YtggfgbhodkfllaaFsignal2
import Derived.Test.YtggfgbhodkfllaaFdamaskref031
import Derived.Test.YtggfgbhodkfllaaFdamaskref231
import Derived.Test.YtggfgbhodkfllaaFdamaskref232
namespace Go.Proofs.Ytggfgbhodkfllaa.Pure
open Go.RowKit Go.Proofs.Ytggfgbhodkfllaa.F Go.Proofs.YtggfgbhodkfllaaW.PrintWords Go.Proofs.YtggfgbhodkfllaaW.PrintLast Go.Proofs.YtggfgbhodkfllaaW.PrintMore

theorem check_code (f d : Int) : kind_Check.f f d = some (if Dk.may f d = true then 0 else 1) := by
  unfold kind_Check.f
  simp only [Dk.may_iff]
  repeat' split
  all_goals first | rfl | (exfalso; omega)
theorem may_code (f d : Int) : damaskref03_May.f f d = some (Dk.may f d) := by
  unfold damaskref03_May.f Dk.may
  repeat' split
  all_goals (congr 1; rw [Bool.eq_iff_iff]; simp; try omega)
theorem prod_wrap (p w h : Int) (h1 : 1 ≤ p ∧ p ≤ 4) (h2 : 1 ≤ w ∧ w ≤ 1048576) (h3 : 1 ≤ h ∧ h ≤ 4096) : wrap64 (wrap64 (p * w) * h) = p * w * h := by
  have a1 := Dk.mul_bound (a := p) (b := w) (A := 4) (B := 1048576) (by omega) (by omega) (by omega) (by omega)
  have a2 := Dk.mul_bound (a := p * w) (b := h) (A := 4194304) (B := 4096) (by omega) (by omega) (by omega) (by omega)
  rw [Dk.wrap64_of (p * w) (by omega), Dk.wrap64_of _ (by omega)]
theorem shape_code (k : Nat) (f d p w h : Int) : signal_Shape.f (k + 2) f d p w h = some (Dk.shape f d p w h) := by
  have e1 : ∀ b, signal_Shape.j1 (k + 1) p w h b = if b = true then some (0, 17) else if wrap64 (wrap64 (p * w) * h) ≤ 1048576 then some (wrap64 (wrap64 (p * w) * h), 0) else some (0, 17) := fun b => rfl
  have e0 : ∀ x y, signal_Shape.j0 (k + 2) p w h x y f d = (kind_Check.f f d).bind fun t => if t = 0 then (if p < 1 then signal_Shape.j1 (k + 1) p w h true else if p > 4 then signal_Shape.j1 (k + 1) p w h true else if w < 1 then signal_Shape.j1 (k + 1) p w h true else if w > x then signal_Shape.j1 (k + 1) p w h true else if h < 1 then signal_Shape.j1 (k + 1) p w h true else signal_Shape.j1 (k + 1) p w h (decide (h > y))) else signal_Shape.j1 (k + 1) p w h true := fun x y => rfl
  unfold signal_Shape.f Dk.shape
  rw [e0, e0, check_code]
  simp only [Option.bind_some, e1, if_true, decide_eq_true_iff]
  have no : ¬ Dk.shapeOk f d p w h → ∀ t : Int × Int, (if Dk.shapeOk f d p w h then t else (0, 17)) = (0, 17) := fun hn t => if_neg hn
  by_cases hm : Dk.may f d = true
  · rw [if_pos hm]
    simp only [if_true]
    have hf := ((Dk.may_iff f d).mp hm).1
    by_cases hb : 1 ≤ p ∧ p ≤ 4 ∧ 1 ≤ w ∧ 1 ≤ h ∧ (f = 0 → w ≤ 4096 ∧ h ≤ 4096) ∧ (f = 1 → w ≤ 1048576 ∧ h ≤ 1)
    · obtain ⟨b1, b2, b3, b4, b5, b6⟩ := hb
      have hw : w ≤ 1048576 := by
        rcases hf with g | g
        · have := b5 g; omega
        · have := b6 g; omega
      have hh : h ≤ 4096 := by
        rcases hf with g | g
        · have := b5 g; omega
        · have := b6 g; omega
      rw [prod_wrap p w h ⟨b1, b2⟩ ⟨b3, hw⟩ ⟨b4, hh⟩]
      have e2 : (if p * w * h ≤ 1048576 then some (p * w * h, 0) else some ((0 : Int), (17 : Int))) = some (if Dk.shapeOk f d p w h then (p * w * h, 0) else (0, 17)) := by
        by_cases hp : p * w * h ≤ 1048576
        · rw [if_pos hp, if_pos ⟨hm, b1, b2, b3, b4, b5, b6, hp⟩]
        · rw [if_neg hp, if_neg (fun s => hp s.2.2.2.2.2.2.2)]
      rw [← e2]
      by_cases h1 : f = 1
      · have := b6 h1
        rw [if_pos h1, if_neg (by omega), if_neg (by omega), if_neg (by omega), if_neg (by omega), if_neg (by omega), if_neg (by omega)]
      · have := b5 (by omega)
        rw [if_neg h1, if_neg (by omega), if_neg (by omega), if_neg (by omega), if_neg (by omega), if_neg (by omega), if_neg (by omega)]
    · rw [if_neg (show ¬ Dk.shapeOk f d p w h from fun s => hb ⟨s.2.1, s.2.2.1, s.2.2.2.1, s.2.2.2.2.1, s.2.2.2.2.2.1, s.2.2.2.2.2.2.1⟩)]
      repeat' split
      all_goals first | rfl | (exfalso; omega)
  · rw [if_neg hm, if_neg (show ¬ Dk.shapeOk f d p w h from fun s => hm s.1)]
    simp
theorem ref_shape_code (k : Nat) (f d p w h : Int) : damaskref23_Shape.f (k + 2) f d p w h = some (Dk.shape f d p w h) := by
  have e1 : ∀ b, damaskref23_Shape.j1 (k + 1) p w h b = if b = true then some (0, 17) else if wrap64 (wrap64 (p * w) * h) > 1048576 then some (0, 17) else some (wrap64 (wrap64 (p * w) * h), 0) := fun b => rfl
  have e0 : ∀ b, damaskref23_Shape.j0 (k + 2) p w h b f d = if b = true then some (0, 17) else (if f = 0 then (if w > 4096 then damaskref23_Shape.j1 (k + 1) p w h true else if h > 4096 then damaskref23_Shape.j1 (k + 1) p w h true else if f = 1 then (if w > 1048576 then damaskref23_Shape.j1 (k + 1) p w h true else damaskref23_Shape.j1 (k + 1) p w h (decide (h > 1))) else damaskref23_Shape.j1 (k + 1) p w h false) else if f = 1 then (if w > 1048576 then damaskref23_Shape.j1 (k + 1) p w h true else damaskref23_Shape.j1 (k + 1) p w h (decide (h > 1))) else damaskref23_Shape.j1 (k + 1) p w h false) := fun b => rfl
  unfold damaskref23_Shape.f Dk.shape
  rw [may_code]
  simp only [Option.bind_some, e0, e1, if_true, decide_eq_true_iff]
  by_cases hm : Dk.may f d = true
  · rw [if_pos hm]
    have hf := ((Dk.may_iff f d).mp hm).1
    by_cases hb : 1 ≤ p ∧ p ≤ 4 ∧ 1 ≤ w ∧ 1 ≤ h ∧ (f = 0 → w ≤ 4096 ∧ h ≤ 4096) ∧ (f = 1 → w ≤ 1048576 ∧ h ≤ 1)
    · obtain ⟨b1, b2, b3, b4, b5, b6⟩ := hb
      have hw : w ≤ 1048576 := by
        rcases hf with g | g
        · have := b5 g; omega
        · have := b6 g; omega
      have hh : h ≤ 4096 := by
        rcases hf with g | g
        · have := b5 g; omega
        · have := b6 g; omega
      rw [prod_wrap p w h ⟨b1, b2⟩ ⟨b3, hw⟩ ⟨b4, hh⟩]
      have e2 : (if p * w * h > 1048576 then some ((0 : Int), (17 : Int)) else some (p * w * h, 0)) = some (if Dk.shapeOk f d p w h then (p * w * h, 0) else (0, 17)) := by
        by_cases hp : p * w * h ≤ 1048576
        · rw [if_neg (by omega), if_pos ⟨hm, b1, b2, b3, b4, b5, b6, hp⟩]
        · rw [if_pos (by omega), if_neg (fun s => hp s.2.2.2.2.2.2.2)]
      rw [← e2]
      by_cases h1 : f = 1
      · have := b6 h1
        rw [if_neg (by omega), if_neg (by omega), if_neg (by omega), if_neg (by omega), if_neg (by omega), if_pos h1, if_neg (by omega), if_neg (by omega)]
      · have := b5 (by omega)
        rw [if_neg (by omega), if_neg (by omega), if_neg (by omega), if_neg (by omega), if_pos (by omega), if_neg (by omega), if_neg (by omega), if_neg h1]
        simp
    · rw [if_neg (show ¬ Dk.shapeOk f d p w h from fun s => hb ⟨s.2.1, s.2.2.1, s.2.2.2.1, s.2.2.2.2.1, s.2.2.2.2.2.1, s.2.2.2.2.2.2.1⟩)]
      simp only [Bool.false_eq_true, if_false]
      by_cases g1 : p < 1
      · rw [if_pos g1]
      by_cases g2 : p > 4
      · rw [if_neg g1, if_pos g2]
      by_cases g3 : w < 1
      · rw [if_neg g1, if_neg g2, if_pos g3]
      by_cases g4 : h < 1
      · rw [if_neg g1, if_neg g2, if_neg g3, if_pos g4]
      rw [if_neg g1, if_neg g2, if_neg g3, if_neg g4]
      repeat' split
      all_goals first | rfl | (exfalso; omega)
  · rw [if_neg hm, if_neg (show ¬ Dk.shapeOk f d p w h from fun s => hm s.1)]
/-- where a place lies, and whether there is one -/
def whereS (f d p w h i : Int) : Int × Int × Int × Bool := if Dk.shapeOk f d p w h ∧ 0 ≤ i ∧ i < p * w * h then ((Dk.whereIs f p w h i).1, (Dk.whereIs f p w h i).2.1, (Dk.whereIs f p w h i).2.2, true) else (0, 0, 0, false)
def indexS (f d p w h c x y : Int) : Int × Bool := if Dk.shapeOk f d p w h ∧ (0 ≤ c ∧ c < p) ∧ (0 ≤ x ∧ x < w) ∧ (0 ≤ y ∧ y < h) then (Dk.indexOf f p w h c x y, true) else (0, false)
theorem where_code (k : Nat) (f d p w h : Int) (l : List Int) (i : Int) : signal_Where.f (k + 2) f d p w h l i = some (whereS f d p w h i) := by
  have e0 : ∀ b, signal_Where.j0 (k + 2) i b f d p w h l = if b = true then some (0, 0, 0, false) else if f = 1 then (if p = 0 then none else some (Int.tmod i p, wrap64 (Int.tdiv i p), 0, true)) else if w = 0 then none else if h = 0 then none else some (wrap64 (Int.tdiv (wrap64 (Int.tdiv i w)) h), Int.tmod i w, Int.tmod (wrap64 (Int.tdiv i w)) h, true) := fun b => rfl
  unfold signal_Where.f whereS
  rw [shape_code]
  simp only [Option.bind_some, e0, if_true, decide_eq_true_iff]
  by_cases hs : Dk.shapeOk f d p w h
  · have b := Dk.shape_bound hs
    unfold Dk.shape
    rw [if_pos hs]
    simp only [if_true]
    by_cases h0 : i < 0
    · rw [if_pos h0, if_neg (by omega)]
    · rw [if_neg h0]
      by_cases h1 : i ≥ p * w * h
      · rw [if_pos h1, if_neg (by omega)]
      · have q1 := Int.ediv_nonneg (a := i) (b := w) (by omega) (by omega)
        have q2 := Int.ediv_le_self (a := i) w (by omega)
        have q3 := Int.ediv_nonneg (a := i / w) (b := h) (by omega) (by omega)
        have q4 := Int.ediv_le_self (a := i / w) h (by omega)
        have q5 := Int.ediv_nonneg (a := i) (b := p) (by omega) (by omega)
        have q6 := Int.ediv_le_self (a := i) p (by omega)
        rw [if_neg h1, if_pos (show Dk.shapeOk f d p w h ∧ 0 ≤ i ∧ i < p * w * h from ⟨hs, by omega, by omega⟩)]
        unfold Dk.whereIs
        by_cases hf : f = 1
        · rw [if_pos hf, if_pos hf, if_neg (by omega), Int.tdiv_eq_ediv_of_nonneg (by omega), Int.tmod_eq_emod_of_nonneg (by omega), Dk.wrap64_of (i / p) (by omega)]
        · rw [if_neg hf, if_neg hf, if_neg (by omega), if_neg (by omega), Int.tdiv_eq_ediv_of_nonneg (show 0 ≤ i by omega), Dk.wrap64_of (i / w) (by omega), Int.tdiv_eq_ediv_of_nonneg q1, Int.tmod_eq_emod_of_nonneg (show 0 ≤ i by omega), Int.tmod_eq_emod_of_nonneg q1, Dk.wrap64_of (i / w / h) (by omega)]
  · unfold Dk.shape
    rw [if_neg hs, if_neg (show ¬ (Dk.shapeOk f d p w h ∧ _) from fun z => hs z.1)]
    simp
theorem ref_where_code (k : Nat) (f d p w h : Int) (l : List Int) (i : Int) : damaskref23_Where.f (k + 2) f d p w h l i = some (whereS f d p w h i) := by
  have e0 : ∀ b, damaskref23_Where.j0 (k + 2) i b f d p w h l = if b = true then some (0, 0, 0, false) else if f = 1 then (if p = 0 then none else some (wrap64 (i - wrap64 (wrap64 (Int.tdiv i p) * p)), wrap64 (Int.tdiv i p), 0, true)) else if wrap64 (w * h) = 0 then none else if w = 0 then none else some (wrap64 (Int.tdiv i (wrap64 (w * h))), wrap64 (wrap64 (i - wrap64 (wrap64 (Int.tdiv i (wrap64 (w * h))) * wrap64 (w * h))) - wrap64 (wrap64 (Int.tdiv (wrap64 (i - wrap64 (wrap64 (Int.tdiv i (wrap64 (w * h))) * wrap64 (w * h)))) w) * w)), wrap64 (Int.tdiv (wrap64 (i - wrap64 (wrap64 (Int.tdiv i (wrap64 (w * h))) * wrap64 (w * h)))) w), true) := fun b => rfl
  unfold damaskref23_Where.f whereS
  rw [ref_shape_code]
  simp only [Option.bind_some, e0, if_true, decide_eq_true_iff]
  by_cases hs : Dk.shapeOk f d p w h
  · have b := Dk.shape_bound hs
    unfold Dk.shape
    rw [if_pos hs]
    simp only [if_true]
    by_cases h0 : i < 0
    · rw [if_pos h0, if_neg (by omega)]
    · rw [if_neg h0]
      by_cases h1 : i ≥ p * w * h
      · rw [if_pos h1, if_neg (by omega)]
      · rw [if_neg h1, if_pos (show Dk.shapeOk f d p w h ∧ 0 ≤ i ∧ i < p * w * h from ⟨hs, by omega, by omega⟩)]
        unfold Dk.whereIs
        by_cases hf : f = 1
        · have q5 := Int.ediv_nonneg (a := i) (b := p) (by omega) (by omega)
          have q6 := Int.ediv_le_self (a := i) p (by omega)
          have q7 := Int.ediv_mul_add_emod i p
          have q8 := Int.emod_nonneg i (b := p) (by omega)
          have q9 := Int.emod_lt_of_pos i (b := p) (by omega)
          rw [if_pos hf, if_pos hf, if_neg (by omega), Int.tdiv_eq_ediv_of_nonneg (by omega), Dk.wrap64_of (i / p) (by omega), Dk.wrap64_of (i / p * p) (by omega), Dk.wrap64_of (i - i / p * p) (by omega), show i - i / p * p = i % p by omega]
        · have a1 := Dk.mul_bound (a := w) (b := h) (A := 1048576) (B := 4096) (by omega) (by omega) (by omega) (by omega)
          have a2 : 1 * 1 ≤ w * h := Int.mul_le_mul (by omega) (by omega) (by omega) (by omega)
          obtain ⟨r1, r2, r3⟩ := Dk.where_rest w h i (by omega) (by omega) (by omega)
          have q1 := Int.ediv_nonneg (a := i) (b := w * h) (by omega) (by omega)
          have q2 := Int.ediv_le_self (a := i) (w * h) (by omega)
          have q3 := Int.ediv_mul_add_emod i (w * h)
          have q4 := Int.emod_nonneg i (b := w * h) (by omega)
          have q5 := Int.emod_lt_of_pos i (b := w * h) (by omega)
          have q6 := Int.emod_nonneg (i / w) (b := h) (by omega)
          have q7 := Int.emod_lt_of_pos (i / w) (b := h) (by omega)
          have q8 := Int.emod_nonneg i (b := w) (by omega)
          have q9 := Int.emod_lt_of_pos i (b := w) (by omega)
          rw [if_neg hf, if_neg hf, Dk.wrap64_of (w * h) (by omega), if_neg (by omega), if_neg (by omega), Int.tdiv_eq_ediv_of_nonneg (show 0 ≤ i by omega), Dk.wrap64_of (i / (w * h)) (by omega), Dk.wrap64_of (i / (w * h) * (w * h)) (by omega), Dk.wrap64_of (i - i / (w * h) * (w * h)) (by omega), Int.tdiv_eq_ediv_of_nonneg (show 0 ≤ i - i / (w * h) * (w * h) by omega), Dk.wrap64_of ((i - i / (w * h) * (w * h)) / w) (by rw [r2]; omega), Dk.wrap64_of ((i - i / (w * h) * (w * h)) / w * w) (by omega), Dk.wrap64_of (_ - _) (by omega), r3, r2, r1]
  · unfold Dk.shape
    rw [if_neg hs, if_neg (show ¬ (Dk.shapeOk f d p w h ∧ _) from fun z => hs z.1)]
    simp
theorem index_code (k : Nat) (f d p w h : Int) (l : List Int) (c x y : Int) : signal_Index.f (k + 2) f d p w h l c x y = some (indexS f d p w h c x y) := by
  have e0 : ∀ b, signal_Index.j0 (k + 2) c x y b f d p w h l = if b = true then some (0, false) else if f = 1 then some (wrap64 (wrap64 (x * p) + c), true) else some (wrap64 (wrap64 (wrap64 (wrap64 (c * h) + y) * w) + x), true) := fun b => rfl
  unfold signal_Index.f indexS
  rw [shape_code]
  simp only [Option.bind_some, e0, if_true, decide_eq_true_iff]
  by_cases hs : Dk.shapeOk f d p w h
  · have b := Dk.shape_bound hs
    unfold Dk.shape
    rw [if_pos hs]
    simp only [if_true]
    by_cases hc : (0 ≤ c ∧ c < p) ∧ (0 ≤ x ∧ x < w) ∧ (0 ≤ y ∧ y < h)
    · have a1 := Dk.mul_bound (a := x) (b := p) (A := 1048576) (B := 4) (by omega) (by omega) (by omega) (by omega)
      have a2 := Dk.mul_bound (a := c) (b := h) (A := 4) (B := 4096) (by omega) (by omega) (by omega) (by omega)
      have a3 := Dk.mul_bound (a := c * h + y) (b := w) (A := 1048576) (B := 1048576) (by omega) (by omega) (by omega) (by omega)
      rw [if_neg (by omega), if_neg (by omega), if_neg (by omega), if_neg (by omega), if_neg (by omega), if_neg (by omega), if_pos (show Dk.shapeOk f d p w h ∧ (0 ≤ c ∧ c < p) ∧ (0 ≤ x ∧ x < w) ∧ (0 ≤ y ∧ y < h) from ⟨hs, hc⟩), Dk.wrap64_of (x * p) (by omega), Dk.wrap64_of (x * p + c) (by omega), Dk.wrap64_of (c * h) (by omega), Dk.wrap64_of (c * h + y) (by omega), Dk.wrap64_of ((c * h + y) * w) (by omega), Dk.wrap64_of _ (by omega)]
      unfold Dk.indexOf
      split <;> rfl
    · rw [if_neg (show ¬ (Dk.shapeOk f d p w h ∧ (0 ≤ c ∧ c < p) ∧ (0 ≤ x ∧ x < w) ∧ (0 ≤ y ∧ y < h)) from fun z => hc z.2)]
      repeat' split
      all_goals first | rfl | (exfalso; omega)
  · unfold Dk.shape
    rw [if_neg hs, if_neg (show ¬ (Dk.shapeOk f d p w h ∧ _) from fun z => hs z.1)]
    simp
theorem ref_index_code (k : Nat) (f d p w h : Int) (l : List Int) (c x y : Int) : damaskref23_Index.f (k + 2) f d p w h l c x y = some (indexS f d p w h c x y) := by
  have e0 : ∀ b, damaskref23_Index.j0 (k + 2) c x y b f d p w h l = if b = true then some (0, false) else if f = 1 then some (wrap64 (wrap64 (p * x) + c), true) else some (wrap64 (wrap64 (wrap64 (wrap64 (w * h) * c) + wrap64 (w * y)) + x), true) := fun b => rfl
  unfold damaskref23_Index.f indexS
  rw [ref_shape_code]
  simp only [Option.bind_some, e0, if_true, decide_eq_true_iff]
  by_cases hs : Dk.shapeOk f d p w h
  · have b := Dk.shape_bound hs
    unfold Dk.shape
    rw [if_pos hs, Dk.wrap64_of (p - 1) (by omega), Dk.wrap64_of (w - 1) (by omega), Dk.wrap64_of (h - 1) (by omega)]
    simp only [if_true]
    by_cases hc : (0 ≤ c ∧ c < p) ∧ (0 ≤ x ∧ x < w) ∧ (0 ≤ y ∧ y < h)
    · have a1 := Dk.mul_bound (a := p) (b := x) (A := 4) (B := 1048576) (by omega) (by omega) (by omega) (by omega)
      have a2 := Dk.mul_bound (a := w) (b := h) (A := 1048576) (B := 4096) (by omega) (by omega) (by omega) (by omega)
      have a3 := Dk.mul_bound (a := w * h) (b := c) (A := 4294967296) (B := 4) (by omega) (by omega) (by omega) (by omega)
      have a4 := Dk.mul_bound (a := w) (b := y) (A := 1048576) (B := 4096) (by omega) (by omega) (by omega) (by omega)
      rw [if_neg (by omega), if_neg (by omega), if_neg (by omega), if_neg (by omega), if_neg (by omega), if_neg (by omega), if_pos (show Dk.shapeOk f d p w h ∧ (0 ≤ c ∧ c < p) ∧ (0 ≤ x ∧ x < w) ∧ (0 ≤ y ∧ y < h) from ⟨hs, hc⟩), Dk.wrap64_of (p * x) (by omega), Dk.wrap64_of (p * x + c) (by omega), Dk.wrap64_of (w * h) (by omega), Dk.wrap64_of (w * h * c) (by omega), Dk.wrap64_of (w * y) (by omega), Dk.wrap64_of (w * h * c + w * y) (by omega), Dk.wrap64_of _ (by omega)]
      unfold Dk.indexOf
      split
      · rw [Int.mul_comm p x]
      · rw [Int.add_mul, Int.mul_comm c h, Int.mul_comm (h * c) w, ← Int.mul_assoc, Int.mul_comm y w]
    · rw [if_neg (show ¬ (Dk.shapeOk f d p w h ∧ (0 ≤ c ∧ c < p) ∧ (0 ≤ x ∧ x < w) ∧ (0 ≤ y ∧ y < h)) from fun z => hc z.2)]
      repeat' split
      all_goals first | rfl | (exfalso; omega)
  · unfold Dk.shape
    rw [if_neg hs, if_neg (show ¬ (Dk.shapeOk f d p w h ∧ _) from fun z => hs z.1)]
    simp
end Go.Proofs.Ytggfgbhodkfllaa.Pure
