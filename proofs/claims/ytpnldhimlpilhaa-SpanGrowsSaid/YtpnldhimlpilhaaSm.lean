/- Plain arithmetic of spans (no program in sight): where a span is answered, every answer lies in it. -/
import Derived.Test.YtpnldhimlpilhaaSl
namespace Dk
open Go Go.RowKit

theorem both_has (a b : Int × Int) (x y : Int) (ha : whole a = true) (hb : In64 b.1 ∧ In64 b.2) (hd : digs a b ≤ 63) (hx : has a x) (hy : has b y) : has (both a b) (band x y) := by
  rw [whole_iff] at ha
  unfold In64 at hb
  have hx' := hx; have hy' := hy; unfold has at hx' hy'
  have hX : In64 x := by unfold In64; omega
  have hY : In64 y := by unfold In64; omega
  have hr := fun h => band_right x y hY h
  have hl := fun h => band_right y x hX h
  rw [band_comm y x] at hl
  unfold both has
  split
  · rename_i h; have := hr (by omega); have := hl (by omega); simp only; omega
  · split
    · have := hl (by omega); simp only; omega
    · split
      · have := hr (by omega); simp only; omega
      · have h1 := (digs_le a b (digs a b)).mp (Nat.le_refl _)
        have := band_in (digs a b) hd x y (by omega) (by omega) (by omega) (by omega)
        simp only; omega
theorem digs32 (a b : Int × Int) (ha : whole a = true) (hb : whole b = true) : digs a b ≤ 31 := by
  rw [whole_iff] at ha hb
  rw [digs_le]
  have e : (2 : Int) ^ 31 = 2147483648 := by decide
  rw [e]; omega
theorem digs_pow (a b : Int × Int) (ha : whole a = true) (hb : whole b = true) : (1 : Int) ≤ 2 ^ digs a b ∧ (2 : Int) ^ digs a b ≤ 2147483648 := pow_le31 _ (digs32 a b ha hb)
theorem bor_ge (x y : Int) (hx : 0 ≤ x ∧ x ≤ 2147483647) (hy : 0 ≤ y ∧ y ≤ 2147483647) : max x y ≤ bor x y := by
  have h1 := band_bor x y (by unfold In64; omega) (by unfold In64; omega)
  have h2 := band_right x y (by unfold In64; omega) hy.1
  have h3 := band_right y x (by unfold In64; omega) hx.1
  rw [band_comm y x] at h3
  omega
theorem bxor_ge (x y : Int) (hx : 0 ≤ x ∧ x ≤ 2147483647) (hy : 0 ≤ y ∧ y ≤ 2147483647) : 0 ≤ bxor x y := by
  have h1 := band_bor x y (by unfold In64; omega) (by unfold In64; omega)
  have h2 := band_right x y (by unfold In64; omega) hy.1
  have h3 := band_right y x (by unfold In64; omega) hx.1
  have h4 := bor_band x y
  rw [band_comm y x] at h3
  omega
theorem either_has (a b : Int × Int) (x y : Int) (ha : whole a = true) (hb : whole b = true) (hx : has a x) (hy : has b y) : has (either 16 a b) (bor x y) ∧ has (either 17 a b) (bxor x y) := by
  have hd := digs32 a b ha hb
  have h1 := (digs_le a b (digs a b)).mp (Nat.le_refl _)
  rw [whole_iff] at ha hb
  have hx' := hx; have hy' := hy; unfold has at hx' hy'
  have h2 := bor_in (digs a b) (by omega) x y (by omega) (by omega) (by omega) (by omega)
  have h3 := bxor_in (digs a b) (by omega) x y (by omega) (by omega) (by omega) (by omega)
  unfold either has
  split
  · have := bor_ge x y (by omega) (by omega); have := bxor_ge x y (by omega) (by omega); simp only [if_true]
    rw [if_neg (by decide)]
    omega
  · simp only; omega
theorem bit_bounds (p : Bool) : 0 ≤ bit p ∧ bit p ≤ 1 := by cases p <;> decide
theorem tells_has (al ne p : Bool) (h1 : al = true → p = true) (h2 : ne = true → p = false) : has (tells al ne) (bit p) := by
  have := bit_bounds p
  unfold tells has
  cases al
  · cases ne
    · simp; omega
    · rw [h2 rfl]; simp [bit]
  · rw [h1 rfl]; simp [bit]
theorem sgn_mono {a b : Int} (h : a ≤ b) : sgn a ≤ sgn b := by unfold sgn; repeat' split <;> omega
/-- what one argument's bounds say of one answer -/
theorem holds1 (op k s : Int) (a : Int × Int) (x : Int) (ho : op = 5 ∨ op = 6 ∨ op = 7 ∨ op = 29 ∨ op = 30 ∨ op = 31 ∨ op = 32 ∨ op = 33) (hc : consts op k s = true) (ha : whole a = true) (he : (span1 op k s a).2 = 0) (hx : has a x) :
    (val1 op k s x).2 = 0 ∧ has (span1 op k s a).1 (val1 op k s x).1 := by
  have ha' := ha; rw [whole_iff] at ha'
  have hx' := hx; unfold has at hx'
  rcases ho with rfl | rfl | rfl | rfl | rfl | rfl | rfl | rfl
  · refine ⟨rfl, ?_⟩; show has (-a.2, -a.1) (-x); unfold has; simp only; omega
  · refine ⟨rfl, ?_⟩; show has (if a.1 ≥ 0 then a else (max 0 (-a.2), max (-a.1) a.2)) (max x (-x)); unfold has; split <;> first | omega | (simp only; omega)
  · refine ⟨rfl, ?_⟩; exact ⟨sgn_mono hx.1, sgn_mono hx.2⟩
  · refine ⟨rfl, ?_⟩; exact ⟨mul_mono hx.1 (by have := pow_pos' k.toNat; omega), mul_mono hx.2 (by have := pow_pos' k.toNat; omega)⟩
  · refine ⟨rfl, ?_⟩; exact ⟨ediv_mono _ (pow_pos' _) hx.1, ediv_mono _ (pow_pos' _) hx.2⟩
  · refine ⟨rfl, ?_⟩
    have hk : 0 ≤ k ∧ k ≤ 2147483647 := by simpa [consts] using hc
    exact both_has a (k, k) x k ha ⟨by unfold In64; simp only; omega, by unfold In64; simp only; omega⟩ (by have := digs32 a (k, k) ha (by rw [whole_iff]; simp only; omega); omega) hx ⟨Int.le_refl _, Int.le_refl _⟩
  · refine ⟨rfl, ?_⟩
    exact mul_has a (k, k) x k hx ⟨Int.le_refl _, Int.le_refl _⟩
  · have hk : 1 ≤ k ∧ k ≤ 4611686018427387904 ∧ 0 ≤ s ∧ s ≤ 62 := by simpa [consts] using hc
    have e1 : span1 33 k s a = if max (-a.1) a.2 ≠ 0 ∧ k > 4611686018427387904 / max (-a.1) a.2 then ((0, 0), 13) else ((a.1 * k / 2 ^ s.toNat, a.2 * k / 2 ^ s.toNat), 0) := rfl
    have e2 : val1 33 k s x = if x ≠ 0 ∧ k > 4611686018427387904 / max x (-x) then (0, 13) else (x * k / 2 ^ s.toNat, 0) := rfl
    rw [e1] at he ⊢
    rw [e2]
    by_cases hm : max (-a.1) a.2 ≠ 0 ∧ k > 4611686018427387904 / max (-a.1) a.2
    · rw [if_pos hm] at he; exact absurd he (by decide)
    · rw [if_neg hm]
      have hn : ¬ (x ≠ 0 ∧ k > 4611686018427387904 / max x (-x)) := by
        rintro ⟨h0, h1⟩
        apply hm
        refine ⟨by omega, ?_⟩
        have := (@ediv_div 4611686018427387904 (max x (-x)) (max (-a.1) a.2) (by omega) (by omega)).1 (by decide)
        omega
      rw [if_neg hn]
      exact ⟨rfl, ediv_mono _ (pow_pos' _) (mul_mono hx.1 (by omega)), ediv_mono _ (pow_pos' _) (mul_mono hx.2 (by omega))⟩
theorem holds2 (op : Int) (a b : Int × Int) (x y : Int) (ho : op = 8 ∨ op = 9 ∨ op = 10 ∨ op = 11 ∨ op = 12 ∨ op = 13 ∨ op = 14 ∨ op = 15 ∨ op = 16 ∨ op = 17 ∨ op = 18 ∨ op = 19 ∨ op = 20 ∨ op = 21 ∨ op = 22 ∨ op = 23 ∨ op = 24 ∨ op = 25)
    (ha : whole a = true) (hb : whole b = true) (he : (span2 op a b).2 = 0) (hx : has a x) (hy : has b y) :
    (val2 op x y).2 = 0 ∧ has (span2 op a b).1 (val2 op x y).1 := by
  have ha' := ha; rw [whole_iff] at ha'
  have hb' := hb; rw [whole_iff] at hb'
  have hx' := hx; unfold has at hx'
  have hy' := hy; unfold has at hy'
  rcases ho with rfl | rfl | rfl | rfl | rfl | rfl | rfl | rfl | rfl | rfl | rfl | rfl | rfl | rfl | rfl | rfl | rfl | rfl
  · refine ⟨rfl, ?_⟩; show has (a.1 + b.1, a.2 + b.2) (x + y); unfold has; simp only; omega
  · refine ⟨rfl, ?_⟩; show has (a.1 - b.2, a.2 - b.1) (x - y); unfold has; simp only; omega
  · exact ⟨rfl, mul_has a b x y hx hy⟩
  · have e1 : span2 11 a b = if b.1 ≤ 0 ∧ 0 ≤ b.2 then ((0, 0), 12) else (corn Int.tdiv a b, 0) := rfl
    have e2 : val2 11 x y = if y = 0 then (0, 12) else (x.tdiv y, 0) := rfl
    rw [e1] at he ⊢; rw [e2]
    by_cases h : b.1 ≤ 0 ∧ 0 ≤ b.2
    · rw [if_pos h] at he; exact absurd he (by decide)
    · rw [if_neg h, if_neg (by omega)]; exact ⟨rfl, div_has a b x y hx hy h⟩
  · have e1 : span2 12 a b = if b.1 ≤ 0 ∧ 0 ≤ b.2 then ((0, 0), 12) else ((min 0 (max a.1 (-(max (-b.1) b.2 - 1))), max 0 (min a.2 (max (-b.1) b.2 - 1))), 0) := rfl
    have e2 : val2 12 x y = if y = 0 then (0, 12) else (x.tmod y, 0) := rfl
    rw [e1] at he ⊢; rw [e2]
    by_cases h : b.1 ≤ 0 ∧ 0 ≤ b.2
    · rw [if_pos h] at he; exact absurd he (by decide)
    · rw [if_neg h, if_neg (by omega)]; exact ⟨rfl, mod_has a b x y hx hy h⟩
  · have e1 : span2 13 a b = if b.1 < 0 ∨ b.2 > 31 then ((0, 0), 13) else (corn (fun x y => x * 2 ^ y.toNat) a b, 0) := rfl
    have e2 : val2 13 x y = if y < 0 ∨ y > 31 then (0, 13) else (x * 2 ^ y.toNat, 0) := rfl
    rw [e1] at he ⊢; rw [e2]
    by_cases h : b.1 < 0 ∨ b.2 > 31
    · rw [if_pos h] at he; exact absurd he (by decide)
    · rw [if_neg h, if_neg (by omega)]; exact ⟨rfl, shl_has a b x y hx hy⟩
  · have e1 : span2 14 a b = if b.1 < 0 ∨ b.2 > 31 then ((0, 0), 13) else (corn (fun x y => x / 2 ^ y.toNat) a b, 0) := rfl
    have e2 : val2 14 x y = if y < 0 ∨ y > 31 then (0, 13) else (x / 2 ^ y.toNat, 0) := rfl
    rw [e1] at he ⊢; rw [e2]
    by_cases h : b.1 < 0 ∨ b.2 > 31
    · rw [if_pos h] at he; exact absurd he (by decide)
    · rw [if_neg h, if_neg (by omega)]; exact ⟨rfl, shr_has a b x y hx hy⟩
  · exact ⟨rfl, both_has a b x y ha ⟨by unfold In64; omega, by unfold In64; omega⟩ (by have := digs32 a b ha hb; omega) hx hy⟩
  · exact ⟨rfl, (either_has a b x y ha hb hx hy).1⟩
  · exact ⟨rfl, (either_has a b x y ha hb hx hy).2⟩
  · refine ⟨rfl, tells_has _ _ _ ?_ ?_⟩ <;> simp only [decide_eq_true_eq, decide_eq_false_iff_not] <;> omega
  · refine ⟨rfl, tells_has _ _ _ ?_ ?_⟩ <;> simp only [decide_eq_true_eq, decide_eq_false_iff_not] <;> omega
  · refine ⟨rfl, tells_has _ _ _ ?_ ?_⟩ <;> simp only [decide_eq_true_eq, decide_eq_false_iff_not] <;> omega
  · refine ⟨rfl, tells_has _ _ _ ?_ ?_⟩ <;> simp only [decide_eq_true_eq, decide_eq_false_iff_not] <;> omega
  · refine ⟨rfl, tells_has _ _ _ ?_ ?_⟩ <;> simp only [decide_eq_true_eq, decide_eq_false_iff_not] <;> omega
  · refine ⟨rfl, tells_has _ _ _ ?_ ?_⟩ <;> simp only [decide_eq_true_eq, decide_eq_false_iff_not] <;> omega
  · refine ⟨rfl, ?_⟩; show has (min a.1 b.1, min a.2 b.2) (min x y); unfold has; simp only; omega
  · refine ⟨rfl, ?_⟩; show has (max a.1 b.1, max a.2 b.2) (max x y); unfold has; simp only; omega
theorem holds3 (op : Int) (a b c : Int × Int) (x y z : Int) (ho : op = 26 ∨ op = 27 ∨ op = 28) (hx : has a x) (hy : has b y) (hz : has c z) : has (span3 op a b c) (val3 op x y z) := by
  unfold has at *
  rcases ho with rfl | rfl | rfl
  · show min (max a.1 b.1) c.1 ≤ min (max x y) z ∧ min (max x y) z ≤ min (max a.2 b.2) c.2; omega
  · show mid a.1 b.1 c.1 ≤ mid x y z ∧ mid x y z ≤ mid a.2 b.2 c.2; unfold mid; omega
  · have e1 : span3 28 a b c = if ¬ (a.1 ≤ 0 ∧ 0 ≤ a.2) then b else if a.1 = 0 ∧ a.2 = 0 then c else (min b.1 c.1, max b.2 c.2) := rfl
    have e2 : val3 28 x y z = if x = 0 then z else y := rfl
    rw [e1, e2]
    split
    · rw [if_neg (by omega)]; exact hy
    · split
      · rw [if_pos (by omega)]; exact hz
      · simp only; split <;> omega
end Dk
