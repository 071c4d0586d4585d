/- Plain arithmetic of spans (no program in sight): spans of one number each are refused just as the operator refuses the numbers. -/
import Derived.Test.YtpnldhimlpilhaaSm
namespace Dk
open Go Go.RowKit

/-- a span's answer and an operator's answer: refused alike, whole alike -/
def Alike (p : (Int × Int) × Int) (q : Int × Int) : Prop := p.2 = q.2 ∧ (p.2 = 0 → whole p.1 = word q.1)
theorem alike_pt (v e : Int) : Alike ((v, v), e) (v, e) := ⟨rfl, fun _ => by unfold whole; simp⟩
theorem alike_word {p : Int × Int} {v : Int} (h1 : whole p = true) (h2 : word v = true) : Alike (p, 0) (v, 0) := ⟨rfl, fun _ => by rw [h1, h2]⟩
theorem corn_pt (f : Int → Int → Int) (x y : Int) : corn f (x, x) (y, y) = (f x y, f x y) := by
  unfold corn min4 max4; simp
theorem whole_pt (x : Int) : whole (x, x) = word x := by unfold whole; simp
theorem alike1 (op k s x : Int) (ho : op = 5 ∨ op = 6 ∨ op = 7 ∨ op = 29 ∨ op = 30 ∨ op = 31 ∨ op = 32 ∨ op = 33) (hc : consts op k s = true) (hx : word x = true) : Alike (span1 op k s (x, x)) (val1 op k s x) := by
  have hx' := hx; rw [word_iff] at hx'
  rcases ho with rfl | rfl | rfl | rfl | rfl | rfl | rfl | rfl
  · exact alike_pt _ _
  · show Alike ((if x ≥ 0 then (x, x) else (max 0 (-x), max (-x) x)), 0) (max x (-x), 0)
    rw [show (if x ≥ 0 then (x, x) else (max 0 (-x), max (-x) x)) = (max x (-x), max x (-x)) by
      split
      · exact Prod.ext (by simp only; omega) (by simp only; omega)
      · exact Prod.ext (by simp only; omega) (by simp only; omega)]
    exact alike_pt _ _
  · exact alike_pt _ _
  · exact alike_pt _ _
  · exact alike_pt _ _
  · have hk : 0 ≤ k ∧ k ≤ 2147483647 := by simpa [consts] using hc
    have hb := band_right x k (by unfold In64; omega) hk.1
    refine alike_word ?_ ((word_iff _).mpr (by omega))
    show whole (both (x, x) (k, k)) = true
    unfold both
    rw [whole_iff]
    simp only
    split
    · simp only; omega
    · split
      · simp only; omega
      · rw [if_pos (by omega)]; simp only; omega
  · show Alike (corn (· * ·) (x, x) (k, k), 0) (x * k, 0)
    rw [corn_pt]; exact alike_pt _ _
  · have e1 : span1 33 k s (x, x) = if max (-x) x ≠ 0 ∧ k > 4611686018427387904 / max (-x) x then ((0, 0), 13) else ((x * k / 2 ^ s.toNat, x * k / 2 ^ s.toNat), 0) := rfl
    have e2 : val1 33 k s x = if x ≠ 0 ∧ k > 4611686018427387904 / max x (-x) then (0, 13) else (x * k / 2 ^ s.toNat, 0) := rfl
    rw [e1, e2, Int.max_comm (-x) x]
    by_cases h : x ≠ 0 ∧ k > 4611686018427387904 / max x (-x)
    · rw [if_pos h, if_pos ⟨by omega, h.2⟩]; exact alike_pt _ _
    · rw [if_neg h, if_neg (fun z => h ⟨by omega, z.2⟩)]; exact alike_pt _ _
theorem cmp_whole (op : Int) (a b : Int × Int) : whole (cmp op a b) = true := by
  have h : ∀ p q, whole (tells p q) = true := fun p q => by cases p <;> cases q <;> decide
  unfold cmp
  repeat' split
  all_goals exact h _ _
theorem bit_word (p : Bool) : word (bit p) = true := by cases p <;> decide
theorem alike2 (op x y : Int) (ho : op = 8 ∨ op = 9 ∨ op = 10 ∨ op = 11 ∨ op = 12 ∨ op = 13 ∨ op = 14 ∨ op = 15 ∨ op = 16 ∨ op = 17 ∨ op = 18 ∨ op = 19 ∨ op = 20 ∨ op = 21 ∨ op = 22 ∨ op = 23 ∨ op = 24 ∨ op = 25) (hx : word x = true) (hy : word y = true) : Alike (span2 op (x, x) (y, y)) (val2 op x y) := by
  have hx' := hx; rw [word_iff] at hx'
  have hy' := hy; rw [word_iff] at hy'
  have wx : whole (x, x) = true := by rw [whole_pt]; exact hx
  have wy : whole (y, y) = true := by rw [whole_pt]; exact hy
  have px : has (x, x) x := ⟨Int.le_refl _, Int.le_refl _⟩
  have py : has (y, y) y := ⟨Int.le_refl _, Int.le_refl _⟩
  have hp := digs_pow (x, x) (y, y) wx wy
  rcases ho with rfl | rfl | rfl | rfl | rfl | rfl | rfl | rfl | rfl | rfl | rfl | rfl | rfl | rfl | rfl | rfl | rfl | rfl
  · exact alike_pt _ _
  · exact alike_pt _ _
  · show Alike (corn (· * ·) (x, x) (y, y), 0) (x * y, 0)
    rw [corn_pt]; exact alike_pt _ _
  · show Alike (if y ≤ 0 ∧ 0 ≤ y then ((0, 0), 12) else (corn Int.tdiv (x, x) (y, y), 0)) (if y = 0 then (0, 12) else (x.tdiv y, 0))
    by_cases h : y = 0
    · rw [if_pos h, if_pos (by omega)]; exact alike_pt _ _
    · rw [if_neg h, if_neg (by omega), corn_pt]; exact alike_pt _ _
  · show Alike (if y ≤ 0 ∧ 0 ≤ y then ((0, 0), 12) else ((min 0 (max x (-(max (-y) y - 1))), max 0 (min x (max (-y) y - 1))), 0)) (if y = 0 then (0, 12) else (x.tmod y, 0))
    by_cases h : y = 0
    · rw [if_pos h, if_pos (by omega)]; exact alike_pt _ _
    · rw [if_neg h, if_neg (by omega)]
      have h1 := mod_has (x, x) (y, y) x y px py (by simp only; omega)
      unfold has at h1
      simp only at h1
      exact alike_word (by rw [whole_iff]; simp only; omega) ((word_iff _).mpr (by omega))
  · show Alike (if y < 0 ∨ y > 31 then ((0, 0), 13) else (corn (fun x y => x * 2 ^ y.toNat) (x, x) (y, y), 0)) (if y < 0 ∨ y > 31 then (0, 13) else (x * 2 ^ y.toNat, 0))
    by_cases h : y < 0 ∨ y > 31
    · rw [if_pos h, if_pos h]; exact alike_pt _ _
    · rw [if_neg h, if_neg h, corn_pt]; exact alike_pt _ _
  · show Alike (if y < 0 ∨ y > 31 then ((0, 0), 13) else (corn (fun x y => x / 2 ^ y.toNat) (x, x) (y, y), 0)) (if y < 0 ∨ y > 31 then (0, 13) else (x / 2 ^ y.toNat, 0))
    by_cases h : y < 0 ∨ y > 31
    · rw [if_pos h, if_pos h]; exact alike_pt _ _
    · rw [if_neg h, if_neg h, corn_pt]; exact alike_pt _ _
  · have hh := both_has (x, x) (y, y) x y wx ⟨by unfold In64; simp only; omega, by unfold In64; simp only; omega⟩ (by have := digs32 (x, x) (y, y) wx wy; omega) px py
    have wb : whole (both (x, x) (y, y)) = true := by
      unfold both
      rw [whole_iff]
      simp only
      split
      · simp only; omega
      · split
        · simp only; omega
        · split <;> (simp only; omega)
    have wb' := wb; rw [whole_iff] at wb'; unfold has at hh
    exact alike_word wb ((word_iff _).mpr (show _ ≤ band x y ∧ band x y ≤ _ by omega))
  · have hh := (either_has (x, x) (y, y) x y wx wy px py).1
    have wb : whole (either 16 (x, x) (y, y)) = true := by
      have h1 := (digs_le (x, x) (y, y) _).mp (Nat.le_refl _)
      unfold either
      rw [whole_iff]
      simp only at h1 ⊢
      split
      · simp only [if_true]; omega
      · simp only; omega
    have wb' := wb; rw [whole_iff] at wb'; unfold has at hh
    exact alike_word wb ((word_iff _).mpr (show _ ≤ bor x y ∧ bor x y ≤ _ by omega))
  · have hh := (either_has (x, x) (y, y) x y wx wy px py).2
    have wb : whole (either 17 (x, x) (y, y)) = true := by
      unfold either
      rw [whole_iff]
      simp only
      split
      · rw [if_neg (by decide)]; simp only; omega
      · simp only; omega
    have wb' := wb; rw [whole_iff] at wb'; unfold has at hh
    exact alike_word wb ((word_iff _).mpr (show _ ≤ bxor x y ∧ bxor x y ≤ _ by omega))
  · exact alike_word (cmp_whole 18 _ _) (bit_word _)
  · exact alike_word (cmp_whole 19 _ _) (bit_word _)
  · exact alike_word (cmp_whole 20 _ _) (bit_word _)
  · exact alike_word (cmp_whole 21 _ _) (bit_word _)
  · exact alike_word (cmp_whole 22 _ _) (bit_word _)
  · exact alike_word (cmp_whole 23 _ _) (bit_word _)
  · exact alike_pt _ _
  · exact alike_pt _ _
theorem alike3 (op x y z : Int) (ho : op = 26 ∨ op = 27 ∨ op = 28) : Alike (span3 op (x, x) (y, y) (z, z), 0) (val3 op x y z, 0) := by
  rcases ho with rfl | rfl | rfl
  · exact alike_pt _ _
  · exact alike_pt _ _
  · have e1 : span3 28 (x, x) (y, y) (z, z) = if ¬ (x ≤ 0 ∧ 0 ≤ x) then (y, y) else if x = 0 ∧ x = 0 then (z, z) else (min y z, max y z) := rfl
    have e2 : val3 28 x y z = if x = 0 then z else y := rfl
    rw [e1, e2]
    by_cases h : x = 0
    · rw [if_neg (by omega), if_pos ⟨h, h⟩, if_pos h]; exact alike_pt _ _
    · rw [if_pos (by omega), if_neg h]; exact alike_pt _ _
end Dk
