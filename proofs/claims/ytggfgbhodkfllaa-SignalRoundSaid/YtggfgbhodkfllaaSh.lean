/- Plain words of layers 3 and 23: which kinds and shapes may be, where a sample stands. -/
import Derived.Test.YtggfgbhodkfllaaSa
namespace Dk
def may (f d : Int) : Bool := decide ((f = 0 ∨ f = 1) ∧ 1 ≤ d ∧ d ≤ 16)
def shapeOk (f d p w h : Int) : Prop := may f d = true ∧ 1 ≤ p ∧ p ≤ 4 ∧ 1 ≤ w ∧ 1 ≤ h ∧ (f = 0 → w ≤ 4096 ∧ h ≤ 4096) ∧ (f = 1 → w ≤ 1048576 ∧ h ≤ 1) ∧ p * w * h ≤ 1048576
instance (f d p w h : Int) : Decidable (shapeOk f d p w h) := by unfold shapeOk; infer_instance
def shape (f d p w h : Int) : Int × Int := if shapeOk f d p w h then (p * w * h, 0) else (0, 17)
def whereIs (f p w h i : Int) : Int × Int × Int := if f = 1 then (i % p, i / p, 0) else (i / w / h, i % w, i / w % h)
def indexOf (f p w h c x y : Int) : Int := if f = 1 then x * p + c else (c * h + y) * w + x
theorem may_iff (f d : Int) : may f d = true ↔ (f = 0 ∨ f = 1) ∧ 1 ≤ d ∧ d ≤ 16 := by simp [may]
theorem shape_bound {f d p w h : Int} (s : shapeOk f d p w h) : 1 ≤ p ∧ p ≤ 4 ∧ 1 ≤ w ∧ w ≤ 1048576 ∧ 1 ≤ h ∧ h ≤ 4096 ∧ 1 ≤ p * w * h ∧ p * w * h ≤ 1048576 ∧ (f = 0 ∨ f = 1) ∧ (f = 1 → h = 1) := by
  obtain ⟨hm, h1, h2, h3, h4, h5, h6, h7⟩ := s
  rw [may_iff] at hm
  have e1 : 1 * 1 ≤ p * w := Int.mul_le_mul h1 h3 (by omega) (by omega)
  have e2 : 1 * 1 ≤ p * w * h := Int.mul_le_mul (by omega) h4 (by omega) (by omega)
  rcases hm.1 with hf | hf
  · have := h5 hf; refine ⟨h1, h2, h3, by omega, h4, by omega, by omega, h7, hm.1, by omega⟩
  · have := h6 hf; refine ⟨h1, h2, h3, by omega, h4, by omega, by omega, h7, hm.1, by omega⟩
/-- the place's parts tell the place -/
theorem index_where (f p w h i : Int) : indexOf f p w h (whereIs f p w h i).1 (whereIs f p w h i).2.1 (whereIs f p w h i).2.2 = i := by
  unfold indexOf whereIs
  split
  · simp only; exact Int.ediv_mul_add_emod i p
  · simp only
    rw [Int.ediv_mul_add_emod (i / w) h, Int.ediv_mul_add_emod i w]
theorem where_bound {f d p w h i : Int} (s : shapeOk f d p w h) (h0 : 0 ≤ i) (h1 : i < p * w * h) :
    0 ≤ (whereIs f p w h i).1 ∧ (whereIs f p w h i).1 < p ∧ 0 ≤ (whereIs f p w h i).2.1 ∧ (whereIs f p w h i).2.1 < w ∧ 0 ≤ (whereIs f p w h i).2.2 ∧ (whereIs f p w h i).2.2 < h := by
  obtain ⟨b1, b2, b3, b4, b5, b6, b7, b8, b9, b10⟩ := shape_bound s
  unfold whereIs
  split
  · rename_i hf
    have hh := b10 hf
    subst hh
    rw [Int.mul_one] at h1
    exact ⟨Int.emod_nonneg _ (by omega), Int.emod_lt_of_pos _ (by omega), Int.ediv_nonneg h0 (by omega), Int.ediv_lt_of_lt_mul (by omega) (by rw [Int.mul_comm]; exact h1), by simp, by simp⟩
  · refine ⟨Int.ediv_nonneg (Int.ediv_nonneg h0 (by omega)) (by omega), Int.ediv_lt_of_lt_mul (by omega) (Int.ediv_lt_of_lt_mul (by omega) ?_), Int.emod_nonneg _ (by omega), Int.emod_lt_of_pos _ (by omega), Int.emod_nonneg _ (by omega), Int.emod_lt_of_pos _ (by omega)⟩
    rw [Int.mul_assoc, Int.mul_comm h w, ← Int.mul_assoc]; exact h1
theorem index_bound {f d p w h c x y : Int} (s : shapeOk f d p w h) (h1 : 0 ≤ c ∧ c < p) (h2 : 0 ≤ x ∧ x < w) (h3 : 0 ≤ y ∧ y < h) : 0 ≤ indexOf f p w h c x y ∧ indexOf f p w h c x y < p * w * h := by
  obtain ⟨b1, b2, b3, b4, b5, b6, b7, b8, b9, b10⟩ := shape_bound s
  unfold indexOf
  split
  · rename_i hf
    have hh := b10 hf
    subst hh
    have e0 : 0 ≤ x * p := Int.mul_nonneg h2.1 (by omega)
    have e1 : x * p ≤ (w - 1) * p := Int.mul_le_mul_of_nonneg_right (by omega) (by omega)
    rw [Int.sub_mul, Int.mul_comm w p] at e1
    rw [Int.mul_one]; omega
  · have e0 : 0 ≤ c * h := Int.mul_nonneg h1.1 (by omega)
    have e1 : c * h ≤ (p - 1) * h := Int.mul_le_mul_of_nonneg_right (by omega) (by omega)
    rw [Int.sub_mul] at e1
    have e2 : 0 ≤ (c * h + y) * w := Int.mul_nonneg (by omega) (by omega)
    have e3 : (c * h + y) * w ≤ (p * h - 1) * w := Int.mul_le_mul_of_nonneg_right (by omega) (by omega)
    rw [Int.sub_mul, Int.mul_assoc, Int.mul_comm h w, ← Int.mul_assoc] at e3
    omega
theorem where_index {f d p w h c x y : Int} (s : shapeOk f d p w h) (h1 : 0 ≤ c ∧ c < p) (h2 : 0 ≤ x ∧ x < w) (h3 : 0 ≤ y ∧ y < h) : whereIs f p w h (indexOf f p w h c x y) = (c, x, y) := by
  obtain ⟨b1, b2, b3, b4, b5, b6, b7, b8, b9, b10⟩ := shape_bound s
  unfold indexOf whereIs
  split
  · rename_i hf
    have hh := b10 hf
    have hy : y = 0 := by omega
    subst hy
    rw [Int.add_comm, Int.add_mul_emod_self_right, Int.add_mul_ediv_right _ _ (by omega), Int.emod_eq_of_lt h1.1 h1.2, Int.ediv_eq_zero_of_lt h1.1 h1.2, Int.zero_add]
  · have e1 : ((c * h + y) * w + x) / w = c * h + y := by
      rw [Int.add_comm, Int.add_mul_ediv_right _ _ (by omega), Int.ediv_eq_zero_of_lt h2.1 h2.2, Int.zero_add]
    have e2 : ((c * h + y) * w + x) % w = x := by rw [Int.add_comm, Int.add_mul_emod_self_right, Int.emod_eq_of_lt h2.1 h2.2]
    have e3 : (c * h + y) / h = c := by rw [Int.add_comm, Int.add_mul_ediv_right _ _ (by omega), Int.ediv_eq_zero_of_lt h3.1 h3.2, Int.zero_add]
    have e4 : (c * h + y) % h = y := by rw [Int.add_comm, Int.add_mul_emod_self_right, Int.emod_eq_of_lt h3.1 h3.2]
    rw [e1, e2, e3, e4]
/-- counted off: the rest is what stands ahead -/
theorem where_rest (w h i : Int) (hw : 1 ≤ w) (hh : 1 ≤ h) (h0 : 0 ≤ i) : i / (w * h) = i / w / h ∧ (i - i / (w * h) * (w * h)) / w = i / w % h ∧ (i - i / (w * h) * (w * h)) - (i - i / (w * h) * (w * h)) / w * w = i % w := by
  have e1 : i / (w * h) = i / w / h := (Int.ediv_ediv_of_nonneg (by omega)).symm
  have e2 : i - i / (w * h) * (w * h) = i % (w * h) := by have := Int.ediv_mul_add_emod i (w * h); omega
  have e3 : i % (w * h) / w = i / w % h := by
    obtain ⟨n, rfl⟩ := Int.eq_ofNat_of_zero_le h0
    obtain ⟨a, rfl⟩ := Int.eq_ofNat_of_zero_le (show 0 ≤ w by omega)
    obtain ⟨b, rfl⟩ := Int.eq_ofNat_of_zero_le (show 0 ≤ h by omega)
    exact_mod_cast Nat.mod_mul_right_div_self n a b
  have e4 : i % (w * h) % w = i % w := Int.emod_emod_of_dvd i ⟨h, rfl⟩
  rw [e2, e3]
  refine ⟨e1, rfl, ?_⟩
  have := Int.ediv_mul_add_emod (i % (w * h)) w
  rw [e3, e4] at this
  omega
end Dk
