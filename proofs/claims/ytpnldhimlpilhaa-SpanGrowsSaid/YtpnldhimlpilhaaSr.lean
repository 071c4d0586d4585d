/- Plain arithmetic of spans (no program in sight): which ends are answers at ends of the arguments' spans; narrower arguments, narrower span. -/
import Derived.Test.YtpnldhimlpilhaaSm
namespace Dk
open Go Go.RowKit

/-- an end of a span, by a digit -/
def pick (m : Nat) (i : Nat) (a : Int × Int) : Int := if m / 2 ^ i % 2 = 1 then a.2 else a.1
theorem pick_has (m i : Nat) (a : Int × Int) (h : a.1 ≤ a.2) : has a (pick m i a) := by unfold pick has; split <;> omega
def tight (op : Int) : Bool := decide (op = 5 ∨ op = 7 ∨ (8 ≤ op ∧ op ≤ 11) ∨ op = 13 ∨ op = 14 ∨ (24 ≤ op ∧ op ≤ 27) ∨ op = 29 ∨ op = 30 ∨ op = 32 ∨ op = 33)
theorem corn_end (f : Int → Int → Int) (a b : Int × Int) : (∃ m : Nat, m < 8 ∧ f (pick m 0 a) (pick m 1 b) = (corn f a b).1) ∧ ∃ m : Nat, m < 8 ∧ f (pick m 0 a) (pick m 1 b) = (corn f a b).2 := by
  have e0 : f (pick 0 0 a) (pick 0 1 b) = f a.1 b.1 := rfl
  have e1 : f (pick 1 0 a) (pick 1 1 b) = f a.2 b.1 := rfl
  have e2 : f (pick 2 0 a) (pick 2 1 b) = f a.1 b.2 := rfl
  have e3 : f (pick 3 0 a) (pick 3 1 b) = f a.2 b.2 := rfl
  constructor
  · show ∃ m : Nat, m < 8 ∧ _ = min4 (f a.1 b.1) (f a.1 b.2) (f a.2 b.1) (f a.2 b.2)
    rcases (show min4 (f a.1 b.1) (f a.1 b.2) (f a.2 b.1) (f a.2 b.2) = f a.1 b.1 ∨ min4 (f a.1 b.1) (f a.1 b.2) (f a.2 b.1) (f a.2 b.2) = f a.1 b.2 ∨ min4 (f a.1 b.1) (f a.1 b.2) (f a.2 b.1) (f a.2 b.2) = f a.2 b.1 ∨ min4 (f a.1 b.1) (f a.1 b.2) (f a.2 b.1) (f a.2 b.2) = f a.2 b.2 by unfold min4; omega) with h | h | h | h
    · exact ⟨0, by decide, e0.trans h.symm⟩
    · exact ⟨2, by decide, e2.trans h.symm⟩
    · exact ⟨1, by decide, e1.trans h.symm⟩
    · exact ⟨3, by decide, e3.trans h.symm⟩
  · show ∃ m : Nat, m < 8 ∧ _ = max4 (f a.1 b.1) (f a.1 b.2) (f a.2 b.1) (f a.2 b.2)
    rcases (show max4 (f a.1 b.1) (f a.1 b.2) (f a.2 b.1) (f a.2 b.2) = f a.1 b.1 ∨ max4 (f a.1 b.1) (f a.1 b.2) (f a.2 b.1) (f a.2 b.2) = f a.1 b.2 ∨ max4 (f a.1 b.1) (f a.1 b.2) (f a.2 b.1) (f a.2 b.2) = f a.2 b.1 ∨ max4 (f a.1 b.1) (f a.1 b.2) (f a.2 b.1) (f a.2 b.2) = f a.2 b.2 by unfold max4; omega) with h | h | h | h
    · exact ⟨0, by decide, e0.trans h.symm⟩
    · exact ⟨2, by decide, e2.trans h.symm⟩
    · exact ⟨1, by decide, e1.trans h.symm⟩
    · exact ⟨3, by decide, e3.trans h.symm⟩
theorem ends1 (op k s : Int) (a : Int × Int) (ho : op = 5 ∨ op = 7 ∨ op = 29 ∨ op = 30 ∨ op = 32 ∨ op = 33) (hc : consts op k s = true) (ha : whole a = true) (he : (span1 op k s a).2 = 0) :
    (∃ m : Nat, m < 8 ∧ (val1 op k s (pick m 0 a)).1 = (span1 op k s a).1.1) ∧ ∃ m : Nat, m < 8 ∧ (val1 op k s (pick m 0 a)).1 = (span1 op k s a).1.2 := by
  have p0 : pick 0 0 a = a.1 := rfl
  have p1 : pick 1 0 a = a.2 := rfl
  rcases ho with rfl | rfl | rfl | rfl | rfl | rfl
  · exact ⟨⟨1, by decide, rfl⟩, ⟨0, by decide, rfl⟩⟩
  · exact ⟨⟨0, by decide, rfl⟩, ⟨1, by decide, rfl⟩⟩
  · exact ⟨⟨0, by decide, rfl⟩, ⟨1, by decide, rfl⟩⟩
  · exact ⟨⟨0, by decide, rfl⟩, ⟨1, by decide, rfl⟩⟩
  · have h := corn_end (· * ·) a (k, k)
    obtain ⟨⟨m, hm, e⟩, ⟨n, hn, f⟩⟩ := h
    have q : ∀ m, pick m 1 (k, k) = k := fun m => by unfold pick; split <;> rfl
    rw [q] at e f
    exact ⟨⟨m, hm, e⟩, ⟨n, hn, f⟩⟩
  · have v := fun x hx => holds1 33 k s a x (by omega) hc ha he hx
    have ha' := ha; rw [whole_iff] at ha'
    have e1 : span1 33 k s a = if max (-a.1) a.2 ≠ 0 ∧ k > 4611686018427387904 / max (-a.1) a.2 then ((0, 0), 13) else ((a.1 * k / 2 ^ s.toNat, a.2 * k / 2 ^ s.toNat), 0) := rfl
    have e2 : ∀ x, val1 33 k s x = if x ≠ 0 ∧ k > 4611686018427387904 / max x (-x) then (0, 13) else (x * k / 2 ^ s.toNat, 0) := fun _ => rfl
    by_cases hm : max (-a.1) a.2 ≠ 0 ∧ k > 4611686018427387904 / max (-a.1) a.2
    · rw [e1, if_pos hm] at he; exact absurd he (by decide)
    · rw [e1, if_neg hm]
      have f : ∀ x, has a x → (val1 33 k s x).1 = x * k / 2 ^ s.toNat := fun x hx => by
        have h := (v x hx).1
        rw [e2] at h ⊢
        by_cases hn : x ≠ 0 ∧ k > 4611686018427387904 / max x (-x)
        · rw [if_pos hn] at h; exact absurd h (by decide)
        · rw [if_neg hn]
      exact ⟨⟨0, by decide, f a.1 ⟨Int.le_refl _, ha'.1⟩⟩, ⟨1, by decide, f a.2 ⟨ha'.1, Int.le_refl _⟩⟩⟩
theorem ends3 (op : Int) (a b c : Int × Int) : (op = 26 ∨ op = 27) →
    val3 op (pick 0 0 a) (pick 0 1 b) (pick 0 2 c) = (span3 op a b c).1 ∧ val3 op (pick 7 0 a) (pick 7 1 b) (pick 7 2 c) = (span3 op a b c).2 := by
  rintro (rfl | rfl) <;> exact ⟨rfl, rfl⟩
theorem ends2 (op : Int) (a b : Int × Int) (ho : op = 8 ∨ op = 9 ∨ op = 10 ∨ op = 11 ∨ op = 13 ∨ op = 14 ∨ op = 24 ∨ op = 25) (ha : whole a = true) (hb : whole b = true) (he : (span2 op a b).2 = 0) :
    (∃ m : Nat, m < 8 ∧ (val2 op (pick m 0 a) (pick m 1 b)).1 = (span2 op a b).1.1) ∧ ∃ m : Nat, m < 8 ∧ (val2 op (pick m 0 a) (pick m 1 b)).1 = (span2 op a b).1.2 := by
  have ha' := ha; rw [whole_iff] at ha'
  have hb' := hb; rw [whole_iff] at hb'
  have hv := fun m => holds2 op a b (pick m 0 a) (pick m 1 b) (by omega) ha hb he (pick_has m 0 a ha'.1) (pick_has m 1 b hb'.1)
  rcases ho with rfl | rfl | rfl | rfl | rfl | rfl | rfl | rfl
  · exact ⟨⟨0, by decide, rfl⟩, ⟨3, by decide, rfl⟩⟩
  · exact ⟨⟨2, by decide, rfl⟩, ⟨1, by decide, rfl⟩⟩
  · exact corn_end (· * ·) a b
  · have e1 : span2 11 a b = if b.1 ≤ 0 ∧ 0 ≤ b.2 then ((0, 0), 12) else (corn Int.tdiv a b, 0) := rfl
    have e2 : ∀ x y, val2 11 x y = if y = 0 then (0, 12) else (x.tdiv y, 0) := fun _ _ => rfl
    by_cases h : b.1 ≤ 0 ∧ 0 ≤ b.2
    · rw [e1, if_pos h] at he; exact absurd he (by decide)
    · have f : ∀ m, (val2 11 (pick m 0 a) (pick m 1 b)).1 = Int.tdiv (pick m 0 a) (pick m 1 b) := fun m => by
        have h := (hv m).1
        rw [e2] at h ⊢
        by_cases hn : pick m 1 b = 0
        · rw [if_pos hn] at h; exact absurd h (by decide)
        · rw [if_neg hn]
      rw [e1, if_neg h]
      simp only [f]
      exact corn_end Int.tdiv a b
  · have e1 : span2 13 a b = if b.1 < 0 ∨ b.2 > 31 then ((0, 0), 13) else (corn (fun x y => x * 2 ^ y.toNat) a b, 0) := rfl
    have e2 : ∀ x y, val2 13 x y = if y < 0 ∨ y > 31 then (0, 13) else (x * 2 ^ y.toNat, 0) := fun _ _ => rfl
    by_cases h : b.1 < 0 ∨ b.2 > 31
    · rw [e1, if_pos h] at he; exact absurd he (by decide)
    · have f : ∀ m, (val2 13 (pick m 0 a) (pick m 1 b)).1 = (fun x y : Int => x * 2 ^ y.toNat) (pick m 0 a) (pick m 1 b) := fun m => by
        have h := (hv m).1
        rw [e2] at h ⊢
        by_cases hn : pick m 1 b < 0 ∨ pick m 1 b > 31
        · rw [if_pos hn] at h; exact absurd h (by decide)
        · rw [if_neg hn]
      rw [e1, if_neg h]
      simp only [f]
      exact corn_end (fun x y => x * 2 ^ y.toNat) a b
  · have e1 : span2 14 a b = if b.1 < 0 ∨ b.2 > 31 then ((0, 0), 13) else (corn (fun x y => x / 2 ^ y.toNat) a b, 0) := rfl
    have e2 : ∀ x y, val2 14 x y = if y < 0 ∨ y > 31 then (0, 13) else (x / 2 ^ y.toNat, 0) := fun _ _ => rfl
    by_cases h : b.1 < 0 ∨ b.2 > 31
    · rw [e1, if_pos h] at he; exact absurd he (by decide)
    · have f : ∀ m, (val2 14 (pick m 0 a) (pick m 1 b)).1 = (fun x y : Int => x / 2 ^ y.toNat) (pick m 0 a) (pick m 1 b) := fun m => by
        have h := (hv m).1
        rw [e2] at h ⊢
        by_cases hn : pick m 1 b < 0 ∨ pick m 1 b > 31
        · rw [if_pos hn] at h; exact absurd h (by decide)
        · rw [if_neg hn]
      rw [e1, if_neg h]
      simp only [f]
      exact corn_end (fun x y => x / 2 ^ y.toNat) a b
  · exact ⟨⟨0, by decide, rfl⟩, ⟨3, by decide, rfl⟩⟩
  · exact ⟨⟨0, by decide, rfl⟩, ⟨3, by decide, rfl⟩⟩
end Dk
