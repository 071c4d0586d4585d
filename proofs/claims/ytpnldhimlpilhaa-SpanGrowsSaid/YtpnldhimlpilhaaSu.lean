/- Plain arithmetic of spans (no program in sight): narrower arguments, narrower span. -/
import Derived.Test.YtpnldhimlpilhaaSr
namespace Dk
open Go Go.RowKit

/-- within, and not empty -/
def sub (a b : Int × Int) : Prop := b.1 ≤ a.1 ∧ a.1 ≤ a.2 ∧ a.2 ≤ b.2
theorem sub_has {a b : Int × Int} {x : Int} (h : sub a b) (hx : has a x) : has b x := by unfold sub has at *; omega
theorem sub_whole {a b : Int × Int} (h : sub a b) (hb : whole b = true) : whole a = true := by rw [whole_iff] at *; unfold sub at h; omega
theorem digs_sub {a b a' b' : Int × Int} (ha : sub a' a) (hb : sub b' b) : digs a' b' ≤ digs a b := by
  have h := (digs_le a b (digs a b)).mp (Nat.le_refl _)
  unfold sub at ha hb
  rw [digs_le]; omega
theorem both_sub {a b a' b' : Int × Int} (ha : sub a' a) (hb : sub b' b) : (both a b).1 ≤ (both a' b').1 ∧ (both a' b').2 ≤ (both a b).2 := by
  have hd := pow_mono (digs_sub ha hb)
  have h := (digs_le a b (digs a b)).mp (Nat.le_refl _)
  have hp := pow_pos' (digs a b)
  have hp' := pow_pos' (digs a' b')
  unfold sub at ha hb
  unfold both
  by_cases h1 : a.1 ≥ 0 ∧ b.1 ≥ 0
  · rw [if_pos h1, if_pos (by omega)]; simp only; omega
  · rw [if_neg h1]
    by_cases h2 : a.1 ≥ 0
    · rw [if_pos h2]
      by_cases h3 : a'.1 ≥ 0 ∧ b'.1 ≥ 0
      · rw [if_pos h3]; simp only; omega
      · rw [if_neg h3, if_pos (by omega)]; simp only; omega
    · rw [if_neg h2]
      by_cases h4 : b.1 ≥ 0
      · rw [if_pos h4]
        by_cases h3 : a'.1 ≥ 0 ∧ b'.1 ≥ 0
        · rw [if_pos h3]; simp only; omega
        · rw [if_neg h3, if_neg (by omega), if_pos (by omega)]; simp only; omega
      · rw [if_neg h4]
        repeat' split
        all_goals (simp only; omega)
theorem either_sub (op : Int) {a b a' b' : Int × Int} (ha : sub a' a) (hb : sub b' b) : (either op a b).1 ≤ (either op a' b').1 ∧ (either op a' b').2 ≤ (either op a b).2 := by
  have hd := pow_mono (digs_sub ha hb)
  have hp := pow_pos' (digs a b)
  have hp' := pow_pos' (digs a' b')
  unfold sub at ha hb
  unfold either
  by_cases h1 : a.1 ≥ 0 ∧ b.1 ≥ 0
  · have h2 : a'.1 ≥ 0 ∧ b'.1 ≥ 0 := by omega
    rw [if_pos h1, if_pos h2]
    by_cases h6 : op = 16
    · rw [if_pos h6, if_pos h6]; simp only; omega
    · rw [if_neg h6, if_neg h6]; simp only; omega
  · rw [if_neg h1]
    by_cases h2 : a'.1 ≥ 0 ∧ b'.1 ≥ 0
    · rw [if_pos h2]
      by_cases h6 : op = 16
      · rw [if_pos h6]; simp only; omega
      · rw [if_neg h6]; simp only; omega
    · rw [if_neg h2]; simp only; omega
theorem tells_sub {al ne al' ne' : Bool} (h1 : al = true → al' = true) (h2 : ne = true → ne' = true) (h3 : ¬ (al' = true ∧ ne' = true)) : (tells al ne).1 ≤ (tells al' ne').1 ∧ (tells al' ne').2 ≤ (tells al ne).2 := by
  revert h1 h2 h3
  cases al <;> cases ne <;> cases al' <;> cases ne' <;> decide
theorem cmp_sub (op : Int) {a b a' b' : Int × Int} (ha : sub a' a) (hb : sub b' b) : (cmp op a b).1 ≤ (cmp op a' b').1 ∧ (cmp op a' b').2 ≤ (cmp op a b).2 := by
  unfold sub at ha hb
  unfold cmp
  repeat' split
  all_goals
    refine tells_sub ?_ ?_ ?_ <;> simp only [decide_eq_true_eq] <;> omega
theorem le_of_has {a : Int × Int} {x : Int} (h : has a x) : a.1 ≤ a.2 := by unfold has at h; omega
theorem self_has {a : Int × Int} (h : a.1 ≤ a.2) : has a a.1 := ⟨Int.le_refl _, h⟩
theorem grows1 (op k s : Int) (a a' : Int × Int) (ho : op = 5 ∨ op = 6 ∨ op = 7 ∨ op = 29 ∨ op = 30 ∨ op = 31 ∨ op = 32 ∨ op = 33) (hc : consts op k s = true) (ha : whole a = true) (hs : sub a' a) (he : (span1 op k s a).2 = 0) :
    (span1 op k s a').2 = 0 ∧ sub (span1 op k s a').1 (span1 op k s a).1 := by
  have ha' := sub_whole hs ha
  have he' : (span1 op k s a').2 = 0 := by
    rcases ho with rfl | rfl | rfl | rfl | rfl | rfl | rfl | rfl
    · rfl
    · rfl
    · rfl
    · rfl
    · rfl
    · rfl
    · rfl
    · have e : ∀ a : Int × Int, span1 33 k s a = if max (-a.1) a.2 ≠ 0 ∧ k > 4611686018427387904 / max (-a.1) a.2 then ((0, 0), 13) else ((a.1 * k / 2 ^ s.toNat, a.2 * k / 2 ^ s.toNat), 0) := fun _ => rfl
      rw [e] at he ⊢
      by_cases hm : max (-a.1) a.2 ≠ 0 ∧ k > 4611686018427387904 / max (-a.1) a.2
      · rw [if_pos hm] at he; exact absurd he (by decide)
      · have w1 := ha; have w2 := ha'; rw [whole_iff] at w1 w2; unfold sub at hs
        rw [if_neg]
        rintro ⟨h0, h1⟩
        apply hm
        refine ⟨by omega, ?_⟩
        have := (@ediv_div 4611686018427387904 (max (-a'.1) a'.2) (max (-a.1) a.2) (by omega) (by omega)).1 (by decide)
        omega
  refine ⟨he', ?_⟩
  have w' := ha'; rw [whole_iff] at w'
  have hle := le_of_has (holds1 op k s a' a'.1 ho hc ha' he' (self_has w'.1)).2
  suffices h : (span1 op k s a).1.1 ≤ (span1 op k s a').1.1 ∧ (span1 op k s a').1.2 ≤ (span1 op k s a).1.2 from ⟨h.1, hle, h.2⟩
  by_cases ht : op = 6 ∨ op = 31
  · rcases ht with rfl | rfl
    · have e : ∀ a : Int × Int, (span1 6 k s a).1 = if a.1 ≥ 0 then a else (max 0 (-a.2), max (-a.1) a.2) := fun _ => rfl
      rw [e, e]; unfold sub at hs
      repeat' split
      all_goals (first | omega | (simp only; omega))
    · have e : ∀ a : Int × Int, (span1 31 k s a).1 = both a (k, k) := fun _ => rfl
      rw [e, e]
      exact both_sub hs ⟨Int.le_refl _, Int.le_refl _, Int.le_refl _⟩
  · obtain ⟨⟨m, _, h1⟩, ⟨n, _, h2⟩⟩ := ends1 op k s a' (by omega) hc ha' he'
    have g1 := (holds1 op k s a _ ho hc ha he (sub_has hs (pick_has m 0 a' w'.1))).2
    have g2 := (holds1 op k s a _ ho hc ha he (sub_has hs (pick_has n 0 a' w'.1))).2
    rw [h1] at g1; rw [h2] at g2
    exact ⟨g1.1, g2.2⟩
theorem grows2 (op : Int) (a b a' b' : Int × Int) (ho : op = 8 ∨ op = 9 ∨ op = 10 ∨ op = 11 ∨ op = 12 ∨ op = 13 ∨ op = 14 ∨ op = 15 ∨ op = 16 ∨ op = 17 ∨ op = 18 ∨ op = 19 ∨ op = 20 ∨ op = 21 ∨ op = 22 ∨ op = 23 ∨ op = 24 ∨ op = 25)
    (ha : whole a = true) (hb : whole b = true) (hs : sub a' a) (ht : sub b' b) (he : (span2 op a b).2 = 0) :
    (span2 op a' b').2 = 0 ∧ sub (span2 op a' b').1 (span2 op a b).1 := by
  have ha' := sub_whole hs ha
  have hb' := sub_whole ht hb
  have s' := hs; have t' := ht; unfold sub at s' t'
  have eD : ∀ a b : Int × Int, span2 11 a b = if b.1 ≤ 0 ∧ 0 ≤ b.2 then ((0, 0), 12) else (corn Int.tdiv a b, 0) := fun _ _ => rfl
  have eM : ∀ a b : Int × Int, span2 12 a b = if b.1 ≤ 0 ∧ 0 ≤ b.2 then ((0, 0), 12) else ((min 0 (max a.1 (-(max (-b.1) b.2 - 1))), max 0 (min a.2 (max (-b.1) b.2 - 1))), 0) := fun _ _ => rfl
  have eL : ∀ a b : Int × Int, span2 13 a b = if b.1 < 0 ∨ b.2 > 31 then ((0, 0), 13) else (corn (fun x y => x * 2 ^ y.toNat) a b, 0) := fun _ _ => rfl
  have eR : ∀ a b : Int × Int, span2 14 a b = if b.1 < 0 ∨ b.2 > 31 then ((0, 0), 13) else (corn (fun x y => x / 2 ^ y.toNat) a b, 0) := fun _ _ => rfl
  have he' : (span2 op a' b').2 = 0 := by
    by_cases hq : op = 11 ∨ op = 12
    · rcases hq with rfl | rfl
      · rw [eD] at he ⊢
        by_cases h : b.1 ≤ 0 ∧ 0 ≤ b.2
        · rw [if_pos h] at he; exact absurd he (by decide)
        · rw [if_neg (by omega)]
      · rw [eM] at he ⊢
        by_cases h : b.1 ≤ 0 ∧ 0 ≤ b.2
        · rw [if_pos h] at he; exact absurd he (by decide)
        · rw [if_neg (by omega)]
    · by_cases hq' : op = 13 ∨ op = 14
      · rcases hq' with rfl | rfl
        · rw [eL] at he ⊢
          by_cases h : b.1 < 0 ∨ b.2 > 31
          · rw [if_pos h] at he; exact absurd he (by decide)
          · rw [if_neg (by omega)]
        · rw [eR] at he ⊢
          by_cases h : b.1 < 0 ∨ b.2 > 31
          · rw [if_pos h] at he; exact absurd he (by decide)
          · rw [if_neg (by omega)]
      · unfold span2
        rw [if_neg hq, if_neg hq']
        repeat' split
        all_goals rfl
  refine ⟨he', ?_⟩
  have w' := ha'; rw [whole_iff] at w'
  have v' := hb'; rw [whole_iff] at v'
  have hle := le_of_has (holds2 op a' b' a'.1 b'.1 ho ha' hb' he' (self_has w'.1) (self_has v'.1)).2
  suffices h : (span2 op a b).1.1 ≤ (span2 op a' b').1.1 ∧ (span2 op a' b').1.2 ≤ (span2 op a b).1.2 from ⟨h.1, hle, h.2⟩
  by_cases hn : op = 8 ∨ op = 9 ∨ op = 10 ∨ op = 11 ∨ op = 13 ∨ op = 14 ∨ op = 24 ∨ op = 25
  · obtain ⟨⟨m, _, h1⟩, ⟨n, _, h2⟩⟩ := ends2 op a' b' hn ha' hb' he'
    have g1 := (holds2 op a b _ _ ho ha hb he (sub_has hs (pick_has m 0 a' w'.1)) (sub_has ht (pick_has m 1 b' v'.1))).2
    have g2 := (holds2 op a b _ _ ho ha hb he (sub_has hs (pick_has n 0 a' w'.1)) (sub_has ht (pick_has n 1 b' v'.1))).2
    rw [h1] at g1; rw [h2] at g2
    exact ⟨g1.1, g2.2⟩
  · have hm : op = 12 ∨ op = 15 ∨ op = 16 ∨ op = 17 ∨ op = 18 ∨ op = 19 ∨ op = 20 ∨ op = 21 ∨ op = 22 ∨ op = 23 := by omega
    rcases hm with rfl | rfl | rfl | rfl | rfl | rfl | rfl | rfl | rfl | rfl
    · rw [eM] at he he' ⊢
      rw [eM]
      by_cases h : b.1 ≤ 0 ∧ 0 ≤ b.2
      · rw [if_pos h] at he; exact absurd he (by decide)
      · rw [if_neg h, if_neg (by omega)]; simp only; omega
    · exact both_sub hs ht
    · exact either_sub 16 hs ht
    · exact either_sub 17 hs ht
    · exact cmp_sub 18 hs ht
    · exact cmp_sub 19 hs ht
    · exact cmp_sub 20 hs ht
    · exact cmp_sub 21 hs ht
    · exact cmp_sub 22 hs ht
    · exact cmp_sub 23 hs ht
theorem grows3 (op : Int) (a b c a' b' c' : Int × Int) (ho : op = 26 ∨ op = 27 ∨ op = 28) (hs : sub a' a) (ht : sub b' b) (hu : sub c' c) : sub (span3 op a' b' c') (span3 op a b c) := by
  unfold sub at *
  rcases ho with rfl | rfl | rfl
  · have e : ∀ a b c : Int × Int, span3 26 a b c = (min (max a.1 b.1) c.1, min (max a.2 b.2) c.2) := fun _ _ _ => rfl
    rw [e, e]; simp only; omega
  · have e : ∀ a b c : Int × Int, span3 27 a b c = (mid a.1 b.1 c.1, mid a.2 b.2 c.2) := fun _ _ _ => rfl
    rw [e, e]; unfold mid; simp only; omega
  · have e : ∀ a b c : Int × Int, span3 28 a b c = if ¬ (a.1 ≤ 0 ∧ 0 ≤ a.2) then b else if a.1 = 0 ∧ a.2 = 0 then c else (min b.1 c.1, max b.2 c.2) := fun _ _ _ => rfl
    rw [e, e]
    repeat' split
    all_goals (first | omega | (simp only; omega))
end Dk
