/- What the printed reference of layer 4 (Value) comes to, by the plain words. -/
import Derived.Test.YtpnldhimlpilhaaSe
import Derived.Test.YtpnldhimlpilhaaFdamaskref045
namespace Go.Proofs.Ytpnldhimlpilhaa.Pure
open Go.RowKit Go.Proofs.Ytpnldhimlpilhaa.F Go.Proofs.YtpnldhimlpilhaaW.PrintWords Go.Proofs.YtpnldhimlpilhaaW.PrintLast Go.Proofs.YtpnldhimlpilhaaW.PrintMore

theorem ops1 (op : Int) (ha : Dk.arity op = 1) : op = 5 ∨ op = 6 ∨ op = 7 ∨ op = 29 ∨ op = 30 ∨ op = 31 ∨ op = 32 ∨ op = 33 := by
  unfold Dk.arity at ha; repeat' split at ha
  all_goals first | omega | (exfalso; omega)
theorem ops2 (op : Int) (ha : Dk.arity op = 2) : op = 8 ∨ op = 9 ∨ op = 10 ∨ op = 11 ∨ op = 12 ∨ op = 13 ∨ op = 14 ∨ op = 15 ∨ op = 16 ∨ op = 17 ∨ op = 18 ∨ op = 19 ∨ op = 20 ∨ op = 21 ∨ op = 22 ∨ op = 23 ∨ op = 24 ∨ op = 25 := by
  unfold Dk.arity at ha; repeat' split at ha
  all_goals first | omega | (exfalso; omega)
theorem ops3 (op : Int) (ha : Dk.arity op = 3) : op = 26 ∨ op = 27 ∨ op = 28 := by
  unfold Dk.arity at ha; repeat' split at ha
  all_goals first | omega | (exfalso; omega)
theorem bit_sgn (a : Int) : Dk.bit (decide (a > 0)) - Dk.bit (decide (a < 0)) = Dk.sgn a := by
  unfold Dk.bit Dk.sgn
  by_cases h : a < 0
  · simp [h, show ¬ a > 0 by omega]
  · by_cases h0 : a = 0
    · subst h0; decide
    · simp [h, h0, show a > 0 by omega]
theorem plain_one (n : Nat) (op k s a : Int) (ha : Dk.arity op = 1) (hc : Dk.consts op k s = true) (h1 : -2147483648 ≤ a ∧ a ≤ 2147483647) :
    damaskref04_plain.f (n + 90) op k s [a] = some (Dk.val1 op k s a) := by
  rcases ops1 op ha with rfl | rfl | rfl | rfl | rfl | rfl | rfl | rfl
  · show some (wrap64 (-a), 0) = some (-a, 0); rw [neg_code a h1]
  · show ((damaskref04_size.f a).bind fun t => some (t, 0)) = some (max a (-a), 0); rw [ref_size a h1]; rfl
  · show ((damaskref04_truth.f (decide (a > 0))).bind fun t => (damaskref04_truth.f (decide (a < 0))).bind fun u => some (wrap64 (t - u), 0)) = some (Dk.sgn a, 0)
    rw [ref_truth, ref_truth]
    show some (wrap64 (Dk.bit (decide (a > 0)) - Dk.bit (decide (a < 0))), 0) = _
    rw [bit_sgn, Dk.wrap64_of _ (by unfold Dk.sgn; repeat' split <;> omega)]
  · have hk : 0 ≤ k ∧ k ≤ 31 := by simpa [Dk.consts] using hc
    show ((damaskref04_Power.f (n + 86) k).bind fun t => some (wrap64 (a * t), 0)) = some (a * 2 ^ k.toNat, 0)
    rw [ref_power (n + 23) k (by omega)]
    have hp := Dk.pow_le31 k.toNat (by omega)
    have := Dk.mul_bound (a := a) (b := 2 ^ k.toNat) (A := 2147483648) (B := 2147483648) (by omega) (by omega) (by omega) (by omega)
    show some (wrap64 (a * 2 ^ k.toNat), 0) = _
    rw [Dk.wrap64_of _ (by omega)]
  · have hk : 0 ≤ k ∧ k ≤ 31 := by simpa [Dk.consts] using hc
    have hp := Dk.pow_le31 k.toNat (by omega)
    show ((damaskref04_Power.f (n + 86) k).bind fun t => (damaskref04_Floor.f a t).bind fun u => some (u, 0)) = some (a / 2 ^ k.toNat, 0)
    rw [ref_power (n + 23) k (by omega)]
    show ((damaskref04_Floor.f a (2 ^ k.toNat)).bind fun u => some (u, (0 : Int))) = _
    rw [ref_floor a _ (by omega) (by omega)]; rfl
  · have hk : 0 ≤ k ∧ k ≤ 2147483647 := by simpa [Dk.consts] using hc
    show ((damaskref04_bitwise.f (n + 85) 15 a k).bind fun t => some (t, 0)) = some (Dk.band a k, 0)
    rw [ref_band (n + 50) a k h1 (by omega)]; rfl
  · have hk : -2147483648 ≤ k ∧ k ≤ 2147483647 := by simpa [Dk.consts, Dk.word] using hc
    show some (wrap64 (a * k), 0) = some (a * k, 0)
    have := Dk.mul_bound (a := a) (b := k) (A := 2147483648) (B := 2147483648) (by omega) (by omega) (by omega) (by omega)
    rw [Dk.wrap64_of _ (by omega)]
  · have hk : 1 ≤ k ∧ k ≤ 4611686018427387904 ∧ 0 ≤ s ∧ s ≤ 62 := by simpa [Dk.consts] using hc
    have hp := Dk.pow_le62 s.toNat (by omega)
    show (if a = 0 then damaskref04_plain.j6 (n + 85) k s a false else ((damaskref04_size.f a).bind fun t => if t = 0 then none else damaskref04_plain.j6 (n + 85) k s a (decide (k > wrap64 (Int.tdiv 4611686018427387904 t))))) = some (if a ≠ 0 ∧ k > 4611686018427387904 / max a (-a) then (0, 13) else (a * k / 2 ^ s.toNat, 0))
    have e0 : damaskref04_plain.j6 (n + 85) k s a false = ((damaskref04_Power.f (n + 84) s).bind fun t => (damaskref04_Floor.f (wrap64 (a * k)) t).bind fun u => some (u, 0)) := rfl
    have fl : ¬ (a ≠ 0 ∧ k > 4611686018427387904 / max a (-a)) → damaskref04_plain.j6 (n + 85) k s a false = some (a * k / 2 ^ s.toNat, 0) := by
      intro hb
      have hm := muls_bound a k hb (by omega)
      rw [e0, ref_power (n + 21) s (by omega)]
      show ((damaskref04_Floor.f (wrap64 (a * k)) (2 ^ s.toNat)).bind fun u => some (u, (0 : Int))) = _
      rw [Dk.wrap64_of _ (by omega), ref_floor (a * k) _ hm (by omega)]; rfl
    by_cases h0 : a = 0
    · rw [if_pos h0, if_neg (by simp [h0]), fl (by simp [h0])]
    · rw [if_neg h0, ref_size a h1]
      show (if max a (-a) = 0 then none else damaskref04_plain.j6 (n + 85) k s a (decide (k > wrap64 (Int.tdiv 4611686018427387904 (max a (-a)))))) = _
      rw [if_neg (by omega)]
      have hq := muls_quo a h1
      rw [neg_code a h1, mx_max] at hq
      rw [hq]
      by_cases hb : k > 4611686018427387904 / max a (-a)
      · rw [if_pos ⟨h0, hb⟩, decide_eq_true hb]; rfl
      · rw [if_neg (fun h => hb h.2), decide_eq_false hb, fl (fun h => hb h.2)]
theorem plain_two (n : Nat) (op k s a b : Int) (ha : Dk.arity op = 2) (h1 : -2147483648 ≤ a ∧ a ≤ 2147483647) (h2 : -2147483648 ≤ b ∧ b ≤ 2147483647) :
    damaskref04_plain.f (n + 90) op k s [a, b] = some (Dk.val2 op a b) := by
  have hm := Dk.mul_bound (a := a) (b := b) (A := 2147483648) (B := 2147483648) (by omega) (by omega) (by omega) (by omega)
  rcases ops2 op ha with rfl | rfl | rfl | rfl | rfl | rfl | rfl | rfl | rfl | rfl | rfl | rfl | rfl | rfl | rfl | rfl | rfl | rfl
  · show some (wrap64 (a + b), 0) = some (a + b, 0); rw [Dk.wrap64_of _ (by omega)]
  · show some (wrap64 (a - b), 0) = some (a - b, 0); rw [Dk.wrap64_of _ (by omega)]
  · show some (wrap64 (a * b), 0) = some (a * b, 0); rw [Dk.wrap64_of _ (by omega)]
  · show (if b = 0 then some (0, 12) else ((damaskref04_divide.f a b).bind fun t => some (t, 0))) = some (if b = 0 then (0, 12) else (a.tdiv b, 0))
    by_cases h0 : b = 0
    · rw [if_pos h0, if_pos h0]
    · rw [if_neg h0, if_neg h0, ref_divide a b h1 h2 h0]; rfl
  · show (if b = 0 then some (0, 12) else ((damaskref04_divide.f a b).bind fun t => some (wrap64 (a - wrap64 (b * t)), 0))) = some (if b = 0 then (0, 12) else (a.tmod b, 0))
    by_cases h0 : b = 0
    · rw [if_pos h0, if_pos h0]
    · rw [if_neg h0, if_neg h0, ref_divide a b h1 h2 h0]
      show some (wrap64 (a - wrap64 (b * a.tdiv b)), 0) = _
      rw [mod_small a b h1 h0]
  · show (if b < 0 then damaskref04_plain.j4 (n + 86) 13 a b true else damaskref04_plain.j4 (n + 86) 13 a b (decide (b > 31))) = some (if b < 0 ∨ b > 31 then (0, 13) else (a * 2 ^ b.toNat, 0))
    by_cases hb : b < 0
    · rw [if_pos hb, if_pos (.inl hb)]; rfl
    · rw [if_neg hb]
      by_cases hc : b > 31
      · rw [if_pos (.inr hc), decide_eq_true hc]; rfl
      · rw [if_neg (by omega), decide_eq_false hc]
        show ((damaskref04_Power.f (n + 85) b).bind fun t => some (wrap64 (a * t), 0)) = _
        have hp := Dk.pow_le31 b.toNat (by omega)
        have := Dk.mul_bound (a := a) (b := 2 ^ b.toNat) (A := 2147483648) (B := 2147483648) (by omega) (by omega) (by omega) (by omega)
        rw [ref_power (n + 22) b (by omega)]
        show some (wrap64 (a * 2 ^ b.toNat), 0) = _
        rw [Dk.wrap64_of _ (by omega)]
  · show (if b < 0 then damaskref04_plain.j4 (n + 86) 14 a b true else damaskref04_plain.j4 (n + 86) 14 a b (decide (b > 31))) = some (if b < 0 ∨ b > 31 then (0, 13) else (a / 2 ^ b.toNat, 0))
    by_cases hb : b < 0
    · rw [if_pos hb, if_pos (.inl hb)]; rfl
    · rw [if_neg hb]
      by_cases hc : b > 31
      · rw [if_pos (.inr hc), decide_eq_true hc]; rfl
      · rw [if_neg (by omega), decide_eq_false hc]
        show ((damaskref04_Power.f (n + 85) b).bind fun t => (damaskref04_Floor.f a t).bind fun u => some (u, 0)) = _
        have hp := Dk.pow_le31 b.toNat (by omega)
        rw [ref_power (n + 22) b (by omega)]
        show ((damaskref04_Floor.f a (2 ^ b.toNat)).bind fun u => some (u, (0 : Int))) = _
        rw [ref_floor a _ (by omega) (by omega)]; rfl
  · show ((damaskref04_bitwise.f (n + 85) 15 a b).bind fun t => some (t, 0)) = some (Dk.band a b, 0)
    rw [ref_band (n + 50) a b h1 h2]; rfl
  · show ((damaskref04_bitwise.f (n + 85) 16 a b).bind fun t => some (t, 0)) = some (Dk.bor a b, 0)
    rw [ref_bor (n + 50) a b h1 h2]; rfl
  · show ((damaskref04_bitwise.f (n + 85) 17 a b).bind fun t => some (t, 0)) = some (Dk.bxor a b, 0)
    rw [ref_bxor (n + 50) a b h1 h2]; rfl
  · show (((damaskref04_truth.f (decide (a < b))).bind fun t => some t).bind fun t => some (t, 0)) = some (Dk.bit (decide (a < b)), 0)
    rw [ref_truth]; rfl
  · show (((damaskref04_truth.f (!decide (b < a))).bind fun t => some t).bind fun t => some (t, 0)) = some (Dk.bit (decide (a ≤ b)), 0)
    rw [ref_truth, show (!decide (b < a)) = decide (a ≤ b) by rw [Bool.eq_iff_iff]; simp]; rfl
  · show (((damaskref04_truth.f (decide (b < a))).bind fun t => some t).bind fun t => some (t, 0)) = some (Dk.bit (decide (b < a)), 0)
    rw [ref_truth]; rfl
  · show (((damaskref04_truth.f (!decide (a < b))).bind fun t => some t).bind fun t => some (t, 0)) = some (Dk.bit (decide (b ≤ a)), 0)
    rw [ref_truth, show (!decide (a < b)) = decide (b ≤ a) by rw [Bool.eq_iff_iff]; simp]; rfl
  · show (((damaskref04_truth.f (a == b)).bind fun t => some t).bind fun t => some (t, 0)) = some (Dk.bit (decide (a = b)), 0)
    rw [ref_truth]; rfl
  · show (((damaskref04_truth.f (a != b)).bind fun t => some t).bind fun t => some (t, 0)) = some (Dk.bit (decide (a ≠ b)), 0)
    rw [ref_truth, show (a != b) = decide (a ≠ b) by rw [Bool.eq_iff_iff]; simp]; rfl
  · show ((if b < a then some b else some a).bind fun t => some (t, 0)) = some (min a b, 0)
    split
    · rw [show min a b = b by omega]; rfl
    · rw [show min a b = a by omega]; rfl
  · show ((if b > a then some b else some a).bind fun t => some (t, 0)) = some (max a b, 0)
    split
    · rw [show max a b = b by omega]; rfl
    · rw [show max a b = a by omega]; rfl
theorem chosen_clamp (n : Nat) (a b c : Int) : damaskref04_chosen.f (n + 1) 26 a b c = some (min (max a b) c) := by
  show (if a < b then damaskref04_chosen.j0 (n + 1) c b else damaskref04_chosen.j0 (n + 1) c a) = _
  have e : ∀ x, damaskref04_chosen.j0 (n + 1) c x = some (min x c) := by
    intro x
    show (if x > c then some c else some x) = _
    split <;> congr 1 <;> omega
  rw [e, e]
  split <;> congr 1 <;> omega
theorem chosen_med (n : Nat) (a b c : Int) : damaskref04_chosen.f (n + 2) 27 a b c = some (Dk.mid a b c) := by
  have e1 : ∀ x y t, damaskref04_chosen.j2 (n + 1) x y t = some (if t = true then x else y) := by intro x y t; cases t <;> rfl
  have e2 : ∀ t, damaskref04_chosen.j1 (n + 2) a b c t = if t = true then some a else (if a ≤ b then (if b ≤ c then some b else if c ≤ b then some (if b ≤ a then b else c) else some c) else (if c ≤ b then some (if b ≤ a then b else c) else some c)) := by
    intro t
    show (if t = true then some a else (if a ≤ b then (if b ≤ c then damaskref04_chosen.j2 (n + 1) b c true else if c ≤ b then damaskref04_chosen.j2 (n + 1) b c (decide (b ≤ a)) else damaskref04_chosen.j2 (n + 1) b c false) else (if c ≤ b then damaskref04_chosen.j2 (n + 1) b c (decide (b ≤ a)) else damaskref04_chosen.j2 (n + 1) b c false))) = _
    simp only [e1, decide_eq_true_iff]; rfl
  show (if b ≤ a then (if a ≤ c then damaskref04_chosen.j1 (n + 2) a b c true else if c ≤ a then damaskref04_chosen.j1 (n + 2) a b c (decide (a ≤ b)) else damaskref04_chosen.j1 (n + 2) a b c false) else (if c ≤ a then damaskref04_chosen.j1 (n + 2) a b c (decide (a ≤ b)) else damaskref04_chosen.j1 (n + 2) a b c false)) = _
  simp only [e2, decide_eq_true_iff, if_true, Bool.false_eq_true, if_false]
  unfold Dk.mid
  repeat' split
  all_goals (congr 1; omega)
theorem plain_three (n : Nat) (op k s a b c : Int) (ha : Dk.arity op = 3) : damaskref04_plain.f (n + 90) op k s [a, b, c] = some (Dk.val3 op a b c, 0) := by
  rcases ops3 op ha with rfl | rfl | rfl
  · show ((damaskref04_chosen.f (n + 85) 26 a b c).bind fun t => some (t, 0)) = some (min (max a b) c, 0)
    rw [chosen_clamp (n + 84)]; rfl
  · show ((damaskref04_chosen.f (n + 85) 27 a b c).bind fun t => some (t, 0)) = some (Dk.mid a b c, 0)
    rw [chosen_med (n + 83)]; rfl
  · show ((if a = 0 then some c else some b).bind fun t => some (t, 0)) = some (if a = 0 then c else b, 0)
    split <;> rfl
theorem ref_l0_step (k : Nat) (op a s : Int) (l : List Int) (i : Int) (h0 : 0 ≤ i) (h : i < (l.length : Int)) : damaskref04_Value.l0 (k + 1) op a s l i =
    (damaskref04_Word.f (rd l i)).bind fun t => if t = true then damaskref04_Value.l0 k op a s l (wrap64 (i + 1)) else some (0, 1) := by
  simp only [damaskref04_Value.l0]; rw [if_pos h, if_pos h0]
theorem ref_l0_end (k : Nat) (op a s : Int) (l : List Int) (i : Int) (h : ¬ i < (l.length : Int)) (p : Int × Int) (hp : damaskref04_plain.f k op a s l = some p) : damaskref04_Value.l0 (k + 1) op a s l i = some (Dk.fin p) := by
  simp only [damaskref04_Value.l0]; rw [if_neg h, hp]
  obtain ⟨x, e⟩ := p
  show (if e = 0 then (damaskref04_Word.f x).bind fun t => if t = true then some (x, 0) else some (0, 13) else some (0, e)) = _
  unfold Dk.fin
  by_cases he : e = 0
  · subst he; rw [if_pos rfl, if_pos rfl, ref_word_code]
    show (if Dk.word x = true then some (x, 0) else some (0, 13)) = _
    split <;> rfl
  · rw [if_neg he, if_neg he]
theorem ref_Value_code (k : Nat) (op a s : Int) (l : List Int) : damaskref04_Value.f (k + 100) op a s l = some (Dk.value op a s l) := by
  have eA : damaskref04_Arity.f (k + 100) op = some (Dk.arity op) := ref_arity_code (k + 97) op
  have eC : damaskref04_Constants.f (k + 100) op a s = some (Dk.consts op a s) := ref_consts_code (k + 97) op a s
  unfold damaskref04_Value.f Dk.value
  simp only [eA, eC, Option.bind_some]
  by_cases h1 : Dk.arity op < 1
  · rw [if_pos h1, if_pos (.inl h1)]; rfl
  rw [if_neg h1]
  by_cases h2 : (l.length : Int) = Dk.arity op
  · rw [if_pos h2]
    cases h3 : Dk.consts op a s
    · rw [if_pos (.inr (.inr (.inl rfl)))]; rfl
    · have h4 : Dk.arity op ≤ 3 := by unfold Dk.arity; repeat' split <;> omega
      show damaskref04_Value.l0 (k + 99) op a s l 0 = _
      rcases l with _ | ⟨x, _ | ⟨y, _ | ⟨z, _ | ⟨u, l⟩⟩⟩⟩
      · simp at h2; omega
      · rw [ref_l0_step _ _ _ _ _ _ (by omega) (by simp), w01]
        show ((damaskref04_Word.f x).bind fun t => if t = true then damaskref04_Value.l0 (k + 98) op a s [x] 1 else some (0, 1)) = _
        rw [ref_word_code]
        show (if Dk.word x = true then _ else _) = _
        cases hx : Dk.word x
        · rw [if_neg (by decide), if_pos (.inr (.inr (.inr (by simp [hx]))))]
        · rw [if_pos rfl, if_neg (by simp [hx]; simp at h2; omega), ref_l0_end _ _ _ _ _ _ (by simp) _ (plain_one (k + 7) op a s x (by simp at h2; omega) h3 ((Dk.word_iff x).mp hx))]
      · rw [ref_l0_step _ _ _ _ _ _ (by omega) (by simp), w01, ref_l0_step _ _ _ _ _ _ (by omega) (by simp), w12]
        show ((damaskref04_Word.f x).bind fun t => if t = true then ((damaskref04_Word.f y).bind fun t => if t = true then damaskref04_Value.l0 (k + 97) op a s [x, y] 2 else some (0, 1)) else some (0, 1)) = _
        rw [ref_word_code, ref_word_code]
        show (if Dk.word x = true then (if Dk.word y = true then _ else _) else _) = _
        cases hx : Dk.word x
        · rw [if_neg (by decide), if_pos (.inr (.inr (.inr (by simp [hx]))))]
        · cases hy : Dk.word y
          · rw [if_pos rfl, if_neg (by decide), if_pos (.inr (.inr (.inr (by simp [hx, hy]))))]
          · rw [if_pos rfl, if_pos rfl, if_neg (by simp [hx, hy]; simp at h2; omega), ref_l0_end _ _ _ _ _ _ (by simp) _ (plain_two (k + 6) op a s x y (by simp at h2; omega) ((Dk.word_iff x).mp hx) ((Dk.word_iff y).mp hy))]
      · rw [ref_l0_step _ _ _ _ _ _ (by omega) (by simp), w01, ref_l0_step _ _ _ _ _ _ (by omega) (by simp), w12, ref_l0_step _ _ _ _ _ _ (by omega) (by simp), w23]
        show ((damaskref04_Word.f x).bind fun t => if t = true then ((damaskref04_Word.f y).bind fun t => if t = true then ((damaskref04_Word.f z).bind fun t => if t = true then damaskref04_Value.l0 (k + 96) op a s [x, y, z] 3 else some (0, 1)) else some (0, 1)) else some (0, 1)) = _
        rw [ref_word_code, ref_word_code, ref_word_code]
        show (if Dk.word x = true then (if Dk.word y = true then (if Dk.word z = true then _ else _) else _) else _) = _
        cases hx : Dk.word x
        · rw [if_neg (by decide), if_pos (.inr (.inr (.inr (by simp [hx]))))]
        · cases hy : Dk.word y
          · rw [if_pos rfl, if_neg (by decide), if_pos (.inr (.inr (.inr (by simp [hx, hy]))))]
          · cases hz : Dk.word z
            · rw [if_pos rfl, if_pos rfl, if_neg (by decide), if_pos (.inr (.inr (.inr (by simp [hx, hy, hz]))))]
            · rw [if_pos rfl, if_pos rfl, if_pos rfl, if_neg (by simp [hx, hy, hz]; simp at h2; omega), ref_l0_end _ _ _ _ _ _ (by simp) _ (plain_three (k + 5) op a s x y z (by simp at h2; omega))]
      · simp at h2; omega
  · rw [if_neg h2, if_pos (.inr (.inl h2))]; rfl
end Go.Proofs.Ytpnldhimlpilhaa.Pure
