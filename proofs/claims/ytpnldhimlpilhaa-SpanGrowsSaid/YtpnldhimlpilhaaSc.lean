/- What the printed functions of layer 4 come to, by the plain words: the operators. -/
import Derived.Test.YtpnldhimlpilhaaSb
import Derived.Test.YtpnldhimlpilhaaFarith2
import Derived.Test.YtpnldhimlpilhaaFarith3
import Derived.Test.YtpnldhimlpilhaaFdamasklaw041
namespace Go.Proofs.Ytpnldhimlpilhaa.Pure
open Go.RowKit Go.Proofs.Ytpnldhimlpilhaa.F Go.Proofs.YtpnldhimlpilhaaW.PrintWords Go.Proofs.YtpnldhimlpilhaaW.PrintLast Go.Proofs.YtpnldhimlpilhaaW.PrintMore

theorem mx_max (a b : Int) : mx a b = max a b := by unfold mx; omega
theorem mn_min (a b : Int) : mn a b = min a b := by unfold mn; omega
theorem shl_code (a b : Int) (h1 : -2147483648 ≤ a ∧ a ≤ 2147483647) (h2 : 0 ≤ b ∧ b ≤ 31) : shl .i64 a b = a * 2 ^ b.toNat := by
  unfold shl
  rw [Nat.min_eq_left (by simp [IntKind.bits]; omega)]
  have hp := Dk.pow_le31 b.toNat (by omega)
  have := Dk.mul_bound (a := a) (b := 2 ^ b.toNat) (A := 2147483648) (B := 2147483648) (by omega) (by omega) (by omega) (by omega)
  exact IntWalk.i64_in _ (by omega)
theorem shr_code (a b : Int) (h2 : 0 ≤ b ∧ b ≤ 62) : shr .i64 a b = a / 2 ^ b.toNat := by
  unfold shr
  rw [Nat.min_eq_left (by simp [IntKind.bits]; omega)]
theorem neg_code (a : Int) (h1 : -2147483648 ≤ a ∧ a ≤ 2147483647) : wrap64 (-a) = -a := Dk.wrap64_of _ (by omega)
theorem sgn_code (a : Int) (h1 : -2147483648 ≤ a ∧ a ≤ 2147483647) :
    Go.bits .or .i64 (a / 9223372036854775808) (wrap64 ((IntKind.u64.wrap (wrap64 (-a))) / 9223372036854775808)) = Dk.sgn a := by
  rw [neg_code a h1]
  have e : IntKind.u64.wrap (-a) = (-a) % 18446744073709551616 := by simp [IntKind.wrap, IntKind.bits, IntKind.signed]
  rw [e]
  unfold Dk.sgn
  by_cases h : a < 0
  · rw [if_pos h, show a / 9223372036854775808 = -1 by omega, show (-a) % 18446744073709551616 / 9223372036854775808 = 0 by omega]; decide +kernel
  · rw [if_neg h]
    by_cases h0 : a = 0
    · subst h0; decide +kernel
    · rw [if_neg h0, show a / 9223372036854775808 = 0 by omega, show (-a) % 18446744073709551616 / 9223372036854775808 = 1 by omega]; decide +kernel
theorem muls_quo (a : Int) (h1 : -2147483648 ≤ a ∧ a ≤ 2147483647) : wrap64 (Int.tdiv 4611686018427387904 (mx a (wrap64 (-a)))) = 4611686018427387904 / max a (-a) := by
  rw [neg_code a h1, mx_max, Int.tdiv_eq_ediv_of_nonneg (by omega)]
  have h0 : 0 ≤ max a (-a) := by omega
  have := Int.ediv_nonneg (a := 4611686018427387904) (b := max a (-a)) (by omega) h0
  have := Int.ediv_le_self (a := 4611686018427387904) (max a (-a)) (by omega)
  exact Dk.wrap64_of _ (by omega)
theorem muls_bound (a k : Int) (h : ¬ (a ≠ 0 ∧ k > 4611686018427387904 / max a (-a))) (hk : 0 ≤ k) : -4611686018427387904 ≤ a * k ∧ a * k ≤ 4611686018427387904 := by
  by_cases h0 : a = 0
  · subst h0; omega
  · have h1 : k ≤ 4611686018427387904 / max a (-a) := by
      apply Classical.byContradiction; intro hc; exact h ⟨h0, by omega⟩
    have h2 : 0 < max a (-a) := by omega
    have h3 := (Int.le_ediv_iff_mul_le h2).mp h1
    have h4 : a.natAbs = (max a (-a)).toNat := by omega
    have h5 : ((a * k).natAbs : Int) = k * max a (-a) := by rw [Int.natAbs_mul, h4, Int.natCast_mul, Int.toNat_of_nonneg (by omega), Int.natAbs_of_nonneg hk, Int.mul_comm]
    omega
theorem one_code (op k s a : Int) (ha : Dk.arity op = 1) (hc : Dk.consts op k s = true) (h1 : -2147483648 ≤ a ∧ a ≤ 2147483647) : arith_one.f op k s a = some (Dk.val1 op k s a) := by
  have hop : op = 5 ∨ op = 6 ∨ op = 7 ∨ op = 29 ∨ op = 30 ∨ op = 31 ∨ op = 32 ∨ op = 33 := by
    unfold Dk.arity at ha; repeat' split at ha
    all_goals first | omega | (exfalso; omega)
  rcases hop with rfl | rfl | rfl | rfl | rfl | rfl | rfl | rfl
  · show some (wrap64 (-a), 0) = some (-a, 0); rw [neg_code a h1]
  · show some (mx a (wrap64 (-a)), 0) = some (max a (-a), 0); rw [neg_code a h1, mx_max]
  · show some (Go.bits .or .i64 _ _, 0) = some (Dk.sgn a, 0); rw [sgn_code a h1]
  · have hk : 0 ≤ k ∧ k ≤ 31 := by simpa [Dk.consts] using hc
    show (if 0 ≤ k then some (shl .i64 a k, 0) else none) = some (a * 2 ^ k.toNat, 0); rw [if_pos hk.1, shl_code a k h1 hk]
  · have hk : 0 ≤ k ∧ k ≤ 31 := by simpa [Dk.consts] using hc
    show (if 0 ≤ k then some (shr .i64 a k, 0) else none) = some (a / 2 ^ k.toNat, 0); rw [if_pos hk.1, shr_code a k (by omega)]
  · show some (Go.bits .and .i64 a k, 0) = some (Dk.band a k, 0); rw [Dk.band_code]
  · have hk : -2147483648 ≤ k ∧ k ≤ 2147483647 := by simpa [Dk.consts, Dk.word] using hc
    show some (wrap64 (a * k), 0) = some (a * k, 0)
    have := Dk.mul_bound (a := a) (b := k) (A := 2147483648) (B := 2147483648) (by omega) (by omega) (by omega) (by omega)
    rw [Dk.wrap64_of _ (by omega)]
  · have hk : 1 ≤ k ∧ k ≤ 4611686018427387904 ∧ 0 ≤ s ∧ s ≤ 62 := by simpa [Dk.consts] using hc
    show (if a = 0 then (if 0 ≤ s then some (shr .i64 (wrap64 (a * k)) s, 0) else none) else (if mx a (wrap64 (-a)) = 0 then none else (if k > wrap64 (Int.tdiv 4611686018427387904 (mx a (wrap64 (-a)))) then some (0, 13) else (if 0 ≤ s then some (shr .i64 (wrap64 (a * k)) s, 0) else none)))) = some (if a ≠ 0 ∧ k > 4611686018427387904 / max a (-a) then (0, 13) else (a * k / 2 ^ s.toNat, 0))
    rw [muls_quo a h1, shr_code _ s (by omega), if_pos (show 0 ≤ s by omega)]
    by_cases h0 : a = 0
    · rw [if_pos h0, if_neg (by simp [h0]), Dk.wrap64_of _ (by subst h0; omega)]
    · rw [if_neg h0, if_neg (by rw [neg_code a h1, mx_max]; omega)]
      by_cases hb : k > 4611686018427387904 / max a (-a)
      · rw [if_pos hb, if_pos ⟨h0, hb⟩]
      · rw [if_neg hb, if_neg (fun h => hb h.2), Dk.wrap64_of _ (by have := muls_bound a k (fun h => hb h.2) (by omega); omega)]
theorem compared_code (op a b : Int) (h : 18 ≤ op ∧ op ≤ 23) : arith_compared.f op a b = some (Dk.val2 op a b).1 ∧ (Dk.val2 op a b).2 = 0 := by
  have hop : op = 18 ∨ op = 19 ∨ op = 20 ∨ op = 21 ∨ op = 22 ∨ op = 23 := by omega
  rcases hop with rfl | rfl | rfl | rfl | rfl | rfl
  · refine ⟨?_, rfl⟩; show (if a < b then some 1 else some 0) = some (Dk.bit (decide (a < b))); unfold Dk.bit; by_cases h : a < b <;> simp [h]
  · refine ⟨?_, rfl⟩; show (if a ≤ b then some 1 else some 0) = some (Dk.bit (decide (a ≤ b))); unfold Dk.bit; by_cases h : a ≤ b <;> simp [h]
  · refine ⟨?_, rfl⟩; show (if a > b then some 1 else some 0) = some (Dk.bit (decide (b < a))); unfold Dk.bit; by_cases h : b < a <;> simp [h]
  · refine ⟨?_, rfl⟩; show (if a ≥ b then some 1 else some 0) = some (Dk.bit (decide (b ≤ a))); unfold Dk.bit; by_cases h : b ≤ a <;> simp [h]
  · refine ⟨?_, rfl⟩; show (if a = b then some 1 else some 0) = some (Dk.bit (decide (a = b))); unfold Dk.bit; by_cases h : a = b <;> simp [h]
  · refine ⟨?_, rfl⟩; show (if a = b then some 0 else some 1) = some (Dk.bit (decide (a ≠ b))); unfold Dk.bit; by_cases h : a = b <;> simp [h]
theorem two_code (k : Nat) (op a b : Int) (ha : Dk.arity op = 2) (h1 : -2147483648 ≤ a ∧ a ≤ 2147483647) (h2 : -2147483648 ≤ b ∧ b ≤ 2147483647) : arith_two.f (k + 3) op a b = some (Dk.val2 op a b) := by
  have hr : 8 ≤ op ∧ op ≤ 25 := by
    unfold Dk.arity at ha; repeat' split at ha
    all_goals first | omega | (exfalso; omega)
  have hm := Dk.mul_bound (a := a) (b := b) (A := 2147483648) (B := 2147483648) (by omega) (by omega) (by omega) (by omega)
  have hop : op = 8 ∨ op = 9 ∨ op = 10 ∨ op = 11 ∨ op = 12 ∨ op = 13 ∨ op = 14 ∨ op = 15 ∨ op = 16 ∨ op = 17 ∨ op = 24 ∨ op = 25 ∨ (18 ≤ op ∧ op ≤ 23) := by omega
  rcases hop with rfl | rfl | rfl | rfl | rfl | rfl | rfl | rfl | rfl | rfl | rfl | rfl | h
  · show some (wrap64 (a + b), 0) = some (a + b, 0); rw [Dk.wrap64_of _ (by omega)]
  · show some (wrap64 (a - b), 0) = some (a - b, 0); rw [Dk.wrap64_of _ (by omega)]
  · show some (wrap64 (a * b), 0) = some (a * b, 0); rw [Dk.wrap64_of _ (by omega)]
  · show (if b = 0 then some (0, 12) else some (wrap64 (Int.tdiv a b), 0)) = some (if b = 0 then (0, 12) else (Int.tdiv a b, 0))
    have := Dk.tdiv_bound (a := a) (b := b) (A := 2147483648) (by omega) (by omega)
    rw [Dk.wrap64_of _ (by omega)]; split <;> rfl
  · show (if b = 0 then some (0, 12) else some (Int.tmod a b, 0)) = some (if b = 0 then (0, 12) else (Int.tmod a b, 0)); split <;> rfl
  · show (if b < 0 then arith_two.j2 (k + 1) 13 a b true else arith_two.j2 (k + 1) 13 a b (decide (b > 31))) = some (if b < 0 ∨ b > 31 then (0, 13) else (a * 2 ^ b.toNat, 0))
    by_cases hb : b < 0
    · rw [if_pos hb, if_pos (.inl hb)]; rfl
    · rw [if_neg hb]
      by_cases hc : b > 31
      · rw [if_pos (.inr hc), decide_eq_true hc]; rfl
      · rw [if_neg (by omega), decide_eq_false hc]
        show (if 0 ≤ b then some (shl .i64 a b, 0) else none) = _
        rw [if_pos (by omega), shl_code a b h1 (by omega)]
  · show (if b < 0 then arith_two.j2 (k + 1) 14 a b true else arith_two.j2 (k + 1) 14 a b (decide (b > 31))) = some (if b < 0 ∨ b > 31 then (0, 13) else (a / 2 ^ b.toNat, 0))
    by_cases hb : b < 0
    · rw [if_pos hb, if_pos (.inl hb)]; rfl
    · rw [if_neg hb]
      by_cases hc : b > 31
      · rw [if_pos (.inr hc), decide_eq_true hc]; rfl
      · rw [if_neg (by omega), decide_eq_false hc]
        show (if 0 ≤ b then some (shr .i64 a b, 0) else none) = _
        rw [if_pos (by omega), shr_code a b (by omega)]
  · show some (Go.bits .and .i64 a b, 0) = some (Dk.band a b, 0); rw [Dk.band_code]
  · show some (Go.bits .or .i64 a b, 0) = some (Dk.bor a b, 0); rw [Dk.bor_code]
  · show some (Go.bits .xor .i64 a b, 0) = some (Dk.bxor a b, 0); rw [Dk.bxor_code]
  · show some (mn a b, 0) = some (min a b, 0); rw [mn_min]
  · show some (mx a b, 0) = some (max a b, 0); rw [mx_max]
  · obtain ⟨e1, e2⟩ := compared_code op a b h
    have e3 : some (Dk.val2 op a b) = some ((Dk.val2 op a b).1, 0) := by rw [← e2]
    have hop : op = 18 ∨ op = 19 ∨ op = 20 ∨ op = 21 ∨ op = 22 ∨ op = 23 := by omega
    have e4 : arith_two.f (k + 3) op a b = (arith_compared.f op a b).bind fun t => some (t, 0) := by
      rcases hop with rfl | rfl | rfl | rfl | rfl | rfl <;> rfl
    rw [e4, e1, e3]; rfl
theorem three_code (op a b c : Int) (ha : Dk.arity op = 3) : arith_three.f op a b c = some (Dk.val3 op a b c) := by
  have hop : op = 26 ∨ op = 27 ∨ op = 28 := by
    unfold Dk.arity at ha; repeat' split at ha
    all_goals first | omega | (exfalso; omega)
  rcases hop with rfl | rfl | rfl
  · show some (mn (mx a b) c) = some (min (max a b) c); rw [mn_min, mx_max]
  · show some (mx (mn a b) (mn (mx a b) c)) = some (max (min a b) (min (max a b) c)); simp only [mn_min, mx_max]
  · show (if a = 0 then some c else some b) = some (if a = 0 then c else b); split <;> rfl
theorem j2_code (k : Nat) (p : Int × Int) : arith_Value.j2 (k + 2) p.1 p.2 = some (Dk.fin p) := by
  obtain ⟨x, e⟩ := p
  show (if e = 0 then (arith_Word.f x).bind fun t => arith_Value.j3 (k + 1) x e (!t) else arith_Value.j3 (k + 1) x e false) = some (Dk.fin (x, e))
  unfold Dk.fin
  by_cases he : e = 0
  · subst he
    rw [if_pos rfl, if_pos rfl, word_code]
    show arith_Value.j3 (k + 1) x 0 (!Dk.word x) = _
    cases hw : Dk.word x <;> rfl
  · rw [if_neg he, if_neg he]
    show (if false = true then some (0, 13) else if e = 0 then some (x, 0) else some (0, e)) = _
    rw [if_neg (by decide), if_neg he]
theorem w01 : wrap64 (0 + 1) = 1 := by unfold wrap64; rfl
theorem w12 : wrap64 (1 + 1) = 2 := by unfold wrap64; rfl
theorem w23 : wrap64 (2 + 1) = 3 := by unfold wrap64; rfl
theorem l0_step (k : Nat) (op a s : Int) (l : List Int) (i : Int) (h0 : 0 ≤ i) (h : i < (l.length : Int)) : arith_Value.l0 (k + 1) op a s l l (l.length : Int) i =
    (arith_Word.f (rd l i)).bind fun t => if t = true then arith_Value.l0 k op a s l l (l.length : Int) (wrap64 (i + 1)) else some (0, 1) := by
  simp only [arith_Value.l0]; rw [if_pos h, if_pos h0, if_pos h]
theorem Value_code (k : Nat) (op a s : Int) (l : List Int) : arith_Value.f (k + 8) op a s l = some (Dk.value op a s l) := by
  have eA : arith_Arity.f (k + 8) op = some (Dk.arity op) := arity_code (k + 5) op
  have eC : arith_Constants.f (k + 8) op a s = some (Dk.consts op a s) := consts_code (k + 5) op a s
  unfold arith_Value.f Dk.value
  simp only [eA, eC, Option.bind_some]
  by_cases h1 : Dk.arity op < 1
  · rw [if_pos h1, if_pos (.inl h1)]; rfl
  rw [if_neg h1]
  by_cases h2 : (l.length : Int) = Dk.arity op
  · rw [if_pos h2]
    cases h3 : Dk.consts op a s
    · rw [if_pos (.inr (.inr (.inl rfl)))]; rfl
    · have h4 : Dk.arity op ≤ 3 := by unfold Dk.arity; repeat' split <;> omega
      show arith_Value.l0 (k + 7) op a s l l (l.length : Int) 0 = _
      rcases l with _ | ⟨x, _ | ⟨y, _ | ⟨z, _ | ⟨u, l⟩⟩⟩⟩
      · simp at h2; omega
      · rw [l0_step _ _ _ _ _ _ (by omega) (by simp), w01]
        show ((arith_Word.f x).bind fun t => if t = true then ((arith_one.f op a s x).bind fun b => arith_Value.j2 (k + 5) b.1 b.2) else some (0, 1)) = _
        rw [word_code]
        show (if Dk.word x = true then _ else _) = _
        cases hx : Dk.word x
        · rw [if_neg (by decide), if_pos (.inr (.inr (.inr (by simp [hx]))))]
        · rw [if_pos rfl, if_neg (by simp [hx]; simp at h2; omega), one_code op a s x (by simp at h2; omega) h3 ((Dk.word_iff x).mp hx)]
          exact j2_code (k + 3) _
      · rw [l0_step _ _ _ _ _ _ (by omega) (by simp), w01, l0_step _ _ _ _ _ _ (by omega) (by simp), w12]
        show ((arith_Word.f x).bind fun t => if t = true then ((arith_Word.f y).bind fun t => if t = true then ((arith_two.f (k + 4) op x y).bind fun b => arith_Value.j2 (k + 4) b.1 b.2) else some (0, 1)) else some (0, 1)) = _
        rw [word_code, word_code]
        show (if Dk.word x = true then (if Dk.word y = true then _ else _) else _) = _
        cases hx : Dk.word x
        · rw [if_neg (by decide), if_pos (.inr (.inr (.inr (by simp [hx]))))]
        · cases hy : Dk.word y
          · rw [if_pos rfl, if_neg (by decide), if_pos (.inr (.inr (.inr (by simp [hx, hy]))))]
          · rw [if_pos rfl, if_pos rfl, if_neg (by simp [hx, hy]; simp at h2; omega), two_code (k + 1) op x y (by simp at h2; omega) ((Dk.word_iff x).mp hx) ((Dk.word_iff y).mp hy)]
            exact j2_code (k + 2) _
      · rw [l0_step _ _ _ _ _ _ (by omega) (by simp), w01, l0_step _ _ _ _ _ _ (by omega) (by simp), w12, l0_step _ _ _ _ _ _ (by omega) (by simp), w23]
        show ((arith_Word.f x).bind fun t => if t = true then ((arith_Word.f y).bind fun t => if t = true then ((arith_Word.f z).bind fun t => if t = true then ((arith_three.f op x y z).bind fun t => arith_Value.j2 (k + 3) t 0) else some (0, 1)) else some (0, 1)) else some (0, 1)) = _
        rw [word_code, word_code, word_code]
        show (if Dk.word x = true then (if Dk.word y = true then (if Dk.word z = true then _ else _) else _) else _) = _
        cases hx : Dk.word x
        · rw [if_neg (by decide), if_pos (.inr (.inr (.inr (by simp [hx]))))]
        · cases hy : Dk.word y
          · rw [if_pos rfl, if_neg (by decide), if_pos (.inr (.inr (.inr (by simp [hx, hy]))))]
          · cases hz : Dk.word z
            · rw [if_pos rfl, if_pos rfl, if_neg (by decide), if_pos (.inr (.inr (.inr (by simp [hx, hy, hz]))))]
            · rw [if_pos rfl, if_pos rfl, if_pos rfl, if_neg (by simp [hx, hy, hz]; simp at h2; omega), three_code op x y z (by simp at h2; omega)]
              exact j2_code (k + 1) (Dk.val3 op x y z, 0)
      · simp at h2; omega
  · rw [if_neg h2, if_pos (.inr (.inl h2))]; rfl
theorem awake_code (k : Nat) : damasklaw04_awake.f (k + 8) = some true := by
  unfold damasklaw04_awake.f
  rw [Value_code, arity_code (k + 5)]
  rfl
end Go.Proofs.Ytpnldhimlpilhaa.Pure
