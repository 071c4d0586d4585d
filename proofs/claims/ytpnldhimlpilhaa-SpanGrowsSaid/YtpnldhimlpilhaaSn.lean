/- What the program's span functions come to: digits, and, or, comparisons. -/
import Derived.Test.YtpnldhimlpilhaaSc
import Derived.Test.YtpnldhimlpilhaaSm
import Derived.Test.YtpnldhimlpilhaaFspan8
namespace Go.Proofs.Ytpnldhimlpilhaa.Pure
open Go.RowKit Go.Proofs.Ytpnldhimlpilhaa.F Go.Proofs.YtpnldhimlpilhaaW.PrintWords Go.Proofs.YtpnldhimlpilhaaW.PrintLast Go.Proofs.YtpnldhimlpilhaaW.PrintMore

set_option maxRecDepth 100000 in
theorem tab_len : ∃ T : ByteArray, (∀ i : Nat, i < 256 → bt T (i : Int) = ((Dk.len i : Nat) : Int)) ∧ ∀ (k : Nat) (x0 x2 : Int), bits_Len64.j0 (k + 1) x0 x2 =
    if x0 ≥ 65536 then (if (x0 / 65536) ≥ 256 then (if 0 ≤ (((x0 / 65536) / 256) % 256) then (if (((x0 / 65536) / 256) % 256) < 256 then (some (wrap64 ((wrap64 ((wrap64 (x2 + 16)) + 8)) + (wrap64 (bt T (((x0 / 65536) / 256) % 256)))))) else none) else none) else (if 0 ≤ ((x0 / 65536) % 256) then (if ((x0 / 65536) % 256) < 256 then (some (wrap64 ((wrap64 (x2 + 16)) + (wrap64 (bt T ((x0 / 65536) % 256)))))) else none) else none))
    else (if x0 ≥ 256 then (if 0 ≤ ((x0 / 256) % 256) then (if ((x0 / 256) % 256) < 256 then (some (wrap64 ((wrap64 (x2 + 8)) + (wrap64 (bt T ((x0 / 256) % 256)))))) else none) else none) else (if 0 ≤ ((x0) % 256) then (if ((x0) % 256) < 256 then (some (wrap64 (x2 + (wrap64 (bt T ((x0) % 256)))))) else none) else none)) := by
  exact ⟨_, by decide +kernel, fun k x0 x2 => bits_Len64.j0.eq_2 x0 x2 k⟩
theorem len_div (n : Nat) (h : 256 ≤ n) : Dk.len n = Dk.len (n / 256) + 8 := by
  have key : ∀ m, Dk.len n ≤ m + 8 ↔ Dk.len (n / 256) ≤ m := by
    intro m
    rw [Dk.len_le, Dk.len_le, Nat.div_lt_iff_lt_mul (by decide), Nat.pow_add]
  have h8 : ¬ Dk.len n ≤ 8 := by rw [Dk.len_le]; omega
  have h1 := (key (Dk.len n - 8)).mp (by omega)
  have h2 := (key (Dk.len (n / 256))).mpr (Nat.le_refl _)
  omega
theorem len_small (n : Nat) (h : n < 2147483648) : Dk.len n ≤ 31 := by rw [Dk.len_le]; exact h
theorem len64_code (k : Nat) (n : Nat) (h : n < 2147483648) : bits_Len64.f (k + 1) (n : Int) = some ((Dk.len n : Nat) : Int) := by
  obtain ⟨T, hT, hj⟩ := tab_len
  unfold bits_Len64.f
  rw [if_neg (by omega), hj]
  have hl := len_small n h
  have big : ∀ m : Nat, 256 ≤ m → (m : Int) ≥ 256 := fun m hm => by omega
  have mod_ : ∀ m : Nat, m < 256 → ((m : Int) % 256) = (m : Int) := fun m hm => by omega
  by_cases h1 : n ≥ 65536
  · rw [if_pos (by omega)]
    have e1 : ((n : Int) / 65536) = ((n / 65536 : Nat) : Int) := by omega
    have e2 : (((n / 65536 : Nat) : Int) / 256) = ((n / 65536 / 256 : Nat) : Int) := by omega
    have d1 := len_div n (by omega)
    have d2 := len_div (n / 256) (by omega)
    have e3 : n / 256 / 256 = n / 65536 := by omega
    rw [e3] at d2
    by_cases h2 : n / 65536 ≥ 256
    · have d3 := len_div (n / 65536) h2
      rw [e1, if_pos (by omega), e2, mod_ _ (by omega), if_pos (by omega), if_pos (by omega), hT _ (by omega)]
      rw [Dk.wrap64_of (0 + 16) (by omega), Dk.wrap64_of (0 + 16 + 8) (by omega), Dk.wrap64_of (((Dk.len (n / 65536 / 256) : Nat)) : Int) (by omega), Dk.wrap64_of _ (by omega)]
      congr 1; omega
    · rw [e1, if_neg (by omega), mod_ _ (by omega), if_pos (by omega), if_pos (by omega), hT _ (by omega)]
      rw [Dk.wrap64_of (0 + 16) (by omega), Dk.wrap64_of (((Dk.len (n / 65536) : Nat)) : Int) (by omega), Dk.wrap64_of _ (by omega)]
      congr 1; omega
  · rw [if_neg (by omega)]
    by_cases h2 : n ≥ 256
    · have d1 := len_div n h2
      have e1 : ((n : Int) / 256) = ((n / 256 : Nat) : Int) := by omega
      rw [if_pos (by omega), e1, mod_ _ (by omega), if_pos (by omega), if_pos (by omega), hT _ (by omega)]
      rw [Dk.wrap64_of (0 + 8) (by omega), Dk.wrap64_of (((Dk.len (n / 256) : Nat)) : Int) (by omega), Dk.wrap64_of _ (by omega)]
      congr 1; omega
    · rw [if_neg (by omega), mod_ _ (by omega), if_pos (by omega), if_pos (by omega), hT _ (by omega)]
      rw [Dk.wrap64_of (((Dk.len n : Nat)) : Int) (by omega), Dk.wrap64_of _ (by omega)]
      congr 1; omega
theorem fold_small (x : Int) (h : -2147483648 ≤ x ∧ x ≤ 2147483647) : Dk.fold x < 2147483648 := by unfold Dk.fold; split <;> omega
theorem fold_code (x : Int) (h : -2147483648 ≤ x ∧ x ≤ 2147483647) : IntKind.u64.wrap (Go.bits .xor .i64 x (x / 9223372036854775808)) = ((Dk.fold x : Nat) : Int) := by
  rw [Dk.bxor_code]
  have hf := fold_small x h
  have e : Dk.bxor x (x / 9223372036854775808) = ((Dk.fold x : Nat) : Int) := by
    by_cases hx : x < 0
    · rw [show x / 9223372036854775808 = -1 by omega, Dk.bxor_ones x (by unfold Dk.In64; omega)]
      unfold Dk.fold; rw [if_pos hx]; omega
    · rw [show x / 9223372036854775808 = 0 by omega]
      have h0 : Dk.bxor x 0 = x := by
        show (BitVec.ofInt 64 x ^^^ BitVec.ofInt 64 0).toInt = x
        rw [show BitVec.ofInt 64 0 = 0#64 from rfl, BitVec.xor_zero, Dk.toInt64 x (by unfold Dk.In64; omega)]
      rw [h0]; unfold Dk.fold; rw [if_neg hx]; omega
  rw [e]
  simp [IntKind.wrap, IntKind.signed, IntKind.bits]
  omega
theorem digs_code (k : Nat) (a b : Int × Int) (ha : Dk.whole a = true) (hb : Dk.whole b = true) : span_digits.f (k + 6) a.1 a.2 b.1 b.2 = some ((Dk.digs a b : Nat) : Int) := by
  rw [Dk.whole_iff] at ha hb
  have st : ∀ (n : Nat) (x i : Int), span_digits.l0 (n + 1) x i a.1 a.2 b.1 b.2 = if i < 4 then (if 0 ≤ i then ((bits_Len64.f n (IntKind.u64.wrap (Go.bits .xor .i64 (rd ([a.1, a.2, b.1, b.2] : List Int) i) ((rd ([a.1, a.2, b.1, b.2] : List Int) i) / 9223372036854775808)))).bind fun t => (span_digits.l0 n (mx x t) (wrap64 (i + 1)) a.1 a.2 b.1 b.2)) else none) else some x := fun _ _ _ => rfl
  have r0 : rd ([a.1, a.2, b.1, b.2] : List Int) 0 = a.1 := rfl
  have r1 : rd ([a.1, a.2, b.1, b.2] : List Int) 1 = a.2 := rfl
  have r2 : rd ([a.1, a.2, b.1, b.2] : List Int) 2 = b.1 := rfl
  have r3 : rd ([a.1, a.2, b.1, b.2] : List Int) 3 = b.2 := rfl
  have w1 : wrap64 (0 + 1) = 1 := Dk.wrap64_of _ (by omega)
  have w2 : wrap64 (1 + 1) = 2 := Dk.wrap64_of _ (by omega)
  have w3 : wrap64 (2 + 1) = 3 := Dk.wrap64_of _ (by omega)
  have w4 : wrap64 (3 + 1) = 4 := Dk.wrap64_of _ (by omega)
  unfold span_digits.f
  rw [st, if_pos (by decide), if_pos (by decide), r0, fold_code a.1 (by omega), len64_code _ _ (fold_small a.1 (by omega)), w1]
  simp only [Option.bind_some]
  rw [st, if_pos (by decide), if_pos (by decide), r1, fold_code a.2 (by omega), len64_code _ _ (fold_small a.2 (by omega)), w2]
  simp only [Option.bind_some]
  rw [st, if_pos (by decide), if_pos (by decide), r2, fold_code b.1 (by omega), len64_code _ _ (fold_small b.1 (by omega)), w3]
  simp only [Option.bind_some]
  rw [st, if_pos (by decide), if_pos (by decide), r3, fold_code b.2 (by omega), len64_code _ _ (fold_small b.2 (by omega)), w4]
  simp only [Option.bind_some]
  rw [st, if_neg (by decide)]
  congr 1
  simp only [mx_max]
  unfold Dk.digs
  omega
theorem shl_one (n : Nat) (h : n ≤ 31) : shl .i64 (-1) (n : Int) = -(2 : Int) ^ n ∧ wrap64 (shl .i64 1 (n : Int) - 1) = 2 ^ n - 1 := by
  have hp := Dk.pow_le31 n h
  rw [shl_code (-1) _ (by omega) (by omega), shl_code 1 _ (by omega) (by omega), Int.toNat_natCast, Int.one_mul, Dk.wrap64_of _ (by omega)]
  exact ⟨by omega, rfl⟩
theorem both_code (k : Nat) (a b : Int × Int) (ha : Dk.whole a = true) (hb : Dk.whole b = true) : span_both.f (k + 7) a.1 a.2 b.1 b.2 = some (Dk.both a b) := by
  have hd := Dk.digs32 a b ha hb
  have hs := shl_one _ hd
  have hc := digs_code k a b ha hb
  have st : ∀ (p : Bool), span_both.j0 (k + 7) p a.1 a.2 b.1 b.2 = if p = true then (some (0, mn a.2 b.2)) else (if a.1 ≥ 0 then (some (0, a.2)) else (if b.1 ≥ 0 then (some (0, b.2)) else ((span_digits.f (k + 6) a.1 a.2 b.1 b.2).bind fun t => (if 0 ≤ t then (some (shl .i64 (-1) t, wrap64 ((shl .i64 1 t) - 1))) else none)))) := fun _ => rfl
  unfold span_both.f Dk.both
  rw [st, st, hc]
  simp only [Option.bind_some, mn_min]
  rw [if_pos (by omega : (0 : Int) ≤ ((Dk.digs a b : Nat) : Int)), hs.1, hs.2]
  by_cases h1 : a.1 ≥ 0
  · by_cases h2 : b.1 ≥ 0
    · simp [h1, h2]
    · simp [h1, h2]
  · by_cases h2 : b.1 ≥ 0
    · simp [h1, h2]
    · simp [h1, h2]
theorem either_code (k : Nat) (op : Int) (a b : Int × Int) (ha : Dk.whole a = true) (hb : Dk.whole b = true) : span_either.f (k + 7) op a.1 a.2 b.1 b.2 = some (Dk.either op a b) := by
  have hd := Dk.digs32 a b ha hb
  have hs := shl_one _ hd
  have hc := digs_code (k + 1) a b ha hb
  have st : ∀ (p : Bool) (u v : Int), span_either.j0 (k + 7) op p a.1 a.2 b.1 b.2 u v = if p = true then (if op = 16 then (some (mx a.1 b.1, v)) else (some (0, v))) else (some (u, v)) := fun _ _ _ => rfl
  unfold span_either.f Dk.either
  rw [hc]
  simp only [Option.bind_some]
  rw [if_pos (by omega : (0 : Int) ≤ ((Dk.digs a b : Nat) : Int)), hs.1, hs.2]
  simp only [st, mx_max]
  by_cases h1 : a.1 ≥ 0
  · by_cases h2 : b.1 ≥ 0
    · by_cases h3 : op = 16 <;> simp [h1, h2, h3]
    · simp [h1, h2]
  · simp [h1]
theorem cmp_code (k : Nat) (op : Int) (a b : Int × Int) (ho : 18 ≤ op ∧ op ≤ 23) (_ha : a.1 ≤ a.2) (hb : b.1 ≤ b.2) : span_compared.f (k + 1) op a.1 a.2 b.1 b.2 = some (Dk.cmp op a b) := by
  have st : ∀ p q : Bool, span_compared.j0 (k + 1) p q = some (Dk.tells p q) := fun p q => by cases p <;> cases q <;> rfl
  unfold span_compared.f Dk.cmp
  simp only [st]
  have e : (a.1 == b.1 && a.2 == b.2) = decide (a.1 = b.1 ∧ a.2 = b.2) := by simp [Bool.beq_eq_decide_eq]
  rcases (show op = 18 ∨ op = 19 ∨ op = 20 ∨ op = 21 ∨ op = 22 ∨ op = 23 by omega) with rfl | rfl | rfl | rfl | rfl | rfl
  · rfl
  · rfl
  · rfl
  · rfl
  · simp only [show ¬ ((22 : Int) = 18) by decide, show ¬ ((22 : Int) = 19) by decide, show ¬ ((22 : Int) = 20) by decide, show ¬ ((22 : Int) = 21) by decide, show ¬ ((22 : Int) = 23) by decide, if_false, if_true]
    by_cases h1 : a.1 = b.1 ∧ a.2 = b.2
    · rw [if_pos (by simp [h1.1, h1.2])]
      by_cases h2 : a.2 < b.1
      · rw [if_pos h2]; omega
      · rw [if_neg h2]; congr 2
        · rw [Bool.beq_eq_decide_eq]; apply decide_eq_decide.mpr; omega
        · apply decide_eq_decide.mpr; omega
    · rw [if_neg (by rw [e]; simpa using h1)]
      by_cases h2 : a.2 < b.1
      · rw [if_pos h2]; congr 2
        · symm; apply decide_eq_false; omega
        · symm; apply decide_eq_true; omega
      · rw [if_neg h2]; congr 2
        · symm; apply decide_eq_false; omega
        · apply decide_eq_decide.mpr; omega
  · simp only [show ¬ ((23 : Int) = 18) by decide, show ¬ ((23 : Int) = 19) by decide, show ¬ ((23 : Int) = 20) by decide, show ¬ ((23 : Int) = 21) by decide, show ¬ ((23 : Int) = 22) by decide, if_false, if_true]
    by_cases h1 : a.1 = b.1 ∧ a.2 = b.2
    · rw [if_pos (by simp [h1.1, h1.2])]
      by_cases h2 : a.2 < b.1
      · rw [if_pos h2]; omega
      · rw [if_neg h2]; congr 2
        · apply decide_eq_decide.mpr; omega
        · rw [Bool.beq_eq_decide_eq]; apply decide_eq_decide.mpr; omega
    · rw [if_neg (by rw [e]; simpa using h1)]
      by_cases h2 : a.2 < b.1
      · rw [if_pos h2]; congr 2
        · symm; apply decide_eq_true; omega
        · symm; apply decide_eq_false; omega
      · rw [if_neg h2]; congr 2
        · apply decide_eq_decide.mpr; omega
        · symm; apply decide_eq_false; omega
end Go.Proofs.Ytpnldhimlpilhaa.Pure
