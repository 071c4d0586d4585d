/- Plain facts on digits: and, or, exclusive or of whole numbers. -/
import Derived.Test.YtpnldhimlpilhaaSa
namespace Dk

theorem and_two (x y : Nat) : (x &&& y) % 2 = (x % 2) * (y % 2) := by
  have h := Nat.and_mod_two_pow (a := x) (b := y) (n := 1)
  rw [show (2 : Nat) ^ 1 = 2 from rfl] at h
  rw [h]
  rcases Nat.mod_two_eq_zero_or_one x with hx | hx <;> rcases Nat.mod_two_eq_zero_or_one y with hy | hy <;> rw [hx, hy] <;> decide
theorem or_two (x y : Nat) : (x ||| y) % 2 = (x % 2) + (y % 2) - (x % 2) * (y % 2) := by
  have h := Nat.or_mod_two_pow (a := x) (b := y) (n := 1)
  rw [show (2 : Nat) ^ 1 = 2 from rfl] at h
  rw [h]
  rcases Nat.mod_two_eq_zero_or_one x with hx | hx <;> rcases Nat.mod_two_eq_zero_or_one y with hy | hy <;> rw [hx, hy] <;> decide
theorem xor_two (x y : Nat) : (x ^^^ y) % 2 = ((x % 2) + (y % 2)) % 2 := by
  have h := Nat.xor_mod_two_pow (a := x) (b := y) (n := 1)
  rw [show (2 : Nat) ^ 1 = 2 from rfl] at h
  rw [h]
  rcases Nat.mod_two_eq_zero_or_one x with hx | hx <;> rcases Nat.mod_two_eq_zero_or_one y with hy | hy <;> rw [hx, hy] <;> decide
theorem and_add_or : ∀ x y : Nat, (x &&& y) + (x ||| y) = x + y := by
  intro x
  induction x using Nat.strongRecOn with
  | _ x ih =>
    intro y
    by_cases h : x = 0
    · subst h; simp
    · have h1 := ih (x / 2) (by omega) (y / 2)
      have h2 := and_two x y; have h3 := or_two x y
      have h4 := Nat.and_div_two (a := x) (b := y); have h5 := Nat.or_div_two (a := x) (b := y)
      rcases Nat.mod_two_eq_zero_or_one x with hx | hx <;> rcases Nat.mod_two_eq_zero_or_one y with hy | hy <;> rw [hx, hy] at h2 h3 <;> omega
theorem xor_add_and : ∀ x y : Nat, (x ^^^ y) + (x &&& y) = x ||| y := by
  intro x
  induction x using Nat.strongRecOn with
  | _ x ih =>
    intro y
    by_cases h : x = 0
    · subst h; simp
    · have h1 := ih (x / 2) (by omega) (y / 2)
      have h2 := and_two x y; have h3 := or_two x y; have h6 := xor_two x y
      have h4 := Nat.and_div_two (a := x) (b := y); have h5 := Nat.or_div_two (a := x) (b := y); have h7 := Nat.xor_div_two (a := x) (b := y)
      rcases Nat.mod_two_eq_zero_or_one x with hx | hx <;> rcases Nat.mod_two_eq_zero_or_one y with hy | hy <;> rw [hx, hy] at h2 h3 h6 <;> omega
/-- 64 digits hold the number -/
def In64 (a : Int) : Prop := -9223372036854775808 ≤ a ∧ a ≤ 9223372036854775807
theorem toInt64 (a : Int) (h : In64 a) : (BitVec.ofInt 64 a).toInt = a := by
  rw [BitVec.toInt_ofInt]
  unfold In64 at h
  exact Int.bmod_eq_of_le (by omega) (by omega)
theorem msb_toInt (x : BitVec 64) : x.toInt = if x.msb then (x.toNat : Int) - 18446744073709551616 else (x.toNat : Int) := by
  rw [BitVec.toInt_eq_msb_cond]; rfl
theorem band_bor (a b : Int) (ha : In64 a) (hb : In64 b) : band a b + bor a b = a + b := by
  have h := and_add_or (BitVec.ofInt 64 a).toNat (BitVec.ofInt 64 b).toNat
  have e1 := msb_toInt (BitVec.ofInt 64 a); have e2 := msb_toInt (BitVec.ofInt 64 b)
  rw [toInt64 a ha] at e1; rw [toInt64 b hb] at e2
  show (BitVec.ofInt 64 a &&& BitVec.ofInt 64 b).toInt + (BitVec.ofInt 64 a ||| BitVec.ofInt 64 b).toInt = a + b
  generalize BitVec.ofInt 64 a = x at *
  generalize BitVec.ofInt 64 b = y at *
  rw [msb_toInt, msb_toInt, BitVec.msb_and, BitVec.msb_or, BitVec.toNat_and, BitVec.toNat_or]
  cases hx : x.msb <;> cases hy : y.msb <;> rw [hx] at e1 <;> rw [hy] at e2 <;> simp at e1 e2 ⊢ <;> omega
theorem bor_band (a b : Int) : bor a b - band a b = bxor a b := by
  have h := xor_add_and (BitVec.ofInt 64 a).toNat (BitVec.ofInt 64 b).toNat
  show (BitVec.ofInt 64 a ||| BitVec.ofInt 64 b).toInt - (BitVec.ofInt 64 a &&& BitVec.ofInt 64 b).toInt = (BitVec.ofInt 64 a ^^^ BitVec.ofInt 64 b).toInt
  generalize BitVec.ofInt 64 a = x at *
  generalize BitVec.ofInt 64 b = y at *
  rw [msb_toInt, msb_toInt, msb_toInt, BitVec.msb_and, BitVec.msb_or, BitVec.msb_xor, BitVec.toNat_and, BitVec.toNat_or, BitVec.toNat_xor]
  cases hx : x.msb <;> cases hy : y.msb <;> simp <;> omega
theorem ones : BitVec.ofInt 64 (-1) = BitVec.allOnes 64 := by decide
theorem bxor_ones (a : Int) (ha : In64 a) : bxor a (-1) = -a - 1 := by
  have h1 := band_bor a (-1) ha (by unfold In64; omega)
  have h2 := bor_band a (-1)
  have h3 : band a (-1) = a := by
    show (BitVec.ofInt 64 a &&& BitVec.ofInt 64 (-1)).toInt = a
    rw [ones, BitVec.and_allOnes, toInt64 a ha]
  omega
theorem band_turn (a : Int) : band a (bxor a (-1)) = 0 := by
  show (BitVec.ofInt 64 a &&& BitVec.ofInt 64 ((BitVec.ofInt 64 a ^^^ BitVec.ofInt 64 (-1)).toInt)).toInt = 0
  rw [BitVec.ofInt_toInt, ones, BitVec.xor_allOnes, BitVec.and_not_self]
  rfl
/-- so many digits hold both: so many digits hold the answer -/
theorem ext_of (n : Nat) (hn : n ≤ 63) (a : Int) (h1 : -2 ^ n ≤ a) (h2 : a < 2 ^ n) : BitVec.ofInt 64 a = (BitVec.ofInt (n + 1) a).signExtend 64 ∧ (BitVec.ofInt (n + 1) a).toInt = a := by
  have hp : (2 : Int) ^ n ≤ 9223372036854775808 := by
    have : (2 : Nat) ^ n ≤ 2 ^ 63 := Nat.pow_le_pow_right (by omega) hn
    have e : (2 : Int) ^ n = ((2 ^ n : Nat) : Int) := by simp
    rw [e]; omega
  have e0 : ((2 ^ (n + 1) : Nat) : Int) = 2 * 2 ^ n := by rw [Nat.pow_succ, Nat.mul_comm]; simp
  have e1 : (BitVec.ofInt (n + 1) a).toInt = a := by
    rw [BitVec.toInt_ofInt]
    exact Int.bmod_eq_of_le (by rw [e0]; omega) (by rw [e0]; omega)
  refine ⟨BitVec.eq_of_toInt_eq ?_, e1⟩
  rw [BitVec.toInt_signExtend_of_le (by omega), e1, toInt64 a (by unfold In64; omega)]
theorem toInt_in (n : Nat) (x : BitVec (n + 1)) : -2 ^ n ≤ x.toInt ∧ x.toInt < 2 ^ n := by
  have h1 := BitVec.le_toInt x; have h2 := BitVec.toInt_lt (x := x)
  rw [Nat.add_sub_cancel] at h1 h2
  exact ⟨h1, h2⟩
theorem band_in (n : Nat) (hn : n ≤ 63) (a b : Int) (h1 : -2 ^ n ≤ a) (h2 : a < 2 ^ n) (h3 : -2 ^ n ≤ b) (h4 : b < 2 ^ n) : -2 ^ n ≤ band a b ∧ band a b < 2 ^ n := by
  show -2 ^ n ≤ (BitVec.ofInt 64 a &&& BitVec.ofInt 64 b).toInt ∧ (BitVec.ofInt 64 a &&& BitVec.ofInt 64 b).toInt < 2 ^ n
  rw [(ext_of n hn a h1 h2).1, (ext_of n hn b h3 h4).1, ← BitVec.signExtend_and, BitVec.toInt_signExtend_of_le (by omega)]
  exact toInt_in n _
theorem bor_in (n : Nat) (hn : n ≤ 63) (a b : Int) (h1 : -2 ^ n ≤ a) (h2 : a < 2 ^ n) (h3 : -2 ^ n ≤ b) (h4 : b < 2 ^ n) : -2 ^ n ≤ bor a b ∧ bor a b < 2 ^ n := by
  show -2 ^ n ≤ (BitVec.ofInt 64 a ||| BitVec.ofInt 64 b).toInt ∧ (BitVec.ofInt 64 a ||| BitVec.ofInt 64 b).toInt < 2 ^ n
  rw [(ext_of n hn a h1 h2).1, (ext_of n hn b h3 h4).1, ← BitVec.signExtend_or, BitVec.toInt_signExtend_of_le (by omega)]
  exact toInt_in n _
theorem bxor_in (n : Nat) (hn : n ≤ 63) (a b : Int) (h1 : -2 ^ n ≤ a) (h2 : a < 2 ^ n) (h3 : -2 ^ n ≤ b) (h4 : b < 2 ^ n) : -2 ^ n ≤ bxor a b ∧ bxor a b < 2 ^ n := by
  show -2 ^ n ≤ (BitVec.ofInt 64 a ^^^ BitVec.ofInt 64 b).toInt ∧ (BitVec.ofInt 64 a ^^^ BitVec.ofInt 64 b).toInt < 2 ^ n
  rw [(ext_of n hn a h1 h2).1, (ext_of n hn b h3 h4).1, ← BitVec.signExtend_xor, BitVec.toInt_signExtend_of_le (by omega)]
  exact toInt_in n _
theorem band_right (a b : Int) (hb : In64 b) (h0 : 0 ≤ b) : 0 ≤ band a b ∧ band a b ≤ b := by
  have e2 := msb_toInt (BitVec.ofInt 64 b)
  rw [toInt64 b hb] at e2
  have hm : (BitVec.ofInt 64 b).msb = false := by
    cases h : (BitVec.ofInt 64 b).msb
    · rfl
    · rw [h] at e2; have := (BitVec.ofInt 64 b).isLt; simp at e2; omega
  rw [hm] at e2
  show 0 ≤ (BitVec.ofInt 64 a &&& BitVec.ofInt 64 b).toInt ∧ (BitVec.ofInt 64 a &&& BitVec.ofInt 64 b).toInt ≤ b
  generalize BitVec.ofInt 64 a = x at *
  generalize BitVec.ofInt 64 b = y at *
  rw [msb_toInt, BitVec.msb_and, hm, BitVec.toNat_and]
  have := Nat.and_le_right (n := x.toNat) (m := y.toNat)
  simp at e2 ⊢
  omega
theorem band_comm (a b : Int) : band a b = band b a := by show (BitVec.ofInt 64 a &&& BitVec.ofInt 64 b).toInt = (BitVec.ofInt 64 b &&& BitVec.ofInt 64 a).toInt; rw [BitVec.and_comm]
theorem bor_comm (a b : Int) : bor a b = bor b a := by show (BitVec.ofInt 64 a ||| BitVec.ofInt 64 b).toInt = (BitVec.ofInt 64 b ||| BitVec.ofInt 64 a).toInt; rw [BitVec.or_comm]
theorem bxor_comm (a b : Int) : bxor a b = bxor b a := by show (BitVec.ofInt 64 a ^^^ BitVec.ofInt 64 b).toInt = (BitVec.ofInt 64 b ^^^ BitVec.ofInt 64 a).toInt; rw [BitVec.xor_comm]
end Dk
