/- Plain arithmetic of damask's operators (no program in sight): what each operator of layer 4 means. -/
import Derived.IntWalk
import Derived.Laws.BitsLemmas
namespace Dk
open Go Go.RowKit

/-- how many registers an operator has; -1: none -/
def arity (op : Int) : Int := if op = 1 ∨ op = 2 ∨ op = 3 then 0 else if op = 5 ∨ op = 6 ∨ op = 7 ∨ (29 ≤ op ∧ op ≤ 33) then 1 else if 26 ≤ op ∧ op ≤ 28 then 3 else if 8 ≤ op ∧ op ≤ 25 then 2 else -1
def word (x : Int) : Bool := decide (-2147483648 ≤ x ∧ x ≤ 2147483647)
def consts (op k s : Int) : Bool :=
  if op = 29 ∨ op = 30 then decide (0 ≤ k ∧ k ≤ 31) else if op = 31 then decide (0 ≤ k ∧ k ≤ 2147483647) else if op = 32 then word k else if op = 33 then decide (1 ≤ k ∧ k ≤ 4611686018427387904 ∧ 0 ≤ s ∧ s ≤ 62) else true

theorem wrap64_of (x : Int) (h : -9223372036854775808 ≤ x ∧ x ≤ 9223372036854775807) : wrap64 x = x := IntWalk.wrap64_in x h
theorem word_wrap (x : Int) : (wrap64 (wrap32 x) == x) = word x := by
  unfold word
  rw [Bool.eq_iff_iff, beq_iff_eq, decide_eq_true_iff]
  unfold wrap64 wrap32
  omega
theorem wf64 (x : Int) : (Lit.int .i64 x).wf = true ↔ -9223372036854775808 ≤ x ∧ x ≤ 9223372036854775807 := by
  simp [Lit.wf, IntKind.min, IntKind.max, IntKind.bits, IntKind.signed]
/-- 64 digits, with the sign -/
def bw (f : BitVec 64 → BitVec 64 → BitVec 64) (a b : Int) : Int := (f (BitVec.ofInt 64 a) (BitVec.ofInt 64 b)).toInt
def band (a b : Int) : Int := bw (· &&& ·) a b
def bor (a b : Int) : Int := bw (· ||| ·) a b
def bxor (a b : Int) : Int := bw (· ^^^ ·) a b
def sgn (a : Int) : Int := if a < 0 then -1 else if a = 0 then 0 else 1
def mid (a b c : Int) : Int := max (min a b) (min (max a b) c)
def bit (p : Bool) : Int := if p then 1 else 0
/-- an operator of one: the number, whatever its size, and what may not be -/
def val1 (op k s a : Int) : Int × Int :=
  if op = 5 then (-a, 0) else if op = 6 then (max a (-a), 0) else if op = 7 then (sgn a, 0) else if op = 29 then (a * 2 ^ k.toNat, 0) else if op = 30 then (a / 2 ^ k.toNat, 0)
  else if op = 31 then (band a k, 0) else if op = 32 then (a * k, 0) else if a ≠ 0 ∧ k > 4611686018427387904 / max a (-a) then (0, 13) else (a * k / 2 ^ s.toNat, 0)
def val2 (op a b : Int) : Int × Int :=
  if op = 8 then (a + b, 0) else if op = 9 then (a - b, 0) else if op = 10 then (a * b, 0) else if op = 11 then (if b = 0 then (0, 12) else (a.tdiv b, 0)) else if op = 12 then (if b = 0 then (0, 12) else (a.tmod b, 0))
  else if op = 13 then (if b < 0 ∨ b > 31 then (0, 13) else (a * 2 ^ b.toNat, 0)) else if op = 14 then (if b < 0 ∨ b > 31 then (0, 13) else (a / 2 ^ b.toNat, 0))
  else if op = 15 then (band a b, 0) else if op = 16 then (bor a b, 0) else if op = 17 then (bxor a b, 0)
  else if op = 18 then (bit (decide (a < b)), 0) else if op = 19 then (bit (decide (a ≤ b)), 0) else if op = 20 then (bit (decide (b < a)), 0) else if op = 21 then (bit (decide (b ≤ a)), 0) else if op = 22 then (bit (decide (a = b)), 0) else if op = 23 then (bit (decide (a ≠ b)), 0)
  else if op = 24 then (min a b, 0) else (max a b, 0)
def val3 (op a b c : Int) : Int := if op = 26 then min (max a b) c else if op = 27 then mid a b c else if a = 0 then c else b
/-- past 32 bits: refused -/
def fin (p : Int × Int) : Int × Int := if p.2 = 0 then (if word p.1 = true then p else (0, 13)) else (0, p.2)
def value (op k s : Int) (l : List Int) : Int × Int :=
  if arity op < 1 ∨ (l.length : Int) ≠ arity op ∨ consts op k s = false ∨ l.all word = false then (0, 1)
  else match l with
    | [a] => fin (val1 op k s a)
    | [a, b] => fin (val2 op a b)
    | [a, b, c] => fin (val3 op a b c, 0)
    | _ => (0, 0)
theorem wrap_toNat (v : BitVec 64) : IntKind.i64.wrap (v.toNat : Int) = v.toInt := by
  rw [IntKind.wrap_i64, BitVec.toInt_eq_toNat_cond]
  have := v.isLt
  split <;> omega
theorem band_code (a b : Int) : Go.bits .and .i64 a b = band a b := wrap_toNat _
theorem bor_code (a b : Int) : Go.bits .or .i64 a b = bor a b := wrap_toNat _
theorem bxor_code (a b : Int) : Go.bits .xor .i64 a b = bxor a b := wrap_toNat _
theorem word_iff (x : Int) : word x = true ↔ -2147483648 ≤ x ∧ x ≤ 2147483647 := by simp [word]
theorem pow_le31 (n : Nat) (h : n ≤ 31) : (1 : Int) ≤ 2 ^ n ∧ (2 : Int) ^ n ≤ 2147483648 := by
  have h1 : (2 : Nat) ^ n ≤ 2 ^ 31 := Nat.pow_le_pow_right (by omega) h
  have h2 : 0 < (2 : Nat) ^ n := Nat.two_pow_pos n
  have e : (2 : Int) ^ n = ((2 ^ n : Nat) : Int) := by simp
  rw [e]; omega
theorem pow_le62 (n : Nat) (h : n ≤ 62) : (1 : Int) ≤ 2 ^ n ∧ (2 : Int) ^ n ≤ 4611686018427387904 := by
  have h1 : (2 : Nat) ^ n ≤ 2 ^ 62 := Nat.pow_le_pow_right (by omega) h
  have h2 : 0 < (2 : Nat) ^ n := Nat.two_pow_pos n
  have e : (2 : Int) ^ n = ((2 ^ n : Nat) : Int) := by simp
  rw [e]; omega
/-- a product of two bounded numbers -/
theorem mul_bound {a b A B : Int} (h1 : -A ≤ a) (h2 : a ≤ A) (h3 : -B ≤ b) (h4 : b ≤ B) : -(A * B) ≤ a * b ∧ a * b ≤ A * B := by
  have hA : 0 ≤ A := by omega
  have hB : 0 ≤ B := by omega
  have h5 : a.natAbs ≤ A.toNat := by omega
  have h6 : b.natAbs ≤ B.toNat := by omega
  have h7 := Nat.mul_le_mul h5 h6
  rw [← Int.natAbs_mul] at h7
  have h8 : ((A.toNat * B.toNat : Nat) : Int) = A * B := by rw [Int.natCast_mul, Int.toNat_of_nonneg hA, Int.toNat_of_nonneg hB]
  omega
/-- a quotient, rounded down, is no greater in size -/
theorem fdiv_bound {a d A : Int} (hA : 0 ≤ A) (h1 : -A ≤ a) (h2 : a ≤ A) (hd : 1 ≤ d) : -A ≤ a / d ∧ a / d ≤ A := by
  constructor
  · rw [Int.le_ediv_iff_mul_le (by omega)]
    have : A * 1 ≤ A * d := Int.mul_le_mul_of_nonneg_left hd hA
    rw [Int.neg_mul]; omega
  · refine Int.ediv_le_of_le_mul (by omega) ?_
    have : A * 1 ≤ A * d := Int.mul_le_mul_of_nonneg_left hd hA
    omega
theorem tdiv_bound {a b A : Int} (h1 : -A ≤ a) (h2 : a ≤ A) : -A ≤ a.tdiv b ∧ a.tdiv b ≤ A := by
  have h := Int.natAbs_tdiv_le_natAbs a b
  omega
/-- an operator's number, one by one -/
theorem op_cases (op : Int) (h : 1 ≤ op ∧ op ≤ 33) : op = 1 ∨ op = 2 ∨ op = 3 ∨ op = 4 ∨ op = 5 ∨ op = 6 ∨ op = 7 ∨ op = 8 ∨ op = 9 ∨ op = 10 ∨ op = 11 ∨ op = 12 ∨ op = 13 ∨ op = 14 ∨ op = 15 ∨ op = 16 ∨ op = 17 ∨ op = 18 ∨ op = 19 ∨ op = 20 ∨ op = 21 ∨ op = 22 ∨ op = 23 ∨ op = 24 ∨ op = 25 ∨ op = 26 ∨ op = 27 ∨ op = 28 ∨ op = 29 ∨ op = 30 ∨ op = 31 ∨ op = 32 ∨ op = 33 := by omega
theorem op_out (op : Int) (h : ¬ (1 ≤ op ∧ op ≤ 33)) : op ≠ 1 ∧ op ≠ 2 ∧ op ≠ 3 ∧ op ≠ 4 ∧ op ≠ 5 ∧ op ≠ 6 ∧ op ≠ 7 ∧ op ≠ 8 ∧ op ≠ 9 ∧ op ≠ 10 ∧ op ≠ 11 ∧ op ≠ 12 ∧ op ≠ 13 ∧ op ≠ 14 ∧ op ≠ 15 ∧ op ≠ 16 ∧ op ≠ 17 ∧ op ≠ 18 ∧ op ≠ 19 ∧ op ≠ 20 ∧ op ≠ 21 ∧ op ≠ 22 ∧ op ≠ 23 ∧ op ≠ 24 ∧ op ≠ 25 ∧ op ≠ 26 ∧ op ≠ 27 ∧ op ≠ 28 ∧ op ≠ 29 ∧ op ≠ 30 ∧ op ≠ 31 ∧ op ≠ 32 ∧ op ≠ 33 := by
  refine ⟨?_, ?_, ?_, ?_, ?_, ?_, ?_, ?_, ?_, ?_, ?_, ?_, ?_, ?_, ?_, ?_, ?_, ?_, ?_, ?_, ?_, ?_, ?_, ?_, ?_, ?_, ?_, ?_, ?_, ?_, ?_, ?_, ?_⟩ <;> omega
end Dk
