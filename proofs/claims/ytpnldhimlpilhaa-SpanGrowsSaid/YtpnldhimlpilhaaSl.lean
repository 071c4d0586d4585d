/- Plain arithmetic of spans (no program in sight): what each operator's span is; answers lie in it. -/
import Derived.Test.YtpnldhimlpilhaaSd
namespace Dk
open Go Go.RowKit

def has (a : Int × Int) (x : Int) : Prop := a.1 ≤ x ∧ x ≤ a.2
def whole (a : Int × Int) : Bool := decide (a.1 ≤ a.2) && word a.1 && word a.2
theorem whole_iff (a : Int × Int) : whole a = true ↔ a.1 ≤ a.2 ∧ (-2147483648 ≤ a.1 ∧ a.1 ≤ 2147483647) ∧ (-2147483648 ≤ a.2 ∧ a.2 ≤ 2147483647) := by
  simp [whole, word]; omega
def min4 (a b c d : Int) : Int := min (min (min a b) c) d
def max4 (a b c d : Int) : Int := max (max (max a b) c) d
def corn (f : Int → Int → Int) (a b : Int × Int) : Int × Int := (min4 (f a.1 b.1) (f a.1 b.2) (f a.2 b.1) (f a.2 b.2), max4 (f a.1 b.1) (f a.1 b.2) (f a.2 b.1) (f a.2 b.2))
/-- how many digits a number has, beside the sign -/
def len (n : Nat) : Nat := if n = 0 then 0 else n.log2 + 1
def fold (x : Int) : Nat := (if x < 0 then -x - 1 else x).toNat
def digs (a b : Int × Int) : Nat := max (max (max (len (fold a.1)) (len (fold a.2))) (len (fold b.1))) (len (fold b.2))
theorem len_le (n m : Nat) : len n ≤ m ↔ n < 2 ^ m := by
  unfold len
  by_cases h : n = 0
  · subst h; simp [Nat.two_pow_pos]
  · rw [if_neg h, ← Nat.log2_lt h]; omega
theorem fold_lt (x : Int) (m : Nat) : fold x < 2 ^ m ↔ -(2 : Int) ^ m ≤ x ∧ x < 2 ^ m := by
  unfold fold
  have e : (2 : Int) ^ m = ((2 ^ m : Nat) : Int) := by simp
  rw [e]
  split <;> omega
theorem digs_le (a b : Int × Int) (m : Nat) : digs a b ≤ m ↔ (-(2 : Int) ^ m ≤ a.1 ∧ a.1 < 2 ^ m) ∧ (-(2 : Int) ^ m ≤ a.2 ∧ a.2 < 2 ^ m) ∧ (-(2 : Int) ^ m ≤ b.1 ∧ b.1 < 2 ^ m) ∧ (-(2 : Int) ^ m ≤ b.2 ∧ b.2 < 2 ^ m) := by
  rw [← fold_lt, ← fold_lt, ← fold_lt, ← fold_lt, ← len_le, ← len_le, ← len_le, ← len_le]
  unfold digs; omega
def both (a b : Int × Int) : Int × Int :=
  if a.1 ≥ 0 ∧ b.1 ≥ 0 then (0, min a.2 b.2) else if a.1 ≥ 0 then (0, a.2) else if b.1 ≥ 0 then (0, b.2) else (-(2 : Int) ^ digs a b, 2 ^ digs a b - 1)
def either (op : Int) (a b : Int × Int) : Int × Int :=
  if a.1 ≥ 0 ∧ b.1 ≥ 0 then ((if op = 16 then max a.1 b.1 else 0), 2 ^ digs a b - 1) else (-(2 : Int) ^ digs a b, 2 ^ digs a b - 1)
def tells (always never : Bool) : Int × Int := if always then (1, 1) else if never then (0, 0) else (0, 1)
def cmp (op : Int) (a b : Int × Int) : Int × Int :=
  if op = 18 then tells (decide (a.2 < b.1)) (decide (b.2 ≤ a.1)) else if op = 19 then tells (decide (a.2 ≤ b.1)) (decide (b.2 < a.1))
  else if op = 20 then tells (decide (b.2 < a.1)) (decide (a.2 ≤ b.1)) else if op = 21 then tells (decide (b.2 ≤ a.1)) (decide (a.2 < b.1))
  else if op = 22 then tells (decide (a.1 = a.2 ∧ b.1 = b.2 ∧ a.1 = b.1)) (decide (a.2 < b.1 ∨ b.2 < a.1)) else tells (decide (a.2 < b.1 ∨ b.2 < a.1)) (decide (a.1 = a.2 ∧ b.1 = b.2 ∧ a.1 = b.1))
def span1 (op k s : Int) (a : Int × Int) : (Int × Int) × Int :=
  if op = 5 then ((-a.2, -a.1), 0) else if op = 6 then ((if a.1 ≥ 0 then a else (max 0 (-a.2), max (-a.1) a.2)), 0) else if op = 7 then ((sgn a.1, sgn a.2), 0)
  else if op = 29 then ((a.1 * 2 ^ k.toNat, a.2 * 2 ^ k.toNat), 0) else if op = 30 then ((a.1 / 2 ^ k.toNat, a.2 / 2 ^ k.toNat), 0)
  else if op = 31 then (both a (k, k), 0) else if op = 32 then (corn (· * ·) a (k, k), 0)
  else if max (-a.1) a.2 ≠ 0 ∧ k > 4611686018427387904 / max (-a.1) a.2 then ((0, 0), 13) else ((a.1 * k / 2 ^ s.toNat, a.2 * k / 2 ^ s.toNat), 0)
def span2 (op : Int) (a b : Int × Int) : (Int × Int) × Int :=
  if op = 11 ∨ op = 12 then (if b.1 ≤ 0 ∧ 0 ≤ b.2 then ((0, 0), 12) else if op = 11 then (corn Int.tdiv a b, 0) else ((min 0 (max a.1 (-(max (-b.1) b.2 - 1))), max 0 (min a.2 (max (-b.1) b.2 - 1))), 0))
  else if op = 13 ∨ op = 14 then (if b.1 < 0 ∨ b.2 > 31 then ((0, 0), 13) else if op = 13 then (corn (fun x y => x * 2 ^ y.toNat) a b, 0) else (corn (fun x y => x / 2 ^ y.toNat) a b, 0))
  else if op = 8 then ((a.1 + b.1, a.2 + b.2), 0) else if op = 9 then ((a.1 - b.2, a.2 - b.1), 0) else if op = 10 then (corn (· * ·) a b, 0)
  else if op = 15 then (both a b, 0) else if op = 16 ∨ op = 17 then (either op a b, 0)
  else if op = 24 then ((min a.1 b.1, min a.2 b.2), 0) else if op = 25 then ((max a.1 b.1, max a.2 b.2), 0) else (cmp op a b, 0)
def span3 (op : Int) (a b c : Int × Int) : Int × Int :=
  if op = 26 then (min (max a.1 b.1) c.1, min (max a.2 b.2) c.2) else if op = 27 then (mid a.1 b.1 c.1, mid a.2 b.2 c.2)
  else if ¬ (a.1 ≤ 0 ∧ 0 ≤ a.2) then b else if a.1 = 0 ∧ a.2 = 0 then c else (min b.1 c.1, max b.2 c.2)
def fins (p : (Int × Int) × Int) : (Int × Int) × Int := if p.2 = 0 then (if whole p.1 = true then p else ((0, 0), 13)) else ((0, 0), p.2)
def spanOf (op k s : Int) (l : List (Int × Int)) : (Int × Int) × Int :=
  if arity op < 1 ∨ (l.length : Int) ≠ arity op ∨ consts op k s = false ∨ l.all whole = false then ((0, 0), 1)
  else match l with
    | [a] => fins (span1 op k s a)
    | [a, b] => fins (span2 op a b)
    | [a, b, c] => fins (span3 op a b c, 0)
    | _ => ((0, 0), 0)

theorem mul_mono {a b c : Int} (h : a ≤ b) (hc : 0 ≤ c) : a * c ≤ b * c := Int.mul_le_mul_of_nonneg_right h hc
theorem mul_anti {a b c : Int} (h : a ≤ b) (hc : c ≤ 0) : b * c ≤ a * c := Int.mul_le_mul_of_nonpos_right h hc
/-- between -/
def bt (u v w : Int) : Prop := min u v ≤ w ∧ w ≤ max u v
theorem bt_mul {a b x : Int} (y : Int) (h1 : a ≤ x) (h2 : x ≤ b) : bt (a * y) (b * y) (x * y) := by
  unfold bt
  rcases Int.le_total 0 y with hy | hy
  · have := mul_mono h1 hy; have := mul_mono h2 hy; omega
  · have := mul_anti h1 hy; have := mul_anti h2 hy; omega
theorem corn_has (f : Int → Int → Int) (a b : Int × Int) (x y : Int)
    (h1 : ∀ x' : Int, (x' = a.1 ∨ x' = a.2) → bt (f x' b.1) (f x' b.2) (f x' y)) (h2 : bt (f a.1 y) (f a.2 y) (f x y)) : has (corn f a b) (f x y) := by
  have e1 := h1 a.1 (Or.inl rfl); have e2 := h1 a.2 (Or.inr rfl)
  unfold bt at *
  unfold has corn min4 max4
  simp only
  omega
theorem ediv_mono {a b : Int} (d : Int) (hd : 0 < d) (h : a ≤ b) : a / d ≤ b / d := Int.ediv_le_ediv hd h
theorem bt_ediv {a b x : Int} (d : Int) (hd : 0 < d) (h1 : a ≤ x) (h2 : x ≤ b) : bt (a / d) (b / d) (x / d) := by
  unfold bt
  have := ediv_mono d hd h1; have := ediv_mono d hd h2; omega
/-- a quotient by a greater divisor -/
theorem ediv_div {x p q : Int} (hp : 0 < p) (h : p ≤ q) : (0 ≤ x → x / q ≤ x / p) ∧ (x < 0 → x / p ≤ x / q) := by
  constructor
  · intro hx
    rw [Int.le_ediv_iff_mul_le hp]
    have h1 : 0 ≤ x / q := Int.ediv_nonneg hx (by omega)
    have h2 := Int.mul_le_mul_of_nonneg_left h h1
    have h3 := Int.ediv_mul_le x (show q ≠ 0 by omega)
    omega
  · intro hx
    rw [Int.le_ediv_iff_mul_le (by omega)]
    have h1 : x / p ≤ 0 := by have := ediv_mono p hp (show x ≤ 0 by omega); rwa [Int.zero_ediv] at this
    have h2 := Int.mul_le_mul_of_nonpos_left h1 h
    have h3 := Int.ediv_mul_le x (show p ≠ 0 by omega)
    omega
theorem pow_mono {m n : Nat} (h : m ≤ n) : (2 : Int) ^ m ≤ 2 ^ n := by
  have h1 : (2 : Nat) ^ m ≤ 2 ^ n := Nat.pow_le_pow_right (by omega) h
  have e1 : (2 : Int) ^ m = ((2 ^ m : Nat) : Int) := by simp
  have e2 : (2 : Int) ^ n = ((2 ^ n : Nat) : Int) := by simp
  omega
theorem pow_pos' (n : Nat) : (0 : Int) < 2 ^ n := by
  have h2 : 0 < (2 : Nat) ^ n := Nat.two_pow_pos n
  have e : (2 : Int) ^ n = ((2 ^ n : Nat) : Int) := by simp
  omega
theorem shr_has (a b : Int × Int) (x y : Int) (hx : has a x) (hy : has b y) : has (corn (fun x y => x / 2 ^ y.toNat) a b) (x / 2 ^ y.toNat) := by
  refine corn_has (fun x y => x / 2 ^ y.toNat) a b x y (fun x' _ => ?_) (bt_ediv _ (pow_pos' _) hx.1 hx.2)
  have h1 := pow_mono (show b.1.toNat ≤ y.toNat by have := hy.1; omega)
  have h2 := pow_mono (show y.toNat ≤ b.2.toNat by have := hy.2; omega)
  have h3 := @ediv_div x' _ _ (pow_pos' b.1.toNat) h1
  have h4 := @ediv_div x' _ _ (pow_pos' y.toNat) h2
  unfold bt
  rcases (show x' < 0 ∨ 0 ≤ x' by omega) with h | h
  · have := h3.2 h; have := h4.2 h; omega
  · have := h3.1 h; have := h4.1 h; omega
theorem shl_has (a b : Int × Int) (x y : Int) (hx : has a x) (hy : has b y) : has (corn (fun x y => x * 2 ^ y.toNat) a b) (x * 2 ^ y.toNat) := by
  refine corn_has (fun x y => x * 2 ^ y.toNat) a b x y (fun x' _ => ?_) (bt_mul _ hx.1 hx.2)
  have h1 := pow_mono (show b.1.toNat ≤ y.toNat by have := hy.1; omega)
  have h2 := pow_mono (show y.toNat ≤ b.2.toNat by have := hy.2; omega)
  have h3 := bt_mul (a := 2 ^ b.1.toNat) (b := 2 ^ b.2.toNat) (x := 2 ^ y.toNat) x' h1 h2
  rw [Int.mul_comm _ x', Int.mul_comm _ x', Int.mul_comm _ x'] at h3
  exact h3
theorem mul_has (a b : Int × Int) (x y : Int) (hx : has a x) (hy : has b y) : has (corn (· * ·) a b) (x * y) := by
  refine corn_has (· * ·) a b x y (fun x' _ => ?_) (bt_mul y hx.1 hx.2)
  have h3 := bt_mul (a := b.1) (b := b.2) (x := y) x' hy.1 hy.2
  rw [Int.mul_comm _ x', Int.mul_comm _ x', Int.mul_comm _ x'] at h3
  exact h3
/-- a quotient, rounded towards nought, by its size -/
theorem tdiv_cases (x d : Int) (_hd : 0 < d) : (0 ≤ x → x.tdiv d = x / d) ∧ (x ≤ 0 → x.tdiv d = -((-x) / d)) := by
  constructor
  · intro h; exact Int.tdiv_eq_ediv_of_nonneg h
  · intro h
    have h1 := Int.neg_tdiv (a := -x) (b := d)
    rw [Int.neg_neg] at h1
    rw [h1, Int.tdiv_eq_ediv_of_nonneg (by omega)]
theorem tdiv_mono {a b : Int} (d : Int) (hd : 0 < d) (h : a ≤ b) : a.tdiv d ≤ b.tdiv d := by
  rcases Int.le_total 0 a with ha | ha
  · rw [(tdiv_cases a d hd).1 ha, (tdiv_cases b d hd).1 (by omega)]; exact ediv_mono d hd h
  · rw [(tdiv_cases a d hd).2 ha]
    have h1 : 0 ≤ (-a) / d := Int.ediv_nonneg (by omega) (by omega)
    rcases Int.le_total 0 b with hb | hb
    · rw [(tdiv_cases b d hd).1 hb]; have : 0 ≤ b / d := Int.ediv_nonneg hb (by omega); omega
    · rw [(tdiv_cases b d hd).2 hb]; have := ediv_mono d hd (show -b ≤ -a by omega); omega
theorem bt_tdiv {a b x : Int} (d : Int) (hd : d ≠ 0) (h1 : a ≤ x) (h2 : x ≤ b) : bt (a.tdiv d) (b.tdiv d) (x.tdiv d) := by
  unfold bt
  rcases (show 0 < d ∨ d ≤ 0 by omega) with h | h
  · have := tdiv_mono d h h1; have := tdiv_mono d h h2; omega
  · have e : ∀ z : Int, z.tdiv d = -(z.tdiv (-d)) := fun z => by rw [Int.tdiv_neg, Int.neg_neg]
    rw [e a, e b, e x]
    have := tdiv_mono (-d) (by omega) h1; have := tdiv_mono (-d) (by omega) h2; omega
theorem tdiv_div {x p q : Int} (hp : 0 < p) (h : p ≤ q) : (0 ≤ x → x.tdiv q ≤ x.tdiv p) ∧ (x ≤ 0 → x.tdiv p ≤ x.tdiv q) := by
  constructor
  · intro hx; rw [(tdiv_cases x p hp).1 hx, (tdiv_cases x q (by omega)).1 hx]; exact (ediv_div hp h).1 hx
  · intro hx; rw [(tdiv_cases x p hp).2 hx, (tdiv_cases x q (by omega)).2 hx]; have := (@ediv_div (-x) p q hp h).1 (by omega); omega
theorem div_has (a b : Int × Int) (x y : Int) (hx : has a x) (hy : has b y) (hb : ¬ (b.1 ≤ 0 ∧ 0 ≤ b.2)) : has (corn Int.tdiv a b) (x.tdiv y) := by
  have hy' := hy; unfold has at hy'
  refine corn_has Int.tdiv a b x y (fun x' _ => ?_) (bt_tdiv y (by omega) hx.1 hx.2)
  unfold bt
  rcases (show 0 < b.1 ∨ b.1 ≤ 0 by omega) with h | h
  · have h3 := @tdiv_div x' b.1 y h hy'.1
    have h4 := @tdiv_div x' y b.2 (by omega) hy'.2
    rcases Int.le_total 0 x' with hx' | hx'
    · have := h3.1 hx'; have := h4.1 hx'; omega
    · have := h3.2 hx'; have := h4.2 hx'; omega
  · have e : ∀ z : Int, x'.tdiv z = -(x'.tdiv (-z)) := fun z => by rw [Int.tdiv_neg, Int.neg_neg]
    rw [e b.1, e b.2, e y]
    have h3 := @tdiv_div x' (-b.2) (-y) (by omega) (by omega)
    have h4 := @tdiv_div x' (-y) (-b.1) (by omega) (by omega)
    rcases Int.le_total 0 x' with hx' | hx'
    · have := h3.1 hx'; have := h4.1 hx'; omega
    · have := h3.2 hx'; have := h4.2 hx'; omega
theorem mod_has (a b : Int × Int) (x y : Int) (hx : has a x) (hy : has b y) (hb : ¬ (b.1 ≤ 0 ∧ 0 ≤ b.2)) : has (min 0 (max a.1 (-(max (-b.1) b.2 - 1))), max 0 (min a.2 (max (-b.1) b.2 - 1))) (x.tmod y) := by
  have hy' := hy; have hx' := hx; unfold has at hy' hx'
  have h1 := Int.natAbs_tmod x y
  have h2 : x.natAbs % y.natAbs < y.natAbs := Nat.mod_lt _ (by omega)
  have h3 : x.natAbs % y.natAbs ≤ x.natAbs := Nat.mod_le _ _
  unfold has
  simp only
  rcases Int.le_total 0 x with h | h
  · have := Int.tmod_nonneg y h; omega
  · have := Int.tmod_nonneg y (a := -x) (by omega); rw [Int.neg_tmod] at this; omega
theorem ops1 (op : Int) (ha : arity op = 1) : op = 5 ∨ op = 6 ∨ op = 7 ∨ op = 29 ∨ op = 30 ∨ op = 31 ∨ op = 32 ∨ op = 33 := by
  unfold arity at ha; repeat' split at ha
  all_goals first | omega | (exfalso; omega)
theorem ops2 (op : Int) (ha : arity op = 2) : op = 8 ∨ op = 9 ∨ op = 10 ∨ op = 11 ∨ op = 12 ∨ op = 13 ∨ op = 14 ∨ op = 15 ∨ op = 16 ∨ op = 17 ∨ op = 18 ∨ op = 19 ∨ op = 20 ∨ op = 21 ∨ op = 22 ∨ op = 23 ∨ op = 24 ∨ op = 25 := by
  unfold arity at ha; repeat' split at ha
  all_goals first | omega | (exfalso; omega)
theorem ops3 (op : Int) (ha : arity op = 3) : op = 26 ∨ op = 27 ∨ op = 28 := by
  unfold arity at ha; repeat' split at ha
  all_goals first | omega | (exfalso; omega)
end Dk
