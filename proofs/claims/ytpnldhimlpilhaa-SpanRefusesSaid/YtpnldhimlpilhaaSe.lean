/- What the printed functions of layer 4's reference come to, by the plain words. -/
import Derived.Test.YtpnldhimlpilhaaSc
import Derived.Test.YtpnldhimlpilhaaSd
import Derived.Test.YtpnldhimlpilhaaFdamaskref042
import Derived.Test.YtpnldhimlpilhaaFdamaskref043
import Derived.Test.YtpnldhimlpilhaaFdamaskref044
namespace Go.Proofs.Ytpnldhimlpilhaa.Pure
open Go.RowKit Go.Proofs.Ytpnldhimlpilhaa.F Go.Proofs.YtpnldhimlpilhaaW.PrintWords Go.Proofs.YtpnldhimlpilhaaW.PrintLast Go.Proofs.YtpnldhimlpilhaaW.PrintMore

theorem ref_size (a : Int) (h1 : -2147483648 ≤ a ∧ a ≤ 2147483647) : damaskref04_size.f a = some (max a (-a)) := by
  unfold damaskref04_size.f
  rw [neg_code a h1]
  split <;> congr 1 <;> omega
theorem ref_truth (b : Bool) : damaskref04_truth.f b = some (Dk.bit b) := by cases b <;> rfl
theorem pow_step (n : Nat) : (2 : Int) ^ (n + 1) = 2 * 2 ^ n := by rw [Int.pow_succ, Int.mul_comm]
theorem power_step (k : Nat) (n x i : Int) : damaskref04_Power.l0 (k + 1) n x i = if i < n then damaskref04_Power.l0 k n (wrap64 (2 * x)) (wrap64 (i + 1)) else some x := rfl
theorem power_l0 (n : Int) (hn : n ≤ 62) : ∀ (d k : Nat) (i : Nat), (i : Int) + d = n → damaskref04_Power.l0 (k + d + 1) n (2 ^ i) i = some (2 ^ n.toNat) := by
  intro d
  induction d with
  | zero =>
    intro k i h
    rw [power_step, if_neg (by omega), show n.toNat = i by omega]
  | succ d ih =>
    intro k i h
    have hp := Dk.pow_le62 (i + 1) (by omega)
    rw [show k + (d + 1) + 1 = (k + d + 1) + 1 from rfl, power_step, if_pos (by omega), ← pow_step, Dk.wrap64_of _ (by omega), Dk.wrap64_of _ (by omega)]
    exact ih k (i + 1) (by omega)
theorem ref_power (k : Nat) (n : Int) (h : 0 ≤ n ∧ n ≤ 62) : damaskref04_Power.f (k + 63) n = some (2 ^ n.toNat) := by
  unfold damaskref04_Power.f
  have := power_l0 n h.2 n.toNat (k + 62 - n.toNat) 0 (by omega)
  rw [show k + 62 - n.toNat + n.toNat + 1 = k + 63 by omega] at this
  exact this
theorem floor_up (a d : Int) (hd : 1 ≤ d) : -((-a + d - 1) / d) = a / d := by
  have e1 := Int.mul_ediv_add_emod (-a + d - 1) d
  have e2 := Int.emod_nonneg (-a + d - 1) (b := d) (by omega)
  have e3 := Int.emod_lt_of_pos (-a + d - 1) (b := d) (by omega)
  generalize (-a + d - 1) / d = m at *
  generalize (-a + d - 1) % d = r at *
  symm
  apply Int.le_antisymm
  · refine Int.le_of_lt_add_one ((Int.ediv_lt_iff_lt_mul (by omega)).mpr ?_)
    rw [Int.add_mul, Int.neg_mul, Int.mul_comm m d]; omega
  · refine (Int.le_ediv_iff_mul_le (by omega)).mpr ?_
    rw [Int.neg_mul, Int.mul_comm m d]; omega
theorem ref_floor (a d : Int) (ha : -4611686018427387904 ≤ a ∧ a ≤ 4611686018427387904) (hd : 1 ≤ d ∧ d ≤ 4611686018427387904) : damaskref04_Floor.f a d = some (a / d) := by
  unfold damaskref04_Floor.f
  have hb := Dk.fdiv_bound (a := a) (d := d) (A := 4611686018427387904) (by omega) ha.1 ha.2 hd.1
  split
  · rw [if_neg (by omega), Dk.wrap64_of (-a) (by omega), show wrap64 (wrap64 (-a + d) - 1) = -a + d - 1 by unfold wrap64; omega, Int.tdiv_eq_ediv_of_nonneg (by omega)]
    have e := floor_up a d hd.1
    rw [Dk.wrap64_of ((-a + d - 1) / d) (by omega), e, Dk.wrap64_of _ (by omega)]
  · rw [if_neg (by omega), Int.tdiv_eq_ediv_of_nonneg (by omega), Dk.wrap64_of _ (by omega)]
theorem ref_divide (a b : Int) (h1 : -2147483648 ≤ a ∧ a ≤ 2147483647) (h2 : -2147483648 ≤ b ∧ b ≤ 2147483647) (h0 : b ≠ 0) : damaskref04_divide.f a b = some (a.tdiv b) := by
  unfold damaskref04_divide.f
  rw [ref_size a h1, ref_size b h2]
  simp only [Option.bind_some]
  rw [if_neg (by omega)]
  have hd := Dk.tdiv_bound (a := a) (b := b) (A := 2147483648) (by omega) (by omega)
  by_cases ha : a < 0
  · by_cases hb : b < 0
    · rw [if_pos ha, if_pos hb, show max a (-a) = -a by omega, show max b (-b) = -b by omega, Int.neg_tdiv_neg, Dk.wrap64_of _ (by omega)]
    · rw [if_pos ha, if_neg hb, show max a (-a) = -a by omega, show max b (-b) = b by omega, Int.neg_tdiv, Dk.wrap64_of (-(a.tdiv b)) (by omega), Int.neg_neg, Dk.wrap64_of _ (by omega)]
  · by_cases hb : b < 0
    · rw [if_neg ha, if_pos hb, show max a (-a) = a by omega, show max b (-b) = -b by omega, Int.tdiv_neg, Dk.wrap64_of (-(a.tdiv b)) (by omega), Int.neg_neg, Dk.wrap64_of _ (by omega)]
    · rw [if_neg ha, if_neg hb, show max a (-a) = a by omega, show max b (-b) = b by omega, Dk.wrap64_of _ (by omega)]
theorem mod_small (a b : Int) (h1 : -2147483648 ≤ a ∧ a ≤ 2147483647) (_ : b ≠ 0) : wrap64 (a - wrap64 (b * a.tdiv b)) = a.tmod b := by
  have e := Int.mul_tdiv_add_tmod a b
  have hb := Int.natAbs_tmod a b
  have hc : (a.tmod b).natAbs ≤ a.natAbs := by rw [hb]; exact Nat.mod_le _ _
  rw [show b * a.tdiv b = a - a.tmod b by omega, Dk.wrap64_of (a - a.tmod b) (by omega), Dk.wrap64_of _ (by omega)]; omega
/-- the digits, one by one -/
theorem digits_run (op : Int) (g : Nat → Nat → Nat) (B : Int → Int → Int) (X Y : Nat) (hX : X < 4294967296) (hY : Y < 4294967296)
    (hg : ∀ i : Nat, B ((X / 2 ^ i : Nat) : Int) ((Y / 2 ^ i : Nat) : Int) = ((g X Y / 2 ^ i % 2 : Nat) : Int))
    (hs : ∀ (k : Nat) (x y o w i : Int), i < 32 → damaskref04_bitwise.l0 (k + 1) op x y o w i = damaskref04_bitwise.l0 k op (wrap64 (Int.tdiv x 2)) (wrap64 (Int.tdiv y 2)) (wrap64 (o + wrap64 (B x y * w))) (wrap64 (2 * w)) (wrap64 (i + 1))) :
    ∀ (d k i : Nat), i + d = 32 → damaskref04_bitwise.l0 (k + d + 1) op ((X / 2 ^ i : Nat) : Int) ((Y / 2 ^ i : Nat) : Int) ((g X Y % 2 ^ i : Nat) : Int) ((2 ^ i : Nat) : Int) i
      = damaskref04_bitwise.l0 (k + 1) op 0 0 ((g X Y % 4294967296 : Nat) : Int) 4294967296 32 := by
  intro d
  induction d with
  | zero =>
    intro k i h
    obtain rfl : i = 32 := by omega
    have e1 : X / 2 ^ 32 = 0 := Nat.div_eq_of_lt hX
    have e2 : Y / 2 ^ 32 = 0 := Nat.div_eq_of_lt hY
    rw [e1, e2]; rfl
  | succ d ih =>
    intro k i h
    have hp : (2 : Nat) ^ i ≤ 2 ^ 31 := Nat.pow_le_pow_right (by omega) (by omega)
    have hq : (2 : Nat) ^ (i + 1) = 2 ^ i * 2 := Nat.pow_succ _ _
    have hx : X / 2 ^ i ≤ X := Nat.div_le_self _ _
    have hy : Y / 2 ^ i ≤ Y := Nat.div_le_self _ _
    have e1 : X / 2 ^ i / 2 = X / 2 ^ (i + 1) := by rw [Nat.div_div_eq_div_mul, hq]
    have e2 : Y / 2 ^ i / 2 = Y / 2 ^ (i + 1) := by rw [Nat.div_div_eq_div_mul, hq]
    have e3 := Nat.mod_pow_succ (x := g X Y) (b := 2) (k := i)
    have hm : g X Y % 2 ^ i < 2 ^ i := Nat.mod_lt _ (Nat.two_pow_pos i)
    have hb : g X Y / 2 ^ i % 2 < 2 := Nat.mod_lt _ (by omega)
    rw [show k + (d + 1) + 1 = (k + d + 1) + 1 from rfl, hs _ _ _ _ _ _ (by omega), hg i, Int.tdiv_eq_ediv_of_nonneg (Int.natCast_nonneg _), Int.tdiv_eq_ediv_of_nonneg (Int.natCast_nonneg _)]
    have hi := ih k (i + 1) (by omega)
    rw [e3] at hi
    rw [← hi, ← e1, ← e2]
    have f4 : 2 ^ i * (g X Y / 2 ^ i % 2) ≤ 2 ^ i := by
      rcases Nat.mod_two_eq_zero_or_one (g X Y / 2 ^ i) with h | h <;> rw [h] <;> omega
    have f3 : ((g X Y / 2 ^ i % 2 : Nat) : Int) * ((2 ^ i : Nat) : Int) = ((2 ^ i * (g X Y / 2 ^ i % 2) : Nat) : Int) := by rw [← Int.natCast_mul, Nat.mul_comm]
    rw [f3, hq]
    clear e1 e2 hi f3 ih hs hg hb e3
    generalize X / 2 ^ i = x at *
    generalize Y / 2 ^ i = y at *
    generalize 2 ^ i * (g X Y / 2 ^ i % 2) = u at *
    generalize g X Y % 2 ^ i = v at *
    generalize (2 : Nat) ^ i = q at *
    rw [Dk.wrap64_of ((u : Nat) : Int) (by omega), Dk.wrap64_of _ (by omega), Dk.wrap64_of _ (by omega), Dk.wrap64_of _ (by omega), Dk.wrap64_of _ (by omega), Dk.wrap64_of _ (by omega), Nat.mul_comm q 2]
    rfl
theorem nat_two_pow (X Y i : Nat) : (X &&& Y) / 2 ^ i = X / 2 ^ i &&& Y / 2 ^ i ∧ (X ||| Y) / 2 ^ i = X / 2 ^ i ||| Y / 2 ^ i ∧ (X ^^^ Y) / 2 ^ i = X / 2 ^ i ^^^ Y / 2 ^ i := by
  simp only [← Nat.shiftRight_eq_div_pow]
  exact ⟨Nat.shiftRight_and_distrib, Nat.shiftRight_or_distrib, Nat.shiftRight_xor_distrib⟩
theorem tmod_two (n : Nat) : Int.tmod (n : Int) 2 = ((n % 2 : Nat) : Int) := by rw [Int.tmod_eq_emod_of_nonneg (by omega)]; rfl
/-- the sign behind 32 digits -/
theorem sign32 (k : Nat) (op : Int) (v : BitVec 32) (n : Nat) (hn : n = v.toNat) : damaskref04_bitwise.l0 (k + 1) op 0 0 ((n % 4294967296 : Nat) : Int) 4294967296 32 = some v.toInt := by
  have hl : v.toNat < 4294967296 := v.isLt
  subst hn
  rw [Nat.mod_eq_of_lt hl, BitVec.toInt_eq_toNat_cond]
  simp only [damaskref04_bitwise.l0]
  rw [if_neg (by omega)]
  split
  · rw [if_neg (by omega), Dk.wrap64_of _ (by omega)]; rfl
  · rw [if_pos (by omega)]
theorem ofInt32 (a : Int) : (BitVec.ofInt 32 a).toNat = (a % 4294967296).toNat := by rw [BitVec.toNat_ofInt]; rfl
theorem unsign (a : Int) (h : -2147483648 ≤ a ∧ a ≤ 2147483647) : (if a < 0 then wrap64 (a + 4294967296) else a) = (((a % 4294967296).toNat : Nat) : Int) := by
  split
  · rw [Dk.wrap64_of _ (by omega)]; omega
  · omega
theorem bitwise_open (k : Nat) (op a b : Int) : damaskref04_bitwise.f (k + 2) op a b = damaskref04_bitwise.l0 k op (if a < 0 then wrap64 (a + 4294967296) else a) (if b < 0 then wrap64 (b + 4294967296) else b) 0 1 0 := by
  unfold damaskref04_bitwise.f
  by_cases ha : a < 0 <;> by_cases hb : b < 0
  · rw [if_pos ha, if_pos ha, if_pos hb]; simp only [damaskref04_bitwise.j0]; rw [if_pos hb]; rfl
  · rw [if_pos ha, if_pos ha, if_neg hb]; simp only [damaskref04_bitwise.j0]; rw [if_neg hb]; rfl
  · rw [if_neg ha, if_neg ha, if_pos hb]; simp only [damaskref04_bitwise.j0]; rw [if_pos hb]; rfl
  · rw [if_neg ha, if_neg ha, if_neg hb]; simp only [damaskref04_bitwise.j0]; rw [if_neg hb]; rfl
theorem ref_band (k : Nat) (a b : Int) (h1 : -2147483648 ≤ a ∧ a ≤ 2147483647) (h2 : -2147483648 ≤ b ∧ b ≤ 2147483647) : damaskref04_bitwise.f (k + 35) 15 a b = some (Dk.band a b) := by
  rw [bitwise_open, unsign a h1, unsign b h2]
  have := digits_run 15 (· &&& ·) (fun x y => wrap64 (Int.tmod x 2 * Int.tmod y 2)) (a % 4294967296).toNat (b % 4294967296).toNat (by omega) (by omega) (fun i => by
    rw [(nat_two_pow _ _ i).1, Dk.and_two, tmod_two, tmod_two, Dk.wrap64_of _ ?_, Int.natCast_mul]
    rcases Nat.mod_two_eq_zero_or_one ((a % 4294967296).toNat / 2 ^ i) with h | h <;> rcases Nat.mod_two_eq_zero_or_one ((b % 4294967296).toNat / 2 ^ i) with h' | h' <;> rw [h, h'] <;> decide)
    (fun k x y o w i hi => by
      simp only [damaskref04_bitwise.l0]; rw [if_pos hi]; rfl) 32 k 0 rfl
  rw [show (2 : Nat) ^ 0 = 1 from rfl, Nat.div_one, Nat.div_one, Nat.mod_one] at this
  refine this.trans ?_
  rw [sign32 k 15 (BitVec.ofInt 32 a &&& BitVec.ofInt 32 b) _ (by rw [BitVec.toNat_and, ofInt32, ofInt32])]
  congr 1
  show _ = (BitVec.ofInt 64 a &&& BitVec.ofInt 64 b).toInt
  rw [(Dk.ext_of 31 (by omega) a (by omega) (by omega)).1, (Dk.ext_of 31 (by omega) b (by omega) (by omega)).1, ← BitVec.signExtend_and, BitVec.toInt_signExtend_of_le (by omega)]
theorem ref_bor (k : Nat) (a b : Int) (h1 : -2147483648 ≤ a ∧ a ≤ 2147483647) (h2 : -2147483648 ≤ b ∧ b ≤ 2147483647) : damaskref04_bitwise.f (k + 35) 16 a b = some (Dk.bor a b) := by
  rw [bitwise_open, unsign a h1, unsign b h2]
  have := digits_run 16 (· ||| ·) (fun x y => wrap64 (wrap64 (Int.tmod x 2 + Int.tmod y 2) - wrap64 (Int.tmod x 2 * Int.tmod y 2))) (a % 4294967296).toNat (b % 4294967296).toNat (by omega) (by omega) (fun i => by
    rw [(nat_two_pow _ _ i).2.1, Dk.or_two, tmod_two, tmod_two]
    rcases Nat.mod_two_eq_zero_or_one ((a % 4294967296).toNat / 2 ^ i) with h | h <;> rcases Nat.mod_two_eq_zero_or_one ((b % 4294967296).toNat / 2 ^ i) with h' | h' <;> rw [h, h'] <;> unfold wrap64 <;> decide)
    (fun k x y o w i hi => by
      simp only [damaskref04_bitwise.l0]; rw [if_pos hi]; rfl) 32 k 0 rfl
  rw [show (2 : Nat) ^ 0 = 1 from rfl, Nat.div_one, Nat.div_one, Nat.mod_one] at this
  refine this.trans ?_
  rw [sign32 k 16 (BitVec.ofInt 32 a ||| BitVec.ofInt 32 b) _ (by rw [BitVec.toNat_or, ofInt32, ofInt32])]
  congr 1
  show _ = (BitVec.ofInt 64 a ||| BitVec.ofInt 64 b).toInt
  rw [(Dk.ext_of 31 (by omega) a (by omega) (by omega)).1, (Dk.ext_of 31 (by omega) b (by omega) (by omega)).1, ← BitVec.signExtend_or, BitVec.toInt_signExtend_of_le (by omega)]
theorem ref_bxor (k : Nat) (a b : Int) (h1 : -2147483648 ≤ a ∧ a ≤ 2147483647) (h2 : -2147483648 ≤ b ∧ b ≤ 2147483647) : damaskref04_bitwise.f (k + 35) 17 a b = some (Dk.bxor a b) := by
  rw [bitwise_open, unsign a h1, unsign b h2]
  have := digits_run 17 (· ^^^ ·) (fun x y => Int.tmod (wrap64 (Int.tmod x 2 + Int.tmod y 2)) 2) (a % 4294967296).toNat (b % 4294967296).toNat (by omega) (by omega) (fun i => by
    rw [(nat_two_pow _ _ i).2.2, Dk.xor_two, tmod_two, tmod_two]
    rcases Nat.mod_two_eq_zero_or_one ((a % 4294967296).toNat / 2 ^ i) with h | h <;> rcases Nat.mod_two_eq_zero_or_one ((b % 4294967296).toNat / 2 ^ i) with h' | h' <;> rw [h, h'] <;> unfold wrap64 <;> decide)
    (fun k x y o w i hi => by
      simp only [damaskref04_bitwise.l0]; rw [if_pos hi]; rfl) 32 k 0 rfl
  rw [show (2 : Nat) ^ 0 = 1 from rfl, Nat.div_one, Nat.div_one, Nat.mod_one] at this
  refine this.trans ?_
  rw [sign32 k 17 (BitVec.ofInt 32 a ^^^ BitVec.ofInt 32 b) _ (by rw [BitVec.toNat_xor, ofInt32, ofInt32])]
  congr 1
  show _ = (BitVec.ofInt 64 a ^^^ BitVec.ofInt 64 b).toInt
  rw [(Dk.ext_of 31 (by omega) a (by omega) (by omega)).1, (Dk.ext_of 31 (by omega) b (by omega) (by omega)).1, ← BitVec.signExtend_xor, BitVec.toInt_signExtend_of_le (by omega)]
end Go.Proofs.Ytpnldhimlpilhaa.Pure
