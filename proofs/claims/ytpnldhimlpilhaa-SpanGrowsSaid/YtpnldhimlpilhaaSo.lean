/- What the program's span.Of comes to: Dk.spanOf. -/
import Derived.Test.YtpnldhimlpilhaaSn
namespace Go.Proofs.Ytpnldhimlpilhaa.Pure
open Go.RowKit Go.Proofs.Ytpnldhimlpilhaa.F Go.Proofs.YtpnldhimlpilhaaW.PrintWords Go.Proofs.YtpnldhimlpilhaaW.PrintLast Go.Proofs.YtpnldhimlpilhaaW.PrintMore

def tri (p : (Int × Int) × Int) : Int × Int × Int := (p.1.1, p.1.2, p.2)
theorem mul62 {x y : Int} (hx : -2147483648 ≤ x ∧ x ≤ 2147483647) (hy : -2147483648 ≤ y ∧ y ≤ 2147483647) : wrap64 (x * y) = x * y := by
  have := Dk.mul_bound (a := x) (b := y) (A := 2147483648) (B := 2147483648) (by omega) (by omega) (by omega) (by omega)
  exact Dk.wrap64_of _ (by omega)
theorem corn_mul (a b : Int × Int) (ha : Dk.whole a = true) (hb : Dk.whole b = true) :
    span_corners_with55.f a.1 a.2 b.1 b.2 = some (Dk.corn (· * ·) a b) ∧ span_corners_with59.f a.1 a.2 b.1 b.2 = some (Dk.corn (· * ·) a b) := by
  rw [Dk.whole_iff] at ha hb
  have e : ∀ x y : Int, (x = a.1 ∨ x = a.2) → (y = b.1 ∨ y = b.2) → wrap64 (x * y) = x * y := fun x y h1 h2 => mul62 (by omega) (by omega)
  constructor
  · show some (mn (mn (mn (wrap64 (a.1 * b.1)) (wrap64 (a.1 * b.2))) (wrap64 (a.2 * b.1))) (wrap64 (a.2 * b.2)), mx (mx (mx (wrap64 (a.1 * b.1)) (wrap64 (a.1 * b.2))) (wrap64 (a.2 * b.1))) (wrap64 (a.2 * b.2))) = _
    rw [e _ _ (.inl rfl) (.inl rfl), e _ _ (.inl rfl) (.inr rfl), e _ _ (.inr rfl) (.inl rfl), e _ _ (.inr rfl) (.inr rfl)]
    simp only [mn_min, mx_max]; rfl
  · show some (mn (mn (mn (wrap64 (a.1 * b.1)) (wrap64 (a.1 * b.2))) (wrap64 (a.2 * b.1))) (wrap64 (a.2 * b.2)), mx (mx (mx (wrap64 (a.1 * b.1)) (wrap64 (a.1 * b.2))) (wrap64 (a.2 * b.1))) (wrap64 (a.2 * b.2))) = _
    rw [e _ _ (.inl rfl) (.inl rfl), e _ _ (.inl rfl) (.inr rfl), e _ _ (.inr rfl) (.inl rfl), e _ _ (.inr rfl) (.inr rfl)]
    simp only [mn_min, mx_max]; rfl
theorem quo_code (m : Int) (h : 0 ≤ m) : wrap64 (Int.tdiv 4611686018427387904 m) = 4611686018427387904 / m := by
  rw [Int.tdiv_eq_ediv_of_nonneg (by decide)]
  have h1 : (4611686018427387904 : Int) / m ≤ 4611686018427387904 := Int.ediv_le_self _ (by decide)
  have h2 : 0 ≤ (4611686018427387904 : Int) / m := Int.ediv_nonneg (by decide) h
  exact Dk.wrap64_of _ (by omega)
theorem one_span (k : Nat) (op kk s : Int) (a : Int × Int) (ho : Dk.arity op = 1) (hc : Dk.consts op kk s = true) (ha : Dk.whole a = true) : span_one.f (k + 8) op kk s a.1 a.2 = some (tri (Dk.span1 op kk s a)) := by
  have ha' := ha; rw [Dk.whole_iff] at ha'
  rcases Dk.ops1 op ho with rfl | rfl | rfl | rfl | rfl | rfl | rfl | rfl
  · show some (wrap64 (-a.2), wrap64 (-a.1), 0) = some (-a.2, -a.1, 0)
    rw [neg_code _ (by omega), neg_code _ (by omega)]
  · show (if a.1 ≥ 0 then some (a.1, a.2, 0) else some (mx 0 (wrap64 (-a.2)), mx (wrap64 (-a.1)) a.2, 0)) = some (tri ((if a.1 ≥ 0 then a else (max 0 (-a.2), max (-a.1) a.2)), 0))
    rw [neg_code _ (by omega), neg_code _ (by omega), mx_max, mx_max]
    split <;> rfl
  · have hs : ∀ x, span_sign.f x = some (Dk.sgn x) := fun x => by
      show some (mx (-1) (mn 1 x)) = _
      rw [mx_max, mn_min]; congr 1; unfold Dk.sgn; repeat' split <;> omega
    show ((span_sign.f a.1).bind fun t => (span_sign.f a.2).bind fun u => some (t, u, 0)) = some (Dk.sgn a.1, Dk.sgn a.2, 0)
    rw [hs, hs]; rfl
  · have hk : 0 ≤ kk ∧ kk ≤ 31 := by simpa [Dk.consts] using hc
    show (if 0 ≤ kk then some (shl .i64 a.1 kk, shl .i64 a.2 kk, 0) else none) = some (a.1 * 2 ^ kk.toNat, a.2 * 2 ^ kk.toNat, 0)
    rw [if_pos hk.1, shl_code _ _ (by omega) hk, shl_code _ _ (by omega) hk]
  · have hk : 0 ≤ kk ∧ kk ≤ 31 := by simpa [Dk.consts] using hc
    show (if 0 ≤ kk then some (shr .i64 a.1 kk, shr .i64 a.2 kk, 0) else none) = some (a.1 / 2 ^ kk.toNat, a.2 / 2 ^ kk.toNat, 0)
    rw [if_pos hk.1, shr_code _ _ (by omega), shr_code _ _ (by omega)]
  · have hk : 0 ≤ kk ∧ kk ≤ 2147483647 := by simpa [Dk.consts] using hc
    show ((span_both.f (k + 1 + 7) a.1 a.2 (kk, kk).1 (kk, kk).2).bind fun bt => some (bt.1, bt.2, 0)) = some ((Dk.both a (kk, kk)).1, (Dk.both a (kk, kk)).2, 0)
    rw [both_code (k + 1) a (kk, kk) ha (by rw [Dk.whole_iff]; simp only; omega)]; rfl
  · have hk : Dk.word kk = true := hc
    rw [Dk.word_iff] at hk
    show ((span_corners_with55.f a.1 a.2 (kk, kk).1 (kk, kk).2).bind fun bt => some (bt.1, bt.2, 0)) = some ((Dk.corn (· * ·) a (kk, kk)).1, (Dk.corn (· * ·) a (kk, kk)).2, 0)
    rw [(corn_mul a (kk, kk) ha (by rw [Dk.whole_iff]; simp only; omega)).1]; rfl
  · have hk : 1 ≤ kk ∧ kk ≤ 4611686018427387904 ∧ 0 ≤ s ∧ s ≤ 62 := by simpa [Dk.consts] using hc
    show (if (mx (wrap64 (-a.1)) a.2) = 0 then (if 0 ≤ s then (some (shr .i64 (wrap64 (a.1 * kk)) s, shr .i64 (wrap64 (a.2 * kk)) s, 0)) else none) else (if kk > (wrap64 (Int.tdiv (4611686018427387904 : Int) (mx (wrap64 (-a.1)) a.2))) then (some (0, 0, 13)) else (if 0 ≤ s then (some (shr .i64 (wrap64 (a.1 * kk)) s, shr .i64 (wrap64 (a.2 * kk)) s, 0)) else none)))
      = some (tri (if max (-a.1) a.2 ≠ 0 ∧ kk > 4611686018427387904 / max (-a.1) a.2 then ((0, 0), 13) else ((a.1 * kk / 2 ^ s.toNat, a.2 * kk / 2 ^ s.toNat), 0)))
    rw [neg_code _ (by omega), mx_max, quo_code _ (by omega), if_pos hk.2.2.1]
    have fine : ∀ x : Int, (x = a.1 ∨ x = a.2) → ¬ (max (-a.1) a.2 ≠ 0 ∧ kk > 4611686018427387904 / max (-a.1) a.2) → shr .i64 (wrap64 (x * kk)) s = x * kk / 2 ^ s.toNat := by
      intro x hx hn
      have hb := muls_bound x kk (by
        rintro ⟨h0, h1⟩; apply hn; refine ⟨by omega, ?_⟩
        have := (@Dk.ediv_div 4611686018427387904 (max x (-x)) (max (-a.1) a.2) (by omega) (by omega)).1 (by decide)
        omega) (by omega)
      rw [Dk.wrap64_of _ (by omega), shr_code _ _ hk.2.2]
    by_cases hm : max (-a.1) a.2 = 0
    · have hn : ¬ (max (-a.1) a.2 ≠ 0 ∧ kk > 4611686018427387904 / max (-a.1) a.2) := fun h => h.1 hm
      rw [if_pos hm, if_neg hn, fine _ (.inl rfl) hn, fine _ (.inr rfl) hn]; rfl
    · rw [if_neg hm]
      by_cases hq : kk > 4611686018427387904 / max (-a.1) a.2
      · rw [if_pos hq, if_pos ⟨hm, hq⟩]; rfl
      · have hn : ¬ (max (-a.1) a.2 ≠ 0 ∧ kk > 4611686018427387904 / max (-a.1) a.2) := fun h => hq h.2
        rw [if_neg hq, if_neg hn, fine _ (.inl rfl) hn, fine _ (.inr rfl) hn]; rfl
theorem corn_div (a b : Int × Int) (ha : Dk.whole a = true) (hb : ¬ (b.1 ≤ 0 ∧ 0 ≤ b.2)) (hb2 : b.1 ≤ b.2) : span_corners_with56.f a.1 a.2 b.1 b.2 = some (Dk.corn Int.tdiv a b) := by
  rw [Dk.whole_iff] at ha
  have e : ∀ x y : Int, (x = a.1 ∨ x = a.2) → (y = b.1 ∨ y = b.2) → span_two_1.f x y = some (x.tdiv y) := fun x y h1 h2 => by
    have ht := Dk.tdiv_bound (a := x) (b := y) (A := 2147483648) (by omega) (by omega)
    show (if y = 0 then none else some (wrap64 (Int.tdiv x y))) = _
    rw [if_neg (by omega), Dk.wrap64_of _ (by omega)]
  unfold span_corners_with56.f
  rw [e _ _ (.inl rfl) (.inl rfl), e _ _ (.inl rfl) (.inr rfl), e _ _ (.inr rfl) (.inl rfl), e _ _ (.inr rfl) (.inr rfl)]
  simp only [Option.bind_some, mn_min, mx_max]; rfl
theorem corn_shl (a b : Int × Int) (ha : Dk.whole a = true) (hb : 0 ≤ b.1 ∧ b.1 ≤ b.2 ∧ b.2 ≤ 31) :
    span_corners_with57.f a.1 a.2 b.1 b.2 = some (Dk.corn (fun x y => x * 2 ^ y.toNat) a b) ∧ span_corners_with58.f a.1 a.2 b.1 b.2 = some (Dk.corn (fun x y => x / 2 ^ y.toNat) a b) := by
  rw [Dk.whole_iff] at ha
  have e : ∀ x y : Int, (x = a.1 ∨ x = a.2) → (y = b.1 ∨ y = b.2) → span_two_2.f x y = some (x * 2 ^ y.toNat) := fun x y h1 h2 => by
    show (if 0 ≤ y then some (shl .i64 x y) else none) = _
    rw [if_pos (by omega), shl_code _ _ (by omega) (by omega)]
  have f : ∀ x y : Int, (y = b.1 ∨ y = b.2) → span_two_3.f x y = some (x / 2 ^ y.toNat) := fun x y h2 => by
    show (if 0 ≤ y then some (shr .i64 x y) else none) = _
    rw [if_pos (by omega), shr_code _ _ (by omega)]
  constructor
  · unfold span_corners_with57.f
    rw [e _ _ (.inl rfl) (.inl rfl), e _ _ (.inl rfl) (.inr rfl), e _ _ (.inr rfl) (.inl rfl), e _ _ (.inr rfl) (.inr rfl)]
    simp only [Option.bind_some, mn_min, mx_max]; rfl
  · unfold span_corners_with58.f
    rw [f _ _ (.inl rfl), f _ _ (.inr rfl), f _ _ (.inl rfl), f _ _ (.inr rfl)]
    simp only [Option.bind_some, mn_min, mx_max]; rfl
theorem has_code (a : Int × Int) (x : Int) : span_Has.f a.1 a.2 x = some (decide (a.1 ≤ x ∧ x ≤ a.2)) := by
  show (if a.1 ≤ x then some (decide (x ≤ a.2)) else some false) = _
  by_cases h : a.1 ≤ x <;> simp [h]
theorem two_span (k : Nat) (op : Int) (a b : Int × Int) (ho : Dk.arity op = 2) (ha : Dk.whole a = true) (hb : Dk.whole b = true) : span_two.f (k + 12) op a.1 a.2 b.1 b.2 = some (tri (Dk.span2 op a b)) := by
  have ha' := ha; rw [Dk.whole_iff] at ha'
  have hb' := hb; rw [Dk.whole_iff] at hb'
  have hcmp : ∀ o, 18 ≤ o ∧ o ≤ 23 → ((span_compared.f (k + 7 + 1) o a.1 a.2 b.1 b.2).bind fun bt => some (bt.1, bt.2, (0 : Int))) = some ((Dk.cmp o a b).1, (Dk.cmp o a b).2, 0) := fun o h => by rw [cmp_code (k + 7) o a b h ha'.1 hb'.1]; rfl
  rcases Dk.ops2 op ho with rfl | rfl | rfl | rfl | rfl | rfl | rfl | rfl | rfl | rfl | rfl | rfl | rfl | rfl | rfl | rfl | rfl | rfl
  · show some (wrap64 (a.1 + b.1), wrap64 (a.2 + b.2), 0) = some (a.1 + b.1, a.2 + b.2, 0)
    rw [Dk.wrap64_of _ (by omega), Dk.wrap64_of _ (by omega)]
  · show some (wrap64 (a.1 - b.2), wrap64 (a.2 - b.1), 0) = some (a.1 - b.2, a.2 - b.1, 0)
    rw [Dk.wrap64_of _ (by omega), Dk.wrap64_of _ (by omega)]
  · show ((span_corners_with59.f a.1 a.2 b.1 b.2).bind fun bt => some (bt.1, bt.2, 0)) = some ((Dk.corn (· * ·) a b).1, (Dk.corn (· * ·) a b).2, 0)
    rw [(corn_mul a b ha hb).2]; rfl
  · show ((span_Has.f b.1 b.2 0).bind fun t => if t = true then some (0, 0, 12) else (span_corners_with56.f a.1 a.2 b.1 b.2).bind fun bt => some (bt.1, bt.2, 0)) = some (tri (if b.1 ≤ 0 ∧ 0 ≤ b.2 then ((0, 0), 12) else (Dk.corn Int.tdiv a b, 0)))
    rw [has_code]
    simp only [Option.bind_some, decide_eq_true_eq]
    by_cases h : b.1 ≤ 0 ∧ 0 ≤ b.2
    · rw [if_pos h, if_pos h]; rfl
    · rw [if_neg h, if_neg h, corn_div a b ha h hb'.1]; rfl
  · show ((span_Has.f b.1 b.2 0).bind fun t => if t = true then some (0, 0, 12) else some (mn 0 (mx a.1 (wrap64 (-(wrap64 ((mx (wrap64 (-b.1)) b.2) - 1))))), mx 0 (mn a.2 (wrap64 ((mx (wrap64 (-b.1)) b.2) - 1))), 0)) = some (tri (if b.1 ≤ 0 ∧ 0 ≤ b.2 then ((0, 0), 12) else ((min 0 (max a.1 (-(max (-b.1) b.2 - 1))), max 0 (min a.2 (max (-b.1) b.2 - 1))), 0)))
    rw [has_code]
    simp only [Option.bind_some, decide_eq_true_eq]
    by_cases h : b.1 ≤ 0 ∧ 0 ≤ b.2
    · rw [if_pos h, if_pos h]; rfl
    · rw [if_neg h, if_neg h, neg_code b.1 (by omega)]
      simp only [mn_min, mx_max]
      rw [Dk.wrap64_of (max (-b.1) b.2 - 1) (by omega), Dk.wrap64_of (-(max (-b.1) b.2 - 1)) (by omega)]; rfl
  · show (if b.1 < 0 then span_two.j2 (k + 10) 13 true a.1 a.2 b.1 b.2 else span_two.j2 (k + 10) 13 (decide (b.2 > 31)) a.1 a.2 b.1 b.2) = some (tri (if b.1 < 0 ∨ b.2 > 31 then ((0, 0), 13) else (Dk.corn (fun x y => x * 2 ^ y.toNat) a b, 0)))
    have st : ∀ p, span_two.j2 (k + 10) 13 p a.1 a.2 b.1 b.2 = if p = true then some (0, 0, 13) else (span_corners_with57.f a.1 a.2 b.1 b.2).bind fun bt => some (bt.1, bt.2, 0) := fun _ => rfl
    rw [st, st]
    by_cases h1 : b.1 < 0
    · rw [if_pos h1, if_pos rfl, if_pos (Or.inl h1)]; rfl
    · by_cases h2 : b.2 > 31
      · rw [if_neg h1, if_pos (decide_eq_true h2), if_pos (Or.inr h2)]; rfl
      · rw [if_neg h1, if_neg (by simp; omega), if_neg (by omega), (corn_shl a b ha (by omega)).1]; rfl
  · show (if b.1 < 0 then span_two.j2 (k + 10) 14 true a.1 a.2 b.1 b.2 else span_two.j2 (k + 10) 14 (decide (b.2 > 31)) a.1 a.2 b.1 b.2) = some (tri (if b.1 < 0 ∨ b.2 > 31 then ((0, 0), 13) else (Dk.corn (fun x y => x / 2 ^ y.toNat) a b, 0)))
    have st : ∀ p, span_two.j2 (k + 10) 14 p a.1 a.2 b.1 b.2 = if p = true then some (0, 0, 13) else (span_corners_with58.f a.1 a.2 b.1 b.2).bind fun bt => some (bt.1, bt.2, 0) := fun _ => rfl
    rw [st, st]
    by_cases h1 : b.1 < 0
    · rw [if_pos h1, if_pos rfl, if_pos (Or.inl h1)]; rfl
    · by_cases h2 : b.2 > 31
      · rw [if_neg h1, if_pos (decide_eq_true h2), if_pos (Or.inr h2)]; rfl
      · rw [if_neg h1, if_neg (by simp; omega), if_neg (by omega), (corn_shl a b ha (by omega)).2]; rfl
  · show ((span_both.f (k + 3 + 7) a.1 a.2 b.1 b.2).bind fun bt => some (bt.1, bt.2, 0)) = some ((Dk.both a b).1, (Dk.both a b).2, 0)
    rw [both_code (k + 3) a b ha hb]; rfl
  · show ((span_either.f (k + 2 + 7) 16 a.1 a.2 b.1 b.2).bind fun bt => some (bt.1, bt.2, 0)) = some ((Dk.either 16 a b).1, (Dk.either 16 a b).2, 0)
    rw [either_code (k + 2) 16 a b ha hb]; rfl
  · show ((span_either.f (k + 2 + 7) 17 a.1 a.2 b.1 b.2).bind fun bt => some (bt.1, bt.2, 0)) = some ((Dk.either 17 a b).1, (Dk.either 17 a b).2, 0)
    rw [either_code (k + 2) 17 a b ha hb]; rfl
  · exact hcmp 18 (by decide)
  · exact hcmp 19 (by decide)
  · exact hcmp 20 (by decide)
  · exact hcmp 21 (by decide)
  · exact hcmp 22 (by decide)
  · exact hcmp 23 (by decide)
  · show some (mn a.1 b.1, mn a.2 b.2, 0) = some (min a.1 b.1, min a.2 b.2, 0)
    rw [mn_min, mn_min]
  · show some (mx a.1 b.1, mx a.2 b.2, 0) = some (max a.1 b.1, max a.2 b.2, 0)
    rw [mx_max, mx_max]
theorem three_span (op : Int) (a b c : Int × Int) (ho : Dk.arity op = 3) : span_three.f op a.1 a.2 b.1 b.2 c.1 c.2 = some (Dk.span3 op a b c) := by
  rcases Dk.ops3 op ho with rfl | rfl | rfl
  · show some (mn (mx a.1 b.1) c.1, mn (mx a.2 b.2) c.2) = some (min (max a.1 b.1) c.1, min (max a.2 b.2) c.2)
    simp only [mn_min, mx_max]
  · show some (mx (mn a.1 b.1) (mn (mx a.1 b.1) c.1), mx (mn a.2 b.2) (mn (mx a.2 b.2) c.2)) = some (Dk.mid a.1 b.1 c.1, Dk.mid a.2 b.2 c.2)
    simp only [mn_min, mx_max]; rfl
  · show ((span_Has.f a.1 a.2 0).bind fun t => (if t = true then (if a.1 = 0 then (if a.2 = 0 then (some (c.1, c.2)) else some (mn b.1 c.1, mx b.2 c.2)) else some (mn b.1 c.1, mx b.2 c.2)) else (some (b.1, b.2)))) = some (if ¬ (a.1 ≤ 0 ∧ 0 ≤ a.2) then b else if a.1 = 0 ∧ a.2 = 0 then c else (min b.1 c.1, max b.2 c.2))
    rw [has_code]
    simp only [Option.bind_some, decide_eq_true_eq, mn_min, mx_max]
    by_cases h : a.1 ≤ 0 ∧ 0 ≤ a.2
    · rw [if_pos h, if_neg (show ¬ ¬ (a.1 ≤ 0 ∧ 0 ≤ a.2) from fun z => z h)]
      by_cases h1 : a.1 = 0
      · by_cases h2 : a.2 = 0
        · rw [if_pos h1, if_pos h2, if_pos ⟨h1, h2⟩]
        · rw [if_pos h1, if_neg h2, if_neg (fun z => h2 z.2)]
      · rw [if_neg h1, if_neg (fun z => h1 z.1)]
    · rw [if_neg h, if_pos h]
end Go.Proofs.Ytpnldhimlpilhaa.Pure
