/- What the program's span.Of comes to, for every list of spans: Dk.spanOf. -/
import Derived.Test.YtpnldhimlpilhaaSo
import Derived.Test.YtpnldhimlpilhaaSg
import Derived.Test.YtpnldhimlpilhaaFspan8
import Derived.Test.YtpnldhimlpilhaaFdamasklaw051
import Derived.Test.YtpnldhimlpilhaaFdamaskref051
namespace Go.Proofs.Ytpnldhimlpilhaa.Pure
open Go.RowKit Go.Proofs.Ytpnldhimlpilhaa.F Go.Proofs.YtpnldhimlpilhaaW.PrintWords Go.Proofs.YtpnldhimlpilhaaW.PrintLast Go.Proofs.YtpnldhimlpilhaaW.PrintMore

def pr (x : S47) : Int × Int := (x.f0, x.f1)
def prs (l : List S47) : List (Int × Int) := l.map pr
theorem whole_code (x y : Int) : span_Whole.f x y = some (Dk.whole (x, y)) := by
  show (if x ≤ y then ((arith_Word.f x).bind fun t => (if t = true then ((arith_Word.f y).bind fun t => some t) else some false)) else some false) = _
  rw [word_code, word_code]
  unfold Dk.whole
  by_cases h : x ≤ y
  · cases Dk.word x <;> simp [h]
  · simp [h]
theorem ref_whole_code (x y : Int) : damaskref05_Whole.f x y = some (Dk.whole (x, y)) := by
  show (if x ≤ y then ((damaskref04_Word.f x).bind fun t => (if t = true then ((damaskref04_Word.f y).bind fun t => some t) else some false)) else some false) = _
  rw [ref_word_code, ref_word_code]
  unfold Dk.whole
  by_cases h : x ≤ y
  · cases Dk.word x <;> simp [h]
  · simp [h]
theorem of_j2 (k : Nat) (p : (Int × Int) × Int) : span_Of.j2 (k + 2) p.2 p.1.1 p.1.2 = some (tri (Dk.fins p)) := by
  obtain ⟨⟨x, y⟩, e⟩ := p
  have st : ∀ q : Bool, span_Of.j3 (k + 1) e q x y = if q = true then (some (0, 0, 13)) else (if e = 0 then (some (x, y, 0)) else (some (0, 0, e))) := fun _ => rfl
  show (if e = 0 then ((span_Whole.f x y).bind fun t => (span_Of.j3 (k + 1) e (!t) x y)) else (span_Of.j3 (k + 1) e false x y)) = some (tri (Dk.fins ((x, y), e)))
  unfold Dk.fins
  simp only [st, whole_code, Option.bind_some]
  by_cases he : e = 0
  · subst he
    cases Dk.whole (x, y) <;> rfl
  · rw [if_neg he, if_neg he, if_neg (by decide), if_neg he]; rfl
theorem of_step (k : Nat) (op a s : Int) (l : List S47) (i : Int) (h0 : 0 ≤ i) (h : i < (l.length : Int)) : span_Of.l0 (k + 1) op a s l l (l.length : Int) i =
    if Dk.whole (pr (rd_T47 l i)) = true then span_Of.l0 k op a s l l (l.length : Int) (wrap64 (i + 1)) else some (0, 0, 1) := by
  simp only [span_Of.l0]; rw [if_pos h, if_pos h0, if_pos h, whole_code]; rfl
theorem Of_code (k : Nat) (op a s : Int) (l : List S47) : span_Of.f (k + 30) op a s l = some (tri (Dk.spanOf op a s (prs l))) := by
  have eA : arith_Arity.f (k + 30) op = some (Dk.arity op) := arity_code (k + 27) op
  have eC : arith_Constants.f (k + 30) op a s = some (Dk.consts op a s) := consts_code (k + 27) op a s
  unfold span_Of.f Dk.spanOf
  simp only [eA, eC, Option.bind_some]
  have hlen : ((prs l).length : Int) = (l.length : Int) := by simp [prs]
  rw [hlen]
  by_cases h1 : Dk.arity op < 1
  · rw [if_pos h1, if_pos (.inl h1)]; rfl
  rw [if_neg h1]
  by_cases h2 : (l.length : Int) = Dk.arity op
  · rw [if_pos h2]
    cases h3 : Dk.consts op a s
    · rw [if_pos (.inr (.inr (.inl rfl)))]; rfl
    · have h4 : Dk.arity op ≤ 3 := by unfold Dk.arity; repeat' split <;> omega
      show span_Of.l0 (k + 29) op a s l l (l.length : Int) 0 = _
      rcases l with _ | ⟨x, _ | ⟨y, _ | ⟨z, _ | ⟨u, l⟩⟩⟩⟩
      · simp at h2; omega
      · rw [of_step _ _ _ _ _ _ (by omega) (by simp), w01]
        have e : span_Of.l0 (k + 28) op a s [x] [x] (([x] : List S47).length : Int) 1 = ((span_one.f (k + 27) op a s x.f0 x.f1).bind fun bt => (span_Of.j2 (k + 27) bt.2.2 bt.1 bt.2.1)) := rfl
        rw [e]
        show (if Dk.whole (pr x) = true then _ else _) = _
        cases hx : Dk.whole (pr x)
        · rw [if_neg (by decide), if_pos (.inr (.inr (.inr (by simp [prs, hx]))))]; rfl
        · rw [if_pos rfl, if_neg (by simp [prs, hx]; simp at h2; omega)]
          have := one_span (k + 19) op a s (pr x) (by simp at h2; omega) h3 hx
          rw [show span_one.f (k + 27) op a s x.f0 x.f1 = _ from this]
          exact of_j2 (k + 25) (Dk.span1 op a s (pr x))
      · rw [of_step _ _ _ _ _ _ (by omega) (by simp), w01, of_step _ _ _ _ _ _ (by omega) (by simp), w12]
        have e : span_Of.l0 (k + 27) op a s [x, y] [x, y] (([x, y] : List S47).length : Int) 2 = ((span_two.f (k + 26) op x.f0 x.f1 y.f0 y.f1).bind fun bt => (span_Of.j2 (k + 26) bt.2.2 bt.1 bt.2.1)) := rfl
        rw [e]
        show (if Dk.whole (pr x) = true then (if Dk.whole (pr y) = true then _ else _) else _) = _
        cases hx : Dk.whole (pr x)
        · rw [if_neg (by decide), if_pos (.inr (.inr (.inr (by simp [prs, hx]))))]; rfl
        · cases hy : Dk.whole (pr y)
          · rw [if_pos rfl, if_neg (by decide), if_pos (.inr (.inr (.inr (by simp [prs, hx, hy]))))]; rfl
          · rw [if_pos rfl, if_pos rfl, if_neg (by simp [prs, hx, hy]; simp at h2; omega)]
            have := two_span (k + 14) op (pr x) (pr y) (by simp at h2; omega) hx hy
            rw [show span_two.f (k + 26) op x.f0 x.f1 y.f0 y.f1 = _ from this]
            exact of_j2 (k + 24) (Dk.span2 op (pr x) (pr y))
      · rw [of_step _ _ _ _ _ _ (by omega) (by simp), w01, of_step _ _ _ _ _ _ (by omega) (by simp), w12, of_step _ _ _ _ _ _ (by omega) (by simp), w23]
        have e : span_Of.l0 (k + 26) op a s [x, y, z] [x, y, z] (([x, y, z] : List S47).length : Int) 3 = ((span_three.f op x.f0 x.f1 y.f0 y.f1 z.f0 z.f1).bind fun bt => (span_Of.j2 (k + 25) 0 bt.1 bt.2)) := rfl
        rw [e]
        show (if Dk.whole (pr x) = true then (if Dk.whole (pr y) = true then (if Dk.whole (pr z) = true then _ else _) else _) else _) = _
        cases hx : Dk.whole (pr x)
        · rw [if_neg (by decide), if_pos (.inr (.inr (.inr (by simp [prs, hx]))))]; rfl
        · cases hy : Dk.whole (pr y)
          · rw [if_pos rfl, if_neg (by decide), if_pos (.inr (.inr (.inr (by simp [prs, hx, hy]))))]; rfl
          · cases hz : Dk.whole (pr z)
            · rw [if_pos rfl, if_pos rfl, if_neg (by decide), if_pos (.inr (.inr (.inr (by simp [prs, hx, hy, hz]))))]; rfl
            · rw [if_pos rfl, if_pos rfl, if_pos rfl, if_neg (by simp [prs, hx, hy, hz]; simp at h2; omega)]
              have := three_span op (pr x) (pr y) (pr z) (by simp at h2; omega)
              rw [show span_three.f op x.f0 x.f1 y.f0 y.f1 z.f0 z.f1 = _ from this]
              exact of_j2 (k + 23) (Dk.span3 op (pr x) (pr y) (pr z), 0)
      · simp at h2; omega
  · rw [if_neg h2, if_pos (.inr (.inl h2))]; rfl
theorem awake05 (k : Nat) : damasklaw05_awake.f (k + 30) = some true := by
  unfold damasklaw05_awake.f
  rw [Of_code]
  rfl
/-- where a span is answered: its arguments are as they may be -/
theorem spanOf_ok (op a s : Int) (l : List (Int × Int)) (h : (Dk.spanOf op a s l).2 = 0) : ¬ (Dk.arity op < 1 ∨ (l.length : Int) ≠ Dk.arity op ∨ Dk.consts op a s = false ∨ l.all Dk.whole = false) := by
  intro hn
  unfold Dk.spanOf at h
  rw [if_pos hn] at h
  exact absurd h (by decide)
theorem spanOf_no (op a s : Int) (l : List (Int × Int)) (h : (Dk.spanOf op a s l).2 ≠ 0) : (Dk.spanOf op a s l).1 = (0, 0) := by
  have hf : ∀ p : (Int × Int) × Int, (Dk.fins p).2 ≠ 0 → (Dk.fins p).1 = (0, 0) := by
    intro p hp
    unfold Dk.fins at *
    by_cases h1 : p.2 = 0
    · rw [if_pos h1] at *
      by_cases h2 : Dk.whole p.1 = true
      · rw [if_pos h2] at hp; exact absurd h1 hp
      · rw [if_neg h2]
    · rw [if_neg h1]
  unfold Dk.spanOf at *
  split at h
  · rename_i hc; rw [if_pos hc]
  · rename_i hc
    rw [if_neg hc]
    split at h
    · exact hf _ h
    · exact hf _ h
    · exact hf _ h
    · exact absurd rfl h
theorem fins_ok (p : (Int × Int) × Int) (h : (Dk.fins p).2 = 0) : p.2 = 0 ∧ Dk.whole p.1 = true ∧ Dk.fins p = p := by
  unfold Dk.fins at *
  by_cases h1 : p.2 = 0
  · rw [if_pos h1] at *
    by_cases h2 : Dk.whole p.1 = true
    · rw [if_pos h2]; exact ⟨h1, h2, rfl⟩
    · rw [if_neg h2] at h; exact absurd h (by decide)
  · rw [if_neg h1] at h; exact absurd h h1
end Go.Proofs.Ytpnldhimlpilhaa.Pure
