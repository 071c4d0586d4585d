/- Where a span is answered, the operator answers within it for all numbers of the arguments' spans. -/
import Derived.Test.YtpnldhimlpilhaaSp
namespace Go.Proofs.Ytpnldhimlpilhaa.Pure
open Go.RowKit Go.Proofs.Ytpnldhimlpilhaa.F Go.Proofs.YtpnldhimlpilhaaW.PrintWords Go.Proofs.YtpnldhimlpilhaaW.PrintLast Go.Proofs.YtpnldhimlpilhaaW.PrintMore

inductive Ins : List (Int × Int) → List Int → Prop
  | nil : Ins [] []
  | cons {a : Int × Int} {x : Int} {l : List (Int × Int)} {xs : List Int} : Dk.has a x → Ins l xs → Ins (a :: l) (x :: xs)
theorem in_word {a : Int × Int} {x : Int} (ha : Dk.whole a = true) (hx : Dk.has a x) : Dk.word x = true := by
  rw [Dk.whole_iff] at ha; unfold Dk.has at hx; exact wd x (by omega)
theorem value_in (op k s : Int) (l : List (Int × Int)) (xs : List Int) (h : (Dk.spanOf op k s l).2 = 0) (hx : Ins l xs) :
    Dk.whole (Dk.spanOf op k s l).1 = true ∧ (Dk.value op k s xs).2 = 0 ∧ Dk.has (Dk.spanOf op k s l).1 (Dk.value op k s xs).1 := by
  have ok := spanOf_ok op k s l h
  have h4 : Dk.arity op ≤ 3 := by unfold Dk.arity; repeat' split <;> omega
  have hc : Dk.consts op k s = true := by
    cases hq : Dk.consts op k s
    · exact absurd (.inr (.inr (.inl hq))) ok
    · rfl
  have hw : l.all Dk.whole = true := by
    cases hq : l.all Dk.whole
    · exact absurd (.inr (.inr (.inr hq))) ok
    · rfl
  have hl : (l.length : Int) = Dk.arity op := Classical.byContradiction fun hn => ok (.inr (.inl hn))
  have hp : ¬ Dk.arity op < 1 := fun hn => ok (.inl hn)
  unfold Dk.spanOf at h ⊢
  rw [if_neg ok] at h ⊢
  cases hx with
  | nil => simp at hl; omega
  | cons h1 hx =>
    rename_i a x l xs
    cases hx with
    | nil =>
      simp at hw hl
      simp only at h ⊢
      obtain ⟨f1, f2, f3⟩ := fins_ok _ h
      have hv := Dk.holds1 op k s a x (Dk.ops1 op (by omega)) hc hw f1 h1
      rw [f3, value_one op k s x (by omega) hc (in_word hw h1)]
      have e : Dk.val1 op k s x = ((Dk.val1 op k s x).1, 0) := Prod.ext rfl hv.1
      rw [e, fin_ok _ (in_word f2 hv.2)]
      exact ⟨f2, rfl, hv.2⟩
    | cons h2 hx =>
      rename_i b y l xs
      cases hx with
      | nil =>
        simp at hw hl
        simp only at h ⊢
        obtain ⟨f1, f2, f3⟩ := fins_ok _ h
        have hv := Dk.holds2 op a b x y (Dk.ops2 op (by omega)) hw.1 hw.2 f1 h1 h2
        rw [f3, value_two op k s x y (by omega) hc (in_word hw.1 h1) (in_word hw.2 h2)]
        have e : Dk.val2 op x y = ((Dk.val2 op x y).1, 0) := Prod.ext rfl hv.1
        rw [e, fin_ok _ (in_word f2 hv.2)]
        exact ⟨f2, rfl, hv.2⟩
      | cons h3 hx =>
        rename_i c z l xs
        cases hx with
        | nil =>
          simp at hw hl
          simp only at h ⊢
          obtain ⟨f1, f2, f3⟩ := fins_ok _ h
          have hv := Dk.holds3 op a b c x y z (Dk.ops3 op (by omega)) h1 h2 h3
          rw [f3, value_three op k s x y z (by omega) hc (in_word hw.1 h1) (in_word hw.2.1 h2) (in_word hw.2.2 h3), fin_ok _ (in_word f2 hv)]
          exact ⟨f2, rfl, hv⟩
        | cons h4' hx => simp at hl; omega
theorem point_code (a : Int × Int) (n : Int) (ha : Dk.whole a = true) : ∃ p, damasklaw05_point.f a.1 a.2 n = some p ∧ Dk.has a p := by
  rw [Dk.whole_iff] at ha
  have hw : 0 < a.2 - a.1 + 1 := by omega
  have h1 := Int.tmod_lt_of_pos n hw
  have h2 : -(a.2 - a.1 + 1) < Int.tmod n (a.2 - a.1 + 1) := by
    have := Int.natAbs_tmod n (a.2 - a.1 + 1)
    have h3 : n.natAbs % (a.2 - a.1 + 1).natAbs < (a.2 - a.1 + 1).natAbs := Nat.mod_lt _ (by omega)
    omega
  unfold damasklaw05_point.f Dk.has
  rw [Dk.wrap64_of (a.2 - a.1) (by omega), Dk.wrap64_of (a.2 - a.1 + 1) (by omega), if_neg (by omega)]
  by_cases hm : Int.tmod n (a.2 - a.1 + 1) < 0
  · rw [if_pos hm, Dk.wrap64_of (Int.tmod n (a.2 - a.1 + 1) + (a.2 - a.1 + 1)) (by omega), Dk.wrap64_of _ (by omega)]
    exact ⟨_, rfl, by omega⟩
  · rw [if_neg hm, Dk.wrap64_of _ (by omega)]
    exact ⟨_, rfl, by omega⟩
end Go.Proofs.Ytpnldhimlpilhaa.Pure
