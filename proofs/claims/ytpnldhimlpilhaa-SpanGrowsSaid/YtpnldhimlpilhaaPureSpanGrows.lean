/- The statement SpanGrows of layer 5 (narrower arguments, narrower span): for all arguments, no condition. -/
import Derived.Test.YtpnldhimlpilhaaSq
import Derived.Test.YtpnldhimlpilhaaSu
import Derived.Test.YtpnldhimlpilhaaFlawSpanGrows1
namespace Go.Proofs.Ytpnldhimlpilhaa.Pure
open Go.RowKit Go.Proofs.Ytpnldhimlpilhaa.F Go.Proofs.YtpnldhimlpilhaaW.PrintWords Go.Proofs.YtpnldhimlpilhaaW.PrintLast Go.Proofs.YtpnldhimlpilhaaW.PrintMore

inductive Subs : List (Int × Int) → List (Int × Int) → Prop
  | nil : Subs [] []
  | cons {a b : Int × Int} {l m : List (Int × Int)} : Dk.sub a b → Subs l m → Subs (a :: l) (b :: m)
theorem fins_sub {p q : (Int × Int) × Int} (_hq : q.2 = 0) (hw : Dk.whole q.1 = true) (h : p.2 = 0 ∧ Dk.sub p.1 q.1) : (Dk.fins p).2 = 0 ∧ Dk.sub (Dk.fins p).1 q.1 := by
  have h2 := Dk.sub_whole h.2 hw
  unfold Dk.fins
  rw [if_pos h.1, if_pos h2]; exact h
theorem spanOf_sub (op k s : Int) (l m : List (Int × Int)) (h : (Dk.spanOf op k s l).2 = 0) (hx : Subs m l) :
    (Dk.spanOf op k s m).2 = 0 ∧ Dk.sub (Dk.spanOf op k s m).1 (Dk.spanOf op k s l).1 := by
  have ok := spanOf_ok op k s l h
  have h4 : Dk.arity op ≤ 3 := by unfold Dk.arity; repeat' split <;> omega
  have hc : Dk.consts op k s = true := by
    cases hq : Dk.consts op k s
    · exact absurd (.inr (.inr (.inl hq))) ok
    · rfl
  have hw : l.all Dk.whole = true := by
    cases hq : l.all Dk.whole
    · exact absurd (.inr (.inr (.inr hq))) ok
    · rfl
  have hl : (l.length : Int) = Dk.arity op := Classical.byContradiction fun hn => ok (.inr (.inl hn))
  have hp : ¬ Dk.arity op < 1 := fun hn => ok (.inl hn)
  have go : ∀ m' : List (Int × Int), m = m' → m'.length = l.length → m'.all Dk.whole = true → ¬ (Dk.arity op < 1 ∨ (m'.length : Int) ≠ Dk.arity op ∨ Dk.consts op k s = false ∨ m'.all Dk.whole = false) := by
    intro m' _ e w
    rintro (h1 | h1 | h1 | h1)
    · exact hp h1
    · exact h1 (by omega)
    · rw [hc] at h1; cases h1
    · rw [w] at h1; cases h1
  unfold Dk.spanOf at h ⊢
  rw [if_neg ok] at h ⊢
  cases hx with
  | nil => simp at hl; omega
  | cons h1 hx =>
    rename_i a' a m l
    cases hx with
    | nil =>
      simp only [List.all_cons, List.all_nil, Bool.and_true] at hw
      rw [if_neg (go [a'] rfl rfl (by simp [Dk.sub_whole h1 hw]))]
      simp only [List.length_cons, List.length_nil] at hl
      simp only at h ⊢
      obtain ⟨f1, f2, f3⟩ := fins_ok _ h
      rw [f3]
      exact fins_sub f1 f2 (Dk.grows1 op k s a a' (Dk.ops1 op (by omega)) hc hw h1 f1)
    | cons h2 hx =>
      rename_i b' b m l
      cases hx with
      | nil =>
        simp only [List.all_cons, List.all_nil, Bool.and_true, Bool.and_eq_true] at hw
        rw [if_neg (go [a', b'] rfl rfl (by simp [Dk.sub_whole h1 hw.1, Dk.sub_whole h2 hw.2]))]
        simp only [List.length_cons, List.length_nil] at hl
        simp only at h ⊢
        obtain ⟨f1, f2, f3⟩ := fins_ok _ h
        rw [f3]
        exact fins_sub f1 f2 (Dk.grows2 op a b a' b' (Dk.ops2 op (by omega)) hw.1 hw.2 h1 h2 f1)
      | cons h3 hx =>
        rename_i c' c m l
        cases hx with
        | nil =>
          simp only [List.all_cons, List.all_nil, Bool.and_true, Bool.and_eq_true] at hw
          rw [if_neg (go [a', b', c'] rfl rfl (by simp [Dk.sub_whole h1 hw.1, Dk.sub_whole h2 hw.2.1, Dk.sub_whole h3 hw.2.2]))]
          simp only [List.length_cons, List.length_nil] at hl
          simp only at h ⊢
          obtain ⟨f1, f2, f3⟩ := fins_ok _ h
          rw [f3]
          exact fins_sub f1 f2 ⟨rfl, Dk.grows3 op a b c a' b' c' (Dk.ops3 op (by omega)) h1 h2 h3⟩
        | cons h4' hx => simp only [List.length_cons] at hl; omega
theorem grow_step (k : Nat) (acc : List S47) (i op a s : Int) (l : List S47) (n0 n1 n2 n3 n4 n5 u v : Int) (h0 : 0 ≤ i) (h : i < (l.length : Int)) (h3 : i < 3) (hw : Dk.whole (pr (rd_T47 l i)) = true) (hl : acc.length < 8796093022208) :
    ∃ x : S47, Dk.sub (pr x) (pr (rd_T47 l i)) ∧ damasklaw05_SpanGrows.l0 (k + 2) acc i op a s l n0 n1 n2 n3 n4 n5 u v = damasklaw05_SpanGrows.l0 k (acc ++ [x]) (wrap64 (i + 1)) op a s l n0 n1 n2 n3 n4 n5 u v := by
  obtain ⟨p, hp, ip⟩ := point_code (pr (rd_T47 l i)) (rd ([n0, n1, n2, n3, n4, n5] : List Int) (wrap64 (2 * i))) hw
  obtain ⟨q, hq, iq⟩ := point_code (pr (rd_T47 l i)) (rd ([n0, n1, n2, n3, n4, n5] : List Int) (wrap64 ((wrap64 (2 * i)) + 1))) hw
  have e1 : wrap64 (2 * i) = 2 * i := Dk.wrap64_of _ (by omega)
  have e2 : wrap64 (2 * i + 1) = 2 * i + 1 := Dk.wrap64_of _ (by omega)
  rw [e1] at hp
  rw [e1, e2] at hq
  unfold Dk.has at ip iq
  simp only [damasklaw05_SpanGrows.l0, damasklaw05_SpanGrows.j2]
  rw [if_pos h, decide_eq_true h3, if_pos rfl, if_pos h0, if_pos h, ref_whole_code]
  show ∃ x : S47, _ ∧ (if Dk.whole (pr (rd_T47 l i)) = true then _ else _) = _
  rw [if_pos hw, e1, e2, if_pos (show 0 ≤ 2 * i by omega), if_pos (show 2 * i < 6 by omega)]
  rw [show damasklaw05_point.f (rd_T47 l i).f0 (rd_T47 l i).f1 _ = some p from hp]
  simp only [Option.bind_some]
  rw [if_pos (show 0 ≤ 2 * i + 1 by omega), if_pos (show 2 * i + 1 < 6 by omega)]
  rw [show damasklaw05_point.f (rd_T47 l i).f0 (rd_T47 l i).f1 _ = some q from hq]
  simp only [Option.bind_some]
  by_cases hpq : q < p
  · rw [if_pos hpq, if_pos hl]
    exact ⟨⟨q, p⟩, by unfold Dk.sub pr at *; simp only at *; omega, rfl⟩
  · rw [if_neg hpq, if_pos hl]
    exact ⟨⟨p, q⟩, by unfold Dk.sub pr at *; simp only at *; omega, rfl⟩
theorem grow_last (K : Nat) (acc : List S47) (i op a s : Int) (l : List S47) (n0 n1 n2 n3 n4 n5 u v : Int) (h : ¬ i < (l.length : Int)) : damasklaw05_SpanGrows.l0 (K + 2) acc i op a s l n0 n1 n2 n3 n4 n5 u v =
    ((span_Of.f K op a s acc).bind fun bt765 => (if bt765.2.2 = 0 then (if u ≤ bt765.1 then (some (decide (bt765.2.1 ≤ v))) else (some false)) else (some false))) := by
  simp only [damasklaw05_SpanGrows.l0, damasklaw05_SpanGrows.j2]
  rw [if_neg h, if_neg (by decide)]
theorem grow_end (k : Nat) (acc : List S47) (i op a s : Int) (l : List S47) (n0 n1 n2 n3 n4 n5 : Int) (h : ¬ i < (l.length : Int)) (hz : (Dk.spanOf op a s (prs l)).2 = 0) (hx : Subs (prs acc) (prs l)) :
    damasklaw05_SpanGrows.l0 (k + 32) acc i op a s l n0 n1 n2 n3 n4 n5 (Dk.spanOf op a s (prs l)).1.1 (Dk.spanOf op a s (prs l)).1.2 = some true := by
  have hv := spanOf_sub op a s (prs l) (prs acc) hz hx
  rw [show k + 32 = (k + 30) + 2 by omega, grow_last _ _ _ _ _ _ _ _ _ _ _ _ _ _ _ h, Of_code k]
  simp only [Option.bind_some]
  rw [if_pos (show (tri (Dk.spanOf op a s (prs acc))).2.2 = 0 from hv.1), if_pos (show _ ≤ (tri (Dk.spanOf op a s (prs acc))).1 from hv.2.1)]
  exact congrArg some (decide_eq_true hv.2.2.2)
theorem SpanGrows : damasklaw05_SpanGrows.Pure := by
  intro op a s l n0 n1 n2 n3 n4 n5 _ _ _ _ _ _ _ _ _ _ _ _
  refine ⟨40, ?_⟩
  unfold damasklaw05_SpanGrows.f
  rw [Of_code 10, awake05 10]
  simp only [Option.bind_some, if_true]
  show damasklaw05_SpanGrows.j0 40 ((Dk.spanOf op a s (prs l)).2 != 0) op a s l n0 n1 n2 n3 n4 n5 (Dk.spanOf op a s (prs l)).1.1 (Dk.spanOf op a s (prs l)).1.2 = some true
  by_cases hz : (Dk.spanOf op a s (prs l)).2 = 0
  · have e0 : ((Dk.spanOf op a s (prs l)).2 != 0) = false := by rw [hz]; rfl
    rw [e0]
    have ok := spanOf_ok op a s (prs l) hz
    have h4 : Dk.arity op ≤ 3 := by unfold Dk.arity; repeat' split <;> omega
    have hl : (l.length : Int) = Dk.arity op := Classical.byContradiction fun hn => ok (.inr (.inl (by simpa [prs] using hn)))
    have hw : (prs l).all Dk.whole = true := by
      cases hq : (prs l).all Dk.whole
      · exact absurd (.inr (.inr (.inr hq))) ok
      · rfl
    show damasklaw05_SpanGrows.l0 39 [] 0 op a s l n0 n1 n2 n3 n4 n5 _ _ = some true
    rcases l with _ | ⟨x, _ | ⟨y, _ | ⟨z, _ | ⟨t, l⟩⟩⟩⟩
    · exact absurd (.inl (by simp at hl; omega)) ok
    · have hx : Dk.whole (pr x) = true := by simpa [prs] using hw
      obtain ⟨p, ip, g⟩ := grow_step 37 [] 0 op a s [x] n0 n1 n2 n3 n4 n5 (Dk.spanOf op a s (prs [x])).1.1 (Dk.spanOf op a s (prs [x])).1.2 (by decide) (by simp) (by decide) hx (by decide)
      rw [w01] at g
      exact g.trans (grow_end 5 [p] 1 op a s [x] n0 n1 n2 n3 n4 n5 (by simp) hz (.cons ip .nil))
    · have hxy : Dk.whole (pr x) = true ∧ Dk.whole (pr y) = true := by simpa [prs] using hw
      obtain ⟨p, ip, g⟩ := grow_step 37 [] 0 op a s [x, y] n0 n1 n2 n3 n4 n5 (Dk.spanOf op a s (prs [x, y])).1.1 (Dk.spanOf op a s (prs [x, y])).1.2 (by decide) (by simp) (by decide) hxy.1 (by decide)
      rw [w01] at g
      obtain ⟨q, iq, g'⟩ := grow_step 35 [p] 1 op a s [x, y] n0 n1 n2 n3 n4 n5 (Dk.spanOf op a s (prs [x, y])).1.1 (Dk.spanOf op a s (prs [x, y])).1.2 (by decide) (by simp) (by decide) hxy.2 (by simp)
      rw [w12] at g'
      exact (g.trans g').trans (grow_end 3 [p, q] 2 op a s [x, y] n0 n1 n2 n3 n4 n5 (by simp) hz (.cons ip (.cons iq .nil)))
    · have hxy : Dk.whole (pr x) = true ∧ Dk.whole (pr y) = true ∧ Dk.whole (pr z) = true := by simpa [prs] using hw
      obtain ⟨p, ip, g⟩ := grow_step 37 [] 0 op a s [x, y, z] n0 n1 n2 n3 n4 n5 (Dk.spanOf op a s (prs [x, y, z])).1.1 (Dk.spanOf op a s (prs [x, y, z])).1.2 (by decide) (by simp) (by decide) hxy.1 (by decide)
      rw [w01] at g
      obtain ⟨q, iq, g'⟩ := grow_step 35 [p] 1 op a s [x, y, z] n0 n1 n2 n3 n4 n5 (Dk.spanOf op a s (prs [x, y, z])).1.1 (Dk.spanOf op a s (prs [x, y, z])).1.2 (by decide) (by simp) (by decide) hxy.2.1 (by simp)
      rw [w12] at g'
      obtain ⟨r, ir, g2⟩ := grow_step 33 [p, q] 2 op a s [x, y, z] n0 n1 n2 n3 n4 n5 (Dk.spanOf op a s (prs [x, y, z])).1.1 (Dk.spanOf op a s (prs [x, y, z])).1.2 (by decide) (by simp) (by decide) hxy.2.2 (by simp)
      rw [w23] at g2
      exact ((g.trans g').trans g2).trans (grow_end 1 [p, q, r] 3 op a s [x, y, z] n0 n1 n2 n3 n4 n5 (by simp) hz (.cons ip (.cons iq (.cons ir .nil))))
    · simp at hl; omega
  · have e0 : ((Dk.spanOf op a s (prs l)).2 != 0) = true := by simpa using hz
    rw [e0]
    show ((damasklaw05_awake.f 39).bind _) = _
    rw [awake05 9]; rfl
end Go.Proofs.Ytpnldhimlpilhaa.Pure
