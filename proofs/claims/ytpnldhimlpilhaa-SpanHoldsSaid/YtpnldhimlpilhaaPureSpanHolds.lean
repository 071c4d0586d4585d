/- The statement SpanHolds of layer 5 (the answer lies in the span): for all arguments, no condition. -/
import Derived.Test.YtpnldhimlpilhaaSq
import Derived.Test.YtpnldhimlpilhaaFlawSpanHolds1
namespace Go.Proofs.Ytpnldhimlpilhaa.Pure
open Go.RowKit Go.Proofs.Ytpnldhimlpilhaa.F Go.Proofs.YtpnldhimlpilhaaW.PrintWords Go.Proofs.YtpnldhimlpilhaaW.PrintLast Go.Proofs.YtpnldhimlpilhaaW.PrintMore

theorem holds_step (k : Nat) (acc : List Int) (i op a s : Int) (l : List S47) (n0 n1 n2 u v p : Int) (h0 : 0 ≤ i) (h : i < (l.length : Int)) (h3 : i < 3) (hw : Dk.whole (pr (rd_T47 l i)) = true)
    (hp : damasklaw05_point.f (rd_T47 l i).f0 (rd_T47 l i).f1 (rd ([n0, n1, n2] : List Int) i) = some p) (hl : acc.length < 17592186044416) :
    damasklaw05_SpanHolds.l0 (k + 2) acc i op a s l n0 n1 n2 u v = damasklaw05_SpanHolds.l0 k (acc ++ [p]) (wrap64 (i + 1)) op a s l n0 n1 n2 u v := by
  simp only [damasklaw05_SpanHolds.l0, damasklaw05_SpanHolds.j2]
  rw [if_pos h, decide_eq_true h3, if_pos rfl, if_pos h0, if_pos h, ref_whole_code]
  show (if Dk.whole (pr (rd_T47 l i)) = true then _ else _) = _
  rw [if_pos hw, if_pos h3, hp]
  simp only [Option.bind_some]
  rw [if_pos hl]
theorem holds_end (k : Nat) (xs : List Int) (op a s : Int) (l : List S47) (n0 n1 n2 : Int) (i : Int) (h : ¬ i < (l.length : Int)) (hlen : (xs.length : Int) = (l.length : Int))
    (hz : (Dk.spanOf op a s (prs l)).2 = 0) (hx : Ins (prs l) xs) :
    damasklaw05_SpanHolds.l0 (k + 12) xs i op a s l n0 n1 n2 (Dk.spanOf op a s (prs l)).1.1 (Dk.spanOf op a s (prs l)).1.2 = some true := by
  have hv := value_in op a s (prs l) xs hz hx
  simp only [damasklaw05_SpanHolds.l0, damasklaw05_SpanHolds.j2]
  rw [if_neg h, if_neg (by decide), Value_code (k + 2), ref_whole_code, hv.1]
  simp only [Option.bind_some, if_true]
  rw [if_pos hlen, if_pos hv.2.1, show span_Has.f (Dk.spanOf op a s (prs l)).1.1 (Dk.spanOf op a s (prs l)).1.2 _ = _ from has_code (Dk.spanOf op a s (prs l)).1 _]
  simp only [Option.bind_some]
  exact congrArg some (decide_eq_true hv.2.2)
theorem SpanHolds : damasklaw05_SpanHolds.Pure := by
  intro op a s l n0 n1 n2 _ _ _ _ _ _ _ _ _
  refine ⟨40, ?_⟩
  unfold damasklaw05_SpanHolds.f
  rw [Of_code 10, awake05 10]
  simp only [Option.bind_some, if_true]
  show damasklaw05_SpanHolds.j0 40 ((Dk.spanOf op a s (prs l)).2 != 0) op a s l n0 n1 n2 (Dk.spanOf op a s (prs l)).1.1 (Dk.spanOf op a s (prs l)).1.2 = some true
  by_cases hz : (Dk.spanOf op a s (prs l)).2 = 0
  · have e0 : ((Dk.spanOf op a s (prs l)).2 != 0) = false := by rw [hz]; rfl
    rw [e0]
    have ok := spanOf_ok op a s (prs l) hz
    have h4 : Dk.arity op ≤ 3 := by unfold Dk.arity; repeat' split <;> omega
    have hl : (l.length : Int) = Dk.arity op := Classical.byContradiction fun hn => ok (.inr (.inl (by simpa [prs] using hn)))
    have hw : (prs l).all Dk.whole = true := by
      cases hq : (prs l).all Dk.whole
      · exact absurd (.inr (.inr (.inr hq))) ok
      · rfl
    show damasklaw05_SpanHolds.l0 39 [] 0 op a s l n0 n1 n2 _ _ = some true
    rcases l with _ | ⟨x, _ | ⟨y, _ | ⟨z, _ | ⟨t, l⟩⟩⟩⟩
    · exact absurd (.inl (by simp at hl; omega)) ok
    · have hx : Dk.whole (pr x) = true := by simpa [prs] using hw
      obtain ⟨p, hp, ip⟩ := point_code (pr x) n0 hx
      rw [holds_step 37 [] 0 op a s [x] n0 n1 n2 _ _ p (by decide) (by simp) (by decide) hx hp (by decide), w01]
      exact holds_end 25 [p] op a s [x] n0 n1 n2 1 (by simp) rfl hz (.cons ip .nil)
    · have hxy : Dk.whole (pr x) = true ∧ Dk.whole (pr y) = true := by simpa [prs] using hw
      obtain ⟨p, hp, ip⟩ := point_code (pr x) n0 hxy.1
      obtain ⟨q, hq, iq⟩ := point_code (pr y) n1 hxy.2
      rw [holds_step 37 [] 0 op a s [x, y] n0 n1 n2 _ _ p (by decide) (by simp) (by decide) hxy.1 hp (by decide), w01]
      have g35 := holds_step 35 [p] 1 op a s [x, y] n0 n1 n2 (Dk.spanOf op a s (prs [x, y])).1.1 (Dk.spanOf op a s (prs [x, y])).1.2 q (by decide) (by simp) (by decide) hxy.2 hq (by simp)
      rw [w12] at g35
      refine Eq.trans g35 ?_
      exact holds_end 23 [p, q] op a s [x, y] n0 n1 n2 2 (by simp) rfl hz (.cons ip (.cons iq .nil))
    · have hxy : Dk.whole (pr x) = true ∧ Dk.whole (pr y) = true ∧ Dk.whole (pr z) = true := by simpa [prs] using hw
      obtain ⟨p, hp, ip⟩ := point_code (pr x) n0 hxy.1
      obtain ⟨q, hq, iq⟩ := point_code (pr y) n1 hxy.2.1
      obtain ⟨r, hr, ir⟩ := point_code (pr z) n2 hxy.2.2
      rw [holds_step 37 [] 0 op a s [x, y, z] n0 n1 n2 _ _ p (by decide) (by simp) (by decide) hxy.1 hp (by decide), w01]
      have g35 := holds_step 35 [p] 1 op a s [x, y, z] n0 n1 n2 (Dk.spanOf op a s (prs [x, y, z])).1.1 (Dk.spanOf op a s (prs [x, y, z])).1.2 q (by decide) (by simp) (by decide) hxy.2.1 hq (by simp)
      rw [w12] at g35
      refine Eq.trans g35 ?_
      have g33 := holds_step 33 [p, q] 2 op a s [x, y, z] n0 n1 n2 (Dk.spanOf op a s (prs [x, y, z])).1.1 (Dk.spanOf op a s (prs [x, y, z])).1.2 r (by decide) (by simp) (by decide) hxy.2.2 hr (by simp)
      rw [w23] at g33
      refine Eq.trans g33 ?_
      exact holds_end 21 [p, q, r] op a s [x, y, z] n0 n1 n2 3 (by simp) rfl hz (.cons ip (.cons iq (.cons ir .nil)))
    · simp at hl; omega
  · have e0 : ((Dk.spanOf op a s (prs l)).2 != 0) = true := by simpa using hz
    have e1 := spanOf_no op a s (prs l) hz
    rw [e0, e1]
    show ((damasklaw05_awake.f 39).bind _) = _
    rw [awake05 9]; rfl
end Go.Proofs.Ytpnldhimlpilhaa.Pure
