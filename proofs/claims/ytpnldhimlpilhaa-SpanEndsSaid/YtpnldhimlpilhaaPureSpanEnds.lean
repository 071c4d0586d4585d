/- The statement SpanEnds of layer 5 (ends are answers): for all arguments, no condition. -/
import Derived.Test.YtpnldhimlpilhaaSq
import Derived.Test.YtpnldhimlpilhaaSr
import Derived.Test.YtpnldhimlpilhaaFlawSpanEnds1
namespace Go.Proofs.Ytpnldhimlpilhaa.Pure
open Go.RowKit Go.Proofs.Ytpnldhimlpilhaa.F Go.Proofs.YtpnldhimlpilhaaW.PrintWords Go.Proofs.YtpnldhimlpilhaaW.PrintLast Go.Proofs.YtpnldhimlpilhaaW.PrintMore

def picks (m : Nat) : Nat → List (Int × Int) → List Int
  | _, [] => []
  | i, a :: l => Dk.pick m i a :: picks m (i + 1) l
theorem picks_in (m : Nat) : ∀ (l : List (Int × Int)) (i : Nat), l.all Dk.whole = true → Ins l (picks m i l)
  | [], _, _ => .nil
  | a :: l, i, h => by
    simp only [List.all_cons, Bool.and_eq_true] at h
    have ha := h.1; rw [Dk.whole_iff] at ha
    exact .cons (Dk.pick_has m i a ha.1) (picks_in m l (i + 1) h.2)
theorem tight_code (op : Int) : damasklaw05_tight.f op = some (Dk.tight op) := by
  unfold damasklaw05_tight.f Dk.tight
  repeat' split
  all_goals first
    | (congr 1; symm; apply decide_eq_true; omega)
    | (congr 1; rw [Bool.beq_eq_decide_eq]; apply decide_eq_decide.mpr; omega)
/-- both ends are answers, at ends of the arguments -/
theorem ends_in (op k s : Int) (l : List (Int × Int)) (h : (Dk.spanOf op k s l).2 = 0) (ht : Dk.tight op = true) :
    (∃ m : Nat, m < 8 ∧ (Dk.value op k s (picks m 0 l)).1 = (Dk.spanOf op k s l).1.1) ∧ ∃ m : Nat, m < 8 ∧ (Dk.value op k s (picks m 0 l)).1 = (Dk.spanOf op k s l).1.2 := by
  have ok := spanOf_ok op k s l h
  have h4 : Dk.arity op ≤ 3 := by unfold Dk.arity; repeat' split <;> omega
  have hc : Dk.consts op k s = true := by
    cases hq : Dk.consts op k s
    · exact absurd (.inr (.inr (.inl hq))) ok
    · rfl
  have hw : l.all Dk.whole = true := by
    cases hq : l.all Dk.whole
    · exact absurd (.inr (.inr (.inr hq))) ok
    · rfl
  have hl : (l.length : Int) = Dk.arity op := Classical.byContradiction fun hn => ok (.inr (.inl hn))
  have hp : ¬ Dk.arity op < 1 := fun hn => ok (.inl hn)
  have ht' : op = 5 ∨ op = 7 ∨ (8 ≤ op ∧ op ≤ 11) ∨ op = 13 ∨ op = 14 ∨ (24 ≤ op ∧ op ≤ 27) ∨ op = 29 ∨ op = 30 ∨ op = 32 ∨ op = 33 := of_decide_eq_true ht
  unfold Dk.spanOf at h ⊢
  rw [if_neg ok] at h ⊢
  rcases l with _ | ⟨a, _ | ⟨b, _ | ⟨c, _ | ⟨d, l⟩⟩⟩⟩
  · simp at hl; omega
  · simp at hw hl
    simp only at h ⊢
    obtain ⟨f1, f2, f3⟩ := fins_ok _ h
    have ha := hw; rw [Dk.whole_iff] at ha
    have ho := Dk.ops1 op (by omega)
    have e : ∀ m, (Dk.value op k s (picks m 0 [a])).1 = (Dk.val1 op k s (Dk.pick m 0 a)).1 := fun m => by
      have hx := Dk.pick_has m 0 a ha.1
      have hv := Dk.holds1 op k s a _ ho hc hw f1 hx
      show (Dk.value op k s [Dk.pick m 0 a]).1 = _
      rw [value_one op k s _ (by omega) hc (in_word hw hx), show Dk.val1 op k s (Dk.pick m 0 a) = ((Dk.val1 op k s (Dk.pick m 0 a)).1, 0) from Prod.ext rfl hv.1, fin_ok _ (in_word f2 hv.2)]
    rw [f3]
    simp only [e]
    exact Dk.ends1 op k s a (by omega) hc hw f1
  · simp at hw hl
    simp only at h ⊢
    obtain ⟨f1, f2, f3⟩ := fins_ok _ h
    have ha := hw.1; rw [Dk.whole_iff] at ha
    have hb := hw.2; rw [Dk.whole_iff] at hb
    have ho := Dk.ops2 op (by omega)
    have e : ∀ m, (Dk.value op k s (picks m 0 [a, b])).1 = (Dk.val2 op (Dk.pick m 0 a) (Dk.pick m 1 b)).1 := fun m => by
      have hx := Dk.pick_has m 0 a ha.1
      have hy := Dk.pick_has m 1 b hb.1
      have hv := Dk.holds2 op a b _ _ ho hw.1 hw.2 f1 hx hy
      show (Dk.value op k s [Dk.pick m 0 a, Dk.pick m 1 b]).1 = _
      rw [value_two op k s _ _ (by omega) hc (in_word hw.1 hx) (in_word hw.2 hy), show Dk.val2 op (Dk.pick m 0 a) (Dk.pick m 1 b) = ((Dk.val2 op (Dk.pick m 0 a) (Dk.pick m 1 b)).1, 0) from Prod.ext rfl hv.1, fin_ok _ (in_word f2 hv.2)]
    rw [f3]
    simp only [e]
    exact Dk.ends2 op a b (by omega) hw.1 hw.2 f1
  · simp at hw hl
    simp only at h ⊢
    obtain ⟨f1, f2, f3⟩ := fins_ok _ h
    have ha := hw.1; rw [Dk.whole_iff] at ha
    have hb := hw.2.1; rw [Dk.whole_iff] at hb
    have hc' := hw.2.2; rw [Dk.whole_iff] at hc'
    have ho := Dk.ops3 op (by omega)
    have e : ∀ m, (Dk.value op k s (picks m 0 [a, b, c])).1 = Dk.val3 op (Dk.pick m 0 a) (Dk.pick m 1 b) (Dk.pick m 2 c) := fun m => by
      have hx := Dk.pick_has m 0 a ha.1
      have hy := Dk.pick_has m 1 b hb.1
      have hz := Dk.pick_has m 2 c hc'.1
      have hv := Dk.holds3 op a b c _ _ _ ho hx hy hz
      show (Dk.value op k s [Dk.pick m 0 a, Dk.pick m 1 b, Dk.pick m 2 c]).1 = _
      rw [value_three op k s _ _ _ (by omega) hc (in_word hw.1 hx) (in_word hw.2.1 hy) (in_word hw.2.2 hz), fin_ok _ (in_word f2 hv)]
    rw [f3]
    simp only [e]
    have q := Dk.ends3 op a b c (by omega)
    exact ⟨⟨0, by decide, q.1⟩, ⟨7, by decide, q.2⟩⟩
  · simp at hl; omega
theorem digit : ∀ m : Nat, m < 8 → ∀ i : Nat, i < 3 → ((Go.bits .and .i64 (shr .i64 (m : Int) (i : Int)) 1 = 1) ↔ (m / 2 ^ i % 2 = 1)) := by decide +kernel
theorem ends_step (k : Nat) (x5 x6 : Bool) (m i : Nat) (acc : List Int) (op a s : Int) (l : List S47) (u v : Int) (hm : m < 8) (h : (i : Int) < (l.length : Int)) (h3 : i < 3) (hl : acc.length < 17592186044416) :
    damasklaw05_SpanEnds.l1 (k + 2) x5 x6 (m : Int) acc (i : Int) op a s l u v = damasklaw05_SpanEnds.l1 k x5 x6 (m : Int) (acc ++ [Dk.pick m i (pr (rd_T47 l (i : Int)))]) (wrap64 ((i : Int) + 1)) op a s l u v := by
  simp only [damasklaw05_SpanEnds.l1, damasklaw05_SpanEnds.j3]
  rw [if_pos h, decide_eq_true (show (i : Int) < 3 by omega), if_pos rfl, if_pos (show (0 : Int) ≤ (i : Int) by omega), if_pos h]
  have hd := digit m hm i h3
  unfold Dk.pick
  by_cases hb : m / 2 ^ i % 2 = 1
  · rw [if_pos (hd.mpr hb), if_pos hl, if_pos hb]; rfl
  · rw [if_neg (fun z => hb (hd.mp z)), if_pos hl, if_neg hb]; rfl
theorem ends_last (k : Nat) (x5 x6 : Bool) (m i : Int) (acc : List Int) (op a s : Int) (l : List S47) (u v : Int) (h : ¬ i < (l.length : Int)) (hv : (Dk.value op a s acc).2 = 0) :
    damasklaw05_SpanEnds.l1 (k + 10) x5 x6 m acc i op a s l u v = damasklaw05_SpanEnds.l0 (k + 8) (x5 || (Dk.value op a s acc).1 == u) (x6 || (Dk.value op a s acc).1 == v) (wrap64 (m + 1)) op a s l u v := by
  simp only [damasklaw05_SpanEnds.l1, damasklaw05_SpanEnds.j3]
  rw [if_neg h, if_neg (by decide), Value_code k]
  simp only [Option.bind_some]
  rw [if_pos hv]
  cases x5 <;> cases x6 <;> rfl
theorem ends_l0 (k : Nat) (x5 x6 : Bool) (m : Int) (op a s : Int) (l : List S47) (u v : Int) : damasklaw05_SpanEnds.l0 (k + 1) x5 x6 m op a s l u v =
    if m < 8 then damasklaw05_SpanEnds.l1 k x5 x6 m [] 0 op a s l u v else (if x5 = true then some x6 else some false) := by
  simp only [damasklaw05_SpanEnds.l0]
/-- one choice of ends -/
theorem ends_round (k : Nat) (x5 x6 : Bool) (m : Nat) (op a s : Int) (l : List S47) (hm : m < 8) (hz : (Dk.spanOf op a s (prs l)).2 = 0) (u v : Int) :
    damasklaw05_SpanEnds.l0 (k + 20) x5 x6 (m : Int) op a s l u v =
      damasklaw05_SpanEnds.l0 (k + (19 - 2 * l.length) - 2) (x5 || (Dk.value op a s (picks m 0 (prs l))).1 == u) (x6 || (Dk.value op a s (picks m 0 (prs l))).1 == v) ((m : Int) + 1) op a s l u v := by
  have ok := spanOf_ok op a s (prs l) hz
  have h4 : Dk.arity op ≤ 3 := by unfold Dk.arity; repeat' split <;> omega
  have hl : (l.length : Int) = Dk.arity op := Classical.byContradiction fun hn => ok (.inr (.inl (by simpa [prs] using hn)))
  have hw : (prs l).all Dk.whole = true := by
    cases hq : (prs l).all Dk.whole
    · exact absurd (.inr (.inr (.inr hq))) ok
    · rfl
  have hv := (value_in op a s (prs l) (picks m 0 (prs l)) hz (picks_in m _ 0 hw)).2.1
  have wm : wrap64 ((m : Int) + 1) = (m : Int) + 1 := Dk.wrap64_of _ (by omega)
  rw [ends_l0, if_pos (by omega)]
  rcases l with _ | ⟨x, _ | ⟨y, _ | ⟨z, _ | ⟨t, l⟩⟩⟩⟩
  · exact absurd (.inl (by simp at hl; omega)) ok
  · have e := ends_step (k + 17) x5 x6 m 0 [] op a s [x] u v hm (by simp) (by decide) (by decide)
    rw [show ((0 : Nat) : Int) = 0 from rfl, w01] at e
    rw [e]
    have e2 := ends_last (k + 7) x5 x6 (m : Int) 1 (picks m 0 (prs [x])) op a s [x] u v (by simp) hv
    rw [wm] at e2
    exact e2
  · have e := ends_step (k + 17) x5 x6 m 0 [] op a s [x, y] u v hm (by simp) (by decide) (by decide)
    rw [show ((0 : Nat) : Int) = 0 from rfl, w01] at e
    have e1 := ends_step (k + 15) x5 x6 m 1 [Dk.pick m 0 (pr x)] op a s [x, y] u v hm (by simp) (by decide) (by simp)
    rw [show ((1 : Nat) : Int) = 1 from rfl, w12] at e1
    rw [e]
    refine Eq.trans e1 ?_
    have e2 := ends_last (k + 5) x5 x6 (m : Int) 2 (picks m 0 (prs [x, y])) op a s [x, y] u v (by simp) hv
    rw [wm] at e2
    exact e2
  · have e := ends_step (k + 17) x5 x6 m 0 [] op a s [x, y, z] u v hm (by simp) (by decide) (by decide)
    rw [show ((0 : Nat) : Int) = 0 from rfl, w01] at e
    have e1 := ends_step (k + 15) x5 x6 m 1 [Dk.pick m 0 (pr x)] op a s [x, y, z] u v hm (by simp) (by decide) (by simp)
    rw [show ((1 : Nat) : Int) = 1 from rfl, w12] at e1
    have e3 := ends_step (k + 13) x5 x6 m 2 [Dk.pick m 0 (pr x), Dk.pick m 1 (pr y)] op a s [x, y, z] u v hm (by simp) (by decide) (by simp)
    rw [show ((2 : Nat) : Int) = 2 from rfl, w23] at e3
    rw [e]
    refine Eq.trans e1 (Eq.trans e3 ?_)
    have e2 := ends_last (k + 3) x5 x6 (m : Int) 3 (picks m 0 (prs [x, y, z])) op a s [x, y, z] u v (by simp) hv
    rw [wm] at e2
    exact e2
  · simp at hl; omega
/-- which of the eight choices reached an end -/
def anyV (V : Nat → Int) (u : Int) : Bool := V 0 == u || (V 1 == u || (V 2 == u || (V 3 == u || (V 4 == u || (V 5 == u || (V 6 == u || V 7 == u))))))
theorem anyV_of (V : Nat → Int) (u : Int) (h : ∃ m : Nat, m < 8 ∧ V m = u) : anyV V u = true := by
  obtain ⟨m, hm, e⟩ := h
  unfold anyV
  rcases (show m = 0 ∨ m = 1 ∨ m = 2 ∨ m = 3 ∨ m = 4 ∨ m = 5 ∨ m = 6 ∨ m = 7 by omega) with rfl | rfl | rfl | rfl | rfl | rfl | rfl | rfl <;> simp [e]
theorem SpanEnds : damasklaw05_SpanEnds.Pure := by
  intro op a s l _ _ _ _ _ _
  refine ⟨300, ?_⟩
  unfold damasklaw05_SpanEnds.f
  rw [Of_code 270, awake05 270]
  simp only [Option.bind_some, if_true, tight_code]
  have no : ∀ u v, damasklaw05_SpanEnds.j0 300 true op a s l u v = some true := fun u v => by
    show ((damasklaw05_awake.f 299).bind fun t => some t) = _
    rw [awake05 269]; rfl
  show (if (Dk.spanOf op a s (prs l)).2 = 0 then damasklaw05_SpanEnds.j0 300 (!Dk.tight op) op a s l (Dk.spanOf op a s (prs l)).1.1 (Dk.spanOf op a s (prs l)).1.2 else damasklaw05_SpanEnds.j0 300 true op a s l (Dk.spanOf op a s (prs l)).1.1 (Dk.spanOf op a s (prs l)).1.2) = some true
  by_cases hz : (Dk.spanOf op a s (prs l)).2 = 0
  · rw [if_pos hz]
    cases ht : Dk.tight op
    · exact no _ _
    · have en := ends_in op a s (prs l) hz ht
      generalize hu : (Dk.spanOf op a s (prs l)).1.1 = u at *
      generalize hv : (Dk.spanOf op a s (prs l)).1.2 = v at *
      have lo := anyV_of (fun m => (Dk.value op a s (picks m 0 (prs l))).1) u en.1
      have hi := anyV_of (fun m => (Dk.value op a s (picks m 0 (prs l))).1) v en.2
      have j0 : ∀ k p, damasklaw05_SpanEnds.j0 (k + 1) p op a s l u v = if p = true then ((damasklaw05_awake.f k).bind fun t => some t) else damasklaw05_SpanEnds.l0 k false false 0 op a s l u v := fun _ _ => rfl
      have e0 := j0 299 (!true)
      rw [if_neg (by decide), show (299 : Nat) + 1 = 300 from rfl] at e0
      rw [e0]
      have ok := spanOf_ok op a s (prs l) hz
      have h4 : Dk.arity op ≤ 3 := by unfold Dk.arity; repeat' split <;> omega
      have hl : (l.length : Int) = Dk.arity op := Classical.byContradiction fun hn => ok (.inr (.inl (by simpa [prs] using hn)))
      have hl3 : l.length ≤ 3 := by omega
      have R := fun k x5 x6 m hm => ends_round k x5 x6 m op a s l hm hz u v
      generalize hn : l.length = n at *
      have S : ∀ K x5 x6 (m : Nat), m < 8 → 20 ≤ K → damasklaw05_SpanEnds.l0 K x5 x6 (m : Int) op a s l u v = damasklaw05_SpanEnds.l0 (K - 3 - 2 * n) (x5 || (Dk.value op a s (picks m 0 (prs l))).1 == u) (x6 || (Dk.value op a s (picks m 0 (prs l))).1 == v) ((m : Int) + 1) op a s l u v := by
        intro K x5 x6 m hm hK
        have r := R (K - 20) x5 x6 m hm
        rw [show K - 20 + 20 = K by omega, show K - 20 + (19 - 2 * n) - 2 = K - 3 - 2 * n by omega] at r
        exact r
      have s0 := S 299 false false 0 (by decide) (by omega)
      rw [show ((0 : Nat) : Int) = 0 from rfl] at s0
      rw [s0, show (0 : Int) + 1 = ((1 : Nat) : Int) from rfl, S _ _ _ 1 (by decide) (by omega), show ((1 : Nat) : Int) + 1 = ((2 : Nat) : Int) from rfl, S _ _ _ 2 (by decide) (by omega), show ((2 : Nat) : Int) + 1 = ((3 : Nat) : Int) from rfl,
        S _ _ _ 3 (by decide) (by omega), show ((3 : Nat) : Int) + 1 = ((4 : Nat) : Int) from rfl, S _ _ _ 4 (by decide) (by omega), show ((4 : Nat) : Int) + 1 = ((5 : Nat) : Int) from rfl, S _ _ _ 5 (by decide) (by omega), show ((5 : Nat) : Int) + 1 = ((6 : Nat) : Int) from rfl,
        S _ _ _ 6 (by decide) (by omega), show ((6 : Nat) : Int) + 1 = ((7 : Nat) : Int) from rfl, S _ _ _ 7 (by decide) (by omega), show ((7 : Nat) : Int) + 1 = (8 : Int) from rfl]
      obtain ⟨K, hK⟩ : ∃ K, 299 - 3 - 2 * n - 3 - 2 * n - 3 - 2 * n - 3 - 2 * n - 3 - 2 * n - 3 - 2 * n - 3 - 2 * n - 3 - 2 * n = K + 1 := ⟨_, (Nat.succ_pred_eq_of_pos (by omega)).symm⟩
      rw [hK, ends_l0, if_neg (by decide)]
      simp only [Bool.false_or, Bool.or_assoc]
      unfold anyV at lo hi
      rw [lo, hi]; rfl
  · rw [if_neg hz]; exact no _ _
end Go.Proofs.Ytpnldhimlpilhaa.Pure
