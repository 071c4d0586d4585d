/- The statement SpanRefuses of layer 5 (single numbers are refused as the operator refuses): for all arguments, no condition. -/
import Derived.Test.YtpnldhimlpilhaaSq
import Derived.Test.YtpnldhimlpilhaaSt
import Derived.Test.YtpnldhimlpilhaaSf
import Derived.Test.YtpnldhimlpilhaaFlawSpanRefuses1
namespace Go.Proofs.Ytpnldhimlpilhaa.Pure
open Go.RowKit Go.Proofs.Ytpnldhimlpilhaa.F Go.Proofs.YtpnldhimlpilhaaW.PrintWords Go.Proofs.YtpnldhimlpilhaaW.PrintLast Go.Proofs.YtpnldhimlpilhaaW.PrintMore

def dbl (x : Int) : Int × Int := (x, x)
theorem all_dbl (xs : List Int) : (xs.map dbl).all Dk.whole = xs.all Dk.word := by
  induction xs with
  | nil => rfl
  | cons x xs ih => simp only [List.map_cons, List.all_cons, ih]; rw [show Dk.whole (dbl x) = Dk.word x from Dk.whole_pt x]
theorem fin_alike {p : (Int × Int) × Int} {q : Int × Int} (h : Dk.Alike p q) : (Dk.fins p).2 = (Dk.fin q).2 ∧ ((Dk.fins p).2 = 0 → Dk.fins p = p ∧ p.2 = 0) := by
  obtain ⟨h1, h2⟩ := h
  unfold Dk.fins Dk.fin
  rw [← h1]
  by_cases h3 : p.2 = 0
  · rw [if_pos h3, if_pos h3, h2 h3]
    cases hq : Dk.word q.1
    · rw [if_neg (by decide), if_neg (by decide)]; exact ⟨rfl, fun h => absurd h (by decide)⟩
    · rw [if_pos rfl, if_pos rfl]; exact ⟨h1, fun _ => ⟨rfl, h3⟩⟩
  · rw [if_neg h3, if_neg h3]; exact ⟨rfl, fun h => absurd h h3⟩
/-- refused alike -/
theorem refused (op k s : Int) (xs : List Int) : (Dk.spanOf op k s (xs.map dbl)).2 = (Dk.value op k s xs).2 := by
  unfold Dk.spanOf Dk.value
  rw [all_dbl, List.length_map]
  by_cases hg : Dk.arity op < 1 ∨ (xs.length : Int) ≠ Dk.arity op ∨ Dk.consts op k s = false ∨ xs.all Dk.word = false
  · rw [if_pos hg, if_pos hg]
  · rw [if_neg hg, if_neg hg]
    have h4 : Dk.arity op ≤ 3 := by unfold Dk.arity; repeat' split <;> omega
    have hc : Dk.consts op k s = true := by
      cases hq : Dk.consts op k s
      · exact absurd (.inr (.inr (.inl hq))) hg
      · rfl
    have hw : xs.all Dk.word = true := by
      cases hq : xs.all Dk.word
      · exact absurd (.inr (.inr (.inr hq))) hg
      · rfl
    have hl : (xs.length : Int) = Dk.arity op := Classical.byContradiction fun hn => hg (.inr (.inl hn))
    rcases xs with _ | ⟨x, _ | ⟨y, _ | ⟨z, _ | ⟨t, l⟩⟩⟩⟩
    · exact absurd (.inl (by simp at hl; omega)) hg
    · simp only [List.all_cons, List.all_nil, Bool.and_true] at hw
      exact (fin_alike (Dk.alike1 op k s x (Dk.ops1 op (by simp at hl; omega)) hc hw)).1
    · simp only [List.all_cons, List.all_nil, Bool.and_true, Bool.and_eq_true] at hw
      exact (fin_alike (Dk.alike2 op x y (Dk.ops2 op (by simp at hl; omega)) hw.1 hw.2)).1
    · exact (fin_alike (Dk.alike3 op x y z (Dk.ops3 op (by simp at hl; omega)))).1
    · simp at hl; omega
theorem ins_dbl : ∀ xs : List Int, Ins (xs.map dbl) xs
  | [] => .nil
  | _ :: xs => .cons ⟨Int.le_refl _, Int.le_refl _⟩ (ins_dbl xs)
/-- refused as dividing by zero: a zero among the divisors -/
theorem divz (op k s : Int) (l : List (Int × Int)) (h : (Dk.spanOf op k s l).2 = 12) : ∃ x y, l = [x, y] ∧ y.1 ≤ 0 ∧ 0 ≤ y.2 ∧ (op = 11 ∨ op = 12) := by
  have hf : ∀ p : (Int × Int) × Int, (Dk.fins p).2 = 12 → p.2 = 12 := by
    intro p hp
    unfold Dk.fins at hp
    by_cases h1 : p.2 = 0
    · rw [if_pos h1] at hp
      by_cases h2 : Dk.whole p.1 = true
      · rw [if_pos h2] at hp; exact hp
      · rw [if_neg h2] at hp; exact absurd hp (by decide)
    · rw [if_neg h1] at hp; exact hp
  unfold Dk.spanOf at h
  split at h
  · exact absurd h (by decide)
  · split at h
    · have h1 := hf _ h
      unfold Dk.span1 at h1
      repeat' split at h1
      all_goals exact absurd h1 (by simp)
    · rename_i a b _
      have h1 := hf _ h
      refine ⟨a, b, rfl, ?_⟩
      unfold Dk.span2 at h1
      split at h1
      · rename_i ho
        split at h1
        · rename_i hz; exact ⟨hz.1, hz.2, ho⟩
        · split at h1 <;> exact absurd h1 (by simp)
      · repeat' split at h1
        all_goals exact absurd h1 (by simp)
    · exact absurd (hf _ h) (by simp)
    · exact absurd h (by decide)
theorem rd_get (l : List S47) (i : Nat) (h : i < l.length) : rd_T47 l (i : Int) = l[i] := by
  unfold rd_T47
  rw [Int.toNat_natCast, List.getD_eq_getElem?_getD, List.getElem?_eq_getElem h]; rfl
theorem ref_step (k : Nat) (op a s : Int) (l : List S47) (acc : List Int) (acp : List S47) (i : Nat) (h : i < l.length) (h1 : acc.length < 17592186044416) (h2 : acp.length < 8796093022208) (hi : (i : Int) < 9223372036854775807) :
    damasklaw05_SpanRefuses.l0 (k + 1) acc acp i op a s l = damasklaw05_SpanRefuses.l0 k (acc ++ [l[i].f0]) (acp ++ [(⟨l[i].f0, l[i].f0⟩ : S47)]) ((i + 1 : Nat) : Int) op a s l := by
  have hb : (i : Int) < (l.length : Int) := by omega
  have h0 : 0 ≤ (i : Int) := by omega
  simp only [damasklaw05_SpanRefuses.l0]
  rw [if_pos hb, if_pos h0, if_pos h1, if_pos h2, rd_get l i h, Dk.wrap64_of _ (by omega)]
  rfl
def firsts (l : List S47) : List Int := l.map (·.f0)
def singles (l : List S47) : List S47 := l.map fun x => ⟨x.f0, x.f0⟩
theorem ref_loop (op a s : Int) (l : List S47) (hl : l.length ≤ 8796093022207) (k : Nat) : ∀ (m i : Nat), i + m = l.length →
    damasklaw05_SpanRefuses.l0 (k + m) (firsts (l.take i)) (singles (l.take i)) i op a s l = damasklaw05_SpanRefuses.l0 k (firsts l) (singles l) l.length op a s l
  | 0, i, h => by
    have : i = l.length := by omega
    subst this
    rw [List.take_length]; rfl
  | m + 1, i, h => by
    have hi : i < l.length := by omega
    rw [show k + (m + 1) = (k + m) + 1 by omega, ref_step (k + m) op a s l _ _ i hi (by simp [firsts]; omega) (by simp [singles]; omega) (by omega)]
    have e1 : firsts (l.take i) ++ [l[i].f0] = firsts (l.take (i + 1)) := by
      unfold firsts; rw [List.take_succ_eq_append_getElem hi, List.map_append]; rfl
    have e2 : singles (l.take i) ++ [(⟨l[i].f0, l[i].f0⟩ : S47)] = singles (l.take (i + 1)) := by
      unfold singles; rw [List.take_succ_eq_append_getElem hi, List.map_append]; rfl
    rw [e1, e2]
    exact ref_loop op a s l hl k m (i + 1) (by omega)
theorem ref_last (K : Nat) (op a s : Int) (l : List S47) (xs : List Int) (ps : List S47) : damasklaw05_SpanRefuses.l0 (K + 1) xs ps l.length op a s l =
    ((span_Of.f K op a s ps).bind fun bt798 => ((damaskref04_Value.f K op a s xs).bind fun bt802 => (if bt798.2.2 = bt802.2 then (if bt802.2 = 0 then ((span_Has.f bt798.1 bt798.2.1 bt802.1).bind fun t804 => (some t804)) else (some true)) else (some false)))) := by
  simp only [damasklaw05_SpanRefuses.l0]
  rw [if_neg (by omega)]
theorem ref_end (k : Nat) (op a s : Int) (l : List S47) : damasklaw05_SpanRefuses.l0 (k + 101) (firsts l) (singles l) l.length op a s l = some true := by
  rw [show k + 101 = (k + 100) + 1 by omega, ref_last, ref_Value_code k, show k + 100 = (k + 70) + 30 by omega, Of_code (k + 70)]
  simp only [Option.bind_some]
  have e : prs (singles l) = (firsts l).map dbl := by simp [prs, singles, firsts, pr, dbl]
  have hr := refused op a s (firsts l)
  rw [e]
  generalize hp : Dk.spanOf op a s ((firsts l).map dbl) = p at *
  rw [if_pos (show (tri p).2.2 = _ from hr)]
  by_cases hz : (Dk.value op a s (firsts l)).2 = 0
  · rw [if_pos hz]
    have hv := value_in op a s ((firsts l).map dbl) (firsts l) (by rw [hp, hr, hz]) (ins_dbl _)
    rw [hp] at hv
    rw [show span_Has.f (tri p).1 (tri p).2.1 _ = _ from has_code p.1 _]
    simp only [Option.bind_some]
    exact congrArg some (decide_eq_true hv.2.2)
  · rw [if_neg hz]
theorem SpanRefuses : damasklaw05_SpanRefuses.Pure := by
  intro op a s l _ _ _ _ hl _
  refine ⟨101 + l.length, ?_⟩
  have hlen : l.length ≤ 8796093022207 := by omega
  unfold damasklaw05_SpanRefuses.f
  rw [show 101 + l.length = (71 + l.length) + 30 by omega, Of_code, awake05]
  simp only [Option.bind_some, if_true]
  by_cases hz : (Dk.spanOf op a s (prs l)).2 = 12
  · rw [if_pos (show (tri (Dk.spanOf op a s (prs l))).2.2 = 12 from hz)]
    obtain ⟨x, y, hxy, h1, h2, ho⟩ := divz op a s (prs l) hz
    have h0 := spanOf_no op a s (prs l) (by omega)
    have e0 : ((tri (Dk.spanOf op a s (prs l))).1 == 0 && ((tri (Dk.spanOf op a s (prs l))).2.1 == 0)) = true := by unfold tri; rw [h0]; rfl
    rw [if_pos e0]
    rcases l with _ | ⟨u, _ | ⟨v, _ | ⟨w, l⟩⟩⟩
    · simp [prs] at hxy
    · simp [prs] at hxy
    · simp only [prs, List.map_cons, List.map_nil, List.cons.injEq, and_true] at hxy
      obtain ⟨rfl, rfl⟩ := hxy
      rw [if_pos (by simp), if_pos (by simp)]
      have r1 : rd_T47 [u, v] 1 = v := rfl
      rw [r1, if_pos (show v.f0 ≤ 0 from h1), if_pos (show v.f1 ≥ 0 from h2)]
      rcases ho with rfl | rfl
      · rw [if_pos rfl]
      · rw [if_neg (by decide)]; rfl
    · simp [prs] at hxy
  · rw [if_neg (show ¬ (tri (Dk.spanOf op a s (prs l))).2.2 = 12 from hz)]
    rw [show 71 + l.length + 30 = 101 + l.length by omega]
    have := ref_loop op a s l hlen 101 l.length 0 (by omega)
    rw [List.take_zero] at this
    exact this.trans (ref_end 0 op a s l)
end Go.Proofs.Ytpnldhimlpilhaa.Pure
