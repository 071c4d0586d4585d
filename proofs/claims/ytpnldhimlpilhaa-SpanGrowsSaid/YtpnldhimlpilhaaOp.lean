/- Opening a law's arguments, type by type: what their cells say, as lists and numbers; no program's own text in sight. -/
import Derived.ChangeArms
import Derived.OpenShut
import Derived.SizedLaws
import Derived.ChangeSlices
import Derived.Deep.Slices
import Derived.Laws.StructEq
import Derived.Test.YtpnldhimlpilhaaV
namespace Go.Proofs.YtpnldhimlpilhaaW.Op
open Go.ChangeShapes Go.WideShapes Go.RowKit Go.Proofs.YtpnldhimlpilhaaW.PrintWords

/-- Of the cells of whatever reads as a value of type T (no slice or string in it past the reach) Q holds. -/
def Opn (P : Program) (T : TypeId) (Q : World → List Value → Prop) : Prop :=
  ∀ (H : Type) (enc : TypeId × Value → H) (W : World) (fuel : Nat) (cs : List Value) (x : DataW H × List MemPlace),
    DataW.trod enc P W 0 (fun _ => true) true fuel T cs = some x → (∀ m ∈ x.1.weights P T, m ≤ reachBytes) → Q W cs

section
variable {P : Program} {T : TypeId}
theorem opn_int {k : IntKind} (hu : P.underlying T = some (.int k)) : Opn P T (fun _ cs => ∃ a, cs = [.int k a] ∧ (Lit.int k a).wf = true) := by
  intro H enc W fuel cs x h _
  obtain ⟨a, rfl, _, hw⟩ := DataW.trod_int hu h
  exact ⟨a, rfl, hw⟩
theorem opn_bool (hu : P.underlying T = some .bool) : Opn P T (fun _ cs => ∃ a, cs = [.bool a]) := by
  intro H enc W fuel cs x h _
  obtain ⟨a, rfl, _⟩ := DataW.trod_bool hu h
  exact ⟨a, rfl⟩
theorem opn_string (hu : P.underlying T = some .string) : Opn P T (fun _ cs => ∃ a : ByteArray, cs = [.string a] ∧ a.size ≤ 140737488351232) := by
  intro H enc W fuel cs x h hw
  obtain ⟨a, rfl, rfl, _⟩ := DataW.trod_string hu h
  refine ⟨a, rfl, ?_⟩
  have := hw a.data.toList.length (by simp [DataW.weights])
  simpa [reachBytes] using this
theorem list_of {α : Type} (R : Nat → α → Prop) : ∀ n, (∀ i, i < n → ∃ y, R i y) → ∃ l : List α, l.length = n ∧ ∀ i y, l[i]? = some y → R i y
  | 0, _ => ⟨[], rfl, fun i y h => by simp at h⟩
  | n + 1, h => by
    obtain ⟨l, hl, hR⟩ := list_of R n (fun i hi => h i (by omega))
    obtain ⟨y, hy⟩ := h n (by omega)
    refine ⟨l ++ [y], by simp [hl], ?_⟩
    intro i z hz
    by_cases hi : i < n
    · rw [List.getElem?_append_left (by omega)] at hz; exact hR i z hz
    · rw [List.getElem?_append_right (by omega)] at hz
      have : i - l.length = 0 := by
        apply Classical.byContradiction
        intro h0
        rw [List.getElem?_eq_none (by simp; omega)] at hz
        simp at hz
      rw [this] at hz
      simp at hz
      subst hz
      rw [show i = n by omega]
      exact hy
/-- A slice, its elements told by a kind. -/
def SliceQ {α : Type} (d : Kd α) (B : Nat) (ok : α → Prop) (W : World) (cs : List Value) : Prop :=
  ∃ (A : Option Addr) (c : Nat) (l : List α), cs = [.slice A l.length c] ∧ l.length ≤ c ∧ l.length ≤ maxLen ∧ l.length * B ≤ 140737488351232 ∧ Kd.C d W A l.length l ∧ ∀ x ∈ l, ok x
theorem opn_slice {e : TypeId} {α : Type} (d : Kd α) (ok : α → Prop) (n B : Nat) (hu : P.underlying T = some (.slice e)) (hn : P.cellsOf e = n) (hd : d.sz = n) (hB : P.bytesOf e = B)
    (he : Opn P e (fun W cs => ∃ x, d.K W x cs ∧ ok x)) : Opn P T (SliceQ d B ok) := by
  intro H enc W fuel cs x h hw
  rcases Go.Deep.open_slice hu h with ⟨rfl, rfl⟩ | ⟨a, len, cap, m, n', D, Pl, rfl, hb, hl, hm, hmm, hx, hi⟩
  · exact ⟨none, 0, [], rfl, by simp, by simp, by simp, ⟨rfl, by simp, fun h => absurd h (by simp)⟩, fun _ h => by simp at h⟩
  · have hmc : m = cap := by simpa using hmm
    subst hmc
    subst hx
    have hwt : ∀ k ∈ (DataW.slice ((List.range len).map D) ((List.range (m - len)).map fun j => D (len + j)) : DataW H).weights P T, k ≤ reachBytes := hw
    have htot : m * B ≤ 140737488351232 := by
      have := hwt ((((List.range len).map D).length + ((List.range (m - len)).map fun j => D (len + j)).length) * P.bytesOf e) (by simp [DataW.weights, hu])
      rw [hB] at this
      simp [reachBytes] at this
      rw [show len + (m - len) = m by omega] at this
      exact this
    have hall : ∀ i, i < len → ∃ y : α, ok y ∧ ∃ c : List Value, c.length = d.sz ∧ d.K W y c ∧ ∀ j u, c[j]? = some u → W.cell? (a.add (i * d.sz + j)) = some u := by
      intro i hil
      obtain ⟨cs', hc, ht'⟩ := hi i (by omega)
      have hwi : ∀ k ∈ (D i).weights P e, k ≤ reachBytes := by
        intro k hk
        refine hwt k ?_
        have hmem : D i ∈ (List.range len).map D := List.mem_map.mpr ⟨i, List.mem_range.mpr hil, rfl⟩
        have hge : ∀ (l : List (DataW H)), D i ∈ l → k ∈ DataW.weightsAll P e l := by
          intro l
          induction l with
          | nil => intro h; simp at h
          | cons z l ih =>
            intro h
            rw [DataW.weightsAll, List.mem_append]
            rcases List.mem_cons.mp h with rfl | h
            · exact .inl hk
            · exact .inr (ih h)
        simp only [DataW.weights, hu, List.mem_cons, List.mem_append]
        exact .inr (.inl (hge _ hmem))
      obtain ⟨y, hK, hok⟩ := he H enc W n' cs' _ ht' hwi
      obtain ⟨_, hcl, hat⟩ := World.cells?_some hc
      refine ⟨y, hok, cs', d.K_len hK, hK, ?_⟩
      intro j u hj
      have hjl : j < cs'.length := (List.getElem?_eq_some_iff.1 hj).1
      have := hat j (by rw [hn]; omega)
      rw [Go.Deep.add_add, hn] at this
      rw [hd, this, hj]
    obtain ⟨l, hll, hlR⟩ := list_of (fun i y => ok y ∧ ∃ c : List Value, c.length = d.sz ∧ d.K W y c ∧ ∀ j u, c[j]? = some u → W.cell? (a.add (i * d.sz + j)) = some u) len hall
    subst hll
    refine ⟨some a, m, l, rfl, hl, Nat.le_trans hl hm, Nat.le_trans (Nat.mul_le_mul_right _ hl) htot, ⟨rfl, by have : maxLen = 9223372036854775807 := rfl; omega, fun _ => ⟨a, rfl, ?_⟩⟩, ?_⟩
    · intro j p hj
      obtain ⟨_, c, h1, h2, h3⟩ := hlR j p hj
      exact ⟨c, h1, h2, h3⟩
    · intro x hx
      obtain ⟨i, hi', rfl⟩ := List.getElem_of_mem hx
      exact (hlR i _ (List.getElem?_eq_getElem hi')).1
/-- Field by field. -/
def OpnF (P : Program) : List Field → List (World → List Value → Prop) → Prop
  | f :: fs, Q :: Qs => Opn P f.type Q ∧ OpnF P fs Qs
  | _, _ => True
def HoldsF (P : Program) (W : World) (cs : List Value) : List Field → List (World → List Value → Prop) → Prop
  | f :: fs, Q :: Qs => Q W ((cs.drop f.offset).take (P.cellsOf f.type)) ∧ HoldsF P W cs fs Qs
  | _, _ => True
theorem holdsF {W : World} {cs : List Value} {H : Type} {enc : TypeId × Value → H} {n : Nat} : ∀ (fs : List Field) (Qs : List (World → List Value → Prop)) (xs : List (DataW H × List MemPlace)), xs.length = fs.length →
    (∀ (i : Nat) (f : Field), fs[i]? = some f → DataW.trod enc P W 0 (fun _ => true) true n f.type ((cs.drop f.offset).take (P.cellsOf f.type)) = xs[i]?) →
    (∀ m ∈ DataW.weightsEach P (fs.map (·.type)) (xs.map (·.1)), m ≤ reachBytes) → OpnF P fs Qs → HoldsF P W cs fs Qs
  | [], _, _, _, _, _, _ => trivial
  | _ :: _, [], _, _, _, _, _ => trivial
  | f :: fs, Q :: Qs, [], hl, _, _, _ => by simp at hl
  | f :: fs, Q :: Qs, x :: xs, hl, hg, hw, ho => by
    simp only [List.map_cons, DataW.weightsEach, List.mem_append] at hw
    refine ⟨ho.1 H enc W n _ x (hg 0 f rfl) (fun m hm => hw m (.inl hm)), holdsF fs Qs xs (by simpa using hl) (fun i f' hf => hg (i + 1) f' (by simpa using hf)) (fun m hm => hw m (.inr hm)) ho.2⟩
/-- A struct: each field's cells are told. -/
theorem opn_struct {fs : Array Field} (hu : P.underlying T = some (.struct fs)) (Qs : List (World → List Value → Prop)) (h : OpnF P fs.toList Qs) :
    Opn P T (fun W cs => cs.length = P.cellsOf T ∧ HoldsF P W cs fs.toList Qs) := by
  intro H enc W fuel cs x ht hw
  obtain ⟨xs, n, _, rfl, hl, hlen, hg⟩ := DataW.trod_struct hu ht
  refine ⟨hl, holdsF fs.toList Qs xs (by simpa using hlen) (fun i f hf => hg i f (by simpa using hf)) ?_ h⟩
  intro m hm
  refine hw m ?_
  simp only [DataW.weights, hu]
  exact hm
/-- An array: each element's cells are told. -/
theorem opn_array {n : Nat} {e : TypeId} (hu : P.underlying T = some (.array n e)) (Q : World → List Value → Prop) (h : Opn P e Q) :
    Opn P T (fun W cs => cs.length = P.cellsOf T ∧ ∀ i, i < n → Q W ((cs.drop (i * P.cellsOf e)).take (P.cellsOf e))) := by
  intro H enc W fuel cs x ht hw
  obtain ⟨xs, m, _, rfl, hl, hlen, hg⟩ := DataW.trod_array hu ht
  refine ⟨hl, ?_⟩
  intro i hi
  have g := hg i hi
  have hi' : i < xs.length := by omega
  rw [List.getElem?_eq_getElem hi'] at g
  refine h H enc W m _ _ g ?_
  intro k hk
  refine hw k ?_
  simp only [DataW.weights, hu]
  have hge : ∀ (l : List (DataW H)), (xs[i]).1 ∈ l → k ∈ DataW.weightsAll P e l := by
    intro l
    induction l with
    | nil => intro h; simp at h
    | cons z l ih =>
      intro h
      rw [DataW.weightsAll, List.mem_append]
      rcases List.mem_cons.mp h with rfl | h
      · exact .inl hk
      · exact .inr (ih h)
  exact hge _ (List.mem_map.mpr ⟨xs[i], List.getElem_mem hi', rfl⟩)
/-- A parameter by its cells. -/
theorem opn_agg {Q : World → List Value → Prop} {H : Type} {enc : TypeId × Value → H} {W : World} {v : Value} {d : DataW H} {ps : List MemPlace} {ts : List TypeId} {ds : List (DataW H)} {j : Nat} {b0 : Nat}
    (h : Opn P T Q) (hv : Value.okWide P W .any b0 T v) (hs : (∃ fs, P.underlying T = some (.struct fs)) ∨ ∃ n e, P.underlying T = some (.array n e)) (hd : DataW.Trod enc P W 0 (fun _ => true) true T v d ps)
    (hsz : (DataW.weightsEach P ts ds).all (· ≤ reachBytes) = true) (ht : ts[j]? = some T) (hdj : ds[j]? = some d) : ∃ cs : List Value, v = .agg cs.toArray ∧ Q W cs := by
  have hag : ∃ cs, v = .agg cs := by
    rcases hs with ⟨fs, hu⟩ | ⟨m, e, hu⟩ <;> simp only [Value.okWide, hu] at hv <;> obtain ⟨cs, h1, _⟩ := hv <;> exact ⟨cs, h1⟩
  obtain ⟨cs, rfl⟩ := hag
  obtain ⟨fuel, hf⟩ := hd
  have h2 := h H enc W fuel _ _ hf (fun m hm => by simpa using List.all_eq_true.1 hsz m (DataW.weights_mem_each ht hdj m hm))
  exact ⟨cs.toList, by simp, by simpa [Value.cells] using h2⟩
theorem opn_one {Q : World → List Value → Prop} {H : Type} {enc : TypeId × Value → H} {W : World} {v : Value} {d : DataW H} {ps : List MemPlace} {ts : List TypeId} {ds : List (DataW H)} {j : Nat}
    (h : Opn P T Q) (hv : v.cells = #[v]) (hd : DataW.Trod enc P W 0 (fun _ => true) true T v d ps)
    (hsz : (DataW.weightsEach P ts ds).all (· ≤ reachBytes) = true) (ht : ts[j]? = some T) (hdj : ds[j]? = some d) : Q W [v] := by
  obtain ⟨fuel, hf⟩ := hd
  have h2 := h H enc W fuel _ _ hf (fun m hm => by simpa using List.all_eq_true.1 hsz m (DataW.weights_mem_each ht hdj m hm))
  rw [hv] at h2
  exact h2
theorem trod_lt {H : Type} {enc : TypeId × Value → H} {W : World} {v : Value} {d : DataW H} {ps : List MemPlace} (hd : DataW.Trod enc P W 0 (fun _ => true) true T v d ps) : ∀ x ∈ ps, x.block < W.heap.size := by
  obtain ⟨m, hm⟩ := hd
  exact DataW.trod_lt m _ _ _ hm
/-- a cell of an array of whole numbers -/
theorem rd_cell {k : IntKind} (l : List Int) (j : Int) (h0 : 0 ≤ j) (h1 : j < (l.length : Int)) : ((l.map (Value.int k)).toArray)[j.toNat]? = some (.int k (rd l j)) := by
  have hlt : j.toNat < l.length := by omega
  rw [List.getElem?_toArray, List.getElem?_map, List.getElem?_eq_getElem hlt]
  simp [rd, List.getD_eq_getElem?_getD, List.getElem?_eq_getElem hlt]
/-- an array of whole numbers, read at an index -/
theorem index_arr {e : TypeId} {n : Nat} {k : IntKind} (hu : P.underlying T = some (.array n e)) (hi : (P.info? e).isSome = true) (hc : P.cellsOf e = 1) (he : P.underlying e = some (.int k)) (l : List Int) (hl : l.length = n) (j : Int) (h0 : 0 ≤ j) (h1 : j < (n : Int)) :
    ∀ W : World, (Instr.index T (.agg (l.map (Value.int k)).toArray) (.int .i64 j)).run P W = .ok (.int k (rd l j)) W := by
  intro W
  obtain ⟨i0, hi0⟩ := Option.isSome_iff_exists.mp hi
  have hlt : j.toNat < l.length := by omega
  have hg : (l.map (Value.int k))[j.toNat]? = some (.int k (rd l j)) := by
    rw [List.getElem?_map, List.getElem?_eq_getElem hlt]
    simp [rd, List.getD_eq_getElem?_getD, List.getElem?_eq_getElem hlt]
  simp [Instr.index, run_underlying hu, asIntOf, h0, h1, go_sem, run_sizeOf W hi0, part, isAgg, run_underlying he]
  rw [List.getElem?_map] at hg
  cases hq : l[j.toNat]? with
  | none => rw [hq] at hg; simp at hg
  | some z => rw [hq] at hg; simp at hg; rw [hc, Nat.mul_one, hq, hg]; simp
/-- '==' of two arrays of three whole numbers -/
theorem eqArr3 {e : TypeId} {k : IntKind} {d : Nat} {w : World} (hu : P.underlying T = some (.array 3 e)) (he : P.underlying e = some (.int k)) (hi : (P.info? e).isSome = true) (hc : P.cellsOf e = 1) (x0 x1 x2 y0 y1 y2 : Int) :
    (Op.equalIn (d + 2) T (.agg #[.int k x0, .int k x1, .int k x2]) (.agg #[.int k y0, .int k y1, .int k y2])).run P w = .ok (x0 == y0 && (x1 == y1 && (x2 == y2))) w := by
  obtain ⟨i0, hi0⟩ := Option.isSome_iff_exists.mp hi
  rw [Op.equalIn]
  simp [run_underlying hu, run_sizeOf w hi0, hc, Std.Legacy.Range.forIn_eq_forIn_range', Std.Legacy.Range.size, List.range', part, isAgg, run_underlying he, go_sem, Op.equalIn]
  by_cases h0 : x0 = y0 <;> by_cases h1 : x1 = y1 <;> by_cases h2 : x2 = y2 <;> simp [h0, h1, h2]
end
theorem len1 {α : Type} (l : List α) (h : l.length = 1) : ∃ x0, l = [x0] := by
  match l, h with
  | [x0], _ => exact ⟨x0, rfl⟩
theorem len2 {α : Type} (l : List α) (h : l.length = 2) : ∃ x0 x1, l = [x0, x1] := by
  match l, h with
  | [x0, x1], _ => exact ⟨x0, x1, rfl⟩
theorem len3 {α : Type} (l : List α) (h : l.length = 3) : ∃ x0 x1 x2, l = [x0, x1, x2] := by
  match l, h with
  | [x0, x1, x2], _ => exact ⟨x0, x1, x2, rfl⟩
theorem len4 {α : Type} (l : List α) (h : l.length = 4) : ∃ x0 x1 x2 x3, l = [x0, x1, x2, x3] := by
  match l, h with
  | [x0, x1, x2, x3], _ => exact ⟨x0, x1, x2, x3, rfl⟩
theorem len5 {α : Type} (l : List α) (h : l.length = 5) : ∃ x0 x1 x2 x3 x4, l = [x0, x1, x2, x3, x4] := by
  match l, h with
  | [x0, x1, x2, x3, x4], _ => exact ⟨x0, x1, x2, x3, x4, rfl⟩
theorem len6 {α : Type} (l : List α) (h : l.length = 6) : ∃ x0 x1 x2 x3 x4 x5, l = [x0, x1, x2, x3, x4, x5] := by
  match l, h with
  | [x0, x1, x2, x3, x4, x5], _ => exact ⟨x0, x1, x2, x3, x4, x5, rfl⟩
theorem len7 {α : Type} (l : List α) (h : l.length = 7) : ∃ x0 x1 x2 x3 x4 x5 x6, l = [x0, x1, x2, x3, x4, x5, x6] := by
  match l, h with
  | [x0, x1, x2, x3, x4, x5, x6], _ => exact ⟨x0, x1, x2, x3, x4, x5, x6, rfl⟩
theorem len8 {α : Type} (l : List α) (h : l.length = 8) : ∃ x0 x1 x2 x3 x4 x5 x6 x7, l = [x0, x1, x2, x3, x4, x5, x6, x7] := by
  match l, h with
  | [x0, x1, x2, x3, x4, x5, x6, x7], _ => exact ⟨x0, x1, x2, x3, x4, x5, x6, x7, rfl⟩
theorem len9 {α : Type} (l : List α) (h : l.length = 9) : ∃ x0 x1 x2 x3 x4 x5 x6 x7 x8, l = [x0, x1, x2, x3, x4, x5, x6, x7, x8] := by
  match l, h with
  | [x0, x1, x2, x3, x4, x5, x6, x7, x8], _ => exact ⟨x0, x1, x2, x3, x4, x5, x6, x7, x8, rfl⟩
theorem len10 {α : Type} (l : List α) (h : l.length = 10) : ∃ x0 x1 x2 x3 x4 x5 x6 x7 x8 x9, l = [x0, x1, x2, x3, x4, x5, x6, x7, x8, x9] := by
  match l, h with
  | [x0, x1, x2, x3, x4, x5, x6, x7, x8, x9], _ => exact ⟨x0, x1, x2, x3, x4, x5, x6, x7, x8, x9, rfl⟩
theorem len11 {α : Type} (l : List α) (h : l.length = 11) : ∃ x0 x1 x2 x3 x4 x5 x6 x7 x8 x9 x10, l = [x0, x1, x2, x3, x4, x5, x6, x7, x8, x9, x10] := by
  match l, h with
  | [x0, x1, x2, x3, x4, x5, x6, x7, x8, x9, x10], _ => exact ⟨x0, x1, x2, x3, x4, x5, x6, x7, x8, x9, x10, rfl⟩
theorem len12 {α : Type} (l : List α) (h : l.length = 12) : ∃ x0 x1 x2 x3 x4 x5 x6 x7 x8 x9 x10 x11, l = [x0, x1, x2, x3, x4, x5, x6, x7, x8, x9, x10, x11] := by
  match l, h with
  | [x0, x1, x2, x3, x4, x5, x6, x7, x8, x9, x10, x11], _ => exact ⟨x0, x1, x2, x3, x4, x5, x6, x7, x8, x9, x10, x11, rfl⟩
end Go.Proofs.YtpnldhimlpilhaaW.Op
namespace Go.Proofs.YtpnldhimlpilhaaW
open Go.RowKit Go.Proofs.YtpnldhimlpilhaaW.PrintWords
/- short names, for texts that are too long for one file -/
theorem bN {w : World} {g : Nat} {o : Obj} (h : w.heap[g]? = some o) (n : Nat) : (w.drewN n).heap[g]? = some o := blk_drewN h n
theorem bD {w : World} {g : Nat} {o : Obj} (h : w.heap[g]? = some o) : w.drew.heap[g]? = some o := blk_drew h
theorem bA {w : World} {g : Nat} {o : Obj} (h : w.heap[g]? = some o) (o2 : Obj) : (w.alloc o2).heap[g]? = some o := blk_alloc h o2
theorem cN {B : Nat} {w W : World} (h : Below B w W) (n : Nat) : Below B w (W.drewN n) := pw_below_drewN h n
theorem cD {B : Nat} {w W : World} (h : Below B w W) : Below B w W.drew := below_drew1 h
theorem cA {w W : World} (h : Below w.heap.size w W) (o : Obj) : Below w.heap.size w (W.alloc o) := below_alloc h o
theorem cS {w W : World} {g j : Nat} {v : Value} (h : Below w.heap.size w W) (hg : w.heap.size ≤ g) : Below w.heap.size w (W.setCell ⟨g, j, none⟩ v) := below_set h hg
theorem wB {a : Addr} (w : World) {u : Value} (h : w.cell? a = some u) : a.block < w.heap.size := World.block_lt_of_cell? w a h
theorem bZ {w : World} {g : Nat} {t : TypeId} {cs : Array Value} (h : w.heap[g]? = some (.cells cs t (0, 0))) (i : Nat) : w.frozen? ⟨g, i, none⟩ = false := blk_frozen h i
theorem bC {w : World} {g : Nat} {t : TypeId} {cs : Array Value} (h : w.heap[g]? = some (.cells cs t (0, 0))) (i : Nat) : w.cell? ⟨g, i, none⟩ = cs[i]? := blk_cell h i
theorem bF {w : World} {g : Nat} {t : TypeId} {cs : Array Value} (h : w.heap[g]? = some (.cells cs t (0, 0))) {p : Addr} (hp : g ≠ p.block) (u : Value) : (w.setCell p u).heap[g]? = some (.cells cs t (0, 0)) := blk_far h hp u
theorem bP {w : World} {g : Nat} {t : TypeId} {cs cs2 : Array Value} (h : w.heap[g]? = some (.cells cs t (0, 0))) (i : Nat) (u : Value) (e : cs.setIfInBounds i u = cs2) : (w.setCell ⟨g, i, none⟩ u).heap[g]? = some (.cells cs2 t (0, 0)) := blk_put h i u e
theorem bB {w w1 : World} {g : Nat} {o : Obj} (h : w.heap[g]? = some o) (hb : Below w.heap.size w w1) : w1.heap[g]? = some o := blk_below h hb
theorem cT {w W w2 : World} (h : Below w.heap.size w W) (k : Below W.heap.size W w2) : Below w.heap.size w w2 := below_step h k
theorem cZ {w W : World} (h : Below w.heap.size w W) : w.heap.size ≤ W.heap.size := below_size h
end Go.Proofs.YtpnldhimlpilhaaW
