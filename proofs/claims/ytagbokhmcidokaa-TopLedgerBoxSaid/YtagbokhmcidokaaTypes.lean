/-
  What the laws' arguments read as: numbers, structs and arrays of numbers, slices of these, strings. For every type of this program.
-/
import Derived.Test.YtagbokhmcidokaaPre
import Derived.Test.YtagbokhmcidokaaRows
import Derived.ProofKit
import Derived.OpenShut
import Derived.Deep.Slices
namespace Go.Proofs.Ytagbokhmcidokaa
open Go.RowKit Go.ChangeShapes Go.WideShapes Go.Deep

/-- A number that an int holds. -/
def I64 (n : Int) : Prop := -9223372036854775808 ≤ n ∧ n ≤ 9223372036854775807
theorem I64.of_wf {n : Int} (h : (Lit.int .i64 n).wf = true) : I64 n := by
  have := bounds_i64 h
  exact this

/-- A type all of whose cells are ints (checked by reckoning). -/
def flatB (P : Program) : Nat → TypeId → Bool
  | 0, _ => false
  | k + 1, t => match P.underlying t with
    | some (.int .i64) => true
    | some (.struct fs) => ((List.range (P.cellsOf t)).all fun p => fs.toList.any fun f => decide (f.offset ≤ p) && decide (p < f.offset + P.cellsOf f.type)) && fs.toList.all fun f => flatB P k f.type && decide (f.offset + P.cellsOf f.type ≤ P.cellsOf t)
    | some (.array n e) => decide (P.cellsOf t = n * P.cellsOf e) && decide (0 < P.cellsOf e) && flatB P k e
    | _ => false

/-- Every cell is an int. -/
def IntCells (cs : List Value) : Prop := ∀ p, p < cs.length → ∃ n, cs[p]? = some (.int .i64 n) ∧ I64 n

section
variable {H : Type} {enc : TypeId × Value → H} {P : Program} {w : World} {base : Nat} {spare : Nat → Bool} {held : Bool}
theorem flat_trod : ∀ (k : Nat) {t : TypeId} {fuel : Nat} {cs : List Value} {x : DataW H × List MemPlace}, flatB P k t = true → DataW.trod enc P w base spare held fuel t cs = some x → IntCells cs
  | 0, _, _, _, _, hf, _ => by simp [flatB] at hf
  | k + 1, t, fuel, cs, x, hf, h => by
    unfold flatB at hf
    split at hf
    · rename_i ht
      obtain ⟨n, rfl, _, hw⟩ := DataW.trod_int ht h
      intro p hp
      obtain rfl : p = 0 := by simp at hp; exact hp
      exact ⟨n, rfl, I64.of_wf hw⟩
    · rename_i fs ht
      obtain ⟨xs, n, _, _, hlen, hxl, hg⟩ := DataW.trod_struct ht h
      simp only [Bool.and_eq_true, List.all_eq_true, List.any_eq_true, decide_eq_true_eq, List.mem_range] at hf
      intro p hp
      obtain ⟨f, hfm, h1, h2⟩ := hf.1 p (by omega)
      obtain ⟨h3, h4⟩ := hf.2 f hfm
      obtain ⟨i, hi, hfi⟩ := List.mem_iff_getElem.1 hfm
      have hfi' : fs[i]? = some f := by
        rw [Array.getElem?_eq_getElem (by simpa using hi)]
        congr 1
      have g := hg i f hfi'
      have hxi : xs[i]? = some (xs[i]'(by rw [hxl]; simpa using hi)) := List.getElem?_eq_getElem _
      rw [hxi] at g
      obtain ⟨m, e, hm⟩ := flat_trod k h3 g (p - f.offset) (by simp; omega)
      refine ⟨m, ?_, hm⟩
      rw [List.getElem?_take, if_pos (by omega), List.getElem?_drop] at e
      rw [← e]; congr 1; omega
    · rename_i nn e ht
      obtain ⟨xs, m, _, _, hlen, hxl, hg⟩ := DataW.trod_array ht h
      simp only [Bool.and_eq_true, decide_eq_true_eq] at hf
      obtain ⟨⟨hf1, hf0⟩, hf2⟩ := hf
      intro p hp
      have hd := Nat.div_add_mod p (P.cellsOf e)
      have hm := Nat.mod_lt p hf0
      have hq : p / P.cellsOf e < nn := by rw [Nat.div_lt_iff_lt_mul hf0]; omega
      have g := hg (p / P.cellsOf e) hq
      have hxi : xs[p / P.cellsOf e]? = some (xs[p / P.cellsOf e]'(by omega)) := List.getElem?_eq_getElem _
      rw [hxi] at g
      have hmul : (p / P.cellsOf e) * P.cellsOf e + P.cellsOf e ≤ nn * P.cellsOf e := by
        rw [← Nat.succ_mul]; exact Nat.mul_le_mul_right _ hq
      have hcomm : P.cellsOf e * (p / P.cellsOf e) = (p / P.cellsOf e) * P.cellsOf e := Nat.mul_comm _ _
      obtain ⟨q, e', hq'⟩ := flat_trod k hf2 g (p % P.cellsOf e) (by simp; omega)
      refine ⟨q, ?_, hq'⟩
      rw [List.getElem?_take, if_pos hm, List.getElem?_drop] at e'
      rw [← e']; congr 1; omega
    · cases hf
end

/-- Cells of ints, chosen. -/
theorem IntCells.fn {cs : List Value} (h : IntCells cs) : ∃ a : Nat → Int, (∀ p, p < cs.length → cs[p]? = some (.int .i64 (a p))) ∧ ∀ p, p < cs.length → I64 (a p) := by
  refine ⟨fun p => if hp : p < cs.length then (h p hp).choose else 0, fun p hp => ?_, fun p hp => ?_⟩
  · simp only [hp, dite_true]; exact (h p hp).choose_spec.1
  · simp only [hp, dite_true]; exact (h p hp).choose_spec.2

/-- An argument that is a struct or an array of ints. -/
theorem open_flat {H : Type} {enc : TypeId × Value → H} {P : Program} {w : World} {base : Nat} {spare : Nat → Bool} {held : Bool} {t : TypeId} {v : Value} {d : DataW H} {p : List MemPlace} (k n : Nat) (hf : flatB P k t = true) (hn : P.cellsOf t = n)
    (hagg : ∃ cs, v = .agg cs ∧ cs.size = P.cellsOf t) (h : DataW.Trod enc P w base spare held t v d p) :
    ∃ a : Nat → Int, v = .agg ((List.range n).map fun j => .int .i64 (a j)).toArray ∧ ∀ j, j < n → I64 (a j) := by
  obtain ⟨cs, rfl, hsz⟩ := hagg
  obtain ⟨fuel, hh⟩ := h
  obtain ⟨a, h1, h2⟩ := (flat_trod k hf hh).fn
  simp only [Value.cells] at h1 h2
  refine ⟨a, ?_, fun j hj => h2 j (by simp; omega)⟩
  congr 1
  apply Array.ext'
  apply List.ext_getElem?
  intro i
  by_cases hi : i < n
  · rw [h1 i (by simp; omega)]; simp [hi]
  · rw [List.getElem?_eq_none (by simp; omega), List.getElem?_eq_none (by simp; omega)]

theorem okWide_array' {P : Program} {w : World} {r : Reach} {b0 : Nat} {t e : TypeId} {n : Nat} {v : Value} (ht : P.underlying t = some (.array n e)) (h : Value.okWide P w r b0 t v) : ∃ cs, v = .agg cs ∧ cs.size = P.cellsOf t := by
  simp only [Value.okWide, ht] at h
  obtain ⟨cs, h1, h2, _⟩ := h
  exact ⟨cs, h1, h2⟩

/-- What a slice of n elements of sz cells each at A reads as: element i has the cells f i 0, f i 1, ..; it lies below block B. -/
def Rd (w : World) (B sz : Nat) (A : Option Addr) (n : Nat) (f : Nat → Nat → Value) : Prop :=
  0 < n → ∃ b off, A = some ⟨b, off, none⟩ ∧ b < B ∧ ∀ i j, i < n → j < sz → w.cell? ⟨b, off + i * sz + j, none⟩ = some (f i j)
theorem Rd.of_below {w W : World} {B sz n : Nat} {A : Option Addr} {f : Nat → Nat → Value} (h : Rd w B sz A n f) (hb : Below B w W) (hB : B ≤ W.heap.size) : Rd W W.heap.size sz A n f := by
  intro hn
  obtain ⟨b, off, e, hlt, hc⟩ := h hn
  exact ⟨b, off, e, by omega, fun i j hi hj => (hb.cell (p := ⟨b, _, none⟩) hlt).trans (hc i j hi hj)⟩
theorem Rd.step {w W : World} {sz n : Nat} {A : Option Addr} {f : Nat → Nat → Value} (h : Rd w w.heap.size sz A n f) (hb : Below w.heap.size w W) : Rd W W.heap.size sz A n f := h.of_below hb hb.size
theorem Rd.congr {w : World} {B sz n : Nat} {A : Option Addr} {f g : Nat → Nat → Value} (h : Rd w B sz A n f) (hg : ∀ i j, i < n → j < sz → f i j = g i j) : Rd w B sz A n g := by
  intro hn
  obtain ⟨b, off, e, hlt, hc⟩ := h hn
  exact ⟨b, off, e, hlt, fun i j hi hj => (hc i j hi hj).trans (by rw [hg i j hi hj])⟩

/-- An argument that is a slice of structs, arrays or numbers. -/
theorem open_slice_flat {H : Type} {enc : TypeId × Value → H} {P : Program} {w : World} {r : Reach} {b0 : Nat} {t e : TypeId} {v : Value} {d : DataW H} {p : List MemPlace} (k sz : Nat) (ht : P.underlying t = some (.slice e)) (hf : flatB P k e = true) (hn : P.cellsOf e = sz) (hpos : 0 < sz)
    (hv : Value.okWide P w r b0 t v) (h : DataW.Trod enc P w 0 (fun _ => true) true t v d p) :
    ∃ (A : Option Addr) (n cap : Nat) (f : Nat → Nat → Int), v = .slice A n cap ∧ n ≤ cap ∧ cap ≤ maxLen ∧ Rd w w.heap.size sz A n (fun i j => .int .i64 (f i j)) ∧ ∀ i j, i < n → j < sz → I64 (f i j) := by
  obtain ⟨A, len, cap, rfl⟩ := okWide_slice ht hv
  obtain ⟨fuel, hh⟩ := h
  rcases open_slice ht hh with ⟨hcs, _⟩ | ⟨a, len', cap', m, nn, D, Pl, hcs, _, hl, hm, hmm, _, hi⟩
  · simp [Value.cells] at hcs
    obtain ⟨rfl, rfl, rfl⟩ := hcs
    exact ⟨none, 0, 0, fun _ _ => 0, rfl, Nat.le_refl _, by unfold maxLen; omega, fun h => absurd h (by omega), fun i j hi => absurd hi (by omega)⟩
  · simp [Value.cells] at hcs
    obtain ⟨rfl, rfl, rfl⟩ := hcs
    simp only [if_true] at hmm
    subst hmm
    have hall : ∀ i, i < m → ∃ g : Nat → Int, ∀ j, j < sz → w.cell? ((a.add (i * sz)).add j) = some (.int .i64 (g j)) ∧ I64 (g j) := by
      intro i him
      obtain ⟨cs', hc, ht'⟩ := hi i him
      rw [hn] at hc
      obtain ⟨_, hcl, hat⟩ := World.cells?_some hc
      obtain ⟨g, h1, h2⟩ := (flat_trod k hf ht').fn
      exact ⟨g, fun j hj => ⟨(hat j hj).trans (h1 j (by omega)), h2 j (by omega)⟩⟩
    refine ⟨some a, len, m, fun i => if hi : i < m then (hall i hi).choose else fun _ => 0, rfl, hl, hm, ?_, ?_⟩
    · intro hlen
      have h00 := ((hall 0 (by omega)).choose_spec 0 hpos).1
      obtain ⟨b, off, spot⟩ := a
      have hs : spot = none := by simpa [Addr.add] using World.cell?_spot h00
      subst hs
      refine ⟨b, off, rfl, by simpa [Addr.add] using cell?_lt h00, fun i j hi' hj => ?_⟩
      have him : i < m := by omega
      have hx := ((hall i him).choose_spec j hj).1
      have he : ((⟨b, off, none⟩ : Addr).add (i * sz)).add j = ⟨b, off + i * sz + j, none⟩ := by
        unfold Addr.add; split <;> split <;> simp_all
      rw [he] at hx
      simp only [him, dite_true]
      exact hx
    · intro i j hi' hj
      have him : i < m := by omega
      simp only [him, dite_true]
      exact ((hall i him).choose_spec j hj).2

/-- A slice at A that reads as the list l, each element by enc in sz cells; it lies below block B. -/
def RdL {α : Type} (w : World) (B : Nat) (enc : α → List Value) (sz : Nat) (A : Option Addr) (l : List α) : Prop :=
  0 < l.length → ∃ b off, A = some ⟨b, off, none⟩ ∧ b < B ∧ ∀ i (h : i < l.length) j v, (enc l[i])[j]? = some v → w.cell? ⟨b, off + i * sz + j, none⟩ = some v
theorem RdL.of_below {α : Type} {w W : World} {B sz : Nat} {enc : α → List Value} {A : Option Addr} {l : List α} (h : RdL w B enc sz A l) (hb : Below B w W) (hB : B ≤ W.heap.size) : RdL W W.heap.size enc sz A l := by
  intro hn
  obtain ⟨b, off, e, hlt, hc⟩ := h hn
  exact ⟨b, off, e, by omega, fun i hi j v hv => (hb.cell (p := ⟨b, _, none⟩) hlt).trans (hc i hi j v hv)⟩
theorem RdL.step {α : Type} {w W : World} {sz : Nat} {enc : α → List Value} {A : Option Addr} {l : List α} (h : RdL w w.heap.size enc sz A l) (hb : Below w.heap.size w W) : RdL W W.heap.size enc sz A l := h.of_below hb hb.size
theorem RdL.nil {α : Type} {w : World} {B sz : Nat} {enc : α → List Value} {A : Option Addr} : RdL w B enc sz A ([] : List α) := fun h => absurd h (by simp)
theorem RdL.new {α : Type} (w : World) (t : TypeId) (enc : α → List Value) (sz : Nat) (l : List α) (hsz : ∀ x, (enc x).length = sz) : RdL (w.alloc (.cells (l.flatMap enc).toArray t)) (w.alloc (.cells (l.flatMap enc).toArray t)).heap.size enc sz (some ⟨w.heap.size, 0, none⟩) l := by
  intro _
  refine ⟨_, _, rfl, by simp, fun i hi j v hv => ?_⟩
  have hj : j < sz := by
    rw [← hsz l[i]]; exact (List.getElem?_eq_some_iff.1 hv).1
  have key : ∀ (l : List α) (i : Nat) (hi : i < l.length), (l.flatMap enc)[i * sz + j]? = (enc l[i])[j]? := by
    intro l
    induction l with
    | nil => intro i hi; simp at hi
    | cons x l ih =>
      intro i hi
      rw [List.flatMap_cons]
      cases i with
      | zero => rw [List.getElem?_append_left (by rw [hsz]; omega)]; simp
      | succ i =>
        have hi' : i < l.length := by simpa using hi
        rw [List.getElem?_append_right (by rw [hsz, Nat.succ_mul]; omega), hsz, show (i + 1) * sz + j - sz = i * sz + j by rw [Nat.succ_mul]; omega, ih i hi']
        simp
  simp only [World.cell?, World.alloc]
  simp [key l i hi, hv]

/-- An argument that is a slice of structs, arrays or numbers, as a list. -/
theorem open_slice_list {H : Type} {α : Type} {enc' : TypeId × Value → H} {P : Program} {w : World} {r : Reach} {b0 : Nat} {t e : TypeId} {v : Value} {d : DataW H} {p : List MemPlace} (k sz : Nat) (ht : P.underlying t = some (.slice e)) (hf : flatB P k e = true) (hn : P.cellsOf e = sz) (hpos : 0 < sz)
    (enc : α → List Value) (dec : (Nat → Int) → α) (henc : ∀ g, enc (dec g) = (List.range sz).map fun j => .int .i64 (g j))
    (hv : Value.okWide P w r b0 t v) (h : DataW.Trod enc' P w 0 (fun _ => true) true t v d p) :
    ∃ (A : Option Addr) (cap : Nat) (l : List α), v = .slice A l.length cap ∧ l.length ≤ cap ∧ cap ≤ maxLen ∧ RdL w w.heap.size enc sz A l ∧ ∀ x ∈ l, ∃ g : Nat → Int, x = dec g ∧ ∀ j, j < sz → I64 (g j) := by
  obtain ⟨A, n, cap, f, rfl, h1, h2, h3, h4⟩ := open_slice_flat k sz ht hf hn hpos hv h
  have hl : ((List.range n).map fun i => dec (f i)).length = n := by simp
  refine ⟨A, cap, (List.range n).map fun i => dec (f i), by rw [hl], by rw [hl]; exact h1, h2, ?_, ?_⟩
  · intro hn0
    rw [hl] at hn0
    obtain ⟨b, off, e, hlt, hc⟩ := h3 hn0
    refine ⟨b, off, e, hlt, fun i hi j v hv => ?_⟩
    rw [hl] at hi
    simp only [List.getElem_map, List.getElem_range, henc] at hv
    have hj : j < sz := by
      have := (List.getElem?_eq_some_iff.1 hv).1; simpa using this
    simp [hj] at hv
    rw [← hv]
    exact hc i j hi hj
  · intro x hx
    obtain ⟨i, hi, rfl⟩ := List.mem_map.1 hx
    exact ⟨f i, rfl, fun j hj => h4 i j (List.mem_range.1 hi) hj⟩

theorem laidOut : laidOutB Try.prog = true := by kernel_rfl
theorem own : ownKnob Try.prog.godebug = none := by kernel_rfl
end Go.Proofs.Ytagbokhmcidokaa
