/-
  What the arguments of transit's laws read as: tubes, stars, transits, lists of transits.
-/
import Derived.Test.YtimbdnngeoccdaaDoorTypes
import Derived.Test.YtimbdnngeoccdaaDoorA9
namespace Go.Proofs.YtimbdnngeoccdaaDoor
set_option maxRecDepth 100000
open Go.RowKit Go.ChangeShapes Go.WideShapes Go.Deep
/-- A tube: its wires, where they lie, its error. -/
structure Tb where
  A : Option Addr
  ca : Nat
  xs : List Int
  e : Int
structure St where
  nm : ByteArray
  a : Int
  b : Int
  c : Int
structure Tr where
  nm : ByteArray
  a : Int
  b : Int
  c : Int
  T : Option Addr
  ct : Nat
  ts : List Int
def trE (x : Tr) : List Value := [.string x.nm, .int .i64 x.a, .int .i64 x.b, .int .i64 x.c, .slice x.T x.ts.length x.ct]
structure TbAt (w : World) (s : Tb) : Prop where
  n : s.xs.length ≤ s.ca
  m : s.ca ≤ maxLen
  r : RdL w w.heap.size inE 1 s.A s.xs
  v : ∀ x ∈ s.xs, I64 x
  e : I64 s.e
structure StOk (s : St) : Prop where
  n : s.nm.size ≤ maxLen
  a : I64 s.a
  b : I64 s.b
  c : I64 s.c
structure TrAt (w : World) (s : Tr) : Prop where
  nn : s.nm.size ≤ maxLen
  a : I64 s.a
  b : I64 s.b
  c : I64 s.c
  n : s.ts.length ≤ s.ct
  m : s.ct ≤ maxLen
  r : RdL w w.heap.size inE 1 s.T s.ts
  v : ∀ x ∈ s.ts, I64 x
theorem TbAt.step {w W : World} {s : Tb} (h : TbAt w s) (hb : Below w.heap.size w W) : TbAt W s := ⟨h.n, h.m, h.r.step hb, h.v, h.e⟩
theorem TrAt.step {w W : World} {s : Tr} (h : TrAt w s) (hb : Below w.heap.size w W) : TrAt W s := ⟨h.nn, h.a, h.b, h.c, h.n, h.m, h.r.step hb, h.v⟩
/-- What a tube and a transit are for the contracts. -/
def obs (x : Tb) (t : Tr) : Obs := ⟨x.xs, x.e, t.nm, t.a, t.b, t.c, t.ts⟩
theorem obs_at {w : World} {x : Tb} {t : Tr} (hx : TbAt w x) (ht : TrAt w t) : ObsAt (obs x t) x.A t.T w := by
  have e : maxLen ≤ 9223372036854775807 := by unfold maxLen; omega
  exact ⟨by have := ht.nn; simp only [obs]; omega, by have := hx.n; have := hx.m; simp only [obs]; omega, by have := ht.n; have := ht.m; simp only [obs]; omega, hx.r, ht.r⟩

theorem open_slice_gen {H : Type} {α : Type} {enc' : TypeId × Value → H} {P : Program} {w : World} {t e : TypeId} {fuel : Nat} {cs : List Value} {x : DataW H × List MemPlace} (sz : Nat) (ht : P.underlying t = some (.slice e)) (hn : P.cellsOf e = sz) (hpos : 0 < sz)
    (enc : α → List Value) (Q : α → Prop) (d0 : α) (hel : ∀ fuel cs x, cs.length = sz → DataW.trod enc' P w 0 (fun _ => true) true fuel e cs = some x → ∃ a, cs = enc a ∧ Q a)
    (h : DataW.trod enc' P w 0 (fun _ => true) true fuel t cs = some x) :
    ∃ (A : Option Addr) (cap : Nat) (l : List α), cs = [.slice A l.length cap] ∧ l.length ≤ cap ∧ cap ≤ maxLen ∧ RdL w w.heap.size enc sz A l ∧ ∀ x ∈ l, Q x := by
  rcases open_slice ht h with ⟨rfl, _⟩ | ⟨a, len, cap, m, nn, D, Pl, rfl, _, hl, hm, hmm, _, hi⟩
  · exact ⟨none, 0, [], rfl, Nat.le_refl _, by unfold maxLen; omega, RdL.nil, fun x h => by simp at h⟩
  · simp only [if_true] at hmm
    subst hmm
    have hall : ∀ i, i < m → ∃ g : α, (∀ j u, (enc g)[j]? = some u → w.cell? ((a.add (i * sz)).add j) = some u) ∧ (enc g).length = sz ∧ Q g := by
      intro i him
      obtain ⟨cs', hc, ht'⟩ := hi i him
      rw [hn] at hc
      obtain ⟨_, hcl, hat⟩ := World.cells?_some hc
      obtain ⟨g, rfl, hq⟩ := hel _ _ _ hcl ht'
      exact ⟨g, fun j u hj => (hat j (by rw [← hcl]; exact (List.getElem?_eq_some_iff.1 hj).1)).trans hj, hcl, hq⟩
    let f : Nat → α := fun i => if hi : i < m then (hall i hi).choose else d0
    have hf : ∀ i (hi : i < m), f i = (hall i hi).choose := fun i hi => by simp only [f, hi, dite_true]
    have hlen : ((List.range len).map f).length = len := by simp
    refine ⟨some a, m, (List.range len).map f, by rw [hlen], by rw [hlen]; exact hl, hm, ?_, ?_⟩
    · intro hl0
      rw [hlen] at hl0
      have hs0 := (hall 0 (by omega)).choose_spec
      have h00 := hs0.1 0 _ (List.getElem?_eq_getElem (by rw [hs0.2.1]; exact hpos))
      obtain ⟨b, off, spot⟩ := a
      have hs : spot = none := by simpa [Addr.add] using World.cell?_spot h00
      subst hs
      refine ⟨b, off, rfl, by simpa [Addr.add] using cell?_lt h00, fun i hi' j u hu => ?_⟩
      have hil : i < len := by rw [hlen] at hi'; exact hi'
      have him : i < m := by omega
      simp only [List.getElem_map, List.getElem_range, hf i him] at hu
      have hx := (hall i him).choose_spec.1 j u hu
      have he : ((⟨b, off, none⟩ : Addr).add (i * sz)).add j = ⟨b, off + i * sz + j, none⟩ := by
        unfold Addr.add; split <;> split <;> simp_all
      rw [he] at hx
      exact hx
    · intro x hx
      obtain ⟨i, hi', rfl⟩ := List.mem_map.1 hx
      have him : i < m := by have := List.mem_range.1 hi'; omega
      rw [hf i him]
      exact (hall i him).choose_spec.2.2
theorem open_ints {H : Type} {enc' : TypeId × Value → H} {w : World} {fuel : Nat} {cs : List Value} {x : DataW H × List MemPlace}
    (h : DataW.trod enc' Tryd.prog w 0 (fun _ => true) true fuel 39 cs = some x) :
    ∃ (A : Option Addr) (cap : Nat) (l : List Int), cs = [.slice A l.length cap] ∧ l.length ≤ cap ∧ cap ≤ maxLen ∧ RdL w w.heap.size inE 1 A l ∧ ∀ x ∈ l, I64 x :=
  open_slice_gen 1 Tryd.underlying39 (by kernel_rfl) (by omega) inE I64 0 (fun fuel cs x _ h => by
    obtain ⟨n, rfl, _, hw⟩ := DataW.trod_int Tryd.underlying3 h
    exact ⟨n, rfl, I64.of_wf hw⟩) h
theorem open_tube {H : Type} {enc : TypeId × Value → H} {w : World} {v : Value} {d : DataW H} {p : List MemPlace}
    (hagg : ∃ cs, v = .agg cs ∧ cs.size = Tryd.prog.cellsOf 41) (h : DataW.Trod enc Tryd.prog w 0 (fun _ => true) true 41 v d p) :
    ∃ s : Tb, v = .agg #[.slice s.A s.xs.length s.ca, .int .i64 s.e] ∧ TbAt w s := by
  obtain ⟨cs, rfl, hsz⟩ := hagg
  obtain ⟨fuel, hh⟩ := h
  obtain ⟨xs, n, _, _, hlen, hxl, hg⟩ := DataW.trod_struct Tryd.underlying41 hh
  have hc : Tryd.prog.cellsOf 41 = 2 := by kernel_rfl
  have hci : Tryd.prog.cellsOf 3 = 1 := by kernel_rfl
  have hcs : Tryd.prog.cellsOf 39 = 1 := by kernel_rfl
  rw [hc] at hsz
  obtain ⟨l⟩ := cs
  match l, hsz with
  | [a, b], _ =>
    have g0 := hg 0 _ rfl
    have g1 := hg 1 _ rfl
    simp [Value.cells, hci, hcs] at g0 g1 hxl
    match xs, hxl with
    | [x0, x1], _ =>
      simp at g0 g1
      obtain ⟨A, cap, l, h0, k0, k1, k2, k3⟩ := open_ints g0
      obtain ⟨n1, h1, -, k4⟩ := DataW.trod_int Tryd.underlying3 g1
      simp at h0 h1
      subst h0 h1
      exact ⟨⟨A, cap, l, n1⟩, rfl, k0, k1, k2, k3, I64.of_wf k4⟩
theorem star_cells {H : Type} {enc : TypeId × Value → H} {w : World} {fuel : Nat} {cs : List Value} {x : DataW H × List MemPlace} (hl : cs.length = 4)
    (hh : DataW.trod enc Tryd.prog w 0 (fun _ => true) true fuel 25 cs = some x) :
    ∃ s : St, cs = [.string s.nm, .int .i64 s.a, .int .i64 s.b, .int .i64 s.c] ∧ StOk s := by
  obtain ⟨xs, n, _, _, hlen, hxl, hg⟩ := DataW.trod_struct Tryd.underlying25 hh
  have hci : Tryd.prog.cellsOf 3 = 1 := by kernel_rfl
  have hcs : Tryd.prog.cellsOf 9 = 1 := by kernel_rfl
  match cs, hl with
  | [a, b, c, d], _ =>
    have g0 := hg 0 _ rfl
    have g1 := hg 1 _ rfl
    have g2 := hg 2 _ rfl
    have g3 := hg 3 _ rfl
    simp [hci, hcs] at g0 g1 g2 g3 hxl
    match xs, hxl with
    | [x0, x1, x2, x3], _ =>
      simp at g0 g1 g2 g3
      obtain ⟨s, h0, -, k0⟩ := DataW.trod_string Tryd.underlying9 g0
      obtain ⟨n1, h1, -, k1⟩ := DataW.trod_int Tryd.underlying3 g1
      obtain ⟨n2, h2, -, k2⟩ := DataW.trod_int Tryd.underlying3 g2
      obtain ⟨n3, h3, -, k3⟩ := DataW.trod_int Tryd.underlying3 g3
      simp at h0 h1 h2 h3
      subst h0 h1 h2 h3
      exact ⟨⟨s, n1, n2, n3⟩, rfl, k0, I64.of_wf k1, I64.of_wf k2, I64.of_wf k3⟩
theorem open_star {H : Type} {enc : TypeId × Value → H} {w : World} {v : Value} {d : DataW H} {p : List MemPlace}
    (hagg : ∃ cs, v = .agg cs ∧ cs.size = Tryd.prog.cellsOf 25) (h : DataW.Trod enc Tryd.prog w 0 (fun _ => true) true 25 v d p) :
    ∃ s : St, v = .agg #[.string s.nm, .int .i64 s.a, .int .i64 s.b, .int .i64 s.c] ∧ StOk s := by
  obtain ⟨cs, rfl, hsz⟩ := hagg
  obtain ⟨fuel, hh⟩ := h
  have hc : Tryd.prog.cellsOf 25 = 4 := by kernel_rfl
  rw [hc] at hsz
  obtain ⟨s, h1, h2⟩ := star_cells (by simpa [Value.cells] using hsz) hh
  refine ⟨s, ?_, h2⟩
  congr 1
  exact Array.ext' h1
theorem transit_cells {H : Type} {enc : TypeId × Value → H} {w : World} {fuel : Nat} {cs : List Value} {x : DataW H × List MemPlace} (hl : cs.length = 5)
    (hh : DataW.trod enc Tryd.prog w 0 (fun _ => true) true fuel 45 cs = some x) :
    ∃ s : Tr, cs = trE s ∧ TrAt w s := by
  obtain ⟨xs, n, _, _, hlen, hxl, hg⟩ := DataW.trod_struct Tryd.underlying45 hh
  have hci : Tryd.prog.cellsOf 25 = 4 := by kernel_rfl
  have hcs : Tryd.prog.cellsOf 39 = 1 := by kernel_rfl
  match cs, hl with
  | [a, b, c, d, e], _ =>
    have g0 := hg 0 _ rfl
    have g1 := hg 1 _ rfl
    simp [hci, hcs] at g0 g1 hxl
    match xs, hxl with
    | [x0, x1], _ =>
      simp at g0 g1
      obtain ⟨s, h0, k0⟩ := star_cells rfl g0
      obtain ⟨A, cap, l, h1, m0, m1, m2, m3⟩ := open_ints g1
      simp at h0 h1
      obtain ⟨e0, e1, e2, e3⟩ := h0
      subst e0 e1 e2 e3 h1
      exact ⟨⟨s.nm, s.a, s.b, s.c, A, cap, l⟩, rfl, k0.n, k0.a, k0.b, k0.c, m0, m1, m2, m3⟩
theorem open_transit {H : Type} {enc : TypeId × Value → H} {w : World} {v : Value} {d : DataW H} {p : List MemPlace}
    (hagg : ∃ cs, v = .agg cs ∧ cs.size = Tryd.prog.cellsOf 45) (h : DataW.Trod enc Tryd.prog w 0 (fun _ => true) true 45 v d p) :
    ∃ s : Tr, v = .agg #[.string s.nm, .int .i64 s.a, .int .i64 s.b, .int .i64 s.c, .slice s.T s.ts.length s.ct] ∧ TrAt w s := by
  obtain ⟨cs, rfl, hsz⟩ := hagg
  obtain ⟨fuel, hh⟩ := h
  have hc : Tryd.prog.cellsOf 45 = 5 := by kernel_rfl
  rw [hc] at hsz
  obtain ⟨s, h1, h2⟩ := transit_cells (by simpa [Value.cells] using hsz) hh
  refine ⟨s, ?_, h2⟩
  congr 1
  exact Array.ext' h1
end Go.Proofs.YtimbdnngeoccdaaDoor
