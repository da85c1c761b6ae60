/-
  A further transit makes no reach wider: plain Lean. And what an append of all transits of a list gives.
-/
import Derived.Test.YtbcabckokmjelaaQ17
import Derived.Test.YtbcabckokmjelaaA18
namespace Go.Proofs.Ytbcabckokmjelaa
open Go.RowKit Go.Deep
set_option linter.unusedVariables false
set_option linter.unusedSimpArgs false
theorem az_mono {l m : List Sp} (h : ∀ s ∈ l, s ∈ m) (hg : agB (azR m) = true) : agB (azR l) = true := by
  obtain ⟨p, q, hq, hs⟩ := sat_ch (azCh m) hg
  refine ch_sat (azCh l) (p := p) (q := q) hq fun a ha => ?_
  obtain ⟨s, hs1, t, ht1, rfl⟩ := mem_az.1 ha
  exact hs _ (mem_az.2 ⟨s, h s hs1, t, h t ht1, rfl⟩)
theorem er_sub {l m : List Sp} (h : ∀ s ∈ l, s ∈ m) : ∀ a ∈ erA l, a ∈ erA m := by
  intro a ha
  rcases mem_er.1 ha with ⟨s, hs, h0, e⟩ | ⟨s, hs, t, ht, h1, h2, e⟩
  · exact mem_er.2 (.inl ⟨s, h s hs, h0, e⟩)
  · exact mem_er.2 (.inr ⟨s, h s hs, t, h t ht, h1, h2, e⟩)
theorem ch_mono {l m : List (Int × Int)} {r s : Rc} (h : Ch l r) (k : Ch m s) (hm : ∀ a ∈ l, a ∈ m) :
    (r.lo.d ≠ 0 → s.lo.d ≠ 0 ∧ r.lo.n * s.lo.d ≤ s.lo.n * r.lo.d) ∧ (r.hi.d ≠ 0 → s.hi.d ≠ 0 ∧ s.hi.n * r.hi.d ≤ r.hi.n * s.hi.d) := by
  constructor
  · intro h0
    obtain ⟨a, ha, hp, ea⟩ := h.loM h0
    refine ⟨fun e => by have := k.lo0 e a (hm a ha); omega, ?_⟩
    have := k.lo a (hm a ha) hp
    rw [ea]; exact this
  · intro h0
    obtain ⟨a, ha, hp, ea⟩ := h.hiM h0
    refine ⟨fun e => by have := k.hi0 e a (hm a ha); omega, ?_⟩
    have := k.hi a (hm a ha) hp
    rw [ea]; exact this
theorem low_ok {n d : Int} (h : (lowR n d).2.2 = 0) : okRat (redN n d) (redD n d) = true ∧ (lowR n d).1 = redN n d ∧ (lowR n d).2.1 = redD n d := by
  unfold lowR at *
  split at h
  · rename_i ho; rw [if_pos ho]; exact ⟨ho, rfl, rfl⟩
  · simp at h
theorem red_le {n1 d1 n2 d2 : Int} (h1 : 0 < d1) (h2 : 0 < d2) (e : n1 * d2 ≤ n2 * d1) : redN n1 d1 * redD n2 d2 ≤ redN n2 d2 * redD n1 d1 := by
  obtain ⟨-, a2⟩ := red_one (n := n1) h1
  obtain ⟨-, b2⟩ := red_one (n := n2) h2
  have c1 := red_cross (n := n1) (d := d1) (by omega)
  have c2 := red_cross (n := n2) (d := d2) (by omega)
  refine Int.le_of_mul_le_mul_right (?_ : (redN n1 d1 * redD n2 d2) * (d1 * d2) ≤ (redN n2 d2 * redD n1 d1) * (d1 * d2)) (Int.mul_pos h1 h2)
  calc (redN n1 d1 * redD n2 d2) * (d1 * d2) = (redN n1 d1 * d1) * (redD n2 d2 * d2) := by ac_rfl
    _ = (n1 * d2) * (redD n1 d1 * redD n2 d2) := by rw [c1]; ac_rfl
    _ ≤ (n2 * d1) * (redD n1 d1 * redD n2 d2) := Int.mul_le_mul_of_nonneg_right e (Int.le_of_lt (Int.mul_pos a2 b2))
    _ = (redN n2 d2 * d2) * (redD n1 d1 * d1) := by rw [c2]; ac_rfl
    _ = (redN n2 d2 * redD n1 d1) * (d1 * d2) := by ac_rfl
theorem cmp_le {n1 d1 n2 d2 : Int} (h1 : 0 < d1) (h2 : 0 < d2) (e : n1 * d2 ≤ n2 * d1) (k1 : (lowR n1 d1).2.2 = 0) (k2 : (lowR n2 d2).2.2 = 0) : cmpR (lowR n1 d1).1 (lowR n1 d1).2.1 (lowR n2 d2).1 (lowR n2 d2).2.1 ≤ 0 := by
  obtain ⟨o1, e1, e2⟩ := low_ok k1
  obtain ⟨o2, e3, e4⟩ := low_ok k2
  rw [e1, e2, e3, e4]
  unfold cmpR sgn
  rw [o1, o2]
  have := red_le h1 h2 e
  simp only [Bool.and_self, if_true]
  split
  · omega
  · split <;> omega
/-- When a reach is told. -/
theorem re_zero {x : Tb} {l : List Tr} (h : (reT x l).e = 0) : stErr x l = 0 ∧ agB (azR (wdL x l)) = true ∧ (erR (wdL x l)).lo.d ≠ 0 ∧ (erR (wdL x l)).hi.d ≠ 0 ∧ (lowR (erR (wdL x l)).lo.n (erR (wdL x l)).lo.d).2.2 = 0 ∧ (lowR (erR (wdL x l)).hi.n (erR (wdL x l)).hi.d).2.2 = 0 ∧
    reT x l = ⟨(lowR (erR (wdL x l)).lo.n (erR (wdL x l)).lo.d).1, (lowR (erR (wdL x l)).lo.n (erR (wdL x l)).lo.d).2.1, (lowR (erR (wdL x l)).hi.n (erR (wdL x l)).hi.d).1, (lowR (erR (wdL x l)).hi.n (erR (wdL x l)).hi.d).2.1, 0⟩ := by
  unfold reT at *
  by_cases h0 : stErr x l = 0
  · rw [if_pos h0] at *
    by_cases h1 : agB (azR (wdL x l)) = true
    · rw [if_pos h1] at *
      unfold tl0 at *
      by_cases h2 : (erR (wdL x l)).lo.d = 0 ∨ (erR (wdL x l)).hi.d = 0
      · rw [if_pos h2] at h; simp at h
      · rw [if_neg h2] at *
        by_cases h3 : (lowR (erR (wdL x l)).lo.n (erR (wdL x l)).lo.d).2.2 ≠ 0 ∨ (lowR (erR (wdL x l)).hi.n (erR (wdL x l)).hi.d).2.2 ≠ 0
        · rw [if_pos h3] at h; simp at h
        · rw [if_neg h3] at *
          exact ⟨h0, h1, by omega, by omega, by omega, by omega, rfl⟩
    · rw [if_neg h1] at h; simp at h
  · rw [if_neg h0] at h; simp only at h; exact absurd h h0
theorem re_eight {x : Tb} {l : List Tr} (h0 : stErr x l = 0) (h : (reT x l).e = 8) : (erR (wdL x l)).lo.d = 0 ∨ (erR (wdL x l)).hi.d = 0 := by
  unfold reT at h
  rw [if_pos h0] at h
  split at h
  · unfold tl0 at h
    split at h
    · assumption
    · split at h <;> simp at h
  · simp at h
structure Nar (x : Tb) (l m : List Tr) : Prop where
  ag : stErr x l = 0 → agE x m = true → agE x l = true
  n8 : stErr x m = 0 → (reT x l).e = 0 → (reT x m).e ≠ 8
  lo : (reT x l).e = 0 → (reT x m).e = 0 → cmpR (reT x l).a (reT x l).b (reT x m).a (reT x m).b ≤ 0
  hi : (reT x l).e = 0 → (reT x m).e = 0 → cmpR (reT x m).c (reT x m).d (reT x l).c (reT x l).d ≤ 0
theorem narrow {x : Tb} {l m : List Tr} (hs : ∀ t ∈ l, t ∈ m) : Nar x l m := by
  have hw : ∀ s ∈ wdL x l, s ∈ wdL x m := by
    intro s h
    unfold wdL stL at *
    rw [List.map_map] at *
    obtain ⟨t, ht, rfl⟩ := List.mem_map.1 h
    exact List.mem_map.2 ⟨t, hs t ht, rfl⟩
  have hc := ch_mono (erCh (wdL x l)) (erCh (wdL x m)) (er_sub hw)
  refine ⟨fun h0 h => ?_, fun h0 h1 h8 => ?_, fun h1 h2 => ?_, fun h1 h2 => ?_⟩
  · unfold agE at *
    rw [Bool.and_eq_true] at *
    exact ⟨decide_eq_true h0, az_mono hw h.2⟩
  · obtain ⟨-, -, a1, a2, -⟩ := re_zero h1
    rcases re_eight h0 h8 with e | e
    · exact (hc.1 a1).1 e
    · exact (hc.2 a2).1 e
  · obtain ⟨-, -, a1, a2, a3, a4, e1⟩ := re_zero h1
    obtain ⟨-, -, b1, b2, b3, b4, e2⟩ := re_zero h2
    rw [e1, e2]
    have := (erCh (wdL x l)).dlo; have := (erCh (wdL x m)).dlo
    exact cmp_le (by omega) (by omega) (hc.1 a1).2 a3 b3
  · obtain ⟨-, -, a1, a2, a3, a4, e1⟩ := re_zero h1
    obtain ⟨-, -, b1, b2, b3, b4, e2⟩ := re_zero h2
    rw [e1, e2]
    have := (erCh (wdL x l)).dhi; have := (erCh (wdL x m)).dhi
    exact cmp_le (by omega) (by omega) (hc.2 a2).2 b4 a4
theorem trE_len (t : Tr) : (trE t).length = 5 := rfl
theorem trE_one (l : List Tr) : ∀ u ∈ l.flatMap trE, u.oneCell' = true := by
  intro u hu
  obtain ⟨x, _, hx⟩ := List.mem_flatMap.1 hu
  simp [trE] at hx
  rcases hx with rfl | rfl | rfl | rfl | rfl <;> rfl
theorem appT : AppE 30 28 trE 5 where
  ht := Try.underlying30
  info := app_info (z := .agg #[.string ⟨#[]⟩, .int .i64 0, .int .i64 0, .int .i64 0, .slice none 0 0]) (bytes := 64) (by kernel_rfl) rfl (by decide)
  pos := by decide
  len := fun x => rfl
  one := fun x u hu => by simp [trE] at hu; rcases hu with rfl | rfl | rfl | rfl | rfl <;> rfl
theorem empty_row (W : World) (t : TypeId) (sz : Nat) : (W.alloc (.cells #[] t)).ownsRow W.heap.size t sz (.slice (some ⟨W.heap.size, 0, none⟩) 0 0) 0 [] :=
  World.ownsRow_lit (base := W.heap.size) W #[] 0 (Nat.le_refl _) (by unfold maxLen; omega) (by simp)
theorem empty_row' (W : World) (t : TypeId) (sz g : Nat) (h : g = W.heap.size) : (W.alloc (.cells #[] t)).ownsRow g t sz (.slice (some ⟨g, 0, none⟩) 0 0) 0 [] := by subst h; exact empty_row _ _ _
theorem own_base {w : World} {base base' : Nat} {e : TypeId} {size n : Nat} {v : Value} {xs : List Value} (h : w.ownsRow base e size v n xs) (hb : base' ≤ base) : w.ownsRow base' e size v n xs := Go.Joins.ownsRow_le h hb
theorem grown_cell {W W' : World} {row : Option Nat} (hg : W.grownBy W' row) {b o : Nat} {u : Value} (h : W.cell? ⟨b, o, none⟩ = some u) (hne : some b ≠ row) : W'.cell? ⟨b, o, none⟩ = some u :=
  (World.cell?_of_block (a := ⟨b, o, none⟩) (hg.block b (cell?_lt h) hne)).trans h
theorem own_ne {W : World} {base : Nat} {e : TypeId} {sz n : Nat} {v : Value} {xs : List Value} (h : W.ownsRow base e sz v n xs) {b : Nat} (hb : b < base) : some b ≠ v.ownBlock := fun e => by
  have := (h.lt b e.symm).1
  omega
theorem app1T (l : List Tr) (A : Option Addr) (cap : Nat) (hz : A = none → l.length = 0 ∧ cap = 0) (hl : l.length ≤ 1000) (W : World) (base g : Nat) (hrow : W.ownsRow base 28 5 (.slice (some ⟨g, 0, none⟩) 0 0) 0 []) (hb : base ≤ W.heap.size)
    (holds : ∀ b, A = some b → ∀ j u, (l.flatMap trE)[j]? = some u → W.cell? (b.add j) = some u) :
    ∃ v' w', (Builtin.append_ #[30, 30] 30 #[.slice (some ⟨g, 0, none⟩) 0 0, .slice A l.length cap]).run Try.prog W = .ok v' w' ∧ (w'.ownsRow base 28 5 v' l.length (l.flatMap trE) ∧ W.grownBy w' (some g)) := by
  obtain ⟨i1, z, bytes, hj, hy0, hy1, hy2, hy3, hy4⟩ := appT.info
  cases A with
  | none =>
    obtain ⟨h1, rfl⟩ := hz rfl
    have : l = [] := List.eq_nil_of_length_eq_zero h1
    subst this
    exact ⟨.slice (some ⟨g, 0, none⟩) 0 0, W, by kernel_rfl, hrow, World.grownBy.refl _ _⟩
  | some b =>
    obtain ⟨v', w', hrun, r1, r2, -⟩ := run_append_own (P := Try.prog) W base 30 30 28 i1 z 5 bytes appT.ht hj hy0 hy1 hy2 hy3 (by decide) _ 0 [] hrow b l.length cap (l.flatMap trE) (flat_len trE 5 trE_len l) (holds b rfl) (trE_one l) (by unfold maxLen; omega) (by have := Nat.mul_le_mul (show 0 + l.length ≤ 1000 by omega) hy4; omega) hb
    exact ⟨v', w', hrun, by simpa using r1, r2⟩
theorem app2T (l : List Tr) (t : Tr) (hl : l.length ≤ 1000) (W : World) (base g : Nat) (v : Value) (hrow : W.ownsRow base 28 5 v l.length (l.flatMap trE)) (hb : base ≤ W.heap.size)
    (c0 : W.cell? ⟨g, 0, none⟩ = some (.string t.nm)) (c1 : W.cell? ⟨g, 1, none⟩ = some (.int .i64 t.a)) (c2 : W.cell? ⟨g, 2, none⟩ = some (.int .i64 t.b)) (c3 : W.cell? ⟨g, 3, none⟩ = some (.int .i64 t.c)) (c4 : W.cell? ⟨g, 4, none⟩ = some (.slice t.T t.ts.length t.ct)) :
    ∃ v' w', (Builtin.append_ #[30, 30] 30 #[v, .slice (some ⟨g, 0, none⟩) 1 1]).run Try.prog W = .ok v' w' ∧ (w'.ownsRow base 28 5 v' (l.length + 1) ((l ++ [t]).flatMap trE) ∧ W.grownBy w' v.ownBlock) := by
  obtain ⟨i1, z, bytes, hj, hy0, hy1, hy2, hy3, hy4⟩ := appT.info
  obtain ⟨v', w', hrun, r1, r2, -⟩ := run_append_own (P := Try.prog) W base 30 30 28 i1 z 5 bytes appT.ht hj hy0 hy1 hy2 hy3 (by decide) v l.length (l.flatMap trE) hrow ⟨g, 0, none⟩ 1 1 (trE t) rfl (fun j u hu => by
    rw [add_none]
    have hj' : j < 5 := (List.getElem?_eq_some_iff.1 hu).1
    match j, hj' with
    | 0, _ => simp [trE] at hu; subst hu; exact c0
    | 1, _ => simp [trE] at hu; subst hu; exact c1
    | 2, _ => simp [trE] at hu; subst hu; exact c2
    | 3, _ => simp [trE] at hu; subst hu; exact c3
    | 4, _ => simp [trE] at hu; subst hu; exact c4) (by simp [trE, Value.oneCell']) (by unfold maxLen; omega) (by have := Nat.mul_le_mul (show l.length + 1 ≤ 1001 by omega) hy4; omega) hb
  exact ⟨v', w', hrun, row_snoc (enc := trE) (y := t) r1 rfl, r2⟩
/-- A slice that is nil has no capacity. -/
theorem nil_transits {H : Type} {enc : TypeId × Value → H} {w : World} {A : Option Addr} {n cap : Nat} {d : DataW H} {p : List MemPlace} (h : DataW.Trod enc Try.prog w 0 (fun _ => true) true 30 (.slice A n cap) d p) : A = none → cap = 0 := by
  obtain ⟨fuel, hh⟩ := h
  rcases Go.Deep.open_slice Try.underlying30 hh with ⟨e, _⟩ | ⟨a, len, cap', m, nn, D, Pl, e, _⟩
  · simp [Value.cells] at e
    exact fun _ => e.2.2
  · simp [Value.cells] at e
    intro h; rw [e.1] at h; cases h
end Go.Proofs.Ytbcabckokmjelaa
