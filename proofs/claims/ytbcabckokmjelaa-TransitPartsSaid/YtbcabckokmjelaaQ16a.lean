/-
  The error's reach: plain Lean.
-/
import Derived.Test.YtbcabckokmjelaaQ15
namespace Go.Proofs.Ytbcabckokmjelaa
open Go.RowKit
set_option linter.unusedVariables false
set_option linter.unusedSimpArgs false
def sg (x : Int) : Int := if x < 0 then -1 else 1
def mg (x : Int) : Int := if x < 0 then -x else x
def prN (s t : Sp) : Int := lvOf s * sg s.s * mg t.s - uvOf t * sg t.s * mg s.s
def prD (s t : Sp) : Int := sg s.s * mg t.s - sg t.s * mg s.s
def erZ (r : Rc) (s : Sp) : Rc := if s.s = 0 then askR (askR r s.lo 1) (-s.hi) (-1) else r
def erP (r : Rc) (p : Sp × Sp) : Rc := askR r (prN p.1 p.2) (prD p.1 p.2)
def erR (l : List Sp) : Rc := (pairsOf l).foldl erP (l.foldl erZ r00)
def zA (s : Sp) : List (Int × Int) := if s.s = 0 then [(s.lo, 1), (-s.hi, -1)] else []
def erA (l : List Sp) : List (Int × Int) := l.flatMap zA ++ (pairsOf l).flatMap fun p => [(prN p.1 p.2, prD p.1 p.2)]
theorem erR_asks (l : List Sp) : erR l = asks r00 (erA l) := by
  unfold erR erA
  rw [asks_append, asks_flat zA erZ, asks_flat _ erP]
  · intro r p; rfl
  · intro r s; unfold erZ zA; split <;> rfl
theorem erCh (l : List Sp) : Ch (erA l) (erR l) := by rw [erR_asks]; exact ch_all _
/-- The reference's order. -/
def rrZ (r : Rc) (p : Sp) : Rc := if p.s = 0 then askR (askR r (-p.hi) (-1)) p.lo 1 else r
def rrP (p : Sp) (r : Rc) (q : Sp) : Rc := if p.s ≠ 0 ∧ q.s ≠ 0 then askR r (prN p q) (prD p q) else r
def rrRow (l : List Sp) (r : Rc) (p : Sp) : Rc := l.foldl (rrP p) (rrZ r p)
def rrR (l : List Sp) : Rc := l.foldl (rrRow l) r00
def z2 (s : Sp) : List (Int × Int) := if s.s = 0 then [(-s.hi, -1), (s.lo, 1)] else []
def q2 (p q : Sp) : List (Int × Int) := if p.s ≠ 0 ∧ q.s ≠ 0 then [(prN p q, prD p q)] else []
def rrA (l : List Sp) : List (Int × Int) := l.flatMap fun p => z2 p ++ l.flatMap (q2 p)
theorem rrR_asks (l : List Sp) : rrR l = asks r00 (rrA l) := by
  unfold rrR rrA
  refine asks_flat _ _ (fun r p => ?_) l r00
  unfold rrRow
  rw [asks_append, asks_flat (q2 p) (rrP p) (fun r q => by unfold rrP q2; split <;> rfl)]
  congr 1
  unfold rrZ z2; split <;> rfl
theorem rrCh (l : List Sp) : Ch (rrA l) (rrR l) := by rw [rrR_asks]; exact ch_all _
theorem mem_er {l : List Sp} {a : Int × Int} : a ∈ erA l ↔ (∃ s ∈ l, s.s = 0 ∧ (a = (s.lo, 1) ∨ a = (-s.hi, -1))) ∨ ∃ s ∈ l, ∃ t ∈ l, s.s ≠ 0 ∧ t.s ≠ 0 ∧ a = (prN s t, prD s t) := by
  unfold erA pairsOf rowP
  constructor
  · intro h
    rcases List.mem_append.1 h with h | h
    · obtain ⟨s, hs, h⟩ := List.mem_flatMap.1 h
      unfold zA at h
      split at h
      · rename_i h0; exact .inl ⟨s, hs, h0, by simpa using h⟩
      · simp at h
    · obtain ⟨p, hp, h⟩ := List.mem_flatMap.1 h
      obtain ⟨s, hs, hp⟩ := List.mem_flatMap.1 hp
      obtain ⟨t, ht, hp⟩ := List.mem_flatMap.1 hp
      unfold cellP at hp
      split at hp
      · rename_i h0
        simp at hp
        subst hp
        exact .inr ⟨s, hs, t, ht, h0.1, h0.2, by simpa using h⟩
      · simp at hp
  · rintro (⟨s, hs, h0, h⟩ | ⟨s, hs, t, ht, h1, h2, h⟩)
    · refine List.mem_append.2 (.inl (List.mem_flatMap.2 ⟨s, hs, ?_⟩))
      unfold zA; rw [if_pos h0]; simpa using h
    · refine List.mem_append.2 (.inr (List.mem_flatMap.2 ⟨(s, t), List.mem_flatMap.2 ⟨s, hs, List.mem_flatMap.2 ⟨t, ht, ?_⟩⟩, ?_⟩))
      · unfold cellP; rw [if_pos ⟨h1, h2⟩]; simp
      · simpa using h
theorem mem_rr {l : List Sp} {a : Int × Int} : a ∈ rrA l ↔ (∃ s ∈ l, s.s = 0 ∧ (a = (s.lo, 1) ∨ a = (-s.hi, -1))) ∨ ∃ s ∈ l, ∃ t ∈ l, s.s ≠ 0 ∧ t.s ≠ 0 ∧ a = (prN s t, prD s t) := by
  unfold rrA
  constructor
  · intro h
    obtain ⟨s, hs, h⟩ := List.mem_flatMap.1 h
    rcases List.mem_append.1 h with h | h
    · unfold z2 at h
      split at h
      · rename_i h0
        refine .inl ⟨s, hs, h0, ?_⟩
        simp at h
        rcases h with h | h
        · exact .inr h
        · exact .inl h
      · simp at h
    · obtain ⟨t, ht, h⟩ := List.mem_flatMap.1 h
      unfold q2 at h
      split at h
      · rename_i h0; exact .inr ⟨s, hs, t, ht, h0.1, h0.2, by simpa using h⟩
      · simp at h
  · rintro (⟨s, hs, h0, h⟩ | ⟨s, hs, t, ht, h1, h2, h⟩)
    · refine List.mem_flatMap.2 ⟨s, hs, List.mem_append.2 (.inl ?_)⟩
      unfold z2; rw [if_pos h0]
      simp
      rcases h with h | h
      · exact .inr h
      · exact .inl h
    · refine List.mem_flatMap.2 ⟨s, hs, List.mem_append.2 (.inr (List.mem_flatMap.2 ⟨t, ht, ?_⟩))⟩
      unfold q2; rw [if_pos ⟨h1, h2⟩]; simpa using h
theorem coprime_unique {a b c d : Int} (h1 : gcdI a b = 1) (h2 : gcdI c d = 1) (hb : 0 < b) (hd : 0 < d) (e : a * d = c * b) : a = c ∧ b = d := by
  unfold gcdI at h1 h2
  have g1 : Int.gcd a b = 1 := by omega
  have g2 : Int.gcd c d = 1 := by omega
  have d1 : b ∣ d := by
    have h := (Int.dvd_gcd_mul_iff_dvd_mul (k := b) (n := a) (m := d)).2 ⟨c, by rw [e, Int.mul_comm]⟩
    rw [Int.gcd_comm, g1] at h; simpa using h
  have d2 : d ∣ b := by
    have h := (Int.dvd_gcd_mul_iff_dvd_mul (k := d) (n := c) (m := b)).2 ⟨a, by rw [← e, Int.mul_comm]⟩
    rw [Int.gcd_comm, g2] at h; simpa using h
  have hbd : b = d := Int.le_antisymm (Int.le_of_dvd hd d1) (Int.le_of_dvd hb d2)
  subst hbd
  exact ⟨Int.eq_of_mul_eq_mul_right (by omega) e, rfl⟩
theorem red_one {n d : Int} (hd : 0 < d) : gcdI (redN n d) (redD n d) = 1 ∧ 0 < redD n d := by
  have hm := red_mul (n := n) (d := d) (by omega)
  have hg : redG n d = gcdI n d := by unfold redG; rw [if_neg (by omega)]
  have hp : 0 < gcdI n d := gcdI_pos (by omega)
  rw [hg] at hm
  constructor
  · have e : gcdI n d = gcdI (redN n d) (redD n d) * gcdI n d := by
      have h1 : Int.gcd (redN n d * gcdI n d) (redD n d * gcdI n d) = Int.gcd (redN n d) (redD n d) * (gcdI n d).natAbs := Int.gcd_mul_right ..
      rw [hm.1, hm.2] at h1
      have h2 : ((Int.gcd n d : Nat) : Int) = (Int.gcd (redN n d) (redD n d) : Nat) * ((gcdI n d).natAbs : Nat) := by rw [h1]; simp
      rw [Int.natAbs_of_nonneg (by omega)] at h2
      exact h2
    have e2 : 1 * gcdI n d = gcdI (redN n d) (redD n d) * gcdI n d := by rw [Int.one_mul]; exact e
    exact (Int.eq_of_mul_eq_mul_right (by omega) e2).symm
  · rcases Int.lt_or_le 0 (redD n d) with h | h
    · exact h
    · have := Int.mul_nonpos_of_nonpos_of_nonneg h (by omega : 0 ≤ gcdI n d)
      omega
theorem lowR_eq {n1 d1 n2 d2 : Int} (h1 : 0 < d1) (h2 : 0 < d2) (e : n1 * d2 = n2 * d1) : lowR n1 d1 = lowR n2 d2 := by
  obtain ⟨a1, a2⟩ := red_one (n := n1) h1
  obtain ⟨b1, b2⟩ := red_one (n := n2) h2
  have c1 := red_cross (n := n1) (d := d1) (by omega)
  have c2 := red_cross (n := n2) (d := d2) (by omega)
  have hx : redN n1 d1 * redD n2 d2 = redN n2 d2 * redD n1 d1 := by
    have : (redN n1 d1 * redD n2 d2) * (d1 * d2) = (redN n2 d2 * redD n1 d1) * (d1 * d2) := by
      calc (redN n1 d1 * redD n2 d2) * (d1 * d2) = (redN n1 d1 * d1) * (redD n2 d2 * d2) := by ac_rfl
        _ = (n1 * redD n1 d1) * (redD n2 d2 * d2) := by rw [c1]
        _ = (n1 * d2) * (redD n1 d1 * redD n2 d2) := by ac_rfl
        _ = (n2 * d1) * (redD n1 d1 * redD n2 d2) := by rw [e]
        _ = (n2 * redD n2 d2) * (redD n1 d1 * d1) := by ac_rfl
        _ = (redN n2 d2 * d2) * (redD n1 d1 * d1) := by rw [c2]
        _ = (redN n2 d2 * redD n1 d1) * (d1 * d2) := by ac_rfl
    exact Int.eq_of_mul_eq_mul_right (by have := Int.mul_pos h1 h2; omega) this
  obtain ⟨u1, u2⟩ := coprime_unique a1 b1 a2 b2 hx
  unfold lowR
  rw [u1, u2]
theorem ch_lo {l m : List (Int × Int)} {r s : Rc} (h : Ch l r) (k : Ch m s) (hm : ∀ a, a ∈ l ↔ a ∈ m) : (r.lo.d = 0 ↔ s.lo.d = 0) ∧ (r.lo.d ≠ 0 → r.lo.n * s.lo.d = s.lo.n * r.lo.d) := by
  have z : r.lo.d = 0 ↔ s.lo.d = 0 := by
    constructor
    · intro h0
      rcases Decidable.em (s.lo.d = 0) with e | e
      · exact e
      · obtain ⟨a, ha, hp, -⟩ := k.loM e
        have := h.lo0 h0 a ((hm a).2 ha); omega
    · intro h0
      rcases Decidable.em (r.lo.d = 0) with e | e
      · exact e
      · obtain ⟨a, ha, hp, -⟩ := h.loM e
        have := k.lo0 h0 a ((hm a).1 ha); omega
  refine ⟨z, fun h0 => ?_⟩
  obtain ⟨a, ha, hp, ea⟩ := h.loM h0
  obtain ⟨b, hb, hq, eb⟩ := k.loM (fun e => h0 (z.2 e))
  have e1 := h.lo b ((hm b).2 hb) hq
  have e2 := k.lo a ((hm a).1 ha) hp
  rw [ea, eb] at *
  simp only at *
  omega
theorem ch_hi {l m : List (Int × Int)} {r s : Rc} (h : Ch l r) (k : Ch m s) (hm : ∀ a, a ∈ l ↔ a ∈ m) : (r.hi.d = 0 ↔ s.hi.d = 0) ∧ (r.hi.d ≠ 0 → r.hi.n * s.hi.d = s.hi.n * r.hi.d) := by
  have z : r.hi.d = 0 ↔ s.hi.d = 0 := by
    constructor
    · intro h0
      rcases Decidable.em (s.hi.d = 0) with e | e
      · exact e
      · obtain ⟨a, ha, hp, -⟩ := k.hiM e
        have := h.hi0 h0 a ((hm a).2 ha); omega
    · intro h0
      rcases Decidable.em (r.hi.d = 0) with e | e
      · exact e
      · obtain ⟨a, ha, hp, -⟩ := h.hiM e
        have := k.hi0 h0 a ((hm a).1 ha); omega
  refine ⟨z, fun h0 => ?_⟩
  obtain ⟨a, ha, hp, ea⟩ := h.hiM h0
  obtain ⟨b, hb, hq, eb⟩ := k.hiM (fun e => h0 (z.2 e))
  have e1 := h.hi b ((hm b).2 hb) hq
  have e2 := k.hi a ((hm a).1 ha) hp
  rw [ea, eb] at *
  simp only at *
  omega
theorem tl0_eq {l m : List (Int × Int)} {r s : Rc} (h : Ch l r) (k : Ch m s) (hm : ∀ a, a ∈ l ↔ a ∈ m) : tl0 r = tl0 s := by
  obtain ⟨z1, c1⟩ := ch_lo h k hm
  obtain ⟨z2, c2⟩ := ch_hi h k hm
  unfold tl0
  by_cases h0 : r.lo.d = 0 ∨ r.hi.d = 0
  · rw [if_pos h0, if_pos (by rw [z1, z2] at h0; exact h0)]
  · have h0' : ¬ (s.lo.d = 0 ∨ s.hi.d = 0) := by rw [← z1, ← z2]; exact h0
    rw [if_neg h0, if_neg h0']
    have := h.dlo; have := h.dhi; have := k.dlo; have := k.dhi
    rw [lowR_eq (n1 := r.lo.n) (d1 := r.lo.d) (n2 := s.lo.n) (d2 := s.lo.d) (by omega) (by omega) (c1 (by omega)), lowR_eq (n1 := r.hi.n) (d1 := r.hi.d) (n2 := s.hi.n) (d2 := s.hi.d) (by omega) (by omega) (c2 (by omega))]
theorem rr_tell (l : List Sp) : tl0 (rrR l) = tl0 (erR l) := tl0_eq (rrCh l) (erCh l) fun a => by rw [mem_er, mem_rr]
end Go.Proofs.Ytbcabckokmjelaa
