/-
  Fractions of span and of its reference, as this seat needs them. Printed by gen_sp.py.
-/
import Derived.Test.YtbcabckokmjelaaPre
import Derived.Test.YtbcabckokmjelaaPre2
import Derived.Test.YtbcabckokmjelaaTypes
import Derived.Test.YtbcabckokmjelaaQt
import Derived.BigQuiet
import Derived.Deep.QuietTactic
import Derived.IntWalk
import Derived.Outline
import Derived.Deep.DeepCutAuto
import Derived.RegionTactic
import Derived.BigRegion
namespace Go.Proofs.Ytbcabckokmjelaa
open Go.RowKit Go.Deep
set_option linter.unusedVariables false
set_option linter.unusedSimpArgs false
def gcdI (a b : Int) : Int := (Int.gcd a b : Nat)
theorem gcdI_zero (a : Int) : gcdI a 0 = if a < 0 then -a else a := by
  unfold gcdI; rw [Int.gcd_zero]; split <;> omega
theorem gcdI_step (a b : Int) : gcdI b (a.tmod b) = gcdI a b := by
  unfold gcdI Int.gcd; rw [Int.natAbs_tmod, Nat.gcd_comm b.natAbs, ← Nat.gcd_rec, Nat.gcd_comm]
theorem tmod_bd (a b : Int) (hb : b ≠ 0) : -(b.natAbs : Int) < a.tmod b ∧ a.tmod b < b.natAbs := by
  have h := Int.natAbs_tmod a b
  have := Nat.mod_lt a.natAbs (show 0 < b.natAbs by omega)
  omega
theorem gcdI_pos {a b : Int} (h : b ≠ 0) : 0 < gcdI a b := by
  unfold gcdI; have := Int.gcd_pos_of_ne_zero_right a h; omega
theorem gcdI_le {a b : Int} (h : b ≠ 0) : gcdI a b ≤ b.natAbs := by
  unfold gcdI; have := Int.gcd_le_natAbs_right a h; omega
theorem gcd_dvd (a b : Int) : gcdI a b ∣ a ∧ gcdI a b ∣ b := ⟨Int.gcd_dvd_left .., Int.gcd_dvd_right ..⟩
def okRat (n d : Int) : Bool := decide (1 ≤ d) && (decide (d ≤ 1000000000) && (decide (-1000000000 ≤ n) && (decide (n ≤ 1000000000) && decide (gcdI n d = 1))))
theorem okRat_true {n d : Int} (h : okRat n d = true) : 1 ≤ d ∧ d ≤ 1000000000 ∧ -1000000000 ≤ n ∧ n ≤ 1000000000 ∧ gcdI n d = 1 := by
  simpa [okRat] using h
theorem okRat_unique {a b c d : Int} (h : okRat a b = true) (k : okRat c d = true) (e : a * d = c * b) : a = c ∧ b = d := by
  obtain ⟨h1, h2, h3, h4, h5⟩ := okRat_true h
  obtain ⟨k1, k2, k3, k4, k5⟩ := okRat_true k
  have g1 : Int.gcd a b = 1 := by unfold gcdI at h5; omega
  have g2 : Int.gcd c d = 1 := by unfold gcdI at k5; omega
  have d1 : b ∣ d := by
    have h := (Int.dvd_gcd_mul_iff_dvd_mul (k := b) (n := a) (m := d)).2 ⟨c, by rw [e, Int.mul_comm]⟩
    rw [Int.gcd_comm, g1] at h; simpa using h
  have d2 : d ∣ b := by
    have h := (Int.dvd_gcd_mul_iff_dvd_mul (k := d) (n := c) (m := b)).2 ⟨a, by rw [← e, Int.mul_comm]⟩
    rw [Int.gcd_comm, g2] at h; simpa using h
  have hbd : b = d := Int.le_antisymm (Int.le_of_dvd (by omega) d1) (Int.le_of_dvd (by omega) d2)
  subst hbd
  exact ⟨Int.eq_of_mul_eq_mul_right (by omega) e, rfl⟩
def redG (n d : Int) : Int := if d < 0 then -gcdI n d else gcdI n d
def redN (n d : Int) : Int := n.tdiv (redG n d)
def redD (n d : Int) : Int := d.tdiv (redG n d)
theorem redG_ne {n d : Int} (hd : d ≠ 0) : redG n d ≠ 0 := by
  have := gcdI_pos (a := n) hd
  unfold redG; split <;> omega
theorem redG_dvd (n d : Int) : redG n d ∣ n ∧ redG n d ∣ d := by
  have := gcd_dvd n d
  unfold redG; split
  · exact ⟨Int.neg_dvd.2 this.1, Int.neg_dvd.2 this.2⟩
  · exact this
theorem red_mul {n d : Int} (hd : d ≠ 0) : redN n d * redG n d = n ∧ redD n d * redG n d = d := by
  obtain ⟨h1, h2⟩ := redG_dvd n d
  exact ⟨Int.tdiv_mul_cancel h1, Int.tdiv_mul_cancel h2⟩
theorem red_cross {n d : Int} (hd : d ≠ 0) : redN n d * d = n * redD n d := by
  obtain ⟨h1, h2⟩ := red_mul (n := n) hd
  generalize redN n d = x at *
  generalize redD n d = y at *
  generalize redG n d = g at *
  subst h1; subst h2
  grind
theorem assoc3 {aN aD bN bD cN cD p q r s x y u v : Int} (hq : q ≠ 0) (hs : s ≠ 0) (ha : aD ≠ 0) (hb : bD ≠ 0) (hc : cD ≠ 0) (h1 : p * (aD * bD) = (aN * bD + bN * aD) * q) (h2 : r * (bD * cD) = (bN * cD + cN * bD) * s)
  (h3 : x * (q * cD) = (p * cD + cN * q) * y) (h4 : u * (aD * s) = (aN * s + r * aD) * v) : x * v = u * y := by
  have e1 : x * (aD * bD * cD) * q = ((aN * bD + bN * aD) * cD + cN * (aD * bD)) * y * q := by grind
  have e2 : u * (aD * bD * cD) * s = ((bN * cD + cN * bD) * aD + aN * (bD * cD)) * v * s := by grind
  have e1 := Int.eq_of_mul_eq_mul_right hq e1
  have e2 := Int.eq_of_mul_eq_mul_right hs e2
  have hm : aD * bD * cD ≠ 0 := Int.mul_ne_zero (Int.mul_ne_zero ha hb) hc
  apply Int.eq_of_mul_eq_mul_right hm
  grind
theorem distr {aN aD bN bD cN cD p q r s t o x y u v : Int} (hq : q ≠ 0) (hs : s ≠ 0) (ho : o ≠ 0) (ha : aD ≠ 0) (hb : bD ≠ 0) (hc : cD ≠ 0) (h1 : p * (aD * bD) = (aN * bD + bN * aD) * q) (h2 : r * (aD * cD) = (aN * cN) * s) (h5 : t * (bD * cD) = (bN * cN) * o)
  (h3 : x * (q * cD) = (p * cN) * y) (h4 : u * (s * o) = (r * o + t * s) * v) : x * v = u * y := by
  have e1 : x * (aD * bD * cD) * q = (aN * bD + bN * aD) * cN * y * q := by grind
  have e2 : u * (aD * bD * cD) * cD * (s * o) = (aN * bD + bN * aD) * cN * cD * v * (s * o) := by grind
  have e1 := Int.eq_of_mul_eq_mul_right hq e1
  have e2 := Int.eq_of_mul_eq_mul_right (Int.mul_ne_zero hs ho) e2
  have hm : aD * bD * cD * cD ≠ 0 := Int.mul_ne_zero (Int.mul_ne_zero (Int.mul_ne_zero ha hb) hc) hc
  apply Int.eq_of_mul_eq_mul_right hm
  grind

def retV (r : Int × Int × Int) : Value := .tuple #[.agg #[.int .i64 r.1, .int .i64 r.2.1], .int .i64 r.2.2]
def Fit (a : Int) : Prop := -4000000000000000000 ≤ a ∧ a ≤ 4000000000000000000
theorem fit_tmod {a b : Int} (h : b ≠ 0) (hb : Fit b) : Fit (a.tmod b) := by
  have := tmod_bd a b h
  unfold Fit at *
  omega
theorem gcdI_end (a : Int) : gcdI a 0 = max a (-a) := by rw [gcdI_zero]; split <;> omega
theorem divisor_c (a b : Int) (ha : Fit a) (hb : Fit b) (w : World) : Calls Try.prog 102 #[.int .i64 a, .int .i64 b] w fun e w' => e = .returned (.int .i64 (gcdI a b)) ∧ Below w.heap.size w w' := by
  go_enter Try.func102, Try.ntmps102
  go_wp2
  go_loopw [0, 1] (fun x y wr => ∃ p q : Int, x = .int .i64 p ∧ y = .int .i64 q ∧ Fit p ∧ Fit q ∧ gcdI a b = gcdI p q ∧ Below w.heap.size w wr) (fun _ y _ => (intOf y).natAbs)
  case atStart => exact ⟨a, b, rfl, rfl, ha, hb, rfl, by (repeat (first | exact Below.refl _ _ | refine Below.drew ?_ | refine Below.allocS ?_ _ | refine Below.step ?_ (by assumption) | refine Below.setCell ?_ (by simp <;> omega) _ | refine Below.drewN' ?_ _))⟩
  case round =>
    obtain ⟨p, q, rfl, rfl, h1, h2, hg, hbw⟩ := hrel
    by_cases hq : q = 0
    · subst hq
      rw [gcdI_end] at hg
      unfold Fit at h1
      go_wp2
      all_goals
        refine bodyPost_ret (v := .int .i64 (max p (-p))) (by simp [results, Try.results102, go_sem, *] <;> (repeat' apply And.intro) <;> (first | rfl | omega)) rfl ⟨rfl, ?_⟩
        (repeat (first | (with_reducible exact Below.refl _ _) | (with_reducible assumption) | (with_reducible refine Below.drew ?_) | (with_reducible refine Below.allocS ?_ _) | (with_reducible refine Below.setCell ?_ ?_ _) | (with_reducible refine Below.step ?_ (by assumption)) | (with_reducible refine Below.drewN' ?_ _))); (try any_goals (first | (with_reducible assumption) | (simp; done) | (simp; omega) | omega))
    · have hm := tmod_bd p q hq
      have hf := fit_tmod (a := p) hq h2
      have hs := gcdI_step p q
      unfold Fit at h1
      have h2' := h2
      unfold Fit at h2'
      go_wp2
      go_quiet (fail)
      go_roundw
      case rel =>
        (repeat apply Exists.intro)
        exact ⟨⟨q, p.tmod q, rfl, rfl, h2, hf, by rw [hg, hs], by (repeat (first | (with_reducible exact Below.refl _ _) | (with_reducible assumption) | (with_reducible refine Below.drew ?_) | (with_reducible refine Below.allocS ?_ _) | (with_reducible refine Below.setCell ?_ ?_ _) | (with_reducible refine Below.step ?_ (by assumption)) | (with_reducible refine Below.drewN' ?_ _))); (try any_goals (first | (with_reducible assumption) | (simp; done) | (simp; omega) | omega))⟩, rfl⟩
      case measure => show (p.tmod q).natAbs < q.natAbs; omega
theorem rdivisor_c (a b : Int) (ha : Fit a) (hb : Fit b) (w : World) : Calls Try.prog 109 #[.int .i64 a, .int .i64 b] w fun e w' => e = .returned (.int .i64 (gcdI a b)) ∧ Below w.heap.size w w' := by
  have ha' := ha
  have hb' := hb
  unfold Fit at ha' hb'
  obtain ⟨A, hA, ha0, hgA⟩ : ∃ A : Int, A = max a (-a) ∧ 0 ≤ A ∧ True := ⟨_, rfl, by omega, trivial⟩
  obtain ⟨B, hB, hb0, hgB⟩ : ∃ B : Int, B = max b (-b) ∧ 0 ≤ B ∧ gcdI a b = gcdI A B := by
    refine ⟨_, rfl, by omega, ?_⟩
    rw [hA]
    unfold gcdI Int.gcd
    congr 2 <;> omega
  go_enter Try.func109, Try.ntmps109
  have hA' : Fit A := by unfold Fit; omega
  have hB' : Fit B := by unfold Fit; omega
  go_wp2
  all_goals
    go_loopw [0, 1] (fun x y wr => ∃ p q : Int, x = .int .i64 p ∧ y = .int .i64 q ∧ 0 ≤ p ∧ 0 ≤ q ∧ Fit p ∧ Fit q ∧ gcdI a b = gcdI p q ∧ Below w.heap.size w wr) (fun _ y _ => (intOf y).natAbs)
    case atStart => exact ⟨A, B, by congr 1; omega, by congr 1; omega, ha0, hb0, hA', hB', hgB, by (repeat (first | exact Below.refl _ _ | refine Below.drew ?_ | refine Below.allocS ?_ _ | refine Below.step ?_ (by assumption) | refine Below.setCell ?_ (by simp <;> omega) _ | refine Below.drewN' ?_ _))⟩
    case round =>
      obtain ⟨p, q, rfl, rfl, hp0, hq0, h1, h2, hg, hbw⟩ := hrel
      by_cases hq : q = 0
      · subst hq
        rw [gcdI_end] at hg
        have hmx : max p (-p) = p := by omega
        rw [hmx] at hg
        go_wp2
        refine bodyPost_ret (v := .int .i64 p) (by simp [results, Try.results109, go_sem, *]) rfl ⟨(by first | rfl | rw [hg]), ?_⟩
        (repeat (first | (with_reducible exact Below.refl _ _) | (with_reducible assumption) | (with_reducible refine Below.drew ?_) | (with_reducible refine Below.allocS ?_ _) | (with_reducible refine Below.setCell ?_ ?_ _) | (with_reducible refine Below.step ?_ (by assumption)) | (with_reducible refine Below.drewN' ?_ _))); (try any_goals (first | (with_reducible assumption) | (simp; done) | (simp; omega) | omega))
      · have hm := tmod_bd p q hq
        have hf := fit_tmod (a := p) hq h2
        have hs := gcdI_step p q
        have hn : 0 ≤ p.tmod q := Int.tmod_nonneg _ hp0
        have ht : p.tmod q = p % q := Int.tmod_eq_emod_of_nonneg hp0
        rw [ht] at hm hf hs hn
        clear ht
        unfold Fit at h1
        have h2' := h2
        unfold Fit at h2'
        go_wp2
        go_quiet (fail)
        go_roundw
        case rel =>
          (repeat apply Exists.intro)
          exact ⟨⟨q, p % q, rfl, rfl, hq0, hn, h2, hf, by rw [hg, hs], by (repeat (first | (with_reducible exact Below.refl _ _) | (with_reducible assumption) | (with_reducible refine Below.drew ?_) | (with_reducible refine Below.allocS ?_ _) | (with_reducible refine Below.setCell ?_ ?_ _) | (with_reducible refine Below.step ?_ (by assumption)) | (with_reducible refine Below.drewN' ?_ _))); (try any_goals (first | (with_reducible assumption) | (simp; done) | (simp; omega) | omega))⟩, rfl⟩
        case measure => show (p % q).natAbs < q.natAbs; omega
theorem within1_c (n lo hi : Int) (w : World) : Calls Try.prog 108 #[.int .i64 n, .int .i64 lo, .int .i64 hi] w fun e w' => e = .returned (.bool (decide (lo ≤ n) && decide (n ≤ hi))) ∧ w' = w := by
  by_cases h1 : lo ≤ n
  · by_cases h2 : n ≤ hi
    · simp only [decide_eq_true h1, decide_eq_true h2, Bool.and_self]
      go_enter Try.func108, Try.ntmps108
      go_wp2
      go_ret
      exact ⟨(by first | rfl | (simp; done) | (simp; omega) | (simp [*]; done)), rfl⟩
    · simp only [decide_eq_true h1, decide_eq_false h2, Bool.and_false]
      go_enter Try.func108, Try.ntmps108
      go_wp2
      go_ret
      exact ⟨(by first | rfl | (simp; done) | (simp; omega) | (simp [*]; done)), rfl⟩
  · simp only [decide_eq_false h1, Bool.false_and]
    go_enter Try.func108, Try.ntmps108
    go_wp2
    go_ret
    exact ⟨(by first | rfl | (simp; done) | (simp; omega) | (simp [*]; done)), rfl⟩
theorem rat_cases (n d : Int) : (okRat n d = false ∧ (d < 1 ∨ 1 ≤ d ∧ (1000000000 < d ∨ d ≤ 1000000000 ∧ (n < -1000000000 ∨ -1000000000 ≤ n ∧ 1000000000 < n)))) ∨ (okRat n d = decide (gcdI n d = 1) ∧ 1 ≤ d ∧ d ≤ 1000000000 ∧ -1000000000 ≤ n ∧ n ≤ 1000000000) := by
  unfold okRat
  by_cases h1 : 1 ≤ d
  · by_cases h2 : d ≤ 1000000000
    · by_cases h3 : -1000000000 ≤ n
      · by_cases h4 : n ≤ 1000000000
        · exact Or.inr ⟨by simp [h1, h2, h3, h4], h1, h2, h3, h4⟩
        · exact Or.inl ⟨by simp [h4], by omega⟩
      · exact Or.inl ⟨by simp [h3], by omega⟩
    · exact Or.inl ⟨by simp [h2], by omega⟩
  · exact Or.inl ⟨by simp [h1], by omega⟩
theorem ValidRatio_c (n d : Int) (w : World) : Calls Try.prog 79 #[.agg #[.int .i64 n, .int .i64 d]] w fun e w' => e = .returned (.bool (okRat n d)) ∧ Below w.heap.size w w' := by
  rcases rat_cases n d with ⟨h, h1 | ⟨h1, h2 | ⟨h2, h3 | ⟨h3, h4⟩⟩⟩⟩ | ⟨h, h1, h2, h3, h4⟩
  · rw [h]
    clear h
    go_enter Try.func79, Try.ntmps79
    go_wp2
    go_ret
    exact ⟨(by first | rfl | (simp; done) | (simp; omega) | (simp [*]; done)), by (repeat (first | (with_reducible exact Below.refl _ _) | (with_reducible assumption) | (with_reducible refine Below.drew ?_) | (with_reducible refine Below.allocS ?_ _) | (with_reducible refine Below.setCell ?_ ?_ _) | (with_reducible refine Below.step ?_ (by assumption)) | (with_reducible refine Below.drewN' ?_ _))); (try any_goals (first | (with_reducible assumption) | (simp; done) | (simp; omega) | omega))⟩
  · rw [h]
    clear h
    go_enter Try.func79, Try.ntmps79
    go_wp2
    go_ret
    exact ⟨(by first | rfl | (simp; done) | (simp; omega) | (simp [*]; done)), by (repeat (first | (with_reducible exact Below.refl _ _) | (with_reducible assumption) | (with_reducible refine Below.drew ?_) | (with_reducible refine Below.allocS ?_ _) | (with_reducible refine Below.setCell ?_ ?_ _) | (with_reducible refine Below.step ?_ (by assumption)) | (with_reducible refine Below.drewN' ?_ _))); (try any_goals (first | (with_reducible assumption) | (simp; done) | (simp; omega) | omega))⟩
  · rw [h]
    clear h
    go_enter Try.func79, Try.ntmps79
    go_wp2
    go_ret
    exact ⟨(by first | rfl | (simp; done) | (simp; omega) | (simp [*]; done)), by (repeat (first | (with_reducible exact Below.refl _ _) | (with_reducible assumption) | (with_reducible refine Below.drew ?_) | (with_reducible refine Below.allocS ?_ _) | (with_reducible refine Below.setCell ?_ ?_ _) | (with_reducible refine Below.step ?_ (by assumption)) | (with_reducible refine Below.drewN' ?_ _))); (try any_goals (first | (with_reducible assumption) | (simp; done) | (simp; omega) | omega))⟩
  · rw [h]
    clear h
    go_enter Try.func79, Try.ntmps79
    go_wp2
    go_ret
    exact ⟨(by first | rfl | (simp; done) | (simp; omega) | (simp [*]; done)), by (repeat (first | (with_reducible exact Below.refl _ _) | (with_reducible assumption) | (with_reducible refine Below.drew ?_) | (with_reducible refine Below.allocS ?_ _) | (with_reducible refine Below.setCell ?_ ?_ _) | (with_reducible refine Below.step ?_ (by assumption)) | (with_reducible refine Below.drewN' ?_ _))); (try any_goals (first | (with_reducible assumption) | (simp; done) | (simp; omega) | omega))⟩
  · rw [h]
    clear h
    have HD := Lib.hid (fun W => divisor_c n d ⟨by omega, by omega⟩ ⟨by omega, by omega⟩ W)
    obtain ⟨g, hg⟩ : ∃ g, gcdI n d = g := ⟨_, rfl⟩
    rw [hg] at HD ⊢
    clear hg
    go_enter Try.func79, Try.ntmps79
    go_wp2_with fail
    refine (HD.out _).mono ?_
    rintro e w1 ⟨rfl, hb1⟩
    have x1_0_0 : w1.cell? ⟨w.heap.size, 0, none⟩ = some (.int .i64 n) := keep_cell hb1 (by simp [go_sem, *])
    have f1_0_0 : w1.frozen? ⟨w.heap.size, 0, none⟩ = false := keep_frozen hb1 (by first | omega | (simp <;> omega)) (by simp [go_sem, *])
    have x1_0_1 : w1.cell? ⟨w.heap.size, 1, none⟩ = some (.int .i64 d) := keep_cell hb1 (by simp [go_sem, *])
    have f1_0_1 : w1.frozen? ⟨w.heap.size, 1, none⟩ = false := keep_frozen hb1 (by first | omega | (simp <;> omega)) (by simp [go_sem, *])
    have y1_0 : w.heap.size < w1.heap.size := cell?_lt x1_0_0
    have g1 : Below w.heap.size w w1 := by (repeat (first | exact Below.refl _ _ | refine Below.drew ?_ | refine Below.allocS ?_ _ | refine Below.step ?_ (by assumption) | refine Below.setCell ?_ (by simp <;> omega) _ | refine Below.drewN' ?_ _))
    clear hb1
    go_wp2
    go_ret
    exact ⟨(by first | rfl | (simp; done) | (simp; omega) | (simp [*]; done)), by (repeat (first | (with_reducible exact Below.refl _ _) | (with_reducible assumption) | (with_reducible refine Below.drew ?_) | (with_reducible refine Below.allocS ?_ _) | (with_reducible refine Below.setCell ?_ ?_ _) | (with_reducible refine Below.step ?_ (by assumption)) | (with_reducible refine Below.drewN' ?_ _))); (try any_goals (first | (with_reducible assumption) | (simp; done) | (simp; omega) | omega))⟩
theorem rValidRatio_c (n d : Int) (w : World) : Calls Try.prog 84 #[.agg #[.int .i64 n, .int .i64 d]] w fun e w' => e = .returned (.bool (okRat n d)) ∧ Below w.heap.size w w' := by
  have HW := Lib.hid (fun W => within1_c d 1 1000000000 W)
  have HX := Lib.hid (fun W => within1_c n (-1000000000) 1000000000 W)
  by_cases h1 : 1 ≤ d ∧ d ≤ 1000000000
  · rw [show (decide (1 ≤ d) && decide (d ≤ 1000000000)) = true from by simp [h1]] at HW
    by_cases h2 : -1000000000 ≤ n ∧ n ≤ 1000000000
    · rw [show (decide (-1000000000 ≤ n) && decide (n ≤ 1000000000)) = true from by simp [h2]] at HX
      have HD := Lib.hid (fun W => rdivisor_c n d ⟨by omega, by omega⟩ ⟨by omega, by omega⟩ W)
      rw [show okRat n d = decide (gcdI n d = 1) from by simp [okRat, h1, h2]]
      obtain ⟨g, hg⟩ : ∃ g, gcdI n d = g := ⟨_, rfl⟩
      rw [hg] at HD ⊢
      clear hg
      go_enter Try.func84, Try.ntmps84
      go_wp2_with fail
      refine (HW.out _).mono ?_
      rintro e w' ⟨rfl, rfl⟩
      go_wp2_with fail
      refine (HX.out _).mono ?_
      rintro e w' ⟨rfl, rfl⟩
      go_wp2_with fail
      refine (HD.out _).mono ?_
      rintro e w3 ⟨rfl, hb3⟩
      have x3_0_0 : w3.cell? ⟨w.heap.size, 0, none⟩ = some (.int .i64 n) := keep_cell hb3 (by simp [go_sem, *])
      have f3_0_0 : w3.frozen? ⟨w.heap.size, 0, none⟩ = false := keep_frozen hb3 (by first | omega | (simp <;> omega)) (by simp [go_sem, *])
      have x3_0_1 : w3.cell? ⟨w.heap.size, 1, none⟩ = some (.int .i64 d) := keep_cell hb3 (by simp [go_sem, *])
      have f3_0_1 : w3.frozen? ⟨w.heap.size, 1, none⟩ = false := keep_frozen hb3 (by first | omega | (simp <;> omega)) (by simp [go_sem, *])
      have y3_0 : w.heap.size < w3.heap.size := cell?_lt x3_0_0
      have g3 : Below w.heap.size w w3 := by (repeat (first | exact Below.refl _ _ | refine Below.drew ?_ | refine Below.allocS ?_ _ | refine Below.step ?_ (by assumption) | refine Below.setCell ?_ (by simp <;> omega) _ | refine Below.drewN' ?_ _))
      clear hb3
      go_wp2
      go_ret
      exact ⟨(by first | rfl | (simp; done) | (simp; omega) | (simp [*]; done)), by (repeat (first | (with_reducible exact Below.refl _ _) | (with_reducible assumption) | (with_reducible refine Below.drew ?_) | (with_reducible refine Below.allocS ?_ _) | (with_reducible refine Below.setCell ?_ ?_ _) | (with_reducible refine Below.step ?_ (by assumption)) | (with_reducible refine Below.drewN' ?_ _))); (try any_goals (first | (with_reducible assumption) | (simp; done) | (simp; omega) | omega))⟩
    · rw [show (decide (-1000000000 ≤ n) && decide (n ≤ 1000000000)) = false from by simp; omega] at HX
      rw [show okRat n d = false from by simp [okRat, h1]; omega]
      go_enter Try.func84, Try.ntmps84
      go_wp2_with fail
      refine (HW.out _).mono ?_
      rintro e w' ⟨rfl, rfl⟩
      go_wp2_with fail
      refine (HX.out _).mono ?_
      rintro e w' ⟨rfl, rfl⟩
      go_wp2
      go_ret
      exact ⟨(by first | rfl | (simp; done) | (simp; omega) | (simp [*]; done)), by (repeat (first | (with_reducible exact Below.refl _ _) | (with_reducible assumption) | (with_reducible refine Below.drew ?_) | (with_reducible refine Below.allocS ?_ _) | (with_reducible refine Below.setCell ?_ ?_ _) | (with_reducible refine Below.step ?_ (by assumption)) | (with_reducible refine Below.drewN' ?_ _))); (try any_goals (first | (with_reducible assumption) | (simp; done) | (simp; omega) | omega))⟩
  · rw [show (decide (1 ≤ d) && decide (d ≤ 1000000000)) = false from by simp; omega] at HW
    rw [show okRat n d = false from by simp [okRat]; omega]
    go_enter Try.func84, Try.ntmps84
    go_wp2_with fail
    refine (HW.out _).mono ?_
    rintro e w' ⟨rfl, rfl⟩
    go_wp2
    go_ret
    exact ⟨(by first | rfl | (simp; done) | (simp; omega) | (simp [*]; done)), by (repeat (first | (with_reducible exact Below.refl _ _) | (with_reducible assumption) | (with_reducible refine Below.drew ?_) | (with_reducible refine Below.allocS ?_ _) | (with_reducible refine Below.setCell ?_ ?_ _) | (with_reducible refine Below.step ?_ (by assumption)) | (with_reducible refine Below.drewN' ?_ _))); (try any_goals (first | (with_reducible assumption) | (simp; done) | (simp; omega) | omega))⟩

def sgn (x y : Int) : Int := if x < y then -1 else if y < x then 1 else 0
def cmpR (a b c d : Int) : Int := if okRat a b && okRat c d then sgn (a * d) (c * b) else 0
theorem cross_bd {a b c d : Int} (h : okRat a b = true) (k : okRat c d = true) : -1000000000000000000 ≤ a * d ∧ a * d ≤ 1000000000000000000 := by
  obtain ⟨h1, h2, h3, h4, _⟩ := okRat_true h
  obtain ⟨k1, k2, k3, k4, _⟩ := okRat_true k
  have p1 : a * d ≤ 1000000000 * d := Int.mul_le_mul_of_nonneg_right h4 (by omega)
  have p2 : -1000000000 * d ≤ a * d := Int.mul_le_mul_of_nonneg_right h3 (by omega)
  omega
theorem isNaN_c (x : Int) (w : World) : Calls Try.prog 103 #[.int .i64 x] w fun e w' => e = .returned (.bool false) ∧ w' = w := by
  go_enter Try.func103, Try.ntmps103
  go_wp2
  go_ret
  exact ⟨(by first | rfl | (simp; done) | (simp; omega) | (simp [*]; done)), rfl⟩
theorem cmp_c (x y : Int) (w : World) : Calls Try.prog 80 #[.int .i64 x, .int .i64 y] w fun e w' => e = .returned (.int .i64 (sgn x y)) ∧ w' = w := by
  have H1 := Lib.hid (fun W => isNaN_c x W)
  have H2 := Lib.hid (fun W => isNaN_c y W)
  unfold sgn
  rcases Int.lt_trichotomy x y with hlt | hlt | hlt
  · rw [if_pos hlt]
    go_enter Try.func80, Try.ntmps80
    go_wp2_with fail
    refine (H1.out _).mono ?_
    rintro e w' ⟨rfl, rfl⟩
    go_wp2_with fail
    refine (H2.out _).mono ?_
    rintro e w' ⟨rfl, rfl⟩
    go_wp2
    go_ret
    exact ⟨(by first | rfl | (simp; done) | (simp; omega) | (simp [*]; done)), rfl⟩
  · subst hlt
    rw [if_neg (by omega)]
    go_enter Try.func80, Try.ntmps80
    go_wp2_with fail
    refine (H1.out _).mono ?_
    rintro e w' ⟨rfl, rfl⟩
    go_wp2_with fail
    refine (H2.out _).mono ?_
    rintro e w' ⟨rfl, rfl⟩
    go_wp2
    go_ret
    exact ⟨(by first | rfl | (simp; done) | (simp; omega) | (simp [*]; done)), rfl⟩
  · rw [if_neg (by omega), if_pos hlt]
    go_enter Try.func80, Try.ntmps80
    go_wp2_with fail
    refine (H1.out _).mono ?_
    rintro e w' ⟨rfl, rfl⟩
    go_wp2_with fail
    refine (H2.out _).mono ?_
    rintro e w' ⟨rfl, rfl⟩
    go_wp2
    go_ret
    exact ⟨(by first | rfl | (simp; done) | (simp; omega) | (simp [*]; done)), rfl⟩
theorem Compare_c (a b c d : Int) (w : World) : Calls Try.prog 45 #[.agg #[.int .i64 a, .int .i64 b], .agg #[.int .i64 c, .int .i64 d]] w fun e w' => e = .returned (.int .i64 (cmpR a b c d)) ∧ Below w.heap.size w w' := by
  unfold cmpR
  have H1 := Lib.hid (fun W => ValidRatio_c a b W)
  have H2 := Lib.hid (fun W => ValidRatio_c c d W)
  cases h : okRat a b
  · rw [h] at H1
    clear h
    go_enter Try.func45, Try.ntmps45
    go_wp2_with fail
    refine (H1.out _).mono ?_
    rintro e w1 ⟨rfl, hb1⟩
    have x1_0_0 : w1.cell? ⟨w.heap.size, 0, none⟩ = some (.int .i64 a) := keep_cell hb1 (by simp [go_sem, *])
    have f1_0_0 : w1.frozen? ⟨w.heap.size, 0, none⟩ = false := keep_frozen hb1 (by first | omega | (simp <;> omega)) (by simp [go_sem, *])
    have x1_0_1 : w1.cell? ⟨w.heap.size, 1, none⟩ = some (.int .i64 b) := keep_cell hb1 (by simp [go_sem, *])
    have f1_0_1 : w1.frozen? ⟨w.heap.size, 1, none⟩ = false := keep_frozen hb1 (by first | omega | (simp <;> omega)) (by simp [go_sem, *])
    have y1_0 : w.heap.size < w1.heap.size := cell?_lt x1_0_0
    have x1_1_0 : w1.cell? ⟨w.heap.size + 1, 0, none⟩ = some (.int .i64 c) := keep_cell hb1 (by simp [go_sem, *])
    have f1_1_0 : w1.frozen? ⟨w.heap.size + 1, 0, none⟩ = false := keep_frozen hb1 (by first | omega | (simp <;> omega)) (by simp [go_sem, *])
    have x1_1_1 : w1.cell? ⟨w.heap.size + 1, 1, none⟩ = some (.int .i64 d) := keep_cell hb1 (by simp [go_sem, *])
    have f1_1_1 : w1.frozen? ⟨w.heap.size + 1, 1, none⟩ = false := keep_frozen hb1 (by first | omega | (simp <;> omega)) (by simp [go_sem, *])
    have y1_1 : w.heap.size + 1 < w1.heap.size := cell?_lt x1_1_0
    have g1 : Below w.heap.size w w1 := by (repeat (first | exact Below.refl _ _ | refine Below.drew ?_ | refine Below.allocS ?_ _ | refine Below.step ?_ (by assumption) | refine Below.setCell ?_ (by simp <;> omega) _ | refine Below.drewN' ?_ _))
    clear hb1
    go_wp2
    go_ret
    exact ⟨(by first | rfl | (simp; done) | (simp; omega) | (simp [*]; done)), by (repeat (first | (with_reducible exact Below.refl _ _) | (with_reducible assumption) | (with_reducible refine Below.drew ?_) | (with_reducible refine Below.allocS ?_ _) | (with_reducible refine Below.setCell ?_ ?_ _) | (with_reducible refine Below.step ?_ (by assumption)) | (with_reducible refine Below.drewN' ?_ _))); (try any_goals (first | (with_reducible assumption) | (simp; done) | (simp; omega) | omega))⟩
  · cases h' : okRat c d
    · rw [h] at H1
      rw [h'] at H2
      clear h h'
      go_enter Try.func45, Try.ntmps45
      go_wp2_with fail
      refine (H1.out _).mono ?_
      rintro e w1 ⟨rfl, hb1⟩
      have x1_0_0 : w1.cell? ⟨w.heap.size, 0, none⟩ = some (.int .i64 a) := keep_cell hb1 (by simp [go_sem, *])
      have f1_0_0 : w1.frozen? ⟨w.heap.size, 0, none⟩ = false := keep_frozen hb1 (by first | omega | (simp <;> omega)) (by simp [go_sem, *])
      have x1_0_1 : w1.cell? ⟨w.heap.size, 1, none⟩ = some (.int .i64 b) := keep_cell hb1 (by simp [go_sem, *])
      have f1_0_1 : w1.frozen? ⟨w.heap.size, 1, none⟩ = false := keep_frozen hb1 (by first | omega | (simp <;> omega)) (by simp [go_sem, *])
      have y1_0 : w.heap.size < w1.heap.size := cell?_lt x1_0_0
      have x1_1_0 : w1.cell? ⟨w.heap.size + 1, 0, none⟩ = some (.int .i64 c) := keep_cell hb1 (by simp [go_sem, *])
      have f1_1_0 : w1.frozen? ⟨w.heap.size + 1, 0, none⟩ = false := keep_frozen hb1 (by first | omega | (simp <;> omega)) (by simp [go_sem, *])
      have x1_1_1 : w1.cell? ⟨w.heap.size + 1, 1, none⟩ = some (.int .i64 d) := keep_cell hb1 (by simp [go_sem, *])
      have f1_1_1 : w1.frozen? ⟨w.heap.size + 1, 1, none⟩ = false := keep_frozen hb1 (by first | omega | (simp <;> omega)) (by simp [go_sem, *])
      have y1_1 : w.heap.size + 1 < w1.heap.size := cell?_lt x1_1_0
      have g1 : Below w.heap.size w w1 := by (repeat (first | exact Below.refl _ _ | refine Below.drew ?_ | refine Below.allocS ?_ _ | refine Below.step ?_ (by assumption) | refine Below.setCell ?_ (by simp <;> omega) _ | refine Below.drewN' ?_ _))
      clear hb1
      go_wp2_with fail
      refine (H2.out _).mono ?_
      rintro e w2 ⟨rfl, hb2⟩
      have x2_0_0 : w2.cell? ⟨w.heap.size, 0, none⟩ = some (.int .i64 a) := keep_cell hb2 (by simp [go_sem, *])
      have f2_0_0 : w2.frozen? ⟨w.heap.size, 0, none⟩ = false := keep_frozen hb2 (by first | omega | (simp <;> omega)) (by simp [go_sem, *])
      have x2_0_1 : w2.cell? ⟨w.heap.size, 1, none⟩ = some (.int .i64 b) := keep_cell hb2 (by simp [go_sem, *])
      have f2_0_1 : w2.frozen? ⟨w.heap.size, 1, none⟩ = false := keep_frozen hb2 (by first | omega | (simp <;> omega)) (by simp [go_sem, *])
      have y2_0 : w.heap.size < w2.heap.size := cell?_lt x2_0_0
      have x2_1_0 : w2.cell? ⟨w.heap.size + 1, 0, none⟩ = some (.int .i64 c) := keep_cell hb2 (by simp [go_sem, *])
      have f2_1_0 : w2.frozen? ⟨w.heap.size + 1, 0, none⟩ = false := keep_frozen hb2 (by first | omega | (simp <;> omega)) (by simp [go_sem, *])
      have x2_1_1 : w2.cell? ⟨w.heap.size + 1, 1, none⟩ = some (.int .i64 d) := keep_cell hb2 (by simp [go_sem, *])
      have f2_1_1 : w2.frozen? ⟨w.heap.size + 1, 1, none⟩ = false := keep_frozen hb2 (by first | omega | (simp <;> omega)) (by simp [go_sem, *])
      have y2_1 : w.heap.size + 1 < w2.heap.size := cell?_lt x2_1_0
      have g2 : Below w.heap.size w w2 := by (repeat (first | exact Below.refl _ _ | refine Below.drew ?_ | refine Below.allocS ?_ _ | refine Below.step ?_ (by assumption) | refine Below.setCell ?_ (by simp <;> omega) _ | refine Below.drewN' ?_ _))
      clear hb2 g1 x1_0_0 f1_0_0 x1_0_1 f1_0_1 x1_1_0 f1_1_0 x1_1_1 f1_1_1 y1_0 y1_1
      go_wp2
      go_ret
      exact ⟨(by first | rfl | (simp; done) | (simp; omega) | (simp [*]; done)), by (repeat (first | (with_reducible exact Below.refl _ _) | (with_reducible assumption) | (with_reducible refine Below.drew ?_) | (with_reducible refine Below.allocS ?_ _) | (with_reducible refine Below.setCell ?_ ?_ _) | (with_reducible refine Below.step ?_ (by assumption)) | (with_reducible refine Below.drewN' ?_ _))); (try any_goals (first | (with_reducible assumption) | (simp; done) | (simp; omega) | omega))⟩
    · obtain ⟨x0, x1⟩ := cross_bd h h'
      obtain ⟨y0, y1⟩ := cross_bd h' h
      rw [h] at H1
      rw [h'] at H2
      clear h h'
      have m1 : IntKind.i64.wrap (a * d) = a * d := IntWalk.i64_in _ (by omega)
      have m2 : IntKind.i64.wrap (c * b) = c * b := IntWalk.i64_in _ (by omega)
      have HC := Lib.hid (fun W => cmp_c (a * d) (c * b) W)
      obtain ⟨s, hs⟩ : ∃ s, sgn (a * d) (c * b) = s := ⟨_, rfl⟩
      rw [hs] at HC
      simp only [Bool.and_self, if_true, hs]
      clear hs
      go_enter Try.func45, Try.ntmps45
      go_wp2_with fail
      refine (H1.out _).mono ?_
      rintro e w1 ⟨rfl, hb1⟩
      have x1_0_0 : w1.cell? ⟨w.heap.size, 0, none⟩ = some (.int .i64 a) := keep_cell hb1 (by simp [go_sem, *])
      have f1_0_0 : w1.frozen? ⟨w.heap.size, 0, none⟩ = false := keep_frozen hb1 (by first | omega | (simp <;> omega)) (by simp [go_sem, *])
      have x1_0_1 : w1.cell? ⟨w.heap.size, 1, none⟩ = some (.int .i64 b) := keep_cell hb1 (by simp [go_sem, *])
      have f1_0_1 : w1.frozen? ⟨w.heap.size, 1, none⟩ = false := keep_frozen hb1 (by first | omega | (simp <;> omega)) (by simp [go_sem, *])
      have y1_0 : w.heap.size < w1.heap.size := cell?_lt x1_0_0
      have x1_1_0 : w1.cell? ⟨w.heap.size + 1, 0, none⟩ = some (.int .i64 c) := keep_cell hb1 (by simp [go_sem, *])
      have f1_1_0 : w1.frozen? ⟨w.heap.size + 1, 0, none⟩ = false := keep_frozen hb1 (by first | omega | (simp <;> omega)) (by simp [go_sem, *])
      have x1_1_1 : w1.cell? ⟨w.heap.size + 1, 1, none⟩ = some (.int .i64 d) := keep_cell hb1 (by simp [go_sem, *])
      have f1_1_1 : w1.frozen? ⟨w.heap.size + 1, 1, none⟩ = false := keep_frozen hb1 (by first | omega | (simp <;> omega)) (by simp [go_sem, *])
      have y1_1 : w.heap.size + 1 < w1.heap.size := cell?_lt x1_1_0
      have g1 : Below w.heap.size w w1 := by (repeat (first | exact Below.refl _ _ | refine Below.drew ?_ | refine Below.allocS ?_ _ | refine Below.step ?_ (by assumption) | refine Below.setCell ?_ (by simp <;> omega) _ | refine Below.drewN' ?_ _))
      clear hb1
      go_wp2_with fail
      refine (H2.out _).mono ?_
      rintro e w2 ⟨rfl, hb2⟩
      have x2_0_0 : w2.cell? ⟨w.heap.size, 0, none⟩ = some (.int .i64 a) := keep_cell hb2 (by simp [go_sem, *])
      have f2_0_0 : w2.frozen? ⟨w.heap.size, 0, none⟩ = false := keep_frozen hb2 (by first | omega | (simp <;> omega)) (by simp [go_sem, *])
      have x2_0_1 : w2.cell? ⟨w.heap.size, 1, none⟩ = some (.int .i64 b) := keep_cell hb2 (by simp [go_sem, *])
      have f2_0_1 : w2.frozen? ⟨w.heap.size, 1, none⟩ = false := keep_frozen hb2 (by first | omega | (simp <;> omega)) (by simp [go_sem, *])
      have y2_0 : w.heap.size < w2.heap.size := cell?_lt x2_0_0
      have x2_1_0 : w2.cell? ⟨w.heap.size + 1, 0, none⟩ = some (.int .i64 c) := keep_cell hb2 (by simp [go_sem, *])
      have f2_1_0 : w2.frozen? ⟨w.heap.size + 1, 0, none⟩ = false := keep_frozen hb2 (by first | omega | (simp <;> omega)) (by simp [go_sem, *])
      have x2_1_1 : w2.cell? ⟨w.heap.size + 1, 1, none⟩ = some (.int .i64 d) := keep_cell hb2 (by simp [go_sem, *])
      have f2_1_1 : w2.frozen? ⟨w.heap.size + 1, 1, none⟩ = false := keep_frozen hb2 (by first | omega | (simp <;> omega)) (by simp [go_sem, *])
      have y2_1 : w.heap.size + 1 < w2.heap.size := cell?_lt x2_1_0
      have g2 : Below w.heap.size w w2 := by (repeat (first | exact Below.refl _ _ | refine Below.drew ?_ | refine Below.allocS ?_ _ | refine Below.step ?_ (by assumption) | refine Below.setCell ?_ (by simp <;> omega) _ | refine Below.drewN' ?_ _))
      clear hb2 g1 x1_0_0 f1_0_0 x1_0_1 f1_0_1 x1_1_0 f1_1_0 x1_1_1 f1_1_1 y1_0 y1_1
      go_wp2_with fail
      refine (HC.out _).mono ?_
      rintro e w' ⟨rfl, rfl⟩
      go_wp2
      go_ret
      exact ⟨(by first | rfl | (simp; done) | (simp; omega) | (simp [*]; done)), by (repeat (first | (with_reducible exact Below.refl _ _) | (with_reducible assumption) | (with_reducible refine Below.drew ?_) | (with_reducible refine Below.allocS ?_ _) | (with_reducible refine Below.setCell ?_ ?_ _) | (with_reducible refine Below.step ?_ (by assumption)) | (with_reducible refine Below.drewN' ?_ _))); (try any_goals (first | (with_reducible assumption) | (simp; done) | (simp; omega) | omega))⟩

theorem tdiv_fit {a b : Int} (h : Fit a) : Fit (a.tdiv b) := by
  have hb : Int.natAbs (a.tdiv b) ≤ Int.natAbs a := by rw [Int.natAbs_tdiv]; exact Nat.div_le_self _ _
  unfold Fit at *
  omega
theorem fit_wrap {a : Int} (h : Fit a) : IntKind.i64.wrap a = a := IntWalk.i64_in _ (by unfold Fit at h; omega)
/-- What reduce leaves: the quotient's two cells in lowest terms. -/
def Redu (w : World) (b : Nat) (n d : Int) (e : Ending) (w' : World) : Prop :=
  (∃ v, e = .returned v) ∧ ∃ w1, Below w.heap.size w w1 ∧ w' = (w1.setCell ⟨b, 0, none⟩ (.int .i64 (redN n d))).setCell ⟨b, 1, none⟩ (.int .i64 (redD n d))
set_option maxHeartbeats 1000000 in
theorem reduce_c (n d : Int) (hn : Fit n) (hd : Fit d) (h0 : d ≠ 0) (b : Nat) (w : World) (c0 : w.cell? ⟨b, 0, none⟩ = some (.int .i64 n)) (c1 : w.cell? ⟨b, 1, none⟩ = some (.int .i64 d)) (f0 : w.frozen? ⟨b, 0, none⟩ = false) (f1 : w.frozen? ⟨b, 1, none⟩ = false) :
    Calls Try.prog 110 #[.pointer (some ⟨b, 0, none⟩)] w (Redu w b n d) := by
  have HD := Lib.hid (fun W => divisor_c n d hn hd W)
  have hg0 := gcdI_pos (a := n) h0
  have hgl := gcdI_le (a := n) h0
  have hbw := cell?_lt c0
  obtain ⟨G, hG⟩ : ∃ G, redG n d = G := ⟨_, rfl⟩
  have hG0 : G ≠ 0 := by rw [← hG]; exact redG_ne h0
  have HN := Lib.hid (show redN n d = n.tdiv G by unfold redN; rw [hG])
  have HE := Lib.hid (show redD n d = d.tdiv G by unfold redD; rw [hG])
  have m1 : IntKind.i64.wrap (n.tdiv G) = n.tdiv G := fit_wrap (tdiv_fit hn)
  have m2 : IntKind.i64.wrap (d.tdiv G) = d.tdiv G := fit_wrap (tdiv_fit hd)
  by_cases hneg : d < 0
  · have m3 : IntKind.i64.wrap (-gcdI n d) = G := by rw [← hG, redG, if_pos hneg]; exact fit_wrap (by unfold Fit at *; omega)
    obtain ⟨g, hg⟩ : ∃ g, gcdI n d = g := ⟨_, rfl⟩
    rw [hg] at HD hg0 hgl m3
    clear hG hg
    go_enter Try.func110, Try.ntmps110

    go_wp2_with fail
    refine region_below (by kernel_rfl) (by kernel_rfl) ?_
    (first | go_big_quiet_skip | (go_big_quiet_want; refine quiet_val (v := ?_) ?_ ?_; rotate_left 1; (· (intro Wq hWq; obtain ⟨hWc, hWf⟩ := bcell hWq; go_simp; (try with_reducible rfl))); go_big_quiet_on; (try simp only [Act.put, List.setIfInBounds_toArray, List.set_cons_zero, List.set_cons_succ])))
    (first | go_big_quiet_skip | (go_big_quiet_want; refine quiet_val (v := ?_) ?_ ?_; rotate_left 1; (· (intro Wq hWq; obtain ⟨hWc, hWf⟩ := bcell hWq; go_simp; (try with_reducible rfl))); go_big_quiet_on; (try simp only [Act.put, List.setIfInBounds_toArray, List.set_cons_zero, List.set_cons_succ])))
    (first | go_big_quiet_skip | (go_big_quiet_want; refine quiet_val (v := ?_) ?_ ?_; rotate_left 1; (· (intro Wq hWq; obtain ⟨hWc, hWf⟩ := bcell hWq; go_simp; (try with_reducible rfl))); go_big_quiet_on; (try simp only [Act.put, List.setIfInBounds_toArray, List.set_cons_zero, List.set_cons_succ])))
    (first | go_big_quiet_skip | (go_big_quiet_want; refine quiet_val (v := ?_) ?_ ?_; rotate_left 1; (· (intro Wq hWq; obtain ⟨hWc, hWf⟩ := bcell hWq; go_simp; (try with_reducible rfl))); go_big_quiet_on; (try simp only [Act.put, List.setIfInBounds_toArray, List.set_cons_zero, List.set_cons_succ])))
    (first | go_big_quiet_skip | (go_big_quiet_want; refine quiet_val (v := ?_) ?_ ?_; rotate_left 1; (· (intro Wq hWq; obtain ⟨hWc, hWf⟩ := bcell hWq; go_simp; (try with_reducible rfl))); go_big_quiet_on; (try simp only [Act.put, List.setIfInBounds_toArray, List.set_cons_zero, List.set_cons_succ])))
    (first | go_big_quiet_skip | (go_big_quiet_want; refine quiet_val (v := ?_) ?_ ?_; rotate_left 1; (· (intro Wq hWq; obtain ⟨hWc, hWf⟩ := bcell hWq; go_simp; (try with_reducible rfl))); go_big_quiet_on; (try simp only [Act.put, List.setIfInBounds_toArray, List.set_cons_zero, List.set_cons_succ])))
    (first | go_big_quiet_skip | (go_big_quiet_want; refine quiet_val (v := ?_) ?_ ?_; rotate_left 1; (· (intro Wq hWq; obtain ⟨hWc, hWf⟩ := bcell hWq; go_simp; (try with_reducible rfl))); go_big_quiet_on; (try simp only [Act.put, List.setIfInBounds_toArray, List.set_cons_zero, List.set_cons_succ])))
    (first | go_big_quiet_skip | (go_big_quiet_want; refine quiet_val (v := ?_) ?_ ?_; rotate_left 1; (· (intro Wq hWq; obtain ⟨hWc, hWf⟩ := bcell hWq; go_simp; (try with_reducible rfl))); go_big_quiet_on; (try simp only [Act.put, List.setIfInBounds_toArray, List.set_cons_zero, List.set_cons_succ])))
    go_big_quiet_want; refine quiet_callB (f := 102) (args := ?_) (v := ?_) ?_ ?_ ?_; rotate_left 2
    · (intro Wq hWq; obtain ⟨hWc, hWf⟩ := bcell hWq; go_simp; (first | with_reducible rfl | exact ⟨rfl, rfl⟩))
    · (intro Wq hWq; exact HD.out _)
    go_big_quiet_on; (try simp only [Act.put, List.setIfInBounds_toArray, List.set_cons_zero, List.set_cons_succ])
    (first | go_big_quiet_skip | (go_big_quiet_want; refine quiet_val (v := ?_) ?_ ?_; rotate_left 1; (· (intro Wq hWq; obtain ⟨hWc, hWf⟩ := bcell hWq; go_simp; (try with_reducible rfl))); go_big_quiet_on; (try simp only [Act.put, List.setIfInBounds_toArray, List.set_cons_zero, List.set_cons_succ])))
    refine wpQuiet_nil ?_; intro w1 hb1
    have x0 := keep_cell hb1 c0
    have x1 := keep_cell hb1 c1
    have z0 := keep_frozen hb1 hbw f0
    have z1 := keep_frozen hb1 hbw f1
    clear c0 c1 f0 f1
    go_wp2
    go_region
    all_goals
      go_end0
      exact ⟨⟨_, rfl⟩, w1.drew, Below.drew hb1, by rw [HN.out, HE.out]; rfl⟩
  · have hgg : gcdI n d = G := by rw [← hG, redG, if_neg hneg]
    rw [hgg] at HD hg0 hgl
    clear hgg hG
    go_enter Try.func110, Try.ntmps110
    go_wp2_with fail
    refine region_below (by kernel_rfl) (by kernel_rfl) ?_
    (first | go_big_quiet_skip | (go_big_quiet_want; refine quiet_val (v := ?_) ?_ ?_; rotate_left 1; (· (intro Wq hWq; obtain ⟨hWc, hWf⟩ := bcell hWq; go_simp; (try with_reducible rfl))); go_big_quiet_on; (try simp only [Act.put, List.setIfInBounds_toArray, List.set_cons_zero, List.set_cons_succ])))
    (first | go_big_quiet_skip | (go_big_quiet_want; refine quiet_val (v := ?_) ?_ ?_; rotate_left 1; (· (intro Wq hWq; obtain ⟨hWc, hWf⟩ := bcell hWq; go_simp; (try with_reducible rfl))); go_big_quiet_on; (try simp only [Act.put, List.setIfInBounds_toArray, List.set_cons_zero, List.set_cons_succ])))
    (first | go_big_quiet_skip | (go_big_quiet_want; refine quiet_val (v := ?_) ?_ ?_; rotate_left 1; (· (intro Wq hWq; obtain ⟨hWc, hWf⟩ := bcell hWq; go_simp; (try with_reducible rfl))); go_big_quiet_on; (try simp only [Act.put, List.setIfInBounds_toArray, List.set_cons_zero, List.set_cons_succ])))
    (first | go_big_quiet_skip | (go_big_quiet_want; refine quiet_val (v := ?_) ?_ ?_; rotate_left 1; (· (intro Wq hWq; obtain ⟨hWc, hWf⟩ := bcell hWq; go_simp; (try with_reducible rfl))); go_big_quiet_on; (try simp only [Act.put, List.setIfInBounds_toArray, List.set_cons_zero, List.set_cons_succ])))
    (first | go_big_quiet_skip | (go_big_quiet_want; refine quiet_val (v := ?_) ?_ ?_; rotate_left 1; (· (intro Wq hWq; obtain ⟨hWc, hWf⟩ := bcell hWq; go_simp; (try with_reducible rfl))); go_big_quiet_on; (try simp only [Act.put, List.setIfInBounds_toArray, List.set_cons_zero, List.set_cons_succ])))
    (first | go_big_quiet_skip | (go_big_quiet_want; refine quiet_val (v := ?_) ?_ ?_; rotate_left 1; (· (intro Wq hWq; obtain ⟨hWc, hWf⟩ := bcell hWq; go_simp; (try with_reducible rfl))); go_big_quiet_on; (try simp only [Act.put, List.setIfInBounds_toArray, List.set_cons_zero, List.set_cons_succ])))
    (first | go_big_quiet_skip | (go_big_quiet_want; refine quiet_val (v := ?_) ?_ ?_; rotate_left 1; (· (intro Wq hWq; obtain ⟨hWc, hWf⟩ := bcell hWq; go_simp; (try with_reducible rfl))); go_big_quiet_on; (try simp only [Act.put, List.setIfInBounds_toArray, List.set_cons_zero, List.set_cons_succ])))
    (first | go_big_quiet_skip | (go_big_quiet_want; refine quiet_val (v := ?_) ?_ ?_; rotate_left 1; (· (intro Wq hWq; obtain ⟨hWc, hWf⟩ := bcell hWq; go_simp; (try with_reducible rfl))); go_big_quiet_on; (try simp only [Act.put, List.setIfInBounds_toArray, List.set_cons_zero, List.set_cons_succ])))
    go_big_quiet_want; refine quiet_callB (f := 102) (args := ?_) (v := ?_) ?_ ?_ ?_; rotate_left 2
    · (intro Wq hWq; obtain ⟨hWc, hWf⟩ := bcell hWq; go_simp; (first | with_reducible rfl | exact ⟨rfl, rfl⟩))
    · (intro Wq hWq; exact HD.out _)
    go_big_quiet_on; (try simp only [Act.put, List.setIfInBounds_toArray, List.set_cons_zero, List.set_cons_succ])
    (first | go_big_quiet_skip | (go_big_quiet_want; refine quiet_val (v := ?_) ?_ ?_; rotate_left 1; (· (intro Wq hWq; obtain ⟨hWc, hWf⟩ := bcell hWq; go_simp; (try with_reducible rfl))); go_big_quiet_on; (try simp only [Act.put, List.setIfInBounds_toArray, List.set_cons_zero, List.set_cons_succ])))
    refine wpQuiet_nil ?_; intro w1 hb1
    have x0 := keep_cell hb1 c0
    have x1 := keep_cell hb1 c1
    have z0 := keep_frozen hb1 hbw f0
    have z1 := keep_frozen hb1 hbw f1
    clear c0 c1 f0 f1
    go_wp2
    go_region
    all_goals
      go_end0
      exact ⟨⟨_, rfl⟩, w1.drew, Below.drew hb1, by rw [HN.out, HE.out]; rfl⟩
/-- A quotient in lowest terms, or that it is too large. -/
def lowR (n d : Int) : Int × Int × Int := if okRat (redN n d) (redD n d) then (redN n d, redD n d, 0) else (0, 0, 4)
set_option maxHeartbeats 1000000 in
theorem lowest_c (n d : Int) (hn : Fit n) (hd : Fit d) (h0 : d ≠ 0) (w : World) : Calls Try.prog 86 #[.int .i64 n, .int .i64 d] w fun e w' => e = .returned (retV (lowR n d)) ∧ Below w.heap.size w w' := by
  have HR := Lib.hid (fun b W c0 c1 f0 f1 => reduce_c n d hn hd h0 b W c0 c1 f0 f1)
  have HV := Lib.hid (fun W => ValidRatio_c (redN n d) (redD n d) W)
  unfold lowR retV
  unfold Redu at HR
  generalize redN n d = p at *
  generalize redD n d = q at *
  cases h : okRat p q
  all_goals
    rw [h] at HV
    clear h
    go_enter Try.func86, Try.ntmps86
    go_wp2_with fail
    refine (HR.out (w.heap.size + 1) _ (by simp [go_sem]) (by simp [go_sem]) (by simp [go_sem]) (by simp [go_sem])).mono ?_
    rintro e w1' ⟨⟨v, rfl⟩, w1, hb1, rfl⟩
    have q0_0 : w1.cell? ⟨w.heap.size, 0, none⟩ = some (.int .i64 0) := keep_cell hb1 (by simp [go_sem, *]); have r0_0 : w1.frozen? ⟨w.heap.size, 0, none⟩ = false := keep_frozen hb1 (by first | omega | (simp <;> omega)) (by simp [go_sem, *]); have q0_1 : w1.cell? ⟨w.heap.size, 1, none⟩ = some (.int .i64 0) := keep_cell hb1 (by simp [go_sem, *]); have r0_1 : w1.frozen? ⟨w.heap.size, 1, none⟩ = false := keep_frozen hb1 (by first | omega | (simp <;> omega)) (by simp [go_sem, *]); have p0 : w.heap.size < w1.heap.size := cell?_lt q0_0
    have g1 : Below w.heap.size w w1 := by (repeat (first | (with_reducible exact Below.refl _ _) | (with_reducible assumption) | (with_reducible refine Below.drew ?_) | (with_reducible refine Below.allocS ?_ _) | (with_reducible refine Below.setCell ?_ ?_ _) | (with_reducible refine Below.step ?_ (by assumption)) | (with_reducible refine Below.drewN' ?_ _))); (try any_goals (first | (with_reducible assumption) | (simp; done) | (simp; omega) | omega))
    have hs1 : w.heap.size + 1 < w1.heap.size := by have := hb1.size; simp at this; omega
    have k0 := keep_cell hb1 (a := ⟨w.heap.size + 1, 0, none⟩) (v := .int .i64 n) (by simp [go_sem])
    have k1 := keep_cell hb1 (a := ⟨w.heap.size + 1, 1, none⟩) (v := .int .i64 d) (by simp [go_sem])
    clear hb1
    go_wp2_with fail
    refine (HV.out _).mono ?_
    rintro e w2 ⟨rfl, hb2⟩
    have x2_0_0 : w2.cell? ⟨w.heap.size, 0, none⟩ = some (.int .i64 0) := keep_cell hb2 (by simp [go_sem, *])
    have f2_0_0 : w2.frozen? ⟨w.heap.size, 0, none⟩ = false := keep_frozen hb2 (by first | omega | (simp <;> omega)) (by simp [go_sem, *])
    have x2_0_1 : w2.cell? ⟨w.heap.size, 1, none⟩ = some (.int .i64 0) := keep_cell hb2 (by simp [go_sem, *])
    have f2_0_1 : w2.frozen? ⟨w.heap.size, 1, none⟩ = false := keep_frozen hb2 (by first | omega | (simp <;> omega)) (by simp [go_sem, *])
    have y2_0 : w.heap.size < w2.heap.size := cell?_lt x2_0_0
    have x2_1_0 : w2.cell? ⟨w1.heap.size, 0, none⟩ = some (.int .i64 p) := keep_cell hb2 (by simp [go_sem, *])
    have x2_1_1 : w2.cell? ⟨w1.heap.size, 1, none⟩ = some (.int .i64 q) := keep_cell hb2 (by simp [go_sem, *])
    have y2_1 : w1.heap.size < w2.heap.size := cell?_lt x2_1_0
    have g2 : Below w.heap.size w w2 := by (repeat (first | exact Below.refl _ _ | refine Below.drew ?_ | refine Below.allocS ?_ _ | refine Below.step ?_ (by assumption) | refine Below.setCell ?_ (by simp <;> omega) _ | refine Below.drewN' ?_ _))
    clear hb2
    go_wp2
    first
      | (refine bodyPost_ret (v := .tuple #[.agg #[.int .i64 0, .int .i64 0], .int .i64 4]) (by simp [results, Try.results86, go_sem, *] <;> (repeat' apply And.intro) <;> rfl) rfl ⟨rfl, ?_⟩
         (repeat (first | (with_reducible exact Below.refl _ _) | (with_reducible assumption) | (with_reducible refine Below.drew ?_) | (with_reducible refine Below.allocS ?_ _) | (with_reducible refine Below.setCell ?_ ?_ _) | (with_reducible refine Below.step ?_ (by assumption)) | (with_reducible refine Below.drewN' ?_ _))); (try any_goals (first | (with_reducible assumption) | (simp; done) | (simp; omega) | omega)))
      | (refine bodyPost_ret (v := .tuple #[.agg #[.int .i64 p, .int .i64 q], .int .i64 0]) (by simp [results, Try.results86, go_sem, *] <;> (repeat' apply And.intro) <;> rfl) rfl ⟨rfl, ?_⟩
         (repeat (first | (with_reducible exact Below.refl _ _) | (with_reducible assumption) | (with_reducible refine Below.drew ?_) | (with_reducible refine Below.allocS ?_ _) | (with_reducible refine Below.setCell ?_ ?_ _) | (with_reducible refine Below.step ?_ (by assumption)) | (with_reducible refine Below.drewN' ?_ _))); (try any_goals (first | (with_reducible assumption) | (simp; done) | (simp; omega) | omega)))
/-- What Make takes. -/
def makeR (n d : Int) : Int × Int × Int := if decide (-1000000000000000000 ≤ n) && (decide (n ≤ 1000000000000000000) && (decide (-1000000000000000000 ≤ d) && (decide (d ≤ 1000000000000000000) && decide (d ≠ 0)))) then lowR n d else (0, 0, 7)
theorem make_cases (n d : Int) : (makeR n d = (0, 0, 7) ∧ (n < -1000000000000000000 ∨ -1000000000000000000 ≤ n ∧ (1000000000000000000 < n ∨ n ≤ 1000000000000000000 ∧ (d < -1000000000000000000 ∨ -1000000000000000000 ≤ d ∧ (1000000000000000000 < d ∨ d ≤ 1000000000000000000 ∧ d = 0))))) ∨
    (makeR n d = lowR n d ∧ -1000000000000000000 ≤ n ∧ n ≤ 1000000000000000000 ∧ -1000000000000000000 ≤ d ∧ d ≤ 1000000000000000000 ∧ d ≠ 0) := by
  unfold makeR
  by_cases h1 : -1000000000000000000 ≤ n
  · by_cases h2 : n ≤ 1000000000000000000
    · by_cases h3 : -1000000000000000000 ≤ d
      · by_cases h4 : d ≤ 1000000000000000000
        · by_cases h5 : d = 0
          · exact Or.inl ⟨by simp [h5], by omega⟩
          · exact Or.inr ⟨by simp [h1, h2, h3, h4, h5], h1, h2, h3, h4, h5⟩
        · exact Or.inl ⟨by simp [h4], by omega⟩
      · exact Or.inl ⟨by simp [h3], by omega⟩
    · exact Or.inl ⟨by simp [h2], by omega⟩
  · exact Or.inl ⟨by simp [h1], by omega⟩
theorem low_split (n d : Int) : ∃ p q z, lowR n d = (p, q, z) := ⟨_, _, _, rfl⟩
theorem Make_c (n d : Int) (w : World) : Calls Try.prog 96 #[.int .i64 n, .int .i64 d] w fun e w' => e = .returned (retV (makeR n d)) ∧ Below w.heap.size w w' := by
  rcases make_cases n d with ⟨h, h1 | ⟨h1, h2 | ⟨h2, h3 | ⟨h3, h4 | ⟨h4, h5⟩⟩⟩⟩⟩ | ⟨h, h1, h2, h3, h4, h5⟩
  all_goals
    rw [h]
    clear h
  · go_enter Try.func96, Try.ntmps96
    go_wp2
    refine bodyPost_ret (v := .tuple #[.agg #[.int .i64 0, .int .i64 0], .int .i64 7]) (by simp [results, Try.results96, go_sem, *] <;> (repeat' apply And.intro) <;> rfl) rfl ⟨rfl, ?_⟩
    (repeat (first | (with_reducible exact Below.refl _ _) | (with_reducible assumption) | (with_reducible refine Below.drew ?_) | (with_reducible refine Below.allocS ?_ _) | (with_reducible refine Below.setCell ?_ ?_ _) | (with_reducible refine Below.step ?_ (by assumption)) | (with_reducible refine Below.drewN' ?_ _))); (try any_goals (first | (with_reducible assumption) | (simp; done) | (simp; omega) | omega))
  · go_enter Try.func96, Try.ntmps96
    go_wp2
    refine bodyPost_ret (v := .tuple #[.agg #[.int .i64 0, .int .i64 0], .int .i64 7]) (by simp [results, Try.results96, go_sem, *] <;> (repeat' apply And.intro) <;> rfl) rfl ⟨rfl, ?_⟩
    (repeat (first | (with_reducible exact Below.refl _ _) | (with_reducible assumption) | (with_reducible refine Below.drew ?_) | (with_reducible refine Below.allocS ?_ _) | (with_reducible refine Below.setCell ?_ ?_ _) | (with_reducible refine Below.step ?_ (by assumption)) | (with_reducible refine Below.drewN' ?_ _))); (try any_goals (first | (with_reducible assumption) | (simp; done) | (simp; omega) | omega))
  · go_enter Try.func96, Try.ntmps96
    go_wp2
    refine bodyPost_ret (v := .tuple #[.agg #[.int .i64 0, .int .i64 0], .int .i64 7]) (by simp [results, Try.results96, go_sem, *] <;> (repeat' apply And.intro) <;> rfl) rfl ⟨rfl, ?_⟩
    (repeat (first | (with_reducible exact Below.refl _ _) | (with_reducible assumption) | (with_reducible refine Below.drew ?_) | (with_reducible refine Below.allocS ?_ _) | (with_reducible refine Below.setCell ?_ ?_ _) | (with_reducible refine Below.step ?_ (by assumption)) | (with_reducible refine Below.drewN' ?_ _))); (try any_goals (first | (with_reducible assumption) | (simp; done) | (simp; omega) | omega))
  · go_enter Try.func96, Try.ntmps96
    go_wp2
    refine bodyPost_ret (v := .tuple #[.agg #[.int .i64 0, .int .i64 0], .int .i64 7]) (by simp [results, Try.results96, go_sem, *] <;> (repeat' apply And.intro) <;> rfl) rfl ⟨rfl, ?_⟩
    (repeat (first | (with_reducible exact Below.refl _ _) | (with_reducible assumption) | (with_reducible refine Below.drew ?_) | (with_reducible refine Below.allocS ?_ _) | (with_reducible refine Below.setCell ?_ ?_ _) | (with_reducible refine Below.step ?_ (by assumption)) | (with_reducible refine Below.drewN' ?_ _))); (try any_goals (first | (with_reducible assumption) | (simp; done) | (simp; omega) | omega))
  · have h6 : (d == 0) = true := by simp [h5]
    clear h5
    go_enter Try.func96, Try.ntmps96
    go_wp2
    refine bodyPost_ret (v := .tuple #[.agg #[.int .i64 0, .int .i64 0], .int .i64 7]) (by simp [results, Try.results96, go_sem, *] <;> (repeat' apply And.intro) <;> rfl) rfl ⟨rfl, ?_⟩
    (repeat (first | (with_reducible exact Below.refl _ _) | (with_reducible assumption) | (with_reducible refine Below.drew ?_) | (with_reducible refine Below.allocS ?_ _) | (with_reducible refine Below.setCell ?_ ?_ _) | (with_reducible refine Below.step ?_ (by assumption)) | (with_reducible refine Below.drewN' ?_ _))); (try any_goals (first | (with_reducible assumption) | (simp; done) | (simp; omega) | omega))
  · have HL := Lib.hid (fun W => lowest_c n d ⟨by omega, by omega⟩ ⟨by omega, by omega⟩ h5 W)
    obtain ⟨p, q, z, hz⟩ := low_split n d
    rw [hz] at HL ⊢
    clear hz
    unfold retV at *
    have e0 := decide_eq_false (show ¬ n < -1000000000000000000 by omega)
    have e1 := decide_eq_false (show ¬ 1000000000000000000 < n by omega)
    have e2 := decide_eq_false (show ¬ d < -1000000000000000000 by omega)
    have e3 := decide_eq_false (show ¬ 1000000000000000000 < d by omega)
    have e4 : (d == 0) = false := by simpa using h5
    go_enter Try.func96, Try.ntmps96
    go_wp2_with fail
    refine (HL.out _).mono ?_
    rintro e w1 ⟨rfl, hb1⟩
    have x1_0_0 : w1.cell? ⟨w.heap.size, 0, none⟩ = some (.int .i64 0) := keep_cell hb1 (by simp [go_sem, *])
    have f1_0_0 : w1.frozen? ⟨w.heap.size, 0, none⟩ = false := keep_frozen hb1 (by first | omega | (simp <;> omega)) (by simp [go_sem, *])
    have x1_0_1 : w1.cell? ⟨w.heap.size, 1, none⟩ = some (.int .i64 0) := keep_cell hb1 (by simp [go_sem, *])
    have f1_0_1 : w1.frozen? ⟨w.heap.size, 1, none⟩ = false := keep_frozen hb1 (by first | omega | (simp <;> omega)) (by simp [go_sem, *])
    have y1_0 : w.heap.size < w1.heap.size := cell?_lt x1_0_0
    have g1 : Below w.heap.size w w1 := by (repeat (first | exact Below.refl _ _ | refine Below.drew ?_ | refine Below.allocS ?_ _ | refine Below.step ?_ (by assumption) | refine Below.setCell ?_ (by simp <;> omega) _ | refine Below.drewN' ?_ _))
    clear hb1
    go_wp2
    refine bodyPost_ret (v := .tuple #[.agg #[.int .i64 p, .int .i64 q], .int .i64 z]) (by simp [results, Try.results96, go_sem, *] <;> (repeat' apply And.intro) <;> rfl) rfl ⟨rfl, ?_⟩
    (repeat (first | (with_reducible exact Below.refl _ _) | (with_reducible assumption) | (with_reducible refine Below.drew ?_) | (with_reducible refine Below.allocS ?_ _) | (with_reducible refine Below.setCell ?_ ?_ _) | (with_reducible refine Below.step ?_ (by assumption)) | (with_reducible refine Below.drewN' ?_ _))); (try any_goals (first | (with_reducible assumption) | (simp; done) | (simp; omega) | omega))
set_option maxHeartbeats 1000000 in
theorem rLowest_c (n d : Int) (hn : Fit n) (hd : Fit d) (h0 : d ≠ 0) (w : World) : Calls Try.prog 100 #[.int .i64 n, .int .i64 d] w fun e w' => e = .returned (retV (lowR n d)) ∧ Below w.heap.size w w' := by
  have HD := Lib.hid (fun W => rdivisor_c n d hn hd W)
  have HV := Lib.hid (fun W => rValidRatio_c (redN n d) (redD n d) W)
  have hg0 := gcdI_pos (a := n) h0
  have hgl := gcdI_le (a := n) h0
  obtain ⟨G, hG⟩ : ∃ G, redG n d = G := ⟨_, rfl⟩
  have hG0 : G ≠ 0 := by rw [← hG]; exact redG_ne h0
  have hN : redN n d = n.tdiv G := by unfold redN; rw [hG]
  have hE : redD n d = d.tdiv G := by unfold redD; rw [hG]
  have m1 : IntKind.i64.wrap (n.tdiv G) = n.tdiv G := fit_wrap (tdiv_fit hn)
  have m2 : IntKind.i64.wrap (d.tdiv G) = d.tdiv G := fit_wrap (tdiv_fit hd)
  unfold lowR retV
  rw [hN, hE] at HV ⊢
  clear hN hE
  have m3 : d < 0 → IntKind.i64.wrap (-gcdI n d) = G := fun h => by rw [← hG, redG, if_pos h]; exact fit_wrap (by unfold Fit at *; omega)
  have m4 : ¬ d < 0 → gcdI n d = G := fun h => by rw [← hG, redG, if_neg h]
  by_cases hneg : d < 0
  · have m5 := m3 hneg
    obtain ⟨g, hg⟩ : ∃ g, gcdI n d = g := ⟨_, rfl⟩
    rw [hg] at HD hg0 hgl m5
    obtain ⟨p, hp⟩ : ∃ p, n.tdiv G = p := ⟨_, rfl⟩
    obtain ⟨q, hq⟩ : ∃ q, d.tdiv G = q := ⟨_, rfl⟩
    rw [hp] at m1 HV ⊢
    rw [hq] at m2 HV ⊢
    rw [← hp] at m1
    rw [← hq] at m2
    have m1' : IntKind.i64.wrap (n.tdiv G) = p := m1.trans hp
    have m2' : IntKind.i64.wrap (d.tdiv G) = q := m2.trans hq
    clear hG hg m3 m4 m1 m2 hp hq
    cases h : okRat p q
    all_goals
      rw [h] at HV
      clear h
      go_enter Try.func100, Try.ntmps100
      go_wp2_with fail
      refine (HD.out _).mono ?_
      rintro e w1 ⟨rfl, hb1⟩
      have x1_0_0 : w1.cell? ⟨w.heap.size, 0, none⟩ = some (.int .i64 0) := keep_cell hb1 (by simp [go_sem, *])
      have f1_0_0 : w1.frozen? ⟨w.heap.size, 0, none⟩ = false := keep_frozen hb1 (by first | omega | (simp <;> omega)) (by simp [go_sem, *])
      have x1_0_1 : w1.cell? ⟨w.heap.size, 1, none⟩ = some (.int .i64 0) := keep_cell hb1 (by simp [go_sem, *])
      have f1_0_1 : w1.frozen? ⟨w.heap.size, 1, none⟩ = false := keep_frozen hb1 (by first | omega | (simp <;> omega)) (by simp [go_sem, *])
      have y1_0 : w.heap.size < w1.heap.size := cell?_lt x1_0_0
      have g1 : Below w.heap.size w w1 := by (repeat (first | exact Below.refl _ _ | refine Below.drew ?_ | refine Below.allocS ?_ _ | refine Below.step ?_ (by assumption) | refine Below.setCell ?_ (by simp <;> omega) _ | refine Below.drewN' ?_ _))
      clear hb1
      go_wp2
      go_region
      go_wp2_with fail
      refine (HV.out _).mono ?_
      rintro e w2 ⟨rfl, hb2⟩
      have x2_0_0 : w2.cell? ⟨w.heap.size, 0, none⟩ = some (.int .i64 0) := keep_cell hb2 (by simp [go_sem, *])
      have f2_0_0 : w2.frozen? ⟨w.heap.size, 0, none⟩ = false := keep_frozen hb2 (by first | omega | (simp <;> omega)) (by simp [go_sem, *])
      have x2_0_1 : w2.cell? ⟨w.heap.size, 1, none⟩ = some (.int .i64 0) := keep_cell hb2 (by simp [go_sem, *])
      have f2_0_1 : w2.frozen? ⟨w.heap.size, 1, none⟩ = false := keep_frozen hb2 (by first | omega | (simp <;> omega)) (by simp [go_sem, *])
      have y2_0 : w.heap.size < w2.heap.size := cell?_lt x2_0_0
      have x2_1_0 : w2.cell? ⟨w1.heap.size, 0, none⟩ = some (.int .i64 p) := keep_cell hb2 (by simp [go_sem, *])
      have x2_1_1 : w2.cell? ⟨w1.heap.size, 1, none⟩ = some (.int .i64 q) := keep_cell hb2 (by simp [go_sem, *])
      have y2_1 : w1.heap.size < w2.heap.size := cell?_lt x2_1_0
      have g2 : Below w.heap.size w w2 := by (repeat (first | exact Below.refl _ _ | refine Below.drew ?_ | refine Below.allocS ?_ _ | refine Below.step ?_ (by assumption) | refine Below.setCell ?_ (by simp <;> omega) _ | refine Below.drewN' ?_ _))
      clear hb2 g1 x1_0_0 f1_0_0 x1_0_1 f1_0_1 y1_0
      go_wp2
      first
        | (refine bodyPost_ret (v := .tuple #[.agg #[.int .i64 0, .int .i64 0], .int .i64 4]) (by simp [results, Try.results100, go_sem, *] <;> (repeat' apply And.intro) <;> rfl) rfl ⟨rfl, ?_⟩
           (repeat (first | (with_reducible exact Below.refl _ _) | (with_reducible assumption) | (with_reducible refine Below.drew ?_) | (with_reducible refine Below.allocS ?_ _) | (with_reducible refine Below.setCell ?_ ?_ _) | (with_reducible refine Below.step ?_ (by assumption)) | (with_reducible refine Below.drewN' ?_ _))); (try any_goals (first | (with_reducible assumption) | (simp; done) | (simp; omega) | omega)))
        | (refine bodyPost_ret (v := .tuple #[.agg #[.int .i64 p, .int .i64 q], .int .i64 0]) (by simp [results, Try.results100, go_sem, *] <;> (repeat' apply And.intro) <;> rfl) rfl ⟨rfl, ?_⟩
           (repeat (first | (with_reducible exact Below.refl _ _) | (with_reducible assumption) | (with_reducible refine Below.drew ?_) | (with_reducible refine Below.allocS ?_ _) | (with_reducible refine Below.setCell ?_ ?_ _) | (with_reducible refine Below.step ?_ (by assumption)) | (with_reducible refine Below.drewN' ?_ _))); (try any_goals (first | (with_reducible assumption) | (simp; done) | (simp; omega) | omega)))
  · have m5 := m4 hneg
    rw [m5] at HD hg0 hgl
    obtain ⟨p, hp⟩ : ∃ p, n.tdiv G = p := ⟨_, rfl⟩
    obtain ⟨q, hq⟩ : ∃ q, d.tdiv G = q := ⟨_, rfl⟩
    rw [hp] at m1 HV ⊢
    rw [hq] at m2 HV ⊢
    rw [← hp] at m1
    rw [← hq] at m2
    have m1' : IntKind.i64.wrap (n.tdiv G) = p := m1.trans hp
    have m2' : IntKind.i64.wrap (d.tdiv G) = q := m2.trans hq
    clear hG m3 m4 m5 m1 m2 hp hq
    cases h : okRat p q
    all_goals
      rw [h] at HV
      clear h
      go_enter Try.func100, Try.ntmps100
      go_wp2_with fail
      refine (HD.out _).mono ?_
      rintro e w1 ⟨rfl, hb1⟩
      have x1_0_0 : w1.cell? ⟨w.heap.size, 0, none⟩ = some (.int .i64 0) := keep_cell hb1 (by simp [go_sem, *])
      have f1_0_0 : w1.frozen? ⟨w.heap.size, 0, none⟩ = false := keep_frozen hb1 (by first | omega | (simp <;> omega)) (by simp [go_sem, *])
      have x1_0_1 : w1.cell? ⟨w.heap.size, 1, none⟩ = some (.int .i64 0) := keep_cell hb1 (by simp [go_sem, *])
      have f1_0_1 : w1.frozen? ⟨w.heap.size, 1, none⟩ = false := keep_frozen hb1 (by first | omega | (simp <;> omega)) (by simp [go_sem, *])
      have y1_0 : w.heap.size < w1.heap.size := cell?_lt x1_0_0
      have g1 : Below w.heap.size w w1 := by (repeat (first | exact Below.refl _ _ | refine Below.drew ?_ | refine Below.allocS ?_ _ | refine Below.step ?_ (by assumption) | refine Below.setCell ?_ (by simp <;> omega) _ | refine Below.drewN' ?_ _))
      clear hb1
      go_wp2
      go_region
      go_wp2_with fail
      refine (HV.out _).mono ?_
      rintro e w2 ⟨rfl, hb2⟩
      have x2_0_0 : w2.cell? ⟨w.heap.size, 0, none⟩ = some (.int .i64 0) := keep_cell hb2 (by simp [go_sem, *])
      have f2_0_0 : w2.frozen? ⟨w.heap.size, 0, none⟩ = false := keep_frozen hb2 (by first | omega | (simp <;> omega)) (by simp [go_sem, *])
      have x2_0_1 : w2.cell? ⟨w.heap.size, 1, none⟩ = some (.int .i64 0) := keep_cell hb2 (by simp [go_sem, *])
      have f2_0_1 : w2.frozen? ⟨w.heap.size, 1, none⟩ = false := keep_frozen hb2 (by first | omega | (simp <;> omega)) (by simp [go_sem, *])
      have y2_0 : w.heap.size < w2.heap.size := cell?_lt x2_0_0
      have x2_1_0 : w2.cell? ⟨w1.heap.size, 0, none⟩ = some (.int .i64 p) := keep_cell hb2 (by simp [go_sem, *])
      have x2_1_1 : w2.cell? ⟨w1.heap.size, 1, none⟩ = some (.int .i64 q) := keep_cell hb2 (by simp [go_sem, *])
      have y2_1 : w1.heap.size < w2.heap.size := cell?_lt x2_1_0
      have g2 : Below w.heap.size w w2 := by (repeat (first | exact Below.refl _ _ | refine Below.drew ?_ | refine Below.allocS ?_ _ | refine Below.step ?_ (by assumption) | refine Below.setCell ?_ (by simp <;> omega) _ | refine Below.drewN' ?_ _))
      clear hb2 g1 x1_0_0 f1_0_0 x1_0_1 f1_0_1 y1_0
      go_wp2
      first
        | (refine bodyPost_ret (v := .tuple #[.agg #[.int .i64 0, .int .i64 0], .int .i64 4]) (by simp [results, Try.results100, go_sem, *] <;> (repeat' apply And.intro) <;> rfl) rfl ⟨rfl, ?_⟩
           (repeat (first | (with_reducible exact Below.refl _ _) | (with_reducible assumption) | (with_reducible refine Below.drew ?_) | (with_reducible refine Below.allocS ?_ _) | (with_reducible refine Below.setCell ?_ ?_ _) | (with_reducible refine Below.step ?_ (by assumption)) | (with_reducible refine Below.drewN' ?_ _))); (try any_goals (first | (with_reducible assumption) | (simp; done) | (simp; omega) | omega)))
        | (refine bodyPost_ret (v := .tuple #[.agg #[.int .i64 p, .int .i64 q], .int .i64 0]) (by simp [results, Try.results100, go_sem, *] <;> (repeat' apply And.intro) <;> rfl) rfl ⟨rfl, ?_⟩
           (repeat (first | (with_reducible exact Below.refl _ _) | (with_reducible assumption) | (with_reducible refine Below.drew ?_) | (with_reducible refine Below.allocS ?_ _) | (with_reducible refine Below.setCell ?_ ?_ _) | (with_reducible refine Below.step ?_ (by assumption)) | (with_reducible refine Below.drewN' ?_ _))); (try any_goals (first | (with_reducible assumption) | (simp; done) | (simp; omega) | omega)))

end Go.Proofs.Ytbcabckokmjelaa
