/-
  Contracts of floor, down, divisor, within, ValidRatio of span and of its reference.
-/
import Derived.Test.YtjkcgbidceakjaaDoorD2
import Derived.Test.YtjkcgbidceakjaaDoorM1
import Derived.Deep.DeepCutAuto
namespace Go.Proofs.YtjkcgbidceakjaaDoor
open Go.RowKit
set_option linter.unusedVariables false
set_option linter.unusedSimpArgs false
def Fit (a : Int) : Prop := -4000000000000000000 ≤ a ∧ a ≤ 4000000000000000000
theorem fit_tmod {a b : Int} (h : b ≠ 0) (hb : Fit b) : Fit (a.tmod b) := by
  have := tmod_bd a b h
  unfold Fit at *
  omega
theorem gcdI_end (a : Int) : gcdI a 0 = max a (-a) := by rw [gcdI_zero]; split <;> omega
theorem divisor_c (a b : Int) (ha : Fit a) (hb : Fit b) (w : World) : Calls Tryd.prog 78 #[.int .i64 a, .int .i64 b] w fun e w' => e = .returned (.int .i64 (gcdI a b)) ∧ Below w.heap.size w w' := by
  go_enter Tryd.func78, Tryd.ntmps78
  go_wp2
  go_loopw [0, 1] (fun x y wr => ∃ p q : Int, x = .int .i64 p ∧ y = .int .i64 q ∧ Fit p ∧ Fit q ∧ gcdI a b = gcdI p q ∧ Below w.heap.size w wr) (fun _ y _ => (intOf y).natAbs)
  case atStart => exact ⟨a, b, rfl, rfl, ha, hb, rfl, by (repeat (first | exact Below.refl _ _ | refine Below.drew ?_ | refine Below.allocS ?_ _ | refine Below.step ?_ (by assumption) | refine Below.setCell ?_ (by simp <;> omega) _ | refine Below.drewN' ?_ _))⟩
  case round =>
    obtain ⟨p, q, rfl, rfl, h1, h2, hg, hbw⟩ := hrel
    by_cases hq : q = 0
    · subst hq
      rw [gcdI_end] at hg
      unfold Fit at h1
      go_wp2
      all_goals
        refine bodyPost_ret (v := .int .i64 (max p (-p))) (by simp [results, Tryd.results78, go_sem, *] <;> (repeat' apply And.intro) <;> (first | rfl | omega)) rfl ⟨rfl, ?_⟩
        (repeat (first | (with_reducible exact Below.refl _ _) | (with_reducible assumption) | (with_reducible refine Below.drew ?_) | (with_reducible refine Below.allocS ?_ _) | (with_reducible refine Below.setCell ?_ ?_ _) | (with_reducible refine Below.step ?_ (by assumption)) | (with_reducible refine Below.drewN' ?_ _))); (try any_goals (first | (with_reducible assumption) | (simp; done) | (simp; omega) | omega))
    · have hm := tmod_bd p q hq
      have hf := fit_tmod (a := p) hq h2
      have hs := gcdI_step p q
      unfold Fit at h1
      have h2' := h2
      unfold Fit at h2'
      go_wp2
      go_quiet (fail)
      go_roundw
      case rel =>
        (repeat apply Exists.intro)
        exact ⟨⟨q, p.tmod q, rfl, rfl, h2, hf, by rw [hg, hs], by (repeat (first | (with_reducible exact Below.refl _ _) | (with_reducible assumption) | (with_reducible refine Below.drew ?_) | (with_reducible refine Below.allocS ?_ _) | (with_reducible refine Below.setCell ?_ ?_ _) | (with_reducible refine Below.step ?_ (by assumption)) | (with_reducible refine Below.drewN' ?_ _))); (try any_goals (first | (with_reducible assumption) | (simp; done) | (simp; omega) | omega))⟩, rfl⟩
      case measure => show (p.tmod q).natAbs < q.natAbs; omega
theorem rdivisor_c (a b : Int) (ha : Fit a) (hb : Fit b) (w : World) : Calls Tryd.prog 79 #[.int .i64 a, .int .i64 b] w fun e w' => e = .returned (.int .i64 (gcdI a b)) ∧ Below w.heap.size w w' := by
  have ha' := ha
  have hb' := hb
  unfold Fit at ha' hb'
  obtain ⟨A, hA, ha0, hgA⟩ : ∃ A : Int, A = max a (-a) ∧ 0 ≤ A ∧ True := ⟨_, rfl, by omega, trivial⟩
  obtain ⟨B, hB, hb0, hgB⟩ : ∃ B : Int, B = max b (-b) ∧ 0 ≤ B ∧ gcdI a b = gcdI A B := by
    refine ⟨_, rfl, by omega, ?_⟩
    rw [hA]
    unfold gcdI Int.gcd
    congr 2 <;> omega
  go_enter Tryd.func79, Tryd.ntmps79
  have hA' : Fit A := by unfold Fit; omega
  have hB' : Fit B := by unfold Fit; omega
  go_wp2
  all_goals
    go_loopw [0, 1] (fun x y wr => ∃ p q : Int, x = .int .i64 p ∧ y = .int .i64 q ∧ 0 ≤ p ∧ 0 ≤ q ∧ Fit p ∧ Fit q ∧ gcdI a b = gcdI p q ∧ Below w.heap.size w wr) (fun _ y _ => (intOf y).natAbs)
    case atStart => exact ⟨A, B, by congr 1; omega, by congr 1; omega, ha0, hb0, hA', hB', hgB, by (repeat (first | exact Below.refl _ _ | refine Below.drew ?_ | refine Below.allocS ?_ _ | refine Below.step ?_ (by assumption) | refine Below.setCell ?_ (by simp <;> omega) _ | refine Below.drewN' ?_ _))⟩
    case round =>
      obtain ⟨p, q, rfl, rfl, hp0, hq0, h1, h2, hg, hbw⟩ := hrel
      by_cases hq : q = 0
      · subst hq
        rw [gcdI_end] at hg
        have hmx : max p (-p) = p := by omega
        rw [hmx] at hg
        go_wp2
        refine bodyPost_ret (v := .int .i64 p) (by simp [results, Tryd.results79, go_sem, *]) rfl ⟨(by first | rfl | rw [hg]), ?_⟩
        (repeat (first | (with_reducible exact Below.refl _ _) | (with_reducible assumption) | (with_reducible refine Below.drew ?_) | (with_reducible refine Below.allocS ?_ _) | (with_reducible refine Below.setCell ?_ ?_ _) | (with_reducible refine Below.step ?_ (by assumption)) | (with_reducible refine Below.drewN' ?_ _))); (try any_goals (first | (with_reducible assumption) | (simp; done) | (simp; omega) | omega))
      · have hm := tmod_bd p q hq
        have hf := fit_tmod (a := p) hq h2
        have hs := gcdI_step p q
        have hn : 0 ≤ p.tmod q := Int.tmod_nonneg _ hp0
        have ht : p.tmod q = p % q := Int.tmod_eq_emod_of_nonneg hp0
        rw [ht] at hm hf hs hn
        clear ht
        unfold Fit at h1
        have h2' := h2
        unfold Fit at h2'
        go_wp2
        go_quiet (fail)
        go_roundw
        case rel =>
          (repeat apply Exists.intro)
          exact ⟨⟨q, p % q, rfl, rfl, hq0, hn, h2, hf, by rw [hg, hs], by (repeat (first | (with_reducible exact Below.refl _ _) | (with_reducible assumption) | (with_reducible refine Below.drew ?_) | (with_reducible refine Below.allocS ?_ _) | (with_reducible refine Below.setCell ?_ ?_ _) | (with_reducible refine Below.step ?_ (by assumption)) | (with_reducible refine Below.drewN' ?_ _))); (try any_goals (first | (with_reducible assumption) | (simp; done) | (simp; omega) | omega))⟩, rfl⟩
        case measure => show (p % q).natAbs < q.natAbs; omega
theorem within_c (n lo hi : Int) (w : World) : Calls Tryd.prog 66 #[.int .i64 n, .int .i64 lo, .int .i64 hi] w fun e w' => e = .returned (.bool (decide (lo ≤ n) && decide (n ≤ hi))) ∧ w' = w := by
  by_cases h1 : lo ≤ n
  · by_cases h2 : n ≤ hi
    · simp only [decide_eq_true h1, decide_eq_true h2, Bool.and_self]
      go_enter Tryd.func66, Tryd.ntmps66
      go_wp2
      go_ret
      exact ⟨(by first | rfl | (simp; done) | (simp; omega) | (simp [*]; done)), rfl⟩
    · simp only [decide_eq_true h1, decide_eq_false h2, Bool.and_false]
      go_enter Tryd.func66, Tryd.ntmps66
      go_wp2
      go_ret
      exact ⟨(by first | rfl | (simp; done) | (simp; omega) | (simp [*]; done)), rfl⟩
  · simp only [decide_eq_false h1, Bool.false_and]
    go_enter Tryd.func66, Tryd.ntmps66
    go_wp2
    go_ret
    exact ⟨(by first | rfl | (simp; done) | (simp; omega) | (simp [*]; done)), rfl⟩
theorem floor_c (n d : Int) (hn : Fit n) (hd : 0 < d) (hd' : d ≤ 4000000000000000000) (w : World) : Calls Tryd.prog 76 #[.int .i64 n, .int .i64 d] w fun e w' => e = .returned (.int .i64 (n / d)) ∧ w' = w := by
  have hb : Int.natAbs (n.tdiv d) ≤ Int.natAbs n := by rw [Int.natAbs_tdiv]; exact Nat.div_le_self _ _
  unfold Fit at hn
  by_cases h : n.tmod d < 0
  · rw [floor_lt hd h]
    go_enter Tryd.func76, Tryd.ntmps76
    go_wp2
    go_ret
    exact ⟨(by first | rfl | (simp; done) | (simp; omega) | (simp [*]; done)), rfl⟩
  · rw [floor_ge hd (by omega)]
    go_enter Tryd.func76, Tryd.ntmps76
    go_wp2
    go_ret
    exact ⟨(by first | rfl | (simp; done) | (simp; omega) | (simp [*]; done)), rfl⟩
theorem down_c (n d : Int) (hn : Fit n) (hd : 0 < d) (hd' : d ≤ 4000000000000000000) (w : World) : Calls Tryd.prog 77 #[.int .i64 n, .int .i64 d] w fun e w' => e = .returned (.int .i64 (n / d)) ∧ w' = w := by
  have hb : Int.natAbs (n.tdiv d) ≤ Int.natAbs n := by rw [Int.natAbs_tdiv]; exact Nat.div_le_self _ _
  unfold Fit at hn
  by_cases h : n.tmod d < 0
  · rw [floor_lt hd h]
    go_enter Tryd.func77, Tryd.ntmps77
    go_wp2
    go_ret
    exact ⟨(by first | rfl | (simp; done) | (simp; omega) | (simp [*]; done)), rfl⟩
  · rw [floor_ge hd (by omega)]
    go_enter Tryd.func77, Tryd.ntmps77
    go_wp2
    go_ret
    exact ⟨(by first | rfl | (simp; done) | (simp; omega) | (simp [*]; done)), rfl⟩
end Go.Proofs.YtjkcgbidceakjaaDoor
