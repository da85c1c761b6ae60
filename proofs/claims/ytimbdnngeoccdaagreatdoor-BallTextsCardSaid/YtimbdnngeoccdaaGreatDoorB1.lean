/-
  Plain words of the mast, and contracts of the small functions of ball and of its reference.
-/
import Derived.Test.YtimbdnngeoccdaaGreatDoorPre
import Derived.Test.YtimbdnngeoccdaaGreatDoorPre2
import Derived.BigQuiet
import Derived.Deep.QuietTactic
namespace Go.Proofs.YtimbdnngeoccdaaGreatDoor
open Go.RowKit
set_option linter.unusedVariables false

structure Ms where
  noon : Int
  half : Int
  full : Int
  late : Int
  again : Int
  wind : Int
structure Bl where
  place : Int
  wind : Int
  flag : Bool
  at' : Int
structure Ev where
  at' : Int
  kind : Int
  n : Int
def bl0 : Bl := ⟨0, 0, false, 0⟩

def within (n lo hi : Int) : Bool := decide (lo ≤ n) && decide (n ≤ hi)
theorem within_true {n lo hi : Int} (h : within n lo hi = true) : lo ≤ n ∧ n ≤ hi := by simpa [within] using h
theorem within_false {n lo hi : Int} (h : within n lo hi = false) : n < lo ∨ hi < n := by
  simp only [within, Bool.and_eq_false_iff, decide_eq_false_iff_not] at h; omega
theorem within_iff {n lo hi : Int} : within n lo hi = true ↔ lo ≤ n ∧ n ≤ hi := by simp [within]

theorem within_c (n lo hi : Int) (w : World) :
    Calls Tryz.prog 55 #[.int .i64 n, .int .i64 lo, .int .i64 hi] w fun e w' => e = .returned (.bool (within n lo hi)) ∧ w = w' := by
  by_cases h : lo ≤ n
  all_goals
    go_enter Tryz.func55, Tryz.ntmps55
    go_wp2
    go_ret
    exact ⟨by simp [within] <;> omega, rfl⟩
theorem rwithin_c (n lo hi : Int) (w : World) :
    Calls Tryz.prog 88 #[.int .i64 n, .int .i64 lo, .int .i64 hi] w fun e w' => e = .returned (.bool (within n lo hi)) ∧ w = w' := by
  by_cases h : lo ≤ n
  all_goals
    go_enter Tryz.func88, Tryz.ntmps88
    go_wp2
    go_ret
    exact ⟨by simp [within] <;> omega, rfl⟩

def okMast (x : Ms) : Bool := within x.noon 0 86399999 && (decide (1000 ≤ x.full) && (decide (x.full < x.half) && (decide (x.half ≤ 3600000) && (decide (x.half ≤ x.noon) && (within x.late 0 1000 && (within x.again x.half 7200000 && (decide (x.noon + x.again < 86400000) && within x.wind 0 1000)))))))
structure OkMast (x : Ms) : Prop where
  n0 : 0 ≤ x.noon
  n1 : x.noon ≤ 86399999
  f0 : 1000 ≤ x.full
  fh : x.full < x.half
  h1 : x.half ≤ 3600000
  hn : x.half ≤ x.noon
  l0 : 0 ≤ x.late
  l1 : x.late ≤ 1000
  a0 : x.half ≤ x.again
  a1 : x.again ≤ 7200000
  na : x.noon + x.again < 86400000
  w0 : 0 ≤ x.wind
  w1 : x.wind ≤ 1000
theorem okMast_true {x : Ms} (h : okMast x = true) : OkMast x := by
  simp only [okMast, Bool.and_eq_true, within_iff, decide_eq_true_eq] at h
  obtain ⟨⟨a, b⟩, c, d, e, f, ⟨g, i⟩, ⟨j, k⟩, l, m, n⟩ := h
  exact ⟨a, b, c, d, e, f, g, i, j, k, l, m, n⟩
def msV (x : Ms) : Value := .agg #[.int .i64 x.noon, .int .i64 x.half, .int .i64 x.full, .int .i64 x.late, .int .i64 x.again, .int .i64 x.wind]
def blV (s : Bl) : Value := .agg #[.int .i64 s.place, .int .i64 s.wind, .bool s.flag, .int .i64 s.at']
def evV (e : Ev) : Value := .agg #[.int .i64 e.at', .int .i64 e.kind, .int .i64 e.n]

theorem mast_cases (x : Ms) : (okMast x = false ∧ (within x.noon 0 86399999 = false ∨ within x.noon 0 86399999 = true ∧ (x.full < 1000 ∨ 1000 ≤ x.full ∧ (x.half ≤ x.full ∨ x.full < x.half ∧ (3600000 < x.half ∨ x.half ≤ 3600000 ∧ (x.noon < x.half ∨ x.half ≤ x.noon ∧ (within x.late 0 1000 = false ∨ within x.late 0 1000 = true ∧ (within x.again x.half 7200000 = false ∨ within x.again x.half 7200000 = true ∧ (86400000 ≤ x.noon + x.again ∨ x.noon + x.again < 86400000 ∧ within x.wind 0 1000 = false))))))))) ∨ (okMast x = true ∧ within x.noon 0 86399999 = true ∧ 1000 ≤ x.full ∧ x.full < x.half ∧ x.half ≤ 3600000 ∧ x.half ≤ x.noon ∧ within x.late 0 1000 = true ∧ within x.again x.half 7200000 = true ∧ x.noon + x.again < 86400000 ∧ within x.wind 0 1000 = true) := by
  unfold okMast
  cases within x.noon 0 86399999 <;> cases within x.late 0 1000 <;> cases within x.again x.half 7200000 <;> cases within x.wind 0 1000 <;> simp <;> omega

set_option maxHeartbeats 1000000 in
theorem validMast_c (x : Ms) (w : World) :
    Calls Tryz.prog 43 #[msV x] w fun e w' => e = .returned (.bool (okMast x)) ∧ Below w.heap.size w w' := by
  unfold msV
  rcases mast_cases x with ⟨h, h1 | ⟨h1, h2 | ⟨h2, h3 | ⟨h3, h4 | ⟨h4, h5 | ⟨h5, h6 | ⟨h6, h7 | ⟨h7, h8 | ⟨h8, h9⟩⟩⟩⟩⟩⟩⟩⟩⟩ | ⟨h, h1, h2, h3, h4, h5, h6, h7, h8, h9⟩
  all_goals
    rw [h]
    clear h
    have hn := Lib.hid h1
    (try have hb := within_true h1)
    (try have hc := within_true h7)
    go_enter Tryz.func43, Tryz.ntmps43
    go_wp2_with (go_at_call 55; (with_reducible refine (within_c _ _ _ _).mono ?_); rintro e w' ⟨rfl, rfl⟩)
    go_ret
    exact ⟨(by first | rfl | (simp; done) | (simp; omega) | (simp [*]; done)), by (repeat (first | exact Below.refl _ _ | refine Below.drew ?_ | refine Below.allocS ?_ _ | refine Below.step ?_ (by assumption) | refine Below.setCell ?_ (by simp <;> omega) _ | refine Below.drewN' ?_ _))⟩
def okBall (s : Bl) : Bool := within s.place 0 3 && (within s.wind 0 1000 && within s.at' 0 86399999)
theorem okBall_true {s : Bl} (h : okBall s = true) : (0 ≤ s.place ∧ s.place ≤ 3) ∧ (0 ≤ s.wind ∧ s.wind ≤ 1000) ∧ 0 ≤ s.at' ∧ s.at' ≤ 86399999 := by
  simpa [okBall, within_iff] using h
def fineB (e : Ev) : Bool := within e.at' 0 86399999 && (within e.kind 1 6 && (within e.n 0 1000 && (decide (e.kind = 1) || decide (e.n = 0))))
theorem fineB_true {e : Ev} (h : fineB e = true) : (0 ≤ e.at' ∧ e.at' ≤ 86399999) ∧ (1 ≤ e.kind ∧ e.kind ≤ 6) ∧ (0 ≤ e.n ∧ e.n ≤ 1000) ∧ (e.kind = 1 ∨ e.n = 0) := by
  simpa [fineB, within_iff] using h
theorem fine_c (e : Ev) (w : World) :
    Calls Tryz.prog 30 #[evV e] w fun r w' => r = .returned (.bool (fineB e)) ∧ Below w.heap.size w w' := by
  unfold evV
  have hall : (fineB e = false ∧ (within e.at' 0 86399999 = false ∨ within e.at' 0 86399999 = true ∧ (within e.kind 1 6 = false ∨ within e.kind 1 6 = true ∧ (within e.n 0 1000 = false ∨ within e.n 0 1000 = true ∧ ((e.kind == 1) = false ∧ (e.n == 0) = false))))) ∨ (fineB e = true ∧ within e.at' 0 86399999 = true ∧ within e.kind 1 6 = true ∧ within e.n 0 1000 = true ∧ ((e.kind == 1) = true ∨ (e.kind == 1) = false ∧ (e.n == 0) = true)) := by
    unfold fineB
    cases within e.at' 0 86399999 <;> cases within e.kind 1 6 <;> cases within e.n 0 1000 <;> by_cases h4 : e.kind = 1 <;> by_cases h5 : e.n = 0 <;> simp [h4, h5]
  rcases hall with ⟨h, h1 | ⟨h1, h2 | ⟨h2, h3 | ⟨h3, h4, h5⟩⟩⟩⟩ | ⟨h, h1, h2, h3, h4 | ⟨h4, h5⟩⟩
  all_goals
    rw [h]
    clear h
    have hn := Lib.hid h1
    (try have hA := Lib.hid h2)
    (try have hB := Lib.hid h3)
    (try generalize e.kind = k at *)
    go_enter Tryz.func30, Tryz.ntmps30
    go_wp2_with (first | (go_at_call 55; (with_reducible refine (within_c _ _ _ _).mono ?_); rintro e w' ⟨rfl, rfl⟩))
    go_ret
    exact ⟨by first | rfl | (simp [*]; done) | (have h6 := hA.out; have h7 := hB.out; simp [*]), by (repeat (first | exact Below.refl _ _ | refine Below.drew ?_ | refine Below.allocS ?_ _ | refine Below.step ?_ (by assumption) | refine Below.setCell ?_ (by simp <;> omega) _ | refine Below.drewN' ?_ _))⟩
def soundE (e : Ev) : Int := if fineB e = true then 0 else 7
end Go.Proofs.YtimbdnngeoccdaaGreatDoor
