/-
  Contracts of the spans of span and of its reference: ValidSpan, all, told, Sum, Opposite, Hull, Meet, Wider.
-/
import Derived.Test.YtjkcgbidceakjaaDoorPre
import Derived.Test.YtjkcgbidceakjaaDoorPre2
import Derived.Test.YtjkcgbidceakjaaDoorTypes
import Derived.Test.YtjkcgbidceakjaaDoorM2
import Derived.BigQuiet
import Derived.Deep.QuietTactic
import Derived.IntWalk
import Derived.Outline
namespace Go.Proofs.YtjkcgbidceakjaaDoor
open Go.RowKit
set_option linter.unusedVariables false
theorem okSpan_true {a b : Int} (h : okSpan a b = true) : -1000000000000 ≤ a ∧ a ≤ b ∧ b ≤ 1000000000000 := by simpa [okSpan] using h
theorem span_cases (a b : Int) : (okSpan a b = false ∧ (a < -1000000000000 ∨ -1000000000000 ≤ a ∧ (b < a ∨ a ≤ b ∧ 1000000000000 < b))) ∨ (okSpan a b = true ∧ -1000000000000 ≤ a ∧ a ≤ b ∧ b ≤ 1000000000000) := by
  cases h : okSpan a b
  · left
    refine ⟨rfl, ?_⟩
    simp only [okSpan, Bool.and_eq_false_iff, decide_eq_false_iff_not] at h
    omega
  · exact Or.inr ⟨rfl, okSpan_true h⟩
def R3 := Int × Int × Int
def retV (r : Int × Int × Int) : Value := .tuple #[.agg #[.int .i64 r.1, .int .i64 r.2.1], .int .i64 r.2.2]
def tell (a b : Int) : Int × Int × Int := if okSpan a b then (a, b, 0) else (0, 0, 4)
def spE (p : Int × Int) : List Value := [.int .i64 p.1, .int .i64 p.2]
def sumR (a b c d : Int) : Int × Int × Int := if okSpan a b && okSpan c d then tell (a + c) (b + d) else (0, 0, 1)
def oppR (a b : Int) : Int × Int × Int := if okSpan a b then (-b, -a, 0) else (0, 0, 1)
def hullR (a b c d : Int) : Int × Int × Int := if okSpan a b && okSpan c d then (min a c, max b d, 0) else (0, 0, 1)
def meetR (a b c d : Int) : Int × Int × Int := if okSpan a b && okSpan c d then (if min b d < max a c then (0, 0, 8) else (max a c, min b d, 0)) else (0, 0, 1)
def widR (a b n : Int) : Int × Int × Int := if okSpan a b then (if n < 0 then (0, 0, 7) else if 4000000000000 < n then (0, 0, 4) else tell (a - n) (b + n)) else (0, 0, 1)

theorem ValidSpan_c (a b : Int) (w : World) : Calls Tryd.prog 27 #[.agg #[.int .i64 a, .int .i64 b]] w fun e w' => e = .returned (.bool (okSpan a b)) ∧ Below w.heap.size w w' := by
  rcases span_cases a b with ⟨h, h1 | ⟨h1, h2 | ⟨h2, h3⟩⟩⟩ | ⟨h, h1, h2, h3⟩
  all_goals
    rw [h]
    clear h
    go_enter Tryd.func27, Tryd.ntmps27
    go_wp2
    go_ret
    exact ⟨(by first | rfl | (simp; done) | (simp; omega) | (simp [*]; done)), by (repeat (first | (with_reducible exact Below.refl _ _) | (with_reducible assumption) | (with_reducible refine Below.drew ?_) | (with_reducible refine Below.allocS ?_ _) | (with_reducible refine Below.setCell ?_ ?_ _) | (with_reducible refine Below.step ?_ (by assumption)) | (with_reducible refine Below.drewN' ?_ _))); (try any_goals (first | (with_reducible assumption) | (simp; done) | (simp; omega) | omega))⟩

theorem rValidSpan_c (a b : Int) (w : World) : Calls Tryd.prog 28 #[.agg #[.int .i64 a, .int .i64 b]] w fun e w' => e = .returned (.bool (okSpan a b)) ∧ Below w.heap.size w w' := by
  rcases span_cases a b with ⟨h, h1 | ⟨h1, h2 | ⟨h2, h3⟩⟩⟩ | ⟨h, h1, h2, h3⟩
  all_goals
    rw [h]
    clear h
    go_enter Tryd.func28, Tryd.ntmps28
    go_wp2
    go_ret
    exact ⟨(by first | rfl | (simp; done) | (simp; omega) | (simp [*]; done)), by (repeat (first | (with_reducible exact Below.refl _ _) | (with_reducible assumption) | (with_reducible refine Below.drew ?_) | (with_reducible refine Below.allocS ?_ _) | (with_reducible refine Below.setCell ?_ ?_ _) | (with_reducible refine Below.step ?_ (by assumption)) | (with_reducible refine Below.drewN' ?_ _))); (try any_goals (first | (with_reducible assumption) | (simp; done) | (simp; omega) | omega))⟩

theorem told_c (a b : Int) (w : World) : Calls Tryd.prog 61 #[.int .i64 a, .int .i64 b] w fun e w' => e = .returned (retV (tell a b)) ∧ Below w.heap.size w w' := by
  have HV := Lib.hid (fun W => ValidSpan_c a b W)
  unfold tell
  cases h : okSpan a b
  · rw [h] at HV
    clear h
    go_enter Tryd.func61, Tryd.ntmps61
    go_wp2_with fail
    refine (HV.out _).mono ?_
    rintro e w1 ⟨rfl, hb1⟩
    have x1_0_0 : w1.cell? ⟨w.heap.size, 0, none⟩ = some (.int .i64 0) := keep_cell hb1 (by simp [go_sem, *])
    have f1_0_0 : w1.frozen? ⟨w.heap.size, 0, none⟩ = false := keep_frozen hb1 (by first | omega | (simp <;> omega)) (by simp [go_sem, *])
    have x1_0_1 : w1.cell? ⟨w.heap.size, 1, none⟩ = some (.int .i64 0) := keep_cell hb1 (by simp [go_sem, *])
    have f1_0_1 : w1.frozen? ⟨w.heap.size, 1, none⟩ = false := keep_frozen hb1 (by first | omega | (simp <;> omega)) (by simp [go_sem, *])
    have y1_0 : w.heap.size < w1.heap.size := cell?_lt x1_0_0
    have x1_1_0 : w1.cell? ⟨w.heap.size + 1, 0, none⟩ = some (.int .i64 a) := keep_cell hb1 (by simp [go_sem, *])
    have x1_1_1 : w1.cell? ⟨w.heap.size + 1, 1, none⟩ = some (.int .i64 b) := keep_cell hb1 (by simp [go_sem, *])
    have y1_1 : w.heap.size + 1 < w1.heap.size := cell?_lt x1_1_0
    have g1 : Below w.heap.size w w1 := by (repeat (first | exact Below.refl _ _ | refine Below.drew ?_ | refine Below.allocS ?_ _ | refine Below.step ?_ (by assumption) | refine Below.setCell ?_ (by simp <;> omega) _ | refine Below.drewN' ?_ _))
    clear hb1
    go_wp2
    refine bodyPost_ret (v := .tuple #[.agg #[.int .i64 0, .int .i64 0], .int .i64 4]) (by simp [results, Tryd.results61, go_sem, *] <;> (repeat' apply And.intro) <;> rfl) rfl ⟨rfl, ?_⟩
    (repeat (first | (with_reducible exact Below.refl _ _) | (with_reducible assumption) | (with_reducible refine Below.drew ?_) | (with_reducible refine Below.allocS ?_ _) | (with_reducible refine Below.setCell ?_ ?_ _) | (with_reducible refine Below.step ?_ (by assumption)) | (with_reducible refine Below.drewN' ?_ _))); (try any_goals (first | (with_reducible assumption) | (simp; done) | (simp; omega) | omega))
  · rw [h] at HV
    clear h
    go_enter Tryd.func61, Tryd.ntmps61
    go_wp2_with fail
    refine (HV.out _).mono ?_
    rintro e w1 ⟨rfl, hb1⟩
    have x1_0_0 : w1.cell? ⟨w.heap.size, 0, none⟩ = some (.int .i64 0) := keep_cell hb1 (by simp [go_sem, *])
    have f1_0_0 : w1.frozen? ⟨w.heap.size, 0, none⟩ = false := keep_frozen hb1 (by first | omega | (simp <;> omega)) (by simp [go_sem, *])
    have x1_0_1 : w1.cell? ⟨w.heap.size, 1, none⟩ = some (.int .i64 0) := keep_cell hb1 (by simp [go_sem, *])
    have f1_0_1 : w1.frozen? ⟨w.heap.size, 1, none⟩ = false := keep_frozen hb1 (by first | omega | (simp <;> omega)) (by simp [go_sem, *])
    have y1_0 : w.heap.size < w1.heap.size := cell?_lt x1_0_0
    have x1_1_0 : w1.cell? ⟨w.heap.size + 1, 0, none⟩ = some (.int .i64 a) := keep_cell hb1 (by simp [go_sem, *])
    have x1_1_1 : w1.cell? ⟨w.heap.size + 1, 1, none⟩ = some (.int .i64 b) := keep_cell hb1 (by simp [go_sem, *])
    have y1_1 : w.heap.size + 1 < w1.heap.size := cell?_lt x1_1_0
    have g1 : Below w.heap.size w w1 := by (repeat (first | exact Below.refl _ _ | refine Below.drew ?_ | refine Below.allocS ?_ _ | refine Below.step ?_ (by assumption) | refine Below.setCell ?_ (by simp <;> omega) _ | refine Below.drewN' ?_ _))
    clear hb1
    go_wp2
    refine bodyPost_ret (v := .tuple #[.agg #[.int .i64 a, .int .i64 b], .int .i64 0]) (by simp [results, Tryd.results61, go_sem, *] <;> (repeat' apply And.intro) <;> rfl) rfl ⟨rfl, ?_⟩
    (repeat (first | (with_reducible exact Below.refl _ _) | (with_reducible assumption) | (with_reducible refine Below.drew ?_) | (with_reducible refine Below.allocS ?_ _) | (with_reducible refine Below.setCell ?_ ?_ _) | (with_reducible refine Below.step ?_ (by assumption)) | (with_reducible refine Below.drewN' ?_ _))); (try any_goals (first | (with_reducible assumption) | (simp; done) | (simp; omega) | omega))

theorem checked_c (a b : Int) (w : World) : Calls Tryd.prog 63 #[.int .i64 a, .int .i64 b] w fun e w' => e = .returned (retV (tell a b)) ∧ Below w.heap.size w w' := by
  have HV := Lib.hid (fun W => rValidSpan_c a b W)
  unfold tell
  cases h : okSpan a b
  · rw [h] at HV
    clear h
    go_enter Tryd.func63, Tryd.ntmps63
    go_wp2_with fail
    refine (HV.out _).mono ?_
    rintro e w1 ⟨rfl, hb1⟩
    have x1_0_0 : w1.cell? ⟨w.heap.size, 0, none⟩ = some (.int .i64 0) := keep_cell hb1 (by simp [go_sem, *])
    have f1_0_0 : w1.frozen? ⟨w.heap.size, 0, none⟩ = false := keep_frozen hb1 (by first | omega | (simp <;> omega)) (by simp [go_sem, *])
    have x1_0_1 : w1.cell? ⟨w.heap.size, 1, none⟩ = some (.int .i64 0) := keep_cell hb1 (by simp [go_sem, *])
    have f1_0_1 : w1.frozen? ⟨w.heap.size, 1, none⟩ = false := keep_frozen hb1 (by first | omega | (simp <;> omega)) (by simp [go_sem, *])
    have y1_0 : w.heap.size < w1.heap.size := cell?_lt x1_0_0
    have g1 : Below w.heap.size w w1 := by (repeat (first | exact Below.refl _ _ | refine Below.drew ?_ | refine Below.allocS ?_ _ | refine Below.step ?_ (by assumption) | refine Below.setCell ?_ (by simp <;> omega) _ | refine Below.drewN' ?_ _))
    clear hb1
    go_wp2
    refine bodyPost_ret (v := .tuple #[.agg #[.int .i64 0, .int .i64 0], .int .i64 4]) (by simp [results, Tryd.results63, go_sem, *] <;> (repeat' apply And.intro) <;> rfl) rfl ⟨rfl, ?_⟩
    (repeat (first | (with_reducible exact Below.refl _ _) | (with_reducible assumption) | (with_reducible refine Below.drew ?_) | (with_reducible refine Below.allocS ?_ _) | (with_reducible refine Below.setCell ?_ ?_ _) | (with_reducible refine Below.step ?_ (by assumption)) | (with_reducible refine Below.drewN' ?_ _))); (try any_goals (first | (with_reducible assumption) | (simp; done) | (simp; omega) | omega))
  · rw [h] at HV
    clear h
    go_enter Tryd.func63, Tryd.ntmps63
    go_wp2_with fail
    refine (HV.out _).mono ?_
    rintro e w1 ⟨rfl, hb1⟩
    have x1_0_0 : w1.cell? ⟨w.heap.size, 0, none⟩ = some (.int .i64 0) := keep_cell hb1 (by simp [go_sem, *])
    have f1_0_0 : w1.frozen? ⟨w.heap.size, 0, none⟩ = false := keep_frozen hb1 (by first | omega | (simp <;> omega)) (by simp [go_sem, *])
    have x1_0_1 : w1.cell? ⟨w.heap.size, 1, none⟩ = some (.int .i64 0) := keep_cell hb1 (by simp [go_sem, *])
    have f1_0_1 : w1.frozen? ⟨w.heap.size, 1, none⟩ = false := keep_frozen hb1 (by first | omega | (simp <;> omega)) (by simp [go_sem, *])
    have y1_0 : w.heap.size < w1.heap.size := cell?_lt x1_0_0
    have g1 : Below w.heap.size w w1 := by (repeat (first | exact Below.refl _ _ | refine Below.drew ?_ | refine Below.allocS ?_ _ | refine Below.step ?_ (by assumption) | refine Below.setCell ?_ (by simp <;> omega) _ | refine Below.drewN' ?_ _))
    clear hb1
    go_wp2
    refine bodyPost_ret (v := .tuple #[.agg #[.int .i64 a, .int .i64 b], .int .i64 0]) (by simp [results, Tryd.results63, go_sem, *] <;> (repeat' apply And.intro) <;> rfl) rfl ⟨rfl, ?_⟩
    (repeat (first | (with_reducible exact Below.refl _ _) | (with_reducible assumption) | (with_reducible refine Below.drew ?_) | (with_reducible refine Below.allocS ?_ _) | (with_reducible refine Below.setCell ?_ ?_ _) | (with_reducible refine Below.step ?_ (by assumption)) | (with_reducible refine Below.drewN' ?_ _))); (try any_goals (first | (with_reducible assumption) | (simp; done) | (simp; omega) | omega))

theorem all_c (l : List (Int × Int)) (n : Nat) (hn : l.length = n) (A : Option Addr) (cap : Nat) (hl : n ≤ 9223372036854775807) (w : World) (hr : RdL w w.heap.size spE 2 A l) :
    Calls Tryd.prog 60 #[.slice A n cap] w fun e w' => e = .returned (.bool (l.all fun p => okSpan p.1 p.2)) ∧ Below w.heap.size w w' := by
  subst hn
  have HR := Lib.hid hr
  clear hr
  go_enter Tryd.func60, Tryd.ntmps60
  go_wp2
  go_loopw [7] (fun i wr => ∃ k : Nat, k ≤ l.length ∧ i = .int .i64 k ∧ Below w.heap.size w wr ∧ (l.all fun p => okSpan p.1 p.2) = (l.drop k).all fun p => okSpan p.1 p.2) (fun i _ => l.length - (intOf i).toNat)
  case atStart => exact ⟨0, Nat.zero_le _, rfl, Below.refl _ _, rfl⟩
  case round =>
    obtain ⟨k, hk, rfl, hbw, hx⟩ := hrel
    have HX := Lib.hid hx
    clear hx
    by_cases hlt : k < l.length
    · obtain ⟨b, off, rfl, hb0, hc⟩ := HR.out (by omega)
      have c0 := (hbw.cell (p := ⟨b, _, none⟩) hb0).trans (hc k hlt 0 _ rfl)
      have c1 := (hbw.cell (p := ⟨b, _, none⟩) hb0).trans (hc k hlt 1 _ rfl)
      clear hc
      simp at c0
      have hd : l.drop k = l[k] :: l.drop (k + 1) := List.drop_eq_getElem_cons hlt
      have HD := Lib.hid hd
      have HV := Lib.hid (fun W => ValidSpan_c l[k].1 l[k].2 W)
      clear hd
      cases hp : okSpan l[k].1 l[k].2
      all_goals
        have hP := Lib.hid hp
        rw [hp] at HV
        clear hp
        go_wp2_with fail
        refine (HV.out _).mono ?_
        rintro e w1 ⟨rfl, hb⟩
      · go_wp2
        go_ret
        exact ⟨by rw [HX.out, HD.out, List.all_cons, hP.out]; simp, by (repeat (first | exact Below.refl _ _ | refine Below.drew ?_ | refine Below.allocS ?_ _ | refine Below.step ?_ (by assumption) | refine Below.setCell ?_ (by simp <;> omega) _ | refine Below.drewN' ?_ _))⟩
      · go_wp2
        go_roundw
        case rel => exact ⟨k + 1, by omega, by go_num, by (repeat (first | exact Below.refl _ _ | refine Below.drew ?_ | refine Below.allocS ?_ _ | refine Below.step ?_ (by assumption) | refine Below.setCell ?_ (by simp <;> omega) _ | refine Below.drewN' ?_ _)), by rw [HX.out, HD.out, List.all_cons, hP.out]; rfl⟩
        case measure => simp [intOf]; omega
    · obtain rfl : k = l.length := by omega
      go_wp2
      go_ret
      exact ⟨by rw [HX.out]; simp, hbw⟩
theorem all1_c (a b : Int) (g : Nat) (w : World) (c0 : w.cell? ⟨g, 0, none⟩ = some (.int .i64 a)) (c1 : w.cell? ⟨g, 1, none⟩ = some (.int .i64 b)) :
    Calls Tryd.prog 60 #[.slice (some ⟨g, 0, none⟩) 1 1] w fun e w' => e = .returned (.bool (okSpan a b)) ∧ Below w.heap.size w w' := by
  have := all_c [(a, b)] 1 rfl (some ⟨g, 0, none⟩) 1 (by decide) w (fun _ => ⟨g, 0, rfl, cell?_lt c0, fun i hi j v hv => by
    obtain rfl : i = 0 := by simpa using hi
    match j, hv with
    | 0, hv => simp [spE] at hv; subst hv; exact c0
    | 1, hv => simp [spE] at hv; subst hv; exact c1⟩)
  simpa using this
theorem all2_c (a b c d : Int) (g : Nat) (w : World) (c0 : w.cell? ⟨g, 0, none⟩ = some (.int .i64 a)) (c1 : w.cell? ⟨g, 1, none⟩ = some (.int .i64 b)) (c2 : w.cell? ⟨g, 2, none⟩ = some (.int .i64 c)) (c3 : w.cell? ⟨g, 3, none⟩ = some (.int .i64 d)) :
    Calls Tryd.prog 60 #[.slice (some ⟨g, 0, none⟩) 2 2] w fun e w' => e = .returned (.bool (okSpan a b && okSpan c d)) ∧ Below w.heap.size w w' := by
  have := all_c [(a, b), (c, d)] 2 rfl (some ⟨g, 0, none⟩) 2 (by decide) w (fun _ => ⟨g, 0, rfl, cell?_lt c0, fun i hi j v hv => by
    have hi' : i = 0 ∨ i = 1 := by simp at hi; omega
    rcases hi' with rfl | rfl
    · match j, hv with
      | 0, hv => simp [spE] at hv; subst hv; exact c0
      | 1, hv => simp [spE] at hv; subst hv; exact c1
    · match j, hv with
      | 0, hv => simp [spE] at hv; subst hv; exact c2
      | 1, hv => simp [spE] at hv; subst hv; exact c3⟩)
  simpa using this
end Go.Proofs.YtjkcgbidceakjaaDoor
