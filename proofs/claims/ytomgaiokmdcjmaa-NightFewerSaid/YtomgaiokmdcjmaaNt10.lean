/-
  asked of both, the clouds of the reference. No conditions.
-/
import Derived.Test.YtomgaiokmdcjmaaNt9
namespace Go.Proofs.Ytomgaiokmdcjmaa
open Go.RowKit Go.Deep
set_option linter.unusedVariables false
set_option linter.unusedSimpArgs false
/-- What came in: chances and clouds. -/
structure InAt (w : World) (l : List Ch) (A : Option Addr) (cap : Nat) (L : List Cl) (B : Option Addr) (cb : Nat) : Prop where
  hl : l.length ≤ 1000000
  hcap : l.length ≤ cap
  hs : ∀ x ∈ l, x.nm.size ≤ maxLen
  hr : RdL w w.heap.size chE 5 A l
  hL : L.length ≤ 1000000
  hR : RdL w w.heap.size clE 2 B L
theorem InAt.step {w W : World} {l : List Ch} {A : Option Addr} {cap : Nat} {L : List Cl} {B : Option Addr} {cb : Nat} (h : InAt w l A cap L B cb) (hb : Below w.heap.size w W) : InAt W l A cap L B cb :=
  ⟨h.hl, h.hcap, h.hs, h.hr.step hb, h.hL, h.hR.step hb⟩
noncomputable def asE (l : List Ch) (L : List Cl) (per : Int) : Int := if (okV l && okCl L) = true then (if within per 0 10000 = true then 0 else 7) else 1
set_option maxHeartbeats 1000000 in
theorem asked_c (l : List Ch) (A : Option Addr) (cap : Nat) (L : List Cl) (B : Option Addr) (cb : Nat) (per : Int) (w : World) (h : InAt w l A cap L B cb) :
    Calls Try.prog 53 #[.agg #[.slice A l.length cap, .slice B L.length cb, .int .i64 per]] w fun e w' => e = .returned (.int .i64 (asE l L per)) ∧ Below w.heap.size w w' := by
  have H1 := Lib.hid (fun W hb => Valid_c l A cap h.hl h.hs W (h.hr.step hb))
  have H2 := Lib.hid (fun W (hb : Below w.heap.size w W) => validClouds_c L B cb (by have := h.hL; omega) W (h.hR.step hb))
  have H3 := Lib.hid (fun W => within_c per 0 10000 W)
  clear h
  unfold asE
  generalize okV l = v1 at *
  generalize okCl L = v2 at *
  generalize within per 0 10000 = v3 at *
  cases v1
  · go_enter Try.func53, Try.ntmps53
    go_wp2_with fail
    refine (H1.out _ (by (repeat (first | exact Below.refl _ _ | refine Below.drew ?_ | refine Below.allocS ?_ _ | refine Below.step ?_ (by assumption) | refine Below.setCell ?_ (by simp <;> omega) _ | refine Below.drewN' ?_ _)))).mono ?_
    rintro e w1 ⟨rfl, hb1⟩
    have x1_0_0 : w1.cell? ⟨w.heap.size, 0, none⟩ = some (.slice A l.length cap) := keep_cell hb1 (by simp [go_sem, *])
    have x1_0_1 : w1.cell? ⟨w.heap.size, 1, none⟩ = some (.slice B L.length cb) := keep_cell hb1 (by simp [go_sem, *])
    have x1_0_2 : w1.cell? ⟨w.heap.size, 2, none⟩ = some (.int .i64 per) := keep_cell hb1 (by simp [go_sem, *])
    have y1_0 : w.heap.size < w1.heap.size := cell?_lt x1_0_0
    have g1 : Below w.heap.size w w1 := by (repeat (first | exact Below.refl _ _ | refine Below.drew ?_ | refine Below.allocS ?_ _ | refine Below.step ?_ (by assumption) | refine Below.setCell ?_ (by simp <;> omega) _ | refine Below.drewN' ?_ _))
    clear hb1
    go_wp2
    go_ret
    exact ⟨rfl, by (repeat (first | exact Below.refl _ _ | refine Below.drew ?_ | refine Below.allocS ?_ _ | refine Below.step ?_ (by assumption) | refine Below.setCell ?_ (by simp <;> omega) _ | refine Below.drewN' ?_ _))⟩
  cases v2
  · go_enter Try.func53, Try.ntmps53
    go_wp2_with fail
    refine (H1.out _ (by (repeat (first | exact Below.refl _ _ | refine Below.drew ?_ | refine Below.allocS ?_ _ | refine Below.step ?_ (by assumption) | refine Below.setCell ?_ (by simp <;> omega) _ | refine Below.drewN' ?_ _)))).mono ?_
    rintro e w1 ⟨rfl, hb1⟩
    have x1_0_0 : w1.cell? ⟨w.heap.size, 0, none⟩ = some (.slice A l.length cap) := keep_cell hb1 (by simp [go_sem, *])
    have x1_0_1 : w1.cell? ⟨w.heap.size, 1, none⟩ = some (.slice B L.length cb) := keep_cell hb1 (by simp [go_sem, *])
    have x1_0_2 : w1.cell? ⟨w.heap.size, 2, none⟩ = some (.int .i64 per) := keep_cell hb1 (by simp [go_sem, *])
    have y1_0 : w.heap.size < w1.heap.size := cell?_lt x1_0_0
    have g1 : Below w.heap.size w w1 := by (repeat (first | exact Below.refl _ _ | refine Below.drew ?_ | refine Below.allocS ?_ _ | refine Below.step ?_ (by assumption) | refine Below.setCell ?_ (by simp <;> omega) _ | refine Below.drewN' ?_ _))
    clear hb1
    go_wp2_with fail
    refine (H2.out _ (by (repeat (first | exact Below.refl _ _ | refine Below.drew ?_ | refine Below.allocS ?_ _ | refine Below.step ?_ (by assumption) | refine Below.setCell ?_ (by simp <;> omega) _ | refine Below.drewN' ?_ _)))).mono ?_
    rintro e w2 ⟨rfl, hb2⟩
    have x2_0_0 : w2.cell? ⟨w.heap.size, 0, none⟩ = some (.slice A l.length cap) := keep_cell hb2 (by simp [go_sem, *])
    have x2_0_1 : w2.cell? ⟨w.heap.size, 1, none⟩ = some (.slice B L.length cb) := keep_cell hb2 (by simp [go_sem, *])
    have x2_0_2 : w2.cell? ⟨w.heap.size, 2, none⟩ = some (.int .i64 per) := keep_cell hb2 (by simp [go_sem, *])
    have y2_0 : w.heap.size < w2.heap.size := cell?_lt x2_0_0
    have g2 : Below w.heap.size w w2 := by (repeat (first | exact Below.refl _ _ | refine Below.drew ?_ | refine Below.allocS ?_ _ | refine Below.step ?_ (by assumption) | refine Below.setCell ?_ (by simp <;> omega) _ | refine Below.drewN' ?_ _))
    clear hb2 g1 x1_0_0 x1_0_1 x1_0_2 y1_0
    go_wp2
    go_ret
    exact ⟨rfl, by (repeat (first | exact Below.refl _ _ | refine Below.drew ?_ | refine Below.allocS ?_ _ | refine Below.step ?_ (by assumption) | refine Below.setCell ?_ (by simp <;> omega) _ | refine Below.drewN' ?_ _))⟩
  cases v3
  all_goals
    go_enter Try.func53, Try.ntmps53
    go_wp2_with fail
    refine (H1.out _ (by (repeat (first | exact Below.refl _ _ | refine Below.drew ?_ | refine Below.allocS ?_ _ | refine Below.step ?_ (by assumption) | refine Below.setCell ?_ (by simp <;> omega) _ | refine Below.drewN' ?_ _)))).mono ?_
    rintro e w1 ⟨rfl, hb1⟩
    have x1_0_0 : w1.cell? ⟨w.heap.size, 0, none⟩ = some (.slice A l.length cap) := keep_cell hb1 (by simp [go_sem, *])
    have x1_0_1 : w1.cell? ⟨w.heap.size, 1, none⟩ = some (.slice B L.length cb) := keep_cell hb1 (by simp [go_sem, *])
    have x1_0_2 : w1.cell? ⟨w.heap.size, 2, none⟩ = some (.int .i64 per) := keep_cell hb1 (by simp [go_sem, *])
    have y1_0 : w.heap.size < w1.heap.size := cell?_lt x1_0_0
    have g1 : Below w.heap.size w w1 := by (repeat (first | exact Below.refl _ _ | refine Below.drew ?_ | refine Below.allocS ?_ _ | refine Below.step ?_ (by assumption) | refine Below.setCell ?_ (by simp <;> omega) _ | refine Below.drewN' ?_ _))
    clear hb1
    go_wp2_with fail
    refine (H2.out _ (by (repeat (first | exact Below.refl _ _ | refine Below.drew ?_ | refine Below.allocS ?_ _ | refine Below.step ?_ (by assumption) | refine Below.setCell ?_ (by simp <;> omega) _ | refine Below.drewN' ?_ _)))).mono ?_
    rintro e w2 ⟨rfl, hb2⟩
    have x2_0_0 : w2.cell? ⟨w.heap.size, 0, none⟩ = some (.slice A l.length cap) := keep_cell hb2 (by simp [go_sem, *])
    have x2_0_1 : w2.cell? ⟨w.heap.size, 1, none⟩ = some (.slice B L.length cb) := keep_cell hb2 (by simp [go_sem, *])
    have x2_0_2 : w2.cell? ⟨w.heap.size, 2, none⟩ = some (.int .i64 per) := keep_cell hb2 (by simp [go_sem, *])
    have y2_0 : w.heap.size < w2.heap.size := cell?_lt x2_0_0
    have g2 : Below w.heap.size w w2 := by (repeat (first | exact Below.refl _ _ | refine Below.drew ?_ | refine Below.allocS ?_ _ | refine Below.step ?_ (by assumption) | refine Below.setCell ?_ (by simp <;> omega) _ | refine Below.drewN' ?_ _))
    clear hb2 g1 x1_0_0 x1_0_1 x1_0_2 y1_0
    go_wp2_with fail
    refine (H3.out _).mono ?_
    rintro e w' ⟨rfl, hw'⟩; replace hw' := hw'.symm; subst hw'
    go_wp2
    go_ret
    exact ⟨rfl, by (repeat (first | exact Below.refl _ _ | refine Below.drew ?_ | refine Below.allocS ?_ _ | refine Below.step ?_ (by assumption) | refine Below.setCell ?_ (by simp <;> omega) _ | refine Below.drewN' ?_ _))⟩
def okCls (L : List Cl) (k : Nat) : Bool := (L.drop k).any badCl
set_option maxHeartbeats 1000000 in
theorem rValidClouds_c (L : List Cl) (A : Option Addr) (cap : Nat) (hl : L.length ≤ 1000000) (w : World) (hr : RdL w w.heap.size clE 2 A L) :
    Calls Try.prog 60 #[.slice A L.length cap] w fun e w' => e = .returned (.bool (okCl L)) ∧ Below w.heap.size w w' := by
  have HR := Lib.hid hr
  clear hr
  go_enter Try.func60, Try.ntmps60
  go_wp2
  go_loopw [7] (fun i wr => ∃ k : Nat, k ≤ L.length ∧ i = .int .i64 k ∧ L.any badCl = (L.drop k).any badCl ∧ Below w.heap.size w wr) (fun i _ => L.length - (intOf i).toNat)
  case atStart => exact ⟨0, Nat.zero_le _, rfl, rfl, Below.refl _ _⟩
  case round =>
    obtain ⟨k, hk, rfl, hx, hbw⟩ := hrel
    have HX := Lib.hid hx
    clear hx
    by_cases hlt : k < L.length
    · obtain ⟨b, off, rfl, hb0, hc⟩ := HR.out (by omega)
      obtain ⟨s, hs⟩ : ∃ s, s = L[k] := ⟨_, rfl⟩
      have c0 := (hbw.cell (p := ⟨b, _, none⟩) hb0).trans (hc k hlt 0 _ rfl)
      have c1 := (hbw.cell (p := ⟨b, _, none⟩) hb0).trans (hc k hlt 1 _ rfl)
      clear hc
      simp at c0
      rw [← hs] at c0 c1
      have HD := Lib.hid (show (L.drop k).any badCl = (badCl s || (L.drop (k + 1)).any badCl) by rw [List.drop_eq_getElem_cons hlt, List.any_cons, ← hs])
      have y0 := cell?_lt c0
      clear hs
      have u3 : IntKind.i64.wrap ((k : Int) + 1) = (k : Int) + 1 := IntWalk.i64_in _ (by omega)
      by_cases h1 : s.lo < 0
      · have d1 : decide (s.lo < 0) = true := decide_eq_true h1
        have HF := Lib.hid (show okCl L = false by unfold okCl; rw [HX.out, HD.out]; unfold badCl; rw [d1]; simp)
        clear h1
        go_wp2
        go_ret
        exact ⟨by rw [HF.out]; rfl, by (repeat (first | (with_reducible exact Below.refl _ _) | (with_reducible assumption) | (with_reducible refine Below.drew ?_) | (with_reducible refine Below.allocS ?_ _) | (with_reducible refine Below.setCell ?_ ?_ _) | (with_reducible refine Below.step ?_ (by assumption)) | (with_reducible refine Below.drewN' ?_ _))); (try any_goals (first | (with_reducible assumption) | (simp; done) | (simp; omega) | omega))⟩
      have d1 : decide (s.lo < 0) = false := decide_eq_false h1
      by_cases h2 : s.hi < s.lo
      · have d2 : decide (s.lo > s.hi) = true := decide_eq_true h2
        have d2' : decide (s.hi < s.lo) = true := decide_eq_true h2
        have HF := Lib.hid (show okCl L = false by unfold okCl; rw [HX.out, HD.out]; unfold badCl; rw [d2']; simp)
        clear h1 h2
        go_wp2
        go_ret
        exact ⟨by rw [HF.out]; rfl, by (repeat (first | (with_reducible exact Below.refl _ _) | (with_reducible assumption) | (with_reducible refine Below.drew ?_) | (with_reducible refine Below.allocS ?_ _) | (with_reducible refine Below.setCell ?_ ?_ _) | (with_reducible refine Below.step ?_ (by assumption)) | (with_reducible refine Below.drewN' ?_ _))); (try any_goals (first | (with_reducible assumption) | (simp; done) | (simp; omega) | omega))⟩
      have d2 : decide (s.lo > s.hi) = false := decide_eq_false h2
      have d2' : decide (s.hi < s.lo) = false := decide_eq_false h2
      by_cases h3 : 86400000 < s.hi
      · have d3 : decide (s.hi > 86400000) = true := decide_eq_true h3
        have d3' : decide (86400000 < s.hi) = true := decide_eq_true h3
        have HF := Lib.hid (show okCl L = false by unfold okCl; rw [HX.out, HD.out]; unfold badCl; rw [d3']; simp)
        clear h1 h2 h3
        go_wp2
        go_ret
        exact ⟨by rw [HF.out]; rfl, by (repeat (first | (with_reducible exact Below.refl _ _) | (with_reducible assumption) | (with_reducible refine Below.drew ?_) | (with_reducible refine Below.allocS ?_ _) | (with_reducible refine Below.setCell ?_ ?_ _) | (with_reducible refine Below.step ?_ (by assumption)) | (with_reducible refine Below.drewN' ?_ _))); (try any_goals (first | (with_reducible assumption) | (simp; done) | (simp; omega) | omega))⟩
      have d3 : decide (s.hi > 86400000) = false := decide_eq_false h3
      have d3' : decide (86400000 < s.hi) = false := decide_eq_false h3
      have HN := Lib.hid (show L.any badCl = (L.drop (k + 1)).any badCl by rw [HX.out, HD.out]; unfold badCl; rw [d1, d2', d3']; rfl)
      clear h1 h2 h3
      go_wp2
      go_roundw
      case rel => exact ⟨k + 1, by omega, by go_num, HN.out, by (repeat (first | (with_reducible exact Below.refl _ _) | (with_reducible assumption) | (with_reducible refine Below.drew ?_) | (with_reducible refine Below.allocS ?_ _) | (with_reducible refine Below.setCell ?_ ?_ _) | (with_reducible refine Below.step ?_ (by assumption)) | (with_reducible refine Below.drewN' ?_ _))); (try any_goals (first | (with_reducible assumption) | (simp; done) | (simp; omega) | omega))⟩
      case measure => simp [intOf]; omega
    · obtain rfl : k = L.length := by omega
      have HF := Lib.hid (show okCl L = decide ((L.length : Int) ≤ 50) by
        unfold okCl
        rw [HX.out, List.drop_of_length_le (Nat.le_refl _)]
        simp only [List.any_nil, Bool.not_false, Bool.and_true]
        exact decide_eq_decide.2 (by omega))
      go_wp2
      go_ret
      exact ⟨by rw [HF.out]; first | rfl | (simp; done), hbw⟩
set_option maxHeartbeats 1000000 in
theorem isClear_c (c : Ch) (L : List Cl) (A : Option Addr) (cap : Nat) (hl : L.length ≤ 1000000) (w : World) (hr : RdL w w.heap.size clE 2 A L) :
    Calls Try.prog 61 #[.agg #[.string c.nm, .int .i64 c.a, .int .i64 c.b, .int .i64 c.t, .int .i64 c.v], .slice A L.length cap] w fun e w' => e = .returned (.bool (!covB c L)) ∧ Below w.heap.size w w' := by
  have HR := Lib.hid hr
  clear hr
  go_enter Try.func61, Try.ntmps61
  go_wp2
  go_loopw [9] (fun i wr => ∃ k : Nat, k ≤ L.length ∧ i = .int .i64 k ∧ covB c L = (L.drop k).any (covC c) ∧ wr.cell? ⟨w.heap.size, 1, none⟩ = some (.int .i64 c.a) ∧ wr.cell? ⟨w.heap.size, 2, none⟩ = some (.int .i64 c.b) ∧ Below w.heap.size w wr) (fun i _ => L.length - (intOf i).toNat)
  case atStart => exact ⟨0, Nat.zero_le _, rfl, rfl, by simp [go_sem], by simp [go_sem], by (repeat (first | (with_reducible exact Below.refl _ _) | (with_reducible assumption) | (with_reducible refine Below.drew ?_) | (with_reducible refine Below.allocS ?_ _) | (with_reducible refine Below.setCell ?_ ?_ _) | (with_reducible refine Below.step ?_ (by assumption)) | (with_reducible refine Below.drewN' ?_ _))); (try any_goals (first | (with_reducible assumption) | (simp; done) | (simp; omega) | omega))⟩
  case round =>
    obtain ⟨k, hk, rfl, hx, e1, e2, hbw⟩ := hrel
    have HX := Lib.hid hx
    clear hx
    have ye := cell?_lt e1
    by_cases hlt : k < L.length
    · obtain ⟨b, off, rfl, hb0, hc⟩ := HR.out (by omega)
      obtain ⟨s, hs⟩ : ∃ s, s = L[k] := ⟨_, rfl⟩
      have c0 := (hbw.cell (p := ⟨b, _, none⟩) hb0).trans (hc k hlt 0 _ rfl)
      have c1 := (hbw.cell (p := ⟨b, _, none⟩) hb0).trans (hc k hlt 1 _ rfl)
      clear hc
      simp at c0
      rw [← hs] at c0 c1
      have HD := Lib.hid (show (L.drop k).any (covC c) = (covC c s || (L.drop (k + 1)).any (covC c)) by rw [List.drop_eq_getElem_cons hlt, List.any_cons, ← hs])
      have y0 := cell?_lt c0
      clear hs
      have u3 : IntKind.i64.wrap ((k : Int) + 1) = (k : Int) + 1 := IntWalk.i64_in _ (by omega)
      by_cases h1 : s.lo < c.b
      · have d1 : decide (s.lo < c.b) = true := decide_eq_true h1
        by_cases h2 : c.a ≤ s.hi
        · have d2 : decide (s.hi ≥ c.a) = true := decide_eq_true h2
          have d2' : decide (c.a ≤ s.hi) = true := decide_eq_true h2
          have HF := Lib.hid (show covB c L = true by rw [HX.out, HD.out]; unfold covC; rw [d1, d2']; rfl)
          clear h1 h2
          go_wp2
          go_ret
          exact ⟨by rw [HF.out]; rfl, by (repeat (first | (with_reducible exact Below.refl _ _) | (with_reducible assumption) | (with_reducible refine Below.drew ?_) | (with_reducible refine Below.allocS ?_ _) | (with_reducible refine Below.setCell ?_ ?_ _) | (with_reducible refine Below.step ?_ (by assumption)) | (with_reducible refine Below.drewN' ?_ _))); (try any_goals (first | (with_reducible assumption) | (simp; done) | (simp; omega) | omega))⟩
        · have d2 : decide (s.hi ≥ c.a) = false := decide_eq_false h2
          have d2' : decide (c.a ≤ s.hi) = false := decide_eq_false h2
          have HF := Lib.hid (show covB c L = (L.drop (k + 1)).any (covC c) by rw [HX.out, HD.out]; unfold covC; rw [d1, d2']; rfl)
          clear h1 h2
          go_wp2
          go_roundw
          case rel => exact ⟨k + 1, by omega, by go_num, HF.out, by simp [go_sem, *], by simp [go_sem, *], by (repeat (first | (with_reducible exact Below.refl _ _) | (with_reducible assumption) | (with_reducible refine Below.drew ?_) | (with_reducible refine Below.allocS ?_ _) | (with_reducible refine Below.setCell ?_ ?_ _) | (with_reducible refine Below.step ?_ (by assumption)) | (with_reducible refine Below.drewN' ?_ _))); (try any_goals (first | (with_reducible assumption) | (simp; done) | (simp; omega) | omega))⟩
          case measure => simp [intOf]; omega
      · have d1 : decide (s.lo < c.b) = false := decide_eq_false h1
        have HF := Lib.hid (show covB c L = (L.drop (k + 1)).any (covC c) by rw [HX.out, HD.out]; unfold covC; rw [d1]; rfl)
        clear h1
        go_wp2
        go_roundw
        case rel => exact ⟨k + 1, by omega, by go_num, HF.out, by simp [go_sem, *], by simp [go_sem, *], by (repeat (first | (with_reducible exact Below.refl _ _) | (with_reducible assumption) | (with_reducible refine Below.drew ?_) | (with_reducible refine Below.allocS ?_ _) | (with_reducible refine Below.setCell ?_ ?_ _) | (with_reducible refine Below.step ?_ (by assumption)) | (with_reducible refine Below.drewN' ?_ _))); (try any_goals (first | (with_reducible assumption) | (simp; done) | (simp; omega) | omega))⟩
        case measure => simp [intOf]; omega
    · obtain rfl : k = L.length := by omega
      have HF := Lib.hid (show covB c L = false by rw [HX.out, List.drop_of_length_le (Nat.le_refl _)]; rfl)
      go_wp2
      go_ret
      exact ⟨by rw [HF.out]; rfl, hbw⟩
theorem turned_c (per : Int) (w : World) : Calls Try.prog 69 #[.int .i64 per] w fun e w' => e = .returned (.bool (within per 0 10000)) ∧ w' = w := by
  unfold within
  by_cases h : 0 ≤ per
  all_goals
    go_enter Try.func69, Try.ntmps69
    go_wp2
    go_ret
    exact ⟨by simp [h] <;> omega, rfl⟩
set_option maxHeartbeats 1000000 in
theorem rasked_c (l : List Ch) (A : Option Addr) (cap : Nat) (L : List Cl) (B : Option Addr) (cb : Nat) (per : Int) (w : World) (h : InAt w l A cap L B cb) :
    Calls Try.prog 63 #[.slice A l.length cap, .slice B L.length cb, .int .i64 per] w fun e w' => e = .returned (.int .i64 (asE l L per)) ∧ Below w.heap.size w w' := by
  have H1 := Lib.hid (fun W hb => rValid_c l A cap h.hl h.hcap h.hs W (h.hr.step hb))
  have H2 := Lib.hid (fun W (hb : Below w.heap.size w W) => rValidClouds_c L B cb h.hL W (h.hR.step hb))
  have H3 := Lib.hid (fun W => turned_c per W)
  clear h
  unfold asE
  rw [ok_eq]
  generalize rokV l = v1 at *
  generalize okCl L = v2 at *
  generalize within per 0 10000 = v3 at *
  cases v1
  · go_enter Try.func63, Try.ntmps63
    go_wp2_with fail
    refine (H1.out _ (by (repeat (first | exact Below.refl _ _ | refine Below.drew ?_ | refine Below.allocS ?_ _ | refine Below.step ?_ (by assumption) | refine Below.setCell ?_ (by simp <;> omega) _ | refine Below.drewN' ?_ _)))).mono ?_
    rintro e w1 ⟨rfl, hb1⟩
    have g1 : Below w.heap.size w w1 := by (repeat (first | exact Below.refl _ _ | refine Below.drew ?_ | refine Below.allocS ?_ _ | refine Below.step ?_ (by assumption) | refine Below.setCell ?_ (by simp <;> omega) _ | refine Below.drewN' ?_ _))
    clear hb1
    go_wp2
    go_ret
    exact ⟨rfl, by (repeat (first | exact Below.refl _ _ | refine Below.drew ?_ | refine Below.allocS ?_ _ | refine Below.step ?_ (by assumption) | refine Below.setCell ?_ (by simp <;> omega) _ | refine Below.drewN' ?_ _))⟩
  cases v2
  · go_enter Try.func63, Try.ntmps63
    go_wp2_with fail
    refine (H1.out _ (by (repeat (first | exact Below.refl _ _ | refine Below.drew ?_ | refine Below.allocS ?_ _ | refine Below.step ?_ (by assumption) | refine Below.setCell ?_ (by simp <;> omega) _ | refine Below.drewN' ?_ _)))).mono ?_
    rintro e w1 ⟨rfl, hb1⟩
    have g1 : Below w.heap.size w w1 := by (repeat (first | exact Below.refl _ _ | refine Below.drew ?_ | refine Below.allocS ?_ _ | refine Below.step ?_ (by assumption) | refine Below.setCell ?_ (by simp <;> omega) _ | refine Below.drewN' ?_ _))
    clear hb1
    go_wp2_with fail
    refine (H2.out _ (by (repeat (first | exact Below.refl _ _ | refine Below.drew ?_ | refine Below.allocS ?_ _ | refine Below.step ?_ (by assumption) | refine Below.setCell ?_ (by simp <;> omega) _ | refine Below.drewN' ?_ _)))).mono ?_
    rintro e w2 ⟨rfl, hb2⟩
    have g2 : Below w.heap.size w w2 := by (repeat (first | exact Below.refl _ _ | refine Below.drew ?_ | refine Below.allocS ?_ _ | refine Below.step ?_ (by assumption) | refine Below.setCell ?_ (by simp <;> omega) _ | refine Below.drewN' ?_ _))
    clear hb2 g1 
    go_wp2
    go_ret
    exact ⟨rfl, by (repeat (first | exact Below.refl _ _ | refine Below.drew ?_ | refine Below.allocS ?_ _ | refine Below.step ?_ (by assumption) | refine Below.setCell ?_ (by simp <;> omega) _ | refine Below.drewN' ?_ _))⟩
  cases v3
  all_goals
    go_enter Try.func63, Try.ntmps63
    go_wp2_with fail
    refine (H1.out _ (by (repeat (first | exact Below.refl _ _ | refine Below.drew ?_ | refine Below.allocS ?_ _ | refine Below.step ?_ (by assumption) | refine Below.setCell ?_ (by simp <;> omega) _ | refine Below.drewN' ?_ _)))).mono ?_
    rintro e w1 ⟨rfl, hb1⟩
    have g1 : Below w.heap.size w w1 := by (repeat (first | exact Below.refl _ _ | refine Below.drew ?_ | refine Below.allocS ?_ _ | refine Below.step ?_ (by assumption) | refine Below.setCell ?_ (by simp <;> omega) _ | refine Below.drewN' ?_ _))
    clear hb1
    go_wp2_with fail
    refine (H2.out _ (by (repeat (first | exact Below.refl _ _ | refine Below.drew ?_ | refine Below.allocS ?_ _ | refine Below.step ?_ (by assumption) | refine Below.setCell ?_ (by simp <;> omega) _ | refine Below.drewN' ?_ _)))).mono ?_
    rintro e w2 ⟨rfl, hb2⟩
    have g2 : Below w.heap.size w w2 := by (repeat (first | exact Below.refl _ _ | refine Below.drew ?_ | refine Below.allocS ?_ _ | refine Below.step ?_ (by assumption) | refine Below.setCell ?_ (by simp <;> omega) _ | refine Below.drewN' ?_ _))
    clear hb2 g1 
    go_wp2_with fail
    refine (H3.out _).mono ?_
    rintro e w' ⟨rfl, hw'⟩; replace hw' := hw'.symm; subst hw'
    go_wp2
    go_ret
    exact ⟨rfl, by (repeat (first | exact Below.refl _ _ | refine Below.drew ?_ | refine Below.allocS ?_ _ | refine Below.step ?_ (by assumption) | refine Below.setCell ?_ (by simp <;> omega) _ | refine Below.drewN' ?_ _))⟩
end Go.Proofs.Ytomgaiokmdcjmaa
