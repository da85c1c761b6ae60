/-
  The contract of the reference's Ring, and the walk of the law GunRings.
-/
import Derived.Test.YtgiplkfdallmkaaL5
namespace Go.Proofs.Ytgiplkfdallmkaa
open Go.RowKit
set_option linter.unusedVariables false

/-- The reference's least and most behind d rounds. -/
def rrLo (s v ms d : Int) : Int := if fHi s v ms < d then fHi s v ms else -1
def rrHi (s v ms d : Int) : Int := if fHi s v ms < d then d - 1 else -1
theorem fHi_false {s v ms d : Int} (h0 : 0 ≤ d) (h : d < fHi s v ms) : lateHi s v ms d = false := (firstP_spec (lateHi s v ms) 200001 0).2.2.1 d h0 h
theorem fHi_true {s v ms d : Int} (ha : validAir s v = true) (h : fHi s v ms ≤ d) (hd : d ≤ 200000) : lateHi s v ms d = true := by
  obtain ⟨a, b, c, e⟩ := firstP_spec (lateHi s v ms) 200001 0
  exact lateHi_mono ha h (e (by unfold fHi at h; omega))
theorem fLo_false {s v ms d : Int} (h0 : 0 ≤ d) (h : d < fLo s v ms) : lateLo s v ms d = false := (firstP_spec (lateLo s v ms) 200001 0).2.2.1 d h0 h
theorem fLo_true {s v ms d : Int} (ha : validAir s v = true) (h : fLo s v ms ≤ d) (hd : d ≤ 200000) : lateLo s v ms d = true := by
  obtain ⟨a, b, c, e⟩ := firstP_spec (lateLo s v ms) 200001 0
  exact lateLo_mono ha h (e (by unfold fLo at h; omega))

theorem rr_step {s v ms d : Int} (h : fHi s v ms < d) : rrLo s v ms (d + 1) = rrLo s v ms d ∧ rrHi s v ms (d + 1) = d ∧ rrLo s v ms d = fHi s v ms := by
  unfold rrLo rrHi
  rw [if_pos h, if_pos (by omega), if_pos (by omega)]
  exact ⟨rfl, by omega, rfl⟩
theorem rr_first {s v ms d : Int} (h : fHi s v ms = d) : rrLo s v ms (d + 1) = d ∧ rrHi s v ms (d + 1) = d ∧ rrLo s v ms d = -1 := by
  unfold rrLo rrHi
  rw [if_pos (by omega), if_pos (by omega), if_neg (by omega)]
  exact ⟨h, by omega, rfl⟩
theorem rr_not {s v ms d : Int} (h : d < fHi s v ms) : rrLo s v ms (d + 1) = rrLo s v ms d ∧ rrHi s v ms (d + 1) = rrHi s v ms d := by
  unfold rrLo rrHi
  rw [if_neg (by omega), if_neg (by omega), if_neg (by omega), if_neg (by omega)]
  exact ⟨rfl, rfl⟩
/-- What the reference answers behind its loop. -/
def rgLo (s v ms : Int) : Int := if fHi s v ms < fLo s v ms then fHi s v ms else 0
def rgHi (s v ms : Int) : Int := if fHi s v ms < fLo s v ms then fLo s v ms - 1 else 0
def rgE (s v ms : Int) : Int := if fHi s v ms < fLo s v ms then 0 else 8
theorem rr_end {s v ms d : Int} (h : d = fLo s v ms) : (0 ≤ rrLo s v ms d ∧ rrLo s v ms d = rgLo s v ms ∧ rrHi s v ms d = rgHi s v ms ∧ 0 = rgE s v ms) ∨ (rrLo s v ms d < 0 ∧ 0 = rgLo s v ms ∧ 0 = rgHi s v ms ∧ 8 = rgE s v ms) := by
  have := fHi_bd s v ms
  unfold rrLo rrHi rgLo rgHi rgE
  subst h
  by_cases h : fHi s v ms < fLo s v ms
  · rw [if_pos h, if_pos h, if_pos h, if_pos h, if_pos h]; exact Or.inl ⟨by omega, rfl, rfl, rfl⟩
  · rw [if_neg h, if_neg h, if_neg h, if_neg h, if_neg h]; exact Or.inr ⟨by omega, rfl, rfl, rfl⟩

set_option maxHeartbeats 2000000 in
theorem rRing_ok (s v a b ms : Int) (ha : validAir s v = true) (hp : place a b = true) (hm : within ms 0 1000000 = true) (w : World) :
    Calls Try.prog 36 #[.agg #[.int .i64 s, .int .i64 v], .agg #[.int .i64 a, .int .i64 b], .int .i64 ms] w fun e w' => e = .returned (.tuple #[.int .i64 (rgLo s v ms), .int .i64 (rgHi s v ms), .int .i64 (rgE s v ms)]) ∧ Below w.heap.size w w' := by
  have fh := fHi_bd s v ms
  have fl := fLo_bd s v ms
  go_enter Try.func36, Try.ntmps36
  go_wp2_with fail
  refine (rvalidAir_c _ _ _).mono ?_
  rintro e w1 ⟨rfl, hb1⟩
  have x1_0_0 : w1.cell? ⟨w.heap.size, 0, none⟩ = some (.int .i64 s) := keep_cell hb1 (by simp [go_sem, *])
  have x1_0_1 : w1.cell? ⟨w.heap.size, 1, none⟩ = some (.int .i64 v) := keep_cell hb1 (by simp [go_sem, *])
  have y1_0 : w.heap.size < w1.heap.size := cell?_lt x1_0_0
  have x1_1_0 : w1.cell? ⟨w.heap.size + 1, 0, none⟩ = some (.int .i64 a) := keep_cell hb1 (by simp [go_sem, *])
  have x1_1_1 : w1.cell? ⟨w.heap.size + 1, 1, none⟩ = some (.int .i64 b) := keep_cell hb1 (by simp [go_sem, *])
  have y1_1 : w.heap.size + 1 < w1.heap.size := cell?_lt x1_1_0
  have g1 : Below w.heap.size w w1 := by (repeat (first | exact Below.refl _ _ | refine Below.drew ?_ | refine Below.allocS ?_ _ | refine Below.step ?_ (by assumption) | refine Below.setCell ?_ (by simp <;> omega) _ | refine Below.drewN' ?_ _))
  clear hb1
  rw [ha]
  go_wp2_with fail
  refine (rplace_c _ _ _).mono ?_
  rintro e w2 ⟨rfl, hb2⟩
  have x2_0_0 : w2.cell? ⟨w.heap.size, 0, none⟩ = some (.int .i64 s) := keep_cell hb2 (by simp [go_sem, *])
  have x2_0_1 : w2.cell? ⟨w.heap.size, 1, none⟩ = some (.int .i64 v) := keep_cell hb2 (by simp [go_sem, *])
  have y2_0 : w.heap.size < w2.heap.size := cell?_lt x2_0_0
  have x2_1_0 : w2.cell? ⟨w.heap.size + 1, 0, none⟩ = some (.int .i64 a) := keep_cell hb2 (by simp [go_sem, *])
  have x2_1_1 : w2.cell? ⟨w.heap.size + 1, 1, none⟩ = some (.int .i64 b) := keep_cell hb2 (by simp [go_sem, *])
  have y2_1 : w.heap.size + 1 < w2.heap.size := cell?_lt x2_1_0
  have g2 : Below w.heap.size w w2 := by (repeat (first | exact Below.refl _ _ | refine Below.drew ?_ | refine Below.allocS ?_ _ | refine Below.step ?_ (by assumption) | refine Below.setCell ?_ (by simp <;> omega) _ | refine Below.drewN' ?_ _))
  clear hb2 g1 x1_0_0 x1_0_1 x1_1_0 x1_1_1 y1_0 y1_1
  rw [hp]
  go_wp2_with (go_at_call 55; (with_reducible refine (rwithin_c _ _ _ _).mono ?_); rintro e w' ⟨rfl, rfl⟩)
  go_loopw [6, 7, 9] (fun x y z wr => ∃ d : Int, z = .int .i64 d ∧ 0 ≤ d ∧ d ≤ 200001 ∧ d ≤ fLo s v ms ∧ x = .int .i64 (rrLo s v ms d) ∧ y = .int .i64 (rrHi s v ms d) ∧ Below w2.heap.size w2 wr) (fun x y z _ => (200001 - intOf z).toNat)
  case atStart => exact ⟨0, rfl, by omega, by omega, by omega, by rw [rrLo, if_neg (by omega)], by rw [rrHi, if_neg (by omega)], Below.refl _ _⟩
  case round =>
    obtain ⟨d, rfl, d1, d2, d3, rfl, rfl, hbw⟩ := hrel
    have z0 := keep_cell hbw x2_0_0
    have z1 := keep_cell hbw x2_0_1
    have gw := Below.step g2 hbw
    have y0 := cell?_lt z0
    have hmul : d * 1000 = 1000 * d := Int.mul_comm _ _
    by_cases hlast : d ≤ 200000
    · by_cases hlo : fLo s v ms ≤ d
      · have hl : ms < ovLo s v (1000 * d) := by have := fLo_true ha hlo hlast; rw [lateLo, hmul] at this; simpa using this
        have HD := Lib.hid (rr_end (s := s) (v := v) (ms := ms) (d := d) (by omega))
        clear hmul
        rcases HD.out with ⟨r1, r2, r3, r4⟩ | ⟨r1, r2, r3, r4⟩
        all_goals
          have HR := Lib.hid (And.intro r2 (And.intro r3 r4))
          clear r2 r3 r4
          go_wp2_with fail
          refine (took_c s v _ _ ha (by omega) (by omega) (by omega) (by omega) _).mono ?_
          rintro e w3 ⟨rfl, hb⟩
          go_wp2
          go_ret3
          obtain ⟨r2, r3, r4⟩ := HR.out
          exact ⟨by rw [← r2, ← r3, ← r4]; rfl, by (repeat (first | exact Below.refl _ _ | refine Below.drew ?_ | refine Below.allocS ?_ _ | refine Below.step ?_ (by assumption) | refine Below.setCell ?_ (by simp <;> omega) _ | refine Below.drewN' ?_ _))⟩
      · have hl : ¬ ms < ovLo s v (1000 * d) := by have := fLo_false (s := s) (v := v) (ms := ms) d1 (by omega); rw [lateLo, hmul] at this; simpa using this
        rcases Int.lt_trichotomy (fHi s v ms) d with hh | hh | hh
        · have hi : ms ≤ ovHi s v (1000 * d) := by have := fHi_true ha (Int.le_of_lt hh) hlast; rw [lateHi, hmul] at this; simpa using this
          obtain ⟨r1, r2, r3⟩ := rr_step hh
          have hneg : ¬ rrLo s v ms d < 0 := by omega
          have R1 := Lib.hid r1
          have R2 := Lib.hid r2
          clear r1 r2 r3 hmul
          go_wp2_with fail
          refine (took_c s v _ _ ha (by omega) (by omega) (by omega) (by omega) _).mono ?_
          rintro e w3 ⟨rfl, hb⟩
          go_wp2
          go_roundw
          case rel => exact ⟨d + 1, rfl, by omega, by omega, by omega, by rw [R1.out], by rw [R2.out], by clear gw; (repeat (first | exact Below.refl _ _ | refine Below.drew ?_ | refine Below.allocS ?_ _ | refine Below.step ?_ (by assumption) | refine Below.setCell ?_ (by simp <;> omega) _ | refine Below.drewN' ?_ _))⟩
          case measure => simp [intOf]; omega
        · have hi : ms ≤ ovHi s v (1000 * d) := by have := fHi_true ha (Int.le_of_eq hh) hlast; rw [lateHi, hmul] at this; simpa using this
          obtain ⟨r1, r2, r3⟩ := rr_first hh
          have hneg : rrLo s v ms d < 0 := by omega
          have R1 := Lib.hid r1
          have R2 := Lib.hid r2
          clear r1 r2 r3 hmul hh
          go_wp2_with fail
          refine (took_c s v _ _ ha (by omega) (by omega) (by omega) (by omega) _).mono ?_
          rintro e w3 ⟨rfl, hb⟩
          go_wp2
          go_roundw
          case rel => exact ⟨d + 1, rfl, by omega, by omega, by omega, by rw [R1.out], by rw [R2.out], by clear gw; (repeat (first | exact Below.refl _ _ | refine Below.drew ?_ | refine Below.allocS ?_ _ | refine Below.step ?_ (by assumption) | refine Below.setCell ?_ (by simp <;> omega) _ | refine Below.drewN' ?_ _))⟩
          case measure => simp [intOf]; omega
        · have hi : ¬ ms ≤ ovHi s v (1000 * d) := by have := fHi_false d1 hh; rw [lateHi, hmul] at this; simpa using this
          obtain ⟨r1, r2⟩ := rr_not hh
          have R1 := Lib.hid r1
          have R2 := Lib.hid r2
          clear r1 r2 hmul
          go_wp2_with fail
          refine (took_c s v _ _ ha (by omega) (by omega) (by omega) (by omega) _).mono ?_
          rintro e w3 ⟨rfl, hb⟩
          go_wp2
          go_roundw
          case rel => exact ⟨d + 1, rfl, by omega, by omega, by omega, by rw [R1.out], by rw [R2.out], by clear gw; (repeat (first | exact Below.refl _ _ | refine Below.drew ?_ | refine Below.allocS ?_ _ | refine Below.step ?_ (by assumption) | refine Below.setCell ?_ (by simp <;> omega) _ | refine Below.drewN' ?_ _))⟩
          case measure => simp [intOf]; omega
    · have HD := Lib.hid (rr_end (s := s) (v := v) (ms := ms) (d := d) (by omega))
      clear hmul
      rcases HD.out with ⟨r1, r2, r3, r4⟩ | ⟨r1, r2, r3, r4⟩
      all_goals
        have HR := Lib.hid (And.intro r2 (And.intro r3 r4))
        clear r2 r3 r4
        go_wp2
        go_ret3
        obtain ⟨r2, r3, r4⟩ := HR.out
        exact ⟨by rw [← r2, ← r3, ← r4]; rfl, by (repeat (first | exact Below.refl _ _ | refine Below.drew ?_ | refine Below.allocS ?_ _ | refine Below.step ?_ (by assumption) | refine Below.setCell ?_ (by simp <;> omega) _ | refine Below.drewN' ?_ _))⟩

theorem rRing_c (s v a b ms : Int) (w : World) :
    Calls Try.prog 36 #[.agg #[.int .i64 s, .int .i64 v], .agg #[.int .i64 a, .int .i64 b], .int .i64 ms] w fun e w' => e = .returned (.tuple #[.int .i64 (ringLo s v a b ms), .int .i64 (ringHi s v a b ms), .int .i64 (ringE s v a b ms)]) ∧ Below w.heap.size w w' := by
  cases ha : validAir s v
  · have e1 : ringE s v a b ms = 1 := by unfold ringE lagE; rw [ha]; rfl
    have e2 : ringLo s v a b ms = 0 := by unfold ringLo; rw [e1]; rfl
    have e3 : ringHi s v a b ms = 0 := by unfold ringHi; rw [e1]; rfl
    rw [e1, e2, e3]
    clear e1 e2 e3
    go_enter Try.func36, Try.ntmps36
    go_wp2_with (go_at_call 20; (with_reducible refine (rvalidAir_c s v _).mono ?_); rintro e w1 ⟨rfl, hb⟩; obtain ⟨hc, hf⟩ := bcell hb; have hz := hb.size; (try simp at hz); (try have hz0 : w.heap.size < w1.heap.size := by omega); (try have hz1 : w.heap.size + 1 < w1.heap.size := by omega); (try have hz2 : w.heap.size + 1 + 1 < w1.heap.size := by omega); (try have hz3 : w.heap.size + 1 + 1 + 1 < w1.heap.size := by omega); (try have hz4 : w.heap.size + 1 + 1 + 1 + 1 < w1.heap.size := by omega); (try have hz5 : w.heap.size + 1 + 1 + 1 + 1 + 1 < w1.heap.size := by omega))
    go_ret3
    exact ⟨rfl, by (repeat (first | exact Below.refl _ _ | refine Below.drew ?_ | refine Below.allocS ?_ _ | refine Below.step ?_ (by assumption) | refine Below.setCell ?_ (by simp <;> omega) _ | refine Below.drewN' ?_ _))⟩
  cases hp : place a b
  · have e1 : ringE s v a b ms = 7 := by unfold ringE lagE; rw [ha, hp]; rfl
    have e2 : ringLo s v a b ms = 0 := by unfold ringLo; rw [e1]; rfl
    have e3 : ringHi s v a b ms = 0 := by unfold ringHi; rw [e1]; rfl
    rw [e1, e2, e3]
    clear e1 e2 e3
    go_enter Try.func36, Try.ntmps36
    go_wp2_with (first | (go_at_call 20; (with_reducible refine (rvalidAir_c _ _ _).mono ?_); rintro e w1 ⟨rfl, hb⟩; obtain ⟨hc, hf⟩ := bcell hb; have hz := hb.size; (try simp at hz); (try have hz0 : w.heap.size < w1.heap.size := by omega); (try have hz1 : w.heap.size + 1 < w1.heap.size := by omega); (try have hz2 : w.heap.size + 1 + 1 < w1.heap.size := by omega); (try have hz3 : w.heap.size + 1 + 1 + 1 < w1.heap.size := by omega); (try have hz4 : w.heap.size + 1 + 1 + 1 + 1 < w1.heap.size := by omega); (try have hz5 : w.heap.size + 1 + 1 + 1 + 1 + 1 < w1.heap.size := by omega)) | (go_at_call 60; (with_reducible refine (rplace_c _ _ _).mono ?_); rintro e w1 ⟨rfl, hb⟩; obtain ⟨hc, hf⟩ := bcell hb; have hz := hb.size; (try simp at hz); (try have hz0 : w.heap.size < w1.heap.size := by omega); (try have hz1 : w.heap.size + 1 < w1.heap.size := by omega); (try have hz2 : w.heap.size + 1 + 1 < w1.heap.size := by omega); (try have hz3 : w.heap.size + 1 + 1 + 1 < w1.heap.size := by omega); (try have hz4 : w.heap.size + 1 + 1 + 1 + 1 < w1.heap.size := by omega); (try have hz5 : w.heap.size + 1 + 1 + 1 + 1 + 1 < w1.heap.size := by omega)))
    go_ret3
    exact ⟨rfl, by (repeat (first | exact Below.refl _ _ | refine Below.drew ?_ | refine Below.allocS ?_ _ | refine Below.step ?_ (by assumption) | refine Below.setCell ?_ (by simp <;> omega) _ | refine Below.drewN' ?_ _))⟩
  have h1 : lagE s v a b a b = 0 := by unfold lagE; rw [ha, hp]; rfl
  cases hm : within ms 0 1000000
  · have e1 : ringE s v a b ms = 7 := by unfold ringE; rw [if_pos h1, hm]; rfl
    have e2 : ringLo s v a b ms = 0 := by unfold ringLo; rw [e1]; rfl
    have e3 : ringHi s v a b ms = 0 := by unfold ringHi; rw [e1]; rfl
    rw [e1, e2, e3]
    clear e1 e2 e3
    go_enter Try.func36, Try.ntmps36
    go_wp2_with (first | (go_at_call 20; (with_reducible refine (rvalidAir_c _ _ _).mono ?_); rintro e w1 ⟨rfl, hb⟩; obtain ⟨hc, hf⟩ := bcell hb; have hz := hb.size; (try simp at hz); (try have hz0 : w.heap.size < w1.heap.size := by omega); (try have hz1 : w.heap.size + 1 < w1.heap.size := by omega); (try have hz2 : w.heap.size + 1 + 1 < w1.heap.size := by omega); (try have hz3 : w.heap.size + 1 + 1 + 1 < w1.heap.size := by omega); (try have hz4 : w.heap.size + 1 + 1 + 1 + 1 < w1.heap.size := by omega); (try have hz5 : w.heap.size + 1 + 1 + 1 + 1 + 1 < w1.heap.size := by omega)) | (go_at_call 60; (with_reducible refine (rplace_c _ _ _).mono ?_); rintro e w1 ⟨rfl, hb⟩; obtain ⟨hc, hf⟩ := bcell hb; have hz := hb.size; (try simp at hz); (try have hz0 : w.heap.size < w1.heap.size := by omega); (try have hz1 : w.heap.size + 1 < w1.heap.size := by omega); (try have hz2 : w.heap.size + 1 + 1 < w1.heap.size := by omega); (try have hz3 : w.heap.size + 1 + 1 + 1 < w1.heap.size := by omega); (try have hz4 : w.heap.size + 1 + 1 + 1 + 1 < w1.heap.size := by omega); (try have hz5 : w.heap.size + 1 + 1 + 1 + 1 + 1 < w1.heap.size := by omega)) | (go_at_call 55; (with_reducible refine (rwithin_c _ _ _ _).mono ?_); rintro e w' ⟨rfl, rfl⟩))
    go_ret3
    exact ⟨rfl, by (repeat (first | exact Below.refl _ _ | refine Below.drew ?_ | refine Below.allocS ?_ _ | refine Below.step ?_ (by assumption) | refine Below.setCell ?_ (by simp <;> omega) _ | refine Below.drewN' ?_ _))⟩
  · have := rRing_ok s v a b ms ha hp hm w
    have e1 : ringE s v a b ms = rgE s v ms := by unfold ringE rgE; rw [if_pos h1, hm]; rfl
    have e2 : ringLo s v a b ms = rgLo s v ms := by unfold ringLo rgLo; rw [e1]; unfold rgE; split <;> simp
    have e3 : ringHi s v a b ms = rgHi s v ms := by unfold ringHi rgHi; rw [e1]; unfold rgE; split <;> simp
    rw [e1, e2, e3]; exact this
end Go.Proofs.Ytgiplkfdallmkaa
