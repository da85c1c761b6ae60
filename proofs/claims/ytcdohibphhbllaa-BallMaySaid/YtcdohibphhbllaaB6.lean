/-
  sound, allowed, then, Next of the reference of ball, and Next of ball.
-/
import Derived.Test.YtcdohibphhbllaaB2
namespace Go.Proofs.Ytcdohibphhbllaa
open Go.RowKit
set_option linter.unusedVariables false

theorem sound_c (e : Ev) (w : World) :
    Calls Try.prog 55 #[evV e] w fun r w' => r = .returned (.int .i64 (soundE e)) ∧ Below w.heap.size w w' := by
  unfold evV
  have hall : (soundE e = 7 ∧ (within e.at' 0 86399999 = false ∨ within e.at' 0 86399999 = true ∧ (within e.kind 1 6 = false ∨ within e.kind 1 6 = true ∧ ((e.kind == 1) = true ∧ within e.n 0 1000 = false ∨ (e.kind == 1) = false ∧ (e.n == 0) = false)))) ∨ (soundE e = 0 ∧ within e.at' 0 86399999 = true ∧ within e.kind 1 6 = true ∧ ((e.kind == 1) = true ∧ within e.n 0 1000 = true ∨ (e.kind == 1) = false ∧ (e.n == 0) = true)) := by
    unfold soundE fineB
    by_cases h5 : e.n = 0
    · have h6 : within e.n 0 1000 = true := by rw [h5]; rfl
      rw [h6]
      cases within e.at' 0 86399999 <;> cases within e.kind 1 6 <;> by_cases h4 : e.kind = 1 <;> simp [h4, h5]
    · cases within e.at' 0 86399999 <;> cases within e.kind 1 6 <;> cases within e.n 0 1000 <;> by_cases h4 : e.kind = 1 <;> simp [h4, h5]
  rcases hall with ⟨h, h1 | ⟨h1, h2 | ⟨h2, ⟨h3, h4⟩ | ⟨h3, h4⟩⟩⟩⟩ | ⟨h, h1, h2, ⟨h3, h4⟩ | ⟨h3, h4⟩⟩
  all_goals
    rw [h]
    clear h
    have hn := Lib.hid h1
    (try have hA := Lib.hid h2)
    have h3' : True := trivial
    (try have h5 : (e.kind != 1) = false := by simpa using h3)
    (try have h5 : (e.kind != 1) = true := by simpa using h3)
    (try have h6 : (e.n != 0) = false := by simpa using h4)
    (try have h6 : (e.n != 0) = true := by simpa using h4)
    (try generalize e.kind = k at *)
    go_enter Try.func55, Try.ntmps55
    go_wp2_with (first | (go_at_call 58; (with_reducible refine (rwithin_c _ _ _ _).mono ?_); rintro e w' ⟨rfl, rfl⟩))
    go_ret
    exact ⟨rfl, by (repeat (first | exact Below.refl _ _ | refine Below.drew ?_ | refine Below.allocS ?_ _ | refine Below.step ?_ (by assumption) | refine Below.setCell ?_ (by simp <;> omega) _ | refine Below.drewN' ?_ _))⟩

set_option maxHeartbeats 1000000 in
theorem allowed_c (x : Ms) (hx : OkMast x) (s : Bl) (e : Ev) (hf : fineB e = true) (w : World) :
    Calls Try.prog 56 #[msV x, blV s, evV e] w fun r w' => r = .returned (.bool (allowB x s e.at' e.kind)) ∧ Below w.heap.size w w' := by
  obtain ⟨⟨t1, t2⟩, ⟨k1, k6⟩, -⟩ := fineB_true hf
  clear hf
  obtain ⟨n0, n1, f0, fh, h1, hn', l0, l1, a0, a1, na, w0, w1⟩ := hx
  obtain ⟨t, k, n⟩ := e
  simp only at k1 k6 t1 t2
  have hk : k = 1 ∨ k = 2 ∨ k = 3 ∨ k = 4 ∨ k = 5 ∨ k = 6 := by omega
  clear k1 k6
  unfold msV blV evV
  rcases hk with rfl | rfl | rfl | rfl | rfl | rfl
  · go_enter Try.func56, Try.ntmps56
    go_wp2
    go_ret
    exact ⟨rfl, by (repeat (first | exact Below.refl _ _ | refine Below.drew ?_ | refine Below.allocS ?_ _ | refine Below.step ?_ (by assumption) | refine Below.setCell ?_ (by simp <;> omega) _ | refine Below.drewN' ?_ _))⟩
  · have HA := Lib.hid (show allowB x s t 2 = (decide (s.place = 0) && (decide (s.wind ≤ x.wind) && hoist x t)) from rfl)
    rw [HA.out]
    unfold hoist
    by_cases h1 : s.place = 0 <;> by_cases h2 : s.wind ≤ x.wind <;> cases h3 : within t (x.noon - x.half) (x.noon - x.full - 1)
    all_goals
      have h4 := Lib.hid h3
      go_enter Try.func56, Try.ntmps56
      go_wp2_with (go_at_call 58; (with_reducible refine (rwithin_c _ _ _ _).mono ?_); rintro e w' ⟨rfl, rfl⟩)
      go_ret
      exact ⟨by simp [h1, h2] <;> (intro; omega), by (repeat (first | exact Below.refl _ _ | refine Below.drew ?_ | refine Below.allocS ?_ _ | refine Below.step ?_ (by assumption) | refine Below.setCell ?_ (by simp <;> omega) _ | refine Below.drewN' ?_ _))⟩
  · have HA := Lib.hid (show allowB x s t 3 = (decide (s.place = 1) && within t (x.noon - x.full) (x.noon + x.again)) from rfl)
    rw [HA.out]
    by_cases h1 : s.place = 1
    all_goals
      go_enter Try.func56, Try.ntmps56
      go_wp2_with (go_at_call 58; (with_reducible refine (rwithin_c _ _ _ _).mono ?_); rintro e w' ⟨rfl, rfl⟩)
      go_ret
      exact ⟨by simp [h1], by (repeat (first | exact Below.refl _ _ | refine Below.drew ?_ | refine Below.allocS ?_ _ | refine Below.step ?_ (by assumption) | refine Below.setCell ?_ (by simp <;> omega) _ | refine Below.drewN' ?_ _))⟩
  · have HA := Lib.hid (show allowB x s t 4 = decide (s.place = 2) from rfl)
    rw [HA.out]
    go_enter Try.func56, Try.ntmps56
    go_wp2
    go_ret
    exact ⟨rfl, by (repeat (first | exact Below.refl _ _ | refine Below.drew ?_ | refine Below.allocS ?_ _ | refine Below.step ?_ (by assumption) | refine Below.setCell ?_ (by simp <;> omega) _ | refine Below.drewN' ?_ _))⟩
  · have HA := Lib.hid (show allowB x s t 5 = decide (s.place = 2) from rfl)
    rw [HA.out]
    go_enter Try.func56, Try.ntmps56
    go_wp2
    go_ret
    exact ⟨rfl, by (repeat (first | exact Below.refl _ _ | refine Below.drew ?_ | refine Below.allocS ?_ _ | refine Below.step ?_ (by assumption) | refine Below.setCell ?_ (by simp <;> omega) _ | refine Below.drewN' ?_ _))⟩
  · have HA := Lib.hid (show allowB x s t 6 = !s.flag from rfl)
    rw [HA.out]
    go_enter Try.func56, Try.ntmps56
    go_wp2
    go_ret
    exact ⟨rfl, by (repeat (first | exact Below.refl _ _ | refine Below.drew ?_ | refine Below.allocS ?_ _ | refine Below.step ?_ (by assumption) | refine Below.setCell ?_ (by simp <;> omega) _ | refine Below.drewN' ?_ _))⟩

set_option maxHeartbeats 1000000 in
theorem then_c (s : Bl) (e : Ev) (hf : fineB e = true) (w : World) :
    Calls Try.prog 57 #[blV s, evV e] w fun r w' => r = .returned (blV (doB s e.kind e.n e.at')) ∧ Below w.heap.size w w' := by
  obtain ⟨⟨t1, t2⟩, ⟨k1, k6⟩, -⟩ := fineB_true hf
  clear hf
  obtain ⟨t, k, n⟩ := e
  simp only at k1 k6 t1 t2
  have hk : k = 1 ∨ k = 2 ∨ k = 3 ∨ k = 4 ∨ k = 5 ∨ k = 6 := by omega
  clear k1 k6
  unfold blV evV
  rcases hk with rfl | rfl | rfl | rfl | rfl | rfl
  · by_cases h : s.wind < n
    · have HD := Lib.hid (show doB s 1 n t = ⟨s.place, n, s.flag, t⟩ by unfold doB; rw [if_pos rfl, show max s.wind n = n by omega])
      rw [HD.out]
      go_enter Try.func57, Try.ntmps57
      go_wp2
      refine bodyPost_ret (v := .agg #[.int .i64 s.place, .int .i64 n, .bool s.flag, .int .i64 t]) (by simp [results, Try.results57, go_sem, *] <;> (repeat' apply And.intro) <;> rfl) rfl ⟨rfl, ?_⟩
      (repeat (first | exact Below.refl _ _ | refine Below.drew ?_ | refine Below.allocS ?_ _ | refine Below.step ?_ (by assumption) | refine Below.setCell ?_ (by simp <;> omega) _ | refine Below.drewN' ?_ _))
    · have HD := Lib.hid (show doB s 1 n t = ⟨s.place, s.wind, s.flag, t⟩ by unfold doB; rw [if_pos rfl, show max s.wind n = s.wind by omega])
      have h' : n ≤ s.wind := by omega
      rw [HD.out]
      go_enter Try.func57, Try.ntmps57
      go_wp2
      refine bodyPost_ret (v := .agg #[.int .i64 s.place, .int .i64 s.wind, .bool s.flag, .int .i64 t]) (by simp [results, Try.results57, go_sem, *] <;> (repeat' apply And.intro) <;> rfl) rfl ⟨rfl, ?_⟩
      (repeat (first | exact Below.refl _ _ | refine Below.drew ?_ | refine Below.allocS ?_ _ | refine Below.step ?_ (by assumption) | refine Below.setCell ?_ (by simp <;> omega) _ | refine Below.drewN' ?_ _))
  · go_enter Try.func57, Try.ntmps57
    go_wp2
    refine bodyPost_ret (v := .agg #[.int .i64 1, .int .i64 s.wind, .bool s.flag, .int .i64 t]) (by simp [results, Try.results57, go_sem, *] <;> (repeat' apply And.intro) <;> rfl) rfl ⟨rfl, ?_⟩
    (repeat (first | exact Below.refl _ _ | refine Below.drew ?_ | refine Below.allocS ?_ _ | refine Below.step ?_ (by assumption) | refine Below.setCell ?_ (by simp <;> omega) _ | refine Below.drewN' ?_ _))
  · go_enter Try.func57, Try.ntmps57
    go_wp2
    refine bodyPost_ret (v := .agg #[.int .i64 2, .int .i64 s.wind, .bool s.flag, .int .i64 t]) (by simp [results, Try.results57, go_sem, *] <;> (repeat' apply And.intro) <;> rfl) rfl ⟨rfl, ?_⟩
    (repeat (first | exact Below.refl _ _ | refine Below.drew ?_ | refine Below.allocS ?_ _ | refine Below.step ?_ (by assumption) | refine Below.setCell ?_ (by simp <;> omega) _ | refine Below.drewN' ?_ _))
  · go_enter Try.func57, Try.ntmps57
    go_wp2
    refine bodyPost_ret (v := .agg #[.int .i64 0, .int .i64 s.wind, .bool s.flag, .int .i64 t]) (by simp [results, Try.results57, go_sem, *] <;> (repeat' apply And.intro) <;> rfl) rfl ⟨rfl, ?_⟩
    (repeat (first | exact Below.refl _ _ | refine Below.drew ?_ | refine Below.allocS ?_ _ | refine Below.step ?_ (by assumption) | refine Below.setCell ?_ (by simp <;> omega) _ | refine Below.drewN' ?_ _))
  · go_enter Try.func57, Try.ntmps57
    go_wp2
    refine bodyPost_ret (v := .agg #[.int .i64 3, .int .i64 s.wind, .bool s.flag, .int .i64 t]) (by simp [results, Try.results57, go_sem, *] <;> (repeat' apply And.intro) <;> rfl) rfl ⟨rfl, ?_⟩
    (repeat (first | exact Below.refl _ _ | refine Below.drew ?_ | refine Below.allocS ?_ _ | refine Below.step ?_ (by assumption) | refine Below.setCell ?_ (by simp <;> omega) _ | refine Below.drewN' ?_ _))
  · go_enter Try.func57, Try.ntmps57
    go_wp2
    refine bodyPost_ret (v := .agg #[.int .i64 0, .int .i64 s.wind, .bool true, .int .i64 t]) (by simp [results, Try.results57, go_sem, *] <;> (repeat' apply And.intro) <;> rfl) rfl ⟨rfl, ?_⟩
    (repeat (first | exact Below.refl _ _ | refine Below.drew ?_ | refine Below.allocS ?_ _ | refine Below.step ?_ (by assumption) | refine Below.setCell ?_ (by simp <;> omega) _ | refine Below.drewN' ?_ _))

/-- What Next answers. -/
def goE (x : Ms) (s : Bl) (e : Ev) : Int := if okMast x && okBall s then nextE x s e else 1
def goS (x : Ms) (s : Bl) (e : Ev) : Bl := if okMast x && okBall s then nextS x s e else bl0
theorem go_bad {x : Ms} {s : Bl} {e : Ev} (h : (okMast x && okBall s) = false) : goE x s e = 1 ∧ goS x s e = bl0 := by
  unfold goE goS; rw [h]; exact ⟨rfl, rfl⟩
theorem go_good {x : Ms} {s : Bl} {e : Ev} (h : okMast x = true) (k : okBall s = true) : goE x s e = nextE x s e ∧ goS x s e = nextS x s e := by
  unfold goE goS; rw [h, k]; exact ⟨rfl, rfl⟩

set_option maxHeartbeats 2000000 in
set_option maxRecDepth 100000 in
theorem rNext_c (x : Ms) (s : Bl) (e : Ev) (w : World) :
    Calls Try.prog 20 #[msV x, blV s, evV e] w fun r w' => r = .returned (.tuple #[blV (goS x s e), .int .i64 (goE x s e)]) ∧ Below w.heap.size w w' := by
  have HV := Lib.hid (fun W => rvalidMast_c x W)
  have HB := Lib.hid (fun W => valid_c s W)
  cases hm : okMast x
  · obtain ⟨e1, e2⟩ := go_bad (x := x) (s := s) (e := e) (by rw [hm]; rfl)
    rw [e1, e2]
    rw [hm] at HV
    clear e1 e2 hm
    unfold msV blV evV at *
    go_enter Try.func20, Try.ntmps20
    go_wp2_with (go_at_call 21; refine (HV.out _).mono ?_; rintro e w1 ⟨rfl, hb⟩; obtain ⟨hc, hf⟩ := bcell hb; have hz := hb.size; (try simp at hz))
    refine bodyPost_ret (v := .tuple #[.agg #[.int .i64 0, .int .i64 0, .bool false, .int .i64 0], .int .i64 1]) (by simp [results, Try.results20, go_sem, *] <;> (repeat' apply And.intro) <;> rfl) rfl ⟨rfl, ?_⟩
    (repeat (first | exact Below.refl _ _ | refine Below.drew ?_ | refine Below.allocS ?_ _ | refine Below.step ?_ (by assumption) | refine Below.setCell ?_ (by simp <;> omega) _ | refine Below.drewN' ?_ _))
  cases hs : okBall s
  · obtain ⟨e1, e2⟩ := go_bad (x := x) (s := s) (e := e) (by rw [hm, hs]; rfl)
    rw [e1, e2]
    rw [hm] at HV
    rw [hs] at HB
    clear e1 e2 hm hs
    unfold msV blV evV at *
    go_enter Try.func20, Try.ntmps20
    go_wp2_with fail
    refine (HV.out _).mono ?_
    rintro e w1 ⟨rfl, hb1⟩
    have x1_0_0 : w1.cell? ⟨w.heap.size, 0, none⟩ = some (.int .i64 x.noon) := keep_cell hb1 (by simp [go_sem, *])
    have x1_0_1 : w1.cell? ⟨w.heap.size, 1, none⟩ = some (.int .i64 x.half) := keep_cell hb1 (by simp [go_sem, *])
    have x1_0_2 : w1.cell? ⟨w.heap.size, 2, none⟩ = some (.int .i64 x.full) := keep_cell hb1 (by simp [go_sem, *])
    have x1_0_3 : w1.cell? ⟨w.heap.size, 3, none⟩ = some (.int .i64 x.late) := keep_cell hb1 (by simp [go_sem, *])
    have x1_0_4 : w1.cell? ⟨w.heap.size, 4, none⟩ = some (.int .i64 x.again) := keep_cell hb1 (by simp [go_sem, *])
    have x1_0_5 : w1.cell? ⟨w.heap.size, 5, none⟩ = some (.int .i64 x.wind) := keep_cell hb1 (by simp [go_sem, *])
    have y1_0 : w.heap.size < w1.heap.size := cell?_lt x1_0_0
    have x1_1_0 : w1.cell? ⟨w.heap.size + 1, 0, none⟩ = some (.int .i64 s.place) := keep_cell hb1 (by simp [go_sem, *])
    have x1_1_1 : w1.cell? ⟨w.heap.size + 1, 1, none⟩ = some (.int .i64 s.wind) := keep_cell hb1 (by simp [go_sem, *])
    have x1_1_2 : w1.cell? ⟨w.heap.size + 1, 2, none⟩ = some (.bool s.flag) := keep_cell hb1 (by simp [go_sem, *])
    have x1_1_3 : w1.cell? ⟨w.heap.size + 1, 3, none⟩ = some (.int .i64 s.at') := keep_cell hb1 (by simp [go_sem, *])
    have y1_1 : w.heap.size + 1 < w1.heap.size := cell?_lt x1_1_0
    have x1_2_0 : w1.cell? ⟨w.heap.size + 1 + 1, 0, none⟩ = some (.int .i64 e.at') := keep_cell hb1 (by simp [go_sem, *])
    have x1_2_1 : w1.cell? ⟨w.heap.size + 1 + 1, 1, none⟩ = some (.int .i64 e.kind) := keep_cell hb1 (by simp [go_sem, *])
    have x1_2_2 : w1.cell? ⟨w.heap.size + 1 + 1, 2, none⟩ = some (.int .i64 e.n) := keep_cell hb1 (by simp [go_sem, *])
    have y1_2 : w.heap.size + 1 + 1 < w1.heap.size := cell?_lt x1_2_0
    have x1_3_0 : w1.cell? ⟨w.heap.size + 1 + 1 + 1, 0, none⟩ = some (.int .i64 0) := keep_cell hb1 (by simp [go_sem, *])
    have f1_3_0 : w1.frozen? ⟨w.heap.size + 1 + 1 + 1, 0, none⟩ = false := keep_frozen hb1 (by first | omega | (simp <;> omega)) (by simp [go_sem, *])
    have x1_3_1 : w1.cell? ⟨w.heap.size + 1 + 1 + 1, 1, none⟩ = some (.int .i64 0) := keep_cell hb1 (by simp [go_sem, *])
    have f1_3_1 : w1.frozen? ⟨w.heap.size + 1 + 1 + 1, 1, none⟩ = false := keep_frozen hb1 (by first | omega | (simp <;> omega)) (by simp [go_sem, *])
    have x1_3_2 : w1.cell? ⟨w.heap.size + 1 + 1 + 1, 2, none⟩ = some (.bool false) := keep_cell hb1 (by simp [go_sem, *])
    have f1_3_2 : w1.frozen? ⟨w.heap.size + 1 + 1 + 1, 2, none⟩ = false := keep_frozen hb1 (by first | omega | (simp <;> omega)) (by simp [go_sem, *])
    have x1_3_3 : w1.cell? ⟨w.heap.size + 1 + 1 + 1, 3, none⟩ = some (.int .i64 0) := keep_cell hb1 (by simp [go_sem, *])
    have f1_3_3 : w1.frozen? ⟨w.heap.size + 1 + 1 + 1, 3, none⟩ = false := keep_frozen hb1 (by first | omega | (simp <;> omega)) (by simp [go_sem, *])
    have y1_3 : w.heap.size + 1 + 1 + 1 < w1.heap.size := cell?_lt x1_3_0
    have g1 : Below w.heap.size w w1 := by (repeat (first | exact Below.refl _ _ | refine Below.drew ?_ | refine Below.allocS ?_ _ | refine Below.step ?_ (by assumption) | refine Below.setCell ?_ (by simp <;> omega) _ | refine Below.drewN' ?_ _))
    clear hb1
    go_wp2_with fail
    refine (HB.out _).mono ?_
    rintro e w2 ⟨rfl, hb2⟩
    have x2_0_0 : w2.cell? ⟨w.heap.size, 0, none⟩ = some (.int .i64 x.noon) := keep_cell hb2 (by simp [go_sem, *])
    have x2_0_1 : w2.cell? ⟨w.heap.size, 1, none⟩ = some (.int .i64 x.half) := keep_cell hb2 (by simp [go_sem, *])
    have x2_0_2 : w2.cell? ⟨w.heap.size, 2, none⟩ = some (.int .i64 x.full) := keep_cell hb2 (by simp [go_sem, *])
    have x2_0_3 : w2.cell? ⟨w.heap.size, 3, none⟩ = some (.int .i64 x.late) := keep_cell hb2 (by simp [go_sem, *])
    have x2_0_4 : w2.cell? ⟨w.heap.size, 4, none⟩ = some (.int .i64 x.again) := keep_cell hb2 (by simp [go_sem, *])
    have x2_0_5 : w2.cell? ⟨w.heap.size, 5, none⟩ = some (.int .i64 x.wind) := keep_cell hb2 (by simp [go_sem, *])
    have y2_0 : w.heap.size < w2.heap.size := cell?_lt x2_0_0
    have x2_1_0 : w2.cell? ⟨w.heap.size + 1, 0, none⟩ = some (.int .i64 s.place) := keep_cell hb2 (by simp [go_sem, *])
    have x2_1_1 : w2.cell? ⟨w.heap.size + 1, 1, none⟩ = some (.int .i64 s.wind) := keep_cell hb2 (by simp [go_sem, *])
    have x2_1_2 : w2.cell? ⟨w.heap.size + 1, 2, none⟩ = some (.bool s.flag) := keep_cell hb2 (by simp [go_sem, *])
    have x2_1_3 : w2.cell? ⟨w.heap.size + 1, 3, none⟩ = some (.int .i64 s.at') := keep_cell hb2 (by simp [go_sem, *])
    have y2_1 : w.heap.size + 1 < w2.heap.size := cell?_lt x2_1_0
    have x2_2_0 : w2.cell? ⟨w.heap.size + 1 + 1, 0, none⟩ = some (.int .i64 e.at') := keep_cell hb2 (by simp [go_sem, *])
    have x2_2_1 : w2.cell? ⟨w.heap.size + 1 + 1, 1, none⟩ = some (.int .i64 e.kind) := keep_cell hb2 (by simp [go_sem, *])
    have x2_2_2 : w2.cell? ⟨w.heap.size + 1 + 1, 2, none⟩ = some (.int .i64 e.n) := keep_cell hb2 (by simp [go_sem, *])
    have y2_2 : w.heap.size + 1 + 1 < w2.heap.size := cell?_lt x2_2_0
    have x2_3_0 : w2.cell? ⟨w.heap.size + 1 + 1 + 1, 0, none⟩ = some (.int .i64 0) := keep_cell hb2 (by simp [go_sem, *])
    have f2_3_0 : w2.frozen? ⟨w.heap.size + 1 + 1 + 1, 0, none⟩ = false := keep_frozen hb2 (by first | omega | (simp <;> omega)) (by simp [go_sem, *])
    have x2_3_1 : w2.cell? ⟨w.heap.size + 1 + 1 + 1, 1, none⟩ = some (.int .i64 0) := keep_cell hb2 (by simp [go_sem, *])
    have f2_3_1 : w2.frozen? ⟨w.heap.size + 1 + 1 + 1, 1, none⟩ = false := keep_frozen hb2 (by first | omega | (simp <;> omega)) (by simp [go_sem, *])
    have x2_3_2 : w2.cell? ⟨w.heap.size + 1 + 1 + 1, 2, none⟩ = some (.bool false) := keep_cell hb2 (by simp [go_sem, *])
    have f2_3_2 : w2.frozen? ⟨w.heap.size + 1 + 1 + 1, 2, none⟩ = false := keep_frozen hb2 (by first | omega | (simp <;> omega)) (by simp [go_sem, *])
    have x2_3_3 : w2.cell? ⟨w.heap.size + 1 + 1 + 1, 3, none⟩ = some (.int .i64 0) := keep_cell hb2 (by simp [go_sem, *])
    have f2_3_3 : w2.frozen? ⟨w.heap.size + 1 + 1 + 1, 3, none⟩ = false := keep_frozen hb2 (by first | omega | (simp <;> omega)) (by simp [go_sem, *])
    have y2_3 : w.heap.size + 1 + 1 + 1 < w2.heap.size := cell?_lt x2_3_0
    have g2 : Below w.heap.size w w2 := by (repeat (first | exact Below.refl _ _ | refine Below.drew ?_ | refine Below.allocS ?_ _ | refine Below.step ?_ (by assumption) | refine Below.setCell ?_ (by simp <;> omega) _ | refine Below.drewN' ?_ _))
    clear hb2 g1 x1_0_0 x1_0_1 x1_0_2 x1_0_3 x1_0_4 x1_0_5 x1_1_0 x1_1_1 x1_1_2 x1_1_3 x1_2_0 x1_2_1 x1_2_2 x1_3_0 f1_3_0 x1_3_1 f1_3_1 x1_3_2 f1_3_2 x1_3_3 f1_3_3 y1_0 y1_1 y1_2 y1_3
    go_wp2
    refine bodyPost_ret (v := .tuple #[.agg #[.int .i64 0, .int .i64 0, .bool false, .int .i64 0], .int .i64 1]) (by simp [results, Try.results20, go_sem, *] <;> (repeat' apply And.intro) <;> rfl) rfl ⟨rfl, ?_⟩
    (repeat (first | exact Below.refl _ _ | refine Below.drew ?_ | refine Below.allocS ?_ _ | refine Below.step ?_ (by assumption) | refine Below.setCell ?_ (by simp <;> omega) _ | refine Below.drewN' ?_ _))
  obtain ⟨e1, e2⟩ := go_good (x := x) (s := s) (e := e) hm hs
  rw [e1, e2]
  have HS := Lib.hid (fun W => sound_c e W)
  have HX := Lib.hid (okMast_true hm)
  rw [hm] at HV
  rw [hs] at HB
  clear e1 e2 hm hs
  cases hf : fineB e
  · obtain ⟨e1, e2⟩ := nextE_not (x := x) (s := s) (e := e) (Or.inl hf)
    rw [show soundE e = 7 by unfold soundE; rw [hf]; rfl] at HS
    rw [e1, e2]
    clear e1 e2 hf
    unfold msV blV evV at *
    go_enter Try.func20, Try.ntmps20
    go_wp2_with fail
    refine (HV.out _).mono ?_
    rintro e w1 ⟨rfl, hb1⟩
    have x1_0_0 : w1.cell? ⟨w.heap.size, 0, none⟩ = some (.int .i64 x.noon) := keep_cell hb1 (by simp [go_sem, *])
    have x1_0_1 : w1.cell? ⟨w.heap.size, 1, none⟩ = some (.int .i64 x.half) := keep_cell hb1 (by simp [go_sem, *])
    have x1_0_2 : w1.cell? ⟨w.heap.size, 2, none⟩ = some (.int .i64 x.full) := keep_cell hb1 (by simp [go_sem, *])
    have x1_0_3 : w1.cell? ⟨w.heap.size, 3, none⟩ = some (.int .i64 x.late) := keep_cell hb1 (by simp [go_sem, *])
    have x1_0_4 : w1.cell? ⟨w.heap.size, 4, none⟩ = some (.int .i64 x.again) := keep_cell hb1 (by simp [go_sem, *])
    have x1_0_5 : w1.cell? ⟨w.heap.size, 5, none⟩ = some (.int .i64 x.wind) := keep_cell hb1 (by simp [go_sem, *])
    have y1_0 : w.heap.size < w1.heap.size := cell?_lt x1_0_0
    have x1_1_0 : w1.cell? ⟨w.heap.size + 1, 0, none⟩ = some (.int .i64 s.place) := keep_cell hb1 (by simp [go_sem, *])
    have x1_1_1 : w1.cell? ⟨w.heap.size + 1, 1, none⟩ = some (.int .i64 s.wind) := keep_cell hb1 (by simp [go_sem, *])
    have x1_1_2 : w1.cell? ⟨w.heap.size + 1, 2, none⟩ = some (.bool s.flag) := keep_cell hb1 (by simp [go_sem, *])
    have x1_1_3 : w1.cell? ⟨w.heap.size + 1, 3, none⟩ = some (.int .i64 s.at') := keep_cell hb1 (by simp [go_sem, *])
    have y1_1 : w.heap.size + 1 < w1.heap.size := cell?_lt x1_1_0
    have x1_2_0 : w1.cell? ⟨w.heap.size + 1 + 1, 0, none⟩ = some (.int .i64 e.at') := keep_cell hb1 (by simp [go_sem, *])
    have x1_2_1 : w1.cell? ⟨w.heap.size + 1 + 1, 1, none⟩ = some (.int .i64 e.kind) := keep_cell hb1 (by simp [go_sem, *])
    have x1_2_2 : w1.cell? ⟨w.heap.size + 1 + 1, 2, none⟩ = some (.int .i64 e.n) := keep_cell hb1 (by simp [go_sem, *])
    have y1_2 : w.heap.size + 1 + 1 < w1.heap.size := cell?_lt x1_2_0
    have x1_3_0 : w1.cell? ⟨w.heap.size + 1 + 1 + 1, 0, none⟩ = some (.int .i64 0) := keep_cell hb1 (by simp [go_sem, *])
    have f1_3_0 : w1.frozen? ⟨w.heap.size + 1 + 1 + 1, 0, none⟩ = false := keep_frozen hb1 (by first | omega | (simp <;> omega)) (by simp [go_sem, *])
    have x1_3_1 : w1.cell? ⟨w.heap.size + 1 + 1 + 1, 1, none⟩ = some (.int .i64 0) := keep_cell hb1 (by simp [go_sem, *])
    have f1_3_1 : w1.frozen? ⟨w.heap.size + 1 + 1 + 1, 1, none⟩ = false := keep_frozen hb1 (by first | omega | (simp <;> omega)) (by simp [go_sem, *])
    have x1_3_2 : w1.cell? ⟨w.heap.size + 1 + 1 + 1, 2, none⟩ = some (.bool false) := keep_cell hb1 (by simp [go_sem, *])
    have f1_3_2 : w1.frozen? ⟨w.heap.size + 1 + 1 + 1, 2, none⟩ = false := keep_frozen hb1 (by first | omega | (simp <;> omega)) (by simp [go_sem, *])
    have x1_3_3 : w1.cell? ⟨w.heap.size + 1 + 1 + 1, 3, none⟩ = some (.int .i64 0) := keep_cell hb1 (by simp [go_sem, *])
    have f1_3_3 : w1.frozen? ⟨w.heap.size + 1 + 1 + 1, 3, none⟩ = false := keep_frozen hb1 (by first | omega | (simp <;> omega)) (by simp [go_sem, *])
    have y1_3 : w.heap.size + 1 + 1 + 1 < w1.heap.size := cell?_lt x1_3_0
    have g1 : Below w.heap.size w w1 := by (repeat (first | exact Below.refl _ _ | refine Below.drew ?_ | refine Below.allocS ?_ _ | refine Below.step ?_ (by assumption) | refine Below.setCell ?_ (by simp <;> omega) _ | refine Below.drewN' ?_ _))
    clear hb1
    go_wp2_with fail
    refine (HB.out _).mono ?_
    rintro e w2 ⟨rfl, hb2⟩
    have x2_0_0 : w2.cell? ⟨w.heap.size, 0, none⟩ = some (.int .i64 x.noon) := keep_cell hb2 (by simp [go_sem, *])
    have x2_0_1 : w2.cell? ⟨w.heap.size, 1, none⟩ = some (.int .i64 x.half) := keep_cell hb2 (by simp [go_sem, *])
    have x2_0_2 : w2.cell? ⟨w.heap.size, 2, none⟩ = some (.int .i64 x.full) := keep_cell hb2 (by simp [go_sem, *])
    have x2_0_3 : w2.cell? ⟨w.heap.size, 3, none⟩ = some (.int .i64 x.late) := keep_cell hb2 (by simp [go_sem, *])
    have x2_0_4 : w2.cell? ⟨w.heap.size, 4, none⟩ = some (.int .i64 x.again) := keep_cell hb2 (by simp [go_sem, *])
    have x2_0_5 : w2.cell? ⟨w.heap.size, 5, none⟩ = some (.int .i64 x.wind) := keep_cell hb2 (by simp [go_sem, *])
    have y2_0 : w.heap.size < w2.heap.size := cell?_lt x2_0_0
    have x2_1_0 : w2.cell? ⟨w.heap.size + 1, 0, none⟩ = some (.int .i64 s.place) := keep_cell hb2 (by simp [go_sem, *])
    have x2_1_1 : w2.cell? ⟨w.heap.size + 1, 1, none⟩ = some (.int .i64 s.wind) := keep_cell hb2 (by simp [go_sem, *])
    have x2_1_2 : w2.cell? ⟨w.heap.size + 1, 2, none⟩ = some (.bool s.flag) := keep_cell hb2 (by simp [go_sem, *])
    have x2_1_3 : w2.cell? ⟨w.heap.size + 1, 3, none⟩ = some (.int .i64 s.at') := keep_cell hb2 (by simp [go_sem, *])
    have y2_1 : w.heap.size + 1 < w2.heap.size := cell?_lt x2_1_0
    have x2_2_0 : w2.cell? ⟨w.heap.size + 1 + 1, 0, none⟩ = some (.int .i64 e.at') := keep_cell hb2 (by simp [go_sem, *])
    have x2_2_1 : w2.cell? ⟨w.heap.size + 1 + 1, 1, none⟩ = some (.int .i64 e.kind) := keep_cell hb2 (by simp [go_sem, *])
    have x2_2_2 : w2.cell? ⟨w.heap.size + 1 + 1, 2, none⟩ = some (.int .i64 e.n) := keep_cell hb2 (by simp [go_sem, *])
    have y2_2 : w.heap.size + 1 + 1 < w2.heap.size := cell?_lt x2_2_0
    have x2_3_0 : w2.cell? ⟨w.heap.size + 1 + 1 + 1, 0, none⟩ = some (.int .i64 0) := keep_cell hb2 (by simp [go_sem, *])
    have f2_3_0 : w2.frozen? ⟨w.heap.size + 1 + 1 + 1, 0, none⟩ = false := keep_frozen hb2 (by first | omega | (simp <;> omega)) (by simp [go_sem, *])
    have x2_3_1 : w2.cell? ⟨w.heap.size + 1 + 1 + 1, 1, none⟩ = some (.int .i64 0) := keep_cell hb2 (by simp [go_sem, *])
    have f2_3_1 : w2.frozen? ⟨w.heap.size + 1 + 1 + 1, 1, none⟩ = false := keep_frozen hb2 (by first | omega | (simp <;> omega)) (by simp [go_sem, *])
    have x2_3_2 : w2.cell? ⟨w.heap.size + 1 + 1 + 1, 2, none⟩ = some (.bool false) := keep_cell hb2 (by simp [go_sem, *])
    have f2_3_2 : w2.frozen? ⟨w.heap.size + 1 + 1 + 1, 2, none⟩ = false := keep_frozen hb2 (by first | omega | (simp <;> omega)) (by simp [go_sem, *])
    have x2_3_3 : w2.cell? ⟨w.heap.size + 1 + 1 + 1, 3, none⟩ = some (.int .i64 0) := keep_cell hb2 (by simp [go_sem, *])
    have f2_3_3 : w2.frozen? ⟨w.heap.size + 1 + 1 + 1, 3, none⟩ = false := keep_frozen hb2 (by first | omega | (simp <;> omega)) (by simp [go_sem, *])
    have y2_3 : w.heap.size + 1 + 1 + 1 < w2.heap.size := cell?_lt x2_3_0
    have g2 : Below w.heap.size w w2 := by (repeat (first | exact Below.refl _ _ | refine Below.drew ?_ | refine Below.allocS ?_ _ | refine Below.step ?_ (by assumption) | refine Below.setCell ?_ (by simp <;> omega) _ | refine Below.drewN' ?_ _))
    clear hb2 g1 x1_0_0 x1_0_1 x1_0_2 x1_0_3 x1_0_4 x1_0_5 x1_1_0 x1_1_1 x1_1_2 x1_1_3 x1_2_0 x1_2_1 x1_2_2 x1_3_0 f1_3_0 x1_3_1 f1_3_1 x1_3_2 f1_3_2 x1_3_3 f1_3_3 y1_0 y1_1 y1_2 y1_3
    go_wp2_with fail
    refine (HS.out _).mono ?_
    rintro e w3 ⟨rfl, hb3⟩
    have x3_0_0 : w3.cell? ⟨w.heap.size, 0, none⟩ = some (.int .i64 x.noon) := keep_cell hb3 (by simp [go_sem, *])
    have x3_0_1 : w3.cell? ⟨w.heap.size, 1, none⟩ = some (.int .i64 x.half) := keep_cell hb3 (by simp [go_sem, *])
    have x3_0_2 : w3.cell? ⟨w.heap.size, 2, none⟩ = some (.int .i64 x.full) := keep_cell hb3 (by simp [go_sem, *])
    have x3_0_3 : w3.cell? ⟨w.heap.size, 3, none⟩ = some (.int .i64 x.late) := keep_cell hb3 (by simp [go_sem, *])
    have x3_0_4 : w3.cell? ⟨w.heap.size, 4, none⟩ = some (.int .i64 x.again) := keep_cell hb3 (by simp [go_sem, *])
    have x3_0_5 : w3.cell? ⟨w.heap.size, 5, none⟩ = some (.int .i64 x.wind) := keep_cell hb3 (by simp [go_sem, *])
    have y3_0 : w.heap.size < w3.heap.size := cell?_lt x3_0_0
    have x3_1_0 : w3.cell? ⟨w.heap.size + 1, 0, none⟩ = some (.int .i64 s.place) := keep_cell hb3 (by simp [go_sem, *])
    have x3_1_1 : w3.cell? ⟨w.heap.size + 1, 1, none⟩ = some (.int .i64 s.wind) := keep_cell hb3 (by simp [go_sem, *])
    have x3_1_2 : w3.cell? ⟨w.heap.size + 1, 2, none⟩ = some (.bool s.flag) := keep_cell hb3 (by simp [go_sem, *])
    have x3_1_3 : w3.cell? ⟨w.heap.size + 1, 3, none⟩ = some (.int .i64 s.at') := keep_cell hb3 (by simp [go_sem, *])
    have y3_1 : w.heap.size + 1 < w3.heap.size := cell?_lt x3_1_0
    have x3_2_0 : w3.cell? ⟨w.heap.size + 1 + 1, 0, none⟩ = some (.int .i64 e.at') := keep_cell hb3 (by simp [go_sem, *])
    have x3_2_1 : w3.cell? ⟨w.heap.size + 1 + 1, 1, none⟩ = some (.int .i64 e.kind) := keep_cell hb3 (by simp [go_sem, *])
    have x3_2_2 : w3.cell? ⟨w.heap.size + 1 + 1, 2, none⟩ = some (.int .i64 e.n) := keep_cell hb3 (by simp [go_sem, *])
    have y3_2 : w.heap.size + 1 + 1 < w3.heap.size := cell?_lt x3_2_0
    have x3_3_0 : w3.cell? ⟨w.heap.size + 1 + 1 + 1, 0, none⟩ = some (.int .i64 0) := keep_cell hb3 (by simp [go_sem, *])
    have f3_3_0 : w3.frozen? ⟨w.heap.size + 1 + 1 + 1, 0, none⟩ = false := keep_frozen hb3 (by first | omega | (simp <;> omega)) (by simp [go_sem, *])
    have x3_3_1 : w3.cell? ⟨w.heap.size + 1 + 1 + 1, 1, none⟩ = some (.int .i64 0) := keep_cell hb3 (by simp [go_sem, *])
    have f3_3_1 : w3.frozen? ⟨w.heap.size + 1 + 1 + 1, 1, none⟩ = false := keep_frozen hb3 (by first | omega | (simp <;> omega)) (by simp [go_sem, *])
    have x3_3_2 : w3.cell? ⟨w.heap.size + 1 + 1 + 1, 2, none⟩ = some (.bool false) := keep_cell hb3 (by simp [go_sem, *])
    have f3_3_2 : w3.frozen? ⟨w.heap.size + 1 + 1 + 1, 2, none⟩ = false := keep_frozen hb3 (by first | omega | (simp <;> omega)) (by simp [go_sem, *])
    have x3_3_3 : w3.cell? ⟨w.heap.size + 1 + 1 + 1, 3, none⟩ = some (.int .i64 0) := keep_cell hb3 (by simp [go_sem, *])
    have f3_3_3 : w3.frozen? ⟨w.heap.size + 1 + 1 + 1, 3, none⟩ = false := keep_frozen hb3 (by first | omega | (simp <;> omega)) (by simp [go_sem, *])
    have y3_3 : w.heap.size + 1 + 1 + 1 < w3.heap.size := cell?_lt x3_3_0
    have g3 : Below w.heap.size w w3 := by (repeat (first | exact Below.refl _ _ | refine Below.drew ?_ | refine Below.allocS ?_ _ | refine Below.step ?_ (by assumption) | refine Below.setCell ?_ (by simp <;> omega) _ | refine Below.drewN' ?_ _))
    clear hb3 g2 x2_0_0 x2_0_1 x2_0_2 x2_0_3 x2_0_4 x2_0_5 x2_1_0 x2_1_1 x2_1_2 x2_1_3 x2_2_0 x2_2_1 x2_2_2 x2_3_0 f2_3_0 x2_3_1 f2_3_1 x2_3_2 f2_3_2 x2_3_3 f2_3_3 y2_0 y2_1 y2_2 y2_3
    go_wp2
    refine bodyPost_ret (v := .tuple #[.agg #[.int .i64 0, .int .i64 0, .bool false, .int .i64 0], .int .i64 7]) (by simp [results, Try.results20, go_sem, *] <;> (repeat' apply And.intro) <;> rfl) rfl ⟨rfl, ?_⟩
    (repeat (first | exact Below.refl _ _ | refine Below.drew ?_ | refine Below.allocS ?_ _ | refine Below.step ?_ (by assumption) | refine Below.setCell ?_ (by simp <;> omega) _ | refine Below.drewN' ?_ _))
  rw [show soundE e = 0 by unfold soundE; rw [hf]; rfl] at HS
  by_cases ht : e.at' < s.at'
  · obtain ⟨e1, e2⟩ := nextE_not (x := x) (s := s) (e := e) (Or.inr ht)
    rw [e1, e2]
    clear e1 e2 hf
    unfold msV blV evV at *
    go_enter Try.func20, Try.ntmps20
    go_wp2_with fail
    refine (HV.out _).mono ?_
    rintro e w1 ⟨rfl, hb1⟩
    have x1_0_0 : w1.cell? ⟨w.heap.size, 0, none⟩ = some (.int .i64 x.noon) := keep_cell hb1 (by simp [go_sem, *])
    have x1_0_1 : w1.cell? ⟨w.heap.size, 1, none⟩ = some (.int .i64 x.half) := keep_cell hb1 (by simp [go_sem, *])
    have x1_0_2 : w1.cell? ⟨w.heap.size, 2, none⟩ = some (.int .i64 x.full) := keep_cell hb1 (by simp [go_sem, *])
    have x1_0_3 : w1.cell? ⟨w.heap.size, 3, none⟩ = some (.int .i64 x.late) := keep_cell hb1 (by simp [go_sem, *])
    have x1_0_4 : w1.cell? ⟨w.heap.size, 4, none⟩ = some (.int .i64 x.again) := keep_cell hb1 (by simp [go_sem, *])
    have x1_0_5 : w1.cell? ⟨w.heap.size, 5, none⟩ = some (.int .i64 x.wind) := keep_cell hb1 (by simp [go_sem, *])
    have y1_0 : w.heap.size < w1.heap.size := cell?_lt x1_0_0
    have x1_1_0 : w1.cell? ⟨w.heap.size + 1, 0, none⟩ = some (.int .i64 s.place) := keep_cell hb1 (by simp [go_sem, *])
    have x1_1_1 : w1.cell? ⟨w.heap.size + 1, 1, none⟩ = some (.int .i64 s.wind) := keep_cell hb1 (by simp [go_sem, *])
    have x1_1_2 : w1.cell? ⟨w.heap.size + 1, 2, none⟩ = some (.bool s.flag) := keep_cell hb1 (by simp [go_sem, *])
    have x1_1_3 : w1.cell? ⟨w.heap.size + 1, 3, none⟩ = some (.int .i64 s.at') := keep_cell hb1 (by simp [go_sem, *])
    have y1_1 : w.heap.size + 1 < w1.heap.size := cell?_lt x1_1_0
    have x1_2_0 : w1.cell? ⟨w.heap.size + 1 + 1, 0, none⟩ = some (.int .i64 e.at') := keep_cell hb1 (by simp [go_sem, *])
    have x1_2_1 : w1.cell? ⟨w.heap.size + 1 + 1, 1, none⟩ = some (.int .i64 e.kind) := keep_cell hb1 (by simp [go_sem, *])
    have x1_2_2 : w1.cell? ⟨w.heap.size + 1 + 1, 2, none⟩ = some (.int .i64 e.n) := keep_cell hb1 (by simp [go_sem, *])
    have y1_2 : w.heap.size + 1 + 1 < w1.heap.size := cell?_lt x1_2_0
    have x1_3_0 : w1.cell? ⟨w.heap.size + 1 + 1 + 1, 0, none⟩ = some (.int .i64 0) := keep_cell hb1 (by simp [go_sem, *])
    have f1_3_0 : w1.frozen? ⟨w.heap.size + 1 + 1 + 1, 0, none⟩ = false := keep_frozen hb1 (by first | omega | (simp <;> omega)) (by simp [go_sem, *])
    have x1_3_1 : w1.cell? ⟨w.heap.size + 1 + 1 + 1, 1, none⟩ = some (.int .i64 0) := keep_cell hb1 (by simp [go_sem, *])
    have f1_3_1 : w1.frozen? ⟨w.heap.size + 1 + 1 + 1, 1, none⟩ = false := keep_frozen hb1 (by first | omega | (simp <;> omega)) (by simp [go_sem, *])
    have x1_3_2 : w1.cell? ⟨w.heap.size + 1 + 1 + 1, 2, none⟩ = some (.bool false) := keep_cell hb1 (by simp [go_sem, *])
    have f1_3_2 : w1.frozen? ⟨w.heap.size + 1 + 1 + 1, 2, none⟩ = false := keep_frozen hb1 (by first | omega | (simp <;> omega)) (by simp [go_sem, *])
    have x1_3_3 : w1.cell? ⟨w.heap.size + 1 + 1 + 1, 3, none⟩ = some (.int .i64 0) := keep_cell hb1 (by simp [go_sem, *])
    have f1_3_3 : w1.frozen? ⟨w.heap.size + 1 + 1 + 1, 3, none⟩ = false := keep_frozen hb1 (by first | omega | (simp <;> omega)) (by simp [go_sem, *])
    have y1_3 : w.heap.size + 1 + 1 + 1 < w1.heap.size := cell?_lt x1_3_0
    have g1 : Below w.heap.size w w1 := by (repeat (first | exact Below.refl _ _ | refine Below.drew ?_ | refine Below.allocS ?_ _ | refine Below.step ?_ (by assumption) | refine Below.setCell ?_ (by simp <;> omega) _ | refine Below.drewN' ?_ _))
    clear hb1
    go_wp2_with fail
    refine (HB.out _).mono ?_
    rintro e w2 ⟨rfl, hb2⟩
    have x2_0_0 : w2.cell? ⟨w.heap.size, 0, none⟩ = some (.int .i64 x.noon) := keep_cell hb2 (by simp [go_sem, *])
    have x2_0_1 : w2.cell? ⟨w.heap.size, 1, none⟩ = some (.int .i64 x.half) := keep_cell hb2 (by simp [go_sem, *])
    have x2_0_2 : w2.cell? ⟨w.heap.size, 2, none⟩ = some (.int .i64 x.full) := keep_cell hb2 (by simp [go_sem, *])
    have x2_0_3 : w2.cell? ⟨w.heap.size, 3, none⟩ = some (.int .i64 x.late) := keep_cell hb2 (by simp [go_sem, *])
    have x2_0_4 : w2.cell? ⟨w.heap.size, 4, none⟩ = some (.int .i64 x.again) := keep_cell hb2 (by simp [go_sem, *])
    have x2_0_5 : w2.cell? ⟨w.heap.size, 5, none⟩ = some (.int .i64 x.wind) := keep_cell hb2 (by simp [go_sem, *])
    have y2_0 : w.heap.size < w2.heap.size := cell?_lt x2_0_0
    have x2_1_0 : w2.cell? ⟨w.heap.size + 1, 0, none⟩ = some (.int .i64 s.place) := keep_cell hb2 (by simp [go_sem, *])
    have x2_1_1 : w2.cell? ⟨w.heap.size + 1, 1, none⟩ = some (.int .i64 s.wind) := keep_cell hb2 (by simp [go_sem, *])
    have x2_1_2 : w2.cell? ⟨w.heap.size + 1, 2, none⟩ = some (.bool s.flag) := keep_cell hb2 (by simp [go_sem, *])
    have x2_1_3 : w2.cell? ⟨w.heap.size + 1, 3, none⟩ = some (.int .i64 s.at') := keep_cell hb2 (by simp [go_sem, *])
    have y2_1 : w.heap.size + 1 < w2.heap.size := cell?_lt x2_1_0
    have x2_2_0 : w2.cell? ⟨w.heap.size + 1 + 1, 0, none⟩ = some (.int .i64 e.at') := keep_cell hb2 (by simp [go_sem, *])
    have x2_2_1 : w2.cell? ⟨w.heap.size + 1 + 1, 1, none⟩ = some (.int .i64 e.kind) := keep_cell hb2 (by simp [go_sem, *])
    have x2_2_2 : w2.cell? ⟨w.heap.size + 1 + 1, 2, none⟩ = some (.int .i64 e.n) := keep_cell hb2 (by simp [go_sem, *])
    have y2_2 : w.heap.size + 1 + 1 < w2.heap.size := cell?_lt x2_2_0
    have x2_3_0 : w2.cell? ⟨w.heap.size + 1 + 1 + 1, 0, none⟩ = some (.int .i64 0) := keep_cell hb2 (by simp [go_sem, *])
    have f2_3_0 : w2.frozen? ⟨w.heap.size + 1 + 1 + 1, 0, none⟩ = false := keep_frozen hb2 (by first | omega | (simp <;> omega)) (by simp [go_sem, *])
    have x2_3_1 : w2.cell? ⟨w.heap.size + 1 + 1 + 1, 1, none⟩ = some (.int .i64 0) := keep_cell hb2 (by simp [go_sem, *])
    have f2_3_1 : w2.frozen? ⟨w.heap.size + 1 + 1 + 1, 1, none⟩ = false := keep_frozen hb2 (by first | omega | (simp <;> omega)) (by simp [go_sem, *])
    have x2_3_2 : w2.cell? ⟨w.heap.size + 1 + 1 + 1, 2, none⟩ = some (.bool false) := keep_cell hb2 (by simp [go_sem, *])
    have f2_3_2 : w2.frozen? ⟨w.heap.size + 1 + 1 + 1, 2, none⟩ = false := keep_frozen hb2 (by first | omega | (simp <;> omega)) (by simp [go_sem, *])
    have x2_3_3 : w2.cell? ⟨w.heap.size + 1 + 1 + 1, 3, none⟩ = some (.int .i64 0) := keep_cell hb2 (by simp [go_sem, *])
    have f2_3_3 : w2.frozen? ⟨w.heap.size + 1 + 1 + 1, 3, none⟩ = false := keep_frozen hb2 (by first | omega | (simp <;> omega)) (by simp [go_sem, *])
    have y2_3 : w.heap.size + 1 + 1 + 1 < w2.heap.size := cell?_lt x2_3_0
    have g2 : Below w.heap.size w w2 := by (repeat (first | exact Below.refl _ _ | refine Below.drew ?_ | refine Below.allocS ?_ _ | refine Below.step ?_ (by assumption) | refine Below.setCell ?_ (by simp <;> omega) _ | refine Below.drewN' ?_ _))
    clear hb2 g1 x1_0_0 x1_0_1 x1_0_2 x1_0_3 x1_0_4 x1_0_5 x1_1_0 x1_1_1 x1_1_2 x1_1_3 x1_2_0 x1_2_1 x1_2_2 x1_3_0 f1_3_0 x1_3_1 f1_3_1 x1_3_2 f1_3_2 x1_3_3 f1_3_3 y1_0 y1_1 y1_2 y1_3
    go_wp2_with fail
    refine (HS.out _).mono ?_
    rintro e w3 ⟨rfl, hb3⟩
    have x3_0_0 : w3.cell? ⟨w.heap.size, 0, none⟩ = some (.int .i64 x.noon) := keep_cell hb3 (by simp [go_sem, *])
    have x3_0_1 : w3.cell? ⟨w.heap.size, 1, none⟩ = some (.int .i64 x.half) := keep_cell hb3 (by simp [go_sem, *])
    have x3_0_2 : w3.cell? ⟨w.heap.size, 2, none⟩ = some (.int .i64 x.full) := keep_cell hb3 (by simp [go_sem, *])
    have x3_0_3 : w3.cell? ⟨w.heap.size, 3, none⟩ = some (.int .i64 x.late) := keep_cell hb3 (by simp [go_sem, *])
    have x3_0_4 : w3.cell? ⟨w.heap.size, 4, none⟩ = some (.int .i64 x.again) := keep_cell hb3 (by simp [go_sem, *])
    have x3_0_5 : w3.cell? ⟨w.heap.size, 5, none⟩ = some (.int .i64 x.wind) := keep_cell hb3 (by simp [go_sem, *])
    have y3_0 : w.heap.size < w3.heap.size := cell?_lt x3_0_0
    have x3_1_0 : w3.cell? ⟨w.heap.size + 1, 0, none⟩ = some (.int .i64 s.place) := keep_cell hb3 (by simp [go_sem, *])
    have x3_1_1 : w3.cell? ⟨w.heap.size + 1, 1, none⟩ = some (.int .i64 s.wind) := keep_cell hb3 (by simp [go_sem, *])
    have x3_1_2 : w3.cell? ⟨w.heap.size + 1, 2, none⟩ = some (.bool s.flag) := keep_cell hb3 (by simp [go_sem, *])
    have x3_1_3 : w3.cell? ⟨w.heap.size + 1, 3, none⟩ = some (.int .i64 s.at') := keep_cell hb3 (by simp [go_sem, *])
    have y3_1 : w.heap.size + 1 < w3.heap.size := cell?_lt x3_1_0
    have x3_2_0 : w3.cell? ⟨w.heap.size + 1 + 1, 0, none⟩ = some (.int .i64 e.at') := keep_cell hb3 (by simp [go_sem, *])
    have x3_2_1 : w3.cell? ⟨w.heap.size + 1 + 1, 1, none⟩ = some (.int .i64 e.kind) := keep_cell hb3 (by simp [go_sem, *])
    have x3_2_2 : w3.cell? ⟨w.heap.size + 1 + 1, 2, none⟩ = some (.int .i64 e.n) := keep_cell hb3 (by simp [go_sem, *])
    have y3_2 : w.heap.size + 1 + 1 < w3.heap.size := cell?_lt x3_2_0
    have x3_3_0 : w3.cell? ⟨w.heap.size + 1 + 1 + 1, 0, none⟩ = some (.int .i64 0) := keep_cell hb3 (by simp [go_sem, *])
    have f3_3_0 : w3.frozen? ⟨w.heap.size + 1 + 1 + 1, 0, none⟩ = false := keep_frozen hb3 (by first | omega | (simp <;> omega)) (by simp [go_sem, *])
    have x3_3_1 : w3.cell? ⟨w.heap.size + 1 + 1 + 1, 1, none⟩ = some (.int .i64 0) := keep_cell hb3 (by simp [go_sem, *])
    have f3_3_1 : w3.frozen? ⟨w.heap.size + 1 + 1 + 1, 1, none⟩ = false := keep_frozen hb3 (by first | omega | (simp <;> omega)) (by simp [go_sem, *])
    have x3_3_2 : w3.cell? ⟨w.heap.size + 1 + 1 + 1, 2, none⟩ = some (.bool false) := keep_cell hb3 (by simp [go_sem, *])
    have f3_3_2 : w3.frozen? ⟨w.heap.size + 1 + 1 + 1, 2, none⟩ = false := keep_frozen hb3 (by first | omega | (simp <;> omega)) (by simp [go_sem, *])
    have x3_3_3 : w3.cell? ⟨w.heap.size + 1 + 1 + 1, 3, none⟩ = some (.int .i64 0) := keep_cell hb3 (by simp [go_sem, *])
    have f3_3_3 : w3.frozen? ⟨w.heap.size + 1 + 1 + 1, 3, none⟩ = false := keep_frozen hb3 (by first | omega | (simp <;> omega)) (by simp [go_sem, *])
    have y3_3 : w.heap.size + 1 + 1 + 1 < w3.heap.size := cell?_lt x3_3_0
    have g3 : Below w.heap.size w w3 := by (repeat (first | exact Below.refl _ _ | refine Below.drew ?_ | refine Below.allocS ?_ _ | refine Below.step ?_ (by assumption) | refine Below.setCell ?_ (by simp <;> omega) _ | refine Below.drewN' ?_ _))
    clear hb3 g2 x2_0_0 x2_0_1 x2_0_2 x2_0_3 x2_0_4 x2_0_5 x2_1_0 x2_1_1 x2_1_2 x2_1_3 x2_2_0 x2_2_1 x2_2_2 x2_3_0 f2_3_0 x2_3_1 f2_3_1 x2_3_2 f2_3_2 x2_3_3 f2_3_3 y2_0 y2_1 y2_2 y2_3
    go_wp2
    refine bodyPost_ret (v := .tuple #[.agg #[.int .i64 0, .int .i64 0, .bool false, .int .i64 0], .int .i64 7]) (by simp [results, Try.results20, go_sem, *] <;> (repeat' apply And.intro) <;> rfl) rfl ⟨rfl, ?_⟩
    (repeat (first | exact Below.refl _ _ | refine Below.drew ?_ | refine Below.allocS ?_ _ | refine Below.step ?_ (by assumption) | refine Below.setCell ?_ (by simp <;> omega) _ | refine Below.drewN' ?_ _))
  have ht' : s.at' ≤ e.at' := by omega
  have HA := Lib.hid (fun W => allowed_c x HX.out s e hf W)
  have HT := Lib.hid (fun W => then_c s e hf W)
  cases ha : allowB x s e.at' e.kind
  · obtain ⟨e1, e2⟩ := nextE_no hf ht' ha
    rw [e1, e2]
    rw [ha] at HA
    clear e1 e2 ha hf HT
    unfold msV blV evV at *
    go_enter Try.func20, Try.ntmps20
    go_wp2_with fail
    refine (HV.out _).mono ?_
    rintro e w1 ⟨rfl, hb1⟩
    have x1_0_0 : w1.cell? ⟨w.heap.size, 0, none⟩ = some (.int .i64 x.noon) := keep_cell hb1 (by simp [go_sem, *])
    have x1_0_1 : w1.cell? ⟨w.heap.size, 1, none⟩ = some (.int .i64 x.half) := keep_cell hb1 (by simp [go_sem, *])
    have x1_0_2 : w1.cell? ⟨w.heap.size, 2, none⟩ = some (.int .i64 x.full) := keep_cell hb1 (by simp [go_sem, *])
    have x1_0_3 : w1.cell? ⟨w.heap.size, 3, none⟩ = some (.int .i64 x.late) := keep_cell hb1 (by simp [go_sem, *])
    have x1_0_4 : w1.cell? ⟨w.heap.size, 4, none⟩ = some (.int .i64 x.again) := keep_cell hb1 (by simp [go_sem, *])
    have x1_0_5 : w1.cell? ⟨w.heap.size, 5, none⟩ = some (.int .i64 x.wind) := keep_cell hb1 (by simp [go_sem, *])
    have y1_0 : w.heap.size < w1.heap.size := cell?_lt x1_0_0
    have x1_1_0 : w1.cell? ⟨w.heap.size + 1, 0, none⟩ = some (.int .i64 s.place) := keep_cell hb1 (by simp [go_sem, *])
    have x1_1_1 : w1.cell? ⟨w.heap.size + 1, 1, none⟩ = some (.int .i64 s.wind) := keep_cell hb1 (by simp [go_sem, *])
    have x1_1_2 : w1.cell? ⟨w.heap.size + 1, 2, none⟩ = some (.bool s.flag) := keep_cell hb1 (by simp [go_sem, *])
    have x1_1_3 : w1.cell? ⟨w.heap.size + 1, 3, none⟩ = some (.int .i64 s.at') := keep_cell hb1 (by simp [go_sem, *])
    have y1_1 : w.heap.size + 1 < w1.heap.size := cell?_lt x1_1_0
    have x1_2_0 : w1.cell? ⟨w.heap.size + 1 + 1, 0, none⟩ = some (.int .i64 e.at') := keep_cell hb1 (by simp [go_sem, *])
    have x1_2_1 : w1.cell? ⟨w.heap.size + 1 + 1, 1, none⟩ = some (.int .i64 e.kind) := keep_cell hb1 (by simp [go_sem, *])
    have x1_2_2 : w1.cell? ⟨w.heap.size + 1 + 1, 2, none⟩ = some (.int .i64 e.n) := keep_cell hb1 (by simp [go_sem, *])
    have y1_2 : w.heap.size + 1 + 1 < w1.heap.size := cell?_lt x1_2_0
    have x1_3_0 : w1.cell? ⟨w.heap.size + 1 + 1 + 1, 0, none⟩ = some (.int .i64 0) := keep_cell hb1 (by simp [go_sem, *])
    have f1_3_0 : w1.frozen? ⟨w.heap.size + 1 + 1 + 1, 0, none⟩ = false := keep_frozen hb1 (by first | omega | (simp <;> omega)) (by simp [go_sem, *])
    have x1_3_1 : w1.cell? ⟨w.heap.size + 1 + 1 + 1, 1, none⟩ = some (.int .i64 0) := keep_cell hb1 (by simp [go_sem, *])
    have f1_3_1 : w1.frozen? ⟨w.heap.size + 1 + 1 + 1, 1, none⟩ = false := keep_frozen hb1 (by first | omega | (simp <;> omega)) (by simp [go_sem, *])
    have x1_3_2 : w1.cell? ⟨w.heap.size + 1 + 1 + 1, 2, none⟩ = some (.bool false) := keep_cell hb1 (by simp [go_sem, *])
    have f1_3_2 : w1.frozen? ⟨w.heap.size + 1 + 1 + 1, 2, none⟩ = false := keep_frozen hb1 (by first | omega | (simp <;> omega)) (by simp [go_sem, *])
    have x1_3_3 : w1.cell? ⟨w.heap.size + 1 + 1 + 1, 3, none⟩ = some (.int .i64 0) := keep_cell hb1 (by simp [go_sem, *])
    have f1_3_3 : w1.frozen? ⟨w.heap.size + 1 + 1 + 1, 3, none⟩ = false := keep_frozen hb1 (by first | omega | (simp <;> omega)) (by simp [go_sem, *])
    have y1_3 : w.heap.size + 1 + 1 + 1 < w1.heap.size := cell?_lt x1_3_0
    have g1 : Below w.heap.size w w1 := by (repeat (first | exact Below.refl _ _ | refine Below.drew ?_ | refine Below.allocS ?_ _ | refine Below.step ?_ (by assumption) | refine Below.setCell ?_ (by simp <;> omega) _ | refine Below.drewN' ?_ _))
    clear hb1
    go_wp2_with fail
    refine (HB.out _).mono ?_
    rintro e w2 ⟨rfl, hb2⟩
    have x2_0_0 : w2.cell? ⟨w.heap.size, 0, none⟩ = some (.int .i64 x.noon) := keep_cell hb2 (by simp [go_sem, *])
    have x2_0_1 : w2.cell? ⟨w.heap.size, 1, none⟩ = some (.int .i64 x.half) := keep_cell hb2 (by simp [go_sem, *])
    have x2_0_2 : w2.cell? ⟨w.heap.size, 2, none⟩ = some (.int .i64 x.full) := keep_cell hb2 (by simp [go_sem, *])
    have x2_0_3 : w2.cell? ⟨w.heap.size, 3, none⟩ = some (.int .i64 x.late) := keep_cell hb2 (by simp [go_sem, *])
    have x2_0_4 : w2.cell? ⟨w.heap.size, 4, none⟩ = some (.int .i64 x.again) := keep_cell hb2 (by simp [go_sem, *])
    have x2_0_5 : w2.cell? ⟨w.heap.size, 5, none⟩ = some (.int .i64 x.wind) := keep_cell hb2 (by simp [go_sem, *])
    have y2_0 : w.heap.size < w2.heap.size := cell?_lt x2_0_0
    have x2_1_0 : w2.cell? ⟨w.heap.size + 1, 0, none⟩ = some (.int .i64 s.place) := keep_cell hb2 (by simp [go_sem, *])
    have x2_1_1 : w2.cell? ⟨w.heap.size + 1, 1, none⟩ = some (.int .i64 s.wind) := keep_cell hb2 (by simp [go_sem, *])
    have x2_1_2 : w2.cell? ⟨w.heap.size + 1, 2, none⟩ = some (.bool s.flag) := keep_cell hb2 (by simp [go_sem, *])
    have x2_1_3 : w2.cell? ⟨w.heap.size + 1, 3, none⟩ = some (.int .i64 s.at') := keep_cell hb2 (by simp [go_sem, *])
    have y2_1 : w.heap.size + 1 < w2.heap.size := cell?_lt x2_1_0
    have x2_2_0 : w2.cell? ⟨w.heap.size + 1 + 1, 0, none⟩ = some (.int .i64 e.at') := keep_cell hb2 (by simp [go_sem, *])
    have x2_2_1 : w2.cell? ⟨w.heap.size + 1 + 1, 1, none⟩ = some (.int .i64 e.kind) := keep_cell hb2 (by simp [go_sem, *])
    have x2_2_2 : w2.cell? ⟨w.heap.size + 1 + 1, 2, none⟩ = some (.int .i64 e.n) := keep_cell hb2 (by simp [go_sem, *])
    have y2_2 : w.heap.size + 1 + 1 < w2.heap.size := cell?_lt x2_2_0
    have x2_3_0 : w2.cell? ⟨w.heap.size + 1 + 1 + 1, 0, none⟩ = some (.int .i64 0) := keep_cell hb2 (by simp [go_sem, *])
    have f2_3_0 : w2.frozen? ⟨w.heap.size + 1 + 1 + 1, 0, none⟩ = false := keep_frozen hb2 (by first | omega | (simp <;> omega)) (by simp [go_sem, *])
    have x2_3_1 : w2.cell? ⟨w.heap.size + 1 + 1 + 1, 1, none⟩ = some (.int .i64 0) := keep_cell hb2 (by simp [go_sem, *])
    have f2_3_1 : w2.frozen? ⟨w.heap.size + 1 + 1 + 1, 1, none⟩ = false := keep_frozen hb2 (by first | omega | (simp <;> omega)) (by simp [go_sem, *])
    have x2_3_2 : w2.cell? ⟨w.heap.size + 1 + 1 + 1, 2, none⟩ = some (.bool false) := keep_cell hb2 (by simp [go_sem, *])
    have f2_3_2 : w2.frozen? ⟨w.heap.size + 1 + 1 + 1, 2, none⟩ = false := keep_frozen hb2 (by first | omega | (simp <;> omega)) (by simp [go_sem, *])
    have x2_3_3 : w2.cell? ⟨w.heap.size + 1 + 1 + 1, 3, none⟩ = some (.int .i64 0) := keep_cell hb2 (by simp [go_sem, *])
    have f2_3_3 : w2.frozen? ⟨w.heap.size + 1 + 1 + 1, 3, none⟩ = false := keep_frozen hb2 (by first | omega | (simp <;> omega)) (by simp [go_sem, *])
    have y2_3 : w.heap.size + 1 + 1 + 1 < w2.heap.size := cell?_lt x2_3_0
    have g2 : Below w.heap.size w w2 := by (repeat (first | exact Below.refl _ _ | refine Below.drew ?_ | refine Below.allocS ?_ _ | refine Below.step ?_ (by assumption) | refine Below.setCell ?_ (by simp <;> omega) _ | refine Below.drewN' ?_ _))
    clear hb2 g1 x1_0_0 x1_0_1 x1_0_2 x1_0_3 x1_0_4 x1_0_5 x1_1_0 x1_1_1 x1_1_2 x1_1_3 x1_2_0 x1_2_1 x1_2_2 x1_3_0 f1_3_0 x1_3_1 f1_3_1 x1_3_2 f1_3_2 x1_3_3 f1_3_3 y1_0 y1_1 y1_2 y1_3
    go_wp2_with fail
    refine (HS.out _).mono ?_
    rintro e w3 ⟨rfl, hb3⟩
    have x3_0_0 : w3.cell? ⟨w.heap.size, 0, none⟩ = some (.int .i64 x.noon) := keep_cell hb3 (by simp [go_sem, *])
    have x3_0_1 : w3.cell? ⟨w.heap.size, 1, none⟩ = some (.int .i64 x.half) := keep_cell hb3 (by simp [go_sem, *])
    have x3_0_2 : w3.cell? ⟨w.heap.size, 2, none⟩ = some (.int .i64 x.full) := keep_cell hb3 (by simp [go_sem, *])
    have x3_0_3 : w3.cell? ⟨w.heap.size, 3, none⟩ = some (.int .i64 x.late) := keep_cell hb3 (by simp [go_sem, *])
    have x3_0_4 : w3.cell? ⟨w.heap.size, 4, none⟩ = some (.int .i64 x.again) := keep_cell hb3 (by simp [go_sem, *])
    have x3_0_5 : w3.cell? ⟨w.heap.size, 5, none⟩ = some (.int .i64 x.wind) := keep_cell hb3 (by simp [go_sem, *])
    have y3_0 : w.heap.size < w3.heap.size := cell?_lt x3_0_0
    have x3_1_0 : w3.cell? ⟨w.heap.size + 1, 0, none⟩ = some (.int .i64 s.place) := keep_cell hb3 (by simp [go_sem, *])
    have x3_1_1 : w3.cell? ⟨w.heap.size + 1, 1, none⟩ = some (.int .i64 s.wind) := keep_cell hb3 (by simp [go_sem, *])
    have x3_1_2 : w3.cell? ⟨w.heap.size + 1, 2, none⟩ = some (.bool s.flag) := keep_cell hb3 (by simp [go_sem, *])
    have x3_1_3 : w3.cell? ⟨w.heap.size + 1, 3, none⟩ = some (.int .i64 s.at') := keep_cell hb3 (by simp [go_sem, *])
    have y3_1 : w.heap.size + 1 < w3.heap.size := cell?_lt x3_1_0
    have x3_2_0 : w3.cell? ⟨w.heap.size + 1 + 1, 0, none⟩ = some (.int .i64 e.at') := keep_cell hb3 (by simp [go_sem, *])
    have x3_2_1 : w3.cell? ⟨w.heap.size + 1 + 1, 1, none⟩ = some (.int .i64 e.kind) := keep_cell hb3 (by simp [go_sem, *])
    have x3_2_2 : w3.cell? ⟨w.heap.size + 1 + 1, 2, none⟩ = some (.int .i64 e.n) := keep_cell hb3 (by simp [go_sem, *])
    have y3_2 : w.heap.size + 1 + 1 < w3.heap.size := cell?_lt x3_2_0
    have x3_3_0 : w3.cell? ⟨w.heap.size + 1 + 1 + 1, 0, none⟩ = some (.int .i64 0) := keep_cell hb3 (by simp [go_sem, *])
    have f3_3_0 : w3.frozen? ⟨w.heap.size + 1 + 1 + 1, 0, none⟩ = false := keep_frozen hb3 (by first | omega | (simp <;> omega)) (by simp [go_sem, *])
    have x3_3_1 : w3.cell? ⟨w.heap.size + 1 + 1 + 1, 1, none⟩ = some (.int .i64 0) := keep_cell hb3 (by simp [go_sem, *])
    have f3_3_1 : w3.frozen? ⟨w.heap.size + 1 + 1 + 1, 1, none⟩ = false := keep_frozen hb3 (by first | omega | (simp <;> omega)) (by simp [go_sem, *])
    have x3_3_2 : w3.cell? ⟨w.heap.size + 1 + 1 + 1, 2, none⟩ = some (.bool false) := keep_cell hb3 (by simp [go_sem, *])
    have f3_3_2 : w3.frozen? ⟨w.heap.size + 1 + 1 + 1, 2, none⟩ = false := keep_frozen hb3 (by first | omega | (simp <;> omega)) (by simp [go_sem, *])
    have x3_3_3 : w3.cell? ⟨w.heap.size + 1 + 1 + 1, 3, none⟩ = some (.int .i64 0) := keep_cell hb3 (by simp [go_sem, *])
    have f3_3_3 : w3.frozen? ⟨w.heap.size + 1 + 1 + 1, 3, none⟩ = false := keep_frozen hb3 (by first | omega | (simp <;> omega)) (by simp [go_sem, *])
    have y3_3 : w.heap.size + 1 + 1 + 1 < w3.heap.size := cell?_lt x3_3_0
    have g3 : Below w.heap.size w w3 := by (repeat (first | exact Below.refl _ _ | refine Below.drew ?_ | refine Below.allocS ?_ _ | refine Below.step ?_ (by assumption) | refine Below.setCell ?_ (by simp <;> omega) _ | refine Below.drewN' ?_ _))
    clear hb3 g2 x2_0_0 x2_0_1 x2_0_2 x2_0_3 x2_0_4 x2_0_5 x2_1_0 x2_1_1 x2_1_2 x2_1_3 x2_2_0 x2_2_1 x2_2_2 x2_3_0 f2_3_0 x2_3_1 f2_3_1 x2_3_2 f2_3_2 x2_3_3 f2_3_3 y2_0 y2_1 y2_2 y2_3
    go_wp2_with fail
    refine (HA.out _).mono ?_
    rintro e w4 ⟨rfl, hb4⟩
    have x4_0_0 : w4.cell? ⟨w.heap.size, 0, none⟩ = some (.int .i64 x.noon) := keep_cell hb4 (by simp [go_sem, *])
    have x4_0_1 : w4.cell? ⟨w.heap.size, 1, none⟩ = some (.int .i64 x.half) := keep_cell hb4 (by simp [go_sem, *])
    have x4_0_2 : w4.cell? ⟨w.heap.size, 2, none⟩ = some (.int .i64 x.full) := keep_cell hb4 (by simp [go_sem, *])
    have x4_0_3 : w4.cell? ⟨w.heap.size, 3, none⟩ = some (.int .i64 x.late) := keep_cell hb4 (by simp [go_sem, *])
    have x4_0_4 : w4.cell? ⟨w.heap.size, 4, none⟩ = some (.int .i64 x.again) := keep_cell hb4 (by simp [go_sem, *])
    have x4_0_5 : w4.cell? ⟨w.heap.size, 5, none⟩ = some (.int .i64 x.wind) := keep_cell hb4 (by simp [go_sem, *])
    have y4_0 : w.heap.size < w4.heap.size := cell?_lt x4_0_0
    have x4_1_0 : w4.cell? ⟨w.heap.size + 1, 0, none⟩ = some (.int .i64 s.place) := keep_cell hb4 (by simp [go_sem, *])
    have x4_1_1 : w4.cell? ⟨w.heap.size + 1, 1, none⟩ = some (.int .i64 s.wind) := keep_cell hb4 (by simp [go_sem, *])
    have x4_1_2 : w4.cell? ⟨w.heap.size + 1, 2, none⟩ = some (.bool s.flag) := keep_cell hb4 (by simp [go_sem, *])
    have x4_1_3 : w4.cell? ⟨w.heap.size + 1, 3, none⟩ = some (.int .i64 s.at') := keep_cell hb4 (by simp [go_sem, *])
    have y4_1 : w.heap.size + 1 < w4.heap.size := cell?_lt x4_1_0
    have x4_2_0 : w4.cell? ⟨w.heap.size + 1 + 1, 0, none⟩ = some (.int .i64 e.at') := keep_cell hb4 (by simp [go_sem, *])
    have x4_2_1 : w4.cell? ⟨w.heap.size + 1 + 1, 1, none⟩ = some (.int .i64 e.kind) := keep_cell hb4 (by simp [go_sem, *])
    have x4_2_2 : w4.cell? ⟨w.heap.size + 1 + 1, 2, none⟩ = some (.int .i64 e.n) := keep_cell hb4 (by simp [go_sem, *])
    have y4_2 : w.heap.size + 1 + 1 < w4.heap.size := cell?_lt x4_2_0
    have x4_3_0 : w4.cell? ⟨w.heap.size + 1 + 1 + 1, 0, none⟩ = some (.int .i64 0) := keep_cell hb4 (by simp [go_sem, *])
    have f4_3_0 : w4.frozen? ⟨w.heap.size + 1 + 1 + 1, 0, none⟩ = false := keep_frozen hb4 (by first | omega | (simp <;> omega)) (by simp [go_sem, *])
    have x4_3_1 : w4.cell? ⟨w.heap.size + 1 + 1 + 1, 1, none⟩ = some (.int .i64 0) := keep_cell hb4 (by simp [go_sem, *])
    have f4_3_1 : w4.frozen? ⟨w.heap.size + 1 + 1 + 1, 1, none⟩ = false := keep_frozen hb4 (by first | omega | (simp <;> omega)) (by simp [go_sem, *])
    have x4_3_2 : w4.cell? ⟨w.heap.size + 1 + 1 + 1, 2, none⟩ = some (.bool false) := keep_cell hb4 (by simp [go_sem, *])
    have f4_3_2 : w4.frozen? ⟨w.heap.size + 1 + 1 + 1, 2, none⟩ = false := keep_frozen hb4 (by first | omega | (simp <;> omega)) (by simp [go_sem, *])
    have x4_3_3 : w4.cell? ⟨w.heap.size + 1 + 1 + 1, 3, none⟩ = some (.int .i64 0) := keep_cell hb4 (by simp [go_sem, *])
    have f4_3_3 : w4.frozen? ⟨w.heap.size + 1 + 1 + 1, 3, none⟩ = false := keep_frozen hb4 (by first | omega | (simp <;> omega)) (by simp [go_sem, *])
    have y4_3 : w.heap.size + 1 + 1 + 1 < w4.heap.size := cell?_lt x4_3_0
    have g4 : Below w.heap.size w w4 := by (repeat (first | exact Below.refl _ _ | refine Below.drew ?_ | refine Below.allocS ?_ _ | refine Below.step ?_ (by assumption) | refine Below.setCell ?_ (by simp <;> omega) _ | refine Below.drewN' ?_ _))
    clear hb4 g3 x3_0_0 x3_0_1 x3_0_2 x3_0_3 x3_0_4 x3_0_5 x3_1_0 x3_1_1 x3_1_2 x3_1_3 x3_2_0 x3_2_1 x3_2_2 x3_3_0 f3_3_0 x3_3_1 f3_3_1 x3_3_2 f3_3_2 x3_3_3 f3_3_3 y3_0 y3_1 y3_2 y3_3
    go_wp2
    refine bodyPost_ret (v := .tuple #[.agg #[.int .i64 0, .int .i64 0, .bool false, .int .i64 0], .int .i64 9]) (by simp [results, Try.results20, go_sem, *] <;> (repeat' apply And.intro) <;> rfl) rfl ⟨rfl, ?_⟩
    (repeat (first | exact Below.refl _ _ | refine Below.drew ?_ | refine Below.allocS ?_ _ | refine Below.step ?_ (by assumption) | refine Below.setCell ?_ (by simp <;> omega) _ | refine Below.drewN' ?_ _))
  · obtain ⟨e1, e2⟩ := nextE_ok hf ht' ha
    rw [e1, e2]
    rw [ha] at HA
    clear e1 e2 ha hf
    generalize doB s e.kind e.n e.at' = d at *
    unfold msV blV evV at *
    go_enter Try.func20, Try.ntmps20
    go_wp2_with fail
    refine (HV.out _).mono ?_
    rintro e w1 ⟨rfl, hb1⟩
    have x1_0_0 : w1.cell? ⟨w.heap.size, 0, none⟩ = some (.int .i64 x.noon) := keep_cell hb1 (by simp [go_sem, *])
    have x1_0_1 : w1.cell? ⟨w.heap.size, 1, none⟩ = some (.int .i64 x.half) := keep_cell hb1 (by simp [go_sem, *])
    have x1_0_2 : w1.cell? ⟨w.heap.size, 2, none⟩ = some (.int .i64 x.full) := keep_cell hb1 (by simp [go_sem, *])
    have x1_0_3 : w1.cell? ⟨w.heap.size, 3, none⟩ = some (.int .i64 x.late) := keep_cell hb1 (by simp [go_sem, *])
    have x1_0_4 : w1.cell? ⟨w.heap.size, 4, none⟩ = some (.int .i64 x.again) := keep_cell hb1 (by simp [go_sem, *])
    have x1_0_5 : w1.cell? ⟨w.heap.size, 5, none⟩ = some (.int .i64 x.wind) := keep_cell hb1 (by simp [go_sem, *])
    have y1_0 : w.heap.size < w1.heap.size := cell?_lt x1_0_0
    have x1_1_0 : w1.cell? ⟨w.heap.size + 1, 0, none⟩ = some (.int .i64 s.place) := keep_cell hb1 (by simp [go_sem, *])
    have x1_1_1 : w1.cell? ⟨w.heap.size + 1, 1, none⟩ = some (.int .i64 s.wind) := keep_cell hb1 (by simp [go_sem, *])
    have x1_1_2 : w1.cell? ⟨w.heap.size + 1, 2, none⟩ = some (.bool s.flag) := keep_cell hb1 (by simp [go_sem, *])
    have x1_1_3 : w1.cell? ⟨w.heap.size + 1, 3, none⟩ = some (.int .i64 s.at') := keep_cell hb1 (by simp [go_sem, *])
    have y1_1 : w.heap.size + 1 < w1.heap.size := cell?_lt x1_1_0
    have x1_2_0 : w1.cell? ⟨w.heap.size + 1 + 1, 0, none⟩ = some (.int .i64 e.at') := keep_cell hb1 (by simp [go_sem, *])
    have x1_2_1 : w1.cell? ⟨w.heap.size + 1 + 1, 1, none⟩ = some (.int .i64 e.kind) := keep_cell hb1 (by simp [go_sem, *])
    have x1_2_2 : w1.cell? ⟨w.heap.size + 1 + 1, 2, none⟩ = some (.int .i64 e.n) := keep_cell hb1 (by simp [go_sem, *])
    have y1_2 : w.heap.size + 1 + 1 < w1.heap.size := cell?_lt x1_2_0
    have x1_3_0 : w1.cell? ⟨w.heap.size + 1 + 1 + 1, 0, none⟩ = some (.int .i64 0) := keep_cell hb1 (by simp [go_sem, *])
    have f1_3_0 : w1.frozen? ⟨w.heap.size + 1 + 1 + 1, 0, none⟩ = false := keep_frozen hb1 (by first | omega | (simp <;> omega)) (by simp [go_sem, *])
    have x1_3_1 : w1.cell? ⟨w.heap.size + 1 + 1 + 1, 1, none⟩ = some (.int .i64 0) := keep_cell hb1 (by simp [go_sem, *])
    have f1_3_1 : w1.frozen? ⟨w.heap.size + 1 + 1 + 1, 1, none⟩ = false := keep_frozen hb1 (by first | omega | (simp <;> omega)) (by simp [go_sem, *])
    have x1_3_2 : w1.cell? ⟨w.heap.size + 1 + 1 + 1, 2, none⟩ = some (.bool false) := keep_cell hb1 (by simp [go_sem, *])
    have f1_3_2 : w1.frozen? ⟨w.heap.size + 1 + 1 + 1, 2, none⟩ = false := keep_frozen hb1 (by first | omega | (simp <;> omega)) (by simp [go_sem, *])
    have x1_3_3 : w1.cell? ⟨w.heap.size + 1 + 1 + 1, 3, none⟩ = some (.int .i64 0) := keep_cell hb1 (by simp [go_sem, *])
    have f1_3_3 : w1.frozen? ⟨w.heap.size + 1 + 1 + 1, 3, none⟩ = false := keep_frozen hb1 (by first | omega | (simp <;> omega)) (by simp [go_sem, *])
    have y1_3 : w.heap.size + 1 + 1 + 1 < w1.heap.size := cell?_lt x1_3_0
    have g1 : Below w.heap.size w w1 := by (repeat (first | exact Below.refl _ _ | refine Below.drew ?_ | refine Below.allocS ?_ _ | refine Below.step ?_ (by assumption) | refine Below.setCell ?_ (by simp <;> omega) _ | refine Below.drewN' ?_ _))
    clear hb1
    go_wp2_with fail
    refine (HB.out _).mono ?_
    rintro e w2 ⟨rfl, hb2⟩
    have x2_0_0 : w2.cell? ⟨w.heap.size, 0, none⟩ = some (.int .i64 x.noon) := keep_cell hb2 (by simp [go_sem, *])
    have x2_0_1 : w2.cell? ⟨w.heap.size, 1, none⟩ = some (.int .i64 x.half) := keep_cell hb2 (by simp [go_sem, *])
    have x2_0_2 : w2.cell? ⟨w.heap.size, 2, none⟩ = some (.int .i64 x.full) := keep_cell hb2 (by simp [go_sem, *])
    have x2_0_3 : w2.cell? ⟨w.heap.size, 3, none⟩ = some (.int .i64 x.late) := keep_cell hb2 (by simp [go_sem, *])
    have x2_0_4 : w2.cell? ⟨w.heap.size, 4, none⟩ = some (.int .i64 x.again) := keep_cell hb2 (by simp [go_sem, *])
    have x2_0_5 : w2.cell? ⟨w.heap.size, 5, none⟩ = some (.int .i64 x.wind) := keep_cell hb2 (by simp [go_sem, *])
    have y2_0 : w.heap.size < w2.heap.size := cell?_lt x2_0_0
    have x2_1_0 : w2.cell? ⟨w.heap.size + 1, 0, none⟩ = some (.int .i64 s.place) := keep_cell hb2 (by simp [go_sem, *])
    have x2_1_1 : w2.cell? ⟨w.heap.size + 1, 1, none⟩ = some (.int .i64 s.wind) := keep_cell hb2 (by simp [go_sem, *])
    have x2_1_2 : w2.cell? ⟨w.heap.size + 1, 2, none⟩ = some (.bool s.flag) := keep_cell hb2 (by simp [go_sem, *])
    have x2_1_3 : w2.cell? ⟨w.heap.size + 1, 3, none⟩ = some (.int .i64 s.at') := keep_cell hb2 (by simp [go_sem, *])
    have y2_1 : w.heap.size + 1 < w2.heap.size := cell?_lt x2_1_0
    have x2_2_0 : w2.cell? ⟨w.heap.size + 1 + 1, 0, none⟩ = some (.int .i64 e.at') := keep_cell hb2 (by simp [go_sem, *])
    have x2_2_1 : w2.cell? ⟨w.heap.size + 1 + 1, 1, none⟩ = some (.int .i64 e.kind) := keep_cell hb2 (by simp [go_sem, *])
    have x2_2_2 : w2.cell? ⟨w.heap.size + 1 + 1, 2, none⟩ = some (.int .i64 e.n) := keep_cell hb2 (by simp [go_sem, *])
    have y2_2 : w.heap.size + 1 + 1 < w2.heap.size := cell?_lt x2_2_0
    have x2_3_0 : w2.cell? ⟨w.heap.size + 1 + 1 + 1, 0, none⟩ = some (.int .i64 0) := keep_cell hb2 (by simp [go_sem, *])
    have f2_3_0 : w2.frozen? ⟨w.heap.size + 1 + 1 + 1, 0, none⟩ = false := keep_frozen hb2 (by first | omega | (simp <;> omega)) (by simp [go_sem, *])
    have x2_3_1 : w2.cell? ⟨w.heap.size + 1 + 1 + 1, 1, none⟩ = some (.int .i64 0) := keep_cell hb2 (by simp [go_sem, *])
    have f2_3_1 : w2.frozen? ⟨w.heap.size + 1 + 1 + 1, 1, none⟩ = false := keep_frozen hb2 (by first | omega | (simp <;> omega)) (by simp [go_sem, *])
    have x2_3_2 : w2.cell? ⟨w.heap.size + 1 + 1 + 1, 2, none⟩ = some (.bool false) := keep_cell hb2 (by simp [go_sem, *])
    have f2_3_2 : w2.frozen? ⟨w.heap.size + 1 + 1 + 1, 2, none⟩ = false := keep_frozen hb2 (by first | omega | (simp <;> omega)) (by simp [go_sem, *])
    have x2_3_3 : w2.cell? ⟨w.heap.size + 1 + 1 + 1, 3, none⟩ = some (.int .i64 0) := keep_cell hb2 (by simp [go_sem, *])
    have f2_3_3 : w2.frozen? ⟨w.heap.size + 1 + 1 + 1, 3, none⟩ = false := keep_frozen hb2 (by first | omega | (simp <;> omega)) (by simp [go_sem, *])
    have y2_3 : w.heap.size + 1 + 1 + 1 < w2.heap.size := cell?_lt x2_3_0
    have g2 : Below w.heap.size w w2 := by (repeat (first | exact Below.refl _ _ | refine Below.drew ?_ | refine Below.allocS ?_ _ | refine Below.step ?_ (by assumption) | refine Below.setCell ?_ (by simp <;> omega) _ | refine Below.drewN' ?_ _))
    clear hb2 g1 x1_0_0 x1_0_1 x1_0_2 x1_0_3 x1_0_4 x1_0_5 x1_1_0 x1_1_1 x1_1_2 x1_1_3 x1_2_0 x1_2_1 x1_2_2 x1_3_0 f1_3_0 x1_3_1 f1_3_1 x1_3_2 f1_3_2 x1_3_3 f1_3_3 y1_0 y1_1 y1_2 y1_3
    go_wp2_with fail
    refine (HS.out _).mono ?_
    rintro e w3 ⟨rfl, hb3⟩
    have x3_0_0 : w3.cell? ⟨w.heap.size, 0, none⟩ = some (.int .i64 x.noon) := keep_cell hb3 (by simp [go_sem, *])
    have x3_0_1 : w3.cell? ⟨w.heap.size, 1, none⟩ = some (.int .i64 x.half) := keep_cell hb3 (by simp [go_sem, *])
    have x3_0_2 : w3.cell? ⟨w.heap.size, 2, none⟩ = some (.int .i64 x.full) := keep_cell hb3 (by simp [go_sem, *])
    have x3_0_3 : w3.cell? ⟨w.heap.size, 3, none⟩ = some (.int .i64 x.late) := keep_cell hb3 (by simp [go_sem, *])
    have x3_0_4 : w3.cell? ⟨w.heap.size, 4, none⟩ = some (.int .i64 x.again) := keep_cell hb3 (by simp [go_sem, *])
    have x3_0_5 : w3.cell? ⟨w.heap.size, 5, none⟩ = some (.int .i64 x.wind) := keep_cell hb3 (by simp [go_sem, *])
    have y3_0 : w.heap.size < w3.heap.size := cell?_lt x3_0_0
    have x3_1_0 : w3.cell? ⟨w.heap.size + 1, 0, none⟩ = some (.int .i64 s.place) := keep_cell hb3 (by simp [go_sem, *])
    have x3_1_1 : w3.cell? ⟨w.heap.size + 1, 1, none⟩ = some (.int .i64 s.wind) := keep_cell hb3 (by simp [go_sem, *])
    have x3_1_2 : w3.cell? ⟨w.heap.size + 1, 2, none⟩ = some (.bool s.flag) := keep_cell hb3 (by simp [go_sem, *])
    have x3_1_3 : w3.cell? ⟨w.heap.size + 1, 3, none⟩ = some (.int .i64 s.at') := keep_cell hb3 (by simp [go_sem, *])
    have y3_1 : w.heap.size + 1 < w3.heap.size := cell?_lt x3_1_0
    have x3_2_0 : w3.cell? ⟨w.heap.size + 1 + 1, 0, none⟩ = some (.int .i64 e.at') := keep_cell hb3 (by simp [go_sem, *])
    have x3_2_1 : w3.cell? ⟨w.heap.size + 1 + 1, 1, none⟩ = some (.int .i64 e.kind) := keep_cell hb3 (by simp [go_sem, *])
    have x3_2_2 : w3.cell? ⟨w.heap.size + 1 + 1, 2, none⟩ = some (.int .i64 e.n) := keep_cell hb3 (by simp [go_sem, *])
    have y3_2 : w.heap.size + 1 + 1 < w3.heap.size := cell?_lt x3_2_0
    have x3_3_0 : w3.cell? ⟨w.heap.size + 1 + 1 + 1, 0, none⟩ = some (.int .i64 0) := keep_cell hb3 (by simp [go_sem, *])
    have f3_3_0 : w3.frozen? ⟨w.heap.size + 1 + 1 + 1, 0, none⟩ = false := keep_frozen hb3 (by first | omega | (simp <;> omega)) (by simp [go_sem, *])
    have x3_3_1 : w3.cell? ⟨w.heap.size + 1 + 1 + 1, 1, none⟩ = some (.int .i64 0) := keep_cell hb3 (by simp [go_sem, *])
    have f3_3_1 : w3.frozen? ⟨w.heap.size + 1 + 1 + 1, 1, none⟩ = false := keep_frozen hb3 (by first | omega | (simp <;> omega)) (by simp [go_sem, *])
    have x3_3_2 : w3.cell? ⟨w.heap.size + 1 + 1 + 1, 2, none⟩ = some (.bool false) := keep_cell hb3 (by simp [go_sem, *])
    have f3_3_2 : w3.frozen? ⟨w.heap.size + 1 + 1 + 1, 2, none⟩ = false := keep_frozen hb3 (by first | omega | (simp <;> omega)) (by simp [go_sem, *])
    have x3_3_3 : w3.cell? ⟨w.heap.size + 1 + 1 + 1, 3, none⟩ = some (.int .i64 0) := keep_cell hb3 (by simp [go_sem, *])
    have f3_3_3 : w3.frozen? ⟨w.heap.size + 1 + 1 + 1, 3, none⟩ = false := keep_frozen hb3 (by first | omega | (simp <;> omega)) (by simp [go_sem, *])
    have y3_3 : w.heap.size + 1 + 1 + 1 < w3.heap.size := cell?_lt x3_3_0
    have g3 : Below w.heap.size w w3 := by (repeat (first | exact Below.refl _ _ | refine Below.drew ?_ | refine Below.allocS ?_ _ | refine Below.step ?_ (by assumption) | refine Below.setCell ?_ (by simp <;> omega) _ | refine Below.drewN' ?_ _))
    clear hb3 g2 x2_0_0 x2_0_1 x2_0_2 x2_0_3 x2_0_4 x2_0_5 x2_1_0 x2_1_1 x2_1_2 x2_1_3 x2_2_0 x2_2_1 x2_2_2 x2_3_0 f2_3_0 x2_3_1 f2_3_1 x2_3_2 f2_3_2 x2_3_3 f2_3_3 y2_0 y2_1 y2_2 y2_3
    go_wp2_with fail
    refine (HA.out _).mono ?_
    rintro e w4 ⟨rfl, hb4⟩
    have x4_0_0 : w4.cell? ⟨w.heap.size, 0, none⟩ = some (.int .i64 x.noon) := keep_cell hb4 (by simp [go_sem, *])
    have x4_0_1 : w4.cell? ⟨w.heap.size, 1, none⟩ = some (.int .i64 x.half) := keep_cell hb4 (by simp [go_sem, *])
    have x4_0_2 : w4.cell? ⟨w.heap.size, 2, none⟩ = some (.int .i64 x.full) := keep_cell hb4 (by simp [go_sem, *])
    have x4_0_3 : w4.cell? ⟨w.heap.size, 3, none⟩ = some (.int .i64 x.late) := keep_cell hb4 (by simp [go_sem, *])
    have x4_0_4 : w4.cell? ⟨w.heap.size, 4, none⟩ = some (.int .i64 x.again) := keep_cell hb4 (by simp [go_sem, *])
    have x4_0_5 : w4.cell? ⟨w.heap.size, 5, none⟩ = some (.int .i64 x.wind) := keep_cell hb4 (by simp [go_sem, *])
    have y4_0 : w.heap.size < w4.heap.size := cell?_lt x4_0_0
    have x4_1_0 : w4.cell? ⟨w.heap.size + 1, 0, none⟩ = some (.int .i64 s.place) := keep_cell hb4 (by simp [go_sem, *])
    have x4_1_1 : w4.cell? ⟨w.heap.size + 1, 1, none⟩ = some (.int .i64 s.wind) := keep_cell hb4 (by simp [go_sem, *])
    have x4_1_2 : w4.cell? ⟨w.heap.size + 1, 2, none⟩ = some (.bool s.flag) := keep_cell hb4 (by simp [go_sem, *])
    have x4_1_3 : w4.cell? ⟨w.heap.size + 1, 3, none⟩ = some (.int .i64 s.at') := keep_cell hb4 (by simp [go_sem, *])
    have y4_1 : w.heap.size + 1 < w4.heap.size := cell?_lt x4_1_0
    have x4_2_0 : w4.cell? ⟨w.heap.size + 1 + 1, 0, none⟩ = some (.int .i64 e.at') := keep_cell hb4 (by simp [go_sem, *])
    have x4_2_1 : w4.cell? ⟨w.heap.size + 1 + 1, 1, none⟩ = some (.int .i64 e.kind) := keep_cell hb4 (by simp [go_sem, *])
    have x4_2_2 : w4.cell? ⟨w.heap.size + 1 + 1, 2, none⟩ = some (.int .i64 e.n) := keep_cell hb4 (by simp [go_sem, *])
    have y4_2 : w.heap.size + 1 + 1 < w4.heap.size := cell?_lt x4_2_0
    have x4_3_0 : w4.cell? ⟨w.heap.size + 1 + 1 + 1, 0, none⟩ = some (.int .i64 0) := keep_cell hb4 (by simp [go_sem, *])
    have f4_3_0 : w4.frozen? ⟨w.heap.size + 1 + 1 + 1, 0, none⟩ = false := keep_frozen hb4 (by first | omega | (simp <;> omega)) (by simp [go_sem, *])
    have x4_3_1 : w4.cell? ⟨w.heap.size + 1 + 1 + 1, 1, none⟩ = some (.int .i64 0) := keep_cell hb4 (by simp [go_sem, *])
    have f4_3_1 : w4.frozen? ⟨w.heap.size + 1 + 1 + 1, 1, none⟩ = false := keep_frozen hb4 (by first | omega | (simp <;> omega)) (by simp [go_sem, *])
    have x4_3_2 : w4.cell? ⟨w.heap.size + 1 + 1 + 1, 2, none⟩ = some (.bool false) := keep_cell hb4 (by simp [go_sem, *])
    have f4_3_2 : w4.frozen? ⟨w.heap.size + 1 + 1 + 1, 2, none⟩ = false := keep_frozen hb4 (by first | omega | (simp <;> omega)) (by simp [go_sem, *])
    have x4_3_3 : w4.cell? ⟨w.heap.size + 1 + 1 + 1, 3, none⟩ = some (.int .i64 0) := keep_cell hb4 (by simp [go_sem, *])
    have f4_3_3 : w4.frozen? ⟨w.heap.size + 1 + 1 + 1, 3, none⟩ = false := keep_frozen hb4 (by first | omega | (simp <;> omega)) (by simp [go_sem, *])
    have y4_3 : w.heap.size + 1 + 1 + 1 < w4.heap.size := cell?_lt x4_3_0
    have g4 : Below w.heap.size w w4 := by (repeat (first | exact Below.refl _ _ | refine Below.drew ?_ | refine Below.allocS ?_ _ | refine Below.step ?_ (by assumption) | refine Below.setCell ?_ (by simp <;> omega) _ | refine Below.drewN' ?_ _))
    clear hb4 g3 x3_0_0 x3_0_1 x3_0_2 x3_0_3 x3_0_4 x3_0_5 x3_1_0 x3_1_1 x3_1_2 x3_1_3 x3_2_0 x3_2_1 x3_2_2 x3_3_0 f3_3_0 x3_3_1 f3_3_1 x3_3_2 f3_3_2 x3_3_3 f3_3_3 y3_0 y3_1 y3_2 y3_3
    go_wp2_with fail
    refine (HT.out _).mono ?_
    rintro e w5 ⟨rfl, hb5⟩
    have x5_0_0 : w5.cell? ⟨w.heap.size, 0, none⟩ = some (.int .i64 x.noon) := keep_cell hb5 (by simp [go_sem, *])
    have x5_0_1 : w5.cell? ⟨w.heap.size, 1, none⟩ = some (.int .i64 x.half) := keep_cell hb5 (by simp [go_sem, *])
    have x5_0_2 : w5.cell? ⟨w.heap.size, 2, none⟩ = some (.int .i64 x.full) := keep_cell hb5 (by simp [go_sem, *])
    have x5_0_3 : w5.cell? ⟨w.heap.size, 3, none⟩ = some (.int .i64 x.late) := keep_cell hb5 (by simp [go_sem, *])
    have x5_0_4 : w5.cell? ⟨w.heap.size, 4, none⟩ = some (.int .i64 x.again) := keep_cell hb5 (by simp [go_sem, *])
    have x5_0_5 : w5.cell? ⟨w.heap.size, 5, none⟩ = some (.int .i64 x.wind) := keep_cell hb5 (by simp [go_sem, *])
    have y5_0 : w.heap.size < w5.heap.size := cell?_lt x5_0_0
    have x5_1_0 : w5.cell? ⟨w.heap.size + 1, 0, none⟩ = some (.int .i64 s.place) := keep_cell hb5 (by simp [go_sem, *])
    have x5_1_1 : w5.cell? ⟨w.heap.size + 1, 1, none⟩ = some (.int .i64 s.wind) := keep_cell hb5 (by simp [go_sem, *])
    have x5_1_2 : w5.cell? ⟨w.heap.size + 1, 2, none⟩ = some (.bool s.flag) := keep_cell hb5 (by simp [go_sem, *])
    have x5_1_3 : w5.cell? ⟨w.heap.size + 1, 3, none⟩ = some (.int .i64 s.at') := keep_cell hb5 (by simp [go_sem, *])
    have y5_1 : w.heap.size + 1 < w5.heap.size := cell?_lt x5_1_0
    have x5_2_0 : w5.cell? ⟨w.heap.size + 1 + 1, 0, none⟩ = some (.int .i64 e.at') := keep_cell hb5 (by simp [go_sem, *])
    have x5_2_1 : w5.cell? ⟨w.heap.size + 1 + 1, 1, none⟩ = some (.int .i64 e.kind) := keep_cell hb5 (by simp [go_sem, *])
    have x5_2_2 : w5.cell? ⟨w.heap.size + 1 + 1, 2, none⟩ = some (.int .i64 e.n) := keep_cell hb5 (by simp [go_sem, *])
    have y5_2 : w.heap.size + 1 + 1 < w5.heap.size := cell?_lt x5_2_0
    have x5_3_0 : w5.cell? ⟨w.heap.size + 1 + 1 + 1, 0, none⟩ = some (.int .i64 0) := keep_cell hb5 (by simp [go_sem, *])
    have f5_3_0 : w5.frozen? ⟨w.heap.size + 1 + 1 + 1, 0, none⟩ = false := keep_frozen hb5 (by first | omega | (simp <;> omega)) (by simp [go_sem, *])
    have x5_3_1 : w5.cell? ⟨w.heap.size + 1 + 1 + 1, 1, none⟩ = some (.int .i64 0) := keep_cell hb5 (by simp [go_sem, *])
    have f5_3_1 : w5.frozen? ⟨w.heap.size + 1 + 1 + 1, 1, none⟩ = false := keep_frozen hb5 (by first | omega | (simp <;> omega)) (by simp [go_sem, *])
    have x5_3_2 : w5.cell? ⟨w.heap.size + 1 + 1 + 1, 2, none⟩ = some (.bool false) := keep_cell hb5 (by simp [go_sem, *])
    have f5_3_2 : w5.frozen? ⟨w.heap.size + 1 + 1 + 1, 2, none⟩ = false := keep_frozen hb5 (by first | omega | (simp <;> omega)) (by simp [go_sem, *])
    have x5_3_3 : w5.cell? ⟨w.heap.size + 1 + 1 + 1, 3, none⟩ = some (.int .i64 0) := keep_cell hb5 (by simp [go_sem, *])
    have f5_3_3 : w5.frozen? ⟨w.heap.size + 1 + 1 + 1, 3, none⟩ = false := keep_frozen hb5 (by first | omega | (simp <;> omega)) (by simp [go_sem, *])
    have y5_3 : w.heap.size + 1 + 1 + 1 < w5.heap.size := cell?_lt x5_3_0
    have g5 : Below w.heap.size w w5 := by (repeat (first | exact Below.refl _ _ | refine Below.drew ?_ | refine Below.allocS ?_ _ | refine Below.step ?_ (by assumption) | refine Below.setCell ?_ (by simp <;> omega) _ | refine Below.drewN' ?_ _))
    clear hb5 g4 x4_0_0 x4_0_1 x4_0_2 x4_0_3 x4_0_4 x4_0_5 x4_1_0 x4_1_1 x4_1_2 x4_1_3 x4_2_0 x4_2_1 x4_2_2 x4_3_0 f4_3_0 x4_3_1 f4_3_1 x4_3_2 f4_3_2 x4_3_3 f4_3_3 y4_0 y4_1 y4_2 y4_3
    go_wp2
    refine bodyPost_ret (v := .tuple #[.agg #[.int .i64 d.place, .int .i64 d.wind, .bool d.flag, .int .i64 d.at'], .int .i64 0]) (by simp [results, Try.results20, go_sem, *] <;> (repeat' apply And.intro) <;> rfl) rfl ⟨rfl, ?_⟩
    (repeat (first | exact Below.refl _ _ | refine Below.drew ?_ | refine Below.allocS ?_ _ | refine Below.step ?_ (by assumption) | refine Below.setCell ?_ (by simp <;> omega) _ | refine Below.drewN' ?_ _))
end Go.Proofs.Ytcdohibphhbllaa
