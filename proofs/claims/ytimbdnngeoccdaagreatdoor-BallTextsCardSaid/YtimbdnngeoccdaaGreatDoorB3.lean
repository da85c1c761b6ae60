/-
  next, of ball.
-/
import Derived.Test.YtimbdnngeoccdaaGreatDoorB2
import Derived.Deep.RegionLaw
import Derived.Deep.DeepCutAuto
import Derived.Outline
namespace Go.Proofs.YtimbdnngeoccdaaGreatDoor
open Go.RowKit
set_option linter.unusedVariables false

theorem next_not (x : Ms) (s : Bl) (e : Ev) (h : fineB e = false ∨ fineB e = true ∧ e.at' < s.at') (w : World) :
    Calls Tryz.prog 101 #[msV x, blV s, evV e] w fun r w' => r = .returned (.tuple #[blV (nextS x s e), .int .i64 (nextE x s e)]) ∧ Below w.heap.size w w' := by
  obtain ⟨e1, e2⟩ := nextE_not (x := x) (s := s) (e := e) (by rcases h with h | ⟨_, h⟩; exact Or.inl h; exact Or.inr h)
  rw [e1, e2]
  clear e1 e2
  have HF := Lib.hid (fun W => fine_c e W)
  unfold msV blV evV at *
  rcases h with h1 | ⟨h1, h2⟩
  all_goals
    rw [h1] at HF
    clear h1
    go_enter Tryz.func101, Tryz.ntmps101
    go_wp2_with (go_at_call 30; (with_reducible refine (HF.out _).mono ?_); rintro e w1 ⟨rfl, hb⟩; obtain ⟨hc, hf⟩ := bcell hb; have hz := hb.size; (try simp at hz))
    refine bodyPost_ret (v := .tuple #[.agg #[.int .i64 0, .int .i64 0, .bool false, .int .i64 0], .int .i64 7]) (by simp [results, Tryz.results101, go_sem, *] <;> (repeat' apply And.intro) <;> rfl) rfl ⟨rfl, ?_⟩
    (repeat (first | exact Below.refl _ _ | refine Below.drew ?_ | refine Below.allocS ?_ _ | refine Below.step ?_ (by assumption) | refine Below.setCell ?_ (by simp <;> omega) _ | refine Below.drewN' ?_ _))

/-- What next needs to know of a kind. -/
structure Kind (x : Ms) (s : Bl) (t k n : Int) (fa fd : Nat) : Prop where
  ix : ∀ W : World, (Instr.index 171 (.agg #[.nilFunc, .nilFunc, .func (.func 138) #[] #[], .func (.func 139) #[] #[], .func (.func 140) #[] #[], .func (.func 142) #[] #[], .func (.func 143) #[] #[], .func (.func 144) #[] #[], .func (.func 145) #[] #[], .func (.func 146) #[] #[], .func (.func 147) #[] #[], .func (.func 148) #[] #[], .func (.func 149) #[] #[], .func (.func 150) #[] #[]]) (.int .i64 k)).run Tryz.prog W = .ok (.agg #[.func (.func fa) #[] #[], .func (.func fd) #[] #[]]) W
  ca : ∀ (args : Array Value) (W : World), (callFunc fa args).run Tryz.prog W = .ok (.enter fa args) W
  cd : ∀ (args : Array Value) (W : World), (callFunc fd args).run Tryz.prog W = .ok (.enter fd args) W
  al : ∀ W, Calls Tryz.prog fa #[msV x, blV s, .int .i64 t] W fun e w' => e = .returned (.bool (allowB x s t k)) ∧ Below W.heap.size W w'
  do_ : Does s k n fd

set_option maxHeartbeats 2000000 in
set_option maxRecDepth 100000 in
theorem next_no (x : Ms) (s : Bl) (t k n : Int) (fa fd : Nat) (hk : Kind x s t k n fa fd) (hf : fineB ⟨t, k, n⟩ = true) (hs : s.at' ≤ t) (ha : allowB x s t k = false) (w : World) :
    Calls Tryz.prog 101 #[msV x, blV s, .agg #[.int .i64 t, .int .i64 k, .int .i64 n]] w fun r w' => r = .returned (.tuple #[blV (nextS x s ⟨t, k, n⟩), .int .i64 (nextE x s ⟨t, k, n⟩)]) ∧ Below w.heap.size w w' := by
  have HF := Lib.hid (fun W => fine_c ⟨t, k, n⟩ W)
  have HA := Lib.hid hk.al
  have HD := Lib.hid hk.do_
  have hix := hk.ix
  have hca := hk.ca
  have hcd := hk.cd
  clear hk
  rw [hf] at HF
  rw [ha] at HA
  obtain ⟨e1, e2⟩ := nextE_no hf hs ha
  rw [e1, e2]
  clear e1 e2 ha
  unfold msV blV at *
  unfold evV at HF
  simp only at HF
  go_enter Tryz.func101, Tryz.ntmps101
  go_wp2_with fail
  refine (HF.out _).mono ?_
  rintro e w1 ⟨rfl, hb1⟩
  have x1_0_0 : w1.cell? ⟨w.heap.size, 0, none⟩ = some (.int .i64 x.noon) := keep_cell hb1 (by simp [go_sem, *])
  have x1_0_1 : w1.cell? ⟨w.heap.size, 1, none⟩ = some (.int .i64 x.half) := keep_cell hb1 (by simp [go_sem, *])
  have x1_0_2 : w1.cell? ⟨w.heap.size, 2, none⟩ = some (.int .i64 x.full) := keep_cell hb1 (by simp [go_sem, *])
  have x1_0_3 : w1.cell? ⟨w.heap.size, 3, none⟩ = some (.int .i64 x.late) := keep_cell hb1 (by simp [go_sem, *])
  have x1_0_4 : w1.cell? ⟨w.heap.size, 4, none⟩ = some (.int .i64 x.again) := keep_cell hb1 (by simp [go_sem, *])
  have x1_0_5 : w1.cell? ⟨w.heap.size, 5, none⟩ = some (.int .i64 x.wind) := keep_cell hb1 (by simp [go_sem, *])
  have y1_0 : w.heap.size < w1.heap.size := cell?_lt x1_0_0
  have x1_1_0 : w1.cell? ⟨w.heap.size + 1, 0, none⟩ = some (.int .i64 s.place) := keep_cell hb1 (by simp [go_sem, *])
  have f1_1_0 : w1.frozen? ⟨w.heap.size + 1, 0, none⟩ = false := keep_frozen hb1 (by first | omega | (simp <;> omega)) (by simp [go_sem, *])
  have x1_1_1 : w1.cell? ⟨w.heap.size + 1, 1, none⟩ = some (.int .i64 s.wind) := keep_cell hb1 (by simp [go_sem, *])
  have f1_1_1 : w1.frozen? ⟨w.heap.size + 1, 1, none⟩ = false := keep_frozen hb1 (by first | omega | (simp <;> omega)) (by simp [go_sem, *])
  have x1_1_2 : w1.cell? ⟨w.heap.size + 1, 2, none⟩ = some (.bool s.flag) := keep_cell hb1 (by simp [go_sem, *])
  have f1_1_2 : w1.frozen? ⟨w.heap.size + 1, 2, none⟩ = false := keep_frozen hb1 (by first | omega | (simp <;> omega)) (by simp [go_sem, *])
  have x1_1_3 : w1.cell? ⟨w.heap.size + 1, 3, none⟩ = some (.int .i64 s.at') := keep_cell hb1 (by simp [go_sem, *])
  have f1_1_3 : w1.frozen? ⟨w.heap.size + 1, 3, none⟩ = false := keep_frozen hb1 (by first | omega | (simp <;> omega)) (by simp [go_sem, *])
  have y1_1 : w.heap.size + 1 < w1.heap.size := cell?_lt x1_1_0
  have x1_2_0 : w1.cell? ⟨w.heap.size + 1 + 1, 0, none⟩ = some (.int .i64 t) := keep_cell hb1 (by simp [go_sem, *])
  have x1_2_1 : w1.cell? ⟨w.heap.size + 1 + 1, 1, none⟩ = some (.int .i64 k) := keep_cell hb1 (by simp [go_sem, *])
  have x1_2_2 : w1.cell? ⟨w.heap.size + 1 + 1, 2, none⟩ = some (.int .i64 n) := keep_cell hb1 (by simp [go_sem, *])
  have y1_2 : w.heap.size + 1 + 1 < w1.heap.size := cell?_lt x1_2_0
  have x1_3_0 : w1.cell? ⟨w.heap.size + 1 + 1 + 1, 0, none⟩ = some (.int .i64 0) := keep_cell hb1 (by simp [go_sem, *])
  have f1_3_0 : w1.frozen? ⟨w.heap.size + 1 + 1 + 1, 0, none⟩ = false := keep_frozen hb1 (by first | omega | (simp <;> omega)) (by simp [go_sem, *])
  have x1_3_1 : w1.cell? ⟨w.heap.size + 1 + 1 + 1, 1, none⟩ = some (.int .i64 0) := keep_cell hb1 (by simp [go_sem, *])
  have f1_3_1 : w1.frozen? ⟨w.heap.size + 1 + 1 + 1, 1, none⟩ = false := keep_frozen hb1 (by first | omega | (simp <;> omega)) (by simp [go_sem, *])
  have x1_3_2 : w1.cell? ⟨w.heap.size + 1 + 1 + 1, 2, none⟩ = some (.bool false) := keep_cell hb1 (by simp [go_sem, *])
  have f1_3_2 : w1.frozen? ⟨w.heap.size + 1 + 1 + 1, 2, none⟩ = false := keep_frozen hb1 (by first | omega | (simp <;> omega)) (by simp [go_sem, *])
  have x1_3_3 : w1.cell? ⟨w.heap.size + 1 + 1 + 1, 3, none⟩ = some (.int .i64 0) := keep_cell hb1 (by simp [go_sem, *])
  have f1_3_3 : w1.frozen? ⟨w.heap.size + 1 + 1 + 1, 3, none⟩ = false := keep_frozen hb1 (by first | omega | (simp <;> omega)) (by simp [go_sem, *])
  have y1_3 : w.heap.size + 1 + 1 + 1 < w1.heap.size := cell?_lt x1_3_0
  have g1 : Below w.heap.size w w1 := by (repeat (first | exact Below.refl _ _ | refine Below.drew ?_ | refine Below.allocS ?_ _ | refine Below.step ?_ (by assumption) | refine Below.setCell ?_ (by simp <;> omega) _ | refine Below.drewN' ?_ _))
  clear hb1
  go_wp2_with fail
  go_cut [8] (fun s8 w2 => (∃ b8 : Nat, s8 = .pointer (some ⟨b8, 0, none⟩) ∧ w2.cell? ⟨b8, 0, none⟩ = some (.func (.func fa) #[] #[]) ∧ w2.cell? ⟨b8, 1, none⟩ = some (.func (.func fd) #[] #[]) ∧ w.heap.size + 1 + 1 + 1 < b8) ∧ w2.cell? ⟨w.heap.size, 0, none⟩ = some (.int .i64 x.noon) ∧ w2.cell? ⟨w.heap.size, 1, none⟩ = some (.int .i64 x.half) ∧ w2.cell? ⟨w.heap.size, 2, none⟩ = some (.int .i64 x.full) ∧ w2.cell? ⟨w.heap.size, 3, none⟩ = some (.int .i64 x.late) ∧ w2.cell? ⟨w.heap.size, 4, none⟩ = some (.int .i64 x.again) ∧ w2.cell? ⟨w.heap.size, 5, none⟩ = some (.int .i64 x.wind) ∧ w2.cell? ⟨w.heap.size + 1, 0, none⟩ = some (.int .i64 s.place) ∧ w2.frozen? ⟨w.heap.size + 1, 0, none⟩ = false ∧ w2.cell? ⟨w.heap.size + 1, 1, none⟩ = some (.int .i64 s.wind) ∧ w2.frozen? ⟨w.heap.size + 1, 1, none⟩ = false ∧ w2.cell? ⟨w.heap.size + 1, 2, none⟩ = some (.bool s.flag) ∧ w2.frozen? ⟨w.heap.size + 1, 2, none⟩ = false ∧ w2.cell? ⟨w.heap.size + 1, 3, none⟩ = some (.int .i64 s.at') ∧ w2.frozen? ⟨w.heap.size + 1, 3, none⟩ = false ∧ w2.cell? ⟨w.heap.size + 1 + 1, 0, none⟩ = some (.int .i64 t) ∧ w2.cell? ⟨w.heap.size + 1 + 1, 1, none⟩ = some (.int .i64 k) ∧ w2.cell? ⟨w.heap.size + 1 + 1, 2, none⟩ = some (.int .i64 n) ∧ w2.cell? ⟨w.heap.size + 1 + 1 + 1, 0, none⟩ = some (.int .i64 0) ∧ w2.frozen? ⟨w.heap.size + 1 + 1 + 1, 0, none⟩ = false ∧ w2.cell? ⟨w.heap.size + 1 + 1 + 1, 1, none⟩ = some (.int .i64 0) ∧ w2.frozen? ⟨w.heap.size + 1 + 1 + 1, 1, none⟩ = false ∧ w2.cell? ⟨w.heap.size + 1 + 1 + 1, 2, none⟩ = some (.bool false) ∧ w2.frozen? ⟨w.heap.size + 1 + 1 + 1, 2, none⟩ = false ∧ w2.cell? ⟨w.heap.size + 1 + 1 + 1, 3, none⟩ = some (.int .i64 0) ∧ w2.frozen? ⟨w.heap.size + 1 + 1 + 1, 3, none⟩ = false ∧ Below w.heap.size w w2)
  case first =>
    go_region_law (first
      | (go_simp; go_at_call 124; refine (rules_c _).mono ?_; rintro e w2 ⟨rfl, hb⟩; have q0_0 : w2.cell? ⟨w.heap.size, 0, none⟩ = some (.int .i64 x.noon) := keep_cell hb (by simp [go_sem, *]); have q0_1 : w2.cell? ⟨w.heap.size, 1, none⟩ = some (.int .i64 x.half) := keep_cell hb (by simp [go_sem, *]); have q0_2 : w2.cell? ⟨w.heap.size, 2, none⟩ = some (.int .i64 x.full) := keep_cell hb (by simp [go_sem, *]); have q0_3 : w2.cell? ⟨w.heap.size, 3, none⟩ = some (.int .i64 x.late) := keep_cell hb (by simp [go_sem, *]); have q0_4 : w2.cell? ⟨w.heap.size, 4, none⟩ = some (.int .i64 x.again) := keep_cell hb (by simp [go_sem, *]); have q0_5 : w2.cell? ⟨w.heap.size, 5, none⟩ = some (.int .i64 x.wind) := keep_cell hb (by simp [go_sem, *]); have p0 : w.heap.size < w2.heap.size := cell?_lt q0_0; have q1_0 : w2.cell? ⟨w.heap.size + 1, 0, none⟩ = some (.int .i64 s.place) := keep_cell hb (by simp [go_sem, *]); have r1_0 : w2.frozen? ⟨w.heap.size + 1, 0, none⟩ = false := keep_frozen hb (by first | omega | (simp <;> omega)) (by simp [go_sem, *]); have q1_1 : w2.cell? ⟨w.heap.size + 1, 1, none⟩ = some (.int .i64 s.wind) := keep_cell hb (by simp [go_sem, *]); have r1_1 : w2.frozen? ⟨w.heap.size + 1, 1, none⟩ = false := keep_frozen hb (by first | omega | (simp <;> omega)) (by simp [go_sem, *]); have q1_2 : w2.cell? ⟨w.heap.size + 1, 2, none⟩ = some (.bool s.flag) := keep_cell hb (by simp [go_sem, *]); have r1_2 : w2.frozen? ⟨w.heap.size + 1, 2, none⟩ = false := keep_frozen hb (by first | omega | (simp <;> omega)) (by simp [go_sem, *]); have q1_3 : w2.cell? ⟨w.heap.size + 1, 3, none⟩ = some (.int .i64 s.at') := keep_cell hb (by simp [go_sem, *]); have r1_3 : w2.frozen? ⟨w.heap.size + 1, 3, none⟩ = false := keep_frozen hb (by first | omega | (simp <;> omega)) (by simp [go_sem, *]); have p1 : w.heap.size + 1 < w2.heap.size := cell?_lt q1_0; have q2_0 : w2.cell? ⟨w.heap.size + 1 + 1, 0, none⟩ = some (.int .i64 t) := keep_cell hb (by simp [go_sem, *]); have q2_1 : w2.cell? ⟨w.heap.size + 1 + 1, 1, none⟩ = some (.int .i64 k) := keep_cell hb (by simp [go_sem, *]); have q2_2 : w2.cell? ⟨w.heap.size + 1 + 1, 2, none⟩ = some (.int .i64 n) := keep_cell hb (by simp [go_sem, *]); have p2 : w.heap.size + 1 + 1 < w2.heap.size := cell?_lt q2_0; have q3_0 : w2.cell? ⟨w.heap.size + 1 + 1 + 1, 0, none⟩ = some (.int .i64 0) := keep_cell hb (by simp [go_sem, *]); have r3_0 : w2.frozen? ⟨w.heap.size + 1 + 1 + 1, 0, none⟩ = false := keep_frozen hb (by first | omega | (simp <;> omega)) (by simp [go_sem, *]); have q3_1 : w2.cell? ⟨w.heap.size + 1 + 1 + 1, 1, none⟩ = some (.int .i64 0) := keep_cell hb (by simp [go_sem, *]); have r3_1 : w2.frozen? ⟨w.heap.size + 1 + 1 + 1, 1, none⟩ = false := keep_frozen hb (by first | omega | (simp <;> omega)) (by simp [go_sem, *]); have q3_2 : w2.cell? ⟨w.heap.size + 1 + 1 + 1, 2, none⟩ = some (.bool false) := keep_cell hb (by simp [go_sem, *]); have r3_2 : w2.frozen? ⟨w.heap.size + 1 + 1 + 1, 2, none⟩ = false := keep_frozen hb (by first | omega | (simp <;> omega)) (by simp [go_sem, *]); have q3_3 : w2.cell? ⟨w.heap.size + 1 + 1 + 1, 3, none⟩ = some (.int .i64 0) := keep_cell hb (by simp [go_sem, *]); have r3_3 : w2.frozen? ⟨w.heap.size + 1 + 1 + 1, 3, none⟩ = false := keep_frozen hb (by first | omega | (simp <;> omega)) (by simp [go_sem, *]); have p3 : w.heap.size + 1 + 1 + 1 < w2.heap.size := cell?_lt q3_0; obtain ⟨hc, hf⟩ := bcell hb; have hz := hb.size; (try simp at hz)))
    all_goals
      go_wp2_with fail
      go_meet; exact ⟨⟨_, rfl, by simp [go_sem, *], by simp [go_sem, *], by (first | omega | (simp; omega))⟩, (by simp [go_sem, *]), (by simp [go_sem, *]), (by simp [go_sem, *]), (by simp [go_sem, *]), (by simp [go_sem, *]), (by simp [go_sem, *]), (by simp [go_sem, *]), (by simp [go_sem, *]), (by simp [go_sem, *]), (by simp [go_sem, *]), (by simp [go_sem, *]), (by simp [go_sem, *]), (by simp [go_sem, *]), (by simp [go_sem, *]), (by simp [go_sem, *]), (by simp [go_sem, *]), (by simp [go_sem, *]), (by simp [go_sem, *]), (by simp [go_sem, *]), (by simp [go_sem, *]), (by simp [go_sem, *]), (by simp [go_sem, *]), (by simp [go_sem, *]), (by simp [go_sem, *]), (by simp [go_sem, *]), by (repeat (first | exact Below.refl _ _ | refine Below.drew ?_ | refine Below.allocS ?_ _ | refine Below.step ?_ (by assumption) | refine Below.setCell ?_ (by simp <;> omega) _ | refine Below.drewN' ?_ _))⟩
  case rest =>
    clear g1 x1_0_0 x1_0_1 x1_0_2 x1_0_3 x1_0_4 x1_0_5 x1_1_0 f1_1_0 x1_1_1 f1_1_1 x1_1_2 f1_1_2 x1_1_3 f1_1_3 x1_2_0 x1_2_1 x1_2_2 x1_3_0 f1_3_0 x1_3_1 f1_3_1 x1_3_2 f1_3_2 x1_3_3 f1_3_3 y1_0 y1_1 y1_2 y1_3
    obtain ⟨c2, x2_0_0, x2_0_1, x2_0_2, x2_0_3, x2_0_4, x2_0_5, x2_1_0, f2_1_0, x2_1_1, f2_1_1, x2_1_2, f2_1_2, x2_1_3, f2_1_3, x2_2_0, x2_2_1, x2_2_2, x2_3_0, f2_3_0, x2_3_1, f2_3_1, x2_3_2, f2_3_2, x2_3_3, f2_3_3, g2⟩ := hcut
    have y2_0 : w.heap.size < wc.heap.size := cell?_lt x2_0_0
    have y2_1 : w.heap.size + 1 < wc.heap.size := cell?_lt x2_1_0
    have y2_2 : w.heap.size + 1 + 1 < wc.heap.size := cell?_lt x2_2_0
    have y2_3 : w.heap.size + 1 + 1 + 1 < wc.heap.size := cell?_lt x2_3_0
    obtain ⟨b8, rfl, z0, z1, hlt8⟩ := c2
    go_wp2_with fail
    refine (HA.out _).mono ?_
    rintro e w3 ⟨rfl, hb3⟩
    have x3_0_0 : w3.cell? ⟨w.heap.size, 0, none⟩ = some (.int .i64 x.noon) := keep_cell hb3 (by simp [go_sem, *])
    have x3_0_1 : w3.cell? ⟨w.heap.size, 1, none⟩ = some (.int .i64 x.half) := keep_cell hb3 (by simp [go_sem, *])
    have x3_0_2 : w3.cell? ⟨w.heap.size, 2, none⟩ = some (.int .i64 x.full) := keep_cell hb3 (by simp [go_sem, *])
    have x3_0_3 : w3.cell? ⟨w.heap.size, 3, none⟩ = some (.int .i64 x.late) := keep_cell hb3 (by simp [go_sem, *])
    have x3_0_4 : w3.cell? ⟨w.heap.size, 4, none⟩ = some (.int .i64 x.again) := keep_cell hb3 (by simp [go_sem, *])
    have x3_0_5 : w3.cell? ⟨w.heap.size, 5, none⟩ = some (.int .i64 x.wind) := keep_cell hb3 (by simp [go_sem, *])
    have y3_0 : w.heap.size < w3.heap.size := cell?_lt x3_0_0
    have x3_1_0 : w3.cell? ⟨w.heap.size + 1, 0, none⟩ = some (.int .i64 s.place) := keep_cell hb3 (by simp [go_sem, *])
    have f3_1_0 : w3.frozen? ⟨w.heap.size + 1, 0, none⟩ = false := keep_frozen hb3 (by first | omega | (simp <;> omega)) (by simp [go_sem, *])
    have x3_1_1 : w3.cell? ⟨w.heap.size + 1, 1, none⟩ = some (.int .i64 s.wind) := keep_cell hb3 (by simp [go_sem, *])
    have f3_1_1 : w3.frozen? ⟨w.heap.size + 1, 1, none⟩ = false := keep_frozen hb3 (by first | omega | (simp <;> omega)) (by simp [go_sem, *])
    have x3_1_2 : w3.cell? ⟨w.heap.size + 1, 2, none⟩ = some (.bool s.flag) := keep_cell hb3 (by simp [go_sem, *])
    have f3_1_2 : w3.frozen? ⟨w.heap.size + 1, 2, none⟩ = false := keep_frozen hb3 (by first | omega | (simp <;> omega)) (by simp [go_sem, *])
    have x3_1_3 : w3.cell? ⟨w.heap.size + 1, 3, none⟩ = some (.int .i64 s.at') := keep_cell hb3 (by simp [go_sem, *])
    have f3_1_3 : w3.frozen? ⟨w.heap.size + 1, 3, none⟩ = false := keep_frozen hb3 (by first | omega | (simp <;> omega)) (by simp [go_sem, *])
    have y3_1 : w.heap.size + 1 < w3.heap.size := cell?_lt x3_1_0
    have x3_2_0 : w3.cell? ⟨w.heap.size + 1 + 1, 0, none⟩ = some (.int .i64 t) := keep_cell hb3 (by simp [go_sem, *])
    have x3_2_1 : w3.cell? ⟨w.heap.size + 1 + 1, 1, none⟩ = some (.int .i64 k) := keep_cell hb3 (by simp [go_sem, *])
    have x3_2_2 : w3.cell? ⟨w.heap.size + 1 + 1, 2, none⟩ = some (.int .i64 n) := keep_cell hb3 (by simp [go_sem, *])
    have y3_2 : w.heap.size + 1 + 1 < w3.heap.size := cell?_lt x3_2_0
    have x3_3_0 : w3.cell? ⟨w.heap.size + 1 + 1 + 1, 0, none⟩ = some (.int .i64 0) := keep_cell hb3 (by simp [go_sem, *])
    have f3_3_0 : w3.frozen? ⟨w.heap.size + 1 + 1 + 1, 0, none⟩ = false := keep_frozen hb3 (by first | omega | (simp <;> omega)) (by simp [go_sem, *])
    have x3_3_1 : w3.cell? ⟨w.heap.size + 1 + 1 + 1, 1, none⟩ = some (.int .i64 0) := keep_cell hb3 (by simp [go_sem, *])
    have f3_3_1 : w3.frozen? ⟨w.heap.size + 1 + 1 + 1, 1, none⟩ = false := keep_frozen hb3 (by first | omega | (simp <;> omega)) (by simp [go_sem, *])
    have x3_3_2 : w3.cell? ⟨w.heap.size + 1 + 1 + 1, 2, none⟩ = some (.bool false) := keep_cell hb3 (by simp [go_sem, *])
    have f3_3_2 : w3.frozen? ⟨w.heap.size + 1 + 1 + 1, 2, none⟩ = false := keep_frozen hb3 (by first | omega | (simp <;> omega)) (by simp [go_sem, *])
    have x3_3_3 : w3.cell? ⟨w.heap.size + 1 + 1 + 1, 3, none⟩ = some (.int .i64 0) := keep_cell hb3 (by simp [go_sem, *])
    have f3_3_3 : w3.frozen? ⟨w.heap.size + 1 + 1 + 1, 3, none⟩ = false := keep_frozen hb3 (by first | omega | (simp <;> omega)) (by simp [go_sem, *])
    have y3_3 : w.heap.size + 1 + 1 + 1 < w3.heap.size := cell?_lt x3_3_0
    have x3_4_0 : w3.cell? ⟨b8, 0, none⟩ = some (.func (.func fa) #[] #[]) := keep_cell hb3 (by simp [go_sem, *])
    have x3_4_1 : w3.cell? ⟨b8, 1, none⟩ = some (.func (.func fd) #[] #[]) := keep_cell hb3 (by simp [go_sem, *])
    have y3_4 : b8 < w3.heap.size := cell?_lt x3_4_0
    have g3 : Below w.heap.size w w3 := by (repeat (first | exact Below.refl _ _ | refine Below.drew ?_ | refine Below.allocS ?_ _ | refine Below.step ?_ (by assumption) | refine Below.setCell ?_ (by simp <;> omega) _ | refine Below.drewN' ?_ _))
    clear hb3 g2 x2_0_0 x2_0_1 x2_0_2 x2_0_3 x2_0_4 x2_0_5 x2_1_0 f2_1_0 x2_1_1 f2_1_1 x2_1_2 f2_1_2 x2_1_3 f2_1_3 x2_2_0 x2_2_1 x2_2_2 x2_3_0 f2_3_0 x2_3_1 f2_3_1 x2_3_2 f2_3_2 x2_3_3 f2_3_3 y2_0 y2_1 y2_2 y2_3
    go_wp2
    refine bodyPost_ret (v := .tuple #[.agg #[.int .i64 0, .int .i64 0, .bool false, .int .i64 0], .int .i64 9]) (by simp [results, Tryz.results101, go_sem, *] <;> (repeat' apply And.intro) <;> rfl) rfl ⟨rfl, ?_⟩
    (repeat (first | exact Below.refl _ _ | refine Below.drew ?_ | refine Below.allocS ?_ _ | refine Below.step ?_ (by assumption) | refine Below.setCell ?_ (by simp <;> omega) _ | refine Below.drewN' ?_ _))

set_option maxHeartbeats 2000000 in
set_option maxRecDepth 100000 in
theorem next_ok (x : Ms) (s : Bl) (t k n : Int) (fa fd : Nat) (hk : Kind x s t k n fa fd) (hf : fineB ⟨t, k, n⟩ = true) (hs : s.at' ≤ t) (ha : allowB x s t k = true) (w : World) :
    Calls Tryz.prog 101 #[msV x, blV s, .agg #[.int .i64 t, .int .i64 k, .int .i64 n]] w fun r w' => r = .returned (.tuple #[blV (nextS x s ⟨t, k, n⟩), .int .i64 (nextE x s ⟨t, k, n⟩)]) ∧ Below w.heap.size w w' := by
  have HF := Lib.hid (fun W => fine_c ⟨t, k, n⟩ W)
  have HA := Lib.hid hk.al
  have HD := Lib.hid hk.do_
  have hix := hk.ix
  have hca := hk.ca
  have hcd := hk.cd
  clear hk
  rw [hf] at HF
  rw [ha] at HA
  obtain ⟨e1, e2⟩ := nextE_ok hf hs ha
  simp only at e2
  rw [doB_at s k n t] at e2
  rw [e1, e2]
  clear e1 e2 ha
  unfold msV blV at *
  unfold evV at HF
  simp only at HF
  go_enter Tryz.func101, Tryz.ntmps101
  go_wp2_with fail
  refine (HF.out _).mono ?_
  rintro e w1 ⟨rfl, hb1⟩
  have x1_0_0 : w1.cell? ⟨w.heap.size, 0, none⟩ = some (.int .i64 x.noon) := keep_cell hb1 (by simp [go_sem, *])
  have x1_0_1 : w1.cell? ⟨w.heap.size, 1, none⟩ = some (.int .i64 x.half) := keep_cell hb1 (by simp [go_sem, *])
  have x1_0_2 : w1.cell? ⟨w.heap.size, 2, none⟩ = some (.int .i64 x.full) := keep_cell hb1 (by simp [go_sem, *])
  have x1_0_3 : w1.cell? ⟨w.heap.size, 3, none⟩ = some (.int .i64 x.late) := keep_cell hb1 (by simp [go_sem, *])
  have x1_0_4 : w1.cell? ⟨w.heap.size, 4, none⟩ = some (.int .i64 x.again) := keep_cell hb1 (by simp [go_sem, *])
  have x1_0_5 : w1.cell? ⟨w.heap.size, 5, none⟩ = some (.int .i64 x.wind) := keep_cell hb1 (by simp [go_sem, *])
  have y1_0 : w.heap.size < w1.heap.size := cell?_lt x1_0_0
  have x1_1_0 : w1.cell? ⟨w.heap.size + 1, 0, none⟩ = some (.int .i64 s.place) := keep_cell hb1 (by simp [go_sem, *])
  have f1_1_0 : w1.frozen? ⟨w.heap.size + 1, 0, none⟩ = false := keep_frozen hb1 (by first | omega | (simp <;> omega)) (by simp [go_sem, *])
  have x1_1_1 : w1.cell? ⟨w.heap.size + 1, 1, none⟩ = some (.int .i64 s.wind) := keep_cell hb1 (by simp [go_sem, *])
  have f1_1_1 : w1.frozen? ⟨w.heap.size + 1, 1, none⟩ = false := keep_frozen hb1 (by first | omega | (simp <;> omega)) (by simp [go_sem, *])
  have x1_1_2 : w1.cell? ⟨w.heap.size + 1, 2, none⟩ = some (.bool s.flag) := keep_cell hb1 (by simp [go_sem, *])
  have f1_1_2 : w1.frozen? ⟨w.heap.size + 1, 2, none⟩ = false := keep_frozen hb1 (by first | omega | (simp <;> omega)) (by simp [go_sem, *])
  have x1_1_3 : w1.cell? ⟨w.heap.size + 1, 3, none⟩ = some (.int .i64 s.at') := keep_cell hb1 (by simp [go_sem, *])
  have f1_1_3 : w1.frozen? ⟨w.heap.size + 1, 3, none⟩ = false := keep_frozen hb1 (by first | omega | (simp <;> omega)) (by simp [go_sem, *])
  have y1_1 : w.heap.size + 1 < w1.heap.size := cell?_lt x1_1_0
  have x1_2_0 : w1.cell? ⟨w.heap.size + 1 + 1, 0, none⟩ = some (.int .i64 t) := keep_cell hb1 (by simp [go_sem, *])
  have x1_2_1 : w1.cell? ⟨w.heap.size + 1 + 1, 1, none⟩ = some (.int .i64 k) := keep_cell hb1 (by simp [go_sem, *])
  have x1_2_2 : w1.cell? ⟨w.heap.size + 1 + 1, 2, none⟩ = some (.int .i64 n) := keep_cell hb1 (by simp [go_sem, *])
  have y1_2 : w.heap.size + 1 + 1 < w1.heap.size := cell?_lt x1_2_0
  have x1_3_0 : w1.cell? ⟨w.heap.size + 1 + 1 + 1, 0, none⟩ = some (.int .i64 0) := keep_cell hb1 (by simp [go_sem, *])
  have f1_3_0 : w1.frozen? ⟨w.heap.size + 1 + 1 + 1, 0, none⟩ = false := keep_frozen hb1 (by first | omega | (simp <;> omega)) (by simp [go_sem, *])
  have x1_3_1 : w1.cell? ⟨w.heap.size + 1 + 1 + 1, 1, none⟩ = some (.int .i64 0) := keep_cell hb1 (by simp [go_sem, *])
  have f1_3_1 : w1.frozen? ⟨w.heap.size + 1 + 1 + 1, 1, none⟩ = false := keep_frozen hb1 (by first | omega | (simp <;> omega)) (by simp [go_sem, *])
  have x1_3_2 : w1.cell? ⟨w.heap.size + 1 + 1 + 1, 2, none⟩ = some (.bool false) := keep_cell hb1 (by simp [go_sem, *])
  have f1_3_2 : w1.frozen? ⟨w.heap.size + 1 + 1 + 1, 2, none⟩ = false := keep_frozen hb1 (by first | omega | (simp <;> omega)) (by simp [go_sem, *])
  have x1_3_3 : w1.cell? ⟨w.heap.size + 1 + 1 + 1, 3, none⟩ = some (.int .i64 0) := keep_cell hb1 (by simp [go_sem, *])
  have f1_3_3 : w1.frozen? ⟨w.heap.size + 1 + 1 + 1, 3, none⟩ = false := keep_frozen hb1 (by first | omega | (simp <;> omega)) (by simp [go_sem, *])
  have y1_3 : w.heap.size + 1 + 1 + 1 < w1.heap.size := cell?_lt x1_3_0
  have g1 : Below w.heap.size w w1 := by (repeat (first | exact Below.refl _ _ | refine Below.drew ?_ | refine Below.allocS ?_ _ | refine Below.step ?_ (by assumption) | refine Below.setCell ?_ (by simp <;> omega) _ | refine Below.drewN' ?_ _))
  clear hb1
  go_wp2_with fail
  go_cut [8] (fun s8 w2 => (∃ b8 : Nat, s8 = .pointer (some ⟨b8, 0, none⟩) ∧ w2.cell? ⟨b8, 0, none⟩ = some (.func (.func fa) #[] #[]) ∧ w2.cell? ⟨b8, 1, none⟩ = some (.func (.func fd) #[] #[]) ∧ w.heap.size + 1 + 1 + 1 < b8) ∧ w2.cell? ⟨w.heap.size, 0, none⟩ = some (.int .i64 x.noon) ∧ w2.cell? ⟨w.heap.size, 1, none⟩ = some (.int .i64 x.half) ∧ w2.cell? ⟨w.heap.size, 2, none⟩ = some (.int .i64 x.full) ∧ w2.cell? ⟨w.heap.size, 3, none⟩ = some (.int .i64 x.late) ∧ w2.cell? ⟨w.heap.size, 4, none⟩ = some (.int .i64 x.again) ∧ w2.cell? ⟨w.heap.size, 5, none⟩ = some (.int .i64 x.wind) ∧ w2.cell? ⟨w.heap.size + 1, 0, none⟩ = some (.int .i64 s.place) ∧ w2.frozen? ⟨w.heap.size + 1, 0, none⟩ = false ∧ w2.cell? ⟨w.heap.size + 1, 1, none⟩ = some (.int .i64 s.wind) ∧ w2.frozen? ⟨w.heap.size + 1, 1, none⟩ = false ∧ w2.cell? ⟨w.heap.size + 1, 2, none⟩ = some (.bool s.flag) ∧ w2.frozen? ⟨w.heap.size + 1, 2, none⟩ = false ∧ w2.cell? ⟨w.heap.size + 1, 3, none⟩ = some (.int .i64 s.at') ∧ w2.frozen? ⟨w.heap.size + 1, 3, none⟩ = false ∧ w2.cell? ⟨w.heap.size + 1 + 1, 0, none⟩ = some (.int .i64 t) ∧ w2.cell? ⟨w.heap.size + 1 + 1, 1, none⟩ = some (.int .i64 k) ∧ w2.cell? ⟨w.heap.size + 1 + 1, 2, none⟩ = some (.int .i64 n) ∧ w2.cell? ⟨w.heap.size + 1 + 1 + 1, 0, none⟩ = some (.int .i64 0) ∧ w2.frozen? ⟨w.heap.size + 1 + 1 + 1, 0, none⟩ = false ∧ w2.cell? ⟨w.heap.size + 1 + 1 + 1, 1, none⟩ = some (.int .i64 0) ∧ w2.frozen? ⟨w.heap.size + 1 + 1 + 1, 1, none⟩ = false ∧ w2.cell? ⟨w.heap.size + 1 + 1 + 1, 2, none⟩ = some (.bool false) ∧ w2.frozen? ⟨w.heap.size + 1 + 1 + 1, 2, none⟩ = false ∧ w2.cell? ⟨w.heap.size + 1 + 1 + 1, 3, none⟩ = some (.int .i64 0) ∧ w2.frozen? ⟨w.heap.size + 1 + 1 + 1, 3, none⟩ = false ∧ Below w.heap.size w w2)
  case first =>
    go_region_law (first
      | (go_simp; go_at_call 124; refine (rules_c _).mono ?_; rintro e w2 ⟨rfl, hb⟩; have q0_0 : w2.cell? ⟨w.heap.size, 0, none⟩ = some (.int .i64 x.noon) := keep_cell hb (by simp [go_sem, *]); have q0_1 : w2.cell? ⟨w.heap.size, 1, none⟩ = some (.int .i64 x.half) := keep_cell hb (by simp [go_sem, *]); have q0_2 : w2.cell? ⟨w.heap.size, 2, none⟩ = some (.int .i64 x.full) := keep_cell hb (by simp [go_sem, *]); have q0_3 : w2.cell? ⟨w.heap.size, 3, none⟩ = some (.int .i64 x.late) := keep_cell hb (by simp [go_sem, *]); have q0_4 : w2.cell? ⟨w.heap.size, 4, none⟩ = some (.int .i64 x.again) := keep_cell hb (by simp [go_sem, *]); have q0_5 : w2.cell? ⟨w.heap.size, 5, none⟩ = some (.int .i64 x.wind) := keep_cell hb (by simp [go_sem, *]); have p0 : w.heap.size < w2.heap.size := cell?_lt q0_0; have q1_0 : w2.cell? ⟨w.heap.size + 1, 0, none⟩ = some (.int .i64 s.place) := keep_cell hb (by simp [go_sem, *]); have r1_0 : w2.frozen? ⟨w.heap.size + 1, 0, none⟩ = false := keep_frozen hb (by first | omega | (simp <;> omega)) (by simp [go_sem, *]); have q1_1 : w2.cell? ⟨w.heap.size + 1, 1, none⟩ = some (.int .i64 s.wind) := keep_cell hb (by simp [go_sem, *]); have r1_1 : w2.frozen? ⟨w.heap.size + 1, 1, none⟩ = false := keep_frozen hb (by first | omega | (simp <;> omega)) (by simp [go_sem, *]); have q1_2 : w2.cell? ⟨w.heap.size + 1, 2, none⟩ = some (.bool s.flag) := keep_cell hb (by simp [go_sem, *]); have r1_2 : w2.frozen? ⟨w.heap.size + 1, 2, none⟩ = false := keep_frozen hb (by first | omega | (simp <;> omega)) (by simp [go_sem, *]); have q1_3 : w2.cell? ⟨w.heap.size + 1, 3, none⟩ = some (.int .i64 s.at') := keep_cell hb (by simp [go_sem, *]); have r1_3 : w2.frozen? ⟨w.heap.size + 1, 3, none⟩ = false := keep_frozen hb (by first | omega | (simp <;> omega)) (by simp [go_sem, *]); have p1 : w.heap.size + 1 < w2.heap.size := cell?_lt q1_0; have q2_0 : w2.cell? ⟨w.heap.size + 1 + 1, 0, none⟩ = some (.int .i64 t) := keep_cell hb (by simp [go_sem, *]); have q2_1 : w2.cell? ⟨w.heap.size + 1 + 1, 1, none⟩ = some (.int .i64 k) := keep_cell hb (by simp [go_sem, *]); have q2_2 : w2.cell? ⟨w.heap.size + 1 + 1, 2, none⟩ = some (.int .i64 n) := keep_cell hb (by simp [go_sem, *]); have p2 : w.heap.size + 1 + 1 < w2.heap.size := cell?_lt q2_0; have q3_0 : w2.cell? ⟨w.heap.size + 1 + 1 + 1, 0, none⟩ = some (.int .i64 0) := keep_cell hb (by simp [go_sem, *]); have r3_0 : w2.frozen? ⟨w.heap.size + 1 + 1 + 1, 0, none⟩ = false := keep_frozen hb (by first | omega | (simp <;> omega)) (by simp [go_sem, *]); have q3_1 : w2.cell? ⟨w.heap.size + 1 + 1 + 1, 1, none⟩ = some (.int .i64 0) := keep_cell hb (by simp [go_sem, *]); have r3_1 : w2.frozen? ⟨w.heap.size + 1 + 1 + 1, 1, none⟩ = false := keep_frozen hb (by first | omega | (simp <;> omega)) (by simp [go_sem, *]); have q3_2 : w2.cell? ⟨w.heap.size + 1 + 1 + 1, 2, none⟩ = some (.bool false) := keep_cell hb (by simp [go_sem, *]); have r3_2 : w2.frozen? ⟨w.heap.size + 1 + 1 + 1, 2, none⟩ = false := keep_frozen hb (by first | omega | (simp <;> omega)) (by simp [go_sem, *]); have q3_3 : w2.cell? ⟨w.heap.size + 1 + 1 + 1, 3, none⟩ = some (.int .i64 0) := keep_cell hb (by simp [go_sem, *]); have r3_3 : w2.frozen? ⟨w.heap.size + 1 + 1 + 1, 3, none⟩ = false := keep_frozen hb (by first | omega | (simp <;> omega)) (by simp [go_sem, *]); have p3 : w.heap.size + 1 + 1 + 1 < w2.heap.size := cell?_lt q3_0; obtain ⟨hc, hf⟩ := bcell hb; have hz := hb.size; (try simp at hz)))
    all_goals
      go_wp2_with fail
      go_meet; exact ⟨⟨_, rfl, by simp [go_sem, *], by simp [go_sem, *], by (first | omega | (simp; omega))⟩, (by simp [go_sem, *]), (by simp [go_sem, *]), (by simp [go_sem, *]), (by simp [go_sem, *]), (by simp [go_sem, *]), (by simp [go_sem, *]), (by simp [go_sem, *]), (by simp [go_sem, *]), (by simp [go_sem, *]), (by simp [go_sem, *]), (by simp [go_sem, *]), (by simp [go_sem, *]), (by simp [go_sem, *]), (by simp [go_sem, *]), (by simp [go_sem, *]), (by simp [go_sem, *]), (by simp [go_sem, *]), (by simp [go_sem, *]), (by simp [go_sem, *]), (by simp [go_sem, *]), (by simp [go_sem, *]), (by simp [go_sem, *]), (by simp [go_sem, *]), (by simp [go_sem, *]), (by simp [go_sem, *]), by (repeat (first | exact Below.refl _ _ | refine Below.drew ?_ | refine Below.allocS ?_ _ | refine Below.step ?_ (by assumption) | refine Below.setCell ?_ (by simp <;> omega) _ | refine Below.drewN' ?_ _))⟩
  case rest =>
    clear g1 x1_0_0 x1_0_1 x1_0_2 x1_0_3 x1_0_4 x1_0_5 x1_1_0 f1_1_0 x1_1_1 f1_1_1 x1_1_2 f1_1_2 x1_1_3 f1_1_3 x1_2_0 x1_2_1 x1_2_2 x1_3_0 f1_3_0 x1_3_1 f1_3_1 x1_3_2 f1_3_2 x1_3_3 f1_3_3 y1_0 y1_1 y1_2 y1_3
    obtain ⟨c2, x2_0_0, x2_0_1, x2_0_2, x2_0_3, x2_0_4, x2_0_5, x2_1_0, f2_1_0, x2_1_1, f2_1_1, x2_1_2, f2_1_2, x2_1_3, f2_1_3, x2_2_0, x2_2_1, x2_2_2, x2_3_0, f2_3_0, x2_3_1, f2_3_1, x2_3_2, f2_3_2, x2_3_3, f2_3_3, g2⟩ := hcut
    have y2_0 : w.heap.size < wc.heap.size := cell?_lt x2_0_0
    have y2_1 : w.heap.size + 1 < wc.heap.size := cell?_lt x2_1_0
    have y2_2 : w.heap.size + 1 + 1 < wc.heap.size := cell?_lt x2_2_0
    have y2_3 : w.heap.size + 1 + 1 + 1 < wc.heap.size := cell?_lt x2_3_0
    obtain ⟨b8, rfl, z0, z1, hlt8⟩ := c2
    go_wp2_with fail
    refine (HA.out _).mono ?_
    rintro e w3 ⟨rfl, hb3⟩
    have x3_0_0 : w3.cell? ⟨w.heap.size, 0, none⟩ = some (.int .i64 x.noon) := keep_cell hb3 (by simp [go_sem, *])
    have x3_0_1 : w3.cell? ⟨w.heap.size, 1, none⟩ = some (.int .i64 x.half) := keep_cell hb3 (by simp [go_sem, *])
    have x3_0_2 : w3.cell? ⟨w.heap.size, 2, none⟩ = some (.int .i64 x.full) := keep_cell hb3 (by simp [go_sem, *])
    have x3_0_3 : w3.cell? ⟨w.heap.size, 3, none⟩ = some (.int .i64 x.late) := keep_cell hb3 (by simp [go_sem, *])
    have x3_0_4 : w3.cell? ⟨w.heap.size, 4, none⟩ = some (.int .i64 x.again) := keep_cell hb3 (by simp [go_sem, *])
    have x3_0_5 : w3.cell? ⟨w.heap.size, 5, none⟩ = some (.int .i64 x.wind) := keep_cell hb3 (by simp [go_sem, *])
    have y3_0 : w.heap.size < w3.heap.size := cell?_lt x3_0_0
    have x3_1_0 : w3.cell? ⟨w.heap.size + 1, 0, none⟩ = some (.int .i64 s.place) := keep_cell hb3 (by simp [go_sem, *])
    have f3_1_0 : w3.frozen? ⟨w.heap.size + 1, 0, none⟩ = false := keep_frozen hb3 (by first | omega | (simp <;> omega)) (by simp [go_sem, *])
    have x3_1_1 : w3.cell? ⟨w.heap.size + 1, 1, none⟩ = some (.int .i64 s.wind) := keep_cell hb3 (by simp [go_sem, *])
    have f3_1_1 : w3.frozen? ⟨w.heap.size + 1, 1, none⟩ = false := keep_frozen hb3 (by first | omega | (simp <;> omega)) (by simp [go_sem, *])
    have x3_1_2 : w3.cell? ⟨w.heap.size + 1, 2, none⟩ = some (.bool s.flag) := keep_cell hb3 (by simp [go_sem, *])
    have f3_1_2 : w3.frozen? ⟨w.heap.size + 1, 2, none⟩ = false := keep_frozen hb3 (by first | omega | (simp <;> omega)) (by simp [go_sem, *])
    have x3_1_3 : w3.cell? ⟨w.heap.size + 1, 3, none⟩ = some (.int .i64 s.at') := keep_cell hb3 (by simp [go_sem, *])
    have f3_1_3 : w3.frozen? ⟨w.heap.size + 1, 3, none⟩ = false := keep_frozen hb3 (by first | omega | (simp <;> omega)) (by simp [go_sem, *])
    have y3_1 : w.heap.size + 1 < w3.heap.size := cell?_lt x3_1_0
    have x3_2_0 : w3.cell? ⟨w.heap.size + 1 + 1, 0, none⟩ = some (.int .i64 t) := keep_cell hb3 (by simp [go_sem, *])
    have x3_2_1 : w3.cell? ⟨w.heap.size + 1 + 1, 1, none⟩ = some (.int .i64 k) := keep_cell hb3 (by simp [go_sem, *])
    have x3_2_2 : w3.cell? ⟨w.heap.size + 1 + 1, 2, none⟩ = some (.int .i64 n) := keep_cell hb3 (by simp [go_sem, *])
    have y3_2 : w.heap.size + 1 + 1 < w3.heap.size := cell?_lt x3_2_0
    have x3_3_0 : w3.cell? ⟨w.heap.size + 1 + 1 + 1, 0, none⟩ = some (.int .i64 0) := keep_cell hb3 (by simp [go_sem, *])
    have f3_3_0 : w3.frozen? ⟨w.heap.size + 1 + 1 + 1, 0, none⟩ = false := keep_frozen hb3 (by first | omega | (simp <;> omega)) (by simp [go_sem, *])
    have x3_3_1 : w3.cell? ⟨w.heap.size + 1 + 1 + 1, 1, none⟩ = some (.int .i64 0) := keep_cell hb3 (by simp [go_sem, *])
    have f3_3_1 : w3.frozen? ⟨w.heap.size + 1 + 1 + 1, 1, none⟩ = false := keep_frozen hb3 (by first | omega | (simp <;> omega)) (by simp [go_sem, *])
    have x3_3_2 : w3.cell? ⟨w.heap.size + 1 + 1 + 1, 2, none⟩ = some (.bool false) := keep_cell hb3 (by simp [go_sem, *])
    have f3_3_2 : w3.frozen? ⟨w.heap.size + 1 + 1 + 1, 2, none⟩ = false := keep_frozen hb3 (by first | omega | (simp <;> omega)) (by simp [go_sem, *])
    have x3_3_3 : w3.cell? ⟨w.heap.size + 1 + 1 + 1, 3, none⟩ = some (.int .i64 0) := keep_cell hb3 (by simp [go_sem, *])
    have f3_3_3 : w3.frozen? ⟨w.heap.size + 1 + 1 + 1, 3, none⟩ = false := keep_frozen hb3 (by first | omega | (simp <;> omega)) (by simp [go_sem, *])
    have y3_3 : w.heap.size + 1 + 1 + 1 < w3.heap.size := cell?_lt x3_3_0
    have x3_4_0 : w3.cell? ⟨b8, 0, none⟩ = some (.func (.func fa) #[] #[]) := keep_cell hb3 (by simp [go_sem, *])
    have x3_4_1 : w3.cell? ⟨b8, 1, none⟩ = some (.func (.func fd) #[] #[]) := keep_cell hb3 (by simp [go_sem, *])
    have y3_4 : b8 < w3.heap.size := cell?_lt x3_4_0
    have g3 : Below w.heap.size w w3 := by (repeat (first | exact Below.refl _ _ | refine Below.drew ?_ | refine Below.allocS ?_ _ | refine Below.step ?_ (by assumption) | refine Below.setCell ?_ (by simp <;> omega) _ | refine Below.drewN' ?_ _))
    clear hb3 g2 x2_0_0 x2_0_1 x2_0_2 x2_0_3 x2_0_4 x2_0_5 x2_1_0 f2_1_0 x2_1_1 f2_1_1 x2_1_2 f2_1_2 x2_1_3 f2_1_3 x2_2_0 x2_2_1 x2_2_2 x2_3_0 f2_3_0 x2_3_1 f2_3_1 x2_3_2 f2_3_2 x2_3_3 f2_3_3 y2_0 y2_1 y2_2 y2_3
    go_wp2_with fail
    refine (HD.out (w.heap.size + 1) _ ⟨⟨x3_1_0, x3_1_1, x3_1_2, x3_1_3⟩, f3_1_0, f3_1_1, f3_1_2, f3_1_3⟩).mono ?_
    rintro e w4 ⟨⟨u, rfl⟩, ⟨⟨s0, s1, s2, s3⟩, t0, t1, t2, t3⟩, hkb, hbw⟩
    have e0 := (World.cell?_of_block (a := ⟨w.heap.size + 1 + 1, 0, none⟩) (hkb.block _ y3_2 (Or.inr (by show _ ≤ w.heap.size + 1 + 1; omega)))).trans x3_2_0
    have hr := hkb.block (w.heap.size + 1 + 1 + 1) y3_3 (Or.inr (by omega))
    have r0 := (World.cell?_of_block (a := ⟨w.heap.size + 1 + 1 + 1, 0, none⟩) hr).trans x3_3_0
    have r1 := (World.cell?_of_block (a := ⟨w.heap.size + 1 + 1 + 1, 1, none⟩) hr).trans x3_3_1
    have r2 := (World.cell?_of_block (a := ⟨w.heap.size + 1 + 1 + 1, 2, none⟩) hr).trans x3_3_2
    have r3 := (World.cell?_of_block (a := ⟨w.heap.size + 1 + 1 + 1, 3, none⟩) hr).trans x3_3_3
    have q0 := (World.frozen?_of_block (a := ⟨w.heap.size + 1 + 1 + 1, 0, none⟩) hr).trans f3_3_0
    have q1 := (World.frozen?_of_block (a := ⟨w.heap.size + 1 + 1 + 1, 1, none⟩) hr).trans f3_3_1
    have q2 := (World.frozen?_of_block (a := ⟨w.heap.size + 1 + 1 + 1, 2, none⟩) hr).trans f3_3_2
    have q3 := (World.frozen?_of_block (a := ⟨w.heap.size + 1 + 1 + 1, 3, none⟩) hr).trans f3_3_3
    have hB : Below w.heap.size w w4 := g3.trans (hbw.mono (by omega))
    clear hbw hkb hr x3_0_0 x3_0_1 x3_0_2 x3_0_3 x3_0_4 x3_0_5 x3_1_0 x3_1_1 x3_1_2 x3_1_3 f3_1_0 f3_1_1 f3_1_2 f3_1_3 x3_2_0 x3_2_1 x3_2_2 x3_3_0 x3_3_1 x3_3_2 x3_3_3 f3_3_0 f3_3_1 f3_3_2 f3_3_3 x3_4_0 x3_4_1 g3
    go_wp2
    refine bodyPost_ret (v := .tuple #[.agg #[.int .i64 ((doB s k n 0).place), .int .i64 ((doB s k n 0).wind), .bool ((doB s k n 0).flag), .int .i64 t], .int .i64 0]) (by simp [results, Tryz.results101, go_sem, *] <;> (repeat' apply And.intro) <;> rfl) rfl ⟨rfl, ?_⟩
    (repeat (first | (with_reducible assumption) | (with_reducible refine Below.drew ?_) | (with_reducible refine Below.setCell ?_ ?_ _))); (try any_goals (first | (with_reducible assumption) | (simp; done) | (simp; omega) | omega))

theorem next_gen (x : Ms) (s : Bl) (t k n : Int) (fa fd : Nat) (hk : Kind x s t k n fa fd) (hf : fineB ⟨t, k, n⟩ = true) (hs : s.at' ≤ t) (w : World) :
    Calls Tryz.prog 101 #[msV x, blV s, .agg #[.int .i64 t, .int .i64 k, .int .i64 n]] w fun r w' => r = .returned (.tuple #[blV (nextS x s ⟨t, k, n⟩), .int .i64 (nextE x s ⟨t, k, n⟩)]) ∧ Below w.heap.size w w' := by
  cases ha : allowB x s t k
  · exact next_no x s t k n fa fd hk hf hs ha w
  · exact next_ok x s t k n fa fd hk hf hs ha w

theorem next_c (x : Ms) (hx : OkMast x) (s : Bl) (e : Ev) (w : World) :
    Calls Tryz.prog 101 #[msV x, blV s, evV e] w fun r w' => r = .returned (.tuple #[blV (nextS x s e), .int .i64 (nextE x s e)]) ∧ Below w.heap.size w w' := by
  cases hf : fineB e
  · exact next_not x s e (Or.inl hf) w
  by_cases hs : s.at' ≤ e.at'
  · obtain ⟨-, ⟨k1, k6⟩, -⟩ := fineB_true hf
    obtain ⟨t, k, n⟩ := e
    simp only at k1 k6 hs
    have hk : k = 1 ∨ k = 2 ∨ k = 3 ∨ k = 4 ∨ k = 5 ∨ k = 6 := by omega
    rcases hk with rfl | rfl | rfl | rfl | rfl | rfl
    · exact next_gen x s t 1 n 138 139 ⟨fun _ => by kernel_rfl, fun _ _ => by kernel_rfl, fun _ _ => by kernel_rfl, fun W => allow1_c x s t W, does1 s n⟩ hf hs w
    · exact next_gen x s t 2 n 140 142 ⟨fun _ => by kernel_rfl, fun _ _ => by kernel_rfl, fun _ _ => by kernel_rfl, fun W => allow2_c x hx s t W, does2 s n⟩ hf hs w
    · exact next_gen x s t 3 n 143 144 ⟨fun _ => by kernel_rfl, fun _ _ => by kernel_rfl, fun _ _ => by kernel_rfl, fun W => allow3_c x hx s t W, does3 s n⟩ hf hs w
    · exact next_gen x s t 4 n 145 146 ⟨fun _ => by kernel_rfl, fun _ _ => by kernel_rfl, fun _ _ => by kernel_rfl, fun W => allow4_c x s t W, does4 s n⟩ hf hs w
    · exact next_gen x s t 5 n 147 148 ⟨fun _ => by kernel_rfl, fun _ _ => by kernel_rfl, fun _ _ => by kernel_rfl, fun W => allow5_c x s t W, does5 s n⟩ hf hs w
    · exact next_gen x s t 6 n 149 150 ⟨fun _ => by kernel_rfl, fun _ _ => by kernel_rfl, fun _ _ => by kernel_rfl, fun W => allow6_c x s t W, does6 s n⟩ hf hs w
  · exact next_not x s e (Or.inr ⟨hf, by omega⟩) w
end Go.Proofs.YtimbdnngeoccdaaGreatDoor
