/-
  Turning and following, the clouds of the reference. No conditions.
-/
import Derived.Test.YtimbdnngeoccdaaGreatDoorNt8
import Derived.BigQuiet
import Derived.Deep.QuietTactic
namespace Go.Proofs.YtimbdnngeoccdaaGreatDoor
open Go.RowKit Go.Deep
set_option linter.unusedVariables false
set_option linter.unusedSimpArgs false
def TOk (x : Ch) : Prop := -90000 ≤ x.t ∧ x.t ≤ 90000
def trnC (x y : Ch) (per : Int) : Int := if y.t < x.t then (x.t - y.t) * per else (y.t - x.t) * per
theorem trn_bd {x y : Ch} (hx : TOk x) (hy : TOk y) {per : Int} (hp : 0 ≤ per ∧ per ≤ 10000) : 0 ≤ trnC x y per ∧ trnC x y per ≤ 1800000000 := by
  unfold TOk at *
  have key : ∀ d : Int, 0 ≤ d → d ≤ 180000 → 0 ≤ d * per ∧ d * per ≤ 1800000000 := fun d h1 h2 =>
    ⟨Int.mul_nonneg h1 hp.1, Int.le_trans (Int.mul_le_mul_of_nonneg_right h2 hp.1) (by omega)⟩
  unfold trnC
  split
  · exact key _ (by omega) (by omega)
  · exact key _ (by omega) (by omega)
set_option maxHeartbeats 1000000 in
theorem turn_c (x y : Ch) (per : Int) (hx : TOk x) (hy : TOk y) (hp : 0 ≤ per ∧ per ≤ 10000) (w : World) :
    Calls Tryz.prog 136 #[.agg #[.string x.nm, .int .i64 x.a, .int .i64 x.b, .int .i64 x.t, .int .i64 x.v], .agg #[.string y.nm, .int .i64 y.a, .int .i64 y.b, .int .i64 y.t, .int .i64 y.v], .int .i64 per] w fun e w' => e = .returned (.int .i64 (trnC x y per)) ∧ Below w.heap.size w w' := by
  have hb := trn_bd hx hy hp
  unfold TOk at *
  have s1 : IntKind.i64.wrap (x.t - y.t) = x.t - y.t := IntWalk.i64_in _ (by omega)
  have s2 : IntKind.i64.wrap (y.t - x.t) = y.t - x.t := IntWalk.i64_in _ (by omega)
  by_cases h : y.t < x.t
  · have m1 : max (x.t - y.t) (y.t - x.t) = x.t - y.t := by omega
    have m2 : (if y.t - x.t > x.t - y.t then y.t - x.t else x.t - y.t) = x.t - y.t := by rw [if_neg (by omega)]
    have d1 : decide (y.t - x.t > x.t - y.t) = false := decide_eq_false (by omega)
    have d2 : decide (x.t - y.t < y.t - x.t) = false := decide_eq_false (by omega)
    have HE := Lib.hid (show trnC x y per = per * (x.t - y.t) by unfold trnC; rw [if_pos h, Int.mul_comm])
    have s3 : IntKind.i64.wrap (per * (x.t - y.t)) = per * (x.t - y.t) := by rw [← HE.out]; exact IntWalk.i64_in _ (by omega)
    clear h hb hx hy
    go_enter Tryz.func136, Tryz.ntmps136
    go_wp2
    go_ret
    exact ⟨by rw [HE.out]; rfl, by (repeat (first | (with_reducible exact Below.refl _ _) | (with_reducible assumption) | (with_reducible refine Below.drew ?_) | (with_reducible refine Below.allocS ?_ _) | (with_reducible refine Below.setCell ?_ ?_ _) | (with_reducible refine Below.step ?_ (by assumption)) | (with_reducible refine Below.drewN' ?_ _))); (try any_goals (first | (with_reducible assumption) | (simp; done) | (simp; omega) | omega))⟩
  · have m1 : max (x.t - y.t) (y.t - x.t) = y.t - x.t := by omega
    have HE := Lib.hid (show trnC x y per = per * (y.t - x.t) by unfold trnC; rw [if_neg h, Int.mul_comm])
    have s3 : IntKind.i64.wrap (per * (y.t - x.t)) = per * (y.t - x.t) := by rw [← HE.out]; exact IntWalk.i64_in _ (by omega)
    by_cases heq : x.t = y.t
    · have m2 : (if y.t - x.t > x.t - y.t then y.t - x.t else x.t - y.t) = y.t - x.t := by rw [if_neg (by omega)]; omega
      have m3 : x.t - y.t = y.t - x.t := by omega
      have d1 : decide (y.t - x.t > x.t - y.t) = false := decide_eq_false (by omega)
      have d2 : decide (x.t - y.t < y.t - x.t) = false := decide_eq_false (by omega)
      have HE2 := Lib.hid (show trnC x y per = 0 by rw [HE.out, heq]; simp)
      obtain ⟨tx, htx⟩ : ∃ tx, tx = x.t := ⟨_, rfl⟩
      clear hb hx hy m1 m2 m3 h d1 d2 s1 s2 s3
      rw [← heq, ← htx]
      clear heq htx
      have s4 : IntKind.i64.wrap (tx - tx) = 0 := by rw [Int.sub_self]; rfl
      have s5 : IntKind.i64.wrap (per * 0) = 0 := by rw [Int.mul_zero]; rfl
      go_enter Tryz.func136, Tryz.ntmps136
      go_wp2
      go_ret
      exact ⟨by rw [HE2.out]; rfl, by (repeat (first | (with_reducible exact Below.refl _ _) | (with_reducible assumption) | (with_reducible refine Below.drew ?_) | (with_reducible refine Below.allocS ?_ _) | (with_reducible refine Below.setCell ?_ ?_ _) | (with_reducible refine Below.step ?_ (by assumption)) | (with_reducible refine Below.drewN' ?_ _))); (try any_goals (first | (with_reducible assumption) | (simp; done) | (simp; omega) | omega))⟩
    · have m2 : (if y.t - x.t > x.t - y.t then y.t - x.t else x.t - y.t) = y.t - x.t := by rw [if_pos (by omega)]
      have d1 : decide (y.t - x.t > x.t - y.t) = true := decide_eq_true (by omega)
      have d2 : decide (x.t - y.t < y.t - x.t) = true := decide_eq_true (by omega)
      clear h hb hx hy heq
      go_enter Tryz.func136, Tryz.ntmps136
      go_wp2
      go_ret
      exact ⟨by rw [HE.out]; rfl, by (repeat (first | (with_reducible exact Below.refl _ _) | (with_reducible assumption) | (with_reducible refine Below.drew ?_) | (with_reducible refine Below.allocS ?_ _) | (with_reducible refine Below.setCell ?_ ?_ _) | (with_reducible refine Below.step ?_ (by assumption)) | (with_reducible refine Below.drewN' ?_ _))); (try any_goals (first | (with_reducible assumption) | (simp; done) | (simp; omega) | omega))⟩
def folC (x y : Ch) (per : Int) : Bool := decide (x.b + trnC x y per ≤ y.a)
set_option maxHeartbeats 2000000 in
set_option maxRecDepth 100000 in
theorem follows_c (x y : Ch) (per : Int) (hx : TOk x) (hy : TOk y) (hp : 0 ≤ per ∧ per ≤ 10000) (hb : 0 ≤ x.b ∧ x.b ≤ 86400000) (w : World) :
    Calls Tryz.prog 119 #[.agg #[.string x.nm, .int .i64 x.a, .int .i64 x.b, .int .i64 x.t, .int .i64 x.v], .agg #[.string y.nm, .int .i64 y.a, .int .i64 y.b, .int .i64 y.t, .int .i64 y.v], .int .i64 per] w fun e w' => e = .returned (.bool (folC x y per)) ∧ Below w.heap.size w w' := by
  have h0 := trn_bd hx hy hp
  have H1 := Lib.hid (fun W => turn_c x y per hx hy hp W)
  unfold folC
  generalize trnC x y per = q at *
  have s1 : IntKind.i64.wrap (x.b + q) = x.b + q := IntWalk.i64_in _ (by omega)
  clear hx hy
  go_enter Tryz.func119, Tryz.ntmps119
  go_wp2_with fail
  obtain ⟨V, hV⟩ : ∃ V, V = (w.alloc (.cells #[.string x.nm, .int .i64 x.a, .int .i64 x.b, .int .i64 x.t, .int .i64 x.v] 74)).alloc (.cells #[.string y.nm, .int .i64 y.a, .int .i64 y.b, .int .i64 y.t, .int .i64 y.v] 74) := ⟨_, rfl⟩
  have c0 : V.cell? ⟨w.heap.size, 0, none⟩ = some (.string x.nm) := by rw [hV]; simp [go_sem]
  have c1 : V.cell? ⟨w.heap.size, 1, none⟩ = some (.int .i64 x.a) := by rw [hV]; simp [go_sem]
  have c2 : V.cell? ⟨w.heap.size, 2, none⟩ = some (.int .i64 x.b) := by rw [hV]; simp [go_sem]
  have c3 : V.cell? ⟨w.heap.size, 3, none⟩ = some (.int .i64 x.t) := by rw [hV]; simp [go_sem]
  have c4 : V.cell? ⟨w.heap.size, 4, none⟩ = some (.int .i64 x.v) := by rw [hV]; simp [go_sem]
  have d0 : V.cell? ⟨w.heap.size + 1, 0, none⟩ = some (.string y.nm) := by rw [hV]; simp [go_sem]
  have d1 : V.cell? ⟨w.heap.size + 1, 1, none⟩ = some (.int .i64 y.a) := by rw [hV]; simp [go_sem]
  have d2 : V.cell? ⟨w.heap.size + 1, 2, none⟩ = some (.int .i64 y.b) := by rw [hV]; simp [go_sem]
  have d3 : V.cell? ⟨w.heap.size + 1, 3, none⟩ = some (.int .i64 y.t) := by rw [hV]; simp [go_sem]
  have d4 : V.cell? ⟨w.heap.size + 1, 4, none⟩ = some (.int .i64 y.v) := by rw [hV]; simp [go_sem]
  have hbV : Below w.heap.size w V := by rw [hV]; (repeat (first | (with_reducible exact Below.refl _ _) | (with_reducible assumption) | (with_reducible refine Below.drew ?_) | (with_reducible refine Below.allocS ?_ _) | (with_reducible refine Below.setCell ?_ ?_ _) | (with_reducible refine Below.step ?_ (by assumption)) | (with_reducible refine Below.drewN' ?_ _))); (try any_goals (first | (with_reducible assumption) | (simp; done) | (simp; omega) | omega))
  rw [← hV]
  clear hV
  have p0 : ∀ W, Below V.heap.size V W → W.cell? ⟨w.heap.size, 0, none⟩ = some (.string x.nm) := fun W hb => keep_cell hb c0
  have q0 : ∀ W, Below V.heap.size V W → W.cell? ⟨w.heap.size + 1, 0, none⟩ = some (.string y.nm) := fun W hb => keep_cell hb d0
  have p1 : ∀ W, Below V.heap.size V W → W.cell? ⟨w.heap.size, 1, none⟩ = some (.int .i64 x.a) := fun W hb => keep_cell hb c1
  have q1 : ∀ W, Below V.heap.size V W → W.cell? ⟨w.heap.size + 1, 1, none⟩ = some (.int .i64 y.a) := fun W hb => keep_cell hb d1
  have p2 : ∀ W, Below V.heap.size V W → W.cell? ⟨w.heap.size, 2, none⟩ = some (.int .i64 x.b) := fun W hb => keep_cell hb c2
  have q2 : ∀ W, Below V.heap.size V W → W.cell? ⟨w.heap.size + 1, 2, none⟩ = some (.int .i64 y.b) := fun W hb => keep_cell hb d2
  have p3 : ∀ W, Below V.heap.size V W → W.cell? ⟨w.heap.size, 3, none⟩ = some (.int .i64 x.t) := fun W hb => keep_cell hb c3
  have q3 : ∀ W, Below V.heap.size V W → W.cell? ⟨w.heap.size + 1, 3, none⟩ = some (.int .i64 y.t) := fun W hb => keep_cell hb d3
  have p4 : ∀ W, Below V.heap.size V W → W.cell? ⟨w.heap.size, 4, none⟩ = some (.int .i64 x.v) := fun W hb => keep_cell hb c4
  have q4 : ∀ W, Below V.heap.size V W → W.cell? ⟨w.heap.size + 1, 4, none⟩ = some (.int .i64 y.v) := fun W hb => keep_cell hb d4
  refine wp_region_held_drew (S := fun W => Below V.heap.size V W) (by kernel_rfl) ?_ (fun hHeld => ?_); (· (repeat (first | (with_reducible exact Below.refl _ _) | (with_reducible assumption) | (with_reducible refine Below.drew ?_) | (with_reducible refine Below.allocS ?_ _) | (with_reducible refine Below.setCell ?_ ?_ _) | (with_reducible refine Below.step ?_ (by assumption)) | (with_reducible refine Below.drewN' ?_ _))); (try any_goals (first | (with_reducible assumption) | (simp; done) | (simp; omega) | omega)))
  (first | (refine wpAnyH_take (i := 0) (oi := ⟨_, _, _, _, _, _⟩) (v := ?_) rfl (by kernel_rfl) (by kernel_rfl) (by kernel_rfl) (fun _ _ _ h => h) (Or.inl ⟨by rfl, ?_⟩) (by assumption) ?_; rotate_left 1; (· (intro w0 hSw; (try dsimp only at hSw); go_simp; (try with_reducible rfl)))) | (refine wpAnyH_take (i := 0) (oi := ⟨_, _, _, _, _, _⟩) (v := undef) rfl (by kernel_rfl) (by kernel_rfl) (by kernel_rfl) (fun _ _ _ h => h) (Or.inr ⟨by rfl, rfl⟩) (by assumption) ?_)); (try simp only [Act.put, List.setIfInBounds_toArray, List.set_cons_zero, List.set_cons_succ])
  (first | (refine wpAnyH_take (i := 1) (oi := ⟨_, _, _, _, _, _⟩) (v := ?_) rfl (by kernel_rfl) (by kernel_rfl) (by kernel_rfl) (fun _ _ _ h => h) (Or.inl ⟨by rfl, ?_⟩) (by assumption) ?_; rotate_left 1; (· (intro w0 hSw; (try dsimp only at hSw); go_simp; (try with_reducible rfl)))) | (refine wpAnyH_take (i := 1) (oi := ⟨_, _, _, _, _, _⟩) (v := undef) rfl (by kernel_rfl) (by kernel_rfl) (by kernel_rfl) (fun _ _ _ h => h) (Or.inr ⟨by rfl, rfl⟩) (by assumption) ?_)); (try simp only [Act.put, List.setIfInBounds_toArray, List.set_cons_zero, List.set_cons_succ])
  (first | (refine wpAnyH_take (i := 2) (oi := ⟨_, _, _, _, _, _⟩) (v := ?_) rfl (by kernel_rfl) (by kernel_rfl) (by kernel_rfl) (fun _ _ _ h => h) (Or.inl ⟨by rfl, ?_⟩) (by assumption) ?_; rotate_left 1; (· (intro w0 hSw; (try dsimp only at hSw); go_simp; (try with_reducible rfl)))) | (refine wpAnyH_take (i := 2) (oi := ⟨_, _, _, _, _, _⟩) (v := undef) rfl (by kernel_rfl) (by kernel_rfl) (by kernel_rfl) (fun _ _ _ h => h) (Or.inr ⟨by rfl, rfl⟩) (by assumption) ?_)); (try simp only [Act.put, List.setIfInBounds_toArray, List.set_cons_zero, List.set_cons_succ])
  (first | (refine wpAnyH_take (i := 3) (oi := ⟨_, _, _, _, _, _⟩) (v := ?_) rfl (by kernel_rfl) (by kernel_rfl) (by kernel_rfl) (fun _ _ _ h => h) (Or.inl ⟨by rfl, ?_⟩) (by assumption) ?_; rotate_left 1; (· (intro w0 hSw; (try dsimp only at hSw); go_simp; (try with_reducible rfl)))) | (refine wpAnyH_take (i := 3) (oi := ⟨_, _, _, _, _, _⟩) (v := undef) rfl (by kernel_rfl) (by kernel_rfl) (by kernel_rfl) (fun _ _ _ h => h) (Or.inr ⟨by rfl, rfl⟩) (by assumption) ?_)); (try simp only [Act.put, List.setIfInBounds_toArray, List.set_cons_zero, List.set_cons_succ])
  (first | (refine wpAnyH_take (i := 4) (oi := ⟨_, _, _, _, _, _⟩) (v := ?_) rfl (by kernel_rfl) (by kernel_rfl) (by kernel_rfl) (fun _ _ _ h => h) (Or.inl ⟨by rfl, ?_⟩) (by assumption) ?_; rotate_left 1; (· (intro w0 hSw; (try dsimp only at hSw); go_simp; (try with_reducible rfl)))) | (refine wpAnyH_take (i := 4) (oi := ⟨_, _, _, _, _, _⟩) (v := undef) rfl (by kernel_rfl) (by kernel_rfl) (by kernel_rfl) (fun _ _ _ h => h) (Or.inr ⟨by rfl, rfl⟩) (by assumption) ?_)); (try simp only [Act.put, List.setIfInBounds_toArray, List.set_cons_zero, List.set_cons_succ])
  (first | (refine wpAnyH_take (i := 5) (oi := ⟨_, _, _, _, _, _⟩) (v := ?_) rfl (by kernel_rfl) (by kernel_rfl) (by kernel_rfl) (fun _ _ _ h => h) (Or.inl ⟨by rfl, ?_⟩) (by assumption) ?_; rotate_left 1; (· (intro w0 hSw; (try dsimp only at hSw); go_simp; (try with_reducible rfl)))) | (refine wpAnyH_take (i := 5) (oi := ⟨_, _, _, _, _, _⟩) (v := undef) rfl (by kernel_rfl) (by kernel_rfl) (by kernel_rfl) (fun _ _ _ h => h) (Or.inr ⟨by rfl, rfl⟩) (by assumption) ?_)); (try simp only [Act.put, List.setIfInBounds_toArray, List.set_cons_zero, List.set_cons_succ])
  (first | (refine wpAnyH_take (i := 6) (oi := ⟨_, _, _, _, _, _⟩) (v := ?_) rfl (by kernel_rfl) (by kernel_rfl) (by kernel_rfl) (fun _ _ _ h => h) (Or.inl ⟨by rfl, ?_⟩) (by assumption) ?_; rotate_left 1; (· (intro w0 hSw; (try dsimp only at hSw); go_simp; (try with_reducible rfl)))) | (refine wpAnyH_take (i := 6) (oi := ⟨_, _, _, _, _, _⟩) (v := undef) rfl (by kernel_rfl) (by kernel_rfl) (by kernel_rfl) (fun _ _ _ h => h) (Or.inr ⟨by rfl, rfl⟩) (by assumption) ?_)); (try simp only [Act.put, List.setIfInBounds_toArray, List.set_cons_zero, List.set_cons_succ])
  refine wpAnyH_ready (rs := [7]) (by kernel_rfl) (by simp) ?_
  refine AllReadyH.cons (o := ⟨_, _, _, _, _, _⟩) rfl (fun K hK => ?_) AllReadyH.nil
  go_simp
  refine (H1.out _).mono ?_; rintro e wv ⟨rfl, hbv⟩
  (try go_wp2_with fail)
  refine hK.out _ _ ?_ (fun hHeld => ?_)
  · exact Below.step (by assumption) hbv
  clear hK K
  (try simp only [Act.put, List.setIfInBounds_toArray, List.set_cons_zero, List.set_cons_succ])
  (first | (refine wpAnyH_take (i := 8) (oi := ⟨_, _, _, _, _, _⟩) (v := ?_) rfl (by kernel_rfl) (by kernel_rfl) (by kernel_rfl) (fun _ _ _ h => h) (Or.inl ⟨by rfl, ?_⟩) (by assumption) ?_; rotate_left 1; (· (intro w0 hSw; (try dsimp only at hSw); go_simp; (try with_reducible rfl)))) | (refine wpAnyH_take (i := 8) (oi := ⟨_, _, _, _, _, _⟩) (v := undef) rfl (by kernel_rfl) (by kernel_rfl) (by kernel_rfl) (fun _ _ _ h => h) (Or.inr ⟨by rfl, rfl⟩) (by assumption) ?_)); (try simp only [Act.put, List.setIfInBounds_toArray, List.set_cons_zero, List.set_cons_succ])
  (first | (refine wpAnyH_take (i := 9) (oi := ⟨_, _, _, _, _, _⟩) (v := ?_) rfl (by kernel_rfl) (by kernel_rfl) (by kernel_rfl) (fun _ _ _ h => h) (Or.inl ⟨by rfl, ?_⟩) (by assumption) ?_; rotate_left 1; (· (intro w0 hSw; (try dsimp only at hSw); go_simp; (try with_reducible rfl)))) | (refine wpAnyH_take (i := 9) (oi := ⟨_, _, _, _, _, _⟩) (v := undef) rfl (by kernel_rfl) (by kernel_rfl) (by kernel_rfl) (fun _ _ _ h => h) (Or.inr ⟨by rfl, rfl⟩) (by assumption) ?_)); (try simp only [Act.put, List.setIfInBounds_toArray, List.set_cons_zero, List.set_cons_succ])
  (first | (refine wpAnyH_take (i := 10) (oi := ⟨_, _, _, _, _, _⟩) (v := ?_) rfl (by kernel_rfl) (by kernel_rfl) (by kernel_rfl) (fun _ _ _ h => h) (Or.inl ⟨by rfl, ?_⟩) (by assumption) ?_; rotate_left 1; (· (intro w0 hSw; (try dsimp only at hSw); go_simp; (try with_reducible rfl)))) | (refine wpAnyH_take (i := 10) (oi := ⟨_, _, _, _, _, _⟩) (v := undef) rfl (by kernel_rfl) (by kernel_rfl) (by kernel_rfl) (fun _ _ _ h => h) (Or.inr ⟨by rfl, rfl⟩) (by assumption) ?_)); (try simp only [Act.put, List.setIfInBounds_toArray, List.set_cons_zero, List.set_cons_succ])
  refine wpAnyH_done (by kernel_rfl) ?_ _
  have hb7 : Below V.heap.size V wv := by (repeat (first | exact Below.refl _ _ | refine Below.drew ?_ | refine Below.allocS ?_ _ | refine Below.step ?_ (by assumption) | refine Below.setCell ?_ (by simp <;> omega) _ | refine Below.drewN' ?_ _))
  go_wp2
  go_ret
  exact ⟨by first | rfl | (simp; done), Below.low hbV hb7 (by have := hbV.size; omega)⟩
end Go.Proofs.YtimbdnngeoccdaaGreatDoor
