/-
  May of ball and of its reference: the kinds that are allowed, as a list.
-/
import Derived.Test.YtcdohibphhbllaaN1
import Derived.Test.YtcdohibphhbllaaSec
import Derived.Test.YtcdohibphhbllaaCWords
namespace Go.Proofs.Ytcdohibphhbllaa
open Go.RowKit Go.Deep
set_option linter.unusedVariables false
def mayTo (x : Ms) (s : Bl) (t : Int) : Nat → List Int
  | 0 => []
  | k + 1 => if allowB x s t ((k + 1 : Nat) : Int) then mayTo x s t k ++ [((k + 1 : Nat) : Int)] else mayTo x s t k
theorem may_len (x : Ms) (s : Bl) (t : Int) : ∀ k, (mayTo x s t k).length ≤ k
  | 0 => Nat.le_refl _
  | k + 1 => by
    have := may_len x s t k
    unfold mayTo
    split
    · simp; omega
    · omega
theorem may_yes {x : Ms} {s : Bl} {t : Int} {k : Nat} (h1 : 1 ≤ k) (h : allowB x s t (k : Int) = true) : mayTo x s t k = mayTo x s t (k - 1) ++ [(k : Int)] := by
  obtain ⟨j, rfl⟩ : ∃ j, k = j + 1 := ⟨k - 1, by omega⟩
  rw [mayTo, if_pos h]; rfl
theorem may_no {x : Ms} {s : Bl} {t : Int} {k : Nat} (h1 : 1 ≤ k) (h : allowB x s t (k : Int) = false) : mayTo x s t k = mayTo x s t (k - 1) := by
  obtain ⟨j, rfl⟩ : ∃ j, k = j + 1 := ⟨k - 1, by omega⟩
  rw [mayTo, if_neg (by rw [h]; decide)]; rfl
theorem may_le (x : Ms) (s : Bl) (t : Int) : ∀ k, ∀ j ∈ mayTo x s t k, j ≤ (k : Int)
  | 0, j, h => by cases h
  | k + 1, j, h => by
    have ih := may_le x s t k
    unfold mayTo at h
    split at h
    · rcases List.mem_append.1 h with h | h
      · have := ih j h; omega
      · simp at h; omega
    · have := ih j h; omega
theorem may_any (x : Ms) (s : Bl) (t : Int) (k : Nat) (hk : 1 ≤ k) : ∀ n, k ≤ n → (mayTo x s t n).any (fun j => j == (k : Int)) = allowB x s t (k : Int)
  | 0, h => by omega
  | n + 1, h => by
    by_cases hkn : k = n + 1
    · subst hkn
      have hno : (mayTo x s t n).any (fun j => j == ((n + 1 : Nat) : Int)) = false := by
        rw [List.any_eq_false]
        intro j hj
        have := may_le x s t n j hj
        simp; omega
      unfold mayTo
      split
      · rename_i h1; rw [List.any_append, hno, h1]; simp
      · rename_i h1; rw [hno]; simpa using h1
    · have ih := may_any x s t k hk n (by omega)
      unfold mayTo
      split
      · rw [List.any_append, ih]; simp; omega
      · exact ih
/-- What a round of May needs to know of a kind. -/
structure MayK (x : Ms) (s : Bl) (t k : Int) (fa fd : Nat) : Prop where
  ix : ∀ W : World, (Instr.index 87 (.agg #[.nilFunc, .nilFunc, .func (.func 76) #[] #[], .func (.func 77) #[] #[], .func (.func 78) #[] #[], .func (.func 80) #[] #[], .func (.func 81) #[] #[], .func (.func 82) #[] #[], .func (.func 83) #[] #[], .func (.func 84) #[] #[], .func (.func 85) #[] #[], .func (.func 86) #[] #[], .func (.func 87) #[] #[], .func (.func 88) #[] #[]]) (.int .i64 k)).run Try.prog W = .ok (.agg #[.func (.func fa) #[] #[], .func (.func fd) #[] #[]]) W
  ca : ∀ (args : Array Value) (W : World), (callFunc fa args).run Try.prog W = .ok (.enter fa args) W
  al : ∀ W, Calls Try.prog fa #[msV x, blV s, .int .i64 t] W fun e w' => e = .returned (.bool (allowB x s t k)) ∧ Below W.heap.size W w'
theorem mayK (x : Ms) (hx : OkMast x) (s : Bl) (t : Int) (k : Nat) (h1 : 1 ≤ k) (h6 : k ≤ 6) : ∃ fa fd, MayK x s t (k : Int) fa fd := by
  have hk : k = 1 ∨ k = 2 ∨ k = 3 ∨ k = 4 ∨ k = 5 ∨ k = 6 := by omega
  rcases hk with rfl | rfl | rfl | rfl | rfl | rfl
  · exact ⟨76, 77, fun _ => by kernel_rfl, fun _ _ => by kernel_rfl, fun W => allow1_c x s t W⟩
  · exact ⟨78, 80, fun _ => by kernel_rfl, fun _ _ => by kernel_rfl, fun W => allow2_c x hx s t W⟩
  · exact ⟨81, 82, fun _ => by kernel_rfl, fun _ _ => by kernel_rfl, fun W => allow3_c x hx s t W⟩
  · exact ⟨83, 84, fun _ => by kernel_rfl, fun _ _ => by kernel_rfl, fun W => allow4_c x s t W⟩
  · exact ⟨85, 86, fun _ => by kernel_rfl, fun _ _ => by kernel_rfl, fun W => allow5_c x s t W⟩
  · exact ⟨87, 88, fun _ => by kernel_rfl, fun _ _ => by kernel_rfl, fun W => allow6_c x s t W⟩
theorem fine_k (t : Int) (k : Nat) {q : Int} (htb : q ≤ t ∧ t ≤ 86399999) (hq : 0 ≤ q ∧ q ≤ 86399999) (a : 1 ≤ k) (b : k ≤ 6) : fineB ⟨t, (k : Int), 0⟩ = true := by
  have h1 : within t 0 86399999 = true := by simp [within]; omega
  have h2 : within (k : Int) 1 6 = true := by simp [within]; omega
  show (within t 0 86399999 && (within (k : Int) 1 6 && (within 0 0 1000 && (decide ((k : Int) = 1) || decide ((0 : Int) = 0))))) = true
  rw [h1, h2]; simp [within]
theorem own_keep {W W' : World} {base : Nat} {e : TypeId} {size n : Nat} {v : Value} {xs : List Value} (h : W.ownsRow base e size v n xs) (hb : Below W.heap.size W W') : W'.ownsRow base e size v n xs := by
  refine ⟨h.1, ?_⟩
  rcases h.2 with h1 | ⟨g, cap, cur, hv, h1, h2, h3⟩
  · exact .inl h1
  · exact .inr ⟨g, cap, cur, hv, h1, (hb.block g (Array.getElem?_eq_some_iff.1 h2).1).trans h2, h3⟩
theorem inI2 : (Try.prog.info? 3).map (fun i => (i.zero, i.size, i.bytes)) = some (some (.int .i64 0), 1, 8) := by kernel_rfl
def MadeI (w : World) (L : List Int) (e : Ending) (w' : World) : Prop := ∃ v, e = .returned (.tuple #[v, .int .i64 0]) ∧ w'.ownsRow w.heap.size 3 1 v L.length (L.flatMap inE) ∧ Below w.heap.size w w'
def mayE (x : Ms) (s : Bl) (t : Int) : Int := if okMast x && okBall s then (if within t s.at' 86399999 then 0 else 7) else 1

set_option maxHeartbeats 1000000 in
theorem May_c_no (x : Ms) (s : Bl) (t : Int) (he : mayE x s t ≠ 0) (w : World) : Calls Try.prog 44 #[msV x, blV s, .int .i64 t] w fun e w' => e = .returned (.tuple #[.slice none 0 0, .int .i64 (mayE x s t)]) ∧ Below w.heap.size w w' := by
  have HV := Lib.hid (fun W => validMast_c x W)
  have HB := Lib.hid (fun W => validBall_c s W)
  unfold mayE at *
  cases h1 : okMast x
  · rw [h1] at HV
    clear he h1
    unfold msV blV at *
    go_enter Try.func44, Try.ntmps44
    go_wp2_with fail
    refine (HV.out _).mono ?_
    rintro e w1 ⟨rfl, hb1⟩
    have x1_0_0 : w1.cell? ⟨w.heap.size, 0, none⟩ = some (.int .i64 x.noon) := keep_cell hb1 (by simp [go_sem, *])
    have x1_0_1 : w1.cell? ⟨w.heap.size, 1, none⟩ = some (.int .i64 x.half) := keep_cell hb1 (by simp [go_sem, *])
    have x1_0_2 : w1.cell? ⟨w.heap.size, 2, none⟩ = some (.int .i64 x.full) := keep_cell hb1 (by simp [go_sem, *])
    have x1_0_3 : w1.cell? ⟨w.heap.size, 3, none⟩ = some (.int .i64 x.late) := keep_cell hb1 (by simp [go_sem, *])
    have x1_0_4 : w1.cell? ⟨w.heap.size, 4, none⟩ = some (.int .i64 x.again) := keep_cell hb1 (by simp [go_sem, *])
    have x1_0_5 : w1.cell? ⟨w.heap.size, 5, none⟩ = some (.int .i64 x.wind) := keep_cell hb1 (by simp [go_sem, *])
    have y1_0 : w.heap.size < w1.heap.size := cell?_lt x1_0_0
    have x1_1_0 : w1.cell? ⟨w.heap.size + 1, 0, none⟩ = some (.int .i64 s.place) := keep_cell hb1 (by simp [go_sem, *])
    have x1_1_1 : w1.cell? ⟨w.heap.size + 1, 1, none⟩ = some (.int .i64 s.wind) := keep_cell hb1 (by simp [go_sem, *])
    have x1_1_2 : w1.cell? ⟨w.heap.size + 1, 2, none⟩ = some (.bool s.flag) := keep_cell hb1 (by simp [go_sem, *])
    have x1_1_3 : w1.cell? ⟨w.heap.size + 1, 3, none⟩ = some (.int .i64 s.at') := keep_cell hb1 (by simp [go_sem, *])
    have y1_1 : w.heap.size + 1 < w1.heap.size := cell?_lt x1_1_0
    have g1 : Below w.heap.size w w1 := by (repeat (first | exact Below.refl _ _ | refine Below.drew ?_ | refine Below.allocS ?_ _ | refine Below.step ?_ (by assumption) | refine Below.setCell ?_ (by simp <;> omega) _ | refine Below.drewN' ?_ _))
    clear hb1
    go_wp2
    go_ret2
    exact ⟨rfl, by (repeat (first | (with_reducible exact Below.refl _ _) | (with_reducible assumption) | (with_reducible refine Below.drew ?_) | (with_reducible refine Below.allocS ?_ _) | (with_reducible refine Below.setCell ?_ ?_ _) | (with_reducible refine Below.step ?_ (by assumption)) | (with_reducible refine Below.drewN' ?_ _))); (try any_goals (first | (with_reducible assumption) | (simp; done) | (simp; omega) | omega))⟩
  cases h2 : okBall s
  · rw [h1] at HV
    rw [h2] at HB
    clear he h1 h2
    unfold msV blV at *
    go_enter Try.func44, Try.ntmps44
    go_wp2_with fail
    refine (HV.out _).mono ?_
    rintro e w1 ⟨rfl, hb1⟩
    have x1_0_0 : w1.cell? ⟨w.heap.size, 0, none⟩ = some (.int .i64 x.noon) := keep_cell hb1 (by simp [go_sem, *])
    have x1_0_1 : w1.cell? ⟨w.heap.size, 1, none⟩ = some (.int .i64 x.half) := keep_cell hb1 (by simp [go_sem, *])
    have x1_0_2 : w1.cell? ⟨w.heap.size, 2, none⟩ = some (.int .i64 x.full) := keep_cell hb1 (by simp [go_sem, *])
    have x1_0_3 : w1.cell? ⟨w.heap.size, 3, none⟩ = some (.int .i64 x.late) := keep_cell hb1 (by simp [go_sem, *])
    have x1_0_4 : w1.cell? ⟨w.heap.size, 4, none⟩ = some (.int .i64 x.again) := keep_cell hb1 (by simp [go_sem, *])
    have x1_0_5 : w1.cell? ⟨w.heap.size, 5, none⟩ = some (.int .i64 x.wind) := keep_cell hb1 (by simp [go_sem, *])
    have y1_0 : w.heap.size < w1.heap.size := cell?_lt x1_0_0
    have x1_1_0 : w1.cell? ⟨w.heap.size + 1, 0, none⟩ = some (.int .i64 s.place) := keep_cell hb1 (by simp [go_sem, *])
    have x1_1_1 : w1.cell? ⟨w.heap.size + 1, 1, none⟩ = some (.int .i64 s.wind) := keep_cell hb1 (by simp [go_sem, *])
    have x1_1_2 : w1.cell? ⟨w.heap.size + 1, 2, none⟩ = some (.bool s.flag) := keep_cell hb1 (by simp [go_sem, *])
    have x1_1_3 : w1.cell? ⟨w.heap.size + 1, 3, none⟩ = some (.int .i64 s.at') := keep_cell hb1 (by simp [go_sem, *])
    have y1_1 : w.heap.size + 1 < w1.heap.size := cell?_lt x1_1_0
    have g1 : Below w.heap.size w w1 := by (repeat (first | exact Below.refl _ _ | refine Below.drew ?_ | refine Below.allocS ?_ _ | refine Below.step ?_ (by assumption) | refine Below.setCell ?_ (by simp <;> omega) _ | refine Below.drewN' ?_ _))
    clear hb1
    go_wp2_with fail
    refine (HB.out _).mono ?_
    rintro e w2 ⟨rfl, hb2⟩
    have x2_0_0 : w2.cell? ⟨w.heap.size, 0, none⟩ = some (.int .i64 x.noon) := keep_cell hb2 (by simp [go_sem, *])
    have x2_0_1 : w2.cell? ⟨w.heap.size, 1, none⟩ = some (.int .i64 x.half) := keep_cell hb2 (by simp [go_sem, *])
    have x2_0_2 : w2.cell? ⟨w.heap.size, 2, none⟩ = some (.int .i64 x.full) := keep_cell hb2 (by simp [go_sem, *])
    have x2_0_3 : w2.cell? ⟨w.heap.size, 3, none⟩ = some (.int .i64 x.late) := keep_cell hb2 (by simp [go_sem, *])
    have x2_0_4 : w2.cell? ⟨w.heap.size, 4, none⟩ = some (.int .i64 x.again) := keep_cell hb2 (by simp [go_sem, *])
    have x2_0_5 : w2.cell? ⟨w.heap.size, 5, none⟩ = some (.int .i64 x.wind) := keep_cell hb2 (by simp [go_sem, *])
    have y2_0 : w.heap.size < w2.heap.size := cell?_lt x2_0_0
    have x2_1_0 : w2.cell? ⟨w.heap.size + 1, 0, none⟩ = some (.int .i64 s.place) := keep_cell hb2 (by simp [go_sem, *])
    have x2_1_1 : w2.cell? ⟨w.heap.size + 1, 1, none⟩ = some (.int .i64 s.wind) := keep_cell hb2 (by simp [go_sem, *])
    have x2_1_2 : w2.cell? ⟨w.heap.size + 1, 2, none⟩ = some (.bool s.flag) := keep_cell hb2 (by simp [go_sem, *])
    have x2_1_3 : w2.cell? ⟨w.heap.size + 1, 3, none⟩ = some (.int .i64 s.at') := keep_cell hb2 (by simp [go_sem, *])
    have y2_1 : w.heap.size + 1 < w2.heap.size := cell?_lt x2_1_0
    have g2 : Below w.heap.size w w2 := by (repeat (first | exact Below.refl _ _ | refine Below.drew ?_ | refine Below.allocS ?_ _ | refine Below.step ?_ (by assumption) | refine Below.setCell ?_ (by simp <;> omega) _ | refine Below.drewN' ?_ _))
    clear hb2 g1 x1_0_0 x1_0_1 x1_0_2 x1_0_3 x1_0_4 x1_0_5 x1_1_0 x1_1_1 x1_1_2 x1_1_3 y1_0 y1_1
    go_wp2
    go_ret2
    exact ⟨rfl, by (repeat (first | (with_reducible exact Below.refl _ _) | (with_reducible assumption) | (with_reducible refine Below.drew ?_) | (with_reducible refine Below.allocS ?_ _) | (with_reducible refine Below.setCell ?_ ?_ _) | (with_reducible refine Below.step ?_ (by assumption)) | (with_reducible refine Below.drewN' ?_ _))); (try any_goals (first | (with_reducible assumption) | (simp; done) | (simp; omega) | omega))⟩
  cases h3 : within t s.at' 86399999
  · rw [h1] at HV
    rw [h2] at HB
    clear he h1 h2
    unfold msV blV at *
    go_enter Try.func44, Try.ntmps44
    go_wp2_with fail
    refine (HV.out _).mono ?_
    rintro e w1 ⟨rfl, hb1⟩
    have x1_0_0 : w1.cell? ⟨w.heap.size, 0, none⟩ = some (.int .i64 x.noon) := keep_cell hb1 (by simp [go_sem, *])
    have x1_0_1 : w1.cell? ⟨w.heap.size, 1, none⟩ = some (.int .i64 x.half) := keep_cell hb1 (by simp [go_sem, *])
    have x1_0_2 : w1.cell? ⟨w.heap.size, 2, none⟩ = some (.int .i64 x.full) := keep_cell hb1 (by simp [go_sem, *])
    have x1_0_3 : w1.cell? ⟨w.heap.size, 3, none⟩ = some (.int .i64 x.late) := keep_cell hb1 (by simp [go_sem, *])
    have x1_0_4 : w1.cell? ⟨w.heap.size, 4, none⟩ = some (.int .i64 x.again) := keep_cell hb1 (by simp [go_sem, *])
    have x1_0_5 : w1.cell? ⟨w.heap.size, 5, none⟩ = some (.int .i64 x.wind) := keep_cell hb1 (by simp [go_sem, *])
    have y1_0 : w.heap.size < w1.heap.size := cell?_lt x1_0_0
    have x1_1_0 : w1.cell? ⟨w.heap.size + 1, 0, none⟩ = some (.int .i64 s.place) := keep_cell hb1 (by simp [go_sem, *])
    have x1_1_1 : w1.cell? ⟨w.heap.size + 1, 1, none⟩ = some (.int .i64 s.wind) := keep_cell hb1 (by simp [go_sem, *])
    have x1_1_2 : w1.cell? ⟨w.heap.size + 1, 2, none⟩ = some (.bool s.flag) := keep_cell hb1 (by simp [go_sem, *])
    have x1_1_3 : w1.cell? ⟨w.heap.size + 1, 3, none⟩ = some (.int .i64 s.at') := keep_cell hb1 (by simp [go_sem, *])
    have y1_1 : w.heap.size + 1 < w1.heap.size := cell?_lt x1_1_0
    have g1 : Below w.heap.size w w1 := by (repeat (first | exact Below.refl _ _ | refine Below.drew ?_ | refine Below.allocS ?_ _ | refine Below.step ?_ (by assumption) | refine Below.setCell ?_ (by simp <;> omega) _ | refine Below.drewN' ?_ _))
    clear hb1
    go_wp2_with fail
    refine (HB.out _).mono ?_
    rintro e w2 ⟨rfl, hb2⟩
    have x2_0_0 : w2.cell? ⟨w.heap.size, 0, none⟩ = some (.int .i64 x.noon) := keep_cell hb2 (by simp [go_sem, *])
    have x2_0_1 : w2.cell? ⟨w.heap.size, 1, none⟩ = some (.int .i64 x.half) := keep_cell hb2 (by simp [go_sem, *])
    have x2_0_2 : w2.cell? ⟨w.heap.size, 2, none⟩ = some (.int .i64 x.full) := keep_cell hb2 (by simp [go_sem, *])
    have x2_0_3 : w2.cell? ⟨w.heap.size, 3, none⟩ = some (.int .i64 x.late) := keep_cell hb2 (by simp [go_sem, *])
    have x2_0_4 : w2.cell? ⟨w.heap.size, 4, none⟩ = some (.int .i64 x.again) := keep_cell hb2 (by simp [go_sem, *])
    have x2_0_5 : w2.cell? ⟨w.heap.size, 5, none⟩ = some (.int .i64 x.wind) := keep_cell hb2 (by simp [go_sem, *])
    have y2_0 : w.heap.size < w2.heap.size := cell?_lt x2_0_0
    have x2_1_0 : w2.cell? ⟨w.heap.size + 1, 0, none⟩ = some (.int .i64 s.place) := keep_cell hb2 (by simp [go_sem, *])
    have x2_1_1 : w2.cell? ⟨w.heap.size + 1, 1, none⟩ = some (.int .i64 s.wind) := keep_cell hb2 (by simp [go_sem, *])
    have x2_1_2 : w2.cell? ⟨w.heap.size + 1, 2, none⟩ = some (.bool s.flag) := keep_cell hb2 (by simp [go_sem, *])
    have x2_1_3 : w2.cell? ⟨w.heap.size + 1, 3, none⟩ = some (.int .i64 s.at') := keep_cell hb2 (by simp [go_sem, *])
    have y2_1 : w.heap.size + 1 < w2.heap.size := cell?_lt x2_1_0
    have g2 : Below w.heap.size w w2 := by (repeat (first | exact Below.refl _ _ | refine Below.drew ?_ | refine Below.allocS ?_ _ | refine Below.step ?_ (by assumption) | refine Below.setCell ?_ (by simp <;> omega) _ | refine Below.drewN' ?_ _))
    clear hb2 g1 x1_0_0 x1_0_1 x1_0_2 x1_0_3 x1_0_4 x1_0_5 x1_1_0 x1_1_1 x1_1_2 x1_1_3 y1_0 y1_1
    go_wp2_with (go_at_call 61; (with_reducible refine (within_c _ _ _ _).mono ?_); rintro e w' ⟨rfl, rfl⟩)
    go_ret2
    exact ⟨rfl, by (repeat (first | (with_reducible exact Below.refl _ _) | (with_reducible assumption) | (with_reducible refine Below.drew ?_) | (with_reducible refine Below.allocS ?_ _) | (with_reducible refine Below.setCell ?_ ?_ _) | (with_reducible refine Below.step ?_ (by assumption)) | (with_reducible refine Below.drewN' ?_ _))); (try any_goals (first | (with_reducible assumption) | (simp; done) | (simp; omega) | omega))⟩
  · rw [h1, h2, h3] at he; exact absurd rfl he

set_option maxHeartbeats 1000000 in
theorem rMay_c_no (x : Ms) (s : Bl) (t : Int) (he : mayE x s t ≠ 0) (w : World) : Calls Try.prog 45 #[msV x, blV s, .int .i64 t] w fun e w' => e = .returned (.tuple #[.slice none 0 0, .int .i64 (mayE x s t)]) ∧ Below w.heap.size w w' := by
  have HV := Lib.hid (fun W => rvalidMast_c x W)
  have HB := Lib.hid (fun W => valid_c s W)
  unfold mayE at *
  cases h1 : okMast x
  · rw [h1] at HV
    clear he h1
    unfold msV blV at *
    go_enter Try.func45, Try.ntmps45
    go_wp2_with fail
    refine (HV.out _).mono ?_
    rintro e w1 ⟨rfl, hb1⟩
    have x1_0_0 : w1.cell? ⟨w.heap.size, 0, none⟩ = some (.int .i64 x.noon) := keep_cell hb1 (by simp [go_sem, *])
    have x1_0_1 : w1.cell? ⟨w.heap.size, 1, none⟩ = some (.int .i64 x.half) := keep_cell hb1 (by simp [go_sem, *])
    have x1_0_2 : w1.cell? ⟨w.heap.size, 2, none⟩ = some (.int .i64 x.full) := keep_cell hb1 (by simp [go_sem, *])
    have x1_0_3 : w1.cell? ⟨w.heap.size, 3, none⟩ = some (.int .i64 x.late) := keep_cell hb1 (by simp [go_sem, *])
    have x1_0_4 : w1.cell? ⟨w.heap.size, 4, none⟩ = some (.int .i64 x.again) := keep_cell hb1 (by simp [go_sem, *])
    have x1_0_5 : w1.cell? ⟨w.heap.size, 5, none⟩ = some (.int .i64 x.wind) := keep_cell hb1 (by simp [go_sem, *])
    have y1_0 : w.heap.size < w1.heap.size := cell?_lt x1_0_0
    have x1_1_0 : w1.cell? ⟨w.heap.size + 1, 0, none⟩ = some (.int .i64 s.place) := keep_cell hb1 (by simp [go_sem, *])
    have x1_1_1 : w1.cell? ⟨w.heap.size + 1, 1, none⟩ = some (.int .i64 s.wind) := keep_cell hb1 (by simp [go_sem, *])
    have x1_1_2 : w1.cell? ⟨w.heap.size + 1, 2, none⟩ = some (.bool s.flag) := keep_cell hb1 (by simp [go_sem, *])
    have x1_1_3 : w1.cell? ⟨w.heap.size + 1, 3, none⟩ = some (.int .i64 s.at') := keep_cell hb1 (by simp [go_sem, *])
    have y1_1 : w.heap.size + 1 < w1.heap.size := cell?_lt x1_1_0
    have g1 : Below w.heap.size w w1 := by (repeat (first | exact Below.refl _ _ | refine Below.drew ?_ | refine Below.allocS ?_ _ | refine Below.step ?_ (by assumption) | refine Below.setCell ?_ (by simp <;> omega) _ | refine Below.drewN' ?_ _))
    clear hb1
    go_wp2
    go_ret2
    exact ⟨rfl, by (repeat (first | (with_reducible exact Below.refl _ _) | (with_reducible assumption) | (with_reducible refine Below.drew ?_) | (with_reducible refine Below.allocS ?_ _) | (with_reducible refine Below.setCell ?_ ?_ _) | (with_reducible refine Below.step ?_ (by assumption)) | (with_reducible refine Below.drewN' ?_ _))); (try any_goals (first | (with_reducible assumption) | (simp; done) | (simp; omega) | omega))⟩
  cases h2 : okBall s
  · rw [h1] at HV
    rw [h2] at HB
    clear he h1 h2
    unfold msV blV at *
    go_enter Try.func45, Try.ntmps45
    go_wp2_with fail
    refine (HV.out _).mono ?_
    rintro e w1 ⟨rfl, hb1⟩
    have x1_0_0 : w1.cell? ⟨w.heap.size, 0, none⟩ = some (.int .i64 x.noon) := keep_cell hb1 (by simp [go_sem, *])
    have x1_0_1 : w1.cell? ⟨w.heap.size, 1, none⟩ = some (.int .i64 x.half) := keep_cell hb1 (by simp [go_sem, *])
    have x1_0_2 : w1.cell? ⟨w.heap.size, 2, none⟩ = some (.int .i64 x.full) := keep_cell hb1 (by simp [go_sem, *])
    have x1_0_3 : w1.cell? ⟨w.heap.size, 3, none⟩ = some (.int .i64 x.late) := keep_cell hb1 (by simp [go_sem, *])
    have x1_0_4 : w1.cell? ⟨w.heap.size, 4, none⟩ = some (.int .i64 x.again) := keep_cell hb1 (by simp [go_sem, *])
    have x1_0_5 : w1.cell? ⟨w.heap.size, 5, none⟩ = some (.int .i64 x.wind) := keep_cell hb1 (by simp [go_sem, *])
    have y1_0 : w.heap.size < w1.heap.size := cell?_lt x1_0_0
    have x1_1_0 : w1.cell? ⟨w.heap.size + 1, 0, none⟩ = some (.int .i64 s.place) := keep_cell hb1 (by simp [go_sem, *])
    have x1_1_1 : w1.cell? ⟨w.heap.size + 1, 1, none⟩ = some (.int .i64 s.wind) := keep_cell hb1 (by simp [go_sem, *])
    have x1_1_2 : w1.cell? ⟨w.heap.size + 1, 2, none⟩ = some (.bool s.flag) := keep_cell hb1 (by simp [go_sem, *])
    have x1_1_3 : w1.cell? ⟨w.heap.size + 1, 3, none⟩ = some (.int .i64 s.at') := keep_cell hb1 (by simp [go_sem, *])
    have y1_1 : w.heap.size + 1 < w1.heap.size := cell?_lt x1_1_0
    have g1 : Below w.heap.size w w1 := by (repeat (first | exact Below.refl _ _ | refine Below.drew ?_ | refine Below.allocS ?_ _ | refine Below.step ?_ (by assumption) | refine Below.setCell ?_ (by simp <;> omega) _ | refine Below.drewN' ?_ _))
    clear hb1
    go_wp2_with fail
    refine (HB.out _).mono ?_
    rintro e w2 ⟨rfl, hb2⟩
    have x2_0_0 : w2.cell? ⟨w.heap.size, 0, none⟩ = some (.int .i64 x.noon) := keep_cell hb2 (by simp [go_sem, *])
    have x2_0_1 : w2.cell? ⟨w.heap.size, 1, none⟩ = some (.int .i64 x.half) := keep_cell hb2 (by simp [go_sem, *])
    have x2_0_2 : w2.cell? ⟨w.heap.size, 2, none⟩ = some (.int .i64 x.full) := keep_cell hb2 (by simp [go_sem, *])
    have x2_0_3 : w2.cell? ⟨w.heap.size, 3, none⟩ = some (.int .i64 x.late) := keep_cell hb2 (by simp [go_sem, *])
    have x2_0_4 : w2.cell? ⟨w.heap.size, 4, none⟩ = some (.int .i64 x.again) := keep_cell hb2 (by simp [go_sem, *])
    have x2_0_5 : w2.cell? ⟨w.heap.size, 5, none⟩ = some (.int .i64 x.wind) := keep_cell hb2 (by simp [go_sem, *])
    have y2_0 : w.heap.size < w2.heap.size := cell?_lt x2_0_0
    have x2_1_0 : w2.cell? ⟨w.heap.size + 1, 0, none⟩ = some (.int .i64 s.place) := keep_cell hb2 (by simp [go_sem, *])
    have x2_1_1 : w2.cell? ⟨w.heap.size + 1, 1, none⟩ = some (.int .i64 s.wind) := keep_cell hb2 (by simp [go_sem, *])
    have x2_1_2 : w2.cell? ⟨w.heap.size + 1, 2, none⟩ = some (.bool s.flag) := keep_cell hb2 (by simp [go_sem, *])
    have x2_1_3 : w2.cell? ⟨w.heap.size + 1, 3, none⟩ = some (.int .i64 s.at') := keep_cell hb2 (by simp [go_sem, *])
    have y2_1 : w.heap.size + 1 < w2.heap.size := cell?_lt x2_1_0
    have g2 : Below w.heap.size w w2 := by (repeat (first | exact Below.refl _ _ | refine Below.drew ?_ | refine Below.allocS ?_ _ | refine Below.step ?_ (by assumption) | refine Below.setCell ?_ (by simp <;> omega) _ | refine Below.drewN' ?_ _))
    clear hb2 g1 x1_0_0 x1_0_1 x1_0_2 x1_0_3 x1_0_4 x1_0_5 x1_1_0 x1_1_1 x1_1_2 x1_1_3 y1_0 y1_1
    go_wp2
    go_ret2
    exact ⟨rfl, by (repeat (first | (with_reducible exact Below.refl _ _) | (with_reducible assumption) | (with_reducible refine Below.drew ?_) | (with_reducible refine Below.allocS ?_ _) | (with_reducible refine Below.setCell ?_ ?_ _) | (with_reducible refine Below.step ?_ (by assumption)) | (with_reducible refine Below.drewN' ?_ _))); (try any_goals (first | (with_reducible assumption) | (simp; done) | (simp; omega) | omega))⟩
  cases h3 : within t s.at' 86399999
  · rw [h1] at HV
    rw [h2] at HB
    clear he h1 h2
    unfold msV blV at *
    go_enter Try.func45, Try.ntmps45
    go_wp2_with fail
    refine (HV.out _).mono ?_
    rintro e w1 ⟨rfl, hb1⟩
    have x1_0_0 : w1.cell? ⟨w.heap.size, 0, none⟩ = some (.int .i64 x.noon) := keep_cell hb1 (by simp [go_sem, *])
    have x1_0_1 : w1.cell? ⟨w.heap.size, 1, none⟩ = some (.int .i64 x.half) := keep_cell hb1 (by simp [go_sem, *])
    have x1_0_2 : w1.cell? ⟨w.heap.size, 2, none⟩ = some (.int .i64 x.full) := keep_cell hb1 (by simp [go_sem, *])
    have x1_0_3 : w1.cell? ⟨w.heap.size, 3, none⟩ = some (.int .i64 x.late) := keep_cell hb1 (by simp [go_sem, *])
    have x1_0_4 : w1.cell? ⟨w.heap.size, 4, none⟩ = some (.int .i64 x.again) := keep_cell hb1 (by simp [go_sem, *])
    have x1_0_5 : w1.cell? ⟨w.heap.size, 5, none⟩ = some (.int .i64 x.wind) := keep_cell hb1 (by simp [go_sem, *])
    have y1_0 : w.heap.size < w1.heap.size := cell?_lt x1_0_0
    have x1_1_0 : w1.cell? ⟨w.heap.size + 1, 0, none⟩ = some (.int .i64 s.place) := keep_cell hb1 (by simp [go_sem, *])
    have x1_1_1 : w1.cell? ⟨w.heap.size + 1, 1, none⟩ = some (.int .i64 s.wind) := keep_cell hb1 (by simp [go_sem, *])
    have x1_1_2 : w1.cell? ⟨w.heap.size + 1, 2, none⟩ = some (.bool s.flag) := keep_cell hb1 (by simp [go_sem, *])
    have x1_1_3 : w1.cell? ⟨w.heap.size + 1, 3, none⟩ = some (.int .i64 s.at') := keep_cell hb1 (by simp [go_sem, *])
    have y1_1 : w.heap.size + 1 < w1.heap.size := cell?_lt x1_1_0
    have g1 : Below w.heap.size w w1 := by (repeat (first | exact Below.refl _ _ | refine Below.drew ?_ | refine Below.allocS ?_ _ | refine Below.step ?_ (by assumption) | refine Below.setCell ?_ (by simp <;> omega) _ | refine Below.drewN' ?_ _))
    clear hb1
    go_wp2_with fail
    refine (HB.out _).mono ?_
    rintro e w2 ⟨rfl, hb2⟩
    have x2_0_0 : w2.cell? ⟨w.heap.size, 0, none⟩ = some (.int .i64 x.noon) := keep_cell hb2 (by simp [go_sem, *])
    have x2_0_1 : w2.cell? ⟨w.heap.size, 1, none⟩ = some (.int .i64 x.half) := keep_cell hb2 (by simp [go_sem, *])
    have x2_0_2 : w2.cell? ⟨w.heap.size, 2, none⟩ = some (.int .i64 x.full) := keep_cell hb2 (by simp [go_sem, *])
    have x2_0_3 : w2.cell? ⟨w.heap.size, 3, none⟩ = some (.int .i64 x.late) := keep_cell hb2 (by simp [go_sem, *])
    have x2_0_4 : w2.cell? ⟨w.heap.size, 4, none⟩ = some (.int .i64 x.again) := keep_cell hb2 (by simp [go_sem, *])
    have x2_0_5 : w2.cell? ⟨w.heap.size, 5, none⟩ = some (.int .i64 x.wind) := keep_cell hb2 (by simp [go_sem, *])
    have y2_0 : w.heap.size < w2.heap.size := cell?_lt x2_0_0
    have x2_1_0 : w2.cell? ⟨w.heap.size + 1, 0, none⟩ = some (.int .i64 s.place) := keep_cell hb2 (by simp [go_sem, *])
    have x2_1_1 : w2.cell? ⟨w.heap.size + 1, 1, none⟩ = some (.int .i64 s.wind) := keep_cell hb2 (by simp [go_sem, *])
    have x2_1_2 : w2.cell? ⟨w.heap.size + 1, 2, none⟩ = some (.bool s.flag) := keep_cell hb2 (by simp [go_sem, *])
    have x2_1_3 : w2.cell? ⟨w.heap.size + 1, 3, none⟩ = some (.int .i64 s.at') := keep_cell hb2 (by simp [go_sem, *])
    have y2_1 : w.heap.size + 1 < w2.heap.size := cell?_lt x2_1_0
    have g2 : Below w.heap.size w w2 := by (repeat (first | exact Below.refl _ _ | refine Below.drew ?_ | refine Below.allocS ?_ _ | refine Below.step ?_ (by assumption) | refine Below.setCell ?_ (by simp <;> omega) _ | refine Below.drewN' ?_ _))
    clear hb2 g1 x1_0_0 x1_0_1 x1_0_2 x1_0_3 x1_0_4 x1_0_5 x1_1_0 x1_1_1 x1_1_2 x1_1_3 y1_0 y1_1
    go_wp2_with (go_at_call 58; (with_reducible refine (rwithin_c _ _ _ _).mono ?_); rintro e w' ⟨rfl, rfl⟩)
    go_ret2
    exact ⟨rfl, by (repeat (first | (with_reducible exact Below.refl _ _) | (with_reducible assumption) | (with_reducible refine Below.drew ?_) | (with_reducible refine Below.allocS ?_ _) | (with_reducible refine Below.setCell ?_ ?_ _) | (with_reducible refine Below.step ?_ (by assumption)) | (with_reducible refine Below.drewN' ?_ _))); (try any_goals (first | (with_reducible assumption) | (simp; done) | (simp; omega) | omega))⟩
  · rw [h1, h2, h3] at he; exact absurd rfl he

set_option maxHeartbeats 4000000 in
set_option maxRecDepth 100000 in
theorem May_c_ok (x : Ms) (s : Bl) (t : Int) (h1 : okMast x = true) (h2 : okBall s = true) (h3 : within t s.at' 86399999 = true) (w : World) : Calls Try.prog 44 #[msV x, blV s, .int .i64 t] w (MadeI w (mayTo x s t 6)) := by
  obtain ⟨ii, hi, hz0, hz1, hz2⟩ := info_parts inI2
  have HV := Lib.hid (fun W => validMast_c x W)
  have HB := Lib.hid (fun W => validBall_c s W)
  have HX := Lib.hid (okMast_true h1)
  have hsb := (okBall_true h2).2.2
  have htb := within_true h3
  have HK := Lib.hid (fun k a b => mayK x HX.out s t k a b)
  rw [h1] at HV
  rw [h2] at HB
  clear h1 h2 htb hsb
  unfold msV blV at *
  go_enter Try.func44, Try.ntmps44
  go_wp2_with fail
  refine (HV.out _).mono ?_
  rintro e w1 ⟨rfl, hb1⟩
  have x1_0_0 : w1.cell? ⟨w.heap.size, 0, none⟩ = some (.int .i64 x.noon) := keep_cell hb1 (by simp [go_sem, *])
  have x1_0_1 : w1.cell? ⟨w.heap.size, 1, none⟩ = some (.int .i64 x.half) := keep_cell hb1 (by simp [go_sem, *])
  have x1_0_2 : w1.cell? ⟨w.heap.size, 2, none⟩ = some (.int .i64 x.full) := keep_cell hb1 (by simp [go_sem, *])
  have x1_0_3 : w1.cell? ⟨w.heap.size, 3, none⟩ = some (.int .i64 x.late) := keep_cell hb1 (by simp [go_sem, *])
  have x1_0_4 : w1.cell? ⟨w.heap.size, 4, none⟩ = some (.int .i64 x.again) := keep_cell hb1 (by simp [go_sem, *])
  have x1_0_5 : w1.cell? ⟨w.heap.size, 5, none⟩ = some (.int .i64 x.wind) := keep_cell hb1 (by simp [go_sem, *])
  have y1_0 : w.heap.size < w1.heap.size := cell?_lt x1_0_0
  have x1_1_0 : w1.cell? ⟨w.heap.size + 1, 0, none⟩ = some (.int .i64 s.place) := keep_cell hb1 (by simp [go_sem, *])
  have x1_1_1 : w1.cell? ⟨w.heap.size + 1, 1, none⟩ = some (.int .i64 s.wind) := keep_cell hb1 (by simp [go_sem, *])
  have x1_1_2 : w1.cell? ⟨w.heap.size + 1, 2, none⟩ = some (.bool s.flag) := keep_cell hb1 (by simp [go_sem, *])
  have x1_1_3 : w1.cell? ⟨w.heap.size + 1, 3, none⟩ = some (.int .i64 s.at') := keep_cell hb1 (by simp [go_sem, *])
  have y1_1 : w.heap.size + 1 < w1.heap.size := cell?_lt x1_1_0
  have g1 : Below w.heap.size w w1 := by (repeat (first | exact Below.refl _ _ | refine Below.drew ?_ | refine Below.allocS ?_ _ | refine Below.step ?_ (by assumption) | refine Below.setCell ?_ (by simp <;> omega) _ | refine Below.drewN' ?_ _))
  clear hb1
  go_wp2_with fail
  refine (HB.out _).mono ?_
  rintro e w2 ⟨rfl, hb2⟩
  have x2_0_0 : w2.cell? ⟨w.heap.size, 0, none⟩ = some (.int .i64 x.noon) := keep_cell hb2 (by simp [go_sem, *])
  have x2_0_1 : w2.cell? ⟨w.heap.size, 1, none⟩ = some (.int .i64 x.half) := keep_cell hb2 (by simp [go_sem, *])
  have x2_0_2 : w2.cell? ⟨w.heap.size, 2, none⟩ = some (.int .i64 x.full) := keep_cell hb2 (by simp [go_sem, *])
  have x2_0_3 : w2.cell? ⟨w.heap.size, 3, none⟩ = some (.int .i64 x.late) := keep_cell hb2 (by simp [go_sem, *])
  have x2_0_4 : w2.cell? ⟨w.heap.size, 4, none⟩ = some (.int .i64 x.again) := keep_cell hb2 (by simp [go_sem, *])
  have x2_0_5 : w2.cell? ⟨w.heap.size, 5, none⟩ = some (.int .i64 x.wind) := keep_cell hb2 (by simp [go_sem, *])
  have y2_0 : w.heap.size < w2.heap.size := cell?_lt x2_0_0
  have x2_1_0 : w2.cell? ⟨w.heap.size + 1, 0, none⟩ = some (.int .i64 s.place) := keep_cell hb2 (by simp [go_sem, *])
  have x2_1_1 : w2.cell? ⟨w.heap.size + 1, 1, none⟩ = some (.int .i64 s.wind) := keep_cell hb2 (by simp [go_sem, *])
  have x2_1_2 : w2.cell? ⟨w.heap.size + 1, 2, none⟩ = some (.bool s.flag) := keep_cell hb2 (by simp [go_sem, *])
  have x2_1_3 : w2.cell? ⟨w.heap.size + 1, 3, none⟩ = some (.int .i64 s.at') := keep_cell hb2 (by simp [go_sem, *])
  have y2_1 : w.heap.size + 1 < w2.heap.size := cell?_lt x2_1_0
  have g2 : Below w.heap.size w w2 := by (repeat (first | exact Below.refl _ _ | refine Below.drew ?_ | refine Below.allocS ?_ _ | refine Below.step ?_ (by assumption) | refine Below.setCell ?_ (by simp <;> omega) _ | refine Below.drewN' ?_ _))
  clear hb2 g1 x1_0_0 x1_0_1 x1_0_2 x1_0_3 x1_0_4 x1_0_5 x1_1_0 x1_1_1 x1_1_2 x1_1_3 y1_0 y1_1
  go_wp2_with fail
  refine (within_c _ _ _ _).mono ?_
  rintro e w' ⟨rfl, rfl⟩
  go_wp2_with fail
  refine (rules_c _).mono ?_
  rintro e w3 ⟨rfl, hb3⟩
  have x3_0_0 : w3.cell? ⟨w.heap.size, 0, none⟩ = some (.int .i64 x.noon) := keep_cell hb3 (by simp [go_sem, *])
  have x3_0_1 : w3.cell? ⟨w.heap.size, 1, none⟩ = some (.int .i64 x.half) := keep_cell hb3 (by simp [go_sem, *])
  have x3_0_2 : w3.cell? ⟨w.heap.size, 2, none⟩ = some (.int .i64 x.full) := keep_cell hb3 (by simp [go_sem, *])
  have x3_0_3 : w3.cell? ⟨w.heap.size, 3, none⟩ = some (.int .i64 x.late) := keep_cell hb3 (by simp [go_sem, *])
  have x3_0_4 : w3.cell? ⟨w.heap.size, 4, none⟩ = some (.int .i64 x.again) := keep_cell hb3 (by simp [go_sem, *])
  have x3_0_5 : w3.cell? ⟨w.heap.size, 5, none⟩ = some (.int .i64 x.wind) := keep_cell hb3 (by simp [go_sem, *])
  have y3_0 : w.heap.size < w3.heap.size := cell?_lt x3_0_0
  have x3_1_0 : w3.cell? ⟨w.heap.size + 1, 0, none⟩ = some (.int .i64 s.place) := keep_cell hb3 (by simp [go_sem, *])
  have x3_1_1 : w3.cell? ⟨w.heap.size + 1, 1, none⟩ = some (.int .i64 s.wind) := keep_cell hb3 (by simp [go_sem, *])
  have x3_1_2 : w3.cell? ⟨w.heap.size + 1, 2, none⟩ = some (.bool s.flag) := keep_cell hb3 (by simp [go_sem, *])
  have x3_1_3 : w3.cell? ⟨w.heap.size + 1, 3, none⟩ = some (.int .i64 s.at') := keep_cell hb3 (by simp [go_sem, *])
  have y3_1 : w.heap.size + 1 < w3.heap.size := cell?_lt x3_1_0
  have g3 : Below w.heap.size w w3 := by (repeat (first | exact Below.refl _ _ | refine Below.drew ?_ | refine Below.allocS ?_ _ | refine Below.step ?_ (by assumption) | refine Below.setCell ?_ (by simp <;> omega) _ | refine Below.drewN' ?_ _))
  clear hb3 g2 x2_0_0 x2_0_1 x2_0_2 x2_0_3 x2_0_4 x2_0_5 x2_1_0 x2_1_1 x2_1_2 x2_1_3 y2_0 y2_1
  have hsz0 : w.heap.size + 2 ≤ w3.heap.size := by omega
  go_wp2
  go_loopw [8, 27] (fun u8 i wr => ∃ (k : Nat) (v8 : Value), v8 = u8 ∧ 0 ≤ k ∧ k ≤ 7 ∧ i = .int .i64 k ∧ wr.ownsRow (w.heap.size + 2) 3 1 v8 (mayTo x s t (k - 1)).length ((mayTo x s t (k - 1)).flatMap inE) ∧ (wr.cell? ⟨w.heap.size, 0, none⟩ = some (.int .i64 x.noon) ∧ wr.cell? ⟨w.heap.size, 1, none⟩ = some (.int .i64 x.half) ∧ wr.cell? ⟨w.heap.size, 2, none⟩ = some (.int .i64 x.full) ∧ wr.cell? ⟨w.heap.size, 3, none⟩ = some (.int .i64 x.late) ∧ wr.cell? ⟨w.heap.size, 4, none⟩ = some (.int .i64 x.again) ∧ wr.cell? ⟨w.heap.size, 5, none⟩ = some (.int .i64 x.wind) ∧ wr.cell? ⟨w.heap.size + 1, 0, none⟩ = some (.int .i64 s.place) ∧ wr.cell? ⟨w.heap.size + 1, 1, none⟩ = some (.int .i64 s.wind) ∧ wr.cell? ⟨w.heap.size + 1, 2, none⟩ = some (.bool s.flag) ∧ wr.cell? ⟨w.heap.size + 1, 3, none⟩ = some (.int .i64 s.at')) ∧ w.heap.size + 2 ≤ wr.heap.size ∧ Below w.heap.size w wr) (fun u8 i _ => 7 - (intOf i).toNat)
  case atStart => exact ⟨0, _, rfl, Nat.zero_le _, by omega, rfl, World.ownsRow_nil _ _ _ _, ⟨by simp [go_sem, *], by simp [go_sem, *], by simp [go_sem, *], by simp [go_sem, *], by simp [go_sem, *], by simp [go_sem, *], by simp [go_sem, *], by simp [go_sem, *], by simp [go_sem, *], by simp [go_sem, *]⟩, by first | assumption | (simp; omega), by (repeat (first | (with_reducible exact Below.refl _ _) | (with_reducible assumption) | (with_reducible refine Below.drew ?_) | (with_reducible refine Below.allocS ?_ _) | (with_reducible refine Below.setCell ?_ ?_ _) | (with_reducible refine Below.step ?_ (by assumption)) | (with_reducible refine Below.drewN' ?_ _))); (try any_goals (first | (with_reducible assumption) | (simp; done) | (simp; omega) | omega))⟩
  case round =>
    obtain ⟨k, v8, rfl, hk1, hk7, rfl, hown, ⟨m0, m1, m2, m3, m4, m5, q0, q1, q2, q3⟩, hsz, hbw⟩ := hrel
    have HO0 := Lib.hid hown
    clear hown hsz0 x3_0_0 g3
    have y0 := cell?_lt m0
    have y1 := cell?_lt q0
    have hml := may_len x s t (k - 1)
    by_cases hlt : k < 7
    · by_cases hz : k = 0
      · subst hz
        have hix : ∀ W : World, (Instr.index 87 (.agg #[.nilFunc, .nilFunc, .func (.func 76) #[] #[], .func (.func 77) #[] #[], .func (.func 78) #[] #[], .func (.func 80) #[] #[], .func (.func 81) #[] #[], .func (.func 82) #[] #[], .func (.func 83) #[] #[], .func (.func 84) #[] #[], .func (.func 85) #[] #[], .func (.func 86) #[] #[], .func (.func 87) #[] #[], .func (.func 88) #[] #[]]) (.int .i64 0)).run Try.prog W = .ok (.agg #[.nilFunc, .nilFunc]) W := fun _ => by kernel_rfl
        go_wp2
        go_roundw
        case rel => exact ⟨1, _, rfl, by omega, by omega, by go_num, HO0.out.alloc _, ⟨by simp [go_sem, *], by simp [go_sem, *], by simp [go_sem, *], by simp [go_sem, *], by simp [go_sem, *], by simp [go_sem, *], by simp [go_sem, *], by simp [go_sem, *], by simp [go_sem, *], by simp [go_sem, *]⟩, by simp; omega, by (repeat (first | (with_reducible exact Below.refl _ _) | (with_reducible assumption) | (with_reducible refine Below.drew ?_) | (with_reducible refine Below.allocS ?_ _) | (with_reducible refine Below.setCell ?_ ?_ _) | (with_reducible refine Below.step ?_ (by assumption)) | (with_reducible refine Below.drewN' ?_ _))); (try any_goals (first | (with_reducible assumption) | (simp; done) | (simp; omega) | omega))⟩
        case measure => simp [intOf]
      · have hk0 : 1 ≤ k := by omega
        obtain ⟨fa, fd, hK⟩ := HK.out k hk0 (by omega)
        have hix := hK.ix
        have hca := hK.ca
        have HA := Lib.hid hK.al
        clear hK
        unfold msV blV at HA
        have hgt : (0 : Int) < (k : Int) := by omega
        have hgt' : decide ((0 : Int) < (k : Int)) = true := by simpa using hgt
        cases ha : allowB x s t (k : Int)
        all_goals
          rw [ha] at HA
          have Ha := Lib.hid ha
          clear ha
          go_wp2_with fail
          refine (HA.out _).mono ?_
          rintro e w4 ⟨rfl, hb4⟩
          have HO := Lib.hid (own_keep (HO0.out.alloc (.cells #[.func (.func fa) #[] #[], .func (.func fd) #[] #[]] 86)) hb4)
          have hB4 : Below w.heap.size w w4 := Below.step (Below.allocS hbw (.cells #[.func (.func fa) #[] #[], .func (.func fd) #[] #[]] 86)) hb4
          have HBB := Lib.hid hB4
          have hsz4 : w.heap.size + 2 ≤ w4.heap.size := by have := hb4.size; simp at this; omega
          replace m0 : w4.cell? ⟨w.heap.size, 0, none⟩ = some (.int .i64 x.noon) := keep_cell hb4 (by simp [go_sem, *])
          replace m1 : w4.cell? ⟨w.heap.size, 1, none⟩ = some (.int .i64 x.half) := keep_cell hb4 (by simp [go_sem, *])
          replace m2 : w4.cell? ⟨w.heap.size, 2, none⟩ = some (.int .i64 x.full) := keep_cell hb4 (by simp [go_sem, *])
          replace m3 : w4.cell? ⟨w.heap.size, 3, none⟩ = some (.int .i64 x.late) := keep_cell hb4 (by simp [go_sem, *])
          replace m4 : w4.cell? ⟨w.heap.size, 4, none⟩ = some (.int .i64 x.again) := keep_cell hb4 (by simp [go_sem, *])
          replace m5 : w4.cell? ⟨w.heap.size, 5, none⟩ = some (.int .i64 x.wind) := keep_cell hb4 (by simp [go_sem, *])
          replace q0 : w4.cell? ⟨w.heap.size + 1, 0, none⟩ = some (.int .i64 s.place) := keep_cell hb4 (by simp [go_sem, *])
          replace q1 : w4.cell? ⟨w.heap.size + 1, 1, none⟩ = some (.int .i64 s.wind) := keep_cell hb4 (by simp [go_sem, *])
          replace q2 : w4.cell? ⟨w.heap.size + 1, 2, none⟩ = some (.bool s.flag) := keep_cell hb4 (by simp [go_sem, *])
          replace q3 : w4.cell? ⟨w.heap.size + 1, 3, none⟩ = some (.int .i64 s.at') := keep_cell hb4 (by simp [go_sem, *])
          clear hb4
          replace y0 := cell?_lt m0
          replace y1 := cell?_lt q0
        · go_wp2
          go_roundw
          case rel => exact ⟨k + 1, _, rfl, by omega, by omega, by go_num, by rw [show k + 1 - 1 = k by omega, may_no hk0 Ha.out]; exact HO.out, ⟨by simp [go_sem, *], by simp [go_sem, *], by simp [go_sem, *], by simp [go_sem, *], by simp [go_sem, *], by simp [go_sem, *], by simp [go_sem, *], by simp [go_sem, *], by simp [go_sem, *], by simp [go_sem, *]⟩, by first | assumption | (simp; omega), by (repeat (first | (with_reducible exact Below.refl _ _) | (with_reducible assumption) | (with_reducible refine Below.drew ?_) | (with_reducible refine Below.allocS ?_ _) | (with_reducible refine Below.setCell ?_ ?_ _) | (with_reducible refine Below.step ?_ (by assumption)) | (with_reducible refine Below.drewN' ?_ _))); (try any_goals (first | (with_reducible assumption) | (simp; done) | (simp; omega) | omega))⟩
          case measure => simp [intOf]; omega
        · go_wp2_with (at_builtin; refine wpList_append_own _ rfl (.tmp 41) (.tmp 43) 43 rfl (w.heap.size + 2) 3 ii (.int .i64 0) 1 8 (by kernel_rfl) hi hz0 hz1 hz2 rfl (by decide) v8 _ _ rfl (HO.out.alloc (.cells #[.int .i64 k] 3)) ⟨w4.heap.size, 0, none⟩ 1 1 [.int .i64 k] rfl rfl (new_cells _ _ _ _ (by simp)) (by simp [Value.oneCell']) (by unfold maxLen; omega) (by omega) (by first | (simp; done) | (simp; omega)) ?_; intro v5 w5 hown5 hgrow5 _; have n0 : w5.cell? ⟨w.heap.size, 0, none⟩ = some (.int .i64 x.noon) := keep_grown hgrow5 (fun kk hk => (by have := own_from HO.out kk hk; simp only; omega)) (by simp [go_sem, *]); have n1 : w5.cell? ⟨w.heap.size, 1, none⟩ = some (.int .i64 x.half) := keep_grown hgrow5 (fun kk hk => (by have := own_from HO.out kk hk; simp only; omega)) (by simp [go_sem, *]); have n2 : w5.cell? ⟨w.heap.size, 2, none⟩ = some (.int .i64 x.full) := keep_grown hgrow5 (fun kk hk => (by have := own_from HO.out kk hk; simp only; omega)) (by simp [go_sem, *]); have n3 : w5.cell? ⟨w.heap.size, 3, none⟩ = some (.int .i64 x.late) := keep_grown hgrow5 (fun kk hk => (by have := own_from HO.out kk hk; simp only; omega)) (by simp [go_sem, *]); have n4 : w5.cell? ⟨w.heap.size, 4, none⟩ = some (.int .i64 x.again) := keep_grown hgrow5 (fun kk hk => (by have := own_from HO.out kk hk; simp only; omega)) (by simp [go_sem, *]); have n5 : w5.cell? ⟨w.heap.size, 5, none⟩ = some (.int .i64 x.wind) := keep_grown hgrow5 (fun kk hk => (by have := own_from HO.out kk hk; simp only; omega)) (by simp [go_sem, *]); have n6 : w5.cell? ⟨w.heap.size + 1, 0, none⟩ = some (.int .i64 s.place) := keep_grown hgrow5 (fun kk hk => (by have := own_from HO.out kk hk; simp only; omega)) (by simp [go_sem, *]); have n7 : w5.cell? ⟨w.heap.size + 1, 1, none⟩ = some (.int .i64 s.wind) := keep_grown hgrow5 (fun kk hk => (by have := own_from HO.out kk hk; simp only; omega)) (by simp [go_sem, *]); have n8 : w5.cell? ⟨w.heap.size + 1, 2, none⟩ = some (.bool s.flag) := keep_grown hgrow5 (fun kk hk => (by have := own_from HO.out kk hk; simp only; omega)) (by simp [go_sem, *]); have n9 : w5.cell? ⟨w.heap.size + 1, 3, none⟩ = some (.int .i64 s.at') := keep_grown hgrow5 (fun kk hk => (by have := own_from HO.out kk hk; simp only; omega)) (by simp [go_sem, *]); have hB5 : Below w.heap.size w w5 := Below.grown (Below.allocS HBB.out _) hgrow5 (Below.allocS HBB.out _).size (fun kk hk => (by have := own_from HO.out kk hk; omega)); have HO5 := Lib.hid hown5; clear hown5 hgrow5)
          go_roundw
          case rel => exact ⟨k + 1, _, rfl, by omega, by omega, by go_num, by rw [show k + 1 - 1 = k by omega, may_yes hk0 Ha.out, List.length_append, ← flat_snoc]; exact HO5.out, ⟨by simp [go_sem, *], by simp [go_sem, *], by simp [go_sem, *], by simp [go_sem, *], by simp [go_sem, *], by simp [go_sem, *], by simp [go_sem, *], by simp [go_sem, *], by simp [go_sem, *], by simp [go_sem, *]⟩, (by have := hB5.size; have := cell?_lt n0; have := cell?_lt n6; simp only at *; omega), by (repeat (first | (with_reducible exact Below.refl _ _) | (with_reducible assumption) | (with_reducible refine Below.drew ?_) | (with_reducible refine Below.allocS ?_ _) | (with_reducible refine Below.setCell ?_ ?_ _) | (with_reducible refine Below.step ?_ (by assumption)) | (with_reducible refine Below.drewN' ?_ _))); (try any_goals (first | (with_reducible assumption) | (simp; done) | (simp; omega) | omega))⟩
          case measure => simp [intOf]; omega
    · obtain rfl : k = 7 := by omega
      go_wp2
      go_ret2
      exact ⟨_, rfl, own_base HO0.out (by omega), hbw⟩

set_option maxHeartbeats 4000000 in
set_option maxRecDepth 100000 in
theorem rMay_c_ok (x : Ms) (s : Bl) (t : Int) (h1 : okMast x = true) (h2 : okBall s = true) (h3 : within t s.at' 86399999 = true) (w : World) : Calls Try.prog 45 #[msV x, blV s, .int .i64 t] w (MadeI w (mayTo x s t 6)) := by
  obtain ⟨ii, hi, hz0, hz1, hz2⟩ := info_parts inI2
  have HV := Lib.hid (fun W => rvalidMast_c x W)
  have HB := Lib.hid (fun W => valid_c s W)
  have HX := Lib.hid (okMast_true h1)
  have hsb := (okBall_true h2).2.2
  have htb := within_true h3
  have HK := Lib.hid (fun (k : Nat) (a : 1 ≤ k) (b : k ≤ 6) W => allowed_c x HX.out s ⟨t, (k : Int), 0⟩ (fine_k t k htb hsb a b) W)
  rw [h1] at HV
  rw [h2] at HB
  clear h1 h2 htb hsb
  unfold msV blV at *
  go_enter Try.func45, Try.ntmps45
  go_wp2_with fail
  refine (HV.out _).mono ?_
  rintro e w1 ⟨rfl, hb1⟩
  have x1_0_0 : w1.cell? ⟨w.heap.size, 0, none⟩ = some (.int .i64 x.noon) := keep_cell hb1 (by simp [go_sem, *])
  have x1_0_1 : w1.cell? ⟨w.heap.size, 1, none⟩ = some (.int .i64 x.half) := keep_cell hb1 (by simp [go_sem, *])
  have x1_0_2 : w1.cell? ⟨w.heap.size, 2, none⟩ = some (.int .i64 x.full) := keep_cell hb1 (by simp [go_sem, *])
  have x1_0_3 : w1.cell? ⟨w.heap.size, 3, none⟩ = some (.int .i64 x.late) := keep_cell hb1 (by simp [go_sem, *])
  have x1_0_4 : w1.cell? ⟨w.heap.size, 4, none⟩ = some (.int .i64 x.again) := keep_cell hb1 (by simp [go_sem, *])
  have x1_0_5 : w1.cell? ⟨w.heap.size, 5, none⟩ = some (.int .i64 x.wind) := keep_cell hb1 (by simp [go_sem, *])
  have y1_0 : w.heap.size < w1.heap.size := cell?_lt x1_0_0
  have x1_1_0 : w1.cell? ⟨w.heap.size + 1, 0, none⟩ = some (.int .i64 s.place) := keep_cell hb1 (by simp [go_sem, *])
  have x1_1_1 : w1.cell? ⟨w.heap.size + 1, 1, none⟩ = some (.int .i64 s.wind) := keep_cell hb1 (by simp [go_sem, *])
  have x1_1_2 : w1.cell? ⟨w.heap.size + 1, 2, none⟩ = some (.bool s.flag) := keep_cell hb1 (by simp [go_sem, *])
  have x1_1_3 : w1.cell? ⟨w.heap.size + 1, 3, none⟩ = some (.int .i64 s.at') := keep_cell hb1 (by simp [go_sem, *])
  have y1_1 : w.heap.size + 1 < w1.heap.size := cell?_lt x1_1_0
  have g1 : Below w.heap.size w w1 := by (repeat (first | exact Below.refl _ _ | refine Below.drew ?_ | refine Below.allocS ?_ _ | refine Below.step ?_ (by assumption) | refine Below.setCell ?_ (by simp <;> omega) _ | refine Below.drewN' ?_ _))
  clear hb1
  go_wp2_with fail
  refine (HB.out _).mono ?_
  rintro e w2 ⟨rfl, hb2⟩
  have x2_0_0 : w2.cell? ⟨w.heap.size, 0, none⟩ = some (.int .i64 x.noon) := keep_cell hb2 (by simp [go_sem, *])
  have x2_0_1 : w2.cell? ⟨w.heap.size, 1, none⟩ = some (.int .i64 x.half) := keep_cell hb2 (by simp [go_sem, *])
  have x2_0_2 : w2.cell? ⟨w.heap.size, 2, none⟩ = some (.int .i64 x.full) := keep_cell hb2 (by simp [go_sem, *])
  have x2_0_3 : w2.cell? ⟨w.heap.size, 3, none⟩ = some (.int .i64 x.late) := keep_cell hb2 (by simp [go_sem, *])
  have x2_0_4 : w2.cell? ⟨w.heap.size, 4, none⟩ = some (.int .i64 x.again) := keep_cell hb2 (by simp [go_sem, *])
  have x2_0_5 : w2.cell? ⟨w.heap.size, 5, none⟩ = some (.int .i64 x.wind) := keep_cell hb2 (by simp [go_sem, *])
  have y2_0 : w.heap.size < w2.heap.size := cell?_lt x2_0_0
  have x2_1_0 : w2.cell? ⟨w.heap.size + 1, 0, none⟩ = some (.int .i64 s.place) := keep_cell hb2 (by simp [go_sem, *])
  have x2_1_1 : w2.cell? ⟨w.heap.size + 1, 1, none⟩ = some (.int .i64 s.wind) := keep_cell hb2 (by simp [go_sem, *])
  have x2_1_2 : w2.cell? ⟨w.heap.size + 1, 2, none⟩ = some (.bool s.flag) := keep_cell hb2 (by simp [go_sem, *])
  have x2_1_3 : w2.cell? ⟨w.heap.size + 1, 3, none⟩ = some (.int .i64 s.at') := keep_cell hb2 (by simp [go_sem, *])
  have y2_1 : w.heap.size + 1 < w2.heap.size := cell?_lt x2_1_0
  have g2 : Below w.heap.size w w2 := by (repeat (first | exact Below.refl _ _ | refine Below.drew ?_ | refine Below.allocS ?_ _ | refine Below.step ?_ (by assumption) | refine Below.setCell ?_ (by simp <;> omega) _ | refine Below.drewN' ?_ _))
  clear hb2 g1 x1_0_0 x1_0_1 x1_0_2 x1_0_3 x1_0_4 x1_0_5 x1_1_0 x1_1_1 x1_1_2 x1_1_3 y1_0 y1_1
  go_wp2_with fail
  refine (rwithin_c _ _ _ _).mono ?_
  rintro e w' ⟨rfl, rfl⟩
  have hsz0 : w.heap.size + 2 ≤ w2.heap.size := by omega
  go_wp2
  go_loopw [8, 9] (fun u8 i wr => ∃ (k : Nat) (v8 : Value), v8 = u8 ∧ 1 ≤ k ∧ k ≤ 7 ∧ i = .int .i64 k ∧ wr.ownsRow (w.heap.size + 2) 3 1 v8 (mayTo x s t (k - 1)).length ((mayTo x s t (k - 1)).flatMap inE) ∧ (wr.cell? ⟨w.heap.size, 0, none⟩ = some (.int .i64 x.noon) ∧ wr.cell? ⟨w.heap.size, 1, none⟩ = some (.int .i64 x.half) ∧ wr.cell? ⟨w.heap.size, 2, none⟩ = some (.int .i64 x.full) ∧ wr.cell? ⟨w.heap.size, 3, none⟩ = some (.int .i64 x.late) ∧ wr.cell? ⟨w.heap.size, 4, none⟩ = some (.int .i64 x.again) ∧ wr.cell? ⟨w.heap.size, 5, none⟩ = some (.int .i64 x.wind) ∧ wr.cell? ⟨w.heap.size + 1, 0, none⟩ = some (.int .i64 s.place) ∧ wr.cell? ⟨w.heap.size + 1, 1, none⟩ = some (.int .i64 s.wind) ∧ wr.cell? ⟨w.heap.size + 1, 2, none⟩ = some (.bool s.flag) ∧ wr.cell? ⟨w.heap.size + 1, 3, none⟩ = some (.int .i64 s.at')) ∧ w.heap.size + 2 ≤ wr.heap.size ∧ Below w.heap.size w wr) (fun u8 i _ => 7 - (intOf i).toNat)
  case atStart => exact ⟨1, _, rfl, by omega, by omega, rfl, World.ownsRow_nil _ _ _ _, ⟨by simp [go_sem, *], by simp [go_sem, *], by simp [go_sem, *], by simp [go_sem, *], by simp [go_sem, *], by simp [go_sem, *], by simp [go_sem, *], by simp [go_sem, *], by simp [go_sem, *], by simp [go_sem, *]⟩, by first | assumption | (simp; omega), by (repeat (first | (with_reducible exact Below.refl _ _) | (with_reducible assumption) | (with_reducible refine Below.drew ?_) | (with_reducible refine Below.allocS ?_ _) | (with_reducible refine Below.setCell ?_ ?_ _) | (with_reducible refine Below.step ?_ (by assumption)) | (with_reducible refine Below.drewN' ?_ _))); (try any_goals (first | (with_reducible assumption) | (simp; done) | (simp; omega) | omega))⟩
  case round =>
    obtain ⟨k, v8, rfl, hk1, hk7, rfl, hown, ⟨m0, m1, m2, m3, m4, m5, q0, q1, q2, q3⟩, hsz, hbw⟩ := hrel
    have HO0 := Lib.hid hown
    clear hown hsz0 x2_0_0 g2
    have y0 := cell?_lt m0
    have y1 := cell?_lt q0
    have hml := may_len x s t (k - 1)
    by_cases hlt : k < 7
    · have hk0 : 1 ≤ k := hk1
      have HA := Lib.hid (fun W => HK.out k hk0 (by omega) W)
      unfold evV at HA
      simp only at HA
      cases ha : allowB x s t (k : Int)
      all_goals
        rw [ha] at HA
        have Ha := Lib.hid ha
        clear ha
        go_wp2_with fail
        refine (HA.out _).mono ?_
        rintro e w4 ⟨rfl, hb4⟩
        have HO := Lib.hid (own_keep HO0.out hb4)
        have hB4 : Below w.heap.size w w4 := Below.step hbw hb4
        have HBB := Lib.hid hB4
        have hsz4 : w.heap.size + 2 ≤ w4.heap.size := by have := hb4.size; omega
        replace m0 : w4.cell? ⟨w.heap.size, 0, none⟩ = some (.int .i64 x.noon) := keep_cell hb4 (by simp [go_sem, *])
        replace m1 : w4.cell? ⟨w.heap.size, 1, none⟩ = some (.int .i64 x.half) := keep_cell hb4 (by simp [go_sem, *])
        replace m2 : w4.cell? ⟨w.heap.size, 2, none⟩ = some (.int .i64 x.full) := keep_cell hb4 (by simp [go_sem, *])
        replace m3 : w4.cell? ⟨w.heap.size, 3, none⟩ = some (.int .i64 x.late) := keep_cell hb4 (by simp [go_sem, *])
        replace m4 : w4.cell? ⟨w.heap.size, 4, none⟩ = some (.int .i64 x.again) := keep_cell hb4 (by simp [go_sem, *])
        replace m5 : w4.cell? ⟨w.heap.size, 5, none⟩ = some (.int .i64 x.wind) := keep_cell hb4 (by simp [go_sem, *])
        replace q0 : w4.cell? ⟨w.heap.size + 1, 0, none⟩ = some (.int .i64 s.place) := keep_cell hb4 (by simp [go_sem, *])
        replace q1 : w4.cell? ⟨w.heap.size + 1, 1, none⟩ = some (.int .i64 s.wind) := keep_cell hb4 (by simp [go_sem, *])
        replace q2 : w4.cell? ⟨w.heap.size + 1, 2, none⟩ = some (.bool s.flag) := keep_cell hb4 (by simp [go_sem, *])
        replace q3 : w4.cell? ⟨w.heap.size + 1, 3, none⟩ = some (.int .i64 s.at') := keep_cell hb4 (by simp [go_sem, *])
        clear hb4
        replace y0 := cell?_lt m0
        replace y1 := cell?_lt q0
      · go_wp2
        go_roundw
        case rel => exact ⟨k + 1, _, rfl, by omega, by omega, by go_num, by rw [show k + 1 - 1 = k by omega, may_no hk0 Ha.out]; exact HO.out, ⟨by simp [go_sem, *], by simp [go_sem, *], by simp [go_sem, *], by simp [go_sem, *], by simp [go_sem, *], by simp [go_sem, *], by simp [go_sem, *], by simp [go_sem, *], by simp [go_sem, *], by simp [go_sem, *]⟩, by first | assumption | (simp; omega), by (repeat (first | (with_reducible exact Below.refl _ _) | (with_reducible assumption) | (with_reducible refine Below.drew ?_) | (with_reducible refine Below.allocS ?_ _) | (with_reducible refine Below.setCell ?_ ?_ _) | (with_reducible refine Below.step ?_ (by assumption)) | (with_reducible refine Below.drewN' ?_ _))); (try any_goals (first | (with_reducible assumption) | (simp; done) | (simp; omega) | omega))⟩
        case measure => simp [intOf]; omega
      · go_wp2_with (at_builtin; refine wpList_append_own _ rfl (.tmp 33) (.tmp 35) 43 rfl (w.heap.size + 2) 3 ii (.int .i64 0) 1 8 (by kernel_rfl) hi hz0 hz1 hz2 rfl (by decide) v8 _ _ rfl (HO.out.alloc (.cells #[.int .i64 k] 3)) ⟨w4.heap.size, 0, none⟩ 1 1 [.int .i64 k] rfl rfl (new_cells _ _ _ _ (by simp)) (by simp [Value.oneCell']) (by unfold maxLen; omega) (by omega) (by first | (simp; done) | (simp; omega)) ?_; intro v5 w5 hown5 hgrow5 _; have n0 : w5.cell? ⟨w.heap.size, 0, none⟩ = some (.int .i64 x.noon) := keep_grown hgrow5 (fun kk hk => (by have := own_from HO.out kk hk; simp only; omega)) (by simp [go_sem, *]); have n1 : w5.cell? ⟨w.heap.size, 1, none⟩ = some (.int .i64 x.half) := keep_grown hgrow5 (fun kk hk => (by have := own_from HO.out kk hk; simp only; omega)) (by simp [go_sem, *]); have n2 : w5.cell? ⟨w.heap.size, 2, none⟩ = some (.int .i64 x.full) := keep_grown hgrow5 (fun kk hk => (by have := own_from HO.out kk hk; simp only; omega)) (by simp [go_sem, *]); have n3 : w5.cell? ⟨w.heap.size, 3, none⟩ = some (.int .i64 x.late) := keep_grown hgrow5 (fun kk hk => (by have := own_from HO.out kk hk; simp only; omega)) (by simp [go_sem, *]); have n4 : w5.cell? ⟨w.heap.size, 4, none⟩ = some (.int .i64 x.again) := keep_grown hgrow5 (fun kk hk => (by have := own_from HO.out kk hk; simp only; omega)) (by simp [go_sem, *]); have n5 : w5.cell? ⟨w.heap.size, 5, none⟩ = some (.int .i64 x.wind) := keep_grown hgrow5 (fun kk hk => (by have := own_from HO.out kk hk; simp only; omega)) (by simp [go_sem, *]); have n6 : w5.cell? ⟨w.heap.size + 1, 0, none⟩ = some (.int .i64 s.place) := keep_grown hgrow5 (fun kk hk => (by have := own_from HO.out kk hk; simp only; omega)) (by simp [go_sem, *]); have n7 : w5.cell? ⟨w.heap.size + 1, 1, none⟩ = some (.int .i64 s.wind) := keep_grown hgrow5 (fun kk hk => (by have := own_from HO.out kk hk; simp only; omega)) (by simp [go_sem, *]); have n8 : w5.cell? ⟨w.heap.size + 1, 2, none⟩ = some (.bool s.flag) := keep_grown hgrow5 (fun kk hk => (by have := own_from HO.out kk hk; simp only; omega)) (by simp [go_sem, *]); have n9 : w5.cell? ⟨w.heap.size + 1, 3, none⟩ = some (.int .i64 s.at') := keep_grown hgrow5 (fun kk hk => (by have := own_from HO.out kk hk; simp only; omega)) (by simp [go_sem, *]); have hB5 : Below w.heap.size w w5 := Below.grown (Below.allocS HBB.out _) hgrow5 (Below.allocS HBB.out _).size (fun kk hk => (by have := own_from HO.out kk hk; omega)); have HO5 := Lib.hid hown5; clear hown5 hgrow5)
        go_roundw
        case rel => exact ⟨k + 1, _, rfl, by omega, by omega, by go_num, by rw [show k + 1 - 1 = k by omega, may_yes hk0 Ha.out, List.length_append, ← flat_snoc]; exact HO5.out, ⟨by simp [go_sem, *], by simp [go_sem, *], by simp [go_sem, *], by simp [go_sem, *], by simp [go_sem, *], by simp [go_sem, *], by simp [go_sem, *], by simp [go_sem, *], by simp [go_sem, *], by simp [go_sem, *]⟩, (by have := hB5.size; have := cell?_lt n0; have := cell?_lt n6; simp only at *; omega), by (repeat (first | (with_reducible exact Below.refl _ _) | (with_reducible assumption) | (with_reducible refine Below.drew ?_) | (with_reducible refine Below.allocS ?_ _) | (with_reducible refine Below.setCell ?_ ?_ _) | (with_reducible refine Below.step ?_ (by assumption)) | (with_reducible refine Below.drewN' ?_ _))); (try any_goals (first | (with_reducible assumption) | (simp; done) | (simp; omega) | omega))⟩
        case measure => simp [intOf]; omega
    · obtain rfl : k = 7 := by omega
      go_wp2
      go_ret2
      exact ⟨_, rfl, own_base HO0.out (by omega), hbw⟩
end Go.Proofs.Ytcdohibphhbllaa
