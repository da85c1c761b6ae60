/-
  Rotas of night. No conditions.
-/
import Derived.Test.YtomgaiokmdcjmaaRo6
namespace Go.Proofs.Ytomgaiokmdcjmaa
open Go.RowKit Go.Deep Go.Shelf
attribute [local go_sem] Oper.semAt_some
set_option linter.unusedVariables false
set_option linter.unusedSimpArgs false
/-- The crew that is asked of. -/
def crw (xs : List Int) (o m : Int) : Crw := ⟨xs.map Int.toNat, o.toNat, m.toNat⟩
theorem crw_ok {xs : List Int} {o m : Int} (h : askB xs o m = true) : xs.length ≤ 12 ∧ (1 ≤ o ∧ o ≤ 8) ∧ (0 ≤ m ∧ m ≤ 12) ∧ ((crw xs o m).obs : Int) = o ∧ ((crw xs o m).most : Int) = m ∧ (crw xs o m).can.map Int.ofNat = xs ∧ (crw xs o m).can.length = xs.length ∧ ∀ x ∈ (crw xs o m).can, x < 256 := by
  unfold askB at h
  simp only [Bool.and_eq_true, decide_eq_true_eq] at h
  obtain ⟨h1, h2, h3, h4⟩ := h
  have h2 := within_true h2
  have h3 := within_true h3
  obtain ⟨p, hp, hp1, hp2⟩ := pow_bd h2
  have hall : ∀ x ∈ xs, 0 ≤ x ∧ x < 256 := fun x hx => by
    have := List.all_eq_true.1 h4 x hx
    unfold setB at this
    rw [hp] at this
    have := within_true this
    omega
  refine ⟨h1, h2, h3, by unfold crw; simp only; omega, by unfold crw; simp only; omega, ?_, by unfold crw; simp, ?_⟩
  · unfold crw
    simp only
    rw [List.map_map]
    refine (List.map_congr_left fun x hx => ?_).trans (List.map_id xs)
    have := hall x hx
    show Int.ofNat x.toNat = x
    simp only [Int.ofNat_eq_natCast]; omega
  · intro x hx
    unfold crw at hx
    obtain ⟨y, hy, rfl⟩ := List.mem_map.1 hx
    have := hall y hy
    omega
def rtV (xs : List Int) (o m : Int) : Int := if askB xs o m = true then (rN (crw xs o m) xs.length [] : Int) else 0
theorem MemoAt.drew1 {K : Crw} {W : World} {B c : Nat} (h : MemoAt K W B c) : MemoAt K W.drew B c := h.step (Below.drew (Below.refl _ _))
theorem begin_c (w : World) : Calls Try.prog 74 #[] w fun e w' => e = .returned (.agg #[.int .i64 0, .int .i64 8, .int .i64 0, .int .i64 0, .int .i64 0, .int .i64 0, .int .i64 0, .int .i64 0, .int .i64 0, .int .i64 0]) ∧ Below w.heap.size w w' := by
  go_enter Try.func74, Try.ntmps74
  go_wp2
  refine bodyPost_ret (v := .agg #[.int .i64 0, .int .i64 8, .int .i64 0, .int .i64 0, .int .i64 0, .int .i64 0, .int .i64 0, .int .i64 0, .int .i64 0, .int .i64 0]) (by simp [results, Try.results74, go_sem, *] <;> (repeat' apply And.intro) <;> rfl) rfl ⟨rfl, ?_⟩
  (repeat (first | (with_reducible exact Below.refl _ _) | (with_reducible assumption) | (with_reducible refine Below.drew ?_) | (with_reducible refine Below.allocS ?_ _) | (with_reducible refine Below.setCell ?_ ?_ _) | (with_reducible refine Below.step ?_ (by assumption)) | (with_reducible refine Below.drewN' ?_ _))); (try any_goals (first | (with_reducible assumption) | (simp; done) | (simp; omega) | omega))
/-- count, as the rota's beginning asks it. -/
theorem count_first (xs : List Int) (n : Nat) (hn : xs.length = n) (A : Option Addr) (cap : Nat) (o m : Int) (h : askB xs o m = true) (Bm : Nat) (w : World) (hme : MemoAt (crw xs o m) w Bm 0) (hA : RdL w w.heap.size inE 1 A xs) (hAk : ∀ b off, A = some ⟨b, off, none⟩ → 0 < n → b ≠ Bm) :
    Calls Try.prog 73 #[.agg #[.slice A n cap, .int .i64 o, .int .i64 m], .agg #[.int .i64 0, .int .i64 8, .int .i64 0, .int .i64 0, .int .i64 0, .int .i64 0, .int .i64 0, .int .i64 0, .int .i64 0, .int .i64 0], .map (some Bm)] w fun e w' => e = .returned (.int .i64 (rN (crw xs o m) n [] : Nat)) ∧ MemoAt (crw xs o m) w' Bm 10000000000 ∧ w.grownBy w' (some Bm) := by
  obtain ⟨h1, h2, h3, h4, h5, h6, h7, h8⟩ := crw_ok h
  have ho8 : (crw xs o m).obs ≤ 8 := by omega
  have := count_c (crw xs o m) n (h7.trans hn) (by omega) ho8 (by omega) h8 A cap n 0 8 (fun _ => 0) Bm 0 w (by omega) (by omega) (fun _ _ => Nat.le_refl _) hme (by have := ndN_le (r := n) (by omega); omega) (by rw [h6]; exact hA) hAk
  rw [h4, h5, Rel.cnt ho8 n (Rel.start _) (by simp [h7, hn])] at this
  refine this.mono ?_
  rintro e w' ⟨he, hM, hg⟩
  exact ⟨he, hM.mono (by have := ndN_le (r := n) (by omega); omega), hg⟩
set_option maxHeartbeats 4000000 in
set_option maxRecDepth 100000 in
theorem Rotas_c (xs : List Int) (n : Nat) (hn : xs.length = n) (hl : n ≤ 1000000) (A : Option Addr) (cap : Nat) (o m : Int) (w : World) (hr : RdL w w.heap.size inE 1 A xs) :
    Calls Try.prog 30 #[.slice A n cap, .int .i64 o, .int .i64 m] w fun e w' => e = .returned (.tuple #[.int .i64 (rtV xs o m), .int .i64 (askQ xs o m)]) ∧ Below w.heap.size w w' := by
  have HQ := Lib.hid (fun W (hb : Below w.heap.size w W) => casked_c xs n hn hl A cap o m W (hr.step hb))
  cases h : askB xs o m with
  | false =>
    have HV : Hid (rtV xs o m = 0) := Lib.hid (by unfold rtV; rw [h]; rfl)
    rw [askQ_no h] at HQ
    rw [HV.out, askQ_no h]
    clear hr hn
    go_enter Try.func30, Try.ntmps30
    go_wp2_with fail
    refine (HQ.out _ (by (repeat (first | (with_reducible exact Below.refl _ _) | (with_reducible assumption) | (with_reducible refine Below.drew ?_) | (with_reducible refine Below.allocS ?_ _) | (with_reducible refine Below.setCell ?_ ?_ _) | (with_reducible refine Below.step ?_ (by assumption)) | (with_reducible refine Below.drewN' ?_ _))); (try any_goals (first | (with_reducible assumption) | (simp; done) | (simp; omega) | omega)))).mono ?_
    rintro e w1 ⟨rfl, hb1⟩
    have x1_0_0 : w1.cell? ⟨w.heap.size, 0, none⟩ = some (.slice A n cap) := keep_cell hb1 (by simp [go_sem, *])
    have x1_0_1 : w1.cell? ⟨w.heap.size, 1, none⟩ = some (.int .i64 o) := keep_cell hb1 (by simp [go_sem, *])
    have x1_0_2 : w1.cell? ⟨w.heap.size, 2, none⟩ = some (.int .i64 m) := keep_cell hb1 (by simp [go_sem, *])
    have y1_0 : w.heap.size < w1.heap.size := cell?_lt x1_0_0
    have g1 : Below w.heap.size w w1 := by (repeat (first | exact Below.refl _ _ | refine Below.drew ?_ | refine Below.allocS ?_ _ | refine Below.step ?_ (by assumption) | refine Below.setCell ?_ (by simp <;> omega) _ | refine Below.drewN' ?_ _))
    clear hb1
    go_wp2
    go_ret2
    exact ⟨rfl, by (repeat (first | exact Below.refl _ _ | refine Below.drew ?_ | refine Below.allocS ?_ _ | refine Below.step ?_ (by assumption) | refine Below.setCell ?_ (by simp <;> omega) _ | refine Below.drewN' ?_ _))⟩
  | true =>
    have HV : Hid (rtV xs o m = (rN (crw xs o m) n [] : Int)) := Lib.hid (by unfold rtV; rw [h, hn]; rfl)
    have HC := Lib.hid (fun Bm W (hme : MemoAt (crw xs o m) W Bm 0) (hb : Below w.heap.size w W) (hbm : w.heap.size ≤ Bm) => count_first xs n hn A cap o m h Bm W hme (hr.step hb) (fun b off e h0 hbb => by
      obtain ⟨b', off', e', hlt, -⟩ := hr (by omega)
      rw [e] at e'; injection e' with e'; injection e' with e1 e2; omega))
    rw [askQ_yes h] at HQ
    rw [HV.out, askQ_yes h]
    clear hr hn
    go_enter Try.func30, Try.ntmps30
    go_wp2_with fail
    refine (HQ.out _ (by (repeat (first | (with_reducible exact Below.refl _ _) | (with_reducible assumption) | (with_reducible refine Below.drew ?_) | (with_reducible refine Below.allocS ?_ _) | (with_reducible refine Below.setCell ?_ ?_ _) | (with_reducible refine Below.step ?_ (by assumption)) | (with_reducible refine Below.drewN' ?_ _))); (try any_goals (first | (with_reducible assumption) | (simp; done) | (simp; omega) | omega)))).mono ?_
    rintro e w1 ⟨rfl, hb1⟩
    have x1_0_0 : w1.cell? ⟨w.heap.size, 0, none⟩ = some (.slice A n cap) := keep_cell hb1 (by simp [go_sem, *])
    have x1_0_1 : w1.cell? ⟨w.heap.size, 1, none⟩ = some (.int .i64 o) := keep_cell hb1 (by simp [go_sem, *])
    have x1_0_2 : w1.cell? ⟨w.heap.size, 2, none⟩ = some (.int .i64 m) := keep_cell hb1 (by simp [go_sem, *])
    have y1_0 : w.heap.size < w1.heap.size := cell?_lt x1_0_0
    have g1 : Below w.heap.size w w1 := by (repeat (first | exact Below.refl _ _ | refine Below.drew ?_ | refine Below.allocS ?_ _ | refine Below.step ?_ (by assumption) | refine Below.setCell ?_ (by simp <;> omega) _ | refine Below.drewN' ?_ _))
    clear hb1
    go_wp2_with fail
    have hmo : Try.prog.follows Departure.mixedOrders = true := by kernel_rfl
    have hmm := @run_makeMap Try.prog
    go_region_with (first | (refine (begin_c _).mono ?_; rintro e wb ⟨rfl, hbb⟩; have y0 : wb.cell? ⟨w.heap.size, 0, none⟩ = some (.slice A n cap) := keep_cell hbb (by simp [go_sem, *]); have y1 : wb.cell? ⟨w.heap.size, 1, none⟩ = some (.int .i64 o) := keep_cell hbb (by simp [go_sem, *]); have y2 : wb.cell? ⟨w.heap.size, 2, none⟩ = some (.int .i64 m) := keep_cell hbb (by simp [go_sem, *]); have y3 : w.heap.size < wb.heap.size := cell?_lt y0) | (refine (HC.out _ _ (by first | exact MemoAt.made _ _ | (have hq := MemoAt.step (MemoAt.drew1 (MemoAt.made (crw xs o m) _)) hbb; exact hq)) (by (repeat (first | (with_reducible exact Below.refl _ _) | (with_reducible assumption) | (with_reducible refine Below.drew ?_) | (with_reducible refine Below.allocS ?_ _) | (with_reducible refine Below.setCell ?_ ?_ _) | (with_reducible refine Below.step ?_ (by assumption)) | (with_reducible refine Below.drewN' ?_ _))); (try any_goals (first | (with_reducible assumption) | (simp; done) | (simp; omega) | omega))) (by first | omega | (simp; omega))).mono ?_; rintro e wc ⟨rfl, hmc, hgc⟩; have hwc : Below w.heap.size w wc := Below.grown (by (repeat (first | (with_reducible exact Below.refl _ _) | (with_reducible assumption) | (with_reducible refine Below.drew ?_) | (with_reducible refine Below.allocS ?_ _) | (with_reducible refine Below.setCell ?_ ?_ _) | (with_reducible refine Below.step ?_ (by assumption)) | (with_reducible refine Below.drewN' ?_ _))); (try any_goals (first | (with_reducible assumption) | (simp; done) | (simp; omega) | omega))) hgc (by first | omega | (simp; omega)) (fun k hk => by injection hk with hk; first | omega | (simp at hk; omega)); clear hmc hgc))
    all_goals go_wp2
    all_goals go_ret2
    all_goals exact ⟨rfl, by (repeat (first | (with_reducible exact Below.refl _ _) | (with_reducible assumption) | (with_reducible refine Below.drew ?_) | (with_reducible refine Below.allocS ?_ _) | (with_reducible refine Below.setCell ?_ ?_ _) | (with_reducible refine Below.step ?_ (by assumption)) | (with_reducible refine Below.drewN' ?_ _))); (try any_goals (first | (with_reducible assumption) | (simp; done) | (simp; omega) | omega))⟩
end Go.Proofs.Ytomgaiokmdcjmaa
