/-
  Excluded of the reference, all answers; the plain law of Where.
-/
import Derived.Test.YtgiplkfdallmkaaV9
namespace Go.Proofs.Ytgiplkfdallmkaa
open Go.RowKit
set_option linter.unusedVariables false
set_option linter.unusedSimpArgs false
theorem rExcluded_c (s v a b c d : Int) (l : List Shot) (A : Option Addr) (cap : Nat) (hl : l.length ≤ 9223372036854775807) (w : World) (hr : RdL w w.heap.size shE 4 A l) :
    Calls Try.prog 49 #[.agg #[.int .i64 s, .int .i64 v], .slice A l.length cap, .agg #[.int .i64 a, .int .i64 b], .agg #[.int .i64 c, .int .i64 d]] w fun e w' => e = .returned (.tuple #[.bool (exB s v l a b c d), .int .i64 (bxE s v l a b c d)]) ∧ Below w.heap.size w w' := by
  have HE := bxE_ref s v l a b c d
  have HX : exB s v l a b c d = (decide (bxE s v l a b c d = 0) && l.any (apart s v a b c d)) := rfl
  have HB := Lib.hid (fun W => rbox_c a b c d W)
  have HV := Lib.hid (fun W h => valid_c s v l A cap hl W h)
  cases h1 : validAir s v && okShots l
  · have HR := Lib.hid hr
    clear hr
    rw [h1] at HE HV
    replace HE : bxE s v l a b c d = 1 := HE
    rw [HX, HE]
    clear HE HX
    go_enter Try.func49, Try.ntmps49
    go_wp2_with fail
    refine (HV.out _ (HR.out.step (by (repeat (first | exact Below.refl _ _ | refine Below.drew ?_ | refine Below.allocS ?_ _ | refine Below.step ?_ (by assumption) | refine Below.setCell ?_ (by simp <;> omega) _ | refine Below.drewN' ?_ _))))).mono ?_
    rintro e w1 ⟨rfl, hb1⟩
    have x1_0_0 : w1.cell? ⟨w.heap.size, 0, none⟩ = some (.int .i64 s) := keep_cell hb1 (by simp [go_sem, *])
    have x1_0_1 : w1.cell? ⟨w.heap.size, 1, none⟩ = some (.int .i64 v) := keep_cell hb1 (by simp [go_sem, *])
    have y1_0 : w.heap.size < w1.heap.size := cell?_lt x1_0_0
    have x1_1_0 : w1.cell? ⟨w.heap.size + 1, 0, none⟩ = some (.int .i64 a) := keep_cell hb1 (by simp [go_sem, *])
    have x1_1_1 : w1.cell? ⟨w.heap.size + 1, 1, none⟩ = some (.int .i64 b) := keep_cell hb1 (by simp [go_sem, *])
    have y1_1 : w.heap.size + 1 < w1.heap.size := cell?_lt x1_1_0
    have x1_2_0 : w1.cell? ⟨w.heap.size + 1 + 1, 0, none⟩ = some (.int .i64 c) := keep_cell hb1 (by simp [go_sem, *])
    have x1_2_1 : w1.cell? ⟨w.heap.size + 1 + 1, 1, none⟩ = some (.int .i64 d) := keep_cell hb1 (by simp [go_sem, *])
    have y1_2 : w.heap.size + 1 + 1 < w1.heap.size := cell?_lt x1_2_0
    have g1 : Below w.heap.size w w1 := by (repeat (first | exact Below.refl _ _ | refine Below.drew ?_ | refine Below.allocS ?_ _ | refine Below.step ?_ (by assumption) | refine Below.setCell ?_ (by simp <;> omega) _ | refine Below.drewN' ?_ _))
    clear hb1
    go_wp2
    go_ret2
    exact ⟨rfl, by (repeat (first | exact Below.refl _ _ | refine Below.drew ?_ | refine Below.allocS ?_ _ | refine Below.step ?_ (by assumption) | refine Below.setCell ?_ (by simp <;> omega) _ | refine Below.drewN' ?_ _))⟩
  cases h2 : rboxB a b c d
  · have HR := Lib.hid hr
    clear hr
    rw [h1, h2] at HE
    rw [h1] at HV
    rw [h2] at HB
    replace HE : bxE s v l a b c d = 7 := HE
    rw [HX, HE]
    clear HE HX
    go_enter Try.func49, Try.ntmps49
    go_wp2_with fail
    refine (HV.out _ (HR.out.step (by (repeat (first | exact Below.refl _ _ | refine Below.drew ?_ | refine Below.allocS ?_ _ | refine Below.step ?_ (by assumption) | refine Below.setCell ?_ (by simp <;> omega) _ | refine Below.drewN' ?_ _))))).mono ?_
    rintro e w1 ⟨rfl, hb1⟩
    have x1_0_0 : w1.cell? ⟨w.heap.size, 0, none⟩ = some (.int .i64 s) := keep_cell hb1 (by simp [go_sem, *])
    have x1_0_1 : w1.cell? ⟨w.heap.size, 1, none⟩ = some (.int .i64 v) := keep_cell hb1 (by simp [go_sem, *])
    have y1_0 : w.heap.size < w1.heap.size := cell?_lt x1_0_0
    have x1_1_0 : w1.cell? ⟨w.heap.size + 1, 0, none⟩ = some (.int .i64 a) := keep_cell hb1 (by simp [go_sem, *])
    have x1_1_1 : w1.cell? ⟨w.heap.size + 1, 1, none⟩ = some (.int .i64 b) := keep_cell hb1 (by simp [go_sem, *])
    have y1_1 : w.heap.size + 1 < w1.heap.size := cell?_lt x1_1_0
    have x1_2_0 : w1.cell? ⟨w.heap.size + 1 + 1, 0, none⟩ = some (.int .i64 c) := keep_cell hb1 (by simp [go_sem, *])
    have x1_2_1 : w1.cell? ⟨w.heap.size + 1 + 1, 1, none⟩ = some (.int .i64 d) := keep_cell hb1 (by simp [go_sem, *])
    have y1_2 : w.heap.size + 1 + 1 < w1.heap.size := cell?_lt x1_2_0
    have g1 : Below w.heap.size w w1 := by (repeat (first | exact Below.refl _ _ | refine Below.drew ?_ | refine Below.allocS ?_ _ | refine Below.step ?_ (by assumption) | refine Below.setCell ?_ (by simp <;> omega) _ | refine Below.drewN' ?_ _))
    clear hb1
    go_wp2_with fail
    refine (HB.out _).mono ?_
    rintro e w2 ⟨rfl, hb2⟩
    have x2_0_0 : w2.cell? ⟨w.heap.size, 0, none⟩ = some (.int .i64 s) := keep_cell hb2 (by simp [go_sem, *])
    have x2_0_1 : w2.cell? ⟨w.heap.size, 1, none⟩ = some (.int .i64 v) := keep_cell hb2 (by simp [go_sem, *])
    have y2_0 : w.heap.size < w2.heap.size := cell?_lt x2_0_0
    have x2_1_0 : w2.cell? ⟨w.heap.size + 1, 0, none⟩ = some (.int .i64 a) := keep_cell hb2 (by simp [go_sem, *])
    have x2_1_1 : w2.cell? ⟨w.heap.size + 1, 1, none⟩ = some (.int .i64 b) := keep_cell hb2 (by simp [go_sem, *])
    have y2_1 : w.heap.size + 1 < w2.heap.size := cell?_lt x2_1_0
    have x2_2_0 : w2.cell? ⟨w.heap.size + 1 + 1, 0, none⟩ = some (.int .i64 c) := keep_cell hb2 (by simp [go_sem, *])
    have x2_2_1 : w2.cell? ⟨w.heap.size + 1 + 1, 1, none⟩ = some (.int .i64 d) := keep_cell hb2 (by simp [go_sem, *])
    have y2_2 : w.heap.size + 1 + 1 < w2.heap.size := cell?_lt x2_2_0
    have g2 : Below w.heap.size w w2 := by (repeat (first | exact Below.refl _ _ | refine Below.drew ?_ | refine Below.allocS ?_ _ | refine Below.step ?_ (by assumption) | refine Below.setCell ?_ (by simp <;> omega) _ | refine Below.drewN' ?_ _))
    clear hb2 g1 x1_0_0 x1_0_1 x1_1_0 x1_1_1 x1_2_0 x1_2_1 y1_0 y1_1 y1_2
    go_wp2
    go_ret2
    exact ⟨rfl, by (repeat (first | exact Below.refl _ _ | refine Below.drew ?_ | refine Below.allocS ?_ _ | refine Below.step ?_ (by assumption) | refine Below.setCell ?_ (by simp <;> omega) _ | refine Below.drewN' ?_ _))⟩
  rw [h1, h2] at HE
  replace HE : bxE s v l a b c d = 0 := HE
  rw [HX, HE]
  have ha : validAir s v = true := by cases h : validAir s v; (rw [h] at h1; cases h1); rfl
  have ho : okShots l = true := by rw [ha] at h1; simpa using h1
  exact rExcluded_ok s v a b c d l A cap ha ho h2 w hr
theorem rowPts_mem {a st y : Int} {p : Int × Int} : ∀ {k : Nat}, p ∈ rowPts a st y k → ∃ i : Nat, i < k ∧ p = (a + st * (i : Int), y)
  | 0, h => by simp [rowPts] at h
  | k + 1, h => by
    rw [rowPts_succ] at h
    rcases List.mem_append.1 h with h | h
    · obtain ⟨i, hi, rfl⟩ := rowPts_mem h; exact ⟨i, by omega, rfl⟩
    · exact ⟨k, by omega, by simpa using h⟩
theorem gridPts_mem {a b st : Int} {nx : Nat} {p : Int × Int} : ∀ {k : Nat}, p ∈ gridPts a b st nx k → ∃ i j : Nat, i < nx ∧ j < k ∧ p = (a + st * (i : Int), b + st * (j : Int))
  | 0, h => by simp [gridPts] at h
  | k + 1, h => by
    rw [gridPts_succ] at h
    rcases List.mem_append.1 h with h | h
    · obtain ⟨i, j, hi, hj, rfl⟩ := gridPts_mem h; exact ⟨i, j, hi, by omega, rfl⟩
    · obtain ⟨i, hi, rfl⟩ := rowPts_mem h; exact ⟨i, k, hi, by omega, rfl⟩
theorem grid_in {a b c d st : Int} (h1 : 1 ≤ st) (hx : a ≤ c) (hy : b ≤ d) {p : Int × Int} (h : p ∈ gridPts a b st (nX a c st) (nX b d st)) : (a ≤ p.1 ∧ p.1 ≤ c) ∧ b ≤ p.2 ∧ p.2 ≤ d := by
  obtain ⟨i, j, hi, hj, rfl⟩ := gridPts_mem h
  have e1 := (nX_iff h1 hx i).1 hi
  have e2 := (nX_iff h1 hy j).1 hj
  have e3 : 0 ≤ st * (i : Int) := Int.mul_nonneg (by omega) (by omega)
  have e4 : 0 ≤ st * (j : Int) := Int.mul_nonneg (by omega) (by omega)
  exact ⟨⟨by show a ≤ a + st * (i : Int); omega, e1⟩, by show b ≤ b + st * (j : Int); omega, e2⟩
/-- A place of Where's: the box has it, and it suits. -/
theorem whL_mem {s v a b c d st : Int} {l : List Shot} {p : Int × Int} (h : p ∈ whL s v l a b c d st) : okShots l = true ∧ validAir s v = true ∧ IsBox a b c d ∧ 1 ≤ st ∧ ((a ≤ p.1 ∧ p.1 ≤ c) ∧ b ≤ p.2 ∧ p.2 ≤ d) ∧ suitAll s v p.1 p.2 l = true := by
  unfold whL at h
  split at h
  · rename_i hw
    rw [whE_ref] at hw
    split at hw
    · rename_i hv
      split at hw
      · rename_i hb
        split at hw
        · rename_i hs
          have hbox := box_of_ref hb
          obtain ⟨s1, s2⟩ := within_true hs
          rw [Bool.and_eq_true] at hv
          unfold fitL at h
          rw [List.mem_filter] at h
          exact ⟨hv.2, hv.1, hbox, s1, grid_in s1 hbox.x hbox.y h.1, h.2⟩
        · cases hw
      · cases hw
    · cases hw
  · simp at h
theorem whL_suits {s v a b c d st : Int} {l : List Shot} {p : Int × Int} (h : p ∈ whL s v l a b c d st) : suE s v l p.1 p.2 = 0 ∧ suB s v l p.1 p.2 = true := by
  obtain ⟨h1, h2, h3, h4, ⟨⟨o1, o2⟩, o3, o4⟩, h6⟩ := whL_mem h
  have hp := h3.place o1 o2 o3 o4
  have e : suE s v l p.1 p.2 = 0 := by
    unfold suE heardE askedE
    simp [h1, h2, hp]
  exact ⟨e, by unfold suB; rw [e, h6]; rfl⟩
theorem excl_none {s v a b c d st : Int} {l : List Shot} (h : exB s v l a b c d = true) : whL s v l a b c d st = [] := by
  rcases List.eq_nil_or_concat (whL s v l a b c d st) with h0 | ⟨L, p, h0⟩
  · exact h0
  · exfalso
    have hp : p ∈ whL s v l a b c d st := by rw [h0]; simp
    obtain ⟨h1, h2, h3, h4, ⟨⟨o1, o2⟩, o3, o4⟩, h6⟩ := whL_mem hp
    unfold exB at h
    rw [Bool.and_eq_true] at h
    obtain ⟨t, ht, hap⟩ := List.any_eq_true.1 h.2
    have hok := okShot_true ((okShots_true h1).2.2 t ht)
    have hn := apart_none (x := p.1) (y := p.2) h2 h3 hok.1 o1 o2 o3 o4 hap
    unfold suitAll at h6
    rw [List.all_eq_true.1 h6 t ht] at hn
    cases hn
end Go.Proofs.Ytgiplkfdallmkaa
