/-
  The trial of one box.
-/
import Derived.Test.YtagbokhmcidokaaRa7
namespace Go.Proofs.Ytagbokhmcidokaa
open Go.RowKit Go.Deep Go.Shelf
attribute [local go_sem] Oper.semAt_some
set_option linter.unusedVariables false
set_option linter.unusedSimpArgs false
/-- The errors of the box. -/
def bxE : List Int := [0, 7, 14, 21, 28, 35, 42, 49, 57, 65, 73, 81, 89, 97, 105]
/-- What holds between two differences: the leap so far lies in the trial. -/
def TrJ (B T : Nat) (w : World) (pre : List Int) (V : World) : Prop :=
  ∃ lp : Int, (T < B ∧ w.heap.size ≤ T) ∧ (V.cell? ⟨T, 0, none⟩ = some (.string ⟨#[97]⟩) ∧ V.cell? ⟨T, 1, none⟩ = some (.int .i64 49) ∧ V.cell? ⟨T, 2, none⟩ = some (.int .i64 56)) ∧ (V.cell? ⟨T, 3, none⟩ = some (.int .i64 lp) ∧ V.frozen? ⟨T, 3, none⟩ = false) ∧ (V.cell? ⟨T, 4, none⟩ = some (.int .i64 0) ∧ V.frozen? ⟨T, 4, none⟩ = false) ∧
    (lp = match pre with
      | [] => 0
      | _ => 7) ∧
    ((V.cell? ⟨w.heap.size + 1, 0, none⟩ = some (.string ⟨#[]⟩) ∧ V.frozen? ⟨w.heap.size + 1, 0, none⟩ = false) ∧ (V.cell? ⟨w.heap.size + 1, 1, none⟩ = some (.int .i64 0) ∧ V.frozen? ⟨w.heap.size + 1, 1, none⟩ = false) ∧ (V.cell? ⟨w.heap.size + 1, 2, none⟩ = some (.int .i64 0) ∧ V.frozen? ⟨w.heap.size + 1, 2, none⟩ = false) ∧
      (V.cell? ⟨w.heap.size + 1, 3, none⟩ = some (.int .i64 0) ∧ V.frozen? ⟨w.heap.size + 1, 3, none⟩ = false) ∧ (V.cell? ⟨w.heap.size + 1, 4, none⟩ = some (.int .i64 0) ∧ V.frozen? ⟨w.heap.size + 1, 4, none⟩ = false)) ∧ Below w.heap.size w V
theorem TrJ.of {B T : Nat} {w V V' : World} {pre : List Int} (h : TrJ B T w pre V) (hb : Below w.heap.size w V') (hk : ∀ k, k < V.heap.size → k < B → V'.heap[k]? = V.heap[k]?) (hB : w.heap.size + 1 < B) : TrJ B T w pre V' := by
  obtain ⟨lp, ⟨hT, hT2⟩, ⟨a1, a2, a3⟩, ⟨b1, b2⟩, ⟨c1, c2⟩, h, ⟨⟨d1, e1⟩, ⟨d2, e2⟩, ⟨d3, e3⟩, ⟨d4, e4⟩, d5, e5⟩, -⟩ := h
  have k1 := hk T (cell?_lt a1) hT
  have k2 := hk (w.heap.size + 1) (cell?_lt d1) hB
  exact ⟨lp, ⟨hT, hT2⟩, ⟨blk_cell k1 a1, blk_cell k1 a2, blk_cell k1 a3⟩, ⟨blk_cell k1 b1, blk_frozen k1 b2⟩, ⟨blk_cell k1 c1, blk_frozen k1 c2⟩, h, ⟨⟨blk_cell k2 d1, blk_frozen k2 e1⟩, ⟨blk_cell k2 d2, blk_frozen k2 e2⟩, ⟨blk_cell k2 d3, blk_frozen k2 e3⟩, ⟨blk_cell k2 d4, blk_frozen k2 e4⟩, blk_cell k2 d5, blk_frozen k2 e5⟩, hb⟩
theorem TrJ.low {B T : Nat} {w V : World} {pre : List Int} (h : TrJ B T w pre V) : Below w.heap.size w V := by obtain ⟨lp, -, -, -, -, -, -, h⟩ := h; exact h
theorem TrJ.keep {B T : Nat} {w V V' : World} {pre : List Int} (h : TrJ B T w pre V) (hb : Below V.heap.size V V') (hB : w.heap.size + 1 < B) : TrJ B T w pre V' := h.of (Below.step h.low hb) (fun k hk _ => hb.block k hk) hB
theorem TrJ.put {B T : Nat} {w V : World} {pre : List Int} (h : TrJ B T w pre V) (hB : w.heap.size + 1 < B) {l : Nat} (hl : B ≤ l) (o : Obj) : TrJ B T w pre (V.putObj l o) :=
  h.of (h.low.trans (below_put V (by omega) o)) (fun k hk h2 => World.putObj_heap_other (by omega)) hB
theorem trial_end {R : Ending → World → Prop} {v0 v1 v2 v3 v4 t0 t1 : Value} {Z : World} {b2 : Nat} {tl : List Value} (D : Nat) (hK : Z.heap[D]? = some (.deferred (some []))) (h0 : Z.cell? ⟨b2, 0, none⟩ = some v0) (h1 : Z.cell? ⟨b2, 1, none⟩ = some v1) (h2 : Z.cell? ⟨b2, 2, none⟩ = some v2) (h3 : Z.cell? ⟨b2, 3, none⟩ = some v3) (h4 : Z.cell? ⟨b2, 4, none⟩ = some v4)
    (hR : R (.returned (.tuple #[.agg #[v0, v1, v2, v3, v4], .int .i64 0])) (Z.putObj D (.deferred none))) :
    bodyPostM Fence.wide 10 Try.prog Try.f36 R .ret { tmps := (t0 :: t1 :: .pointer (some ⟨b2, 0, none⟩) :: .int .i64 0 :: tl).toArray, defers := [{ target := .collected D, args := #[] }] } Z := by
  have n2 : b2 ≠ D := fun h => by subst h; simp [World.cell?, hK] at h2
  have k : ∀ {j : Nat} {u : Value}, Z.cell? ⟨b2, j, none⟩ = some u → (Z.putObj D (.deferred none)).cell? ⟨b2, j, none⟩ = some u := fun {j u} h => (World.cell?_of_block (a := ⟨b2, j, none⟩) (World.putObj_heap_other n2)).trans h
  have k0 := k h0
  have k1 := k h1
  have k2 := k h2
  have k3 := k h3
  have k4 := k h4
  clear k h0 h1 h2 h3 h4
  refine ⟨by simp, .inl ⟨_, _, rfl, run_takeDeferred hK, ?_⟩⟩
  refine ⟨_, ?_, hR⟩
  simp [results, Try.results36, go_sem, k0, k1, k2, k3, k4]
set_option maxHeartbeats 2000000 in
set_option maxRecDepth 100000 in
theorem Trial_c (A : Option Addr) (cap : Nat) (w : World) (hr : RdL w w.heap.size inE 1 A bxE) :
    Calls Try.prog 36 #[.agg #[.string ⟨#[97]⟩, .slice A 15 cap]] w fun e w' => e = .returned (.tuple #[.agg #[.string ⟨#[97]⟩, .int .i64 49, .int .i64 56, .int .i64 7, .int .i64 21], .int .i64 0]) ∧ Below w.heap.size w w' := by
  have HW := Lib.hid (fun W (hb : Below w.heap.size w W) => Weekly_c bxE A cap (by decide) (by decide) W (hr.step hb))
  clear hr
  rw [show dif bxE 7 = [49, 56] by decide] at HW
  refine (callsIn_wide (n := 10)).1 ?_
  refine callsIn_of_wp_marks Try.func36 rfl trivial ?_ rfl
  simp only [Try.ntmps36, List.size_toArray, List.length_cons, List.length_nil, Nat.reduceAdd, Nat.reduceSub, Array.replicate_succ, Array.replicate_zero, List.push_toArray, List.append_toArray, List.nil_append, List.cons_append]
  refine wpIn_wide.2 ?_
  go_wp2_with fail
  refine (HW.out _ (by (repeat (first | (with_reducible exact Below.refl _ _) | (with_reducible assumption) | (with_reducible refine Below.drew ?_) | (with_reducible refine Below.allocS ?_ _) | (with_reducible refine Below.setCell ?_ ?_ _) | (with_reducible refine Below.step ?_ (by assumption)) | (with_reducible refine Below.drewN' ?_ _))); (try any_goals (first | (with_reducible assumption) | (simp; done) | (simp; omega) | omega)))).mono ?_
  rintro e w1 ⟨A1, c1, rfl, ⟨h1, hc1⟩, hb1⟩
  obtain ⟨b, off, rfl, hb, hc⟩ := rd_cells h1 (by decide)
  have hbw : Below w.heap.size w w1 := Below.step (by (repeat (first | (with_reducible exact Below.refl _ _) | (with_reducible assumption) | (with_reducible refine Below.drew ?_) | (with_reducible refine Below.allocS ?_ _) | (with_reducible refine Below.setCell ?_ ?_ _) | (with_reducible refine Below.step ?_ (by assumption)) | (with_reducible refine Below.drewN' ?_ _))); (try any_goals (first | (with_reducible assumption) | (simp; done) | (simp; omega) | omega))) hb1
  have d0 : w1.cell? ⟨w.heap.size, 0, none⟩ = some (.string ⟨#[97]⟩) := keep_cell hb1 (by simp [go_sem])
  have r0 : w1.cell? ⟨w.heap.size + 1, 0, none⟩ = some (.string ⟨#[]⟩) := keep_cell hb1 (by simp [go_sem])
  have r1 : w1.cell? ⟨w.heap.size + 1, 1, none⟩ = some (.int .i64 0) := keep_cell hb1 (by simp [go_sem])
  have r2 : w1.cell? ⟨w.heap.size + 1, 2, none⟩ = some (.int .i64 0) := keep_cell hb1 (by simp [go_sem])
  have r3 : w1.cell? ⟨w.heap.size + 1, 3, none⟩ = some (.int .i64 0) := keep_cell hb1 (by simp [go_sem])
  have r4 : w1.cell? ⟨w.heap.size + 1, 4, none⟩ = some (.int .i64 0) := keep_cell hb1 (by simp [go_sem])
  have f0 : ∀ j, w1.frozen? ⟨w.heap.size + 1, j, none⟩ = false := fun j => keep_frozen hb1 (by simp) (by simp [go_sem])
  have yT : w.heap.size + 1 < w1.heap.size := cell?_lt r0
  have HE := Lib.hid (fun W b1 (hW : Below w1.heap.size w1 W) q => ends_c [49, 56] c1 (by decide) b off b1 (49, 56) (by decide) W (by have := hW.size; omega) (fun i hi => keep_cell hW (hc i hi)) q)
  have HD := Lib.hid (fun W => differences_c [49, 56] (some ⟨b, off, none⟩) 2 c1 1 W)
  have HC := Lib.hid hc
  clear h1 hc hb1 HW hc1
  go_wp2_with fail
  refine (Values_c _ _ _ _).mono ?_
  rintro e w2 ⟨rfl, rfl⟩
  go_wp2_with fail
  refine (HE.out _ _ (by (repeat (first | (with_reducible exact Below.refl _ _) | (with_reducible assumption) | (with_reducible refine Below.drew ?_) | (with_reducible refine Below.allocS ?_ _) | (with_reducible refine Below.setCell ?_ ?_ _) | (with_reducible refine Below.step ?_ (by assumption)) | (with_reducible refine Below.drewN' ?_ _))); (try any_goals (first | (with_reducible assumption) | (simp; done) | (simp; omega) | omega))) (by simp [go_sem])).mono ?_
  rintro e w3 ⟨rfl, hb3⟩
  have t0 : w3.cell? ⟨w1.heap.size, 0, none⟩ = some (.string ⟨#[97]⟩) := keep_cell hb3 (by simp [go_sem])
  have t1 : w3.cell? ⟨w1.heap.size, 1, none⟩ = some (.int .i64 0) := keep_cell hb3 (by simp [go_sem])
  have t2 : w3.cell? ⟨w1.heap.size, 2, none⟩ = some (.int .i64 0) := keep_cell hb3 (by simp [go_sem])
  have t3 : w3.cell? ⟨w1.heap.size, 3, none⟩ = some (.int .i64 0) := keep_cell hb3 (by simp [go_sem])
  have t4 : w3.cell? ⟨w1.heap.size, 4, none⟩ = some (.int .i64 0) := keep_cell hb3 (by simp [go_sem])
  have ft : ∀ j, w3.frozen? ⟨w1.heap.size, j, none⟩ = false := fun j => keep_frozen hb3 (by simp <;> omega) (by simp [go_sem])
  have b3 : Below w1.heap.size w1 w3 := Below.step (by (repeat (first | (with_reducible exact Below.refl _ _) | (with_reducible assumption) | (with_reducible refine Below.drew ?_) | (with_reducible refine Below.allocS ?_ _) | (with_reducible refine Below.setCell ?_ ?_ _) | (with_reducible refine Below.step ?_ (by assumption)) | (with_reducible refine Below.drewN' ?_ _))); (try any_goals (first | (with_reducible assumption) | (simp; done) | (simp; omega) | omega))) hb3
  have z3 := cell?_lt t0
  clear hb3
  go_wp2_with fail
  obtain ⟨V, hV⟩ : ∃ V, (w3.setCell ⟨w1.heap.size, 1, none⟩ (.int .i64 49)).setCell ⟨w1.heap.size, 2, none⟩ (.int .i64 56) = V := ⟨_, rfl⟩
  rw [hV]
  have HV := Lib.hid hV
  clear hV
  refine (HD.out _).mono ?_
  rintro e w4 ⟨rfl, rfl⟩
  go_wp2_with fail
  have vz : V.heap.size = w3.heap.size := by rw [← HV.out]; simp [World.setCell]
  have vb : Below w1.heap.size w1 V := by rw [← HV.out]; exact Below.setCell (Below.setCell b3 (by simp) _) (by simp) _
  have v0 : V.cell? ⟨w1.heap.size, 0, none⟩ = some (.string ⟨#[97]⟩) := by rw [← HV.out]; simp [go_sem, *]
  have v1 : V.cell? ⟨w1.heap.size, 1, none⟩ = some (.int .i64 49) := by rw [← HV.out]; simp [go_sem, *]
  have v2 : V.cell? ⟨w1.heap.size, 2, none⟩ = some (.int .i64 56) := by rw [← HV.out]; simp [go_sem, *]
  have v3 : V.cell? ⟨w1.heap.size, 3, none⟩ = some (.int .i64 0) := by rw [← HV.out]; simp [go_sem, *]
  have v4 : V.cell? ⟨w1.heap.size, 4, none⟩ = some (.int .i64 0) := by rw [← HV.out]; simp [go_sem, *]
  have vf : ∀ j, V.frozen? ⟨w1.heap.size, j, none⟩ = false := fun j => by rw [← HV.out]; simp [go_sem, *]
  clear HV t0 t1 t2 t3 t4 ft b3
  obtain ⟨W0, hW0⟩ : ∃ W0, ((V.alloc (.cells #[.slice (some ⟨b, off, none⟩) 2 c1] 24)).alloc (.cells #[.int .i64 1] 3)) = W0 := ⟨_, rfl⟩
  rw [hW0]
  have HW0 := Lib.hid hW0
  clear hW0
  have sz : W0.heap.size = V.heap.size + 2 := by rw [← HW0.out]; simp
  have b0 : Below V.heap.size V W0 := by rw [← HW0.out]; (repeat (first | (with_reducible exact Below.refl _ _) | (with_reducible assumption) | (with_reducible refine Below.drew ?_) | (with_reducible refine Below.allocS ?_ _) | (with_reducible refine Below.setCell ?_ ?_ _) | (with_reducible refine Below.step ?_ (by assumption)) | (with_reducible refine Below.drewN' ?_ _))); (try any_goals (first | (with_reducible assumption) | (simp; done) | (simp; omega) | omega))
  have b01 : Below w1.heap.size w1 W0 := Below.step vb b0
  have i0 : TrJ W0.heap.size w1.heap.size w [] W0 := ⟨0, ⟨by omega, by have := hbw.size; omega⟩, ⟨keep_cell b0 v0, keep_cell b0 v1, keep_cell b0 v2⟩, ⟨keep_cell b0 v3, keep_frozen b0 (cell?_lt v0) (vf _)⟩, ⟨keep_cell b0 v4, keep_frozen b0 (cell?_lt v0) (vf _)⟩, rfl,
    ⟨⟨keep_cell b01 r0, keep_frozen b01 yT (f0 _)⟩, ⟨keep_cell b01 r1, keep_frozen b01 yT (f0 _)⟩, ⟨keep_cell b01 r2, keep_frozen b01 yT (f0 _)⟩, ⟨keep_cell b01 r3, keep_frozen b01 yT (f0 _)⟩, keep_cell b01 r4, keep_frozen b01 yT (f0 _)⟩, Below.step hbw b01⟩
  have HI0 := Lib.hid i0
  have HQ := Lib.hid (dif_seq [49, 56] c1 1 (by decide) (by decide) (Mil.of (by decide)) b off (V.heap.size + 1) V.heap.size (fun k => k = b ∨ k = V.heap.size ∨ k = V.heap.size + 1 ∨ k = W0.heap.size ∨ k = W0.heap.size + 1) (.inl rfl) (.inr (.inr (.inl rfl))) (.inr (.inl rfl)) W0 (by omega) (fun i h => keep_cell b01 (HC.out i h)) (by rw [← HW0.out]; simp [go_sem]) (by rw [← HW0.out]; simp [go_sem]))
  rw [show dif [49, 56] 1 = [7] by decide] at HQ
  have s1 : V.heap.size + 2 ≤ W0.heap.size := by omega
  have s2 : w3.heap.size ≤ V.heap.size := by omega
  have s3 : w.heap.size + 1 < W0.heap.size := by omega
  clear sz vz
  clear i0 v0 v1 v2 v3 v4 vf r0 r1 r2 r3 r4 f0 d0 HC HD HE
  refine (wpIn_wide (n := 10)).1 ?_
  refine range_s (n := 8) (gf := 92) (lb := #[.pointer (some ⟨V.heap.size + 1, 0, none⟩), .pointer (some ⟨V.heap.size, 0, none⟩)]) rfl (enters_of Try.func92 (by kernel_rfl) rfl)
    HQ.out (fun b hb => hb.elim) (Below.refl _ _) (.inr (.inr (.inr (.inl rfl)))) (.inr (.inr (.inr (.inr rfl)))) (fun _ => rfl)
    (TrJ W0.heap.size w1.heap.size w) (fun _ _ _ => False) (fun s A A' h hb => h.keep hb s3) (fun c s A A' h hb => h) (fun s A o h => h.put s3 (Nat.le_succ _) o) (fun c s A o h => h) (fun s A p u hp h => hp.elim) HI0.out
    (fun x a' X => a' = { tmps := #[.agg #[.string ⟨#[97]⟩, .slice A 15 cap], .pointer (some ⟨w.heap.size, 0, none⟩), .pointer (some ⟨w.heap.size + 1, 0, none⟩), .int .i64 0, .slice (some ⟨b, off, none⟩) 2 c1, .int .i64 0, .pointer (some ⟨w1.heap.size, 0, none⟩), .int .i64 x, .tuple #[.slice (some ⟨b, off, none⟩) 2 c1, .int .i64 0], .agg #[.string ⟨#[97]⟩, .slice A 15 cap], .tuple #[.slice (some ⟨b, off, none⟩) 2 c1, .int .i64 0], .slice (some ⟨b, off, none⟩) 2 c1, .int .i64 0, .bool false, .int .i64 0, .bool false, undef, undef, .bool false, .slice (some ⟨b, off, none⟩) 2 c1, .int .i64 2, .bool false, undef, .pointer (some ⟨w.heap.size, 0, none⟩), .string ⟨#[97]⟩, .agg #[.string ⟨#[97]⟩, .int .i64 0, .int .i64 0, .int .i64 0, .int .i64 0], .tuple #[.int .i64 49, .int .i64 56], .slice (some ⟨b, off, none⟩) 2 c1, .func (.func 125) #[] #[.pointer (some ⟨w1.heap.size + 1, 0, none⟩)], .tuple #[.int .i64 49, .int .i64 56], .int .i64 49, .int .i64 56, .pointer (some ⟨w1.heap.size, 1, none⟩), .pointer (some ⟨w1.heap.size, 2, none⟩), .slice (some ⟨b, off, none⟩) 2 c1, .func (.func 92) #[] #[.pointer (some ⟨V.heap.size + 1, 0, none⟩), .pointer (some ⟨V.heap.size, 0, none⟩)], .int .i64 x, undef, undef, undef, undef, undef, undef, undef, undef, undef, undef, undef, undef, undef, undef, undef, undef, undef, undef], defers := [] })
    (fun x a' X q r o h hk => h)
    ?assign ?body ?done ?stop
  case assign =>
    intro l0 pre x X K hi hs hK
    gi_wp2
    exact hK _ _ (KT.refl _ _) hi rfl
  case body =>
    rintro l0 pre x a' W rfl ⟨r0, hr0⟩ ⟨lp, ⟨hT, hT2⟩, ⟨a1, a2, a3⟩, ⟨b1, b2⟩, ⟨c1, c2⟩, hlp, ⟨⟨d1, e1⟩, ⟨d2, e2⟩, ⟨d3, e3⟩, ⟨d4, e4⟩, d5, e5⟩, hbW⟩ rfl hSp
    have hpx : pre = [] ∧ x = 7 := by
      cases pre with
      | nil =>
        obtain ⟨t, ht⟩ := hSp
        injection ht with h1 h2
        exact ⟨rfl, h1⟩
      | cons y t =>
        have := hSp.length_le
        simp at this
    obtain ⟨rfl, rfl⟩ := hpx
    subst hlp
    clear hr0 hSp HI0 HQ HW0
    have hbl : b < w1.heap.size := hb
    gi_wp2
    refine And.intro ((KT.refl _ _).setCell (fun hk => ?_) _) ⟨7, ⟨hT, hT2⟩, ⟨?_, ?_, ?_⟩, ⟨?_, ?_⟩, ⟨?_, ?_⟩, rfl, ⟨⟨?_, ?_⟩, ⟨?_, ?_⟩, ⟨?_, ?_⟩, ⟨?_, ?_⟩, ?_, ?_⟩, Below.setCell hbW (by simp <;> omega) _⟩
    · have hk' : w1.heap.size = b ∨ w1.heap.size = V.heap.size ∨ w1.heap.size = V.heap.size + 1 ∨ w1.heap.size = W0.heap.size ∨ w1.heap.size = W0.heap.size + 1 := hk
      omega
    all_goals simp [go_sem, *]
  case done =>
    rintro D xs X hD rfl ⟨lp, ⟨hT, hT2⟩, ⟨a1, a2, a3⟩, ⟨b1, b2⟩, ⟨c1, c2⟩, hlp, ⟨⟨d1, e1⟩, ⟨d2, e2⟩, ⟨d3, e3⟩, ⟨d4, e4⟩, d5, e5⟩, hbW⟩ hK
    subst hlp
    have HK := Lib.hid hK
    clear hK HI0 HQ HW0
    gi_wp2
    go_wp2
    have hnD : ∀ b' u, X.cell? ⟨b', 0, none⟩ = some u → D ≠ b' := fun b' u h e => by subst e; simp [World.cell?, HK.out] at h
    have n1 := hnD _ _ a1
    have n2 := hnD _ _ d1
    refine trial_end D ?_ ?_ ?_ ?_ ?_ ?_ ⟨rfl, ?_⟩
    · (repeat (refine (Below.heap_setCell _ _ _ _ (by exact n2)).trans ?_))
      exact (Below.heap_setCell _ _ _ _ (by exact n1)).trans HK.out
    all_goals first | (simp [go_sem, *]; done) | skip
    exact Below.trans (by (repeat (first | exact hbW | refine Below.setCell ?_ (by simp <;> omega) _))) (below_put _ (by omega) _)
  case stop => rintro D c pre X hD hS h hK; exact h.elim
end Go.Proofs.Ytagbokhmcidokaa
