/-
  Wired of transit.
-/
import Derived.Test.YtbcabckokmjelaaA16
import Derived.Test.YtbcabckokmjelaaApp
import Derived.Test.YtbcabckokmjelaaPre2
import Derived.Laws.ResultCell
namespace Go.Proofs.Ytbcabckokmjelaa
open Go.RowKit
set_option linter.unusedVariables false
set_option linter.unusedSimpArgs false
/-- A result that is read out of the call's own block. -/
theorem res_transit {fn : Func} {p u : Tmp} (h : fn.results = #[.cell p 28, .tmp u]) (tmps : Array Value) (w : World) (b : Nat) (v0 v1 v2 v3 v4 : Value) (hp : tmps.getD p undef = .pointer (some ⟨b, 0, none⟩))
    (c0 : w.cell? ⟨b, 0, none⟩ = some v0) (c1 : w.cell? ⟨b, 1, none⟩ = some v1) (c2 : w.cell? ⟨b, 2, none⟩ = some v2) (c3 : w.cell? ⟨b, 3, none⟩ = some v3) (c4 : w.cell? ⟨b, 4, none⟩ = some v4) :
    (results fn tmps).run Try.prog w = .ok (.tuple #[.agg #[v0, v1, v2, v3, v4], tmps.getD u undef]) w := by
  rw [results_cell_tmp h, hp]
  simp [go_sem, *]
/-- .. and that was laid there just before. -/
theorem res_set5 {fn : Func} {p u : Tmp} (h : fn.results = #[.cell p 28, .tmp u]) (tmps : Array Value) (w : World) (b : Nat) (v0 v1 v2 v3 v4 : Value) (hp : tmps.getD p undef = .pointer (some ⟨b, 0, none⟩)) {o0 o1 o2 o3 o4 : Value}
    (c0 : w.cell? ⟨b, 0, none⟩ = some o0) (c1 : w.cell? ⟨b, 1, none⟩ = some o1) (c2 : w.cell? ⟨b, 2, none⟩ = some o2) (c3 : w.cell? ⟨b, 3, none⟩ = some o3) (c4 : w.cell? ⟨b, 4, none⟩ = some o4) :
    (results fn tmps).run Try.prog (((((w.setCell ⟨b, 0, none⟩ v0).setCell ⟨b, 1, none⟩ v1).setCell ⟨b, 2, none⟩ v2).setCell ⟨b, 3, none⟩ v3).setCell ⟨b, 4, none⟩ v4) =
      .ok (.tuple #[.agg #[v0, v1, v2, v3, v4], tmps.getD u undef]) (((((w.setCell ⟨b, 0, none⟩ v0).setCell ⟨b, 1, none⟩ v1).setCell ⟨b, 2, none⟩ v2).setCell ⟨b, 3, none⟩ v3).setCell ⟨b, 4, none⟩ v4) :=
  res_transit h tmps _ b v0 v1 v2 v3 v4 hp (by simp [go_sem, *]) (by simp [go_sem, *]) (by simp [go_sem, *]) (by simp [go_sem, *]) (by simp [go_sem, *])
set_option maxRecDepth 100000 in
set_option maxHeartbeats 4000000 in
theorem Wired_c (x : Tb) (s : St) (at' : Int) (w : World) (hx : TbAt w x) (hs : s.nm.size ≤ maxLen) :
    Calls Try.prog 26 #[.agg #[.slice x.A x.xs.length x.ca, .int .i64 x.e], .agg #[.string s.nm, .int .i64 s.a, .int .i64 s.b, .int .i64 s.c], .int .i64 at'] w fun r w' => WiR x s at' r w' ∧ Below w.heap.size w w' := by
  have hxl : x.xs.length ≤ 9223372036854775807 := by have := hx.n; have := hx.m; unfold maxLen at this; omega
  have hnm : s.nm.size ≤ 9223372036854775807 := by unfold maxLen at hs; omega
  have HX := Lib.hid hx.r
  have H1 := Lib.hid (fun W hb => ValidTube_c x.xs x.A x.ca x.e hxl W (HX.out.step hb))
  have H2 := Lib.hid (fun W => ValidStar_c s.nm s.a s.b s.c hnm W)
  have H3 := Lib.hid (fun W => within_c at' (-1000000000000) 1000000000000 W)
  clear hx hs hxl hnm
  cases h1 : okTube x.xs x.e
  · rw [h1] at H1
    have HW := Lib.hid (show wiK x s at' = false ∧ wiV x s = false by unfold wiK wiV; rw [h1]; exact ⟨rfl, rfl⟩)
    clear h1
    go_enter Try.func26, Try.ntmps26
    go_wp2_with fail
    refine (H1.out _ (by (repeat (first | exact Below.refl _ _ | refine Below.drew ?_ | refine Below.allocS ?_ _ | refine Below.step ?_ (by assumption) | refine Below.setCell ?_ (by simp <;> omega) _ | refine Below.drewN' ?_ _)))).mono ?_
    rintro e w1 ⟨rfl, hb1⟩
    have x1_0_0 : w1.cell? ⟨w.heap.size, 0, none⟩ = some (.slice x.A x.xs.length x.ca) := keep_cell hb1 (by simp [go_sem, *])
    have x1_0_1 : w1.cell? ⟨w.heap.size, 1, none⟩ = some (.int .i64 x.e) := keep_cell hb1 (by simp [go_sem, *])
    have y1_0 : w.heap.size < w1.heap.size := cell?_lt x1_0_0
    have x1_1_0 : w1.cell? ⟨w.heap.size + 1, 0, none⟩ = some (.string s.nm) := keep_cell hb1 (by simp [go_sem, *])
    have x1_1_1 : w1.cell? ⟨w.heap.size + 1, 1, none⟩ = some (.int .i64 s.a) := keep_cell hb1 (by simp [go_sem, *])
    have x1_1_2 : w1.cell? ⟨w.heap.size + 1, 2, none⟩ = some (.int .i64 s.b) := keep_cell hb1 (by simp [go_sem, *])
    have x1_1_3 : w1.cell? ⟨w.heap.size + 1, 3, none⟩ = some (.int .i64 s.c) := keep_cell hb1 (by simp [go_sem, *])
    have y1_1 : w.heap.size + 1 < w1.heap.size := cell?_lt x1_1_0
    have x1_2_0 : w1.cell? ⟨w.heap.size + 1 + 1, 0, none⟩ = some (.string ⟨#[]⟩) := keep_cell hb1 (by simp [go_sem, *])
    have f1_2_0 : w1.frozen? ⟨w.heap.size + 1 + 1, 0, none⟩ = false := keep_frozen hb1 (by first | omega | (simp <;> omega)) (by simp [go_sem, *])
    have x1_2_1 : w1.cell? ⟨w.heap.size + 1 + 1, 1, none⟩ = some (.int .i64 0) := keep_cell hb1 (by simp [go_sem, *])
    have f1_2_1 : w1.frozen? ⟨w.heap.size + 1 + 1, 1, none⟩ = false := keep_frozen hb1 (by first | omega | (simp <;> omega)) (by simp [go_sem, *])
    have x1_2_2 : w1.cell? ⟨w.heap.size + 1 + 1, 2, none⟩ = some (.int .i64 0) := keep_cell hb1 (by simp [go_sem, *])
    have f1_2_2 : w1.frozen? ⟨w.heap.size + 1 + 1, 2, none⟩ = false := keep_frozen hb1 (by first | omega | (simp <;> omega)) (by simp [go_sem, *])
    have x1_2_3 : w1.cell? ⟨w.heap.size + 1 + 1, 3, none⟩ = some (.int .i64 0) := keep_cell hb1 (by simp [go_sem, *])
    have f1_2_3 : w1.frozen? ⟨w.heap.size + 1 + 1, 3, none⟩ = false := keep_frozen hb1 (by first | omega | (simp <;> omega)) (by simp [go_sem, *])
    have x1_2_4 : w1.cell? ⟨w.heap.size + 1 + 1, 4, none⟩ = some (.slice none 0 0) := keep_cell hb1 (by simp [go_sem, *])
    have f1_2_4 : w1.frozen? ⟨w.heap.size + 1 + 1, 4, none⟩ = false := keep_frozen hb1 (by first | omega | (simp <;> omega)) (by simp [go_sem, *])
    have y1_2 : w.heap.size + 1 + 1 < w1.heap.size := cell?_lt x1_2_0
    have g1 : Below w.heap.size w w1 := by (repeat (first | exact Below.refl _ _ | refine Below.drew ?_ | refine Below.allocS ?_ _ | refine Below.step ?_ (by assumption) | refine Below.setCell ?_ (by simp <;> omega) _ | refine Below.drewN' ?_ _))
    clear hb1
    go_wp2
    (try simp only [Exit.inBlock, Exit.then])
    refine bodyPost_ret (res_set5 rfl _ _ (w.heap.size + 1 + 1) _ _ _ _ _ rfl x1_2_0 x1_2_1 x1_2_2 x1_2_3 x1_2_4) rfl ?_
    exact ⟨Or.inr ⟨HW.out.1, by rw [HW.out.2]; rfl⟩, by (repeat (first | (with_reducible exact Below.refl _ _) | (with_reducible assumption) | (with_reducible refine Below.drew ?_) | (with_reducible refine Below.allocS ?_ _) | (with_reducible refine Below.setCell ?_ ?_ _) | (with_reducible refine Below.step ?_ (by assumption)) | (with_reducible refine Below.drewN' ?_ _))); (try any_goals (first | (with_reducible assumption) | (simp; done) | (simp; omega) | omega))⟩
  cases h2 : okStar s.nm s.a s.b s.c
  · rw [h1] at H1
    rw [h2] at H2
    have HW := Lib.hid (show wiK x s at' = false ∧ wiV x s = false by unfold wiK wiV; rw [h1, h2]; exact ⟨rfl, rfl⟩)
    clear h1 h2
    go_enter Try.func26, Try.ntmps26
    go_wp2_with fail
    refine (H1.out _ (by (repeat (first | exact Below.refl _ _ | refine Below.drew ?_ | refine Below.allocS ?_ _ | refine Below.step ?_ (by assumption) | refine Below.setCell ?_ (by simp <;> omega) _ | refine Below.drewN' ?_ _)))).mono ?_
    rintro e w1 ⟨rfl, hb1⟩
    have x1_0_0 : w1.cell? ⟨w.heap.size, 0, none⟩ = some (.slice x.A x.xs.length x.ca) := keep_cell hb1 (by simp [go_sem, *])
    have x1_0_1 : w1.cell? ⟨w.heap.size, 1, none⟩ = some (.int .i64 x.e) := keep_cell hb1 (by simp [go_sem, *])
    have y1_0 : w.heap.size < w1.heap.size := cell?_lt x1_0_0
    have x1_1_0 : w1.cell? ⟨w.heap.size + 1, 0, none⟩ = some (.string s.nm) := keep_cell hb1 (by simp [go_sem, *])
    have x1_1_1 : w1.cell? ⟨w.heap.size + 1, 1, none⟩ = some (.int .i64 s.a) := keep_cell hb1 (by simp [go_sem, *])
    have x1_1_2 : w1.cell? ⟨w.heap.size + 1, 2, none⟩ = some (.int .i64 s.b) := keep_cell hb1 (by simp [go_sem, *])
    have x1_1_3 : w1.cell? ⟨w.heap.size + 1, 3, none⟩ = some (.int .i64 s.c) := keep_cell hb1 (by simp [go_sem, *])
    have y1_1 : w.heap.size + 1 < w1.heap.size := cell?_lt x1_1_0
    have x1_2_0 : w1.cell? ⟨w.heap.size + 1 + 1, 0, none⟩ = some (.string ⟨#[]⟩) := keep_cell hb1 (by simp [go_sem, *])
    have f1_2_0 : w1.frozen? ⟨w.heap.size + 1 + 1, 0, none⟩ = false := keep_frozen hb1 (by first | omega | (simp <;> omega)) (by simp [go_sem, *])
    have x1_2_1 : w1.cell? ⟨w.heap.size + 1 + 1, 1, none⟩ = some (.int .i64 0) := keep_cell hb1 (by simp [go_sem, *])
    have f1_2_1 : w1.frozen? ⟨w.heap.size + 1 + 1, 1, none⟩ = false := keep_frozen hb1 (by first | omega | (simp <;> omega)) (by simp [go_sem, *])
    have x1_2_2 : w1.cell? ⟨w.heap.size + 1 + 1, 2, none⟩ = some (.int .i64 0) := keep_cell hb1 (by simp [go_sem, *])
    have f1_2_2 : w1.frozen? ⟨w.heap.size + 1 + 1, 2, none⟩ = false := keep_frozen hb1 (by first | omega | (simp <;> omega)) (by simp [go_sem, *])
    have x1_2_3 : w1.cell? ⟨w.heap.size + 1 + 1, 3, none⟩ = some (.int .i64 0) := keep_cell hb1 (by simp [go_sem, *])
    have f1_2_3 : w1.frozen? ⟨w.heap.size + 1 + 1, 3, none⟩ = false := keep_frozen hb1 (by first | omega | (simp <;> omega)) (by simp [go_sem, *])
    have x1_2_4 : w1.cell? ⟨w.heap.size + 1 + 1, 4, none⟩ = some (.slice none 0 0) := keep_cell hb1 (by simp [go_sem, *])
    have f1_2_4 : w1.frozen? ⟨w.heap.size + 1 + 1, 4, none⟩ = false := keep_frozen hb1 (by first | omega | (simp <;> omega)) (by simp [go_sem, *])
    have y1_2 : w.heap.size + 1 + 1 < w1.heap.size := cell?_lt x1_2_0
    have g1 : Below w.heap.size w w1 := by (repeat (first | exact Below.refl _ _ | refine Below.drew ?_ | refine Below.allocS ?_ _ | refine Below.step ?_ (by assumption) | refine Below.setCell ?_ (by simp <;> omega) _ | refine Below.drewN' ?_ _))
    clear hb1
    go_wp2_with fail
    refine (H2.out _).mono ?_
    rintro e w2 ⟨rfl, hb2⟩
    have x2_0_0 : w2.cell? ⟨w.heap.size, 0, none⟩ = some (.slice x.A x.xs.length x.ca) := keep_cell hb2 (by simp [go_sem, *])
    have x2_0_1 : w2.cell? ⟨w.heap.size, 1, none⟩ = some (.int .i64 x.e) := keep_cell hb2 (by simp [go_sem, *])
    have y2_0 : w.heap.size < w2.heap.size := cell?_lt x2_0_0
    have x2_1_0 : w2.cell? ⟨w.heap.size + 1, 0, none⟩ = some (.string s.nm) := keep_cell hb2 (by simp [go_sem, *])
    have x2_1_1 : w2.cell? ⟨w.heap.size + 1, 1, none⟩ = some (.int .i64 s.a) := keep_cell hb2 (by simp [go_sem, *])
    have x2_1_2 : w2.cell? ⟨w.heap.size + 1, 2, none⟩ = some (.int .i64 s.b) := keep_cell hb2 (by simp [go_sem, *])
    have x2_1_3 : w2.cell? ⟨w.heap.size + 1, 3, none⟩ = some (.int .i64 s.c) := keep_cell hb2 (by simp [go_sem, *])
    have y2_1 : w.heap.size + 1 < w2.heap.size := cell?_lt x2_1_0
    have x2_2_0 : w2.cell? ⟨w.heap.size + 1 + 1, 0, none⟩ = some (.string ⟨#[]⟩) := keep_cell hb2 (by simp [go_sem, *])
    have f2_2_0 : w2.frozen? ⟨w.heap.size + 1 + 1, 0, none⟩ = false := keep_frozen hb2 (by first | omega | (simp <;> omega)) (by simp [go_sem, *])
    have x2_2_1 : w2.cell? ⟨w.heap.size + 1 + 1, 1, none⟩ = some (.int .i64 0) := keep_cell hb2 (by simp [go_sem, *])
    have f2_2_1 : w2.frozen? ⟨w.heap.size + 1 + 1, 1, none⟩ = false := keep_frozen hb2 (by first | omega | (simp <;> omega)) (by simp [go_sem, *])
    have x2_2_2 : w2.cell? ⟨w.heap.size + 1 + 1, 2, none⟩ = some (.int .i64 0) := keep_cell hb2 (by simp [go_sem, *])
    have f2_2_2 : w2.frozen? ⟨w.heap.size + 1 + 1, 2, none⟩ = false := keep_frozen hb2 (by first | omega | (simp <;> omega)) (by simp [go_sem, *])
    have x2_2_3 : w2.cell? ⟨w.heap.size + 1 + 1, 3, none⟩ = some (.int .i64 0) := keep_cell hb2 (by simp [go_sem, *])
    have f2_2_3 : w2.frozen? ⟨w.heap.size + 1 + 1, 3, none⟩ = false := keep_frozen hb2 (by first | omega | (simp <;> omega)) (by simp [go_sem, *])
    have x2_2_4 : w2.cell? ⟨w.heap.size + 1 + 1, 4, none⟩ = some (.slice none 0 0) := keep_cell hb2 (by simp [go_sem, *])
    have f2_2_4 : w2.frozen? ⟨w.heap.size + 1 + 1, 4, none⟩ = false := keep_frozen hb2 (by first | omega | (simp <;> omega)) (by simp [go_sem, *])
    have y2_2 : w.heap.size + 1 + 1 < w2.heap.size := cell?_lt x2_2_0
    have g2 : Below w.heap.size w w2 := by (repeat (first | exact Below.refl _ _ | refine Below.drew ?_ | refine Below.allocS ?_ _ | refine Below.step ?_ (by assumption) | refine Below.setCell ?_ (by simp <;> omega) _ | refine Below.drewN' ?_ _))
    clear hb2 g1 x1_0_0 x1_0_1 x1_1_0 x1_1_1 x1_1_2 x1_1_3 x1_2_0 f1_2_0 x1_2_1 f1_2_1 x1_2_2 f1_2_2 x1_2_3 f1_2_3 x1_2_4 f1_2_4 y1_0 y1_1 y1_2
    go_wp2
    (try simp only [Exit.inBlock, Exit.then])
    refine bodyPost_ret (res_set5 rfl _ _ (w.heap.size + 1 + 1) _ _ _ _ _ rfl x2_2_0 x2_2_1 x2_2_2 x2_2_3 x2_2_4) rfl ?_
    exact ⟨Or.inr ⟨HW.out.1, by rw [HW.out.2]; rfl⟩, by (repeat (first | (with_reducible exact Below.refl _ _) | (with_reducible assumption) | (with_reducible refine Below.drew ?_) | (with_reducible refine Below.allocS ?_ _) | (with_reducible refine Below.setCell ?_ ?_ _) | (with_reducible refine Below.step ?_ (by assumption)) | (with_reducible refine Below.drewN' ?_ _))); (try any_goals (first | (with_reducible assumption) | (simp; done) | (simp; omega) | omega))⟩
  have hV : wiV x s = true := by unfold wiV; rw [h1, h2]; rfl
  have HT := Lib.hid (okTube_true h1)
  have HC := Lib.hid (okStar_true h2).2.2
  rw [h1] at H1
  rw [h2] at H2
  clear h1 h2
  cases h3 : within at' (-1000000000000) 1000000000000
  · rw [h3] at H3
    have HW := Lib.hid (show wiK x s at' = false ∧ wiV x s = true from ⟨wi_far hV (by have := within_false h3; omega), hV⟩)
    clear h3 hV HT HC
    go_enter Try.func26, Try.ntmps26
    go_wp2_with fail
    refine (H1.out _ (by (repeat (first | exact Below.refl _ _ | refine Below.drew ?_ | refine Below.allocS ?_ _ | refine Below.step ?_ (by assumption) | refine Below.setCell ?_ (by simp <;> omega) _ | refine Below.drewN' ?_ _)))).mono ?_
    rintro e w1 ⟨rfl, hb1⟩
    have x1_0_0 : w1.cell? ⟨w.heap.size, 0, none⟩ = some (.slice x.A x.xs.length x.ca) := keep_cell hb1 (by simp [go_sem, *])
    have x1_0_1 : w1.cell? ⟨w.heap.size, 1, none⟩ = some (.int .i64 x.e) := keep_cell hb1 (by simp [go_sem, *])
    have y1_0 : w.heap.size < w1.heap.size := cell?_lt x1_0_0
    have x1_1_0 : w1.cell? ⟨w.heap.size + 1, 0, none⟩ = some (.string s.nm) := keep_cell hb1 (by simp [go_sem, *])
    have x1_1_1 : w1.cell? ⟨w.heap.size + 1, 1, none⟩ = some (.int .i64 s.a) := keep_cell hb1 (by simp [go_sem, *])
    have x1_1_2 : w1.cell? ⟨w.heap.size + 1, 2, none⟩ = some (.int .i64 s.b) := keep_cell hb1 (by simp [go_sem, *])
    have x1_1_3 : w1.cell? ⟨w.heap.size + 1, 3, none⟩ = some (.int .i64 s.c) := keep_cell hb1 (by simp [go_sem, *])
    have y1_1 : w.heap.size + 1 < w1.heap.size := cell?_lt x1_1_0
    have x1_2_0 : w1.cell? ⟨w.heap.size + 1 + 1, 0, none⟩ = some (.string ⟨#[]⟩) := keep_cell hb1 (by simp [go_sem, *])
    have f1_2_0 : w1.frozen? ⟨w.heap.size + 1 + 1, 0, none⟩ = false := keep_frozen hb1 (by first | omega | (simp <;> omega)) (by simp [go_sem, *])
    have x1_2_1 : w1.cell? ⟨w.heap.size + 1 + 1, 1, none⟩ = some (.int .i64 0) := keep_cell hb1 (by simp [go_sem, *])
    have f1_2_1 : w1.frozen? ⟨w.heap.size + 1 + 1, 1, none⟩ = false := keep_frozen hb1 (by first | omega | (simp <;> omega)) (by simp [go_sem, *])
    have x1_2_2 : w1.cell? ⟨w.heap.size + 1 + 1, 2, none⟩ = some (.int .i64 0) := keep_cell hb1 (by simp [go_sem, *])
    have f1_2_2 : w1.frozen? ⟨w.heap.size + 1 + 1, 2, none⟩ = false := keep_frozen hb1 (by first | omega | (simp <;> omega)) (by simp [go_sem, *])
    have x1_2_3 : w1.cell? ⟨w.heap.size + 1 + 1, 3, none⟩ = some (.int .i64 0) := keep_cell hb1 (by simp [go_sem, *])
    have f1_2_3 : w1.frozen? ⟨w.heap.size + 1 + 1, 3, none⟩ = false := keep_frozen hb1 (by first | omega | (simp <;> omega)) (by simp [go_sem, *])
    have x1_2_4 : w1.cell? ⟨w.heap.size + 1 + 1, 4, none⟩ = some (.slice none 0 0) := keep_cell hb1 (by simp [go_sem, *])
    have f1_2_4 : w1.frozen? ⟨w.heap.size + 1 + 1, 4, none⟩ = false := keep_frozen hb1 (by first | omega | (simp <;> omega)) (by simp [go_sem, *])
    have y1_2 : w.heap.size + 1 + 1 < w1.heap.size := cell?_lt x1_2_0
    have g1 : Below w.heap.size w w1 := by (repeat (first | exact Below.refl _ _ | refine Below.drew ?_ | refine Below.allocS ?_ _ | refine Below.step ?_ (by assumption) | refine Below.setCell ?_ (by simp <;> omega) _ | refine Below.drewN' ?_ _))
    clear hb1
    go_wp2_with fail
    refine (H2.out _).mono ?_
    rintro e w2 ⟨rfl, hb2⟩
    have x2_0_0 : w2.cell? ⟨w.heap.size, 0, none⟩ = some (.slice x.A x.xs.length x.ca) := keep_cell hb2 (by simp [go_sem, *])
    have x2_0_1 : w2.cell? ⟨w.heap.size, 1, none⟩ = some (.int .i64 x.e) := keep_cell hb2 (by simp [go_sem, *])
    have y2_0 : w.heap.size < w2.heap.size := cell?_lt x2_0_0
    have x2_1_0 : w2.cell? ⟨w.heap.size + 1, 0, none⟩ = some (.string s.nm) := keep_cell hb2 (by simp [go_sem, *])
    have x2_1_1 : w2.cell? ⟨w.heap.size + 1, 1, none⟩ = some (.int .i64 s.a) := keep_cell hb2 (by simp [go_sem, *])
    have x2_1_2 : w2.cell? ⟨w.heap.size + 1, 2, none⟩ = some (.int .i64 s.b) := keep_cell hb2 (by simp [go_sem, *])
    have x2_1_3 : w2.cell? ⟨w.heap.size + 1, 3, none⟩ = some (.int .i64 s.c) := keep_cell hb2 (by simp [go_sem, *])
    have y2_1 : w.heap.size + 1 < w2.heap.size := cell?_lt x2_1_0
    have x2_2_0 : w2.cell? ⟨w.heap.size + 1 + 1, 0, none⟩ = some (.string ⟨#[]⟩) := keep_cell hb2 (by simp [go_sem, *])
    have f2_2_0 : w2.frozen? ⟨w.heap.size + 1 + 1, 0, none⟩ = false := keep_frozen hb2 (by first | omega | (simp <;> omega)) (by simp [go_sem, *])
    have x2_2_1 : w2.cell? ⟨w.heap.size + 1 + 1, 1, none⟩ = some (.int .i64 0) := keep_cell hb2 (by simp [go_sem, *])
    have f2_2_1 : w2.frozen? ⟨w.heap.size + 1 + 1, 1, none⟩ = false := keep_frozen hb2 (by first | omega | (simp <;> omega)) (by simp [go_sem, *])
    have x2_2_2 : w2.cell? ⟨w.heap.size + 1 + 1, 2, none⟩ = some (.int .i64 0) := keep_cell hb2 (by simp [go_sem, *])
    have f2_2_2 : w2.frozen? ⟨w.heap.size + 1 + 1, 2, none⟩ = false := keep_frozen hb2 (by first | omega | (simp <;> omega)) (by simp [go_sem, *])
    have x2_2_3 : w2.cell? ⟨w.heap.size + 1 + 1, 3, none⟩ = some (.int .i64 0) := keep_cell hb2 (by simp [go_sem, *])
    have f2_2_3 : w2.frozen? ⟨w.heap.size + 1 + 1, 3, none⟩ = false := keep_frozen hb2 (by first | omega | (simp <;> omega)) (by simp [go_sem, *])
    have x2_2_4 : w2.cell? ⟨w.heap.size + 1 + 1, 4, none⟩ = some (.slice none 0 0) := keep_cell hb2 (by simp [go_sem, *])
    have f2_2_4 : w2.frozen? ⟨w.heap.size + 1 + 1, 4, none⟩ = false := keep_frozen hb2 (by first | omega | (simp <;> omega)) (by simp [go_sem, *])
    have y2_2 : w.heap.size + 1 + 1 < w2.heap.size := cell?_lt x2_2_0
    have g2 : Below w.heap.size w w2 := by (repeat (first | exact Below.refl _ _ | refine Below.drew ?_ | refine Below.allocS ?_ _ | refine Below.step ?_ (by assumption) | refine Below.setCell ?_ (by simp <;> omega) _ | refine Below.drewN' ?_ _))
    clear hb2 g1 x1_0_0 x1_0_1 x1_1_0 x1_1_1 x1_1_2 x1_1_3 x1_2_0 f1_2_0 x1_2_1 f1_2_1 x1_2_2 f1_2_2 x1_2_3 f1_2_3 x1_2_4 f1_2_4 y1_0 y1_1 y1_2
    go_wp2_with fail
    refine (H3.out _).mono ?_
    rintro e w' ⟨rfl, hw'⟩; replace hw' := hw'.symm; subst hw'
    go_wp2
    (try simp only [Exit.inBlock, Exit.then])
    refine bodyPost_ret (res_set5 rfl _ _ (w.heap.size + 1 + 1) _ _ _ _ _ rfl x2_2_0 x2_2_1 x2_2_2 x2_2_3 x2_2_4) rfl ?_
    exact ⟨Or.inr ⟨HW.out.1, by rw [HW.out.2]; rfl⟩, by (repeat (first | (with_reducible exact Below.refl _ _) | (with_reducible assumption) | (with_reducible refine Below.drew ?_) | (with_reducible refine Below.allocS ?_ _) | (with_reducible refine Below.setCell ?_ ?_ _) | (with_reducible refine Below.step ?_ (by assumption)) | (with_reducible refine Below.drewN' ?_ _))); (try any_goals (first | (with_reducible assumption) | (simp; done) | (simp; omega) | omega))⟩
  have hat := within_true h3
  rw [h3] at H3
  have HK := Lib.hid (show wiK x s at' = (wiL x s at').all okDay by unfold wiK; rw [hV]; rfl)
  have HV := Lib.hid hV
  have HL := Lib.hid (show (wiL x s at').length = x.xs.length by unfold wiL; rw [List.length_map])
  clear h3 hV
  obtain ⟨b, off, hA, hb0, hc⟩ := HX.out (by have := HT.out.2.1; omega)
  have HCc := Lib.hid hc
  rw [hA]
  rw [hA] at H1
  clear hA hc HX
  go_enter Try.func26, Try.ntmps26
  go_wp2_with fail
  refine (H1.out _ (by (repeat (first | exact Below.refl _ _ | refine Below.drew ?_ | refine Below.allocS ?_ _ | refine Below.step ?_ (by assumption) | refine Below.setCell ?_ (by simp <;> omega) _ | refine Below.drewN' ?_ _)))).mono ?_
  rintro e w1 ⟨rfl, hb1⟩
  have x1_0_0 : w1.cell? ⟨w.heap.size, 0, none⟩ = some (.slice (some ⟨b, off, none⟩) x.xs.length x.ca) := keep_cell hb1 (by simp [go_sem, *])
  have x1_0_1 : w1.cell? ⟨w.heap.size, 1, none⟩ = some (.int .i64 x.e) := keep_cell hb1 (by simp [go_sem, *])
  have y1_0 : w.heap.size < w1.heap.size := cell?_lt x1_0_0
  have x1_1_0 : w1.cell? ⟨w.heap.size + 1, 0, none⟩ = some (.string s.nm) := keep_cell hb1 (by simp [go_sem, *])
  have x1_1_1 : w1.cell? ⟨w.heap.size + 1, 1, none⟩ = some (.int .i64 s.a) := keep_cell hb1 (by simp [go_sem, *])
  have x1_1_2 : w1.cell? ⟨w.heap.size + 1, 2, none⟩ = some (.int .i64 s.b) := keep_cell hb1 (by simp [go_sem, *])
  have x1_1_3 : w1.cell? ⟨w.heap.size + 1, 3, none⟩ = some (.int .i64 s.c) := keep_cell hb1 (by simp [go_sem, *])
  have y1_1 : w.heap.size + 1 < w1.heap.size := cell?_lt x1_1_0
  have x1_2_0 : w1.cell? ⟨w.heap.size + 1 + 1, 0, none⟩ = some (.string ⟨#[]⟩) := keep_cell hb1 (by simp [go_sem, *])
  have f1_2_0 : w1.frozen? ⟨w.heap.size + 1 + 1, 0, none⟩ = false := keep_frozen hb1 (by first | omega | (simp <;> omega)) (by simp [go_sem, *])
  have x1_2_1 : w1.cell? ⟨w.heap.size + 1 + 1, 1, none⟩ = some (.int .i64 0) := keep_cell hb1 (by simp [go_sem, *])
  have f1_2_1 : w1.frozen? ⟨w.heap.size + 1 + 1, 1, none⟩ = false := keep_frozen hb1 (by first | omega | (simp <;> omega)) (by simp [go_sem, *])
  have x1_2_2 : w1.cell? ⟨w.heap.size + 1 + 1, 2, none⟩ = some (.int .i64 0) := keep_cell hb1 (by simp [go_sem, *])
  have f1_2_2 : w1.frozen? ⟨w.heap.size + 1 + 1, 2, none⟩ = false := keep_frozen hb1 (by first | omega | (simp <;> omega)) (by simp [go_sem, *])
  have x1_2_3 : w1.cell? ⟨w.heap.size + 1 + 1, 3, none⟩ = some (.int .i64 0) := keep_cell hb1 (by simp [go_sem, *])
  have f1_2_3 : w1.frozen? ⟨w.heap.size + 1 + 1, 3, none⟩ = false := keep_frozen hb1 (by first | omega | (simp <;> omega)) (by simp [go_sem, *])
  have x1_2_4 : w1.cell? ⟨w.heap.size + 1 + 1, 4, none⟩ = some (.slice none 0 0) := keep_cell hb1 (by simp [go_sem, *])
  have f1_2_4 : w1.frozen? ⟨w.heap.size + 1 + 1, 4, none⟩ = false := keep_frozen hb1 (by first | omega | (simp <;> omega)) (by simp [go_sem, *])
  have y1_2 : w.heap.size + 1 + 1 < w1.heap.size := cell?_lt x1_2_0
  have g1 : Below w.heap.size w w1 := by (repeat (first | exact Below.refl _ _ | refine Below.drew ?_ | refine Below.allocS ?_ _ | refine Below.step ?_ (by assumption) | refine Below.setCell ?_ (by simp <;> omega) _ | refine Below.drewN' ?_ _))
  clear hb1
  go_wp2_with fail
  refine (H2.out _).mono ?_
  rintro e w2 ⟨rfl, hb2⟩
  have x2_0_0 : w2.cell? ⟨w.heap.size, 0, none⟩ = some (.slice (some ⟨b, off, none⟩) x.xs.length x.ca) := keep_cell hb2 (by simp [go_sem, *])
  have x2_0_1 : w2.cell? ⟨w.heap.size, 1, none⟩ = some (.int .i64 x.e) := keep_cell hb2 (by simp [go_sem, *])
  have y2_0 : w.heap.size < w2.heap.size := cell?_lt x2_0_0
  have x2_1_0 : w2.cell? ⟨w.heap.size + 1, 0, none⟩ = some (.string s.nm) := keep_cell hb2 (by simp [go_sem, *])
  have x2_1_1 : w2.cell? ⟨w.heap.size + 1, 1, none⟩ = some (.int .i64 s.a) := keep_cell hb2 (by simp [go_sem, *])
  have x2_1_2 : w2.cell? ⟨w.heap.size + 1, 2, none⟩ = some (.int .i64 s.b) := keep_cell hb2 (by simp [go_sem, *])
  have x2_1_3 : w2.cell? ⟨w.heap.size + 1, 3, none⟩ = some (.int .i64 s.c) := keep_cell hb2 (by simp [go_sem, *])
  have y2_1 : w.heap.size + 1 < w2.heap.size := cell?_lt x2_1_0
  have x2_2_0 : w2.cell? ⟨w.heap.size + 1 + 1, 0, none⟩ = some (.string ⟨#[]⟩) := keep_cell hb2 (by simp [go_sem, *])
  have f2_2_0 : w2.frozen? ⟨w.heap.size + 1 + 1, 0, none⟩ = false := keep_frozen hb2 (by first | omega | (simp <;> omega)) (by simp [go_sem, *])
  have x2_2_1 : w2.cell? ⟨w.heap.size + 1 + 1, 1, none⟩ = some (.int .i64 0) := keep_cell hb2 (by simp [go_sem, *])
  have f2_2_1 : w2.frozen? ⟨w.heap.size + 1 + 1, 1, none⟩ = false := keep_frozen hb2 (by first | omega | (simp <;> omega)) (by simp [go_sem, *])
  have x2_2_2 : w2.cell? ⟨w.heap.size + 1 + 1, 2, none⟩ = some (.int .i64 0) := keep_cell hb2 (by simp [go_sem, *])
  have f2_2_2 : w2.frozen? ⟨w.heap.size + 1 + 1, 2, none⟩ = false := keep_frozen hb2 (by first | omega | (simp <;> omega)) (by simp [go_sem, *])
  have x2_2_3 : w2.cell? ⟨w.heap.size + 1 + 1, 3, none⟩ = some (.int .i64 0) := keep_cell hb2 (by simp [go_sem, *])
  have f2_2_3 : w2.frozen? ⟨w.heap.size + 1 + 1, 3, none⟩ = false := keep_frozen hb2 (by first | omega | (simp <;> omega)) (by simp [go_sem, *])
  have x2_2_4 : w2.cell? ⟨w.heap.size + 1 + 1, 4, none⟩ = some (.slice none 0 0) := keep_cell hb2 (by simp [go_sem, *])
  have f2_2_4 : w2.frozen? ⟨w.heap.size + 1 + 1, 4, none⟩ = false := keep_frozen hb2 (by first | omega | (simp <;> omega)) (by simp [go_sem, *])
  have y2_2 : w.heap.size + 1 + 1 < w2.heap.size := cell?_lt x2_2_0
  have g2 : Below w.heap.size w w2 := by (repeat (first | exact Below.refl _ _ | refine Below.drew ?_ | refine Below.allocS ?_ _ | refine Below.step ?_ (by assumption) | refine Below.setCell ?_ (by simp <;> omega) _ | refine Below.drewN' ?_ _))
  clear hb2 g1 x1_0_0 x1_0_1 x1_1_0 x1_1_1 x1_1_2 x1_1_3 x1_2_0 f1_2_0 x1_2_1 f1_2_1 x1_2_2 f1_2_2 x1_2_3 f1_2_3 x1_2_4 f1_2_4 y1_0 y1_1 y1_2
  go_wp2_with fail
  refine (H3.out _).mono ?_
  rintro e w' ⟨rfl, hw'⟩; replace hw' := hw'.symm; subst hw'
  clear H1 H2 H3
  go_wp2
  have hT0 : w.heap.size + 1 + 1 < w2.heap.size := y2_2
  go_loopw [32] (fun i wr => ∃ (k : Nat) (v8 : Value), k ≤ x.xs.length ∧ i = .int .i64 k ∧ wr.cell? ⟨w.heap.size + 1, 3, none⟩ = some (.int .i64 s.c) ∧
    (wr.cell? ⟨w.heap.size + 1 + 1, 0, none⟩ = some (.string ⟨#[]⟩) ∧ wr.cell? ⟨w.heap.size + 1 + 1, 1, none⟩ = some (.int .i64 0) ∧ wr.cell? ⟨w.heap.size + 1 + 1, 2, none⟩ = some (.int .i64 0) ∧ wr.cell? ⟨w.heap.size + 1 + 1, 3, none⟩ = some (.int .i64 0) ∧ wr.cell? ⟨w.heap.size + 1 + 1, 4, none⟩ = some (.slice none 0 0)) ∧
    (wr.frozen? ⟨w.heap.size + 1 + 1, 0, none⟩ = false ∧ wr.frozen? ⟨w.heap.size + 1 + 1, 1, none⟩ = false ∧ wr.frozen? ⟨w.heap.size + 1 + 1, 2, none⟩ = false ∧ wr.frozen? ⟨w.heap.size + 1 + 1, 3, none⟩ = false ∧ wr.frozen? ⟨w.heap.size + 1 + 1, 4, none⟩ = false) ∧
    (wr.cell? ⟨w2.heap.size, 0, none⟩ = some (.string s.nm) ∧ wr.cell? ⟨w2.heap.size, 1, none⟩ = some (.int .i64 s.a) ∧ wr.cell? ⟨w2.heap.size, 2, none⟩ = some (.int .i64 s.b) ∧ wr.cell? ⟨w2.heap.size, 3, none⟩ = some (.int .i64 s.c) ∧ wr.cell? ⟨w2.heap.size, 4, none⟩ = some v8) ∧
    wr.frozen? ⟨w2.heap.size, 4, none⟩ = false ∧ wr.ownsRow (w2.heap.size + 1) 3 1 v8 k (((wiL x s at').take k).flatMap inE) ∧ w2.heap.size + 1 ≤ wr.heap.size ∧ Below w.heap.size w wr ∧ ((wiL x s at').take k).all okDay = true) (fun i _ => x.xs.length - (intOf i).toNat)
  case atStart => exact ⟨0, .slice none 0 0, Nat.zero_le _, rfl, by simp [go_sem, *], ⟨by simp [go_sem, *], by simp [go_sem, *], by simp [go_sem, *], by simp [go_sem, *], by simp [go_sem, *]⟩, ⟨by simp [go_sem, *], by simp [go_sem, *], by simp [go_sem, *], by simp [go_sem, *], by simp [go_sem, *]⟩, ⟨by simp [go_sem, *], by simp [go_sem, *], by simp [go_sem, *], by simp [go_sem, *], by simp [go_sem, *]⟩, by simp [go_sem, *], World.ownsRow_nil _ _ _ _, by simp, by (repeat (first | (with_reducible exact Below.refl _ _) | (with_reducible assumption) | (with_reducible refine Below.drew ?_) | (with_reducible refine Below.allocS ?_ _) | (with_reducible refine Below.setCell ?_ ?_ _) | (with_reducible refine Below.step ?_ (by assumption)) | (with_reducible refine Below.drewN' ?_ _))); (try any_goals (first | (with_reducible assumption) | (simp; done) | (simp; omega) | omega)), rfl⟩
  case round =>
    obtain ⟨k, v8, hk, rfl, m0, ⟨p0, p1, p2, p3, p4⟩, ⟨f0, f1, f2, f3, f4⟩, ⟨q0, q1, q2, q3, q4⟩, fq, hown, hsz, hbw, hall⟩ := hrel
    obtain ⟨A8, c8, rfl, -, -⟩ := row_form hown
    have h7 : x.xs.length ≤ 7 := HT.out.2.2
    have HO := Lib.hid hown
    have HA := Lib.hid hall
    clear hown hall
    by_cases hlt : k < x.xs.length
    · have c0 := (hbw.cell (p := ⟨b, _, none⟩) hb0).trans (HCc.out k hlt 0 _ rfl)
      simp at c0
      have e0 : x.xs[k] = x.xs.getD k 0 := by rw [List.getD_eq_getElem?_getD, List.getElem?_eq_getElem hlt]; rfl
      rw [e0] at c0
      clear e0
      have hx' := HT.out.1 k hlt
      have hbd := wiT_bd (at' := at') hx'.1 hx'.2 HC.out.1 HC.out.2
      have hg := wi_get (x := x) (s := s) (at' := at') hlt
      have HD : Hid (∀ W, Calls Try.prog 59 #[.int .i64 (x.xs.getD k 0 * s.c), .int .i64 1000] W fun e w' => e = .returned (.int .i64 (x.xs.getD k 0 * s.c / 1000)) ∧ w' = W) := Lib.hid (fun W => down_c _ 1000 (by omega) (by omega) (by omega) (by omega) W)
      have v1 : IntKind.i64.wrap (x.xs.getD k 0 * s.c) = x.xs.getD k 0 * s.c := IntWalk.i64_in _ (by omega)
      have v2 : IntKind.i64.wrap (at' + x.xs.getD k 0 * s.c / 1000) = at' + x.xs.getD k 0 * s.c / 1000 := IntWalk.i64_in _ (by unfold wiT at hbd; omega)
      have ht : (wiL x s at').take (k + 1) = (wiL x s at').take k ++ [wiT at' s.c (x.xs.getD k 0)] := by
        rw [List.take_succ_eq_append_getElem (by rw [HL.out]; exact hlt), ← hg, List.getD_eq_getElem?_getD, List.getElem?_eq_getElem (by rw [HL.out]; exact hlt)]; rfl
      have HTk := Lib.hid ht
      have hmem : wiT at' s.c (x.xs.getD k 0) ∈ wiL x s at' := by rw [← hg, List.getD_eq_getElem?_getD, List.getElem?_eq_getElem (by rw [HL.out]; exact hlt)]; exact List.getElem_mem _
      have HM := Lib.hid hmem
      clear hbd hg ht hmem hx'
      unfold wiT at HTk HM
      generalize x.xs.getD k 0 = n at *
      have HI := Lib.hid (fun W => within_c (at' + n * s.c / 1000) 0 86399999 W)
      cases hp : within (at' + n * s.c / 1000) 0 86399999
      · rw [hp] at HI
        have HF := Lib.hid (show wiK x s at' = false by
          rw [HK.out]
          cases ha : (wiL x s at').all okDay with
          | false => rfl
          | true => have := List.all_eq_true.1 ha _ HM.out; unfold okDay at this; rw [hp] at this; cases this)
        clear hp HTk HM HA HO
        go_wp2_with fail
        refine (HD.out _).mono ?_
        rintro e w' ⟨rfl, hw'⟩; replace hw' := hw'.symm; subst hw'
        go_wp2_with fail
        refine (HI.out _).mono ?_
        rintro e w' ⟨rfl, hw'⟩; replace hw' := hw'.symm; subst hw'
        go_wp2
        (try simp only [Exit.inBlock, Exit.then])
        refine bodyPost_ret (res_set5 rfl _ _ (w.heap.size + 1 + 1) _ _ _ _ _ rfl p0 p1 p2 p3 p4) rfl ?_
        exact ⟨Or.inr ⟨HF.out, by rw [HV.out]; rfl⟩, by (repeat (first | (with_reducible exact Below.refl _ _) | (with_reducible assumption) | (with_reducible refine Below.drew ?_) | (with_reducible refine Below.allocS ?_ _) | (with_reducible refine Below.setCell ?_ ?_ _) | (with_reducible refine Below.step ?_ (by assumption)) | (with_reducible refine Below.drewN' ?_ _))); (try any_goals (first | (with_reducible assumption) | (simp; done) | (simp; omega) | omega))⟩
      · rw [hp] at HI
        have HP := Lib.hid (show okDay (at' + n * s.c / 1000) = true from hp)
        clear hp HM
        go_wp2_with fail
        refine (HD.out _).mono ?_
        rintro e w' ⟨rfl, hw'⟩; replace hw' := hw'.symm; subst hw'
        go_wp2_with fail
        refine (HI.out _).mono ?_
        rintro e w' ⟨rfl, hw'⟩; replace hw' := hw'.symm; subst hw'
        have hln : ((wiL x s at').take k).length = k := by rw [List.length_take, HL.out]; omega
        have y1 : w.heap.size + 1 < wr.heap.size := cell?_lt m0
        have y2 : w.heap.size + 1 + 1 < wr.heap.size := cell?_lt p0
        have y3 : w2.heap.size < wr.heap.size := cell?_lt q0
        have hba : w2.heap.size + 1 ≤ (wr.alloc (.cells #[.int .i64 (at' + n * s.c / 1000)] 3)).heap.size := by simp; omega
        have hce : (wr.alloc (.cells #[.int .i64 (at' + n * s.c / 1000)] 3)).cell? ⟨wr.heap.size, 0, none⟩ = some (.int .i64 (at' + n * s.c / 1000)) := by simp [go_sem]
        go_wp2_with (at_builtin; refine wpList_app rfl (.tmp 48) (.tmp 50) 22 rfl _ _ rfl rfl (app_run appI _ (at' + n * s.c / 1000) k hln (by have := HT.out.2.2; omega) _ (w2.heap.size + 1) wr.heap.size _ (HO.out.alloc _) hba (one_cell rfl hce)) ?_; rintro v5 w5 ⟨hown5, hbel5⟩; obtain ⟨A5, c5, rfl, -, -⟩ := row_form hown5; have HO5 := Lib.hid hown5; clear hown5; have hsz5 : w2.heap.size + 1 ≤ w5.heap.size := (by have := hbel5.size; omega); have hB5 : Below w.heap.size w w5 := Below.low (Below.allocS hbw _) hbel5 (by omega); have n0 : w5.cell? ⟨w.heap.size + 1, 3, none⟩ = some (.int .i64 s.c) := low_at hbel5 (by omega) (by simp [go_sem, *]); have n1 : w5.cell? ⟨w.heap.size + 1 + 1, 0, none⟩ = some (.string ⟨#[]⟩) := low_at hbel5 (by omega) (by simp [go_sem, *]); have n2 : w5.cell? ⟨w.heap.size + 1 + 1, 1, none⟩ = some (.int .i64 0) := low_at hbel5 (by omega) (by simp [go_sem, *]); have n3 : w5.cell? ⟨w.heap.size + 1 + 1, 2, none⟩ = some (.int .i64 0) := low_at hbel5 (by omega) (by simp [go_sem, *]); have n4 : w5.cell? ⟨w.heap.size + 1 + 1, 3, none⟩ = some (.int .i64 0) := low_at hbel5 (by omega) (by simp [go_sem, *]); have n5 : w5.cell? ⟨w.heap.size + 1 + 1, 4, none⟩ = some (.slice none 0 0) := low_at hbel5 (by omega) (by simp [go_sem, *]); have r0 : w5.frozen? ⟨w.heap.size + 1 + 1, 0, none⟩ = false := low_frozen hbel5 (by omega) (by simp [go_sem, *]); have r1 : w5.frozen? ⟨w.heap.size + 1 + 1, 1, none⟩ = false := low_frozen hbel5 (by omega) (by simp [go_sem, *]); have r2 : w5.frozen? ⟨w.heap.size + 1 + 1, 2, none⟩ = false := low_frozen hbel5 (by omega) (by simp [go_sem, *]); have r3 : w5.frozen? ⟨w.heap.size + 1 + 1, 3, none⟩ = false := low_frozen hbel5 (by omega) (by simp [go_sem, *]); have r4 : w5.frozen? ⟨w.heap.size + 1 + 1, 4, none⟩ = false := low_frozen hbel5 (by omega) (by simp [go_sem, *]); have s0 : w5.cell? ⟨w2.heap.size, 0, none⟩ = some (.string s.nm) := low_at hbel5 (by omega) (by simp [go_sem, *]); have s1 : w5.cell? ⟨w2.heap.size, 1, none⟩ = some (.int .i64 s.a) := low_at hbel5 (by omega) (by simp [go_sem, *]); have s2 : w5.cell? ⟨w2.heap.size, 2, none⟩ = some (.int .i64 s.b) := low_at hbel5 (by omega) (by simp [go_sem, *]); have s3 : w5.cell? ⟨w2.heap.size, 3, none⟩ = some (.int .i64 s.c) := low_at hbel5 (by omega) (by simp [go_sem, *]); have s4 : w5.cell? ⟨w2.heap.size, 4, none⟩ = some (.slice A8 k c8) := low_at hbel5 (by omega) (by simp [go_sem, *]); have r5 : w5.frozen? ⟨w2.heap.size, 4, none⟩ = false := low_frozen hbel5 (by omega) (by simp [go_sem, *]); clear hbel5)
        go_roundw
        case rel => exact ⟨k + 1, .slice A5 (k + 1) c5, by omega, by go_num, by simp [go_sem, *], ⟨by simp [go_sem, *], by simp [go_sem, *], by simp [go_sem, *], by simp [go_sem, *], by simp [go_sem, *]⟩, ⟨by simp [go_sem, *], by simp [go_sem, *], by simp [go_sem, *], by simp [go_sem, *], by simp [go_sem, *]⟩, ⟨by simp [go_sem, *], by simp [go_sem, *], by simp [go_sem, *], by simp [go_sem, *], by simp [go_sem, *]⟩, by simp [go_sem, *], by rw [HTk.out]; exact ownsRow_setCell_below HO5.out (by simp) _, by simpa using hsz5, by (repeat (first | (with_reducible exact Below.refl _ _) | (with_reducible assumption) | (with_reducible refine Below.drew ?_) | (with_reducible refine Below.allocS ?_ _) | (with_reducible refine Below.setCell ?_ ?_ _) | (with_reducible refine Below.step ?_ (by assumption)) | (with_reducible refine Below.drewN' ?_ _))); (try any_goals (first | (with_reducible assumption) | (simp; done) | (simp; omega) | omega)), by rw [HTk.out, List.all_append, HA.out]; simp [HP.out]⟩
        case measure => simp [intOf]; omega
    · obtain rfl : k = x.xs.length := by omega
      have hall := HA.out
      rw [List.take_of_length_le (by rw [HL.out]; exact Nat.le_refl _)] at hall HO
      have HF := Lib.hid (show wiK x s at' = true by rw [HK.out]; exact hall)
      clear hall HA
      go_wp2
      (try simp only [Exit.inBlock, Exit.then])
      refine bodyPost_ret (res_set5 rfl _ _ (w.heap.size + 1 + 1) _ _ _ _ _ rfl p0 p1 p2 p3 p4) rfl ?_
      have hO := ownsRow_setCell_below (a := ⟨w.heap.size + 1 + 1, 4, none⟩) (ownsRow_setCell_below (a := ⟨w.heap.size + 1 + 1, 3, none⟩) (ownsRow_setCell_below (a := ⟨w.heap.size + 1 + 1, 2, none⟩) (ownsRow_setCell_below (a := ⟨w.heap.size + 1 + 1, 1, none⟩) (ownsRow_setCell_below (a := ⟨w.heap.size + 1 + 1, 0, none⟩) HO.out (by simp only; omega) (.string s.nm)) (by simp only; omega) (.int .i64 s.a)) (by simp only; omega) (.int .i64 s.b)) (by simp only; omega) (.int .i64 s.c)) (by simp only; omega) (.slice A8 x.xs.length c8)
      have hI := IsSl.of_row (enc := inE) (l := wiL x s at') (fun _ => rfl) hO HL.out
      clear hO
      exact ⟨Or.inl ⟨HF.out, _, rfl, hI⟩, by (repeat (first | (with_reducible exact Below.refl _ _) | (with_reducible assumption) | (with_reducible refine Below.drew ?_) | (with_reducible refine Below.allocS ?_ _) | (with_reducible refine Below.setCell ?_ ?_ _) | (with_reducible refine Below.step ?_ (by assumption)) | (with_reducible refine Below.drewN' ?_ _))); (try any_goals (first | (with_reducible assumption) | (simp; done) | (simp; omega) | omega))⟩
end Go.Proofs.Ytbcabckokmjelaa
