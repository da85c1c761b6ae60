/-
  awake9 is true.
-/
import Derived.Test.YtagbokhmcidokaaFh2
namespace Go.Proofs.Ytagbokhmcidokaa
open Go.RowKit Go.Deep
set_option linter.unusedVariables false
set_option linter.unusedSimpArgs false
set_option maxHeartbeats 4000000 in
set_option maxRecDepth 100000 in
theorem awake9_c (w : World) : Calls Try.prog 10 #[] w fun e w' => e = .returned (.bool true) ∧ Below w.heap.size w w' := by
  have HT := Lib.hid (fun (W : World) (c : Nat) => Trial_c (some ⟨W.heap.size, 0, none⟩) 15 (W.alloc (.cells (bxE.flatMap inE).toArray 3)) (RdL.new W _ inE 1 bxE (fun _ => rfl)))
  have HH := Lib.hid (fun (W : World) (c : Nat) => Hoist_c (some ⟨W.heap.size, 0, none⟩) 4 (W.alloc (.cells (ones.flatMap inE).toArray 3)) (RdL.new W _ inE 1 ones (fun _ => rfl)))
  have HW := Lib.hid (fun W => Word3_c W)
  rw [show (bxE.flatMap inE).toArray = #[.int .i64 0, .int .i64 7, .int .i64 14, .int .i64 21, .int .i64 28, .int .i64 35, .int .i64 42, .int .i64 49, .int .i64 57, .int .i64 65, .int .i64 73, .int .i64 81, .int .i64 89, .int .i64 97, .int .i64 105] from rfl] at HT
  rw [show (ones.flatMap inE).toArray = #[.int .i64 1, .int .i64 1, .int .i64 1, .int .i64 1] from rfl] at HH
  go_enter Try.func10, Try.ntmps10
  go_wp2_with fail
  (with_reducible refine (HT.out _ 0).mono ?_)
  rintro e w1 ⟨rfl, hb1⟩
  have g1 : Below w.heap.size w w1 := Below.step (by (repeat (first | (with_reducible exact Below.refl _ _) | (with_reducible assumption) | (with_reducible refine Below.drew ?_) | (with_reducible refine Below.allocS ?_ _) | (with_reducible refine Below.setCell ?_ ?_ _) | (with_reducible refine Below.step ?_ (by assumption)) | (with_reducible refine Below.drewN' ?_ _))); (try any_goals (first | (with_reducible assumption) | (simp; done) | (simp; omega) | omega))) hb1
  clear hb1 HT
  have HH1 := HH.out (w1.alloc (.cells #[.string ⟨#[97]⟩, .int .i64 49, .int .i64 56, .int .i64 7, .int .i64 21] 85)) 0
  rw [World.size_alloc] at HH1
  have HH2 := Lib.hid HH1
  clear HH1 HH
  go_wp2_with fail
  (with_reducible refine (HH2.out).mono ?_)
  rintro e w2 ⟨A2, c2, rfl, ⟨h2, hc2⟩, hb2⟩
  have t4 : w2.cell? ⟨w1.heap.size, 4, none⟩ = some (.int .i64 21) := keep_cell hb2 (by simp [go_sem])
  have g2 : Below w.heap.size w w2 := Below.step (by (repeat (first | (with_reducible exact Below.refl _ _) | (with_reducible assumption) | (with_reducible refine Below.drew ?_) | (with_reducible refine Below.allocS ?_ _) | (with_reducible refine Below.setCell ?_ ?_ _) | (with_reducible refine Below.step ?_ (by assumption)) | (with_reducible refine Below.drewN' ?_ _))); (try any_goals (first | (with_reducible assumption) | (simp; done) | (simp; omega) | omega))) hb2
  clear hb2 HH2 g1
  have HS := Lib.hid (SameInts_c hst hst 4 4 rfl rfl A2 (some ⟨w2.heap.size, 0, none⟩) c2 4 (by decide) (w2.alloc (.cells (hst.flatMap inE).toArray 3)) (h2.step (by (repeat (first | (with_reducible exact Below.refl _ _) | (with_reducible assumption) | (with_reducible refine Below.drew ?_) | (with_reducible refine Below.allocS ?_ _) | (with_reducible refine Below.setCell ?_ ?_ _) | (with_reducible refine Below.step ?_ (by assumption)) | (with_reducible refine Below.drewN' ?_ _))); (try any_goals (first | (with_reducible assumption) | (simp; done) | (simp; omega) | omega)))) (RdL.new w2 _ inE 1 hst (fun _ => rfl)))
  rw [show decide (hst = hst) = true by decide] at HS
  rw [show (hst.flatMap inE).toArray = #[.int .i64 1, .int .i64 10, .int .i64 11, .int .i64 12] from rfl] at HS
  clear h2 hc2
  go_wp2_with fail
  (with_reducible refine (HS.out).mono ?_)
  rintro e w3 ⟨rfl, hb3⟩
  go_wp2_with fail
  (with_reducible refine (HW.out _).mono ?_)
  rintro e w4 ⟨rfl, rfl⟩
  have g3 : Below w.heap.size w w4 := Below.step (by (repeat (first | (with_reducible exact Below.refl _ _) | (with_reducible assumption) | (with_reducible refine Below.drew ?_) | (with_reducible refine Below.allocS ?_ _) | (with_reducible refine Below.setCell ?_ ?_ _) | (with_reducible refine Below.step ?_ (by assumption)) | (with_reducible refine Below.drewN' ?_ _))); (try any_goals (first | (with_reducible assumption) | (simp; done) | (simp; omega) | omega))) hb3
  go_wp2
  go_ret
  exact ⟨rfl, g3⟩
end Go.Proofs.Ytagbokhmcidokaa
