/-
  A star's line, by transit and by the reference.
-/
import Derived.Test.YtimbdnngeoccdaaDoorTx3
import Derived.Test.YtimbdnngeoccdaaDoorTt1
namespace Go.Proofs.YtimbdnngeoccdaaDoor
open Go.RowKit Go.Deep
set_option linter.unusedVariables false
set_option linter.unusedSimpArgs false
theorem line_str (x : St) : x.nm ++ str [32] ++ str (Lib.itoa x.a) ++ str [32] ++ str (Lib.itoa x.b) ++ str [32] ++ str (Lib.itoa x.c) ++ str [10] = str (fmS.line x) := by
  rw [show x.nm = str x.nm.data.toList from (str_eta _).symm]
  simp only [str_append]
  show _ = str (bodyS x ++ [10])
  unfold bodyS
  congr 1
  simp [str]
set_option maxHeartbeats 2000000 in
set_option maxRecDepth 100000 in
theorem written_c (x : St) (hn : x.nm.size ≤ 70000) (ra : I64 x.a) (rb : I64 x.b) (rc : I64 x.c) (w : World) (hE : Env w) :
    Calls Tryd.prog 26 #[.agg #[.string x.nm, .int .i64 x.a, .int .i64 x.b, .int .i64 x.c]] w fun e w' => e = .returned (.string (str (fmS.line x))) ∧ Below w.heap.size w w' := by
  obtain ⟨a0, a1⟩ := ra
  obtain ⟨b0, b1⟩ := rb
  obtain ⟨c0, c1⟩ := rc
  have HI := Lib.hid (fun n (h0 : -9223372036854775808 ≤ n) (h1 : n ≤ 9223372036854775807) W (hb : Below w.heap.size w W) => itoa_c n h0 h1 W (hE.step hb))
  have s1 : (str (Lib.itoa x.a)).size ≤ 22 := by rw [size_str]; have := itoa_len 18 x.a (by omega); omega
  have s2 : (str (Lib.itoa x.b)).size ≤ 22 := by rw [size_str]; have := itoa_len 18 x.b (by omega); omega
  have s3 : (str (Lib.itoa x.c)).size ≤ 22 := by rw [size_str]; have := itoa_len 18 x.c (by omega); omega
  have I1 := Lib.hid (fun W hb => HI.out x.a a0 a1 W hb)
  have I2 := Lib.hid (fun W hb => HI.out x.b b0 b1 W hb)
  have I3 := Lib.hid (fun W hb => HI.out x.c c0 c1 W hb)
  have HL := Lib.hid (line_str x)
  clear HI hE
  go_enter Tryd.func26, Tryd.ntmps26
  go_wp2
  generalize str (Lib.itoa x.a) = p1 at *
  generalize str (Lib.itoa x.b) = p2 at *
  generalize str (Lib.itoa x.c) = p3 at *
  have n1 : ¬ 9223372036854775807 < x.nm.size + 1 := by omega
  have n2 : ¬ 9223372036854775807 < x.nm.size + 1 + p1.size := by omega
  have n3 : ¬ 9223372036854775807 < x.nm.size + 1 + p1.size + 1 := by omega
  have n4 : ¬ 9223372036854775807 < x.nm.size + 1 + p1.size + 1 + p2.size := by omega
  have n5 : ¬ 9223372036854775807 < x.nm.size + 1 + p1.size + 1 + p2.size + 1 := by omega
  have n6 : ¬ 9223372036854775807 < x.nm.size + 1 + p1.size + 1 + p2.size + 1 + p3.size := by omega
  have n7 : ¬ 9223372036854775807 < x.nm.size + 1 + p1.size + 1 + p2.size + 1 + p3.size + 1 := by omega
  refine region_below (by kernel_rfl) (by kernel_rfl) ?_
  (first | go_big_quiet_skip | (go_big_quiet_want; refine quiet_val (v := ?_) ?_ ?_; rotate_left 1; (· (intro Wq hWq; obtain ⟨hWc, hWf⟩ := bcell hWq; go_simp; (try with_reducible rfl))); go_big_quiet_on; (try simp only [Act.put, List.setIfInBounds_toArray, List.set_cons_zero, List.set_cons_succ])))
  (first | go_big_quiet_skip | (go_big_quiet_want; refine quiet_val (v := ?_) ?_ ?_; rotate_left 1; (· (intro Wq hWq; obtain ⟨hWc, hWf⟩ := bcell hWq; go_simp; (try with_reducible rfl))); go_big_quiet_on; (try simp only [Act.put, List.setIfInBounds_toArray, List.set_cons_zero, List.set_cons_succ])))
  (first | go_big_quiet_skip | (go_big_quiet_want; refine quiet_val (v := ?_) ?_ ?_; rotate_left 1; (· (intro Wq hWq; obtain ⟨hWc, hWf⟩ := bcell hWq; go_simp; (try with_reducible rfl))); go_big_quiet_on; (try simp only [Act.put, List.setIfInBounds_toArray, List.set_cons_zero, List.set_cons_succ])))
  (first | go_big_quiet_skip | (go_big_quiet_want; refine quiet_val (v := ?_) ?_ ?_; rotate_left 1; (· (intro Wq hWq; obtain ⟨hWc, hWf⟩ := bcell hWq; go_simp; (try with_reducible rfl))); go_big_quiet_on; (try simp only [Act.put, List.setIfInBounds_toArray, List.set_cons_zero, List.set_cons_succ])))
  (first | go_big_quiet_skip | (go_big_quiet_want; refine quiet_val (v := ?_) ?_ ?_; rotate_left 1; (· (intro Wq hWq; obtain ⟨hWc, hWf⟩ := bcell hWq; go_simp; (try with_reducible rfl))); go_big_quiet_on; (try simp only [Act.put, List.setIfInBounds_toArray, List.set_cons_zero, List.set_cons_succ])))
  go_big_quiet_want; refine quiet_callB (f := 53) (args := ?_) (v := ?_) ?_ ?_ ?_; rotate_left 2
  · (intro Wq hWq; obtain ⟨hWc, hWf⟩ := bcell hWq; go_simp; (first | with_reducible rfl | exact ⟨rfl, rfl⟩))
  · (intro Wq hWq; exact I1.out Wq (by (repeat (first | (with_reducible exact Below.refl _ _) | (with_reducible assumption) | (with_reducible refine Below.drew ?_) | (with_reducible refine Below.allocS ?_ _) | (with_reducible refine Below.setCell ?_ ?_ _) | (with_reducible refine Below.step ?_ (by assumption)) | (with_reducible refine Below.drewN' ?_ _))); (try any_goals (first | (with_reducible assumption) | (simp; done) | (simp; omega) | omega))))
  go_big_quiet_on; (try simp only [Act.put, List.setIfInBounds_toArray, List.set_cons_zero, List.set_cons_succ])
  (first | go_big_quiet_skip | (go_big_quiet_want; refine quiet_val (v := ?_) ?_ ?_; rotate_left 1; (· (intro Wq hWq; obtain ⟨hWc, hWf⟩ := bcell hWq; go_simp; (try with_reducible rfl))); go_big_quiet_on; (try simp only [Act.put, List.setIfInBounds_toArray, List.set_cons_zero, List.set_cons_succ])))
  (first | go_big_quiet_skip | (go_big_quiet_want; refine quiet_val (v := ?_) ?_ ?_; rotate_left 1; (· (intro Wq hWq; obtain ⟨hWc, hWf⟩ := bcell hWq; go_simp; (try with_reducible rfl))); go_big_quiet_on; (try simp only [Act.put, List.setIfInBounds_toArray, List.set_cons_zero, List.set_cons_succ])))
  (first | go_big_quiet_skip | (go_big_quiet_want; refine quiet_val (v := ?_) ?_ ?_; rotate_left 1; (· (intro Wq hWq; obtain ⟨hWc, hWf⟩ := bcell hWq; go_simp; (try with_reducible rfl))); go_big_quiet_on; (try simp only [Act.put, List.setIfInBounds_toArray, List.set_cons_zero, List.set_cons_succ])))
  (first | go_big_quiet_skip | (go_big_quiet_want; refine quiet_val (v := ?_) ?_ ?_; rotate_left 1; (· (intro Wq hWq; obtain ⟨hWc, hWf⟩ := bcell hWq; go_simp; (try with_reducible rfl))); go_big_quiet_on; (try simp only [Act.put, List.setIfInBounds_toArray, List.set_cons_zero, List.set_cons_succ])))
  go_big_quiet_want; refine quiet_callB (f := 53) (args := ?_) (v := ?_) ?_ ?_ ?_; rotate_left 2
  · (intro Wq hWq; obtain ⟨hWc, hWf⟩ := bcell hWq; go_simp; (first | with_reducible rfl | exact ⟨rfl, rfl⟩))
  · (intro Wq hWq; exact I2.out Wq (by (repeat (first | (with_reducible exact Below.refl _ _) | (with_reducible assumption) | (with_reducible refine Below.drew ?_) | (with_reducible refine Below.allocS ?_ _) | (with_reducible refine Below.setCell ?_ ?_ _) | (with_reducible refine Below.step ?_ (by assumption)) | (with_reducible refine Below.drewN' ?_ _))); (try any_goals (first | (with_reducible assumption) | (simp; done) | (simp; omega) | omega))))
  go_big_quiet_on; (try simp only [Act.put, List.setIfInBounds_toArray, List.set_cons_zero, List.set_cons_succ])
  (first | go_big_quiet_skip | (go_big_quiet_want; refine quiet_val (v := ?_) ?_ ?_; rotate_left 1; (· (intro Wq hWq; obtain ⟨hWc, hWf⟩ := bcell hWq; go_simp; (try with_reducible rfl))); go_big_quiet_on; (try simp only [Act.put, List.setIfInBounds_toArray, List.set_cons_zero, List.set_cons_succ])))
  (first | go_big_quiet_skip | (go_big_quiet_want; refine quiet_val (v := ?_) ?_ ?_; rotate_left 1; (· (intro Wq hWq; obtain ⟨hWc, hWf⟩ := bcell hWq; go_simp; (try with_reducible rfl))); go_big_quiet_on; (try simp only [Act.put, List.setIfInBounds_toArray, List.set_cons_zero, List.set_cons_succ])))
  (first | go_big_quiet_skip | (go_big_quiet_want; refine quiet_val (v := ?_) ?_ ?_; rotate_left 1; (· (intro Wq hWq; obtain ⟨hWc, hWf⟩ := bcell hWq; go_simp; (try with_reducible rfl))); go_big_quiet_on; (try simp only [Act.put, List.setIfInBounds_toArray, List.set_cons_zero, List.set_cons_succ])))
  (first | go_big_quiet_skip | (go_big_quiet_want; refine quiet_val (v := ?_) ?_ ?_; rotate_left 1; (· (intro Wq hWq; obtain ⟨hWc, hWf⟩ := bcell hWq; go_simp; (try with_reducible rfl))); go_big_quiet_on; (try simp only [Act.put, List.setIfInBounds_toArray, List.set_cons_zero, List.set_cons_succ])))
  go_big_quiet_want; refine quiet_callB (f := 53) (args := ?_) (v := ?_) ?_ ?_ ?_; rotate_left 2
  · (intro Wq hWq; obtain ⟨hWc, hWf⟩ := bcell hWq; go_simp; (first | with_reducible rfl | exact ⟨rfl, rfl⟩))
  · (intro Wq hWq; exact I3.out Wq (by (repeat (first | (with_reducible exact Below.refl _ _) | (with_reducible assumption) | (with_reducible refine Below.drew ?_) | (with_reducible refine Below.allocS ?_ _) | (with_reducible refine Below.setCell ?_ ?_ _) | (with_reducible refine Below.step ?_ (by assumption)) | (with_reducible refine Below.drewN' ?_ _))); (try any_goals (first | (with_reducible assumption) | (simp; done) | (simp; omega) | omega))))
  go_big_quiet_on; (try simp only [Act.put, List.setIfInBounds_toArray, List.set_cons_zero, List.set_cons_succ])
  (first | go_big_quiet_skip | (go_big_quiet_want; refine quiet_val (v := ?_) ?_ ?_; rotate_left 1; (· (intro Wq hWq; obtain ⟨hWc, hWf⟩ := bcell hWq; go_simp; (try with_reducible rfl))); go_big_quiet_on; (try simp only [Act.put, List.setIfInBounds_toArray, List.set_cons_zero, List.set_cons_succ])))
  (first | go_big_quiet_skip | (go_big_quiet_want; refine quiet_val (v := ?_) ?_ ?_; rotate_left 1; (· (intro Wq hWq; obtain ⟨hWc, hWf⟩ := bcell hWq; go_simp; (try with_reducible rfl))); go_big_quiet_on; (try simp only [Act.put, List.setIfInBounds_toArray, List.set_cons_zero, List.set_cons_succ])))
  (first | go_big_quiet_skip | (go_big_quiet_want; refine quiet_val (v := ?_) ?_ ?_; rotate_left 1; (· (intro Wq hWq; obtain ⟨hWc, hWf⟩ := bcell hWq; go_simp; (try with_reducible rfl))); go_big_quiet_on; (try simp only [Act.put, List.setIfInBounds_toArray, List.set_cons_zero, List.set_cons_succ])))
  refine wpQuiet_nil ?_; intro V hbV
  go_wp2
  go_ret
  exact ⟨by rw [← HL.out]; rfl, by (repeat (first | (with_reducible exact Below.refl _ _) | (with_reducible assumption) | (with_reducible refine Below.drew ?_) | (with_reducible refine Below.allocS ?_ _) | (with_reducible refine Below.setCell ?_ ?_ _) | (with_reducible refine Below.step ?_ (by assumption)) | (with_reducible refine Below.drewN' ?_ _))); (try any_goals (first | (with_reducible assumption) | (simp; done) | (simp; omega) | omega))⟩
set_option maxHeartbeats 2000000 in
set_option maxRecDepth 100000 in
theorem rline_c (x : St) (hn : x.nm.size ≤ 70000) (ra : I64 x.a) (rb : I64 x.b) (rc : I64 x.c) (w : World) (hE : Env w) :
    Calls Tryd.prog 29 #[.agg #[.string x.nm, .int .i64 x.a, .int .i64 x.b, .int .i64 x.c]] w fun e w' => e = .returned (.string (str (fmS.line x))) ∧ Below w.heap.size w w' := by
  obtain ⟨a0, a1⟩ := ra
  obtain ⟨b0, b1⟩ := rb
  obtain ⟨c0, c1⟩ := rc
  have HI := Lib.hid (fun n (h0 : -9223372036854775808 ≤ n) (h1 : n ≤ 9223372036854775807) W (hb : Below w.heap.size w W) => itoa_c n h0 h1 W (hE.step hb))
  have s1 : (str (Lib.itoa x.a)).size ≤ 22 := by rw [size_str]; have := itoa_len 18 x.a (by omega); omega
  have s2 : (str (Lib.itoa x.b)).size ≤ 22 := by rw [size_str]; have := itoa_len 18 x.b (by omega); omega
  have s3 : (str (Lib.itoa x.c)).size ≤ 22 := by rw [size_str]; have := itoa_len 18 x.c (by omega); omega
  have I1 := Lib.hid (fun W hb => HI.out x.a a0 a1 W hb)
  have I2 := Lib.hid (fun W hb => HI.out x.b b0 b1 W hb)
  have I3 := Lib.hid (fun W hb => HI.out x.c c0 c1 W hb)
  have HL := Lib.hid (line_str x)
  clear HI hE
  go_enter Tryd.func29, Tryd.ntmps29
  go_wp2
  generalize str (Lib.itoa x.a) = p1 at *
  generalize str (Lib.itoa x.b) = p2 at *
  generalize str (Lib.itoa x.c) = p3 at *
  have n1 : ¬ 9223372036854775807 < x.nm.size + 1 := by omega
  have n2 : ¬ 9223372036854775807 < x.nm.size + 1 + p1.size := by omega
  have n3 : ¬ 9223372036854775807 < x.nm.size + 1 + p1.size + 1 := by omega
  have n4 : ¬ 9223372036854775807 < x.nm.size + 1 + p1.size + 1 + p2.size := by omega
  have n5 : ¬ 9223372036854775807 < x.nm.size + 1 + p1.size + 1 + p2.size + 1 := by omega
  have n6 : ¬ 9223372036854775807 < x.nm.size + 1 + p1.size + 1 + p2.size + 1 + p3.size := by omega
  have n7 : ¬ 9223372036854775807 < x.nm.size + 1 + p1.size + 1 + p2.size + 1 + p3.size + 1 := by omega
  refine region_below (by kernel_rfl) (by kernel_rfl) ?_
  (first | go_big_quiet_skip | (go_big_quiet_want; refine quiet_val (v := ?_) ?_ ?_; rotate_left 1; (· (intro Wq hWq; obtain ⟨hWc, hWf⟩ := bcell hWq; go_simp; (try with_reducible rfl))); go_big_quiet_on; (try simp only [Act.put, List.setIfInBounds_toArray, List.set_cons_zero, List.set_cons_succ])))
  (first | go_big_quiet_skip | (go_big_quiet_want; refine quiet_val (v := ?_) ?_ ?_; rotate_left 1; (· (intro Wq hWq; obtain ⟨hWc, hWf⟩ := bcell hWq; go_simp; (try with_reducible rfl))); go_big_quiet_on; (try simp only [Act.put, List.setIfInBounds_toArray, List.set_cons_zero, List.set_cons_succ])))
  (first | go_big_quiet_skip | (go_big_quiet_want; refine quiet_val (v := ?_) ?_ ?_; rotate_left 1; (· (intro Wq hWq; obtain ⟨hWc, hWf⟩ := bcell hWq; go_simp; (try with_reducible rfl))); go_big_quiet_on; (try simp only [Act.put, List.setIfInBounds_toArray, List.set_cons_zero, List.set_cons_succ])))
  (first | go_big_quiet_skip | (go_big_quiet_want; refine quiet_val (v := ?_) ?_ ?_; rotate_left 1; (· (intro Wq hWq; obtain ⟨hWc, hWf⟩ := bcell hWq; go_simp; (try with_reducible rfl))); go_big_quiet_on; (try simp only [Act.put, List.setIfInBounds_toArray, List.set_cons_zero, List.set_cons_succ])))
  (first | go_big_quiet_skip | (go_big_quiet_want; refine quiet_val (v := ?_) ?_ ?_; rotate_left 1; (· (intro Wq hWq; obtain ⟨hWc, hWf⟩ := bcell hWq; go_simp; (try with_reducible rfl))); go_big_quiet_on; (try simp only [Act.put, List.setIfInBounds_toArray, List.set_cons_zero, List.set_cons_succ])))
  go_big_quiet_want; refine quiet_callB (f := 53) (args := ?_) (v := ?_) ?_ ?_ ?_; rotate_left 2
  · (intro Wq hWq; obtain ⟨hWc, hWf⟩ := bcell hWq; go_simp; (first | with_reducible rfl | exact ⟨rfl, rfl⟩))
  · (intro Wq hWq; exact I1.out Wq (by (repeat (first | (with_reducible exact Below.refl _ _) | (with_reducible assumption) | (with_reducible refine Below.drew ?_) | (with_reducible refine Below.allocS ?_ _) | (with_reducible refine Below.setCell ?_ ?_ _) | (with_reducible refine Below.step ?_ (by assumption)) | (with_reducible refine Below.drewN' ?_ _))); (try any_goals (first | (with_reducible assumption) | (simp; done) | (simp; omega) | omega))))
  go_big_quiet_on; (try simp only [Act.put, List.setIfInBounds_toArray, List.set_cons_zero, List.set_cons_succ])
  (first | go_big_quiet_skip | (go_big_quiet_want; refine quiet_val (v := ?_) ?_ ?_; rotate_left 1; (· (intro Wq hWq; obtain ⟨hWc, hWf⟩ := bcell hWq; go_simp; (try with_reducible rfl))); go_big_quiet_on; (try simp only [Act.put, List.setIfInBounds_toArray, List.set_cons_zero, List.set_cons_succ])))
  (first | go_big_quiet_skip | (go_big_quiet_want; refine quiet_val (v := ?_) ?_ ?_; rotate_left 1; (· (intro Wq hWq; obtain ⟨hWc, hWf⟩ := bcell hWq; go_simp; (try with_reducible rfl))); go_big_quiet_on; (try simp only [Act.put, List.setIfInBounds_toArray, List.set_cons_zero, List.set_cons_succ])))
  (first | go_big_quiet_skip | (go_big_quiet_want; refine quiet_val (v := ?_) ?_ ?_; rotate_left 1; (· (intro Wq hWq; obtain ⟨hWc, hWf⟩ := bcell hWq; go_simp; (try with_reducible rfl))); go_big_quiet_on; (try simp only [Act.put, List.setIfInBounds_toArray, List.set_cons_zero, List.set_cons_succ])))
  (first | go_big_quiet_skip | (go_big_quiet_want; refine quiet_val (v := ?_) ?_ ?_; rotate_left 1; (· (intro Wq hWq; obtain ⟨hWc, hWf⟩ := bcell hWq; go_simp; (try with_reducible rfl))); go_big_quiet_on; (try simp only [Act.put, List.setIfInBounds_toArray, List.set_cons_zero, List.set_cons_succ])))
  go_big_quiet_want; refine quiet_callB (f := 53) (args := ?_) (v := ?_) ?_ ?_ ?_; rotate_left 2
  · (intro Wq hWq; obtain ⟨hWc, hWf⟩ := bcell hWq; go_simp; (first | with_reducible rfl | exact ⟨rfl, rfl⟩))
  · (intro Wq hWq; exact I2.out Wq (by (repeat (first | (with_reducible exact Below.refl _ _) | (with_reducible assumption) | (with_reducible refine Below.drew ?_) | (with_reducible refine Below.allocS ?_ _) | (with_reducible refine Below.setCell ?_ ?_ _) | (with_reducible refine Below.step ?_ (by assumption)) | (with_reducible refine Below.drewN' ?_ _))); (try any_goals (first | (with_reducible assumption) | (simp; done) | (simp; omega) | omega))))
  go_big_quiet_on; (try simp only [Act.put, List.setIfInBounds_toArray, List.set_cons_zero, List.set_cons_succ])
  (first | go_big_quiet_skip | (go_big_quiet_want; refine quiet_val (v := ?_) ?_ ?_; rotate_left 1; (· (intro Wq hWq; obtain ⟨hWc, hWf⟩ := bcell hWq; go_simp; (try with_reducible rfl))); go_big_quiet_on; (try simp only [Act.put, List.setIfInBounds_toArray, List.set_cons_zero, List.set_cons_succ])))
  (first | go_big_quiet_skip | (go_big_quiet_want; refine quiet_val (v := ?_) ?_ ?_; rotate_left 1; (· (intro Wq hWq; obtain ⟨hWc, hWf⟩ := bcell hWq; go_simp; (try with_reducible rfl))); go_big_quiet_on; (try simp only [Act.put, List.setIfInBounds_toArray, List.set_cons_zero, List.set_cons_succ])))
  (first | go_big_quiet_skip | (go_big_quiet_want; refine quiet_val (v := ?_) ?_ ?_; rotate_left 1; (· (intro Wq hWq; obtain ⟨hWc, hWf⟩ := bcell hWq; go_simp; (try with_reducible rfl))); go_big_quiet_on; (try simp only [Act.put, List.setIfInBounds_toArray, List.set_cons_zero, List.set_cons_succ])))
  (first | go_big_quiet_skip | (go_big_quiet_want; refine quiet_val (v := ?_) ?_ ?_; rotate_left 1; (· (intro Wq hWq; obtain ⟨hWc, hWf⟩ := bcell hWq; go_simp; (try with_reducible rfl))); go_big_quiet_on; (try simp only [Act.put, List.setIfInBounds_toArray, List.set_cons_zero, List.set_cons_succ])))
  go_big_quiet_want; refine quiet_callB (f := 53) (args := ?_) (v := ?_) ?_ ?_ ?_; rotate_left 2
  · (intro Wq hWq; obtain ⟨hWc, hWf⟩ := bcell hWq; go_simp; (first | with_reducible rfl | exact ⟨rfl, rfl⟩))
  · (intro Wq hWq; exact I3.out Wq (by (repeat (first | (with_reducible exact Below.refl _ _) | (with_reducible assumption) | (with_reducible refine Below.drew ?_) | (with_reducible refine Below.allocS ?_ _) | (with_reducible refine Below.setCell ?_ ?_ _) | (with_reducible refine Below.step ?_ (by assumption)) | (with_reducible refine Below.drewN' ?_ _))); (try any_goals (first | (with_reducible assumption) | (simp; done) | (simp; omega) | omega))))
  go_big_quiet_on; (try simp only [Act.put, List.setIfInBounds_toArray, List.set_cons_zero, List.set_cons_succ])
  (first | go_big_quiet_skip | (go_big_quiet_want; refine quiet_val (v := ?_) ?_ ?_; rotate_left 1; (· (intro Wq hWq; obtain ⟨hWc, hWf⟩ := bcell hWq; go_simp; (try with_reducible rfl))); go_big_quiet_on; (try simp only [Act.put, List.setIfInBounds_toArray, List.set_cons_zero, List.set_cons_succ])))
  (first | go_big_quiet_skip | (go_big_quiet_want; refine quiet_val (v := ?_) ?_ ?_; rotate_left 1; (· (intro Wq hWq; obtain ⟨hWc, hWf⟩ := bcell hWq; go_simp; (try with_reducible rfl))); go_big_quiet_on; (try simp only [Act.put, List.setIfInBounds_toArray, List.set_cons_zero, List.set_cons_succ])))
  (first | go_big_quiet_skip | (go_big_quiet_want; refine quiet_val (v := ?_) ?_ ?_; rotate_left 1; (· (intro Wq hWq; obtain ⟨hWc, hWf⟩ := bcell hWq; go_simp; (try with_reducible rfl))); go_big_quiet_on; (try simp only [Act.put, List.setIfInBounds_toArray, List.set_cons_zero, List.set_cons_succ])))
  refine wpQuiet_nil ?_; intro V hbV
  go_wp2
  go_ret
  exact ⟨by rw [← HL.out]; rfl, by (repeat (first | (with_reducible exact Below.refl _ _) | (with_reducible assumption) | (with_reducible refine Below.drew ?_) | (with_reducible refine Below.allocS ?_ _) | (with_reducible refine Below.setCell ?_ ?_ _) | (with_reducible refine Below.step ?_ (by assumption)) | (with_reducible refine Below.drewN' ?_ _))); (try any_goals (first | (with_reducible assumption) | (simp; done) | (simp; omega) | omega))⟩
end Go.Proofs.YtimbdnngeoccdaaDoor
