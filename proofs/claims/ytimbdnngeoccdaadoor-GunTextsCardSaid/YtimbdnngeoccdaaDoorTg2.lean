/-
  A shot's line, by gun and by the reference.
-/
import Derived.Test.YtimbdnngeoccdaaDoorTx3
import Derived.Test.YtimbdnngeoccdaaDoorTg1
namespace Go.Proofs.YtimbdnngeoccdaaDoor
open Go.RowKit Go.Deep
set_option linter.unusedVariables false
set_option linter.unusedSimpArgs false
def stE (x : List UInt8) : List Value := [.string (str x)]
theorem appSt : AppE 50 9 stE 1 where
  ht := Tryd.underlying50
  info := app_info (z := .string ⟨#[]⟩) (bytes := 16) (by kernel_rfl) rfl (by decide)
  pos := by decide
  len := fun x => rfl
  one := fun x u hu => by simp [stE] at hu; subst hu; rfl
theorem row_of_new (W : World) (base : Nat) (e : TypeId) (sz n : Nat) (cs : List Value) (hb : base ≤ W.heap.size) (hl : cs.length = n * sz) (hn : n ≤ maxLen) : (W.alloc (.cells cs.toArray e)).ownsRow base e sz (.slice (some ⟨W.heap.size, 0, none⟩) n n) n cs :=
  ⟨hl, .inr ⟨_, _, cs.toArray, rfl, hb, World.alloc_heap_new _ _, Nat.le_refl _, hn, by simp [hl], by simp [← hl]⟩⟩
/-- The words of a shot's line: the first k numbers. -/
def wordsG (x : Shot) : Nat → List (List UInt8)
  | 0 => []
  | 1 => [Lib.itoa x.gx]
  | 2 => [Lib.itoa x.gx, Lib.itoa x.gy]
  | 3 => [Lib.itoa x.gx, Lib.itoa x.gy, Lib.itoa x.lo]
  | _ => [Lib.itoa x.gx, Lib.itoa x.gy, Lib.itoa x.lo, Lib.itoa x.hi]
theorem join_words (x : Shot) : Lib.join (wordsG x 4) [32] = bodyG x := by
  show Lib.join [Lib.itoa x.gx, Lib.itoa x.gy, Lib.itoa x.lo, Lib.itoa x.hi] [32] = bodyG x
  unfold bodyG
  rw [Lib.join_cons]
  simp [Lib.joinTail]
structure ShI (x : Shot) : Prop where
  a : I64 x.gx
  b : I64 x.gy
  c : I64 x.lo
  d : I64 x.hi
theorem body_size {x : Shot} (r : ShI x) : (bodyG x).length ≤ 200 := by
  obtain ⟨⟨a0, a1⟩, ⟨b0, b1⟩, ⟨c0, c1⟩, ⟨d0, d1⟩⟩ := r
  have i1 := itoa_len 18 x.gx (by omega)
  have i2 := itoa_len 18 x.gy (by omega)
  have i3 := itoa_len 18 x.lo (by omega)
  have i4 := itoa_len 18 x.hi (by omega)
  unfold bodyG
  simp only [List.length_append, List.length_cons]
  omega
theorem ix0 (a b c d : Int) (W : World) : (Instr.index 96 (.agg #[.int .i64 a, .int .i64 b, .int .i64 c, .int .i64 d]) (.int .i64 0)).run Tryd.prog W = .ok (.int .i64 a) W := by kernel_rfl
theorem ix1 (a b c d : Int) (W : World) : (Instr.index 96 (.agg #[.int .i64 a, .int .i64 b, .int .i64 c, .int .i64 d]) (.int .i64 1)).run Tryd.prog W = .ok (.int .i64 b) W := by kernel_rfl
theorem ix2 (a b c d : Int) (W : World) : (Instr.index 96 (.agg #[.int .i64 a, .int .i64 b, .int .i64 c, .int .i64 d]) (.int .i64 2)).run Tryd.prog W = .ok (.int .i64 c) W := by kernel_rfl
theorem ix3 (a b c d : Int) (W : World) : (Instr.index 96 (.agg #[.int .i64 a, .int .i64 b, .int .i64 c, .int .i64 d]) (.int .i64 3)).run Tryd.prog W = .ok (.int .i64 d) W := by kernel_rfl
theorem join_l (xs : List (List UInt8)) (n : Nat) (hn : xs.length = n) (base : Nat) (A : Option Addr) (cap : Nat) (w : World) (hrow : w.ownsRow base 9 1 (.slice A n cap) n (xs.flatMap stE)) (h0 : 0 < n) (hN : n ≤ 1000) (hl : (Lib.join xs [32]).length ≤ 140737488355328) :
    Calls Tryd.prog 66 #[.slice A n cap, .string ⟨#[32]⟩] w fun e w' => e = .returned (.string (str (Lib.join xs [32]))) ∧ Below w.heap.size w w' := by
  subst hn
  have hr : RdL w w.heap.size stE 1 A xs := RdL.of_own (fun _ => rfl) hrow rfl
  obtain ⟨A', c', hv, hc1, hc2⟩ := row_form hrow
  injection hv with e1 _ e2
  subst e1 e2
  obtain ⟨b, off, rfl, hlt, hc⟩ := hr h0
  have hm : (xs.map str).map (·.data.toList) = xs := by
    rw [List.map_map]
    conv => rhs; rw [← List.map_id xs]
    exact List.map_congr_left fun a _ => str_data a
  have h := Tryd.strings_Join b off cap (xs.map str) ⟨#[32]⟩ w (fun j x hx => by
    rw [List.getElem?_map] at hx
    cases hj : xs[j]? with
    | none => rw [hj] at hx; cases hx
    | some y =>
      rw [hj] at hx
      injection hx with hx
      subst hx
      obtain ⟨hj1, hj2⟩ := List.getElem?_eq_some_iff.1 hj
      have := hc j hj1 0 (.string (str y)) (by rw [hj2]; rfl)
      rw [Nat.mul_one, Nat.add_zero] at this
      exact this) hlt (by rw [List.length_map]; omega) (by rw [List.length_map]; exact hc1) (by rw [hm]; exact hl)
  rw [List.length_map, hm] at h
  exact h
set_option maxHeartbeats 2000000 in
set_option maxRecDepth 100000 in
theorem written_c (x : Shot) (r : ShI x) (w : World) (hE : Env w) :
    Calls Tryd.prog 38 #[.agg #[.int .i64 x.gx, .int .i64 x.gy, .int .i64 x.lo, .int .i64 x.hi]] w fun e w' => e = .returned (.string (str (fmG.line x))) ∧ Below w.heap.size w w' := by
  have hsz := body_size r
  have HJ := Lib.hid (join_words x)
  obtain ⟨⟨a0, a1⟩, ⟨b0, b1⟩, ⟨c0, c1⟩, ⟨d0, d1⟩⟩ := r
  have HI := Lib.hid (fun n (h0 : -9223372036854775808 ≤ n) (h1 : n ≤ 9223372036854775807) W (hb : Below w.heap.size w W) => itoa_c n h0 h1 W (hE.step hb))
  have i0 := ix0 x.gx x.gy x.lo x.hi
  have i1 := ix1 x.gx x.gy x.lo x.hi
  have i2 := ix2 x.gx x.gy x.lo x.hi
  have i3 := ix3 x.gx x.gy x.lo x.hi
  clear hE
  go_enter Tryd.func38, Tryd.ntmps38
  go_wp2
  go_loopw [3, 19] (fun l i wr => ∃ k : Nat, k ≤ 4 ∧ i = .int .i64 k ∧ wr.ownsRow w.heap.size 9 1 l k ((wordsG x k).flatMap stE) ∧ Below w.heap.size w wr) (fun _ i _ => 4 - (intOf i).toNat)
  case atStart => exact ⟨0, by omega, rfl, World.ownsRow_nil _ _ _ _, by (repeat (first | (with_reducible exact Below.refl _ _) | (with_reducible assumption) | (with_reducible refine Below.drew ?_) | (with_reducible refine Below.allocS ?_ _) | (with_reducible refine Below.setCell ?_ ?_ _) | (with_reducible refine Below.step ?_ (by assumption)) | (with_reducible refine Below.drewN' ?_ _))); (try any_goals (first | (with_reducible assumption) | (simp; done) | (simp; omega) | omega))⟩
  case round =>
    obtain ⟨k, hk, rfl, hrow, hbw⟩ := hrel
    have hk4 : k = 0 ∨ k = 1 ∨ k = 2 ∨ k = 3 ∨ k = 4 := by omega
    rcases hk4 with rfl | rfl | rfl | rfl | rfl
    all_goals dsimp only [wordsG] at hrow
    · obtain ⟨A, c, rfl, hkc, hkm⟩ := row_form hrow
      have HO := Lib.hid hrow
      clear hrow
      go_wp2_with fail
      refine (HI.out x.gx (by omega) (by omega) _ hbw).mono ?_
      rintro e w1 ⟨rfl, hb1⟩
      have hb1s := hb1.size
      have hws := hbw.size
      have hrow1 := ownsRow_keep HO.out hb1
      have HAPP := Lib.hid (app_run appSt ([] : List (List UInt8)) (Lib.itoa x.gx) 0 rfl (by omega) (w1.alloc (.cells #[.string (str (Lib.itoa x.gx))] 9)) w.heap.size w1.heap.size _ (hrow1.alloc _) (by simp; omega) (one_cell rfl (by simp [go_sem])))
      have hbw1 : Below w.heap.size w (w1.alloc (.cells #[.string (str (Lib.itoa x.gx))] 9)) := Below.allocS (Below.step hbw hb1) _
      clear hrow1 hb1
      go_wp2_with (at_builtin; refine wpList_app rfl (.tmp 22) (.tmp 25) 50 rfl _ _ rfl rfl HAPP.out ?_; rintro v5 w5 ⟨hown5, hbel5⟩; have HO5 := Lib.hid hown5; have hB5 : Below w.heap.size w w5 := hbw1.trans hbel5; clear hown5 hbel5)
      go_roundw
      case rel => exact ⟨1, by omega, by rfl, HO5.out, hB5⟩
      case measure => simp [intOf]
    · obtain ⟨A, c, rfl, hkc, hkm⟩ := row_form hrow
      have HO := Lib.hid hrow
      clear hrow
      go_wp2_with fail
      refine (HI.out x.gy (by omega) (by omega) _ hbw).mono ?_
      rintro e w1 ⟨rfl, hb1⟩
      have hb1s := hb1.size
      have hws := hbw.size
      have hrow1 := ownsRow_keep HO.out hb1
      have HAPP := Lib.hid (app_run appSt [Lib.itoa x.gx] (Lib.itoa x.gy) 1 rfl (by omega) (w1.alloc (.cells #[.string (str (Lib.itoa x.gy))] 9)) w.heap.size w1.heap.size _ (hrow1.alloc _) (by simp; omega) (one_cell rfl (by simp [go_sem])))
      have hbw1 : Below w.heap.size w (w1.alloc (.cells #[.string (str (Lib.itoa x.gy))] 9)) := Below.allocS (Below.step hbw hb1) _
      clear hrow1 hb1
      go_wp2_with (at_builtin; refine wpList_app rfl (.tmp 22) (.tmp 25) 50 rfl _ _ rfl rfl HAPP.out ?_; rintro v5 w5 ⟨hown5, hbel5⟩; have HO5 := Lib.hid hown5; have hB5 : Below w.heap.size w w5 := hbw1.trans hbel5; clear hown5 hbel5)
      go_roundw
      case rel => exact ⟨2, by omega, by rfl, HO5.out, hB5⟩
      case measure => simp [intOf]
    · obtain ⟨A, c, rfl, hkc, hkm⟩ := row_form hrow
      have HO := Lib.hid hrow
      clear hrow
      go_wp2_with fail
      refine (HI.out x.lo (by omega) (by omega) _ hbw).mono ?_
      rintro e w1 ⟨rfl, hb1⟩
      have hb1s := hb1.size
      have hws := hbw.size
      have hrow1 := ownsRow_keep HO.out hb1
      have HAPP := Lib.hid (app_run appSt [Lib.itoa x.gx, Lib.itoa x.gy] (Lib.itoa x.lo) 2 rfl (by omega) (w1.alloc (.cells #[.string (str (Lib.itoa x.lo))] 9)) w.heap.size w1.heap.size _ (hrow1.alloc _) (by simp; omega) (one_cell rfl (by simp [go_sem])))
      have hbw1 : Below w.heap.size w (w1.alloc (.cells #[.string (str (Lib.itoa x.lo))] 9)) := Below.allocS (Below.step hbw hb1) _
      clear hrow1 hb1
      go_wp2_with (at_builtin; refine wpList_app rfl (.tmp 22) (.tmp 25) 50 rfl _ _ rfl rfl HAPP.out ?_; rintro v5 w5 ⟨hown5, hbel5⟩; have HO5 := Lib.hid hown5; have hB5 : Below w.heap.size w w5 := hbw1.trans hbel5; clear hown5 hbel5)
      go_roundw
      case rel => exact ⟨3, by omega, by rfl, HO5.out, hB5⟩
      case measure => simp [intOf]
    · obtain ⟨A, c, rfl, hkc, hkm⟩ := row_form hrow
      have HO := Lib.hid hrow
      clear hrow
      go_wp2_with fail
      refine (HI.out x.hi (by omega) (by omega) _ hbw).mono ?_
      rintro e w1 ⟨rfl, hb1⟩
      have hb1s := hb1.size
      have hws := hbw.size
      have hrow1 := ownsRow_keep HO.out hb1
      have HAPP := Lib.hid (app_run appSt [Lib.itoa x.gx, Lib.itoa x.gy, Lib.itoa x.lo] (Lib.itoa x.hi) 3 rfl (by omega) (w1.alloc (.cells #[.string (str (Lib.itoa x.hi))] 9)) w.heap.size w1.heap.size _ (hrow1.alloc _) (by simp; omega) (one_cell rfl (by simp [go_sem])))
      have hbw1 : Below w.heap.size w (w1.alloc (.cells #[.string (str (Lib.itoa x.hi))] 9)) := Below.allocS (Below.step hbw hb1) _
      clear hrow1 hb1
      go_wp2_with (at_builtin; refine wpList_app rfl (.tmp 22) (.tmp 25) 50 rfl _ _ rfl rfl HAPP.out ?_; rintro v5 w5 ⟨hown5, hbel5⟩; have HO5 := Lib.hid hown5; have hB5 : Below w.heap.size w w5 := hbw1.trans hbel5; clear hown5 hbel5)
      go_roundw
      case rel => exact ⟨4, by omega, by rfl, HO5.out, hB5⟩
      case measure => simp [intOf]
    · obtain ⟨A, c, rfl, hkc, hkm⟩ := row_form hrow
      have HO := Lib.hid (join_l (wordsG x 4) 4 rfl w.heap.size A c wr hrow (by omega) (by omega) (by rw [HJ.out]; omega))
      rw [HJ.out] at HO
      have hjs : (str (bodyG x)).size ≤ 200 := by rw [size_str]; exact hsz
      have HL := Lib.hid (show str (bodyG x) ++ str [10] = str (fmG.line x) by rw [str_append]; rfl)
      clear hrow HJ HI
      generalize str (bodyG x) = B at *
      have n1 : ¬ 9223372036854775807 < B.size + 1 := by omega
      go_wp2_with fail
      refine HO.out.mono ?_
      rintro e w1 ⟨rfl, hb1⟩
      go_wp2
      go_ret
      exact ⟨by rw [← HL.out]; rfl, Below.step hbw hb1⟩
theorem line_str (x : Shot) : str (Lib.itoa x.gx) ++ str [32] ++ str (Lib.itoa x.gy) ++ str [32] ++ str (Lib.itoa x.lo) ++ str [32] ++ str (Lib.itoa x.hi) ++ str [10] = str (fmG.line x) := by
  simp only [str_append]
  show _ = str (bodyG x ++ [10])
  unfold bodyG
  congr 1
  simp
set_option maxHeartbeats 2000000 in
set_option maxRecDepth 100000 in
theorem rline_c (x : Shot) (r : ShI x) (w : World) (hE : Env w) :
    Calls Tryd.prog 39 #[.agg #[.int .i64 x.gx, .int .i64 x.gy, .int .i64 x.lo, .int .i64 x.hi]] w fun e w' => e = .returned (.string (str (fmG.line x))) ∧ Below w.heap.size w w' := by
  obtain ⟨⟨a0, a1⟩, ⟨b0, b1⟩, ⟨c0, c1⟩, ⟨d0, d1⟩⟩ := r
  have HI := Lib.hid (fun n (h0 : -9223372036854775808 ≤ n) (h1 : n ≤ 9223372036854775807) W (hb : Below w.heap.size w W) => itoa_c n h0 h1 W (hE.step hb))
  have s0 : (str (Lib.itoa x.gx)).size ≤ 22 := by rw [size_str]; have := itoa_len 18 x.gx (by omega); omega
  have s1 : (str (Lib.itoa x.gy)).size ≤ 22 := by rw [size_str]; have := itoa_len 18 x.gy (by omega); omega
  have s2 : (str (Lib.itoa x.lo)).size ≤ 22 := by rw [size_str]; have := itoa_len 18 x.lo (by omega); omega
  have s3 : (str (Lib.itoa x.hi)).size ≤ 22 := by rw [size_str]; have := itoa_len 18 x.hi (by omega); omega
  have I0 := Lib.hid (fun W hb => HI.out x.gx a0 a1 W hb)
  have I1 := Lib.hid (fun W hb => HI.out x.gy b0 b1 W hb)
  have I2 := Lib.hid (fun W hb => HI.out x.lo c0 c1 W hb)
  have I3 := Lib.hid (fun W hb => HI.out x.hi d0 d1 W hb)
  have HL := Lib.hid (line_str x)
  clear HI hE
  go_enter Tryd.func39, Tryd.ntmps39
  go_wp2
  generalize str (Lib.itoa x.gx) = p0 at *
  generalize str (Lib.itoa x.gy) = p1 at *
  generalize str (Lib.itoa x.lo) = p2 at *
  generalize str (Lib.itoa x.hi) = p3 at *
  have n1 : ¬ 9223372036854775807 < p0.size + 1 := by omega
  have n2 : ¬ 9223372036854775807 < p0.size + 1 + p1.size := by omega
  have n3 : ¬ 9223372036854775807 < p0.size + 1 + p1.size + 1 := by omega
  have n4 : ¬ 9223372036854775807 < p0.size + 1 + p1.size + 1 + p2.size := by omega
  have n5 : ¬ 9223372036854775807 < p0.size + 1 + p1.size + 1 + p2.size + 1 := by omega
  have n6 : ¬ 9223372036854775807 < p0.size + 1 + p1.size + 1 + p2.size + 1 + p3.size := by omega
  have n7 : ¬ 9223372036854775807 < p0.size + 1 + p1.size + 1 + p2.size + 1 + p3.size + 1 := by omega
  refine region_below (by kernel_rfl) (by kernel_rfl) ?_
  (first | go_big_quiet_skip | (go_big_quiet_want; refine quiet_val (v := ?_) ?_ ?_; rotate_left 1; (· (intro Wq hWq; obtain ⟨hWc, hWf⟩ := bcell hWq; go_simp; (try with_reducible rfl))); go_big_quiet_on; (try simp only [Act.put, List.setIfInBounds_toArray, List.set_cons_zero, List.set_cons_succ])))
  (first | go_big_quiet_skip | (go_big_quiet_want; refine quiet_val (v := ?_) ?_ ?_; rotate_left 1; (· (intro Wq hWq; obtain ⟨hWc, hWf⟩ := bcell hWq; go_simp; (try with_reducible rfl))); go_big_quiet_on; (try simp only [Act.put, List.setIfInBounds_toArray, List.set_cons_zero, List.set_cons_succ])))
  (first | go_big_quiet_skip | (go_big_quiet_want; refine quiet_val (v := ?_) ?_ ?_; rotate_left 1; (· (intro Wq hWq; obtain ⟨hWc, hWf⟩ := bcell hWq; go_simp; (try with_reducible rfl))); go_big_quiet_on; (try simp only [Act.put, List.setIfInBounds_toArray, List.set_cons_zero, List.set_cons_succ])))
  go_big_quiet_want; refine quiet_callB (f := 53) (args := ?_) (v := ?_) ?_ ?_ ?_; rotate_left 2
  · (intro Wq hWq; obtain ⟨hWc, hWf⟩ := bcell hWq; go_simp; (first | with_reducible rfl | exact ⟨rfl, rfl⟩))
  · (intro Wq hWq; exact I0.out Wq (by (repeat (first | (with_reducible exact Below.refl _ _) | (with_reducible assumption) | (with_reducible refine Below.drew ?_) | (with_reducible refine Below.allocS ?_ _) | (with_reducible refine Below.setCell ?_ ?_ _) | (with_reducible refine Below.step ?_ (by assumption)) | (with_reducible refine Below.drewN' ?_ _))); (try any_goals (first | (with_reducible assumption) | (simp; done) | (simp; omega) | omega))))
  go_big_quiet_on; (try simp only [Act.put, List.setIfInBounds_toArray, List.set_cons_zero, List.set_cons_succ])
  (first | go_big_quiet_skip | (go_big_quiet_want; refine quiet_val (v := ?_) ?_ ?_; rotate_left 1; (· (intro Wq hWq; obtain ⟨hWc, hWf⟩ := bcell hWq; go_simp; (try with_reducible rfl))); go_big_quiet_on; (try simp only [Act.put, List.setIfInBounds_toArray, List.set_cons_zero, List.set_cons_succ])))
  (first | go_big_quiet_skip | (go_big_quiet_want; refine quiet_val (v := ?_) ?_ ?_; rotate_left 1; (· (intro Wq hWq; obtain ⟨hWc, hWf⟩ := bcell hWq; go_simp; (try with_reducible rfl))); go_big_quiet_on; (try simp only [Act.put, List.setIfInBounds_toArray, List.set_cons_zero, List.set_cons_succ])))
  (first | go_big_quiet_skip | (go_big_quiet_want; refine quiet_val (v := ?_) ?_ ?_; rotate_left 1; (· (intro Wq hWq; obtain ⟨hWc, hWf⟩ := bcell hWq; go_simp; (try with_reducible rfl))); go_big_quiet_on; (try simp only [Act.put, List.setIfInBounds_toArray, List.set_cons_zero, List.set_cons_succ])))
  (first | go_big_quiet_skip | (go_big_quiet_want; refine quiet_val (v := ?_) ?_ ?_; rotate_left 1; (· (intro Wq hWq; obtain ⟨hWc, hWf⟩ := bcell hWq; go_simp; (try with_reducible rfl))); go_big_quiet_on; (try simp only [Act.put, List.setIfInBounds_toArray, List.set_cons_zero, List.set_cons_succ])))
  go_big_quiet_want; refine quiet_callB (f := 53) (args := ?_) (v := ?_) ?_ ?_ ?_; rotate_left 2
  · (intro Wq hWq; obtain ⟨hWc, hWf⟩ := bcell hWq; go_simp; (first | with_reducible rfl | exact ⟨rfl, rfl⟩))
  · (intro Wq hWq; exact I1.out Wq (by (repeat (first | (with_reducible exact Below.refl _ _) | (with_reducible assumption) | (with_reducible refine Below.drew ?_) | (with_reducible refine Below.allocS ?_ _) | (with_reducible refine Below.setCell ?_ ?_ _) | (with_reducible refine Below.step ?_ (by assumption)) | (with_reducible refine Below.drewN' ?_ _))); (try any_goals (first | (with_reducible assumption) | (simp; done) | (simp; omega) | omega))))
  go_big_quiet_on; (try simp only [Act.put, List.setIfInBounds_toArray, List.set_cons_zero, List.set_cons_succ])
  (first | go_big_quiet_skip | (go_big_quiet_want; refine quiet_val (v := ?_) ?_ ?_; rotate_left 1; (· (intro Wq hWq; obtain ⟨hWc, hWf⟩ := bcell hWq; go_simp; (try with_reducible rfl))); go_big_quiet_on; (try simp only [Act.put, List.setIfInBounds_toArray, List.set_cons_zero, List.set_cons_succ])))
  (first | go_big_quiet_skip | (go_big_quiet_want; refine quiet_val (v := ?_) ?_ ?_; rotate_left 1; (· (intro Wq hWq; obtain ⟨hWc, hWf⟩ := bcell hWq; go_simp; (try with_reducible rfl))); go_big_quiet_on; (try simp only [Act.put, List.setIfInBounds_toArray, List.set_cons_zero, List.set_cons_succ])))
  (first | go_big_quiet_skip | (go_big_quiet_want; refine quiet_val (v := ?_) ?_ ?_; rotate_left 1; (· (intro Wq hWq; obtain ⟨hWc, hWf⟩ := bcell hWq; go_simp; (try with_reducible rfl))); go_big_quiet_on; (try simp only [Act.put, List.setIfInBounds_toArray, List.set_cons_zero, List.set_cons_succ])))
  (first | go_big_quiet_skip | (go_big_quiet_want; refine quiet_val (v := ?_) ?_ ?_; rotate_left 1; (· (intro Wq hWq; obtain ⟨hWc, hWf⟩ := bcell hWq; go_simp; (try with_reducible rfl))); go_big_quiet_on; (try simp only [Act.put, List.setIfInBounds_toArray, List.set_cons_zero, List.set_cons_succ])))
  (first | go_big_quiet_skip | (go_big_quiet_want; refine quiet_val (v := ?_) ?_ ?_; rotate_left 1; (· (intro Wq hWq; obtain ⟨hWc, hWf⟩ := bcell hWq; go_simp; (try with_reducible rfl))); go_big_quiet_on; (try simp only [Act.put, List.setIfInBounds_toArray, List.set_cons_zero, List.set_cons_succ])))
  go_big_quiet_want; refine quiet_callB (f := 53) (args := ?_) (v := ?_) ?_ ?_ ?_; rotate_left 2
  · (intro Wq hWq; obtain ⟨hWc, hWf⟩ := bcell hWq; go_simp; (first | with_reducible rfl | exact ⟨rfl, rfl⟩))
  · (intro Wq hWq; exact I2.out Wq (by (repeat (first | (with_reducible exact Below.refl _ _) | (with_reducible assumption) | (with_reducible refine Below.drew ?_) | (with_reducible refine Below.allocS ?_ _) | (with_reducible refine Below.setCell ?_ ?_ _) | (with_reducible refine Below.step ?_ (by assumption)) | (with_reducible refine Below.drewN' ?_ _))); (try any_goals (first | (with_reducible assumption) | (simp; done) | (simp; omega) | omega))))
  go_big_quiet_on; (try simp only [Act.put, List.setIfInBounds_toArray, List.set_cons_zero, List.set_cons_succ])
  (first | go_big_quiet_skip | (go_big_quiet_want; refine quiet_val (v := ?_) ?_ ?_; rotate_left 1; (· (intro Wq hWq; obtain ⟨hWc, hWf⟩ := bcell hWq; go_simp; (try with_reducible rfl))); go_big_quiet_on; (try simp only [Act.put, List.setIfInBounds_toArray, List.set_cons_zero, List.set_cons_succ])))
  (first | go_big_quiet_skip | (go_big_quiet_want; refine quiet_val (v := ?_) ?_ ?_; rotate_left 1; (· (intro Wq hWq; obtain ⟨hWc, hWf⟩ := bcell hWq; go_simp; (try with_reducible rfl))); go_big_quiet_on; (try simp only [Act.put, List.setIfInBounds_toArray, List.set_cons_zero, List.set_cons_succ])))
  (first | go_big_quiet_skip | (go_big_quiet_want; refine quiet_val (v := ?_) ?_ ?_; rotate_left 1; (· (intro Wq hWq; obtain ⟨hWc, hWf⟩ := bcell hWq; go_simp; (try with_reducible rfl))); go_big_quiet_on; (try simp only [Act.put, List.setIfInBounds_toArray, List.set_cons_zero, List.set_cons_succ])))
  (first | go_big_quiet_skip | (go_big_quiet_want; refine quiet_val (v := ?_) ?_ ?_; rotate_left 1; (· (intro Wq hWq; obtain ⟨hWc, hWf⟩ := bcell hWq; go_simp; (try with_reducible rfl))); go_big_quiet_on; (try simp only [Act.put, List.setIfInBounds_toArray, List.set_cons_zero, List.set_cons_succ])))
  (first | go_big_quiet_skip | (go_big_quiet_want; refine quiet_val (v := ?_) ?_ ?_; rotate_left 1; (· (intro Wq hWq; obtain ⟨hWc, hWf⟩ := bcell hWq; go_simp; (try with_reducible rfl))); go_big_quiet_on; (try simp only [Act.put, List.setIfInBounds_toArray, List.set_cons_zero, List.set_cons_succ])))
  go_big_quiet_want; refine quiet_callB (f := 53) (args := ?_) (v := ?_) ?_ ?_ ?_; rotate_left 2
  · (intro Wq hWq; obtain ⟨hWc, hWf⟩ := bcell hWq; go_simp; (first | with_reducible rfl | exact ⟨rfl, rfl⟩))
  · (intro Wq hWq; exact I3.out Wq (by (repeat (first | (with_reducible exact Below.refl _ _) | (with_reducible assumption) | (with_reducible refine Below.drew ?_) | (with_reducible refine Below.allocS ?_ _) | (with_reducible refine Below.setCell ?_ ?_ _) | (with_reducible refine Below.step ?_ (by assumption)) | (with_reducible refine Below.drewN' ?_ _))); (try any_goals (first | (with_reducible assumption) | (simp; done) | (simp; omega) | omega))))
  go_big_quiet_on; (try simp only [Act.put, List.setIfInBounds_toArray, List.set_cons_zero, List.set_cons_succ])
  (first | go_big_quiet_skip | (go_big_quiet_want; refine quiet_val (v := ?_) ?_ ?_; rotate_left 1; (· (intro Wq hWq; obtain ⟨hWc, hWf⟩ := bcell hWq; go_simp; (try with_reducible rfl))); go_big_quiet_on; (try simp only [Act.put, List.setIfInBounds_toArray, List.set_cons_zero, List.set_cons_succ])))
  (first | go_big_quiet_skip | (go_big_quiet_want; refine quiet_val (v := ?_) ?_ ?_; rotate_left 1; (· (intro Wq hWq; obtain ⟨hWc, hWf⟩ := bcell hWq; go_simp; (try with_reducible rfl))); go_big_quiet_on; (try simp only [Act.put, List.setIfInBounds_toArray, List.set_cons_zero, List.set_cons_succ])))
  (first | go_big_quiet_skip | (go_big_quiet_want; refine quiet_val (v := ?_) ?_ ?_; rotate_left 1; (· (intro Wq hWq; obtain ⟨hWc, hWf⟩ := bcell hWq; go_simp; (try with_reducible rfl))); go_big_quiet_on; (try simp only [Act.put, List.setIfInBounds_toArray, List.set_cons_zero, List.set_cons_succ])))
  refine wpQuiet_nil ?_; intro V hbV
  go_wp2
  go_ret
  exact ⟨by rw [← HL.out]; rfl, by (repeat (first | (with_reducible exact Below.refl _ _) | (with_reducible assumption) | (with_reducible refine Below.drew ?_) | (with_reducible refine Below.allocS ?_ _) | (with_reducible refine Below.setCell ?_ ?_ _) | (with_reducible refine Below.step ?_ (by assumption)) | (with_reducible refine Below.drewN' ?_ _))); (try any_goals (first | (with_reducible assumption) | (simp; done) | (simp; omega) | omega))⟩
end Go.Proofs.YtimbdnngeoccdaaDoor
