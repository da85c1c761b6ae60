/-
  A chance's line, by night and by the reference.
-/
import Derived.Test.YtimbdnngeoccdaaGreatDoorTx3
import Derived.Test.YtimbdnngeoccdaaGreatDoorTn1
namespace Go.Proofs.YtimbdnngeoccdaaGreatDoor
open Go.RowKit Go.Deep
set_option linter.unusedVariables false
set_option linter.unusedSimpArgs false
def stE (x : List UInt8) : List Value := [.string (str x)]
theorem appSt : AppE 56 9 stE 1 where
  ht := Tryz.underlying56
  info := app_info (z := .string ⟨#[]⟩) (bytes := 16) (by kernel_rfl) rfl (by decide)
  pos := by decide
  len := fun x => rfl
  one := fun x u hu => by simp [stE] at hu; subst hu; rfl
theorem row_of_new (W : World) (base : Nat) (e : TypeId) (sz n : Nat) (cs : List Value) (hb : base ≤ W.heap.size) (hl : cs.length = n * sz) (hn : n ≤ maxLen) : (W.alloc (.cells cs.toArray e)).ownsRow base e sz (.slice (some ⟨W.heap.size, 0, none⟩) n n) n cs :=
  ⟨hl, .inr ⟨_, _, cs.toArray, rfl, hb, World.alloc_heap_new _ _, Nat.le_refl _, hn, by simp [hl], by simp [← hl]⟩⟩
/-- The words of a chance's line: the first k numbers behind the name. -/
def wordsC (x : Ch) : Nat → List (List UInt8)
  | 0 => [x.nm.data.toList]
  | 1 => [x.nm.data.toList, Lib.itoa x.a]
  | 2 => [x.nm.data.toList, Lib.itoa x.a, Lib.itoa x.b]
  | 3 => [x.nm.data.toList, Lib.itoa x.a, Lib.itoa x.b, Lib.itoa x.t]
  | _ => [x.nm.data.toList, Lib.itoa x.a, Lib.itoa x.b, Lib.itoa x.t, Lib.itoa x.v]
theorem join_words (x : Ch) : Lib.join (wordsC x 4) [32] = bodyC x := by
  show Lib.join [x.nm.data.toList, Lib.itoa x.a, Lib.itoa x.b, Lib.itoa x.t, Lib.itoa x.v] [32] = bodyC x
  unfold bodyC
  rw [Lib.join_cons]
  simp [Lib.joinTail]
theorem ix0 (a b c d : Int) (W : World) : (Instr.index 107 (.agg #[.int .i64 a, .int .i64 b, .int .i64 c, .int .i64 d]) (.int .i64 0)).run Tryz.prog W = .ok (.int .i64 a) W := by kernel_rfl
theorem ix1 (a b c d : Int) (W : World) : (Instr.index 107 (.agg #[.int .i64 a, .int .i64 b, .int .i64 c, .int .i64 d]) (.int .i64 1)).run Tryz.prog W = .ok (.int .i64 b) W := by kernel_rfl
theorem ix2 (a b c d : Int) (W : World) : (Instr.index 107 (.agg #[.int .i64 a, .int .i64 b, .int .i64 c, .int .i64 d]) (.int .i64 2)).run Tryz.prog W = .ok (.int .i64 c) W := by kernel_rfl
theorem ix3 (a b c d : Int) (W : World) : (Instr.index 107 (.agg #[.int .i64 a, .int .i64 b, .int .i64 c, .int .i64 d]) (.int .i64 3)).run Tryz.prog W = .ok (.int .i64 d) W := by kernel_rfl
theorem body_size {x : Ch} (hn : x.nm.size ≤ 70000) (ra : I64 x.a) (rb : I64 x.b) (rt : I64 x.t) (rv : I64 x.v) : (bodyC x).length ≤ 71000 := by
  obtain ⟨a0, a1⟩ := ra
  obtain ⟨b0, b1⟩ := rb
  obtain ⟨t0, t1⟩ := rt
  obtain ⟨v0, v1⟩ := rv
  rw [size_list] at hn
  have i1 := itoa_len 18 x.a (by omega)
  have i2 := itoa_len 18 x.b (by omega)
  have i3 := itoa_len 18 x.t (by omega)
  have i4 := itoa_len 18 x.v (by omega)
  unfold bodyC
  simp only [List.length_append, List.length_cons]
  omega
theorem join_l (xs : List (List UInt8)) (n : Nat) (hn : xs.length = n) (base : Nat) (A : Option Addr) (cap : Nat) (w : World) (hrow : w.ownsRow base 9 1 (.slice A n cap) n (xs.flatMap stE)) (h0 : 0 < n) (hN : n ≤ 1000) (hl : (Lib.join xs [32]).length ≤ 140737488355328) :
    Calls Tryz.prog 62 #[.slice A n cap, .string ⟨#[32]⟩] w fun e w' => e = .returned (.string (str (Lib.join xs [32]))) ∧ Below w.heap.size w w' := by
  subst hn
  have hr : RdL w w.heap.size stE 1 A xs := RdL.of_own (fun _ => rfl) hrow rfl
  obtain ⟨A', c', hv, hc1, hc2⟩ := row_form hrow
  injection hv with e1 _ e2
  subst e1 e2
  obtain ⟨b, off, rfl, hlt, hc⟩ := hr h0
  have hm : (xs.map str).map (·.data.toList) = xs := by
    rw [List.map_map]
    conv => rhs; rw [← List.map_id xs]
    exact List.map_congr_left fun a _ => str_data a
  have h := Tryz.strings_Join b off cap (xs.map str) ⟨#[32]⟩ w (fun j x hx => by
    rw [List.getElem?_map] at hx
    cases hj : xs[j]? with
    | none => rw [hj] at hx; cases hx
    | some y =>
      rw [hj] at hx
      injection hx with hx
      subst hx
      obtain ⟨hj1, hj2⟩ := List.getElem?_eq_some_iff.1 hj
      have := hc j hj1 0 (.string (str y)) (by rw [hj2]; rfl)
      rw [Nat.mul_one, Nat.add_zero] at this
      exact this) hlt (by rw [List.length_map]; omega) (by rw [List.length_map]; exact hc1) (by rw [hm]; exact hl)
  rw [List.length_map, hm] at h
  exact h
set_option maxHeartbeats 2000000 in
set_option maxRecDepth 100000 in
theorem written_c (x : Ch) (hn : x.nm.size ≤ 70000) (ra : I64 x.a) (rb : I64 x.b) (rt : I64 x.t) (rv : I64 x.v) (w : World) (hE : Env w) :
    Calls Tryz.prog 38 #[.agg #[.string x.nm, .int .i64 x.a, .int .i64 x.b, .int .i64 x.t, .int .i64 x.v]] w fun e w' => e = .returned (.string (str (fmC.line x))) ∧ Below w.heap.size w w' := by
  have hsz := body_size hn ra rb rt rv
  have HJ := Lib.hid (join_words x)
  obtain ⟨a0, a1⟩ := ra
  obtain ⟨b0, b1⟩ := rb
  obtain ⟨t0, t1⟩ := rt
  obtain ⟨v0, v1⟩ := rv
  have HI := Lib.hid (fun n (h0 : -9223372036854775808 ≤ n) (h1 : n ≤ 9223372036854775807) W (hb : Below w.heap.size w W) => itoa_c n h0 h1 W (hE.step hb))
  have i0 := ix0 x.a x.b x.t x.v
  have i1 := ix1 x.a x.b x.t x.v
  have i2 := ix2 x.a x.b x.t x.v
  have i3 := ix3 x.a x.b x.t x.v
  clear hE
  go_enter Tryz.func38, Tryz.ntmps38
  go_wp2
  go_loopw [3, 18] (fun l i wr => ∃ k : Nat, k ≤ 4 ∧ i = .int .i64 k ∧ wr.ownsRow w.heap.size 9 1 l (k + 1) ((wordsC x k).flatMap stE) ∧ Below w.heap.size w wr) (fun _ i _ => 4 - (intOf i).toNat)
  case atStart => exact ⟨0, by omega, rfl, by
    have := row_of_new (w.alloc (.cells #[.string x.nm, .int .i64 x.a, .int .i64 x.b, .int .i64 x.t, .int .i64 x.v] 74)) w.heap.size 9 1 1 [.string x.nm] (by simp) rfl (by unfold maxLen; omega)
    simpa [wordsC, stE, str_eta] using this, by (repeat (first | (with_reducible exact Below.refl _ _) | (with_reducible assumption) | (with_reducible refine Below.drew ?_) | (with_reducible refine Below.allocS ?_ _) | (with_reducible refine Below.setCell ?_ ?_ _) | (with_reducible refine Below.step ?_ (by assumption)) | (with_reducible refine Below.drewN' ?_ _))); (try any_goals (first | (with_reducible assumption) | (simp; done) | (simp; omega) | omega))⟩
  case round =>
    obtain ⟨k, hk, rfl, hrow, hbw⟩ := hrel
    have hk4 : k = 0 ∨ k = 1 ∨ k = 2 ∨ k = 3 ∨ k = 4 := by omega
    rcases hk4 with rfl | rfl | rfl | rfl | rfl
    all_goals dsimp only [wordsC] at hrow
    · obtain ⟨A, c, rfl, hkc, hkm⟩ := row_form hrow
      have HO := Lib.hid hrow
      clear hrow
      go_wp2_with fail
      refine (HI.out x.a (by omega) (by omega) _ hbw).mono ?_
      rintro e w1 ⟨rfl, hb1⟩
      have hb1s := hb1.size
      have hws := hbw.size
      have hrow1 := ownsRow_keep HO.out hb1
      have HAPP := Lib.hid (app_run appSt [x.nm.data.toList] (Lib.itoa x.a) 1 rfl (by omega) (w1.alloc (.cells #[.string (str (Lib.itoa x.a))] 9)) w.heap.size w1.heap.size _ (hrow1.alloc _) (by simp; omega) (one_cell rfl (by simp [go_sem])))
      have hbw1 : Below w.heap.size w (w1.alloc (.cells #[.string (str (Lib.itoa x.a))] 9)) := Below.allocS (Below.step hbw hb1) _
      clear hrow1 hb1
      go_wp2_with (at_builtin; refine wpList_app rfl (.tmp 21) (.tmp 24) 56 rfl _ _ rfl rfl HAPP.out ?_; rintro v5 w5 ⟨hown5, hbel5⟩; have HO5 := Lib.hid hown5; have hB5 : Below w.heap.size w w5 := hbw1.trans hbel5; clear hown5 hbel5)
      go_roundw
      case rel => exact ⟨1, by omega, by rfl, HO5.out, hB5⟩
      case measure => simp [intOf]
    · obtain ⟨A, c, rfl, hkc, hkm⟩ := row_form hrow
      have HO := Lib.hid hrow
      clear hrow
      go_wp2_with fail
      refine (HI.out x.b (by omega) (by omega) _ hbw).mono ?_
      rintro e w1 ⟨rfl, hb1⟩
      have hb1s := hb1.size
      have hws := hbw.size
      have hrow1 := ownsRow_keep HO.out hb1
      have HAPP := Lib.hid (app_run appSt [x.nm.data.toList, Lib.itoa x.a] (Lib.itoa x.b) 2 rfl (by omega) (w1.alloc (.cells #[.string (str (Lib.itoa x.b))] 9)) w.heap.size w1.heap.size _ (hrow1.alloc _) (by simp; omega) (one_cell rfl (by simp [go_sem])))
      have hbw1 : Below w.heap.size w (w1.alloc (.cells #[.string (str (Lib.itoa x.b))] 9)) := Below.allocS (Below.step hbw hb1) _
      clear hrow1 hb1
      go_wp2_with (at_builtin; refine wpList_app rfl (.tmp 21) (.tmp 24) 56 rfl _ _ rfl rfl HAPP.out ?_; rintro v5 w5 ⟨hown5, hbel5⟩; have HO5 := Lib.hid hown5; have hB5 : Below w.heap.size w w5 := hbw1.trans hbel5; clear hown5 hbel5)
      go_roundw
      case rel => exact ⟨2, by omega, by rfl, HO5.out, hB5⟩
      case measure => simp [intOf]
    · obtain ⟨A, c, rfl, hkc, hkm⟩ := row_form hrow
      have HO := Lib.hid hrow
      clear hrow
      go_wp2_with fail
      refine (HI.out x.t (by omega) (by omega) _ hbw).mono ?_
      rintro e w1 ⟨rfl, hb1⟩
      have hb1s := hb1.size
      have hws := hbw.size
      have hrow1 := ownsRow_keep HO.out hb1
      have HAPP := Lib.hid (app_run appSt [x.nm.data.toList, Lib.itoa x.a, Lib.itoa x.b] (Lib.itoa x.t) 3 rfl (by omega) (w1.alloc (.cells #[.string (str (Lib.itoa x.t))] 9)) w.heap.size w1.heap.size _ (hrow1.alloc _) (by simp; omega) (one_cell rfl (by simp [go_sem])))
      have hbw1 : Below w.heap.size w (w1.alloc (.cells #[.string (str (Lib.itoa x.t))] 9)) := Below.allocS (Below.step hbw hb1) _
      clear hrow1 hb1
      go_wp2_with (at_builtin; refine wpList_app rfl (.tmp 21) (.tmp 24) 56 rfl _ _ rfl rfl HAPP.out ?_; rintro v5 w5 ⟨hown5, hbel5⟩; have HO5 := Lib.hid hown5; have hB5 : Below w.heap.size w w5 := hbw1.trans hbel5; clear hown5 hbel5)
      go_roundw
      case rel => exact ⟨3, by omega, by rfl, HO5.out, hB5⟩
      case measure => simp [intOf]
    · obtain ⟨A, c, rfl, hkc, hkm⟩ := row_form hrow
      have HO := Lib.hid hrow
      clear hrow
      go_wp2_with fail
      refine (HI.out x.v (by omega) (by omega) _ hbw).mono ?_
      rintro e w1 ⟨rfl, hb1⟩
      have hb1s := hb1.size
      have hws := hbw.size
      have hrow1 := ownsRow_keep HO.out hb1
      have HAPP := Lib.hid (app_run appSt [x.nm.data.toList, Lib.itoa x.a, Lib.itoa x.b, Lib.itoa x.t] (Lib.itoa x.v) 4 rfl (by omega) (w1.alloc (.cells #[.string (str (Lib.itoa x.v))] 9)) w.heap.size w1.heap.size _ (hrow1.alloc _) (by simp; omega) (one_cell rfl (by simp [go_sem])))
      have hbw1 : Below w.heap.size w (w1.alloc (.cells #[.string (str (Lib.itoa x.v))] 9)) := Below.allocS (Below.step hbw hb1) _
      clear hrow1 hb1
      go_wp2_with (at_builtin; refine wpList_app rfl (.tmp 21) (.tmp 24) 56 rfl _ _ rfl rfl HAPP.out ?_; rintro v5 w5 ⟨hown5, hbel5⟩; have HO5 := Lib.hid hown5; have hB5 : Below w.heap.size w w5 := hbw1.trans hbel5; clear hown5 hbel5)
      go_roundw
      case rel => exact ⟨4, by omega, by rfl, HO5.out, hB5⟩
      case measure => simp [intOf]
    · obtain ⟨A, c, rfl, hkc, hkm⟩ := row_form hrow
      have HO := Lib.hid (join_l (wordsC x 4) 5 rfl w.heap.size A c wr hrow (by omega) (by omega) (by rw [HJ.out]; omega))
      rw [HJ.out] at HO
      have hjs : (str (bodyC x)).size ≤ 71000 := by rw [size_str]; exact hsz
      have HL := Lib.hid (show str (bodyC x) ++ str [10] = str (fmC.line x) by rw [str_append]; rfl)
      clear hrow HJ HI
      generalize str (bodyC x) = B at *
      have n1 : ¬ 9223372036854775807 < B.size + 1 := by omega
      go_wp2_with fail
      refine HO.out.mono ?_
      rintro e w1 ⟨rfl, hb1⟩
      go_wp2
      go_ret
      exact ⟨by rw [← HL.out]; rfl, Below.step hbw hb1⟩
end Go.Proofs.YtimbdnngeoccdaaGreatDoor
