/-
  Lists of indexes: listed, there, ascending. No conditions.
-/
import Derived.Test.YtomgaiokmdcjmaaNt21
namespace Go.Proofs.Ytomgaiokmdcjmaa
open Go.RowKit Go.Deep
set_option linter.unusedVariables false
set_option linter.unusedSimpArgs false
theorem all_false {p : Nat → Bool} {n k : Nat} (hk : k < n) (h : p k = false) : (List.range n).all p = false := by
  rw [List.all_eq_false]
  exact ⟨k, List.mem_range.2 hk, by rw [h]; simp⟩
theorem all_end {p : Nat → Bool} {n : Nat} (h : ∀ j, j < n → p j = true) : (List.range n).all p = true := by
  rw [List.all_eq_true]
  exact fun j hj => h j (List.mem_range.1 hj)
theorem all_get {p : Nat → Bool} {n : Nat} (h : (List.range n).all p = true) : ∀ j, j < n → p j = true := fun j hj => List.all_eq_true.1 h j (List.mem_range.2 hj)
theorem IndexFuncI (l : List Int) (n : Nat) (hn : l.length = n) (A : Option Addr) (cap : Nat) (hl : n ≤ 9223372036854775807) (fv : Nat) (caps : Array Value) (p : Int → Bool) (w : World) (hr : RdL w w.heap.size inE 1 A l)
    (hcall : ∀ (args : Array Value) (W : World), (callFunc fv args).run Try.prog W = .ok (.enter fv args) W)
    (hf : ∀ x ∈ l, ∀ W, Below w.heap.size w W → Calls Try.prog fv (#[.int .i64 x] ++ caps) W fun e W' => e = .returned (.bool (p x)) ∧ Below W.heap.size W W') :
    Calls Try.prog 118 #[.slice A n cap, .func (.func fv) #[] caps] w fun e w' => e = .returned (.int .i64 (idxOf p l 0)) ∧ Below w.heap.size w w' := by
  have HF := Lib.hid hf
  have HR := Lib.hid hr
  have HN := Lib.hid hn
  clear hf hr hn
  go_enter Try.func118, Try.ntmps118
  go_wp2
  go_loopw [5, 8] (fun u i wr => ∃ k : Nat, k ≤ n ∧ i = .int .i64 k ∧ Below w.heap.size w wr ∧ idxOf p l 0 = idxOf p (l.drop k) k) (fun u i _ => n - (intOf i).toNat)
  case atStart => exact ⟨0, Nat.zero_le _, rfl, Below.refl _ _, rfl⟩
  case round =>
    obtain ⟨k, hk, rfl, hbw, hx⟩ := hrel
    have HX := Lib.hid hx
    clear hx
    by_cases hlt : k < n
    · have hl1 : k < l.length := by rw [HN.out]; exact hlt
      obtain ⟨b, off, rfl, hb0, hc⟩ := HR.out (by omega)
      have c0 := hc k hl1 0 _ rfl
      clear hc
      rw [← hbw.cell (p := ⟨b, _, none⟩) hb0] at c0
      have hmem : l[k] ∈ l := List.getElem_mem hl1
      have HCC := Lib.hid (HF.out l[k] hmem wr hbw)
      have HD := Lib.hid (List.drop_eq_getElem_cons hl1)
      clear hmem
      generalize l[k] = x at *
      simp at c0
      clear hl1
      obtain ⟨q, hq⟩ : ∃ q, q = p x := ⟨_, rfl⟩
      have HQ := Lib.hid hq
      rw [← hq] at HCC
      clear hq
      cases q
      · go_wp2_with fail
        refine HCC.out.mono ?_
        rintro e w1 ⟨rfl, hb⟩
        go_wp2
        go_roundw
        case rel => exact ⟨k + 1, by omega, by go_num, Below.step hbw hb, by rw [HX.out, HD.out, idxOf_false _ _ _ _ HQ.out.symm]⟩
        case measure => simp [intOf]; omega
      · go_wp2_with fail
        refine HCC.out.mono ?_
        rintro e w1 ⟨rfl, hb⟩
        go_wp2
        go_ret
        exact ⟨by rw [HX.out, HD.out, idxOf_true _ _ _ _ HQ.out.symm]; rfl, Below.step hbw hb⟩
    · obtain rfl : k = n := by omega
      have HD := Lib.hid (show l.drop k = [] from List.drop_of_length_le (by rw [HN.out]; exact Nat.le_refl _))
      go_wp2
      go_ret
      exact ⟨by rw [HX.out, HD.out]; simp [idxOf], hbw⟩
theorem ContainsFuncI (l : List Int) (n : Nat) (hn : l.length = n) (A : Option Addr) (cap : Nat) (hl : n ≤ 9223372036854775807) (fv : Nat) (caps : Array Value) (p : Int → Bool) (w : World) (hr : RdL w w.heap.size inE 1 A l)
    (hcall : ∀ (args : Array Value) (W : World), (callFunc fv args).run Try.prog W = .ok (.enter fv args) W)
    (hf : ∀ x ∈ l, ∀ W, Below w.heap.size w W → Calls Try.prog fv (#[.int .i64 x] ++ caps) W fun e W' => e = .returned (.bool (p x)) ∧ Below W.heap.size W W') :
    Calls Try.prog 98 #[.slice A n cap, .func (.func fv) #[] caps] w fun e w' => e = .returned (.bool (l.any p)) ∧ Below w.heap.size w w' := by
  have HI := Lib.hid (IndexFuncI l n hn A cap hl fv caps p w hr hcall hf)
  have HE := Lib.hid (idxOf_any p l 0)
  clear hf hr hcall hn
  go_enter Try.func98, Try.ntmps98
  go_wp2_with (go_at_call 118; refine HI.out.mono ?_; rintro e w1 ⟨rfl, hb⟩)
  go_ret
  exact ⟨by rw [← HE.out]; rfl, hb⟩
/-- All numbers are indexes. -/
def lstB (n : Nat) (r : List Int) : Bool := r.all (fun i => within i 0 ((n : Int) - 1))
theorem lstB_any (n : Nat) (r : List Int) : (!r.any (fun i => !within i 0 ((n : Int) - 1))) = lstB n r := by
  unfold lstB
  induction r with
  | nil => rfl
  | cons a t ih => rw [List.any_cons, List.all_cons, ← ih]; cases within a 0 ((n : Int) - 1) <;> simp
theorem call_out (args : Array Value) (W : World) : (callFunc 99 args).run Try.prog W = .ok (.enter 99 args) W := by kernel_rfl
theorem out1_c (i : Int) (A : Option Addr) (n cap P : Nat) (hn : n ≤ 1000000) (w : World) (c0 : w.cell? ⟨P, 0, none⟩ = some (.slice A n cap)) :
    Calls Try.prog 99 #[.int .i64 i, .pointer (some ⟨P, 0, none⟩)] w fun e w' => e = .returned (.bool (!within i 0 ((n : Int) - 1))) ∧ Below w.heap.size w w' := by
  have HW := Lib.hid (fun W => within_c i 0 ((n : Int) - 1) W)
  have s1 : IntKind.i64.wrap ((n : Int) - 1) = (n : Int) - 1 := IntWalk.i64_in _ (by omega)
  generalize within i 0 ((n : Int) - 1) = x at *
  go_enter Try.func99, Try.ntmps99
  go_wp2_with fail
  refine (HW.out _).mono ?_
  rintro e w' ⟨rfl, hw'⟩; replace hw' := hw'.symm; subst hw'
  go_wp2
  go_ret
  exact ⟨rfl, Below.refl _ _⟩
theorem listed_c (n : Nat) (hn : n ≤ 1000000) (A : Option Addr) (cap : Nat) (r : List Int) (m : Nat) (hm : r.length = m) (hm2 : m ≤ 9223372036854775807) (C : Option Addr) (cc : Nat) (w : World) (hr : RdL w w.heap.size inE 1 C r) :
    Calls Try.prog 55 #[.slice A n cap, .slice C m cc] w fun e w' => e = .returned (.bool (lstB n r)) ∧ Below w.heap.size w w' := by
  have H1 : Hid (∀ W, Below w.heap.size w W → W.cell? ⟨w.heap.size, 0, none⟩ = some (.slice A n cap) → Calls Try.prog 98 #[.slice C m cc, .func (.func 99) #[] #[.pointer (some ⟨w.heap.size, 0, none⟩)]] W fun e w' => e = .returned (.bool (r.any (fun i => !within i 0 ((n : Int) - 1)))) ∧ Below W.heap.size W w') :=
    Lib.hid (fun W hb h1 => ContainsFuncI r m hm C cc hm2 99 _ (fun i => !within i 0 ((n : Int) - 1)) W (hr.step hb) call_out (fun x _ V hv => out1_c x A n cap w.heap.size hn V (keep_cell hv h1)))
  clear hr hm
  rw [← lstB_any]
  generalize r.any (fun i => !within i 0 ((n : Int) - 1)) = B at *
  go_enter Try.func55, Try.ntmps55
  go_wp2_with (go_at_call 98; refine (H1.out _ (by (repeat (first | (with_reducible exact Below.refl _ _) | (with_reducible assumption) | (with_reducible refine Below.drew ?_) | (with_reducible refine Below.allocS ?_ _) | (with_reducible refine Below.setCell ?_ ?_ _) | (with_reducible refine Below.step ?_ (by assumption)) | (with_reducible refine Below.drewN' ?_ _))); (try any_goals (first | (with_reducible assumption) | (simp; done) | (simp; omega) | omega))) (by simp [go_sem])).mono ?_; rintro e w1 ⟨rfl, hb⟩)
  go_ret
  exact ⟨by first | rfl | simp, Below.low (by (repeat (first | (with_reducible exact Below.refl _ _) | (with_reducible assumption) | (with_reducible refine Below.drew ?_) | (with_reducible refine Below.allocS ?_ _) | (with_reducible refine Below.setCell ?_ ?_ _) | (with_reducible refine Below.step ?_ (by assumption)) | (with_reducible refine Below.drewN' ?_ _))); (try any_goals (first | (with_reducible assumption) | (simp; done) | (simp; omega) | omega))) hb (by simp)⟩
def atI (r : List Int) (k : Nat) : Int := r.getD k 0
theorem lstB_at {n : Nat} {r : List Int} : lstB n r = (List.range r.length).all (fun k => within (atI r k) 0 ((n : Int) - 1)) := by
  unfold lstB atI
  rw [Bool.eq_iff_iff, List.all_eq_true, List.all_eq_true]
  constructor
  · intro h k hk
    have hk := List.mem_range.1 hk
    rw [List.getD_eq_getElem?_getD, List.getElem?_eq_getElem hk]
    exact h _ (List.getElem_mem hk)
  · intro h x hx
    obtain ⟨k, hk, rfl⟩ := List.mem_iff_getElem.1 hx
    have := h k (List.mem_range.2 hk)
    rw [List.getD_eq_getElem?_getD, List.getElem?_eq_getElem hk] at this
    exact this
/-- The cell of a list of numbers. -/
theorem int_cell {w W : World} {A : Option Addr} {r : List Int} {k : Nat} (hr : RdL w w.heap.size inE 1 A r) (hb : Below w.heap.size w W) (hk : k < r.length) : ∃ b off, A = some ⟨b, off, none⟩ ∧ b < w.heap.size ∧ ∀ j, j < r.length → W.cell? ⟨b, off + j, none⟩ = some (.int .i64 (atI r j)) := by
  obtain ⟨b, off, e, hb0, hc⟩ := hr (by omega)
  refine ⟨b, off, e, hb0, fun j hj => ?_⟩
  have := (hb.cell (p := ⟨b, _, none⟩) hb0).trans (hc j hj 0 _ rfl)
  unfold atI
  rw [List.getD_eq_getElem?_getD, List.getElem?_eq_getElem hj]
  simpa using this
set_option maxHeartbeats 1000000 in
theorem there_c (n : Nat) (hn : n ≤ 1000000) (A : Option Addr) (cap : Nat) (r : List Int) (m : Nat) (hm : r.length = m) (hm2 : m ≤ 9223372036854775806) (C : Option Addr) (cc : Nat) (w : World) (hr : RdL w w.heap.size inE 1 C r) :
    Calls Try.prog 76 #[.slice A n cap, .slice C m cc] w fun e w' => e = .returned (.bool (lstB n r)) ∧ Below w.heap.size w w' := by
  have HR := Lib.hid hr
  have HM := Lib.hid hm
  have HE := Lib.hid (@lstB_at n r)
  clear hr hm
  go_enter Try.func76, Try.ntmps76
  go_wp2
  go_loopw [9] (fun i wr => ∃ k : Nat, k ≤ m ∧ i = .int .i64 k ∧ (∀ j, j < k → within (atI r j) 0 ((n : Int) - 1) = true) ∧ w = wr) (fun i _ => m - (intOf i).toNat)
  case atStart => exact ⟨0, Nat.zero_le _, rfl, fun j hj => absurd hj (Nat.not_lt_zero j), rfl⟩
  case round =>
    obtain ⟨k, hk, rfl, hj, rfl⟩ := hrel
    have HJ := Lib.hid hj
    clear hj
    by_cases hlt : k < m
    · have hl1 : k < r.length := by rw [HM.out]; exact hlt
      obtain ⟨b, off, rfl, hb0, hc⟩ := int_cell HR.out (Below.refl _ _) hl1
      have c0 := hc k hl1
      obtain ⟨x, hx⟩ : ∃ x, x = atI r k := ⟨_, rfl⟩
      have HX := Lib.hid hx
      rw [← hx] at c0
      have u3 : IntKind.i64.wrap ((k : Int) + 1) = (k : Int) + 1 := IntWalk.i64_in _ (by omega)
      clear hc hx
      by_cases h1 : x < 0
      · have d1 : decide (x < 0) = true := decide_eq_true h1
        have HF := Lib.hid (show lstB n r = false by rw [HE.out]; exact all_false hl1 (by rw [← HX.out]; unfold within; rw [decide_eq_false (by omega)]; rfl))
        clear h1 hl1
        go_wp2
        go_ret
        exact ⟨by rw [HF.out]; rfl, Below.refl _ _⟩
      have d1 : decide (x < 0) = false := decide_eq_false h1
      by_cases h2 : (n : Int) ≤ x
      · have d2 : decide (x ≥ (n : Int)) = true := decide_eq_true h2
        have HF := Lib.hid (show lstB n r = false by rw [HE.out]; exact all_false hl1 (by rw [← HX.out]; unfold within; rw [decide_eq_false (show ¬ x ≤ (n : Int) - 1 by omega)]; simp))
        clear h1 h2 hl1
        go_wp2
        go_ret
        exact ⟨by rw [HF.out]; rfl, Below.refl _ _⟩
      have d2 : decide (x ≥ (n : Int)) = false := decide_eq_false h2
      have HN := Lib.hid (show within (atI r k) 0 ((n : Int) - 1) = true by rw [← HX.out]; unfold within; rw [decide_eq_true (show (0 : Int) ≤ x by omega), decide_eq_true (show x ≤ (n : Int) - 1 by omega)]; rfl)
      clear h1 h2 hl1
      go_wp2
      go_roundw
      case rel => exact ⟨k + 1, by omega, by go_num, fun j hj => (by rcases Nat.lt_succ_iff_lt_or_eq.1 hj with h | rfl; exact HJ.out j h; exact HN.out), trivial⟩
      case measure => simp [intOf]; omega
    · obtain rfl : k = m := by omega
      have HF := Lib.hid (show lstB n r = true by rw [HE.out]; exact all_end (fun j hj => HJ.out j (by rw [← HM.out]; exact hj)))
      go_wp2
      go_ret
      exact ⟨by rw [HF.out]; rfl, Below.refl _ _⟩
/-- Strictly ascending. -/
def ascAt (r : List Int) (k : Nat) : Bool := decide (k = 0) || decide (atI r (k - 1) < atI r k)
def ascB (r : List Int) : Bool := (List.range r.length).all (ascAt r)
set_option maxHeartbeats 1000000 in
theorem ascending_c (r : List Int) (m : Nat) (hm : r.length = m) (hm2 : m ≤ 9223372036854775806) (C : Option Addr) (cc : Nat) (w : World) (hr : RdL w w.heap.size inE 1 C r) :
    Calls Try.prog 56 #[.slice C m cc] w fun e w' => e = .returned (.bool (ascB r)) ∧ Below w.heap.size w w' := by
  have HR := Lib.hid hr
  have HM := Lib.hid hm
  clear hr hm
  go_enter Try.func56, Try.ntmps56
  go_wp2
  go_loopw [3] (fun i wr => ∃ k : Nat, 1 ≤ k ∧ (k ≤ m ∨ k = 1) ∧ i = .int .i64 k ∧ (∀ j, j < k → ascAt r j = true) ∧ Below w.heap.size w wr) (fun i _ => m - (intOf i).toNat)
  case atStart => exact ⟨1, Nat.le_refl _, .inr rfl, rfl, fun j hj => (by have h0 : j = 0 := (by omega); subst h0; rfl), Below.refl _ _⟩
  case round =>
    obtain ⟨k, hk1, hk, rfl, hj, hbw⟩ := hrel
    have HJ := Lib.hid hj
    clear hj
    by_cases hlt : k < m
    · have hl1 : k < r.length := by rw [HM.out]; exact hlt
      obtain ⟨b, off, rfl, hb0, hc⟩ := int_cell HR.out hbw hl1
      obtain ⟨k, rfl⟩ : ∃ j, k = j + 1 := ⟨k - 1, by omega⟩
      have c0 := hc (k + 1) hl1
      have c1 := hc k (by omega)
      have HA := Lib.hid (show ascAt r (k + 1) = decide (atI r k < atI r (k + 1)) by unfold ascAt; simp)
      have yb := cell?_lt c0
      generalize atI r (k + 1) = x at *
      generalize atI r k = y at *
      have u1 : decide (((k + 1 : Nat) : Int) < (m : Int)) = true := decide_eq_true (by omega)
      have u2 : (0 : Int) ≤ ((k + 1 : Nat) : Int) := by omega
      have u3 : ((k + 1 : Nat) : Int) < (m : Int) := by omega
      have u4 : IntKind.i64.wrap (((k + 1 : Nat) : Int) + 1) = ((k + 1 + 1 : Nat) : Int) := IntWalk.i64_in _ (by omega)
      have u5 : IntKind.i64.wrap (((k + 1 : Nat) : Int) - 1) = (k : Int) := by rw [show ((k + 1 : Nat) : Int) - 1 = (k : Int) by omega]; exact IntWalk.i64_in _ (by omega)
      have u6 : (0 : Int) ≤ (k : Int) := by omega
      have u7 : (k : Int) < (m : Int) := by omega
      clear hc
      obtain ⟨K, hK⟩ : ∃ K : Int, K = ((k + 1 : Nat) : Int) := ⟨_, rfl⟩
      have t1 : K.toNat = k + 1 := by rw [hK]; exact Int.toNat_natCast _
      rw [← hK] at u1 u2 u3 u4 u5 ⊢
      clear hK
      by_cases h1 : x ≤ y
      · have d1 : decide (x ≤ y) = true := decide_eq_true h1
        have HF := Lib.hid (show ascB r = false from all_false hl1 (by rw [HA.out]; exact decide_eq_false (by omega)))
        clear h1 hl1
        go_wp2_with fail
        go_quiet (fail)
        go_wp2
        go_ret
        exact ⟨by rw [HF.out]; rfl, by (repeat (first | (with_reducible exact Below.refl _ _) | (with_reducible assumption) | (with_reducible refine Below.drew ?_) | (with_reducible refine Below.allocS ?_ _) | (with_reducible refine Below.setCell ?_ ?_ _) | (with_reducible refine Below.step ?_ (by assumption)) | (with_reducible refine Below.drewN' ?_ _))); (try any_goals (first | (with_reducible assumption) | (simp; done) | (simp; omega) | omega))⟩
      have d1 : decide (x ≤ y) = false := decide_eq_false h1
      have HN := Lib.hid (show ascAt r (k + 1) = true by rw [HA.out]; exact decide_eq_true (by omega))
      clear h1 hl1
      go_wp2_with fail
      go_quiet (fail)
      go_wp2
      go_roundw
      case rel => exact ⟨k + 1 + 1, by omega, .inl (by omega), by first | rfl | go_num, fun j hj => (by rcases Nat.lt_succ_iff_lt_or_eq.1 hj with h | rfl; exact HJ.out j h; exact HN.out), by (repeat (first | (with_reducible exact Below.refl _ _) | (with_reducible assumption) | (with_reducible refine Below.drew ?_) | (with_reducible refine Below.allocS ?_ _) | (with_reducible refine Below.setCell ?_ ?_ _) | (with_reducible refine Below.step ?_ (by assumption)) | (with_reducible refine Below.drewN' ?_ _))); (try any_goals (first | (with_reducible assumption) | (simp; done) | (simp; omega) | omega))⟩
      case measure => simp [intOf, t1]; omega
    · have u1 : decide ((k : Int) < (m : Int)) = false := decide_eq_false (by omega)
      have HF := Lib.hid (show ascB r = true from all_end (fun j hj => HJ.out j (by rw [HM.out] at hj; omega)))
      go_wp2
      go_ret
      exact ⟨by rw [HF.out]; rfl, hbw⟩
end Go.Proofs.Ytomgaiokmdcjmaa
