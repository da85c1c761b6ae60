/-
  What a crew is asked: of both. No conditions.
-/
import Derived.Test.YtomgaiokmdcjmaaNt22
namespace Go.Proofs.Ytomgaiokmdcjmaa
open Go.RowKit Go.Deep
set_option linter.unusedVariables false
set_option linter.unusedSimpArgs false
def setB (o : Int) (x : Int) : Bool := within x 0 (2 ^ o.toNat - 1)
def askB (xs : List Int) (o m : Int) : Bool := decide (xs.length ≤ 12) && (within o 1 8 && (within m 0 12 && xs.all (setB o)))
def askQ (xs : List Int) (o m : Int) : Int := if askB xs o m = true then 0 else 7
theorem askQ_yes {xs : List Int} {o m : Int} (h : askB xs o m = true) : askQ xs o m = 0 := by unfold askQ; rw [if_pos h]
theorem askQ_no {xs : List Int} {o m : Int} (h : askB xs o m = false) : askQ xs o m = 7 := by unfold askQ; rw [if_neg (by rw [h]; simp)]
theorem pow_bd {o : Int} (ho : 1 ≤ o ∧ o ≤ 8) : ∃ p : Int, (2 : Int) ^ o.toNat = p ∧ 2 ≤ p ∧ p ≤ 256 := by
  have h : o = 1 ∨ o = 2 ∨ o = 3 ∨ o = 4 ∨ o = 5 ∨ o = 6 ∨ o = 7 ∨ o = 8 := by omega
  rcases h with rfl | rfl | rfl | rfl | rfl | rfl | rfl | rfl <;> exact ⟨_, rfl, by decide, by decide⟩
theorem call_cout (args : Array Value) (W : World) : (callFunc 108 args).run Try.prog W = .ok (.enter 108 args) W := by kernel_rfl
theorem cout_c (i o : Int) (ho : 1 ≤ o ∧ o ≤ 8) (P : Nat) (w : World) (c0 : w.cell? ⟨P, 1, none⟩ = some (.int .i64 o)) :
    Calls Try.prog 108 #[.int .i64 i, .pointer (some ⟨P, 0, none⟩)] w fun e w' => e = .returned (.bool (!setB o i)) ∧ Below w.heap.size w w' := by
  obtain ⟨p, hp, hp1, hp2⟩ := pow_bd ho
  have HW := Lib.hid (fun W => within_c i 0 (p - 1) W)
  have HS : Hid (setB o i = within i 0 (p - 1)) := Lib.hid (by unfold setB; rw [hp])
  rw [HS.out]
  clear HS
  have s0 : IntKind.i64.wrap (2 ^ o.toNat) = p := by rw [hp]; exact IntWalk.i64_in _ (by omega)
  have s1 : IntKind.i64.wrap (p - 1) = p - 1 := IntWalk.i64_in _ (by omega)
  have o1 : 0 ≤ o := by omega
  have o2 : o ≤ 64 := by omega
  generalize within i 0 (p - 1) = x at *
  have y1 : P < w.heap.size := cell?_lt c0
  clear hp
  go_enter Try.func108, Try.ntmps108
  go_wp2_with fail
  refine (HW.out _).mono ?_
  rintro e w' ⟨rfl, hw'⟩; replace hw' := hw'.symm; subst hw'
  go_wp2
  go_ret
  exact ⟨rfl, Below.refl _ _⟩
set_option maxHeartbeats 1000000 in
theorem casked_c (xs : List Int) (n : Nat) (hn : xs.length = n) (hl : n ≤ 1000000) (A : Option Addr) (cap : Nat) (o m : Int) (w : World) (hr : RdL w w.heap.size inE 1 A xs) :
    Calls Try.prog 72 #[.agg #[.slice A n cap, .int .i64 o, .int .i64 m]] w fun e w' => e = .returned (.int .i64 (askQ xs o m)) ∧ Below w.heap.size w w' := by
  have HO := Lib.hid (fun W => within_c o 1 8 W)
  have HM := Lib.hid (fun W => within_c m 0 12 W)
  have HB : Hid (askB xs o m = (decide (n ≤ 12) && (within o 1 8 && (within m 0 12 && xs.all (setB o))))) := Lib.hid (by unfold askB; rw [hn])
  have H1 : Hid (1 ≤ o ∧ o ≤ 8 → ∀ W, Below w.heap.size w W → W.cell? ⟨w.heap.size, 1, none⟩ = some (.int .i64 o) → Calls Try.prog 98 #[.slice A n cap, .func (.func 108) #[] #[.pointer (some ⟨w.heap.size, 0, none⟩)]] W fun e w' => e = .returned (.bool (xs.any (fun i => !setB o i))) ∧ Below W.heap.size W w') :=
    Lib.hid (fun ho W hb h1 => ContainsFuncI xs n hn A cap (by omega) 108 _ (fun i => !setB o i) W (hr.step hb) call_cout (fun x _ V hv => cout_c x o ho w.heap.size V (keep_cell hv h1)))
  have HA : Hid (xs.all (setB o) = !xs.any (fun i => !setB o i)) := Lib.hid (by
    clear HB H1 hr hn
    induction xs with
    | nil => rfl
    | cons a t ih => rw [List.any_cons, List.all_cons, ih]; cases setB o a <;> simp)
  have HY := Lib.hid (@askQ_yes xs o m)
  have HN := Lib.hid (@askQ_no xs o m)
  have HT := Lib.hid (@within_true o 1 8)
  clear hr hn
  rw [HA.out] at HB
  generalize askQ xs o m = E at *
  generalize askB xs o m = B at *
  generalize xs.any (fun i => !setB o i) = Z at *
  generalize within o 1 8 = X1 at *
  generalize within m 0 12 = X2 at *
  clear HA
  by_cases h12 : n ≤ 12
  case neg =>
    have d1 : decide ((n : Int) > 12) = true := decide_eq_true (by omega)
    have d2 : decide (12 < (n : Int)) = true := decide_eq_true (by omega)
    obtain rfl : E = 7 := HN.out (by rw [HB.out, decide_eq_false h12]; rfl)
    clear HB HY HN H1 h12
    go_enter Try.func72, Try.ntmps72
    go_wp2
    go_ret
    exact ⟨rfl, by (repeat (first | (with_reducible exact Below.refl _ _) | (with_reducible assumption) | (with_reducible refine Below.drew ?_) | (with_reducible refine Below.allocS ?_ _) | (with_reducible refine Below.setCell ?_ ?_ _) | (with_reducible refine Below.step ?_ (by assumption)) | (with_reducible refine Below.drewN' ?_ _))); (try any_goals (first | (with_reducible assumption) | (simp; done) | (simp; omega) | omega))⟩
  have d1 : decide ((n : Int) > 12) = false := decide_eq_false (by omega)
  have d2 : decide (12 < (n : Int)) = false := decide_eq_false (by omega)
  rw [decide_eq_true h12] at HB
  clear h12
  cases X1
  case false =>
    obtain rfl : E = 7 := HN.out (by rw [HB.out]; rfl)
    clear HB HY HN H1
    go_enter Try.func72, Try.ntmps72
    go_wp2_with fail
    refine (HO.out _).mono ?_
    rintro e w' ⟨rfl, hw'⟩; replace hw' := hw'.symm; subst hw'
    go_wp2
    go_ret
    exact ⟨rfl, by (repeat (first | (with_reducible exact Below.refl _ _) | (with_reducible assumption) | (with_reducible refine Below.drew ?_) | (with_reducible refine Below.allocS ?_ _) | (with_reducible refine Below.setCell ?_ ?_ _) | (with_reducible refine Below.step ?_ (by assumption)) | (with_reducible refine Below.drewN' ?_ _))); (try any_goals (first | (with_reducible assumption) | (simp; done) | (simp; omega) | omega))⟩
  cases X2
  case false =>
    obtain rfl : E = 7 := HN.out (by rw [HB.out]; rfl)
    clear HB HY HN H1
    go_enter Try.func72, Try.ntmps72
    go_wp2_with fail
    refine (HO.out _).mono ?_
    rintro e w' ⟨rfl, hw'⟩; replace hw' := hw'.symm; subst hw'
    go_wp2_with fail
    refine (HM.out _).mono ?_
    rintro e w' ⟨rfl, hw'⟩; replace hw' := hw'.symm; subst hw'
    go_wp2
    go_ret
    exact ⟨rfl, by (repeat (first | (with_reducible exact Below.refl _ _) | (with_reducible assumption) | (with_reducible refine Below.drew ?_) | (with_reducible refine Below.allocS ?_ _) | (with_reducible refine Below.setCell ?_ ?_ _) | (with_reducible refine Below.step ?_ (by assumption)) | (with_reducible refine Below.drewN' ?_ _))); (try any_goals (first | (with_reducible assumption) | (simp; done) | (simp; omega) | omega))⟩
  have H2 := Lib.hid (H1.out (HT.out rfl))
  clear H1 HT
  cases Z
  case true =>
    obtain rfl : E = 7 := HN.out (by rw [HB.out]; rfl)
    clear HB HY HN
    go_enter Try.func72, Try.ntmps72
    go_wp2_with fail
    refine (HO.out _).mono ?_
    rintro e w' ⟨rfl, hw'⟩; replace hw' := hw'.symm; subst hw'
    go_wp2_with fail
    refine (HM.out _).mono ?_
    rintro e w' ⟨rfl, hw'⟩; replace hw' := hw'.symm; subst hw'
    go_wp2_with (go_at_call 98; refine (H2.out _ (by (repeat (first | (with_reducible exact Below.refl _ _) | (with_reducible assumption) | (with_reducible refine Below.drew ?_) | (with_reducible refine Below.allocS ?_ _) | (with_reducible refine Below.setCell ?_ ?_ _) | (with_reducible refine Below.step ?_ (by assumption)) | (with_reducible refine Below.drewN' ?_ _))); (try any_goals (first | (with_reducible assumption) | (simp; done) | (simp; omega) | omega))) (by simp [go_sem])).mono ?_; rintro e w1 ⟨rfl, hb⟩)
    go_ret
    exact ⟨rfl, Below.low (by (repeat (first | (with_reducible exact Below.refl _ _) | (with_reducible assumption) | (with_reducible refine Below.drew ?_) | (with_reducible refine Below.allocS ?_ _) | (with_reducible refine Below.setCell ?_ ?_ _) | (with_reducible refine Below.step ?_ (by assumption)) | (with_reducible refine Below.drewN' ?_ _))); (try any_goals (first | (with_reducible assumption) | (simp; done) | (simp; omega) | omega))) hb (by simp)⟩
  case false =>
    obtain rfl : E = 0 := HY.out (by rw [HB.out]; rfl)
    clear HB HY HN
    go_enter Try.func72, Try.ntmps72
    go_wp2_with fail
    refine (HO.out _).mono ?_
    rintro e w' ⟨rfl, hw'⟩; replace hw' := hw'.symm; subst hw'
    go_wp2_with fail
    refine (HM.out _).mono ?_
    rintro e w' ⟨rfl, hw'⟩; replace hw' := hw'.symm; subst hw'
    go_wp2_with (go_at_call 98; refine (H2.out _ (by (repeat (first | (with_reducible exact Below.refl _ _) | (with_reducible assumption) | (with_reducible refine Below.drew ?_) | (with_reducible refine Below.allocS ?_ _) | (with_reducible refine Below.setCell ?_ ?_ _) | (with_reducible refine Below.step ?_ (by assumption)) | (with_reducible refine Below.drewN' ?_ _))); (try any_goals (first | (with_reducible assumption) | (simp; done) | (simp; omega) | omega))) (by simp [go_sem])).mono ?_; rintro e w1 ⟨rfl, hb⟩)
    go_ret
    exact ⟨rfl, Below.low (by (repeat (first | (with_reducible exact Below.refl _ _) | (with_reducible assumption) | (with_reducible refine Below.drew ?_) | (with_reducible refine Below.allocS ?_ _) | (with_reducible refine Below.setCell ?_ ?_ _) | (with_reducible refine Below.step ?_ (by assumption)) | (with_reducible refine Below.drewN' ?_ _))); (try any_goals (first | (with_reducible assumption) | (simp; done) | (simp; omega) | omega))) hb (by simp)⟩
theorem all_range {xs : List Int} {p : Int → Bool} : xs.all p = (List.range xs.length).all (fun k => p (atI xs k)) := by
  unfold atI
  rw [Bool.eq_iff_iff, List.all_eq_true, List.all_eq_true]
  constructor
  · intro h k hk
    have hk := List.mem_range.1 hk
    rw [List.getD_eq_getElem?_getD, List.getElem?_eq_getElem hk]
    exact h _ (List.getElem_mem hk)
  · intro h x hx
    obtain ⟨k, hk, rfl⟩ := List.mem_iff_getElem.1 hx
    have := h k (List.mem_range.2 hk)
    rw [List.getD_eq_getElem?_getD, List.getElem?_eq_getElem hk] at this
    exact this
set_option maxHeartbeats 2000000 in
theorem rotaError_c (xs : List Int) (n : Nat) (hn : xs.length = n) (hl : n ≤ 1000000) (A : Option Addr) (cap : Nat) (o m : Int) (w : World) (hr : RdL w w.heap.size inE 1 A xs) :
    Calls Try.prog 91 #[.slice A n cap, .int .i64 o, .int .i64 m] w fun e w' => e = .returned (.int .i64 (askQ xs o m)) ∧ Below w.heap.size w w' := by
  have HB : Hid (askB xs o m = (decide (n ≤ 12) && (within o 1 8 && (within m 0 12 && (List.range n).all (fun k => setB o (atI xs k)))))) := Lib.hid (by unfold askB; rw [all_range, hn])
  have HC : Hid (∀ W, Below w.heap.size w W → 0 < n → ∃ b off, A = some ⟨b, off, none⟩ ∧ b < w.heap.size ∧ ∀ j, j < n → W.cell? ⟨b, off + j, none⟩ = some (.int .i64 (atI xs j))) := Lib.hid (fun W hb h0 => by
    rw [← hn]; exact int_cell hr hb (k := 0) (by omega))
  have HY := Lib.hid (@askQ_yes xs o m)
  have HN := Lib.hid (@askQ_no xs o m)
  clear hr hn
  generalize askQ xs o m = E at *
  generalize askB xs o m = B at *
  by_cases h12 : n ≤ 12
  case neg =>
    have d1 : decide ((n : Int) > 12) = true := decide_eq_true (by omega)
    have d2 : decide (12 < (n : Int)) = true := decide_eq_true (by omega)
    obtain rfl : E = 7 := HN.out (by rw [HB.out, decide_eq_false h12]; rfl)
    clear HB HY HN HC h12
    go_enter Try.func91, Try.ntmps91
    go_wp2
    go_ret
    exact ⟨rfl, by (repeat (first | (with_reducible exact Below.refl _ _) | (with_reducible assumption) | (with_reducible refine Below.drew ?_) | (with_reducible refine Below.allocS ?_ _) | (with_reducible refine Below.setCell ?_ ?_ _) | (with_reducible refine Below.step ?_ (by assumption)) | (with_reducible refine Below.drewN' ?_ _))); (try any_goals (first | (with_reducible assumption) | (simp; done) | (simp; omega) | omega))⟩
  have d1 : decide ((n : Int) > 12) = false := decide_eq_false (by omega)
  have d2 : decide (12 < (n : Int)) = false := decide_eq_false (by omega)
  by_cases ho1 : o < 1
  case pos =>
    have d3 : decide (o < 1) = true := decide_eq_true ho1
    obtain rfl : E = 7 := HN.out (by rw [HB.out]; have : within o 1 8 = false := by unfold within; rw [decide_eq_false (by omega)]; rfl
                                     rw [this]; simp)
    clear HB HY HN HC h12 ho1
    go_enter Try.func91, Try.ntmps91
    go_wp2
    go_ret
    exact ⟨rfl, by (repeat (first | (with_reducible exact Below.refl _ _) | (with_reducible assumption) | (with_reducible refine Below.drew ?_) | (with_reducible refine Below.allocS ?_ _) | (with_reducible refine Below.setCell ?_ ?_ _) | (with_reducible refine Below.step ?_ (by assumption)) | (with_reducible refine Below.drewN' ?_ _))); (try any_goals (first | (with_reducible assumption) | (simp; done) | (simp; omega) | omega))⟩
  have d3 : decide (o < 1) = false := decide_eq_false ho1
  by_cases ho8 : o > 8
  case pos =>
    have d4 : decide (o > 8) = true := decide_eq_true ho8
    have d5 : decide (8 < o) = true := decide_eq_true ho8
    obtain rfl : E = 7 := HN.out (by rw [HB.out]; have : within o 1 8 = false := by unfold within; rw [decide_eq_false (show ¬ o ≤ 8 by omega)]; simp
                                     rw [this]; simp)
    clear HB HY HN HC h12 ho1 ho8
    go_enter Try.func91, Try.ntmps91
    go_wp2
    go_ret
    exact ⟨rfl, by (repeat (first | (with_reducible exact Below.refl _ _) | (with_reducible assumption) | (with_reducible refine Below.drew ?_) | (with_reducible refine Below.allocS ?_ _) | (with_reducible refine Below.setCell ?_ ?_ _) | (with_reducible refine Below.step ?_ (by assumption)) | (with_reducible refine Below.drewN' ?_ _))); (try any_goals (first | (with_reducible assumption) | (simp; done) | (simp; omega) | omega))⟩
  have d4 : decide (o > 8) = false := decide_eq_false ho8
  have d5 : decide (8 < o) = false := decide_eq_false ho8
  by_cases hm1 : m < 0
  case pos =>
    have d6 : decide (m < 0) = true := decide_eq_true hm1
    obtain rfl : E = 7 := HN.out (by rw [HB.out]; have : within m 0 12 = false := by unfold within; rw [decide_eq_false (by omega)]; rfl
                                     rw [this]; simp)
    clear HB HY HN HC h12 ho1 ho8 hm1
    go_enter Try.func91, Try.ntmps91
    go_wp2
    go_ret
    exact ⟨rfl, by (repeat (first | (with_reducible exact Below.refl _ _) | (with_reducible assumption) | (with_reducible refine Below.drew ?_) | (with_reducible refine Below.allocS ?_ _) | (with_reducible refine Below.setCell ?_ ?_ _) | (with_reducible refine Below.step ?_ (by assumption)) | (with_reducible refine Below.drewN' ?_ _))); (try any_goals (first | (with_reducible assumption) | (simp; done) | (simp; omega) | omega))⟩
  have d6 : decide (m < 0) = false := decide_eq_false hm1
  by_cases hm2 : m > 12
  case pos =>
    have d7 : decide (m > 12) = true := decide_eq_true hm2
    have d8 : decide (12 < m) = true := decide_eq_true hm2
    obtain rfl : E = 7 := HN.out (by rw [HB.out]; have : within m 0 12 = false := by unfold within; rw [decide_eq_false (show ¬ m ≤ 12 by omega)]; simp
                                     rw [this]; simp)
    clear HB HY HN HC h12 ho1 ho8 hm1 hm2
    go_enter Try.func91, Try.ntmps91
    go_wp2
    go_ret
    exact ⟨rfl, by (repeat (first | (with_reducible exact Below.refl _ _) | (with_reducible assumption) | (with_reducible refine Below.drew ?_) | (with_reducible refine Below.allocS ?_ _) | (with_reducible refine Below.setCell ?_ ?_ _) | (with_reducible refine Below.step ?_ (by assumption)) | (with_reducible refine Below.drewN' ?_ _))); (try any_goals (first | (with_reducible assumption) | (simp; done) | (simp; omega) | omega))⟩
  have d7 : decide (m > 12) = false := decide_eq_false hm2
  have d8 : decide (12 < m) = false := decide_eq_false hm2
  obtain ⟨p, hp, hp1, hp2⟩ := pow_bd (o := o) (by omega)
  have s0 : IntKind.i64.wrap (2 ^ o.toNat) = p := by rw [hp]; exact IntWalk.i64_in _ (by omega)
  have HS : Hid (∀ x, setB o x = within x 0 (p - 1)) := Lib.hid (fun x => by unfold setB; rw [hp])
  have HB2 : Hid (B = (List.range n).all (fun k => setB o (atI xs k))) := Lib.hid (by
    rw [HB.out, decide_eq_true h12]
    have e1 : within o 1 8 = true := by unfold within; rw [decide_eq_true (show 1 ≤ o by omega), decide_eq_true (show o ≤ 8 by omega)]; rfl
    have e2 : within m 0 12 = true := by unfold within; rw [decide_eq_true (show 0 ≤ m by omega), decide_eq_true (show m ≤ 12 by omega)]; rfl
    rw [e1, e2]; rfl)
  have o1 : 0 ≤ o := by omega
  have o2 : o ≤ 64 := by omega
  clear HB hp ho1 ho8 hm1 hm2
  go_enter Try.func91, Try.ntmps91
  go_wp2
  go_loopw [30] (fun i wr => ∃ k : Nat, k ≤ n ∧ i = .int .i64 k ∧ (∀ j, j < k → setB o (atI xs j) = true) ∧ Below w.heap.size w wr) (fun i _ => n - (intOf i).toNat)
  case atStart => exact ⟨0, Nat.zero_le _, rfl, fun j hj => absurd hj (Nat.not_lt_zero _), Below.refl _ _⟩
  case round =>
    rename World => U
    obtain ⟨k, hk, rfl, hall, hbu⟩ := hrel
    have HAL := Lib.hid hall
    clear hall
    by_cases hlt : k < n
    case neg =>
      obtain rfl : n = k := by omega
      have v1 : decide ((n : Int) < (n : Int)) = false := decide_eq_false (by omega)
      obtain rfl : E = 0 := HY.out (by rw [HB2.out]; exact all_end HAL.out)
      go_wp2
      go_ret
      exact ⟨rfl, hbu⟩
    have v1 : decide ((k : Int) < (n : Int)) = true := decide_eq_true (by omega)
    have v3 : IntKind.i64.wrap ((k : Int) + 1) = (k : Int) + 1 := IntWalk.i64_in _ (by omega)
    obtain ⟨b, off, rfl, hb0, hc⟩ := HC.out U hbu (by omega)
    have c0 := hc k hlt
    have yb : b < U.heap.size := cell?_lt c0
    have z4 : (k : Int) < (n : Int) := by omega
    have HSX := Lib.hid (HS.out (atI xs k))
    have HFA : Hid (setB o (atI xs k) = false → E = 7) := Lib.hid (fun h => HN.out (by rw [HB2.out]; exact all_false hlt h))
    have HAN : Hid (setB o (atI xs k) = true → ∀ j, j < k + 1 → setB o (atI xs j) = true) := Lib.hid (fun h j hj => by
      by_cases hjk : j = k
      · rw [hjk]; exact h
      · exact HAL.out j (by omega))
    clear hc HAL
    generalize hxx : atI xs k = x at *
    clear hxx
    by_cases hx0 : x < 0
    case pos =>
      have v4 : decide (x < 0) = true := decide_eq_true hx0
      obtain rfl : E = 7 := HFA.out (by rw [HSX.out]; unfold within; rw [decide_eq_false (by omega)]; rfl)
      clear HFA HAN HSX hx0
      go_wp2
      go_ret
      exact ⟨rfl, hbu⟩
    have v4 : decide (x < 0) = false := decide_eq_false hx0
    by_cases hxp : p ≤ x
    case pos =>
      have v5 : decide (x ≥ p) = true := decide_eq_true hxp
      have v6 : decide (p ≤ x) = true := decide_eq_true hxp
      obtain rfl : E = 7 := HFA.out (by rw [HSX.out]; unfold within; rw [decide_eq_false (show ¬ x ≤ p - 1 by omega)]; simp)
      clear HFA HAN HSX hx0 hxp
      go_wp2
      go_ret
      exact ⟨rfl, hbu⟩
    have v5 : decide (x ≥ p) = false := decide_eq_false hxp
    have v6 : decide (p ≤ x) = false := decide_eq_false hxp
    have HAN2 := Lib.hid (HAN.out (by rw [HSX.out]; unfold within; rw [decide_eq_true (show 0 ≤ x by omega), decide_eq_true (show x ≤ p - 1 by omega)]; rfl))
    clear HFA HAN HSX hx0 hxp
    go_wp2
    go_roundw
    case rel => exact ⟨k + 1, by omega, by go_num, HAN2.out, hbu⟩
    case measure => simp [intOf]; omega
end Go.Proofs.Ytomgaiokmdcjmaa
