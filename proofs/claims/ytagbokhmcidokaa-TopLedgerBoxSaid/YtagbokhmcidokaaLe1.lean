/-
  Entries of a ledger: which are valid.
-/
import Derived.Test.YtagbokhmcidokaaPre2
import Derived.Test.YtagbokhmcidokaaTypes
import Derived.BigQuiet
import Derived.Deep.QuietTactic
namespace Go.Proofs.Ytagbokhmcidokaa
open Go.RowKit
set_option linter.unusedVariables false
set_option linter.unusedSimpArgs false
structure Ent where
  d : Int
  f : Bool
  e : Int
def enE (x : Ent) : List Value := [.int .i64 x.d, .bool (x.f), .int .i64 x.e]
def wiB (n lo hi : Int) : Bool := decide (lo ≤ n) && decide (n ≤ hi)
theorem wiB_true {n lo hi : Int} (h : wiB n lo hi = true) : lo ≤ n ∧ n ≤ hi := by simpa [wiB] using h
theorem lwithin_c (n lo hi : Int) (w : World) :
    Calls Try.prog 96 #[.int .i64 n, .int .i64 lo, .int .i64 hi] w fun e w' => e = .returned (.bool (wiB n lo hi)) ∧ w' = w := by
  by_cases h : lo ≤ n
  all_goals
    go_enter Try.func96, Try.ntmps96
    go_wp2
    go_ret
    exact ⟨by simp [wiB] <;> omega, rfl⟩
def isDayB (n : Int) : Bool := wiB n 0 182985
theorem isDay_c (n : Int) (w : World) : Calls Try.prog 50 #[.int .i64 n] w fun e w' => e = .returned (.bool (isDayB n)) ∧ w' = w := by
  have H := Lib.hid (fun W => lwithin_c n 0 182985 W)
  unfold isDayB
  generalize wiB n 0 182985 = B at *
  go_enter Try.func50, Try.ntmps50
  go_wp2_with fail
  refine (H.out _).mono ?_
  rintro e w1 ⟨rfl, rfl⟩
  go_wp2
  go_ret
  exact ⟨rfl, rfl⟩
def fineB (x : Ent) : Bool := wiB x.d 0 182985 && wiB x.e (-86400000) 86400000
theorem fine_c (x : Ent) (w : World) : Calls Try.prog 95 #[.agg #[.int .i64 x.d, .bool (x.f), .int .i64 x.e]] w fun e w' => e = .returned (.bool (fineB x)) ∧ Below w.heap.size w w' := by
  have H1 := Lib.hid (fun W => lwithin_c x.d 0 182985 W)
  have H2 := Lib.hid (fun W => lwithin_c x.e (-86400000) 86400000 W)
  unfold fineB
  cases h1 : wiB x.d 0 182985
  · rw [h1] at H1
    go_enter Try.func95, Try.ntmps95
    go_wp2_with fail
    refine (H1.out _).mono ?_
    rintro e w1 ⟨rfl, rfl⟩
    go_wp2
    go_ret
    exact ⟨rfl, by (repeat (first | (with_reducible exact Below.refl _ _) | (with_reducible assumption) | (with_reducible refine Below.drew ?_) | (with_reducible refine Below.allocS ?_ _) | (with_reducible refine Below.setCell ?_ ?_ _) | (with_reducible refine Below.step ?_ (by assumption)) | (with_reducible refine Below.drewN' ?_ _))); (try any_goals (first | (with_reducible assumption) | (simp; done) | (simp; omega) | omega))⟩
  · rw [h1] at H1
    generalize wiB x.e (-86400000) 86400000 = B at *
    go_enter Try.func95, Try.ntmps95
    go_wp2_with fail
    refine (H1.out _).mono ?_
    rintro e w1 ⟨rfl, rfl⟩
    go_wp2_with fail
    refine (H2.out _).mono ?_
    rintro e w1 ⟨rfl, rfl⟩
    go_wp2
    go_ret
    exact ⟨rfl, by (repeat (first | (with_reducible exact Below.refl _ _) | (with_reducible assumption) | (with_reducible refine Below.drew ?_) | (with_reducible refine Below.allocS ?_ _) | (with_reducible refine Below.setCell ?_ ?_ _) | (with_reducible refine Below.step ?_ (by assumption)) | (with_reducible refine Below.drewN' ?_ _))); (try any_goals (first | (with_reducible assumption) | (simp; done) | (simp; omega) | omega))⟩
theorem Valid1_c (x : Ent) (w : World) : Calls Try.prog 94 #[.agg #[.int .i64 x.d, .bool (x.f), .int .i64 x.e]] w fun e w' => e = .returned (.bool (!fineB x)) ∧ Below w.heap.size w w' := by
  have H := Lib.hid (fun W => fine_c x W)
  generalize fineB x = B at *
  go_enter Try.func94, Try.ntmps94
  go_wp2_with fail
  refine (H.out _).mono ?_
  rintro e w1 ⟨rfl, hb⟩
  go_wp2
  go_ret
  exact ⟨rfl, Below.step (by (repeat (first | (with_reducible exact Below.refl _ _) | (with_reducible assumption) | (with_reducible refine Below.drew ?_) | (with_reducible refine Below.allocS ?_ _) | (with_reducible refine Below.setCell ?_ ?_ _) | (with_reducible refine Below.step ?_ (by assumption)) | (with_reducible refine Below.drewN' ?_ _))); (try any_goals (first | (with_reducible assumption) | (simp; done) | (simp; omega) | omega))) hb⟩
theorem call_Valid1 (args : Array Value) (W : World) : (callFunc 94 args).run Try.prog W = .ok (.enter 94 args) W := by kernel_rfl
def idxOf {α : Type} (p : α → Bool) : List α → Nat → Int
  | [], _ => -1
  | x :: l, k => if p x then (k : Int) else idxOf p l (k + 1)
theorem idxOf_false {α : Type} (p : α → Bool) (x : α) (l : List α) (k : Nat) (h : p x = false) : idxOf p (x :: l) k = idxOf p l (k + 1) := by simp [idxOf, h]
theorem idxOf_true {α : Type} (p : α → Bool) (x : α) (l : List α) (k : Nat) (h : p x = true) : idxOf p (x :: l) k = k := by simp [idxOf, h]
theorem idxOf_any {α : Type} (p : α → Bool) (l : List α) : ∀ k, decide (0 ≤ idxOf p l k) = l.any p := by
  induction l with
  | nil => intro k; rfl
  | cons x l ih =>
    intro k
    unfold idxOf
    cases h : p x
    · simp [h, ih]
    · simp [h]

theorem any_not {α : Type} (p : α → Bool) (l : List α) : (!l.any fun x => !p x) = l.all p := by
  induction l with
  | nil => rfl
  | cons x l ih => simp only [List.any_cons, List.all_cons, Bool.not_or, Bool.not_not, ih]
set_option maxHeartbeats 1000000 in
theorem IndexFuncEn (l : List Ent) (A : Option Addr) (cap : Nat) (hl : l.length ≤ 9223372036854775807) (fv : Nat) (caps : Array Value) (p : Ent → Bool) (w : World) (hr : RdL w w.heap.size enE 3 A l)
    (hcall : ∀ (args : Array Value) (W : World), (callFunc fv args).run Try.prog W = .ok (.enter fv args) W)
    (hf : ∀ x ∈ l, ∀ W, Below w.heap.size w W → Calls Try.prog fv (#[.agg #[.int .i64 x.d, .bool (x.f), .int .i64 x.e]] ++ caps) W fun e W' => e = .returned (.bool (p x)) ∧ Below W.heap.size W W') :
    Calls Try.prog 128 #[.slice A l.length cap, .func (.func fv) #[] caps] w fun e w' => e = .returned (.int .i64 (idxOf p l 0)) ∧ Below w.heap.size w w' := by
  have HF := Lib.hid hf
  have HR := Lib.hid hr
  clear hf hr
  go_enter Try.func128, Try.ntmps128
  go_wp2
  go_loopw [5, 8] (fun u i wr => ∃ k : Nat, k ≤ l.length ∧ i = .int .i64 k ∧ Below w.heap.size w wr ∧ idxOf p l 0 = idxOf p (l.drop k) k) (fun u i _ => l.length - (intOf i).toNat)
  case atStart => exact ⟨0, Nat.zero_le _, rfl, Below.refl _ _, rfl⟩
  case round =>
    obtain ⟨k, hk, rfl, hbw, hx⟩ := hrel
    have HX := Lib.hid hx
    clear hx
    by_cases hlt : k < l.length
    · obtain ⟨b, off, rfl, hb0, hc⟩ := HR.out (by omega)
      have c0 := hc k hlt 0 _ rfl
      have c1 := hc k hlt 1 _ rfl
      have c2 := hc k hlt 2 _ rfl
      clear hc
      rw [← hbw.cell (p := ⟨b, _, none⟩) hb0] at c0 c1 c2
      simp at c0
      have hmem : l[k] ∈ l := List.getElem_mem hlt
      have hcc := Lib.hid (HF.out l[k] hmem wr hbw)
      have hd : l.drop k = l[k] :: l.drop (k + 1) := List.drop_eq_getElem_cons hlt
      have HD := Lib.hid hd
      clear hd
      cases hp : p l[k]
      · go_wp2_with fail
        refine hcc.out.mono ?_
        rintro e w1 ⟨rfl, hb⟩
        rw [hp]
        go_wp2
        go_roundw
        case rel => exact ⟨k + 1, by omega, by go_num, Below.step hbw hb, by rw [HX.out, HD.out, idxOf_false _ _ _ _ hp]⟩
        case measure => simp [intOf]; omega
      · go_wp2_with fail
        refine hcc.out.mono ?_
        rintro e w1 ⟨rfl, hb⟩
        rw [hp]
        go_wp2
        go_ret
        exact ⟨by rw [HX.out, HD.out, idxOf_true _ _ _ _ hp]; rfl, Below.step hbw hb⟩
    · obtain rfl : k = l.length := by omega
      go_wp2
      go_ret
      exact ⟨by rw [HX.out]; simp [idxOf], hbw⟩
theorem ContainsFuncEn (l : List Ent) (A : Option Addr) (cap : Nat) (hl : l.length ≤ 9223372036854775807) (fv : Nat) (caps : Array Value) (p : Ent → Bool) (w : World) (hr : RdL w w.heap.size enE 3 A l)
    (hcall : ∀ (args : Array Value) (W : World), (callFunc fv args).run Try.prog W = .ok (.enter fv args) W)
    (hf : ∀ x ∈ l, ∀ W, Below w.heap.size w W → Calls Try.prog fv (#[.agg #[.int .i64 x.d, .bool (x.f), .int .i64 x.e]] ++ caps) W fun e W' => e = .returned (.bool (p x)) ∧ Below W.heap.size W W') :
    Calls Try.prog 93 #[.slice A l.length cap, .func (.func fv) #[] caps] w fun e w' => e = .returned (.bool (l.any p)) ∧ Below w.heap.size w w' := by
  have HI := Lib.hid (IndexFuncEn l A cap hl fv caps p w hr hcall hf)
  have HE := Lib.hid (idxOf_any p l 0)
  clear hf hr hcall
  go_enter Try.func93, Try.ntmps93
  go_wp2_with (go_at_call 128; refine HI.out.mono ?_; rintro e w1 ⟨rfl, hb⟩)
  go_ret
  exact ⟨by rw [← HE.out]; rfl, hb⟩


def okEn (l : List Ent) : Bool := decide (l.length ≤ 1000) && l.all fineB
theorem okEn_parts {l : List Ent} (h : okEn l = true) : l.length ≤ 1000 ∧ ∀ x ∈ l, fineB x = true := by
  unfold okEn at h
  rw [Bool.and_eq_true, decide_eq_true_eq, List.all_eq_true] at h
  exact h
theorem lValid_c (l : List Ent) (A : Option Addr) (cap : Nat) (hl : l.length ≤ 9223372036854775807) (w : World) (hr : RdL w w.heap.size enE 3 A l) :
    Calls Try.prog 49 #[.slice A l.length cap] w fun e w' => e = .returned (.bool (okEn l)) ∧ Below w.heap.size w w' := by
  have HC := Lib.hid (ContainsFuncEn l A cap hl _ #[] (fun x => !fineB x) w hr call_Valid1 (fun x _ W _ => by simpa using Valid1_c x W))
  unfold okEn
  have he := any_not fineB l
  rw [← he]
  clear hr he
  generalize l.any (fun x => !fineB x) = X at *
  by_cases h : l.length ≤ 1000
  · have hd : decide ((l.length : Int) ≤ 1000) = true := decide_eq_true (by omega)
    rw [decide_eq_true h]
    generalize l.length = m at *
    go_enter Try.func49, Try.ntmps49
    go_wp2_with fail
    refine HC.out.mono ?_
    rintro e w1 ⟨rfl, hb⟩
    go_wp2
    go_ret
    exact ⟨by simp, hb⟩
  · have hd : decide ((l.length : Int) ≤ 1000) = false := decide_eq_false (by omega)
    rw [decide_eq_false h]
    generalize l.length = m at *
    go_enter Try.func49, Try.ntmps49
    go_wp2
    go_ret
    exact ⟨by simp, by (repeat (first | (with_reducible exact Below.refl _ _) | (with_reducible assumption) | (with_reducible refine Below.drew ?_) | (with_reducible refine Below.allocS ?_ _) | (with_reducible refine Below.setCell ?_ ?_ _) | (with_reducible refine Below.step ?_ (by assumption)) | (with_reducible refine Below.drewN' ?_ _))); (try any_goals (first | (with_reducible assumption) | (simp; done) | (simp; omega) | omega))⟩
end Go.Proofs.Ytagbokhmcidokaa
