/-
  Hoists, words, lists of numbers that are the same.
-/
import Derived.Test.YtagbokhmcidokaaRa8
import Derived.Test.YtagbokhmcidokaaAp0
import Derived.BigQuiet
namespace Go.Proofs.Ytagbokhmcidokaa
open Go.RowKit Go.Deep
set_option linter.unusedVariables false
set_option linter.unusedSimpArgs false
theorem fwithin_c (n lo hi : Int) (w : World) :
    Calls Try.prog 148 #[.int .i64 n, .int .i64 lo, .int .i64 hi] w fun e w' => e = .returned (.bool (wiB n lo hi)) ∧ w' = w := by
  by_cases h : lo ≤ n
  all_goals
    go_enter Try.func148, Try.ntmps148
    go_wp2
    go_ret
    exact ⟨by simp [wiB] <;> omega, rfl⟩
theorem bwithin_c (n lo hi : Int) (w : World) :
    Calls Try.prog 89 #[.int .i64 n, .int .i64 lo, .int .i64 hi] w fun e w' => e = .returned (.bool (wiB n lo hi)) ∧ w' = w := by
  by_cases h : lo ≤ n
  all_goals
    go_enter Try.func89, Try.ntmps89
    go_wp2
    go_ret
    exact ⟨by simp [wiB] <;> omega, rfl⟩
theorem Word3_c (w : World) : Calls Try.prog 39 #[.int .i64 3] w fun e w' => e = .returned (.string ⟨#[97, 103, 97, 105, 110]⟩) ∧ w' = w := by
  have hix : ∀ W : World, (Instr.index 144 (.agg #[.string ⟨#[103, 111, 111, 100]⟩, .string ⟨#[119, 114, 111, 110, 103]⟩, .string ⟨#[102, 97, 108, 115, 101]⟩, .string ⟨#[97, 103, 97, 105, 110]⟩, .string ⟨#[116, 111, 108, 100]⟩, .string ⟨#[115, 105, 108, 101, 110, 116]⟩]) (.int .i64 3)).run Try.prog W = .ok (.string ⟨#[97, 103, 97, 105, 110]⟩) W := fun _ => by kernel_rfl
  have H := Lib.hid (fun W => bwithin_c 3 0 5 W)
  rw [show wiB 3 0 5 = true by decide] at H
  go_enter Try.func39, Try.ntmps39
  go_wp2_with fail
  refine (H.out _).mono ?_
  rintro e w' ⟨rfl, rfl⟩
  go_wp2
  go_ret
  exact ⟨rfl, rfl⟩
theorem place_c (f : Int) (w : World) (h : 0 ≤ f ∧ f ≤ 100) : Calls Try.prog 88 #[.int .i64 f] w fun e w' => e = .returned (.int .i64 (f - 10)) ∧ w' = w := by
  obtain ⟨h1, h2⟩ := h
  go_enter Try.func88, Try.ntmps88
  go_wp2
  go_ret
  exact ⟨rfl, rfl⟩
/-- Where a number stands in a list. -/
def posI (x : Int) (l : List Int) : Int := idxOf (fun y => x == y) l 0
set_option maxHeartbeats 1000000 in
theorem IndexI_c (l : List Int) (A : Option Addr) (cap : Nat) (hl : l.length ≤ 9223372036854775807) (x : Int) (w : World) (hr : RdL w w.heap.size inE 1 A l) :
    Calls Try.prog 127 #[.slice A l.length cap, .int .i64 x] w fun e w' => e = .returned (.int .i64 (idxOf (fun y => x == y) l 0)) ∧ w' = w := by
  have HR := Lib.hid hr
  clear hr
  go_enter Try.func127, Try.ntmps127
  go_wp2
  go_loop [8] (fun i => ∃ k : Nat, k ≤ l.length ∧ i = .int .i64 k ∧ idxOf (fun y => x == y) l 0 = idxOf (fun y => x == y) (l.drop k) k) (fun i => l.length - (intOf i).toNat)
  case atStart => exact ⟨0, Nat.zero_le _, rfl, rfl⟩
  case round =>
    obtain ⟨k, hk, rfl, hx⟩ := hrel
    have HX := Lib.hid hx
    clear hx
    by_cases hlt : k < l.length
    · obtain ⟨b, off, rfl, hb0, hc⟩ := HR.out (by omega)
      have c0 := hc k hlt 0 _ rfl
      clear hc
      simp at c0
      have hd : l.drop k = l[k] :: l.drop (k + 1) := List.drop_eq_getElem_cons hlt
      have HD := Lib.hid hd
      clear hd
      have u1 : (0 : Int) ≤ (k : Int) := by omega
      have u2 : (k : Int) < (l.length : Int) := by omega
      obtain ⟨y, hy⟩ : ∃ y, l[k] = y := ⟨_, rfl⟩
      rw [hy] at c0 HD
      clear hy
      cases hp : (x == y)
      · go_wp2
        go_round
        case rel => exact ⟨k + 1, by omega, by go_num, by rw [HX.out, HD.out, idxOf_false _ _ _ _ hp]⟩
        case measure => simp [intOf]; omega
      · go_wp2
        go_ret
        exact ⟨by rw [HX.out, HD.out, idxOf_true _ _ _ _ hp]; rfl, rfl⟩
    · obtain rfl : k = l.length := by omega
      go_wp2
      go_ret
      exact ⟨by rw [HX.out]; simp [idxOf], rfl⟩
theorem ContainsI_c (l : List Int) (A : Option Addr) (cap : Nat) (hl : l.length ≤ 9223372036854775807) (x : Int) (w : World) (hr : RdL w w.heap.size inE 1 A l) :
    Calls Try.prog 87 #[.slice A l.length cap, .int .i64 x] w fun e w' => e = .returned (.bool (l.any fun y => x == y)) ∧ w' = w := by
  have HI := Lib.hid (IndexI_c l A cap hl x w hr)
  have HE := Lib.hid (idxOf_any (fun y => x == y) l 0)
  clear hr
  go_enter Try.func87, Try.ntmps87
  go_wp2_with fail
  refine HI.out.mono ?_
  rintro e w' ⟨rfl, rfl⟩
  go_wp2
  go_ret
  exact ⟨by rw [← HE.out]; rfl, rfl⟩
set_option maxHeartbeats 1000000 in
theorem SameInts_c (l r : List Int) (n m : Nat) (hn : l.length = n) (hm : r.length = m) (A B : Option Addr) (cap cap' : Nat) (hl : n ≤ 9223372036854775807) (w : World) (hr : RdL w w.heap.size inE 1 A l) (hs : RdL w w.heap.size inE 1 B r) :
    Calls Try.prog 38 #[.slice A n cap, .slice B m cap'] w fun e w' => e = .returned (.bool (decide (l = r))) ∧ Below w.heap.size w w' := by
  have HR := Lib.hid hr
  have HS := Lib.hid hs
  have HN := Lib.hid hn
  have HM := Lib.hid hm
  clear hr hs hn hm
  by_cases hnm : n = m
  · subst hnm
    go_enter Try.func38, Try.ntmps38
    go_wp2
    go_loopw [13] (fun i wr => ∃ k : Nat, k ≤ n ∧ i = .int .i64 k ∧ l.take k = r.take k ∧ Below w.heap.size w wr) (fun i _ => n - (intOf i).toNat)
    case atStart => exact ⟨0, Nat.zero_le _, rfl, rfl, Below.refl _ _⟩
    case round =>
      obtain ⟨k, hk, rfl, ht, hbw⟩ := hrel
      have HT := Lib.hid ht
      clear ht
      by_cases hlt : k < n
      · have hl1 : k < l.length := by rw [HN.out]; exact hlt
        have hl2 : k < r.length := by rw [HM.out]; exact hlt
        obtain ⟨p, hp⟩ : ∃ p, p = l[k] := ⟨_, rfl⟩
        obtain ⟨q, hq⟩ : ∃ q, q = r[k] := ⟨_, rfl⟩
        obtain ⟨b, off, rfl, hb0, hc⟩ := HR.out (by omega)
        obtain ⟨b', off', rfl, hb0', hc'⟩ := HS.out (by omega)
        have c0 := (hbw.cell (p := ⟨b, _, none⟩) hb0).trans (hc k hl1 0 _ rfl)
        have d0 := (hbw.cell (p := ⟨b', _, none⟩) hb0').trans (hc' k hl2 0 _ rfl)
        rw [← hp] at c0
        rw [← hq] at d0
        clear hc hc'
        simp at c0 d0
        have HP := Lib.hid hp
        have HQ := Lib.hid hq
        have u1 : (0 : Int) ≤ (k : Int) := by omega
        have u2 : (k : Int) < (n : Int) := by omega
        clear hp hq
        by_cases hpq : p = q
        · subst hpq
          have HT2 := Lib.hid (show l.take (k + 1) = r.take (k + 1) by
            rw [List.take_succ_eq_append_getElem hl1, List.take_succ_eq_append_getElem hl2, HT.out, ← HP.out, ← HQ.out])
          go_wp2_with fail
          go_quiet (fail)
          go_wp2
          go_roundw
          case rel => exact ⟨k + 1, by omega, by go_num, HT2.out, by (repeat (first | (with_reducible exact Below.refl _ _) | (with_reducible assumption) | (with_reducible refine Below.drew ?_) | (with_reducible refine Below.allocS ?_ _) | (with_reducible refine Below.setCell ?_ ?_ _) | (with_reducible refine Below.step ?_ (by assumption)) | (with_reducible refine Below.drewN' ?_ _))); (try any_goals (first | (with_reducible assumption) | (simp; done) | (simp; omega) | omega))⟩
          case measure => simp [intOf]; omega
        · have q1 : (p != q) = true := by simp [hpq]
          have HF := Lib.hid (show decide (l = r) = false from decide_eq_false (fun e => by subst e; exact hpq (HP.out.trans HQ.out.symm)))
          clear hpq
          go_wp2_with fail
          go_quiet (fail)
          go_wp2
          go_ret
          exact ⟨by rw [HF.out]; rfl, by (repeat (first | (with_reducible exact Below.refl _ _) | (with_reducible assumption) | (with_reducible refine Below.drew ?_) | (with_reducible refine Below.allocS ?_ _) | (with_reducible refine Below.setCell ?_ ?_ _) | (with_reducible refine Below.step ?_ (by assumption)) | (with_reducible refine Below.drewN' ?_ _))); (try any_goals (first | (with_reducible assumption) | (simp; done) | (simp; omega) | omega))⟩
      · obtain rfl : k = n := by omega
        have HF := Lib.hid (show decide (l = r) = true from decide_eq_true (by
          have h := HT.out
          rwa [List.take_of_length_le (by rw [HN.out]; exact Nat.le_refl _), List.take_of_length_le (by rw [HM.out]; exact Nat.le_refl _)] at h))
        go_wp2
        go_ret
        exact ⟨by rw [HF.out]; rfl, hbw⟩
  · have q1 : ((n : Int) != (m : Int)) = true := by simp; omega
    have HF := Lib.hid (show decide (l = r) = false from decide_eq_false (fun e => by subst e; exact hnm (HN.out.symm.trans HM.out)))
    clear hnm
    go_enter Try.func38, Try.ntmps38
    go_wp2
    go_ret
    exact ⟨by rw [HF.out]; rfl, Below.refl _ _⟩
end Go.Proofs.Ytagbokhmcidokaa
