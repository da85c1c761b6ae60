/-
  Bundle K11: Q45, Q46, Q47, Q48. Printed by bundle.py.
-/
import Derived.Test.YtbcabckokmjelaaK10
import Derived.Test.YtbcabckokmjelaaK9
namespace Go.Proofs.Ytbcabckokmjelaa
open Go.RowKit Go.Deep
set_option linter.unusedVariables false
set_option linter.unusedSimpArgs false
/-- The best set so far. -/
def bestL (better : List Nat → List Nat → Bool) (dis : Nat → Bool) (n : Nat) (init : List Nat) : Nat → List Nat
  | 0 => init
  | t + 1 => if (better (memL (t + 1) n) (bestL better dis n init t) && dis (t + 1)) = true then memL (t + 1) n else bestL better dis n init t
def betL (m b : List Nat) : Bool := decide (m.length < b.length) || (decide (m.length = b.length) && earl m b)
def betM (m b : List Nat) : Bool := decide (b.length < m.length) || (decide (m.length = b.length) && earl m b)
theorem best_len {bt : List Nat → List Nat → Bool} {dis : Nat → Bool} {n : Nat} {init : List Nat} (hi : init.length ≤ n) : ∀ t, (bestL bt dis n init t).length ≤ n
  | 0 => hi
  | t + 1 => by
    unfold bestL
    split
    · exact memL_len _ _
    · exact best_len hi t
def bLs (s : List Sp) (n : Nat) : List Nat := bestL betL (fun m => !agM s n m) n (memL (2 ^ n - 1) n) (2 ^ n - 1)
def bMs (s : List Sp) (n : Nat) : List Nat := bestL betM (fun m => agM s n m) n [] (2 ^ n - 1)
def RLeastR (x : Tb) (l : List Tr) (e : Ending) (w' : World) : Prop :=
  (stErr x l = 0 ∧ ((agB (azR (wdL x l)) = true ∧ e = .returned (.tuple #[.slice none 0 0, .int .i64 8])) ∨ (agB (azR (wdL x l)) = false ∧
    ∃ A c, e = .returned (.tuple #[.slice A (bLs (wdL x l) l.length).length c, .int .i64 0]) ∧ RdL w' w'.heap.size inE 1 A ((bLs (wdL x l) l.length).map Int.ofNat)))) ∨
  (stErr x l ≠ 0 ∧ e = .returned (.tuple #[.slice none 0 0, .int .i64 (stErr x l)]))
def RMostR (x : Tb) (l : List Tr) (e : Ending) (w' : World) : Prop :=
  (stErr x l = 0 ∧ ∃ A c, e = .returned (.tuple #[.slice A (bMs (wdL x l) l.length).length c, .int .i64 0]) ∧ RdL w' w'.heap.size inE 1 A ((bMs (wdL x l) l.length).map Int.ofNat)) ∨
  (stErr x l ≠ 0 ∧ e = .returned (.tuple #[.slice none 0 0, .int .i64 (stErr x l)]))
set_option maxRecDepth 100000 in
set_option maxHeartbeats 4000000 in
theorem rLeast_c (x : Tb) (l : List Tr) (A : Option Addr) (cap : Nat) (w : World) (hx : TbAt w x) (hl : l.length ≤ cap) (hm : cap ≤ maxLen) (hr : RdL w w.heap.size trE 5 A l) (ht : ∀ t ∈ l, TrAt w t) :
    Calls Try.prog 39 #[.agg #[.slice x.A x.xs.length x.ca, .int .i64 x.e], .slice A l.length cap] w fun e w' => RLeastR x l e w' ∧ Below w.heap.size w w' := by
  have H1 := Lib.hid (fun W (hb : Below w.heap.size w W) => differences_c x l A cap W (hx.step hb) hl hm (hr.step hb) (fun t h => (ht t h).step hb))
  clear hx hl hm hr ht
  by_cases h0 : stErr x l = 0
  · have H1' : Hid (∀ W, Below w.heap.size w W → Calls Try.prog 66 #[.agg #[.slice x.A x.xs.length x.ca, .int .i64 x.e], .slice A l.length cap] W fun e w' => ∃ A' c', e = .returned (.tuple #[.slice A' l.length c', .int .i64 0]) ∧ RdL w' w'.heap.size snE 2 A' (snL x l) ∧ Below W.heap.size W w') :=
      Lib.hid (fun W hb => (H1.out W hb).mono (by
        rintro e w' ⟨h | h, hb'⟩
        · obtain ⟨-, A', c', h1, h2⟩ := h; exact ⟨A', c', h1, h2, hb'⟩
        · exact absurd h0 h.1))
    have hok := (stErr_ok h0).1
    have hO := okAll_ok hok
    have hn12 : l.length ≤ 12 := by have := hO.n; omega
    have hn1 : 1 ≤ l.length := by have := hO.n; omega
    have hln : (snL x l).length = l.length := by unfold snL; rw [List.length_map]
    have he := hO.e
    have HA : Hid (∀ (A' : Option Addr) c' W, RdL W W.heap.size snE 2 A' (snL x l) → Calls Try.prog 67 #[.slice A' l.length c', .int .i64 x.e] W fun e w' => e = .returned (.bool (agB (azR (wdL x l)))) ∧ RdL w' w'.heap.size snE 2 A' (snL x l) ∧ Below W.heap.size W w') :=
      Lib.hid (fun A' c' W hr => by
        have := ragree_c (snL x l) l.length hln (by omega) (snL_ok hok) x.e ⟨he.1, by omega⟩ A' c' W hr
        rw [snL_wid] at this
        exact this.mono fun e w' h => ⟨h.1, hr.step h.2, h.2⟩)
    have HO : Hid (∀ (k : Nat) (A' : Option Addr) c' W, RdL W W.heap.size snE 2 A' (pickK (snL x l) sn0 k l.length) → Calls Try.prog 67 #[.slice A' (pickK (snL x l) sn0 k l.length).length c', .int .i64 x.e] W fun e w' => e = .returned (.bool (agM (wdL x l) l.length k)) ∧ Below W.heap.size W w') :=
      Lib.hid (fun k A' c' W hr => by
        have := ragree_c (pickK (snL x l) sn0 k l.length) _ rfl (by have := pickK_len (snL x l) sn0 k l.length; omega) (fun s hs => snL_ok hok s (pick_sn _ s hs)) x.e ⟨he.1, by omega⟩ A' c' W hr
        rw [pick_map] at this
        exact this)
    have HC : Hid (∀ (k : Nat), k < 2 ^ l.length → ∀ (A' : Option Addr) c' W, RdL W W.heap.size snE 2 A' (snL x l) → Calls Try.prog 76 #[.slice A' l.length c', .int .i64 k] W fun e w' => ∃ A2 c2, e = .returned (.slice A2 (pickK (snL x l) sn0 k l.length).length c2) ∧ RdL w' w'.heap.size snE 2 A2 (pickK (snL x l) sn0 k l.length) ∧ Below W.heap.size W w') :=
      Lib.hid (fun k hk A' c' W hr => chosen_c (snL x l) l.length hln (by omega) _ (Nat.lt_of_lt_of_le hk (Nat.le_trans (Nat.pow_le_pow_right (by omega) hn12) (by decide))) A' c' W hr)
    have HH := Lib.hid h0
    clear H1 h0 hok hO hln
    unfold RLeastR bLs
    generalize l.length = n at *
    generalize wdL x l = s at *
    generalize snL x l = sn at *
    have HAG := Lib.hid (show ∃ B, B = agB (azR s) from ⟨_, rfl⟩)
    obtain ⟨B, hB⟩ := HAG.out
    rw [← hB] at HA ⊢
    have HBB := Lib.hid hB
    clear hB HAG
    clear he
    have hp2 : 2 ^ n ≤ 2 ^ 12 := Nat.pow_le_pow_right (by omega) hn12
    have hp0 : 1 ≤ 2 ^ n := Nat.one_le_two_pow
    obtain ⟨P, hP⟩ : ∃ P : Nat, P = 2 ^ n := ⟨_, rfl⟩
    have i1 : ((2 : Int) ^ n) = (P : Int) := by rw [hP, Int.natCast_pow]; rfl
    rw [← hP] at hp2 hp0 HC
    have HPP := Lib.hid hP
    have HM : Hid (∀ m W, m < P → Calls Try.prog 74 #[.int .i64 m] W fun e w' => (∃ A c, e = .returned (.slice A (memL m n).length c) ∧ RdL w' w'.heap.size inE 1 A ((memL m n).map Int.ofNat)) ∧ Below W.heap.size W w') :=
      Lib.hid (fun m W h => members_c m n (by omega) (by rw [← hP]; exact h) W)
    have ww1 : IntKind.i64.wrap ((2 : Int) ^ n) = (P : Int) := by rw [i1]; exact IntWalk.i64_in _ (by omega)
    have ww2 : IntKind.i64.wrap ((P : Int) - 1) = ((P - 1 : Nat) : Int) := (IntWalk.i64_in _ (by omega)).trans (by omega)
    have kn : 0 ≤ (n : Int) := by omega
    clear hP i1
    go_enter Try.func39, Try.ntmps39
    go_wp2_with fail
    refine (H1'.out _ (by (repeat (first | exact Below.refl _ _ | refine Below.drew ?_ | refine Below.allocS ?_ _ | refine Below.step ?_ (by assumption) | refine Below.setCell ?_ (by simp <;> omega) _ | refine Below.drewN' ?_ _)))).mono ?_
    rintro e w1 ⟨A1, c1, rfl, r1, hb1⟩
    have x1_0_0 : w1.cell? ⟨w.heap.size, 0, none⟩ = some (.slice x.A x.xs.length x.ca) := keep_cell hb1 (by simp [go_sem, *])
    have x1_0_1 : w1.cell? ⟨w.heap.size, 1, none⟩ = some (.int .i64 x.e) := keep_cell hb1 (by simp [go_sem, *])
    have y1_0 : w.heap.size < w1.heap.size := cell?_lt x1_0_0
    have g1 : Below w.heap.size w w1 := by (repeat (first | exact Below.refl _ _ | refine Below.drew ?_ | refine Below.allocS ?_ _ | refine Below.step ?_ (by assumption) | refine Below.setCell ?_ (by simp <;> omega) _ | refine Below.drewN' ?_ _))
    clear hb1
    have R1 := Lib.hid r1
    clear r1
    go_wp2_with fail
    refine (HA.out A1 c1 _ R1.out).mono ?_
    rintro e w2 ⟨rfl, r2, hb2⟩
    have R2 := Lib.hid r2
    clear r2
    have G2 : Below w.heap.size w w2 := Below.low g1 hb2 (by have := g1.size; omega)
    have cu1 : w2.cell? ⟨w.heap.size, 1, none⟩ = some (.int .i64 x.e) := keep_cell hb2 (by simp [go_sem, *])
    clear hb2
    cases B
    case true =>
      go_wp2
      go_ret2
      exact ⟨.inl ⟨HH.out, rfl⟩, G2⟩
    go_wp2_with fail
    refine (HM.out (P - 1) _ (by omega)).mono ?_
    rintro e w3 ⟨⟨A3, c3, rfl, r3⟩, hb3⟩
    have R3 := Lib.hid r3
    have R4 := Lib.hid (R2.out.step hb3)
    have G3 : Below w.heap.size w w3 := Below.low G2 hb3 (by have := G2.size; omega)
    have cz1 : w3.cell? ⟨w.heap.size, 1, none⟩ = some (.int .i64 x.e) := keep_cell hb3 cu1
    clear r3 hb3 cu1
    go_wp2
    go_loopw [8, 9] (fun u i wr => ∃ (tt : Nat) (Ab : Option Addr) (cb : Nat), u = .slice Ab (bestL betL (fun m => !agM s n m) n (memL (2 ^ n - 1) n) (tt - 1)).length cb ∧ RdL wr wr.heap.size inE 1 Ab ((bestL betL (fun m => !agM s n m) n (memL (2 ^ n - 1) n) (tt - 1)).map Int.ofNat) ∧ i = .int .i64 tt ∧ 1 ≤ tt ∧ tt ≤ P ∧ Below w3.heap.size w3 wr) (fun _ i _ => P - (intOf i).toNat)
    case atStart => exact ⟨1, A3, c3, by rw [HPP.out]; rfl, by rw [HPP.out] at R3; exact R3.out, rfl, by omega, by omega, Below.refl _ _⟩
    case round =>
      rename World => V
      obtain ⟨tt, Ab, cb, rfl, rb, rfl, ht1, htP, hbV⟩ := hrel
      have RB := Lib.hid rb
      have RV := Lib.hid (R4.out.step hbV)
      have hbw : Below w.heap.size w V := Below.low G3 hbV (by have := G3.size; omega)
      have cv1 : V.cell? ⟨w.heap.size, 1, none⟩ = some (.int .i64 x.e) := keep_cell hbV cz1
      have hbl := best_len (bt := betL) (dis := (fun m => !agM s n m)) (n := n) (init := (memL (2 ^ n - 1) n)) (memL_len _ _) (tt - 1)
      have HBS : Hid ((bestL betL (fun m => !agM s n m) n (memL (2 ^ n - 1) n) tt) = if (betL (memL tt n) (bestL betL (fun m => !agM s n m) n (memL (2 ^ n - 1) n) (tt - 1)) && !agM s n tt) = true then memL tt n else (bestL betL (fun m => !agM s n m) n (memL (2 ^ n - 1) n) (tt - 1))) := Lib.hid (by
        obtain ⟨t, rfl⟩ : ∃ t, tt = t + 1 := ⟨tt - 1, by omega⟩
        rfl)
      have HEQ : Hid (tt = P → (bestL betL (fun m => !agM s n m) n (memL (2 ^ n - 1) n) (2 ^ n - 1)) = (bestL betL (fun m => !agM s n m) n (memL (2 ^ n - 1) n) (tt - 1))) := Lib.hid (fun h => by rw [h, HPP.out])
      clear rb
      generalize (bestL betL (fun m => !agM s n m) n (memL (2 ^ n - 1) n) (tt - 1)) = best at *
      obtain ⟨bn, hbn⟩ : ∃ bn, bn = best.length := ⟨_, rfl⟩
      have HBN := Lib.hid hbn
      rw [← hbn] at hbl ⊢
      clear hbn
      by_cases hlt : tt < P
      · have u1 : decide ((tt : Int) < (P : Int)) = true := decide_eq_true (by omega)
        have u3 : IntKind.i64.wrap ((tt : Int) + 1) = (tt : Int) + 1 := IntWalk.i64_in _ (by omega)
        have HTP := Lib.hid hlt
        have HM1 := Lib.hid (fun W => HM.out tt W hlt)
        have HC1 := Lib.hid (HC.out tt hlt)
        have HO1 := Lib.hid (HO.out tt)
        have hml := memL_len tt n
        generalize pickK sn sn0 tt n = pk at *
        obtain ⟨pn, hpn⟩ : ∃ pn, pn = pk.length := ⟨_, rfl⟩
        rw [← hpn] at HC1 HO1
        clear hpn hlt
        generalize memL tt n = ml at *
        obtain ⟨mn, hmn⟩ : ∃ mn, mn = ml.length := ⟨_, rfl⟩
        have HMN := Lib.hid hmn
        rw [← hmn] at HM1 hml
        clear hmn
        go_wp2_with fail
        refine (HM1.out _).mono ?_
        rintro e w5 ⟨⟨A5, c5, rfl, r5⟩, hb5⟩
        have R5 := Lib.hid r5
        have R6 := Lib.hid (RB.out.step hb5)
        have R7 := Lib.hid (RV.out.step hb5)
        have cw1 : w5.cell? ⟨w.heap.size, 1, none⟩ = some (.int .i64 x.e) := keep_cell hb5 cv1
        have p1 : ∀ W, Below w5.heap.size w5 W → W.cell? ⟨w.heap.size, 1, none⟩ = some (.int .i64 x.e) := fun W hb => keep_cell hb cw1
        have G5 : Below w3.heap.size w3 w5 := Below.step hbV hb5
        have HE := Lib.hid (fun W (hb : Below w5.heap.size w5 W) => Earlier_c ml best mn bn HMN.out.symm HBN.out.symm (by omega) (by omega) A5 Ab c5 cb W (R5.out.step hb) (R6.out.step hb))
        clear r5 hb5 cv1
        by_cases h1 : mn < bn
        · have d1 : decide ((mn : Int) < (bn : Int)) = true := decide_eq_true (by omega)
          have d1n : decide (mn < bn) = true := decide_eq_true (by omega)
          have HBT := Lib.hid (show betL ml best = true by unfold betL; rw [← HMN.out, ← HBN.out, decide_eq_true h1]; rfl)
          clear h1
          go_wp2_with fail
          refine wp_region_held_drew (S := fun W => Below w5.heap.size w5 W) (by kernel_rfl) ?_ (fun hHeld => ?_); (· (repeat (first | (with_reducible exact Below.refl _ _) | (with_reducible assumption) | (with_reducible refine Below.drew ?_) | (with_reducible refine Below.allocS ?_ _) | (with_reducible refine Below.setCell ?_ ?_ _) | (with_reducible refine Below.step ?_ (by assumption)) | (with_reducible refine Below.drewN' ?_ _))); (try any_goals (first | (with_reducible assumption) | (simp; done) | (simp; omega) | omega)))
          (first | (refine wpAnyH_take (i := 0) (oi := ⟨_, _, _, _, _, _⟩) (v := ?_) rfl (by kernel_rfl) (by kernel_rfl) (by kernel_rfl) (fun _ _ _ h => h) (Or.inl ⟨by rfl, ?_⟩) (by assumption) ?_; rotate_left 1; (· (intro w0 hSw; (try dsimp only at hSw); go_simp; (try with_reducible rfl)))) | (refine wpAnyH_take (i := 0) (oi := ⟨_, _, _, _, _, _⟩) (v := undef) rfl (by kernel_rfl) (by kernel_rfl) (by kernel_rfl) (fun _ _ _ h => h) (Or.inr ⟨by rfl, rfl⟩) (by assumption) ?_)); (try simp only [Act.put, List.setIfInBounds_toArray, List.set_cons_zero, List.set_cons_succ])
          (first | (refine wpAnyH_take (i := 1) (oi := ⟨_, _, _, _, _, _⟩) (v := ?_) rfl (by kernel_rfl) (by kernel_rfl) (by kernel_rfl) (fun _ _ _ h => h) (Or.inl ⟨by rfl, ?_⟩) (by assumption) ?_; rotate_left 1; (· (intro w0 hSw; (try dsimp only at hSw); go_simp; (try with_reducible rfl)))) | (refine wpAnyH_take (i := 1) (oi := ⟨_, _, _, _, _, _⟩) (v := undef) rfl (by kernel_rfl) (by kernel_rfl) (by kernel_rfl) (fun _ _ _ h => h) (Or.inr ⟨by rfl, rfl⟩) (by assumption) ?_)); (try simp only [Act.put, List.setIfInBounds_toArray, List.set_cons_zero, List.set_cons_succ])
          (first | (refine wpAnyH_take (i := 2) (oi := ⟨_, _, _, _, _, _⟩) (v := ?_) rfl (by kernel_rfl) (by kernel_rfl) (by kernel_rfl) (fun _ _ _ h => h) (Or.inl ⟨by rfl, ?_⟩) (by assumption) ?_; rotate_left 1; (· (intro w0 hSw; (try dsimp only at hSw); go_simp; (try with_reducible rfl)))) | (refine wpAnyH_take (i := 2) (oi := ⟨_, _, _, _, _, _⟩) (v := undef) rfl (by kernel_rfl) (by kernel_rfl) (by kernel_rfl) (fun _ _ _ h => h) (Or.inr ⟨by rfl, rfl⟩) (by assumption) ?_)); (try simp only [Act.put, List.setIfInBounds_toArray, List.set_cons_zero, List.set_cons_succ])
          (first | (refine wpAnyH_take (i := 3) (oi := ⟨_, _, _, _, _, _⟩) (v := ?_) rfl (by kernel_rfl) (by kernel_rfl) (by kernel_rfl) (fun _ _ _ h => h) (Or.inl ⟨by rfl, ?_⟩) (by assumption) ?_; rotate_left 1; (· (intro w0 hSw; (try dsimp only at hSw); go_simp; (try with_reducible rfl)))) | (refine wpAnyH_take (i := 3) (oi := ⟨_, _, _, _, _, _⟩) (v := undef) rfl (by kernel_rfl) (by kernel_rfl) (by kernel_rfl) (fun _ _ _ h => h) (Or.inr ⟨by rfl, rfl⟩) (by assumption) ?_)); (try simp only [Act.put, List.setIfInBounds_toArray, List.set_cons_zero, List.set_cons_succ])
          (first | (refine wpAnyH_take (i := 4) (oi := ⟨_, _, _, _, _, _⟩) (v := ?_) rfl (by kernel_rfl) (by kernel_rfl) (by kernel_rfl) (fun _ _ _ h => h) (Or.inl ⟨by rfl, ?_⟩) (by assumption) ?_; rotate_left 1; (· (intro w0 hSw; (try dsimp only at hSw); go_simp; (try with_reducible rfl)))) | (refine wpAnyH_take (i := 4) (oi := ⟨_, _, _, _, _, _⟩) (v := undef) rfl (by kernel_rfl) (by kernel_rfl) (by kernel_rfl) (fun _ _ _ h => h) (Or.inr ⟨by rfl, rfl⟩) (by assumption) ?_)); (try simp only [Act.put, List.setIfInBounds_toArray, List.set_cons_zero, List.set_cons_succ])
          (first | (refine wpAnyH_take (i := 5) (oi := ⟨_, _, _, _, _, _⟩) (v := ?_) rfl (by kernel_rfl) (by kernel_rfl) (by kernel_rfl) (fun _ _ _ h => h) (Or.inl ⟨by rfl, ?_⟩) (by assumption) ?_; rotate_left 1; (· (intro w0 hSw; (try dsimp only at hSw); go_simp; (try with_reducible rfl)))) | (refine wpAnyH_take (i := 5) (oi := ⟨_, _, _, _, _, _⟩) (v := undef) rfl (by kernel_rfl) (by kernel_rfl) (by kernel_rfl) (fun _ _ _ h => h) (Or.inr ⟨by rfl, rfl⟩) (by assumption) ?_)); (try simp only [Act.put, List.setIfInBounds_toArray, List.set_cons_zero, List.set_cons_succ])
          (first | (refine wpAnyH_take (i := 6) (oi := ⟨_, _, _, _, _, _⟩) (v := ?_) rfl (by kernel_rfl) (by kernel_rfl) (by kernel_rfl) (fun _ _ _ h => h) (Or.inl ⟨by rfl, ?_⟩) (by assumption) ?_; rotate_left 1; (· (intro w0 hSw; (try dsimp only at hSw); go_simp; (try with_reducible rfl)))) | (refine wpAnyH_take (i := 6) (oi := ⟨_, _, _, _, _, _⟩) (v := undef) rfl (by kernel_rfl) (by kernel_rfl) (by kernel_rfl) (fun _ _ _ h => h) (Or.inr ⟨by rfl, rfl⟩) (by assumption) ?_)); (try simp only [Act.put, List.setIfInBounds_toArray, List.set_cons_zero, List.set_cons_succ])
          (first | (refine wpAnyH_take (i := 7) (oi := ⟨_, _, _, _, _, _⟩) (v := ?_) rfl (by kernel_rfl) (by kernel_rfl) (by kernel_rfl) (fun _ _ _ h => h) (Or.inl ⟨by rfl, ?_⟩) (by assumption) ?_; rotate_left 1; (· (intro w0 hSw; (try dsimp only at hSw); go_simp; (try with_reducible rfl)))) | (refine wpAnyH_take (i := 7) (oi := ⟨_, _, _, _, _, _⟩) (v := undef) rfl (by kernel_rfl) (by kernel_rfl) (by kernel_rfl) (fun _ _ _ h => h) (Or.inr ⟨by rfl, rfl⟩) (by assumption) ?_)); (try simp only [Act.put, List.setIfInBounds_toArray, List.set_cons_zero, List.set_cons_succ])
          (first | (refine wpAnyH_take (i := 8) (oi := ⟨_, _, _, _, _, _⟩) (v := ?_) rfl (by kernel_rfl) (by kernel_rfl) (by kernel_rfl) (fun _ _ _ h => h) (Or.inl ⟨by rfl, ?_⟩) (by assumption) ?_; rotate_left 1; (· (intro w0 hSw; (try dsimp only at hSw); go_simp; (try with_reducible rfl)))) | (refine wpAnyH_take (i := 8) (oi := ⟨_, _, _, _, _, _⟩) (v := undef) rfl (by kernel_rfl) (by kernel_rfl) (by kernel_rfl) (fun _ _ _ h => h) (Or.inr ⟨by rfl, rfl⟩) (by assumption) ?_)); (try simp only [Act.put, List.setIfInBounds_toArray, List.set_cons_zero, List.set_cons_succ])
          (first | (refine wpAnyH_take (i := 9) (oi := ⟨_, _, _, _, _, _⟩) (v := ?_) rfl (by kernel_rfl) (by kernel_rfl) (by kernel_rfl) (fun _ _ _ h => h) (Or.inl ⟨by rfl, ?_⟩) (by assumption) ?_; rotate_left 1; (· (intro w0 hSw; (try dsimp only at hSw); go_simp; (try with_reducible rfl)))) | (refine wpAnyH_take (i := 9) (oi := ⟨_, _, _, _, _, _⟩) (v := undef) rfl (by kernel_rfl) (by kernel_rfl) (by kernel_rfl) (fun _ _ _ h => h) (Or.inr ⟨by rfl, rfl⟩) (by assumption) ?_)); (try simp only [Act.put, List.setIfInBounds_toArray, List.set_cons_zero, List.set_cons_succ])
          (first | (refine wpAnyH_take (i := 10) (oi := ⟨_, _, _, _, _, _⟩) (v := ?_) rfl (by kernel_rfl) (by kernel_rfl) (by kernel_rfl) (fun _ _ _ h => h) (Or.inl ⟨by rfl, ?_⟩) (by assumption) ?_; rotate_left 1; (· (intro w0 hSw; (try dsimp only at hSw); go_simp; (try with_reducible rfl)))) | (refine wpAnyH_take (i := 10) (oi := ⟨_, _, _, _, _, _⟩) (v := undef) rfl (by kernel_rfl) (by kernel_rfl) (by kernel_rfl) (fun _ _ _ h => h) (Or.inr ⟨by rfl, rfl⟩) (by assumption) ?_)); (try simp only [Act.put, List.setIfInBounds_toArray, List.set_cons_zero, List.set_cons_succ])
          (first | (refine wpAnyH_take (i := 11) (oi := ⟨_, _, _, _, _, _⟩) (v := ?_) rfl (by kernel_rfl) (by kernel_rfl) (by kernel_rfl) (fun _ _ _ h => h) (Or.inl ⟨by rfl, ?_⟩) (by assumption) ?_; rotate_left 1; (· (intro w0 hSw; (try dsimp only at hSw); go_simp; (try with_reducible rfl)))) | (refine wpAnyH_take (i := 11) (oi := ⟨_, _, _, _, _, _⟩) (v := undef) rfl (by kernel_rfl) (by kernel_rfl) (by kernel_rfl) (fun _ _ _ h => h) (Or.inr ⟨by rfl, rfl⟩) (by assumption) ?_)); (try simp only [Act.put, List.setIfInBounds_toArray, List.set_cons_zero, List.set_cons_succ])
          (first | (refine wpAnyH_take (i := 12) (oi := ⟨_, _, _, _, _, _⟩) (v := ?_) rfl (by kernel_rfl) (by kernel_rfl) (by kernel_rfl) (fun _ _ _ h => h) (Or.inl ⟨by rfl, ?_⟩) (by assumption) ?_; rotate_left 1; (· (intro w0 hSw; (try dsimp only at hSw); go_simp; (try with_reducible rfl)))) | (refine wpAnyH_take (i := 12) (oi := ⟨_, _, _, _, _, _⟩) (v := undef) rfl (by kernel_rfl) (by kernel_rfl) (by kernel_rfl) (fun _ _ _ h => h) (Or.inr ⟨by rfl, rfl⟩) (by assumption) ?_)); (try simp only [Act.put, List.setIfInBounds_toArray, List.set_cons_zero, List.set_cons_succ])
          (first | (refine wpAnyH_take (i := 13) (oi := ⟨_, _, _, _, _, _⟩) (v := ?_) rfl (by kernel_rfl) (by kernel_rfl) (by kernel_rfl) (fun _ _ _ h => h) (Or.inl ⟨by rfl, ?_⟩) (by assumption) ?_; rotate_left 1; (· (intro w0 hSw; (try dsimp only at hSw); go_simp; (try with_reducible rfl)))) | (refine wpAnyH_take (i := 13) (oi := ⟨_, _, _, _, _, _⟩) (v := undef) rfl (by kernel_rfl) (by kernel_rfl) (by kernel_rfl) (fun _ _ _ h => h) (Or.inr ⟨by rfl, rfl⟩) (by assumption) ?_)); (try simp only [Act.put, List.setIfInBounds_toArray, List.set_cons_zero, List.set_cons_succ])
          (first | (refine wpAnyH_take (i := 14) (oi := ⟨_, _, _, _, _, _⟩) (v := ?_) rfl (by kernel_rfl) (by kernel_rfl) (by kernel_rfl) (fun _ _ _ h => h) (Or.inl ⟨by rfl, ?_⟩) (by assumption) ?_; rotate_left 1; (· (intro w0 hSw; (try dsimp only at hSw); go_simp; (try with_reducible rfl)))) | (refine wpAnyH_take (i := 14) (oi := ⟨_, _, _, _, _, _⟩) (v := undef) rfl (by kernel_rfl) (by kernel_rfl) (by kernel_rfl) (fun _ _ _ h => h) (Or.inr ⟨by rfl, rfl⟩) (by assumption) ?_)); (try simp only [Act.put, List.setIfInBounds_toArray, List.set_cons_zero, List.set_cons_succ])
          (first | (refine wpAnyH_take (i := 15) (oi := ⟨_, _, _, _, _, _⟩) (v := ?_) rfl (by kernel_rfl) (by kernel_rfl) (by kernel_rfl) (fun _ _ _ h => h) (Or.inl ⟨by rfl, ?_⟩) (by assumption) ?_; rotate_left 1; (· (intro w0 hSw; (try dsimp only at hSw); go_simp; (try with_reducible rfl)))) | (refine wpAnyH_take (i := 15) (oi := ⟨_, _, _, _, _, _⟩) (v := undef) rfl (by kernel_rfl) (by kernel_rfl) (by kernel_rfl) (fun _ _ _ h => h) (Or.inr ⟨by rfl, rfl⟩) (by assumption) ?_)); (try simp only [Act.put, List.setIfInBounds_toArray, List.set_cons_zero, List.set_cons_succ])
          (first | (refine wpAnyH_take (i := 16) (oi := ⟨_, _, _, _, _, _⟩) (v := ?_) rfl (by kernel_rfl) (by kernel_rfl) (by kernel_rfl) (fun _ _ _ h => h) (Or.inl ⟨by rfl, ?_⟩) (by assumption) ?_; rotate_left 1; (· (intro w0 hSw; (try dsimp only at hSw); go_simp; (try with_reducible rfl)))) | (refine wpAnyH_take (i := 16) (oi := ⟨_, _, _, _, _, _⟩) (v := undef) rfl (by kernel_rfl) (by kernel_rfl) (by kernel_rfl) (fun _ _ _ h => h) (Or.inr ⟨by rfl, rfl⟩) (by assumption) ?_)); (try simp only [Act.put, List.setIfInBounds_toArray, List.set_cons_zero, List.set_cons_succ])
          (first | (refine wpAnyH_take (i := 17) (oi := ⟨_, _, _, _, _, _⟩) (v := ?_) rfl (by kernel_rfl) (by kernel_rfl) (by kernel_rfl) (fun _ _ _ h => h) (Or.inl ⟨by rfl, ?_⟩) (by assumption) ?_; rotate_left 1; (· (intro w0 hSw; (try dsimp only at hSw); go_simp; (try with_reducible rfl)))) | (refine wpAnyH_take (i := 17) (oi := ⟨_, _, _, _, _, _⟩) (v := undef) rfl (by kernel_rfl) (by kernel_rfl) (by kernel_rfl) (fun _ _ _ h => h) (Or.inr ⟨by rfl, rfl⟩) (by assumption) ?_)); (try simp only [Act.put, List.setIfInBounds_toArray, List.set_cons_zero, List.set_cons_succ])
          (first | (refine wpAnyH_take (i := 18) (oi := ⟨_, _, _, _, _, _⟩) (v := ?_) rfl (by kernel_rfl) (by kernel_rfl) (by kernel_rfl) (fun _ _ _ h => h) (Or.inl ⟨by rfl, ?_⟩) (by assumption) ?_; rotate_left 1; (· (intro w0 hSw; (try dsimp only at hSw); go_simp; (try with_reducible rfl)))) | (refine wpAnyH_take (i := 18) (oi := ⟨_, _, _, _, _, _⟩) (v := undef) rfl (by kernel_rfl) (by kernel_rfl) (by kernel_rfl) (fun _ _ _ h => h) (Or.inr ⟨by rfl, rfl⟩) (by assumption) ?_)); (try simp only [Act.put, List.setIfInBounds_toArray, List.set_cons_zero, List.set_cons_succ])
          (first | (refine wpAnyH_take (i := 19) (oi := ⟨_, _, _, _, _, _⟩) (v := ?_) rfl (by kernel_rfl) (by kernel_rfl) (by kernel_rfl) (fun _ _ _ h => h) (Or.inl ⟨by rfl, ?_⟩) (by assumption) ?_; rotate_left 1; (· (intro w0 hSw; (try dsimp only at hSw); go_simp; (try with_reducible rfl)))) | (refine wpAnyH_take (i := 19) (oi := ⟨_, _, _, _, _, _⟩) (v := undef) rfl (by kernel_rfl) (by kernel_rfl) (by kernel_rfl) (fun _ _ _ h => h) (Or.inr ⟨by rfl, rfl⟩) (by assumption) ?_)); (try simp only [Act.put, List.setIfInBounds_toArray, List.set_cons_zero, List.set_cons_succ])
          (first | (refine wpAnyH_take (i := 21) (oi := ⟨_, _, _, _, _, _⟩) (v := ?_) rfl (by kernel_rfl) (by kernel_rfl) (by kernel_rfl) (fun _ _ _ h => h) (Or.inl ⟨by rfl, ?_⟩) (by assumption) ?_; rotate_left 1; (· (intro w0 hSw; (try dsimp only at hSw); go_simp; (try with_reducible rfl)))) | (refine wpAnyH_take (i := 21) (oi := ⟨_, _, _, _, _, _⟩) (v := undef) rfl (by kernel_rfl) (by kernel_rfl) (by kernel_rfl) (fun _ _ _ h => h) (Or.inr ⟨by rfl, rfl⟩) (by assumption) ?_)); (try simp only [Act.put, List.setIfInBounds_toArray, List.set_cons_zero, List.set_cons_succ])
          (first | (refine wpAnyH_take (i := 22) (oi := ⟨_, _, _, _, _, _⟩) (v := ?_) rfl (by kernel_rfl) (by kernel_rfl) (by kernel_rfl) (fun _ _ _ h => h) (Or.inl ⟨by rfl, ?_⟩) (by assumption) ?_; rotate_left 1; (· (intro w0 hSw; (try dsimp only at hSw); go_simp; (try with_reducible rfl)))) | (refine wpAnyH_take (i := 22) (oi := ⟨_, _, _, _, _, _⟩) (v := undef) rfl (by kernel_rfl) (by kernel_rfl) (by kernel_rfl) (fun _ _ _ h => h) (Or.inr ⟨by rfl, rfl⟩) (by assumption) ?_)); (try simp only [Act.put, List.setIfInBounds_toArray, List.set_cons_zero, List.set_cons_succ])
          refine wpAnyH_ready (rs := [20]) (by kernel_rfl) (by simp) ?_
          refine AllReadyH.cons (o := ⟨_, _, _, _, _, _⟩) rfl (fun K hK => ?_) AllReadyH.nil
          go_simp
          refine (HC1.out A1 c1 _ (R7.out.step (by assumption))).mono ?_; rintro e wm ⟨A8, c8, rfl, r8, hbm⟩; have HR8 := Lib.hid r8; clear r8
          (try go_wp2_with fail)
          refine hK.out _ _ ?_ (fun hHeld => ?_)
          · exact Below.step (by assumption) hbm
          clear hK K
          (try simp only [Act.put, List.setIfInBounds_toArray, List.set_cons_zero, List.set_cons_succ])
          refine wpAnyH_ready (rs := [23]) (by kernel_rfl) (by simp) ?_
          refine AllReadyH.cons (o := ⟨_, _, _, _, _, _⟩) rfl (fun K hK => ?_) AllReadyH.nil
          go_simp
          refine (HO1.out A8 c8 _ HR8.out).mono ?_; rintro e wn ⟨rfl, hbn⟩
          (try go_wp2_with fail)
          refine hK.out _ _ ?_ (fun hHeld => ?_)
          · exact Below.step (by assumption) hbn
          clear hK K
          (try simp only [Act.put, List.setIfInBounds_toArray, List.set_cons_zero, List.set_cons_succ])
          (first | (refine wpAnyH_take (i := 24) (oi := ⟨_, _, _, _, _, _⟩) (v := ?_) rfl (by kernel_rfl) (by kernel_rfl) (by kernel_rfl) (fun _ _ _ h => h) (Or.inl ⟨by rfl, ?_⟩) (by assumption) ?_; rotate_left 1; (· (intro w0 hSw; (try dsimp only at hSw); go_simp; (try with_reducible rfl)))) | (refine wpAnyH_take (i := 24) (oi := ⟨_, _, _, _, _, _⟩) (v := undef) rfl (by kernel_rfl) (by kernel_rfl) (by kernel_rfl) (fun _ _ _ h => h) (Or.inr ⟨by rfl, rfl⟩) (by assumption) ?_)); (try simp only [Act.put, List.setIfInBounds_toArray, List.set_cons_zero, List.set_cons_succ])
          (first | (refine wpAnyH_take (i := 25) (oi := ⟨_, _, _, _, _, _⟩) (v := ?_) rfl (by kernel_rfl) (by kernel_rfl) (by kernel_rfl) (fun _ _ _ h => h) (Or.inl ⟨by rfl, ?_⟩) (by assumption) ?_; rotate_left 1; (· (intro w0 hSw; (try dsimp only at hSw); go_simp; (try with_reducible rfl)))) | (refine wpAnyH_take (i := 25) (oi := ⟨_, _, _, _, _, _⟩) (v := undef) rfl (by kernel_rfl) (by kernel_rfl) (by kernel_rfl) (fun _ _ _ h => h) (Or.inr ⟨by rfl, rfl⟩) (by assumption) ?_)); (try simp only [Act.put, List.setIfInBounds_toArray, List.set_cons_zero, List.set_cons_succ])
          refine wpAnyH_done (by kernel_rfl) ?_ _
          have hb7 : Below w5.heap.size w5 wn := by (repeat (first | exact Below.refl _ _ | refine Below.drew ?_ | refine Below.allocS ?_ _ | refine Below.step ?_ (by assumption) | refine Below.setCell ?_ (by simp <;> omega) _ | refine Below.drewN' ?_ _))
          have hb8 : Below w3.heap.size w3 wn := Below.step G5 hb7
          have HAG := Lib.hid (show ∃ B, B = agM s n tt from ⟨_, rfl⟩)
          obtain ⟨B, hB⟩ := HAG.out
          rw [← hB]
          have HAGM := Lib.hid hB.symm
          clear hB HAG HO1
          cases B
          · go_wp2
            go_roundw
            case rel => exact ⟨tt + 1, A5, c5, by rw [show tt + 1 - 1 = tt from rfl, HBS.out, HBT.out, HAGM.out]; simp [HMN.out], by rw [show tt + 1 - 1 = tt from rfl, HBS.out, HBT.out, HAGM.out]; exact R5.out.step hb7, by go_num, by omega, HTP.out, hb8⟩
            case measure => have := HTP.out; simp [intOf]; omega
          · go_wp2
            go_roundw
            case rel => exact ⟨tt + 1, Ab, cb, by rw [show tt + 1 - 1 = tt from rfl, HBS.out, HBT.out, HAGM.out]; simp [HBN.out], by rw [show tt + 1 - 1 = tt from rfl, HBS.out, HBT.out, HAGM.out]; exact R6.out.step hb7, by go_num, by omega, HTP.out, hb8⟩
            case measure => have := HTP.out; simp [intOf]; omega
        by_cases h2 : mn = bn
        · subst h2
          cases he : earl ml best
          · have d1 : decide ((mn : Int) < (mn : Int)) = false := decide_eq_false (by omega)
            have d1n : decide (mn < mn) = false := decide_eq_false (by omega)
            have d2 : ((mn : Int) == (mn : Int)) = true := by simp
            have HBT := Lib.hid (show betL ml best = false by unfold betL; rw [← HMN.out, ← HBN.out, decide_eq_true (rfl : mn = mn), he]; simp)
            rw [he] at HE
            clear he
            go_wp2_with fail
            refine wp_region_held_drew (S := fun W => Below w5.heap.size w5 W) (by kernel_rfl) ?_ (fun hHeld => ?_); (· (repeat (first | (with_reducible exact Below.refl _ _) | (with_reducible assumption) | (with_reducible refine Below.drew ?_) | (with_reducible refine Below.allocS ?_ _) | (with_reducible refine Below.setCell ?_ ?_ _) | (with_reducible refine Below.step ?_ (by assumption)) | (with_reducible refine Below.drewN' ?_ _))); (try any_goals (first | (with_reducible assumption) | (simp; done) | (simp; omega) | omega)))
            (first | (refine wpAnyH_take (i := 0) (oi := ⟨_, _, _, _, _, _⟩) (v := ?_) rfl (by kernel_rfl) (by kernel_rfl) (by kernel_rfl) (fun _ _ _ h => h) (Or.inl ⟨by rfl, ?_⟩) (by assumption) ?_; rotate_left 1; (· (intro w0 hSw; (try dsimp only at hSw); go_simp; (try with_reducible rfl)))) | (refine wpAnyH_take (i := 0) (oi := ⟨_, _, _, _, _, _⟩) (v := undef) rfl (by kernel_rfl) (by kernel_rfl) (by kernel_rfl) (fun _ _ _ h => h) (Or.inr ⟨by rfl, rfl⟩) (by assumption) ?_)); (try simp only [Act.put, List.setIfInBounds_toArray, List.set_cons_zero, List.set_cons_succ])
            (first | (refine wpAnyH_take (i := 1) (oi := ⟨_, _, _, _, _, _⟩) (v := ?_) rfl (by kernel_rfl) (by kernel_rfl) (by kernel_rfl) (fun _ _ _ h => h) (Or.inl ⟨by rfl, ?_⟩) (by assumption) ?_; rotate_left 1; (· (intro w0 hSw; (try dsimp only at hSw); go_simp; (try with_reducible rfl)))) | (refine wpAnyH_take (i := 1) (oi := ⟨_, _, _, _, _, _⟩) (v := undef) rfl (by kernel_rfl) (by kernel_rfl) (by kernel_rfl) (fun _ _ _ h => h) (Or.inr ⟨by rfl, rfl⟩) (by assumption) ?_)); (try simp only [Act.put, List.setIfInBounds_toArray, List.set_cons_zero, List.set_cons_succ])
            (first | (refine wpAnyH_take (i := 2) (oi := ⟨_, _, _, _, _, _⟩) (v := ?_) rfl (by kernel_rfl) (by kernel_rfl) (by kernel_rfl) (fun _ _ _ h => h) (Or.inl ⟨by rfl, ?_⟩) (by assumption) ?_; rotate_left 1; (· (intro w0 hSw; (try dsimp only at hSw); go_simp; (try with_reducible rfl)))) | (refine wpAnyH_take (i := 2) (oi := ⟨_, _, _, _, _, _⟩) (v := undef) rfl (by kernel_rfl) (by kernel_rfl) (by kernel_rfl) (fun _ _ _ h => h) (Or.inr ⟨by rfl, rfl⟩) (by assumption) ?_)); (try simp only [Act.put, List.setIfInBounds_toArray, List.set_cons_zero, List.set_cons_succ])
            (first | (refine wpAnyH_take (i := 3) (oi := ⟨_, _, _, _, _, _⟩) (v := ?_) rfl (by kernel_rfl) (by kernel_rfl) (by kernel_rfl) (fun _ _ _ h => h) (Or.inl ⟨by rfl, ?_⟩) (by assumption) ?_; rotate_left 1; (· (intro w0 hSw; (try dsimp only at hSw); go_simp; (try with_reducible rfl)))) | (refine wpAnyH_take (i := 3) (oi := ⟨_, _, _, _, _, _⟩) (v := undef) rfl (by kernel_rfl) (by kernel_rfl) (by kernel_rfl) (fun _ _ _ h => h) (Or.inr ⟨by rfl, rfl⟩) (by assumption) ?_)); (try simp only [Act.put, List.setIfInBounds_toArray, List.set_cons_zero, List.set_cons_succ])
            (first | (refine wpAnyH_take (i := 4) (oi := ⟨_, _, _, _, _, _⟩) (v := ?_) rfl (by kernel_rfl) (by kernel_rfl) (by kernel_rfl) (fun _ _ _ h => h) (Or.inl ⟨by rfl, ?_⟩) (by assumption) ?_; rotate_left 1; (· (intro w0 hSw; (try dsimp only at hSw); go_simp; (try with_reducible rfl)))) | (refine wpAnyH_take (i := 4) (oi := ⟨_, _, _, _, _, _⟩) (v := undef) rfl (by kernel_rfl) (by kernel_rfl) (by kernel_rfl) (fun _ _ _ h => h) (Or.inr ⟨by rfl, rfl⟩) (by assumption) ?_)); (try simp only [Act.put, List.setIfInBounds_toArray, List.set_cons_zero, List.set_cons_succ])
            (first | (refine wpAnyH_take (i := 5) (oi := ⟨_, _, _, _, _, _⟩) (v := ?_) rfl (by kernel_rfl) (by kernel_rfl) (by kernel_rfl) (fun _ _ _ h => h) (Or.inl ⟨by rfl, ?_⟩) (by assumption) ?_; rotate_left 1; (· (intro w0 hSw; (try dsimp only at hSw); go_simp; (try with_reducible rfl)))) | (refine wpAnyH_take (i := 5) (oi := ⟨_, _, _, _, _, _⟩) (v := undef) rfl (by kernel_rfl) (by kernel_rfl) (by kernel_rfl) (fun _ _ _ h => h) (Or.inr ⟨by rfl, rfl⟩) (by assumption) ?_)); (try simp only [Act.put, List.setIfInBounds_toArray, List.set_cons_zero, List.set_cons_succ])
            (first | (refine wpAnyH_take (i := 6) (oi := ⟨_, _, _, _, _, _⟩) (v := ?_) rfl (by kernel_rfl) (by kernel_rfl) (by kernel_rfl) (fun _ _ _ h => h) (Or.inl ⟨by rfl, ?_⟩) (by assumption) ?_; rotate_left 1; (· (intro w0 hSw; (try dsimp only at hSw); go_simp; (try with_reducible rfl)))) | (refine wpAnyH_take (i := 6) (oi := ⟨_, _, _, _, _, _⟩) (v := undef) rfl (by kernel_rfl) (by kernel_rfl) (by kernel_rfl) (fun _ _ _ h => h) (Or.inr ⟨by rfl, rfl⟩) (by assumption) ?_)); (try simp only [Act.put, List.setIfInBounds_toArray, List.set_cons_zero, List.set_cons_succ])
            (first | (refine wpAnyH_take (i := 7) (oi := ⟨_, _, _, _, _, _⟩) (v := ?_) rfl (by kernel_rfl) (by kernel_rfl) (by kernel_rfl) (fun _ _ _ h => h) (Or.inl ⟨by rfl, ?_⟩) (by assumption) ?_; rotate_left 1; (· (intro w0 hSw; (try dsimp only at hSw); go_simp; (try with_reducible rfl)))) | (refine wpAnyH_take (i := 7) (oi := ⟨_, _, _, _, _, _⟩) (v := undef) rfl (by kernel_rfl) (by kernel_rfl) (by kernel_rfl) (fun _ _ _ h => h) (Or.inr ⟨by rfl, rfl⟩) (by assumption) ?_)); (try simp only [Act.put, List.setIfInBounds_toArray, List.set_cons_zero, List.set_cons_succ])
            (first | (refine wpAnyH_take (i := 8) (oi := ⟨_, _, _, _, _, _⟩) (v := ?_) rfl (by kernel_rfl) (by kernel_rfl) (by kernel_rfl) (fun _ _ _ h => h) (Or.inl ⟨by rfl, ?_⟩) (by assumption) ?_; rotate_left 1; (· (intro w0 hSw; (try dsimp only at hSw); go_simp; (try with_reducible rfl)))) | (refine wpAnyH_take (i := 8) (oi := ⟨_, _, _, _, _, _⟩) (v := undef) rfl (by kernel_rfl) (by kernel_rfl) (by kernel_rfl) (fun _ _ _ h => h) (Or.inr ⟨by rfl, rfl⟩) (by assumption) ?_)); (try simp only [Act.put, List.setIfInBounds_toArray, List.set_cons_zero, List.set_cons_succ])
            (first | (refine wpAnyH_take (i := 9) (oi := ⟨_, _, _, _, _, _⟩) (v := ?_) rfl (by kernel_rfl) (by kernel_rfl) (by kernel_rfl) (fun _ _ _ h => h) (Or.inl ⟨by rfl, ?_⟩) (by assumption) ?_; rotate_left 1; (· (intro w0 hSw; (try dsimp only at hSw); go_simp; (try with_reducible rfl)))) | (refine wpAnyH_take (i := 9) (oi := ⟨_, _, _, _, _, _⟩) (v := undef) rfl (by kernel_rfl) (by kernel_rfl) (by kernel_rfl) (fun _ _ _ h => h) (Or.inr ⟨by rfl, rfl⟩) (by assumption) ?_)); (try simp only [Act.put, List.setIfInBounds_toArray, List.set_cons_zero, List.set_cons_succ])
            (first | (refine wpAnyH_take (i := 10) (oi := ⟨_, _, _, _, _, _⟩) (v := ?_) rfl (by kernel_rfl) (by kernel_rfl) (by kernel_rfl) (fun _ _ _ h => h) (Or.inl ⟨by rfl, ?_⟩) (by assumption) ?_; rotate_left 1; (· (intro w0 hSw; (try dsimp only at hSw); go_simp; (try with_reducible rfl)))) | (refine wpAnyH_take (i := 10) (oi := ⟨_, _, _, _, _, _⟩) (v := undef) rfl (by kernel_rfl) (by kernel_rfl) (by kernel_rfl) (fun _ _ _ h => h) (Or.inr ⟨by rfl, rfl⟩) (by assumption) ?_)); (try simp only [Act.put, List.setIfInBounds_toArray, List.set_cons_zero, List.set_cons_succ])
            (first | (refine wpAnyH_take (i := 11) (oi := ⟨_, _, _, _, _, _⟩) (v := ?_) rfl (by kernel_rfl) (by kernel_rfl) (by kernel_rfl) (fun _ _ _ h => h) (Or.inl ⟨by rfl, ?_⟩) (by assumption) ?_; rotate_left 1; (· (intro w0 hSw; (try dsimp only at hSw); go_simp; (try with_reducible rfl)))) | (refine wpAnyH_take (i := 11) (oi := ⟨_, _, _, _, _, _⟩) (v := undef) rfl (by kernel_rfl) (by kernel_rfl) (by kernel_rfl) (fun _ _ _ h => h) (Or.inr ⟨by rfl, rfl⟩) (by assumption) ?_)); (try simp only [Act.put, List.setIfInBounds_toArray, List.set_cons_zero, List.set_cons_succ])
            (first | (refine wpAnyH_take (i := 12) (oi := ⟨_, _, _, _, _, _⟩) (v := ?_) rfl (by kernel_rfl) (by kernel_rfl) (by kernel_rfl) (fun _ _ _ h => h) (Or.inl ⟨by rfl, ?_⟩) (by assumption) ?_; rotate_left 1; (· (intro w0 hSw; (try dsimp only at hSw); go_simp; (try with_reducible rfl)))) | (refine wpAnyH_take (i := 12) (oi := ⟨_, _, _, _, _, _⟩) (v := undef) rfl (by kernel_rfl) (by kernel_rfl) (by kernel_rfl) (fun _ _ _ h => h) (Or.inr ⟨by rfl, rfl⟩) (by assumption) ?_)); (try simp only [Act.put, List.setIfInBounds_toArray, List.set_cons_zero, List.set_cons_succ])
            (first | (refine wpAnyH_take (i := 13) (oi := ⟨_, _, _, _, _, _⟩) (v := ?_) rfl (by kernel_rfl) (by kernel_rfl) (by kernel_rfl) (fun _ _ _ h => h) (Or.inl ⟨by rfl, ?_⟩) (by assumption) ?_; rotate_left 1; (· (intro w0 hSw; (try dsimp only at hSw); go_simp; (try with_reducible rfl)))) | (refine wpAnyH_take (i := 13) (oi := ⟨_, _, _, _, _, _⟩) (v := undef) rfl (by kernel_rfl) (by kernel_rfl) (by kernel_rfl) (fun _ _ _ h => h) (Or.inr ⟨by rfl, rfl⟩) (by assumption) ?_)); (try simp only [Act.put, List.setIfInBounds_toArray, List.set_cons_zero, List.set_cons_succ])
            refine wpAnyH_ready (rs := [14]) (by kernel_rfl) (by simp) ?_
            refine AllReadyH.cons (o := ⟨_, _, _, _, _, _⟩) rfl (fun K hK => ?_) AllReadyH.nil
            go_simp
            refine (HE.out _ (by assumption)).mono ?_; rintro e wl ⟨rfl, hbl5⟩
            (try go_wp2_with fail)
            refine hK.out _ _ ?_ (fun hHeld => ?_)
            · exact Below.step (by assumption) hbl5
            clear hK K
            (try simp only [Act.put, List.setIfInBounds_toArray, List.set_cons_zero, List.set_cons_succ])
            (first | (refine wpAnyH_take (i := 15) (oi := ⟨_, _, _, _, _, _⟩) (v := ?_) rfl (by kernel_rfl) (by kernel_rfl) (by kernel_rfl) (fun _ _ _ h => h) (Or.inl ⟨by rfl, ?_⟩) (by assumption) ?_; rotate_left 1; (· (intro w0 hSw; (try dsimp only at hSw); go_simp; (try with_reducible rfl)))) | (refine wpAnyH_take (i := 15) (oi := ⟨_, _, _, _, _, _⟩) (v := undef) rfl (by kernel_rfl) (by kernel_rfl) (by kernel_rfl) (fun _ _ _ h => h) (Or.inr ⟨by rfl, rfl⟩) (by assumption) ?_)); (try simp only [Act.put, List.setIfInBounds_toArray, List.set_cons_zero, List.set_cons_succ])
            (first | (refine wpAnyH_take (i := 16) (oi := ⟨_, _, _, _, _, _⟩) (v := ?_) rfl (by kernel_rfl) (by kernel_rfl) (by kernel_rfl) (fun _ _ _ h => h) (Or.inl ⟨by rfl, ?_⟩) (by assumption) ?_; rotate_left 1; (· (intro w0 hSw; (try dsimp only at hSw); go_simp; (try with_reducible rfl)))) | (refine wpAnyH_take (i := 16) (oi := ⟨_, _, _, _, _, _⟩) (v := undef) rfl (by kernel_rfl) (by kernel_rfl) (by kernel_rfl) (fun _ _ _ h => h) (Or.inr ⟨by rfl, rfl⟩) (by assumption) ?_)); (try simp only [Act.put, List.setIfInBounds_toArray, List.set_cons_zero, List.set_cons_succ])
            (first | (refine wpAnyH_take (i := 17) (oi := ⟨_, _, _, _, _, _⟩) (v := ?_) rfl (by kernel_rfl) (by kernel_rfl) (by kernel_rfl) (fun _ _ _ h => h) (Or.inl ⟨by rfl, ?_⟩) (by assumption) ?_; rotate_left 1; (· (intro w0 hSw; (try dsimp only at hSw); go_simp; (try with_reducible rfl)))) | (refine wpAnyH_take (i := 17) (oi := ⟨_, _, _, _, _, _⟩) (v := undef) rfl (by kernel_rfl) (by kernel_rfl) (by kernel_rfl) (fun _ _ _ h => h) (Or.inr ⟨by rfl, rfl⟩) (by assumption) ?_)); (try simp only [Act.put, List.setIfInBounds_toArray, List.set_cons_zero, List.set_cons_succ])
            (first | (refine wpAnyH_take (i := 18) (oi := ⟨_, _, _, _, _, _⟩) (v := ?_) rfl (by kernel_rfl) (by kernel_rfl) (by kernel_rfl) (fun _ _ _ h => h) (Or.inl ⟨by rfl, ?_⟩) (by assumption) ?_; rotate_left 1; (· (intro w0 hSw; (try dsimp only at hSw); go_simp; (try with_reducible rfl)))) | (refine wpAnyH_take (i := 18) (oi := ⟨_, _, _, _, _, _⟩) (v := undef) rfl (by kernel_rfl) (by kernel_rfl) (by kernel_rfl) (fun _ _ _ h => h) (Or.inr ⟨by rfl, rfl⟩) (by assumption) ?_)); (try simp only [Act.put, List.setIfInBounds_toArray, List.set_cons_zero, List.set_cons_succ])
            (first | (refine wpAnyH_take (i := 19) (oi := ⟨_, _, _, _, _, _⟩) (v := ?_) rfl (by kernel_rfl) (by kernel_rfl) (by kernel_rfl) (fun _ _ _ h => h) (Or.inl ⟨by rfl, ?_⟩) (by assumption) ?_; rotate_left 1; (· (intro w0 hSw; (try dsimp only at hSw); go_simp; (try with_reducible rfl)))) | (refine wpAnyH_take (i := 19) (oi := ⟨_, _, _, _, _, _⟩) (v := undef) rfl (by kernel_rfl) (by kernel_rfl) (by kernel_rfl) (fun _ _ _ h => h) (Or.inr ⟨by rfl, rfl⟩) (by assumption) ?_)); (try simp only [Act.put, List.setIfInBounds_toArray, List.set_cons_zero, List.set_cons_succ])
            (first | (refine wpAnyH_take (i := 20) (oi := ⟨_, _, _, _, _, _⟩) (v := ?_) rfl (by kernel_rfl) (by kernel_rfl) (by kernel_rfl) (fun _ _ _ h => h) (Or.inl ⟨by rfl, ?_⟩) (by assumption) ?_; rotate_left 1; (· (intro w0 hSw; (try dsimp only at hSw); go_simp; (try with_reducible rfl)))) | (refine wpAnyH_take (i := 20) (oi := ⟨_, _, _, _, _, _⟩) (v := undef) rfl (by kernel_rfl) (by kernel_rfl) (by kernel_rfl) (fun _ _ _ h => h) (Or.inr ⟨by rfl, rfl⟩) (by assumption) ?_)); (try simp only [Act.put, List.setIfInBounds_toArray, List.set_cons_zero, List.set_cons_succ])
            (first | (refine wpAnyH_take (i := 21) (oi := ⟨_, _, _, _, _, _⟩) (v := ?_) rfl (by kernel_rfl) (by kernel_rfl) (by kernel_rfl) (fun _ _ _ h => h) (Or.inl ⟨by rfl, ?_⟩) (by assumption) ?_; rotate_left 1; (· (intro w0 hSw; (try dsimp only at hSw); go_simp; (try with_reducible rfl)))) | (refine wpAnyH_take (i := 21) (oi := ⟨_, _, _, _, _, _⟩) (v := undef) rfl (by kernel_rfl) (by kernel_rfl) (by kernel_rfl) (fun _ _ _ h => h) (Or.inr ⟨by rfl, rfl⟩) (by assumption) ?_)); (try simp only [Act.put, List.setIfInBounds_toArray, List.set_cons_zero, List.set_cons_succ])
            (first | (refine wpAnyH_take (i := 22) (oi := ⟨_, _, _, _, _, _⟩) (v := ?_) rfl (by kernel_rfl) (by kernel_rfl) (by kernel_rfl) (fun _ _ _ h => h) (Or.inl ⟨by rfl, ?_⟩) (by assumption) ?_; rotate_left 1; (· (intro w0 hSw; (try dsimp only at hSw); go_simp; (try with_reducible rfl)))) | (refine wpAnyH_take (i := 22) (oi := ⟨_, _, _, _, _, _⟩) (v := undef) rfl (by kernel_rfl) (by kernel_rfl) (by kernel_rfl) (fun _ _ _ h => h) (Or.inr ⟨by rfl, rfl⟩) (by assumption) ?_)); (try simp only [Act.put, List.setIfInBounds_toArray, List.set_cons_zero, List.set_cons_succ])
            (first | (refine wpAnyH_take (i := 23) (oi := ⟨_, _, _, _, _, _⟩) (v := ?_) rfl (by kernel_rfl) (by kernel_rfl) (by kernel_rfl) (fun _ _ _ h => h) (Or.inl ⟨by rfl, ?_⟩) (by assumption) ?_; rotate_left 1; (· (intro w0 hSw; (try dsimp only at hSw); go_simp; (try with_reducible rfl)))) | (refine wpAnyH_take (i := 23) (oi := ⟨_, _, _, _, _, _⟩) (v := undef) rfl (by kernel_rfl) (by kernel_rfl) (by kernel_rfl) (fun _ _ _ h => h) (Or.inr ⟨by rfl, rfl⟩) (by assumption) ?_)); (try simp only [Act.put, List.setIfInBounds_toArray, List.set_cons_zero, List.set_cons_succ])
            (first | (refine wpAnyH_take (i := 24) (oi := ⟨_, _, _, _, _, _⟩) (v := ?_) rfl (by kernel_rfl) (by kernel_rfl) (by kernel_rfl) (fun _ _ _ h => h) (Or.inl ⟨by rfl, ?_⟩) (by assumption) ?_; rotate_left 1; (· (intro w0 hSw; (try dsimp only at hSw); go_simp; (try with_reducible rfl)))) | (refine wpAnyH_take (i := 24) (oi := ⟨_, _, _, _, _, _⟩) (v := undef) rfl (by kernel_rfl) (by kernel_rfl) (by kernel_rfl) (fun _ _ _ h => h) (Or.inr ⟨by rfl, rfl⟩) (by assumption) ?_)); (try simp only [Act.put, List.setIfInBounds_toArray, List.set_cons_zero, List.set_cons_succ])
            (first | (refine wpAnyH_take (i := 25) (oi := ⟨_, _, _, _, _, _⟩) (v := ?_) rfl (by kernel_rfl) (by kernel_rfl) (by kernel_rfl) (fun _ _ _ h => h) (Or.inl ⟨by rfl, ?_⟩) (by assumption) ?_; rotate_left 1; (· (intro w0 hSw; (try dsimp only at hSw); go_simp; (try with_reducible rfl)))) | (refine wpAnyH_take (i := 25) (oi := ⟨_, _, _, _, _, _⟩) (v := undef) rfl (by kernel_rfl) (by kernel_rfl) (by kernel_rfl) (fun _ _ _ h => h) (Or.inr ⟨by rfl, rfl⟩) (by assumption) ?_)); (try simp only [Act.put, List.setIfInBounds_toArray, List.set_cons_zero, List.set_cons_succ])
            refine wpAnyH_done (by kernel_rfl) ?_ _
            have hb7 : Below w5.heap.size w5 wl := by (repeat (first | exact Below.refl _ _ | refine Below.drew ?_ | refine Below.allocS ?_ _ | refine Below.step ?_ (by assumption) | refine Below.setCell ?_ (by simp <;> omega) _ | refine Below.drewN' ?_ _))
            have hb8 : Below w3.heap.size w3 wl := Below.step G5 hb7
            go_wp2
            go_roundw
            case rel => exact ⟨tt + 1, Ab, cb, by rw [show tt + 1 - 1 = tt from rfl, HBS.out, HBT.out]; simp [HBN.out], by rw [show tt + 1 - 1 = tt from rfl, HBS.out, HBT.out]; exact R6.out.step hb7, by go_num, by omega, HTP.out, hb8⟩
            case measure => have := HTP.out; simp [intOf]; omega
          · have d1 : decide ((mn : Int) < (mn : Int)) = false := decide_eq_false (by omega)
            have d1n : decide (mn < mn) = false := decide_eq_false (by omega)
            have d2 : ((mn : Int) == (mn : Int)) = true := by simp
            have HBT := Lib.hid (show betL ml best = true by unfold betL; rw [← HMN.out, ← HBN.out, decide_eq_true (rfl : mn = mn), he]; simp)
            rw [he] at HE
            clear he
            go_wp2_with fail
            refine wp_region_held_drew (S := fun W => Below w5.heap.size w5 W) (by kernel_rfl) ?_ (fun hHeld => ?_); (· (repeat (first | (with_reducible exact Below.refl _ _) | (with_reducible assumption) | (with_reducible refine Below.drew ?_) | (with_reducible refine Below.allocS ?_ _) | (with_reducible refine Below.setCell ?_ ?_ _) | (with_reducible refine Below.step ?_ (by assumption)) | (with_reducible refine Below.drewN' ?_ _))); (try any_goals (first | (with_reducible assumption) | (simp; done) | (simp; omega) | omega)))
            (first | (refine wpAnyH_take (i := 0) (oi := ⟨_, _, _, _, _, _⟩) (v := ?_) rfl (by kernel_rfl) (by kernel_rfl) (by kernel_rfl) (fun _ _ _ h => h) (Or.inl ⟨by rfl, ?_⟩) (by assumption) ?_; rotate_left 1; (· (intro w0 hSw; (try dsimp only at hSw); go_simp; (try with_reducible rfl)))) | (refine wpAnyH_take (i := 0) (oi := ⟨_, _, _, _, _, _⟩) (v := undef) rfl (by kernel_rfl) (by kernel_rfl) (by kernel_rfl) (fun _ _ _ h => h) (Or.inr ⟨by rfl, rfl⟩) (by assumption) ?_)); (try simp only [Act.put, List.setIfInBounds_toArray, List.set_cons_zero, List.set_cons_succ])
            (first | (refine wpAnyH_take (i := 1) (oi := ⟨_, _, _, _, _, _⟩) (v := ?_) rfl (by kernel_rfl) (by kernel_rfl) (by kernel_rfl) (fun _ _ _ h => h) (Or.inl ⟨by rfl, ?_⟩) (by assumption) ?_; rotate_left 1; (· (intro w0 hSw; (try dsimp only at hSw); go_simp; (try with_reducible rfl)))) | (refine wpAnyH_take (i := 1) (oi := ⟨_, _, _, _, _, _⟩) (v := undef) rfl (by kernel_rfl) (by kernel_rfl) (by kernel_rfl) (fun _ _ _ h => h) (Or.inr ⟨by rfl, rfl⟩) (by assumption) ?_)); (try simp only [Act.put, List.setIfInBounds_toArray, List.set_cons_zero, List.set_cons_succ])
            (first | (refine wpAnyH_take (i := 2) (oi := ⟨_, _, _, _, _, _⟩) (v := ?_) rfl (by kernel_rfl) (by kernel_rfl) (by kernel_rfl) (fun _ _ _ h => h) (Or.inl ⟨by rfl, ?_⟩) (by assumption) ?_; rotate_left 1; (· (intro w0 hSw; (try dsimp only at hSw); go_simp; (try with_reducible rfl)))) | (refine wpAnyH_take (i := 2) (oi := ⟨_, _, _, _, _, _⟩) (v := undef) rfl (by kernel_rfl) (by kernel_rfl) (by kernel_rfl) (fun _ _ _ h => h) (Or.inr ⟨by rfl, rfl⟩) (by assumption) ?_)); (try simp only [Act.put, List.setIfInBounds_toArray, List.set_cons_zero, List.set_cons_succ])
            (first | (refine wpAnyH_take (i := 3) (oi := ⟨_, _, _, _, _, _⟩) (v := ?_) rfl (by kernel_rfl) (by kernel_rfl) (by kernel_rfl) (fun _ _ _ h => h) (Or.inl ⟨by rfl, ?_⟩) (by assumption) ?_; rotate_left 1; (· (intro w0 hSw; (try dsimp only at hSw); go_simp; (try with_reducible rfl)))) | (refine wpAnyH_take (i := 3) (oi := ⟨_, _, _, _, _, _⟩) (v := undef) rfl (by kernel_rfl) (by kernel_rfl) (by kernel_rfl) (fun _ _ _ h => h) (Or.inr ⟨by rfl, rfl⟩) (by assumption) ?_)); (try simp only [Act.put, List.setIfInBounds_toArray, List.set_cons_zero, List.set_cons_succ])
            (first | (refine wpAnyH_take (i := 4) (oi := ⟨_, _, _, _, _, _⟩) (v := ?_) rfl (by kernel_rfl) (by kernel_rfl) (by kernel_rfl) (fun _ _ _ h => h) (Or.inl ⟨by rfl, ?_⟩) (by assumption) ?_; rotate_left 1; (· (intro w0 hSw; (try dsimp only at hSw); go_simp; (try with_reducible rfl)))) | (refine wpAnyH_take (i := 4) (oi := ⟨_, _, _, _, _, _⟩) (v := undef) rfl (by kernel_rfl) (by kernel_rfl) (by kernel_rfl) (fun _ _ _ h => h) (Or.inr ⟨by rfl, rfl⟩) (by assumption) ?_)); (try simp only [Act.put, List.setIfInBounds_toArray, List.set_cons_zero, List.set_cons_succ])
            (first | (refine wpAnyH_take (i := 5) (oi := ⟨_, _, _, _, _, _⟩) (v := ?_) rfl (by kernel_rfl) (by kernel_rfl) (by kernel_rfl) (fun _ _ _ h => h) (Or.inl ⟨by rfl, ?_⟩) (by assumption) ?_; rotate_left 1; (· (intro w0 hSw; (try dsimp only at hSw); go_simp; (try with_reducible rfl)))) | (refine wpAnyH_take (i := 5) (oi := ⟨_, _, _, _, _, _⟩) (v := undef) rfl (by kernel_rfl) (by kernel_rfl) (by kernel_rfl) (fun _ _ _ h => h) (Or.inr ⟨by rfl, rfl⟩) (by assumption) ?_)); (try simp only [Act.put, List.setIfInBounds_toArray, List.set_cons_zero, List.set_cons_succ])
            (first | (refine wpAnyH_take (i := 6) (oi := ⟨_, _, _, _, _, _⟩) (v := ?_) rfl (by kernel_rfl) (by kernel_rfl) (by kernel_rfl) (fun _ _ _ h => h) (Or.inl ⟨by rfl, ?_⟩) (by assumption) ?_; rotate_left 1; (· (intro w0 hSw; (try dsimp only at hSw); go_simp; (try with_reducible rfl)))) | (refine wpAnyH_take (i := 6) (oi := ⟨_, _, _, _, _, _⟩) (v := undef) rfl (by kernel_rfl) (by kernel_rfl) (by kernel_rfl) (fun _ _ _ h => h) (Or.inr ⟨by rfl, rfl⟩) (by assumption) ?_)); (try simp only [Act.put, List.setIfInBounds_toArray, List.set_cons_zero, List.set_cons_succ])
            (first | (refine wpAnyH_take (i := 7) (oi := ⟨_, _, _, _, _, _⟩) (v := ?_) rfl (by kernel_rfl) (by kernel_rfl) (by kernel_rfl) (fun _ _ _ h => h) (Or.inl ⟨by rfl, ?_⟩) (by assumption) ?_; rotate_left 1; (· (intro w0 hSw; (try dsimp only at hSw); go_simp; (try with_reducible rfl)))) | (refine wpAnyH_take (i := 7) (oi := ⟨_, _, _, _, _, _⟩) (v := undef) rfl (by kernel_rfl) (by kernel_rfl) (by kernel_rfl) (fun _ _ _ h => h) (Or.inr ⟨by rfl, rfl⟩) (by assumption) ?_)); (try simp only [Act.put, List.setIfInBounds_toArray, List.set_cons_zero, List.set_cons_succ])
            (first | (refine wpAnyH_take (i := 8) (oi := ⟨_, _, _, _, _, _⟩) (v := ?_) rfl (by kernel_rfl) (by kernel_rfl) (by kernel_rfl) (fun _ _ _ h => h) (Or.inl ⟨by rfl, ?_⟩) (by assumption) ?_; rotate_left 1; (· (intro w0 hSw; (try dsimp only at hSw); go_simp; (try with_reducible rfl)))) | (refine wpAnyH_take (i := 8) (oi := ⟨_, _, _, _, _, _⟩) (v := undef) rfl (by kernel_rfl) (by kernel_rfl) (by kernel_rfl) (fun _ _ _ h => h) (Or.inr ⟨by rfl, rfl⟩) (by assumption) ?_)); (try simp only [Act.put, List.setIfInBounds_toArray, List.set_cons_zero, List.set_cons_succ])
            (first | (refine wpAnyH_take (i := 9) (oi := ⟨_, _, _, _, _, _⟩) (v := ?_) rfl (by kernel_rfl) (by kernel_rfl) (by kernel_rfl) (fun _ _ _ h => h) (Or.inl ⟨by rfl, ?_⟩) (by assumption) ?_; rotate_left 1; (· (intro w0 hSw; (try dsimp only at hSw); go_simp; (try with_reducible rfl)))) | (refine wpAnyH_take (i := 9) (oi := ⟨_, _, _, _, _, _⟩) (v := undef) rfl (by kernel_rfl) (by kernel_rfl) (by kernel_rfl) (fun _ _ _ h => h) (Or.inr ⟨by rfl, rfl⟩) (by assumption) ?_)); (try simp only [Act.put, List.setIfInBounds_toArray, List.set_cons_zero, List.set_cons_succ])
            (first | (refine wpAnyH_take (i := 10) (oi := ⟨_, _, _, _, _, _⟩) (v := ?_) rfl (by kernel_rfl) (by kernel_rfl) (by kernel_rfl) (fun _ _ _ h => h) (Or.inl ⟨by rfl, ?_⟩) (by assumption) ?_; rotate_left 1; (· (intro w0 hSw; (try dsimp only at hSw); go_simp; (try with_reducible rfl)))) | (refine wpAnyH_take (i := 10) (oi := ⟨_, _, _, _, _, _⟩) (v := undef) rfl (by kernel_rfl) (by kernel_rfl) (by kernel_rfl) (fun _ _ _ h => h) (Or.inr ⟨by rfl, rfl⟩) (by assumption) ?_)); (try simp only [Act.put, List.setIfInBounds_toArray, List.set_cons_zero, List.set_cons_succ])
            (first | (refine wpAnyH_take (i := 11) (oi := ⟨_, _, _, _, _, _⟩) (v := ?_) rfl (by kernel_rfl) (by kernel_rfl) (by kernel_rfl) (fun _ _ _ h => h) (Or.inl ⟨by rfl, ?_⟩) (by assumption) ?_; rotate_left 1; (· (intro w0 hSw; (try dsimp only at hSw); go_simp; (try with_reducible rfl)))) | (refine wpAnyH_take (i := 11) (oi := ⟨_, _, _, _, _, _⟩) (v := undef) rfl (by kernel_rfl) (by kernel_rfl) (by kernel_rfl) (fun _ _ _ h => h) (Or.inr ⟨by rfl, rfl⟩) (by assumption) ?_)); (try simp only [Act.put, List.setIfInBounds_toArray, List.set_cons_zero, List.set_cons_succ])
            (first | (refine wpAnyH_take (i := 12) (oi := ⟨_, _, _, _, _, _⟩) (v := ?_) rfl (by kernel_rfl) (by kernel_rfl) (by kernel_rfl) (fun _ _ _ h => h) (Or.inl ⟨by rfl, ?_⟩) (by assumption) ?_; rotate_left 1; (· (intro w0 hSw; (try dsimp only at hSw); go_simp; (try with_reducible rfl)))) | (refine wpAnyH_take (i := 12) (oi := ⟨_, _, _, _, _, _⟩) (v := undef) rfl (by kernel_rfl) (by kernel_rfl) (by kernel_rfl) (fun _ _ _ h => h) (Or.inr ⟨by rfl, rfl⟩) (by assumption) ?_)); (try simp only [Act.put, List.setIfInBounds_toArray, List.set_cons_zero, List.set_cons_succ])
            (first | (refine wpAnyH_take (i := 13) (oi := ⟨_, _, _, _, _, _⟩) (v := ?_) rfl (by kernel_rfl) (by kernel_rfl) (by kernel_rfl) (fun _ _ _ h => h) (Or.inl ⟨by rfl, ?_⟩) (by assumption) ?_; rotate_left 1; (· (intro w0 hSw; (try dsimp only at hSw); go_simp; (try with_reducible rfl)))) | (refine wpAnyH_take (i := 13) (oi := ⟨_, _, _, _, _, _⟩) (v := undef) rfl (by kernel_rfl) (by kernel_rfl) (by kernel_rfl) (fun _ _ _ h => h) (Or.inr ⟨by rfl, rfl⟩) (by assumption) ?_)); (try simp only [Act.put, List.setIfInBounds_toArray, List.set_cons_zero, List.set_cons_succ])
            refine wpAnyH_ready (rs := [14]) (by kernel_rfl) (by simp) ?_
            refine AllReadyH.cons (o := ⟨_, _, _, _, _, _⟩) rfl (fun K hK => ?_) AllReadyH.nil
            go_simp
            refine (HE.out _ (by assumption)).mono ?_; rintro e wl ⟨rfl, hbl5⟩
            (try go_wp2_with fail)
            refine hK.out _ _ ?_ (fun hHeld => ?_)
            · exact Below.step (by assumption) hbl5
            clear hK K
            (try simp only [Act.put, List.setIfInBounds_toArray, List.set_cons_zero, List.set_cons_succ])
            (first | (refine wpAnyH_take (i := 15) (oi := ⟨_, _, _, _, _, _⟩) (v := ?_) rfl (by kernel_rfl) (by kernel_rfl) (by kernel_rfl) (fun _ _ _ h => h) (Or.inl ⟨by rfl, ?_⟩) (by assumption) ?_; rotate_left 1; (· (intro w0 hSw; (try dsimp only at hSw); go_simp; (try with_reducible rfl)))) | (refine wpAnyH_take (i := 15) (oi := ⟨_, _, _, _, _, _⟩) (v := undef) rfl (by kernel_rfl) (by kernel_rfl) (by kernel_rfl) (fun _ _ _ h => h) (Or.inr ⟨by rfl, rfl⟩) (by assumption) ?_)); (try simp only [Act.put, List.setIfInBounds_toArray, List.set_cons_zero, List.set_cons_succ])
            (first | (refine wpAnyH_take (i := 16) (oi := ⟨_, _, _, _, _, _⟩) (v := ?_) rfl (by kernel_rfl) (by kernel_rfl) (by kernel_rfl) (fun _ _ _ h => h) (Or.inl ⟨by rfl, ?_⟩) (by assumption) ?_; rotate_left 1; (· (intro w0 hSw; (try dsimp only at hSw); go_simp; (try with_reducible rfl)))) | (refine wpAnyH_take (i := 16) (oi := ⟨_, _, _, _, _, _⟩) (v := undef) rfl (by kernel_rfl) (by kernel_rfl) (by kernel_rfl) (fun _ _ _ h => h) (Or.inr ⟨by rfl, rfl⟩) (by assumption) ?_)); (try simp only [Act.put, List.setIfInBounds_toArray, List.set_cons_zero, List.set_cons_succ])
            (first | (refine wpAnyH_take (i := 17) (oi := ⟨_, _, _, _, _, _⟩) (v := ?_) rfl (by kernel_rfl) (by kernel_rfl) (by kernel_rfl) (fun _ _ _ h => h) (Or.inl ⟨by rfl, ?_⟩) (by assumption) ?_; rotate_left 1; (· (intro w0 hSw; (try dsimp only at hSw); go_simp; (try with_reducible rfl)))) | (refine wpAnyH_take (i := 17) (oi := ⟨_, _, _, _, _, _⟩) (v := undef) rfl (by kernel_rfl) (by kernel_rfl) (by kernel_rfl) (fun _ _ _ h => h) (Or.inr ⟨by rfl, rfl⟩) (by assumption) ?_)); (try simp only [Act.put, List.setIfInBounds_toArray, List.set_cons_zero, List.set_cons_succ])
            (first | (refine wpAnyH_take (i := 18) (oi := ⟨_, _, _, _, _, _⟩) (v := ?_) rfl (by kernel_rfl) (by kernel_rfl) (by kernel_rfl) (fun _ _ _ h => h) (Or.inl ⟨by rfl, ?_⟩) (by assumption) ?_; rotate_left 1; (· (intro w0 hSw; (try dsimp only at hSw); go_simp; (try with_reducible rfl)))) | (refine wpAnyH_take (i := 18) (oi := ⟨_, _, _, _, _, _⟩) (v := undef) rfl (by kernel_rfl) (by kernel_rfl) (by kernel_rfl) (fun _ _ _ h => h) (Or.inr ⟨by rfl, rfl⟩) (by assumption) ?_)); (try simp only [Act.put, List.setIfInBounds_toArray, List.set_cons_zero, List.set_cons_succ])
            (first | (refine wpAnyH_take (i := 19) (oi := ⟨_, _, _, _, _, _⟩) (v := ?_) rfl (by kernel_rfl) (by kernel_rfl) (by kernel_rfl) (fun _ _ _ h => h) (Or.inl ⟨by rfl, ?_⟩) (by assumption) ?_; rotate_left 1; (· (intro w0 hSw; (try dsimp only at hSw); go_simp; (try with_reducible rfl)))) | (refine wpAnyH_take (i := 19) (oi := ⟨_, _, _, _, _, _⟩) (v := undef) rfl (by kernel_rfl) (by kernel_rfl) (by kernel_rfl) (fun _ _ _ h => h) (Or.inr ⟨by rfl, rfl⟩) (by assumption) ?_)); (try simp only [Act.put, List.setIfInBounds_toArray, List.set_cons_zero, List.set_cons_succ])
            (first | (refine wpAnyH_take (i := 21) (oi := ⟨_, _, _, _, _, _⟩) (v := ?_) rfl (by kernel_rfl) (by kernel_rfl) (by kernel_rfl) (fun _ _ _ h => h) (Or.inl ⟨by rfl, ?_⟩) (by assumption) ?_; rotate_left 1; (· (intro w0 hSw; (try dsimp only at hSw); go_simp; (try with_reducible rfl)))) | (refine wpAnyH_take (i := 21) (oi := ⟨_, _, _, _, _, _⟩) (v := undef) rfl (by kernel_rfl) (by kernel_rfl) (by kernel_rfl) (fun _ _ _ h => h) (Or.inr ⟨by rfl, rfl⟩) (by assumption) ?_)); (try simp only [Act.put, List.setIfInBounds_toArray, List.set_cons_zero, List.set_cons_succ])
            (first | (refine wpAnyH_take (i := 22) (oi := ⟨_, _, _, _, _, _⟩) (v := ?_) rfl (by kernel_rfl) (by kernel_rfl) (by kernel_rfl) (fun _ _ _ h => h) (Or.inl ⟨by rfl, ?_⟩) (by assumption) ?_; rotate_left 1; (· (intro w0 hSw; (try dsimp only at hSw); go_simp; (try with_reducible rfl)))) | (refine wpAnyH_take (i := 22) (oi := ⟨_, _, _, _, _, _⟩) (v := undef) rfl (by kernel_rfl) (by kernel_rfl) (by kernel_rfl) (fun _ _ _ h => h) (Or.inr ⟨by rfl, rfl⟩) (by assumption) ?_)); (try simp only [Act.put, List.setIfInBounds_toArray, List.set_cons_zero, List.set_cons_succ])
            refine wpAnyH_ready (rs := [20]) (by kernel_rfl) (by simp) ?_
            refine AllReadyH.cons (o := ⟨_, _, _, _, _, _⟩) rfl (fun K hK => ?_) AllReadyH.nil
            go_simp
            refine (HC1.out A1 c1 _ (R7.out.step (by assumption))).mono ?_; rintro e wm ⟨A8, c8, rfl, r8, hbm⟩; have HR8 := Lib.hid r8; clear r8
            (try go_wp2_with fail)
            refine hK.out _ _ ?_ (fun hHeld => ?_)
            · exact Below.step (by assumption) hbm
            clear hK K
            (try simp only [Act.put, List.setIfInBounds_toArray, List.set_cons_zero, List.set_cons_succ])
            refine wpAnyH_ready (rs := [23]) (by kernel_rfl) (by simp) ?_
            refine AllReadyH.cons (o := ⟨_, _, _, _, _, _⟩) rfl (fun K hK => ?_) AllReadyH.nil
            go_simp
            refine (HO1.out A8 c8 _ HR8.out).mono ?_; rintro e wn ⟨rfl, hbn⟩
            (try go_wp2_with fail)
            refine hK.out _ _ ?_ (fun hHeld => ?_)
            · exact Below.step (by assumption) hbn
            clear hK K
            (try simp only [Act.put, List.setIfInBounds_toArray, List.set_cons_zero, List.set_cons_succ])
            (first | (refine wpAnyH_take (i := 24) (oi := ⟨_, _, _, _, _, _⟩) (v := ?_) rfl (by kernel_rfl) (by kernel_rfl) (by kernel_rfl) (fun _ _ _ h => h) (Or.inl ⟨by rfl, ?_⟩) (by assumption) ?_; rotate_left 1; (· (intro w0 hSw; (try dsimp only at hSw); go_simp; (try with_reducible rfl)))) | (refine wpAnyH_take (i := 24) (oi := ⟨_, _, _, _, _, _⟩) (v := undef) rfl (by kernel_rfl) (by kernel_rfl) (by kernel_rfl) (fun _ _ _ h => h) (Or.inr ⟨by rfl, rfl⟩) (by assumption) ?_)); (try simp only [Act.put, List.setIfInBounds_toArray, List.set_cons_zero, List.set_cons_succ])
            (first | (refine wpAnyH_take (i := 25) (oi := ⟨_, _, _, _, _, _⟩) (v := ?_) rfl (by kernel_rfl) (by kernel_rfl) (by kernel_rfl) (fun _ _ _ h => h) (Or.inl ⟨by rfl, ?_⟩) (by assumption) ?_; rotate_left 1; (· (intro w0 hSw; (try dsimp only at hSw); go_simp; (try with_reducible rfl)))) | (refine wpAnyH_take (i := 25) (oi := ⟨_, _, _, _, _, _⟩) (v := undef) rfl (by kernel_rfl) (by kernel_rfl) (by kernel_rfl) (fun _ _ _ h => h) (Or.inr ⟨by rfl, rfl⟩) (by assumption) ?_)); (try simp only [Act.put, List.setIfInBounds_toArray, List.set_cons_zero, List.set_cons_succ])
            refine wpAnyH_done (by kernel_rfl) ?_ _
            have hb7 : Below w5.heap.size w5 wn := by (repeat (first | exact Below.refl _ _ | refine Below.drew ?_ | refine Below.allocS ?_ _ | refine Below.step ?_ (by assumption) | refine Below.setCell ?_ (by simp <;> omega) _ | refine Below.drewN' ?_ _))
            have hb8 : Below w3.heap.size w3 wn := Below.step G5 hb7
            have HAG := Lib.hid (show ∃ B, B = agM s n tt from ⟨_, rfl⟩)
            obtain ⟨B, hB⟩ := HAG.out
            rw [← hB]
            have HAGM := Lib.hid hB.symm
            clear hB HAG HO1
            cases B
            · go_wp2
              go_roundw
              case rel => exact ⟨tt + 1, A5, c5, by rw [show tt + 1 - 1 = tt from rfl, HBS.out, HBT.out, HAGM.out]; simp [HMN.out], by rw [show tt + 1 - 1 = tt from rfl, HBS.out, HBT.out, HAGM.out]; exact R5.out.step hb7, by go_num, by omega, HTP.out, hb8⟩
              case measure => have := HTP.out; simp [intOf]; omega
            · go_wp2
              go_roundw
              case rel => exact ⟨tt + 1, Ab, cb, by rw [show tt + 1 - 1 = tt from rfl, HBS.out, HBT.out, HAGM.out]; simp [HBN.out], by rw [show tt + 1 - 1 = tt from rfl, HBS.out, HBT.out, HAGM.out]; exact R6.out.step hb7, by go_num, by omega, HTP.out, hb8⟩
              case measure => have := HTP.out; simp [intOf]; omega
        · have d1 : decide ((mn : Int) < (bn : Int)) = false := decide_eq_false (by omega)
          have d1n : decide (mn < bn) = false := decide_eq_false (by omega)
          have d2 : ((mn : Int) == (bn : Int)) = false := by simp; omega
          have d3 : decide ((mn : Int) = (bn : Int)) = false := decide_eq_false (by omega)
          have d3n : decide (mn = bn) = false := decide_eq_false (by omega)
          have d2n : (mn == bn) = false := by simp; omega
          have HBT := Lib.hid (show betL ml best = false by unfold betL; rw [← HMN.out, ← HBN.out, decide_eq_false h1, decide_eq_false h2]; rfl)
          clear h1 h2 HE
          go_wp2_with fail
          refine wp_region_held_drew (S := fun W => Below w5.heap.size w5 W) (by kernel_rfl) ?_ (fun hHeld => ?_); (· (repeat (first | (with_reducible exact Below.refl _ _) | (with_reducible assumption) | (with_reducible refine Below.drew ?_) | (with_reducible refine Below.allocS ?_ _) | (with_reducible refine Below.setCell ?_ ?_ _) | (with_reducible refine Below.step ?_ (by assumption)) | (with_reducible refine Below.drewN' ?_ _))); (try any_goals (first | (with_reducible assumption) | (simp; done) | (simp; omega) | omega)))
          (first | (refine wpAnyH_take (i := 0) (oi := ⟨_, _, _, _, _, _⟩) (v := ?_) rfl (by kernel_rfl) (by kernel_rfl) (by kernel_rfl) (fun _ _ _ h => h) (Or.inl ⟨by rfl, ?_⟩) (by assumption) ?_; rotate_left 1; (· (intro w0 hSw; (try dsimp only at hSw); go_simp; (try with_reducible rfl)))) | (refine wpAnyH_take (i := 0) (oi := ⟨_, _, _, _, _, _⟩) (v := undef) rfl (by kernel_rfl) (by kernel_rfl) (by kernel_rfl) (fun _ _ _ h => h) (Or.inr ⟨by rfl, rfl⟩) (by assumption) ?_)); (try simp only [Act.put, List.setIfInBounds_toArray, List.set_cons_zero, List.set_cons_succ])
          (first | (refine wpAnyH_take (i := 1) (oi := ⟨_, _, _, _, _, _⟩) (v := ?_) rfl (by kernel_rfl) (by kernel_rfl) (by kernel_rfl) (fun _ _ _ h => h) (Or.inl ⟨by rfl, ?_⟩) (by assumption) ?_; rotate_left 1; (· (intro w0 hSw; (try dsimp only at hSw); go_simp; (try with_reducible rfl)))) | (refine wpAnyH_take (i := 1) (oi := ⟨_, _, _, _, _, _⟩) (v := undef) rfl (by kernel_rfl) (by kernel_rfl) (by kernel_rfl) (fun _ _ _ h => h) (Or.inr ⟨by rfl, rfl⟩) (by assumption) ?_)); (try simp only [Act.put, List.setIfInBounds_toArray, List.set_cons_zero, List.set_cons_succ])
          (first | (refine wpAnyH_take (i := 2) (oi := ⟨_, _, _, _, _, _⟩) (v := ?_) rfl (by kernel_rfl) (by kernel_rfl) (by kernel_rfl) (fun _ _ _ h => h) (Or.inl ⟨by rfl, ?_⟩) (by assumption) ?_; rotate_left 1; (· (intro w0 hSw; (try dsimp only at hSw); go_simp; (try with_reducible rfl)))) | (refine wpAnyH_take (i := 2) (oi := ⟨_, _, _, _, _, _⟩) (v := undef) rfl (by kernel_rfl) (by kernel_rfl) (by kernel_rfl) (fun _ _ _ h => h) (Or.inr ⟨by rfl, rfl⟩) (by assumption) ?_)); (try simp only [Act.put, List.setIfInBounds_toArray, List.set_cons_zero, List.set_cons_succ])
          (first | (refine wpAnyH_take (i := 3) (oi := ⟨_, _, _, _, _, _⟩) (v := ?_) rfl (by kernel_rfl) (by kernel_rfl) (by kernel_rfl) (fun _ _ _ h => h) (Or.inl ⟨by rfl, ?_⟩) (by assumption) ?_; rotate_left 1; (· (intro w0 hSw; (try dsimp only at hSw); go_simp; (try with_reducible rfl)))) | (refine wpAnyH_take (i := 3) (oi := ⟨_, _, _, _, _, _⟩) (v := undef) rfl (by kernel_rfl) (by kernel_rfl) (by kernel_rfl) (fun _ _ _ h => h) (Or.inr ⟨by rfl, rfl⟩) (by assumption) ?_)); (try simp only [Act.put, List.setIfInBounds_toArray, List.set_cons_zero, List.set_cons_succ])
          (first | (refine wpAnyH_take (i := 4) (oi := ⟨_, _, _, _, _, _⟩) (v := ?_) rfl (by kernel_rfl) (by kernel_rfl) (by kernel_rfl) (fun _ _ _ h => h) (Or.inl ⟨by rfl, ?_⟩) (by assumption) ?_; rotate_left 1; (· (intro w0 hSw; (try dsimp only at hSw); go_simp; (try with_reducible rfl)))) | (refine wpAnyH_take (i := 4) (oi := ⟨_, _, _, _, _, _⟩) (v := undef) rfl (by kernel_rfl) (by kernel_rfl) (by kernel_rfl) (fun _ _ _ h => h) (Or.inr ⟨by rfl, rfl⟩) (by assumption) ?_)); (try simp only [Act.put, List.setIfInBounds_toArray, List.set_cons_zero, List.set_cons_succ])
          (first | (refine wpAnyH_take (i := 5) (oi := ⟨_, _, _, _, _, _⟩) (v := ?_) rfl (by kernel_rfl) (by kernel_rfl) (by kernel_rfl) (fun _ _ _ h => h) (Or.inl ⟨by rfl, ?_⟩) (by assumption) ?_; rotate_left 1; (· (intro w0 hSw; (try dsimp only at hSw); go_simp; (try with_reducible rfl)))) | (refine wpAnyH_take (i := 5) (oi := ⟨_, _, _, _, _, _⟩) (v := undef) rfl (by kernel_rfl) (by kernel_rfl) (by kernel_rfl) (fun _ _ _ h => h) (Or.inr ⟨by rfl, rfl⟩) (by assumption) ?_)); (try simp only [Act.put, List.setIfInBounds_toArray, List.set_cons_zero, List.set_cons_succ])
          (first | (refine wpAnyH_take (i := 6) (oi := ⟨_, _, _, _, _, _⟩) (v := ?_) rfl (by kernel_rfl) (by kernel_rfl) (by kernel_rfl) (fun _ _ _ h => h) (Or.inl ⟨by rfl, ?_⟩) (by assumption) ?_; rotate_left 1; (· (intro w0 hSw; (try dsimp only at hSw); go_simp; (try with_reducible rfl)))) | (refine wpAnyH_take (i := 6) (oi := ⟨_, _, _, _, _, _⟩) (v := undef) rfl (by kernel_rfl) (by kernel_rfl) (by kernel_rfl) (fun _ _ _ h => h) (Or.inr ⟨by rfl, rfl⟩) (by assumption) ?_)); (try simp only [Act.put, List.setIfInBounds_toArray, List.set_cons_zero, List.set_cons_succ])
          (first | (refine wpAnyH_take (i := 7) (oi := ⟨_, _, _, _, _, _⟩) (v := ?_) rfl (by kernel_rfl) (by kernel_rfl) (by kernel_rfl) (fun _ _ _ h => h) (Or.inl ⟨by rfl, ?_⟩) (by assumption) ?_; rotate_left 1; (· (intro w0 hSw; (try dsimp only at hSw); go_simp; (try with_reducible rfl)))) | (refine wpAnyH_take (i := 7) (oi := ⟨_, _, _, _, _, _⟩) (v := undef) rfl (by kernel_rfl) (by kernel_rfl) (by kernel_rfl) (fun _ _ _ h => h) (Or.inr ⟨by rfl, rfl⟩) (by assumption) ?_)); (try simp only [Act.put, List.setIfInBounds_toArray, List.set_cons_zero, List.set_cons_succ])
          (first | (refine wpAnyH_take (i := 8) (oi := ⟨_, _, _, _, _, _⟩) (v := ?_) rfl (by kernel_rfl) (by kernel_rfl) (by kernel_rfl) (fun _ _ _ h => h) (Or.inl ⟨by rfl, ?_⟩) (by assumption) ?_; rotate_left 1; (· (intro w0 hSw; (try dsimp only at hSw); go_simp; (try with_reducible rfl)))) | (refine wpAnyH_take (i := 8) (oi := ⟨_, _, _, _, _, _⟩) (v := undef) rfl (by kernel_rfl) (by kernel_rfl) (by kernel_rfl) (fun _ _ _ h => h) (Or.inr ⟨by rfl, rfl⟩) (by assumption) ?_)); (try simp only [Act.put, List.setIfInBounds_toArray, List.set_cons_zero, List.set_cons_succ])
          (first | (refine wpAnyH_take (i := 9) (oi := ⟨_, _, _, _, _, _⟩) (v := ?_) rfl (by kernel_rfl) (by kernel_rfl) (by kernel_rfl) (fun _ _ _ h => h) (Or.inl ⟨by rfl, ?_⟩) (by assumption) ?_; rotate_left 1; (· (intro w0 hSw; (try dsimp only at hSw); go_simp; (try with_reducible rfl)))) | (refine wpAnyH_take (i := 9) (oi := ⟨_, _, _, _, _, _⟩) (v := undef) rfl (by kernel_rfl) (by kernel_rfl) (by kernel_rfl) (fun _ _ _ h => h) (Or.inr ⟨by rfl, rfl⟩) (by assumption) ?_)); (try simp only [Act.put, List.setIfInBounds_toArray, List.set_cons_zero, List.set_cons_succ])
          (first | (refine wpAnyH_take (i := 10) (oi := ⟨_, _, _, _, _, _⟩) (v := ?_) rfl (by kernel_rfl) (by kernel_rfl) (by kernel_rfl) (fun _ _ _ h => h) (Or.inl ⟨by rfl, ?_⟩) (by assumption) ?_; rotate_left 1; (· (intro w0 hSw; (try dsimp only at hSw); go_simp; (try with_reducible rfl)))) | (refine wpAnyH_take (i := 10) (oi := ⟨_, _, _, _, _, _⟩) (v := undef) rfl (by kernel_rfl) (by kernel_rfl) (by kernel_rfl) (fun _ _ _ h => h) (Or.inr ⟨by rfl, rfl⟩) (by assumption) ?_)); (try simp only [Act.put, List.setIfInBounds_toArray, List.set_cons_zero, List.set_cons_succ])
          (first | (refine wpAnyH_take (i := 11) (oi := ⟨_, _, _, _, _, _⟩) (v := ?_) rfl (by kernel_rfl) (by kernel_rfl) (by kernel_rfl) (fun _ _ _ h => h) (Or.inl ⟨by rfl, ?_⟩) (by assumption) ?_; rotate_left 1; (· (intro w0 hSw; (try dsimp only at hSw); go_simp; (try with_reducible rfl)))) | (refine wpAnyH_take (i := 11) (oi := ⟨_, _, _, _, _, _⟩) (v := undef) rfl (by kernel_rfl) (by kernel_rfl) (by kernel_rfl) (fun _ _ _ h => h) (Or.inr ⟨by rfl, rfl⟩) (by assumption) ?_)); (try simp only [Act.put, List.setIfInBounds_toArray, List.set_cons_zero, List.set_cons_succ])
          (first | (refine wpAnyH_take (i := 12) (oi := ⟨_, _, _, _, _, _⟩) (v := ?_) rfl (by kernel_rfl) (by kernel_rfl) (by kernel_rfl) (fun _ _ _ h => h) (Or.inl ⟨by rfl, ?_⟩) (by assumption) ?_; rotate_left 1; (· (intro w0 hSw; (try dsimp only at hSw); go_simp; (try with_reducible rfl)))) | (refine wpAnyH_take (i := 12) (oi := ⟨_, _, _, _, _, _⟩) (v := undef) rfl (by kernel_rfl) (by kernel_rfl) (by kernel_rfl) (fun _ _ _ h => h) (Or.inr ⟨by rfl, rfl⟩) (by assumption) ?_)); (try simp only [Act.put, List.setIfInBounds_toArray, List.set_cons_zero, List.set_cons_succ])
          (first | (refine wpAnyH_take (i := 13) (oi := ⟨_, _, _, _, _, _⟩) (v := ?_) rfl (by kernel_rfl) (by kernel_rfl) (by kernel_rfl) (fun _ _ _ h => h) (Or.inl ⟨by rfl, ?_⟩) (by assumption) ?_; rotate_left 1; (· (intro w0 hSw; (try dsimp only at hSw); go_simp; (try with_reducible rfl)))) | (refine wpAnyH_take (i := 13) (oi := ⟨_, _, _, _, _, _⟩) (v := undef) rfl (by kernel_rfl) (by kernel_rfl) (by kernel_rfl) (fun _ _ _ h => h) (Or.inr ⟨by rfl, rfl⟩) (by assumption) ?_)); (try simp only [Act.put, List.setIfInBounds_toArray, List.set_cons_zero, List.set_cons_succ])
          (first | (refine wpAnyH_take (i := 14) (oi := ⟨_, _, _, _, _, _⟩) (v := ?_) rfl (by kernel_rfl) (by kernel_rfl) (by kernel_rfl) (fun _ _ _ h => h) (Or.inl ⟨by rfl, ?_⟩) (by assumption) ?_; rotate_left 1; (· (intro w0 hSw; (try dsimp only at hSw); go_simp; (try with_reducible rfl)))) | (refine wpAnyH_take (i := 14) (oi := ⟨_, _, _, _, _, _⟩) (v := undef) rfl (by kernel_rfl) (by kernel_rfl) (by kernel_rfl) (fun _ _ _ h => h) (Or.inr ⟨by rfl, rfl⟩) (by assumption) ?_)); (try simp only [Act.put, List.setIfInBounds_toArray, List.set_cons_zero, List.set_cons_succ])
          (first | (refine wpAnyH_take (i := 15) (oi := ⟨_, _, _, _, _, _⟩) (v := ?_) rfl (by kernel_rfl) (by kernel_rfl) (by kernel_rfl) (fun _ _ _ h => h) (Or.inl ⟨by rfl, ?_⟩) (by assumption) ?_; rotate_left 1; (· (intro w0 hSw; (try dsimp only at hSw); go_simp; (try with_reducible rfl)))) | (refine wpAnyH_take (i := 15) (oi := ⟨_, _, _, _, _, _⟩) (v := undef) rfl (by kernel_rfl) (by kernel_rfl) (by kernel_rfl) (fun _ _ _ h => h) (Or.inr ⟨by rfl, rfl⟩) (by assumption) ?_)); (try simp only [Act.put, List.setIfInBounds_toArray, List.set_cons_zero, List.set_cons_succ])
          (first | (refine wpAnyH_take (i := 16) (oi := ⟨_, _, _, _, _, _⟩) (v := ?_) rfl (by kernel_rfl) (by kernel_rfl) (by kernel_rfl) (fun _ _ _ h => h) (Or.inl ⟨by rfl, ?_⟩) (by assumption) ?_; rotate_left 1; (· (intro w0 hSw; (try dsimp only at hSw); go_simp; (try with_reducible rfl)))) | (refine wpAnyH_take (i := 16) (oi := ⟨_, _, _, _, _, _⟩) (v := undef) rfl (by kernel_rfl) (by kernel_rfl) (by kernel_rfl) (fun _ _ _ h => h) (Or.inr ⟨by rfl, rfl⟩) (by assumption) ?_)); (try simp only [Act.put, List.setIfInBounds_toArray, List.set_cons_zero, List.set_cons_succ])
          (first | (refine wpAnyH_take (i := 17) (oi := ⟨_, _, _, _, _, _⟩) (v := ?_) rfl (by kernel_rfl) (by kernel_rfl) (by kernel_rfl) (fun _ _ _ h => h) (Or.inl ⟨by rfl, ?_⟩) (by assumption) ?_; rotate_left 1; (· (intro w0 hSw; (try dsimp only at hSw); go_simp; (try with_reducible rfl)))) | (refine wpAnyH_take (i := 17) (oi := ⟨_, _, _, _, _, _⟩) (v := undef) rfl (by kernel_rfl) (by kernel_rfl) (by kernel_rfl) (fun _ _ _ h => h) (Or.inr ⟨by rfl, rfl⟩) (by assumption) ?_)); (try simp only [Act.put, List.setIfInBounds_toArray, List.set_cons_zero, List.set_cons_succ])
          (first | (refine wpAnyH_take (i := 18) (oi := ⟨_, _, _, _, _, _⟩) (v := ?_) rfl (by kernel_rfl) (by kernel_rfl) (by kernel_rfl) (fun _ _ _ h => h) (Or.inl ⟨by rfl, ?_⟩) (by assumption) ?_; rotate_left 1; (· (intro w0 hSw; (try dsimp only at hSw); go_simp; (try with_reducible rfl)))) | (refine wpAnyH_take (i := 18) (oi := ⟨_, _, _, _, _, _⟩) (v := undef) rfl (by kernel_rfl) (by kernel_rfl) (by kernel_rfl) (fun _ _ _ h => h) (Or.inr ⟨by rfl, rfl⟩) (by assumption) ?_)); (try simp only [Act.put, List.setIfInBounds_toArray, List.set_cons_zero, List.set_cons_succ])
          (first | (refine wpAnyH_take (i := 19) (oi := ⟨_, _, _, _, _, _⟩) (v := ?_) rfl (by kernel_rfl) (by kernel_rfl) (by kernel_rfl) (fun _ _ _ h => h) (Or.inl ⟨by rfl, ?_⟩) (by assumption) ?_; rotate_left 1; (· (intro w0 hSw; (try dsimp only at hSw); go_simp; (try with_reducible rfl)))) | (refine wpAnyH_take (i := 19) (oi := ⟨_, _, _, _, _, _⟩) (v := undef) rfl (by kernel_rfl) (by kernel_rfl) (by kernel_rfl) (fun _ _ _ h => h) (Or.inr ⟨by rfl, rfl⟩) (by assumption) ?_)); (try simp only [Act.put, List.setIfInBounds_toArray, List.set_cons_zero, List.set_cons_succ])
          (first | (refine wpAnyH_take (i := 20) (oi := ⟨_, _, _, _, _, _⟩) (v := ?_) rfl (by kernel_rfl) (by kernel_rfl) (by kernel_rfl) (fun _ _ _ h => h) (Or.inl ⟨by rfl, ?_⟩) (by assumption) ?_; rotate_left 1; (· (intro w0 hSw; (try dsimp only at hSw); go_simp; (try with_reducible rfl)))) | (refine wpAnyH_take (i := 20) (oi := ⟨_, _, _, _, _, _⟩) (v := undef) rfl (by kernel_rfl) (by kernel_rfl) (by kernel_rfl) (fun _ _ _ h => h) (Or.inr ⟨by rfl, rfl⟩) (by assumption) ?_)); (try simp only [Act.put, List.setIfInBounds_toArray, List.set_cons_zero, List.set_cons_succ])
          (first | (refine wpAnyH_take (i := 21) (oi := ⟨_, _, _, _, _, _⟩) (v := ?_) rfl (by kernel_rfl) (by kernel_rfl) (by kernel_rfl) (fun _ _ _ h => h) (Or.inl ⟨by rfl, ?_⟩) (by assumption) ?_; rotate_left 1; (· (intro w0 hSw; (try dsimp only at hSw); go_simp; (try with_reducible rfl)))) | (refine wpAnyH_take (i := 21) (oi := ⟨_, _, _, _, _, _⟩) (v := undef) rfl (by kernel_rfl) (by kernel_rfl) (by kernel_rfl) (fun _ _ _ h => h) (Or.inr ⟨by rfl, rfl⟩) (by assumption) ?_)); (try simp only [Act.put, List.setIfInBounds_toArray, List.set_cons_zero, List.set_cons_succ])
          (first | (refine wpAnyH_take (i := 22) (oi := ⟨_, _, _, _, _, _⟩) (v := ?_) rfl (by kernel_rfl) (by kernel_rfl) (by kernel_rfl) (fun _ _ _ h => h) (Or.inl ⟨by rfl, ?_⟩) (by assumption) ?_; rotate_left 1; (· (intro w0 hSw; (try dsimp only at hSw); go_simp; (try with_reducible rfl)))) | (refine wpAnyH_take (i := 22) (oi := ⟨_, _, _, _, _, _⟩) (v := undef) rfl (by kernel_rfl) (by kernel_rfl) (by kernel_rfl) (fun _ _ _ h => h) (Or.inr ⟨by rfl, rfl⟩) (by assumption) ?_)); (try simp only [Act.put, List.setIfInBounds_toArray, List.set_cons_zero, List.set_cons_succ])
          (first | (refine wpAnyH_take (i := 23) (oi := ⟨_, _, _, _, _, _⟩) (v := ?_) rfl (by kernel_rfl) (by kernel_rfl) (by kernel_rfl) (fun _ _ _ h => h) (Or.inl ⟨by rfl, ?_⟩) (by assumption) ?_; rotate_left 1; (· (intro w0 hSw; (try dsimp only at hSw); go_simp; (try with_reducible rfl)))) | (refine wpAnyH_take (i := 23) (oi := ⟨_, _, _, _, _, _⟩) (v := undef) rfl (by kernel_rfl) (by kernel_rfl) (by kernel_rfl) (fun _ _ _ h => h) (Or.inr ⟨by rfl, rfl⟩) (by assumption) ?_)); (try simp only [Act.put, List.setIfInBounds_toArray, List.set_cons_zero, List.set_cons_succ])
          (first | (refine wpAnyH_take (i := 24) (oi := ⟨_, _, _, _, _, _⟩) (v := ?_) rfl (by kernel_rfl) (by kernel_rfl) (by kernel_rfl) (fun _ _ _ h => h) (Or.inl ⟨by rfl, ?_⟩) (by assumption) ?_; rotate_left 1; (· (intro w0 hSw; (try dsimp only at hSw); go_simp; (try with_reducible rfl)))) | (refine wpAnyH_take (i := 24) (oi := ⟨_, _, _, _, _, _⟩) (v := undef) rfl (by kernel_rfl) (by kernel_rfl) (by kernel_rfl) (fun _ _ _ h => h) (Or.inr ⟨by rfl, rfl⟩) (by assumption) ?_)); (try simp only [Act.put, List.setIfInBounds_toArray, List.set_cons_zero, List.set_cons_succ])
          (first | (refine wpAnyH_take (i := 25) (oi := ⟨_, _, _, _, _, _⟩) (v := ?_) rfl (by kernel_rfl) (by kernel_rfl) (by kernel_rfl) (fun _ _ _ h => h) (Or.inl ⟨by rfl, ?_⟩) (by assumption) ?_; rotate_left 1; (· (intro w0 hSw; (try dsimp only at hSw); go_simp; (try with_reducible rfl)))) | (refine wpAnyH_take (i := 25) (oi := ⟨_, _, _, _, _, _⟩) (v := undef) rfl (by kernel_rfl) (by kernel_rfl) (by kernel_rfl) (fun _ _ _ h => h) (Or.inr ⟨by rfl, rfl⟩) (by assumption) ?_)); (try simp only [Act.put, List.setIfInBounds_toArray, List.set_cons_zero, List.set_cons_succ])
          refine wpAnyH_done (by kernel_rfl) ?_ _
          have hb7 : Below w5.heap.size w5 w5.drew := by (repeat (first | exact Below.refl _ _ | refine Below.drew ?_ | refine Below.allocS ?_ _ | refine Below.step ?_ (by assumption) | refine Below.setCell ?_ (by simp <;> omega) _ | refine Below.drewN' ?_ _))
          have hb8 : Below w3.heap.size w3 w5.drew := Below.step G5 hb7
          go_wp2
          go_roundw
          case rel => exact ⟨tt + 1, Ab, cb, by rw [show tt + 1 - 1 = tt from rfl, HBS.out, HBT.out]; simp [HBN.out], by rw [show tt + 1 - 1 = tt from rfl, HBS.out, HBT.out]; exact R6.out.step hb7, by go_num, by omega, HTP.out, hb8⟩
          case measure => have := HTP.out; simp [intOf]; omega
      · obtain rfl : tt = P := by omega
        have u1 : decide ((tt : Int) < (tt : Int)) = false := decide_eq_false (by omega)
        go_wp2
        go_ret2
        first
          | exact ⟨.inl ⟨HH.out, Ab, ⟨cb, by rw [HEQ.out (by trivial), ← HBN.out] <;> rfl⟩, by rw [HEQ.out (by trivial)]; exact RB.out⟩, hbw⟩
          | exact ⟨.inl ⟨HH.out, Ab, cb, by rw [HEQ.out (by trivial), ← HBN.out] <;> rfl, by rw [HEQ.out (by trivial)]; exact RB.out⟩, hbw⟩
  · have H1' : Hid (∀ W, Below w.heap.size w W → Calls Try.prog 66 #[.agg #[.slice x.A x.xs.length x.ca, .int .i64 x.e], .slice A l.length cap] W fun e w' => e = .returned (.tuple #[.slice none 0 0, .int .i64 (stErr x l)]) ∧ Below W.heap.size W w') :=
      Lib.hid (fun W hb => (H1.out W hb).mono (by
        rintro e w' ⟨h | h, hb'⟩
        · exact absurd h.1 h0
        · exact ⟨h.2, hb'⟩))
    have hc := stErr_cases x l
    have HH := Lib.hid (show ∀ e w', e = .returned (.tuple #[.slice none 0 0, .int .i64 (stErr x l)]) → RLeastR x l e w' from fun e w' h => Or.inr ⟨h0, h⟩)
    clear H1
    generalize stErr x l = E at *
    rcases hc with rfl | rfl | rfl
    · exact absurd rfl h0
    all_goals
      clear h0
      go_enter Try.func39, Try.ntmps39
      go_wp2_with fail
      refine (H1'.out _ (by (repeat (first | exact Below.refl _ _ | refine Below.drew ?_ | refine Below.allocS ?_ _ | refine Below.step ?_ (by assumption) | refine Below.setCell ?_ (by simp <;> omega) _ | refine Below.drewN' ?_ _)))).mono ?_
      rintro e w1 ⟨rfl, hb1⟩
      have x1_0_0 : w1.cell? ⟨w.heap.size, 0, none⟩ = some (.slice x.A x.xs.length x.ca) := keep_cell hb1 (by simp [go_sem, *])
      have x1_0_1 : w1.cell? ⟨w.heap.size, 1, none⟩ = some (.int .i64 x.e) := keep_cell hb1 (by simp [go_sem, *])
      have y1_0 : w.heap.size < w1.heap.size := cell?_lt x1_0_0
      have g1 : Below w.heap.size w w1 := by (repeat (first | exact Below.refl _ _ | refine Below.drew ?_ | refine Below.allocS ?_ _ | refine Below.step ?_ (by assumption) | refine Below.setCell ?_ (by simp <;> omega) _ | refine Below.drewN' ?_ _))
      clear hb1
      go_wp2
      go_ret2
      exact ⟨HH.out _ _ rfl, by (repeat (first | exact Below.refl _ _ | refine Below.drew ?_ | refine Below.allocS ?_ _ | refine Below.step ?_ (by assumption) | refine Below.setCell ?_ (by simp <;> omega) _ | refine Below.drewN' ?_ _))⟩
end Go.Proofs.Ytbcabckokmjelaa
namespace Go.Proofs.Ytbcabckokmjelaa
open Go.RowKit Go.Deep
set_option linter.unusedVariables false
set_option linter.unusedSimpArgs false
set_option maxRecDepth 100000 in
set_option maxHeartbeats 4000000 in
theorem rMost_c (x : Tb) (l : List Tr) (A : Option Addr) (cap : Nat) (w : World) (hx : TbAt w x) (hl : l.length ≤ cap) (hm : cap ≤ maxLen) (hr : RdL w w.heap.size trE 5 A l) (ht : ∀ t ∈ l, TrAt w t) :
    Calls Try.prog 40 #[.agg #[.slice x.A x.xs.length x.ca, .int .i64 x.e], .slice A l.length cap] w fun e w' => RMostR x l e w' ∧ Below w.heap.size w w' := by
  have H1 := Lib.hid (fun W (hb : Below w.heap.size w W) => differences_c x l A cap W (hx.step hb) hl hm (hr.step hb) (fun t h => (ht t h).step hb))
  clear hx hl hm hr ht
  by_cases h0 : stErr x l = 0
  · have H1' : Hid (∀ W, Below w.heap.size w W → Calls Try.prog 66 #[.agg #[.slice x.A x.xs.length x.ca, .int .i64 x.e], .slice A l.length cap] W fun e w' => ∃ A' c', e = .returned (.tuple #[.slice A' l.length c', .int .i64 0]) ∧ RdL w' w'.heap.size snE 2 A' (snL x l) ∧ Below W.heap.size W w') :=
      Lib.hid (fun W hb => (H1.out W hb).mono (by
        rintro e w' ⟨h | h, hb'⟩
        · obtain ⟨-, A', c', h1, h2⟩ := h; exact ⟨A', c', h1, h2, hb'⟩
        · exact absurd h0 h.1))
    have hok := (stErr_ok h0).1
    have hO := okAll_ok hok
    have hn12 : l.length ≤ 12 := by have := hO.n; omega
    have hn1 : 1 ≤ l.length := by have := hO.n; omega
    have hln : (snL x l).length = l.length := by unfold snL; rw [List.length_map]
    have he := hO.e
    have HA : Hid (∀ (A' : Option Addr) c' W, RdL W W.heap.size snE 2 A' (snL x l) → Calls Try.prog 67 #[.slice A' l.length c', .int .i64 x.e] W fun e w' => e = .returned (.bool (agB (azR (wdL x l)))) ∧ RdL w' w'.heap.size snE 2 A' (snL x l) ∧ Below W.heap.size W w') :=
      Lib.hid (fun A' c' W hr => by
        have := ragree_c (snL x l) l.length hln (by omega) (snL_ok hok) x.e ⟨he.1, by omega⟩ A' c' W hr
        rw [snL_wid] at this
        exact this.mono fun e w' h => ⟨h.1, hr.step h.2, h.2⟩)
    have HO : Hid (∀ (k : Nat) (A' : Option Addr) c' W, RdL W W.heap.size snE 2 A' (pickK (snL x l) sn0 k l.length) → Calls Try.prog 67 #[.slice A' (pickK (snL x l) sn0 k l.length).length c', .int .i64 x.e] W fun e w' => e = .returned (.bool (agM (wdL x l) l.length k)) ∧ Below W.heap.size W w') :=
      Lib.hid (fun k A' c' W hr => by
        have := ragree_c (pickK (snL x l) sn0 k l.length) _ rfl (by have := pickK_len (snL x l) sn0 k l.length; omega) (fun s hs => snL_ok hok s (pick_sn _ s hs)) x.e ⟨he.1, by omega⟩ A' c' W hr
        rw [pick_map] at this
        exact this)
    have HC : Hid (∀ (k : Nat), k < 2 ^ l.length → ∀ (A' : Option Addr) c' W, RdL W W.heap.size snE 2 A' (snL x l) → Calls Try.prog 76 #[.slice A' l.length c', .int .i64 k] W fun e w' => ∃ A2 c2, e = .returned (.slice A2 (pickK (snL x l) sn0 k l.length).length c2) ∧ RdL w' w'.heap.size snE 2 A2 (pickK (snL x l) sn0 k l.length) ∧ Below W.heap.size W w') :=
      Lib.hid (fun k hk A' c' W hr => chosen_c (snL x l) l.length hln (by omega) _ (Nat.lt_of_lt_of_le hk (Nat.le_trans (Nat.pow_le_pow_right (by omega) hn12) (by decide))) A' c' W hr)
    have HH := Lib.hid h0
    clear H1 h0 hok hO hln
    unfold RMostR bMs
    generalize l.length = n at *
    generalize wdL x l = s at *
    generalize snL x l = sn at *
    clear he
    have hp2 : 2 ^ n ≤ 2 ^ 12 := Nat.pow_le_pow_right (by omega) hn12
    have hp0 : 1 ≤ 2 ^ n := Nat.one_le_two_pow
    obtain ⟨P, hP⟩ : ∃ P : Nat, P = 2 ^ n := ⟨_, rfl⟩
    have i1 : ((2 : Int) ^ n) = (P : Int) := by rw [hP, Int.natCast_pow]; rfl
    rw [← hP] at hp2 hp0 HC
    have HPP := Lib.hid hP
    have HM : Hid (∀ m W, m < P → Calls Try.prog 74 #[.int .i64 m] W fun e w' => (∃ A c, e = .returned (.slice A (memL m n).length c) ∧ RdL w' w'.heap.size inE 1 A ((memL m n).map Int.ofNat)) ∧ Below W.heap.size W w') :=
      Lib.hid (fun m W h => members_c m n (by omega) (by rw [← hP]; exact h) W)
    have ww1 : IntKind.i64.wrap ((2 : Int) ^ n) = (P : Int) := by rw [i1]; exact IntWalk.i64_in _ (by omega)
    have ww2 : IntKind.i64.wrap ((P : Int) - 1) = ((P - 1 : Nat) : Int) := (IntWalk.i64_in _ (by omega)).trans (by omega)
    have kn : 0 ≤ (n : Int) := by omega
    clear hP i1
    go_enter Try.func40, Try.ntmps40
    go_wp2_with fail
    refine (H1'.out _ (by (repeat (first | exact Below.refl _ _ | refine Below.drew ?_ | refine Below.allocS ?_ _ | refine Below.step ?_ (by assumption) | refine Below.setCell ?_ (by simp <;> omega) _ | refine Below.drewN' ?_ _)))).mono ?_
    rintro e w1 ⟨A1, c1, rfl, r1, hb1⟩
    have x1_0_0 : w1.cell? ⟨w.heap.size, 0, none⟩ = some (.slice x.A x.xs.length x.ca) := keep_cell hb1 (by simp [go_sem, *])
    have x1_0_1 : w1.cell? ⟨w.heap.size, 1, none⟩ = some (.int .i64 x.e) := keep_cell hb1 (by simp [go_sem, *])
    have y1_0 : w.heap.size < w1.heap.size := cell?_lt x1_0_0
    have g1 : Below w.heap.size w w1 := by (repeat (first | exact Below.refl _ _ | refine Below.drew ?_ | refine Below.allocS ?_ _ | refine Below.step ?_ (by assumption) | refine Below.setCell ?_ (by simp <;> omega) _ | refine Below.drewN' ?_ _))
    clear hb1
    have R1 := Lib.hid r1
    clear r1
    have G3 := g1
    have R4 := R1
    have cz1 : w1.cell? ⟨w.heap.size, 1, none⟩ = some (.int .i64 x.e) := by simp [go_sem, *]
    go_wp2
    go_loopw [8, 9] (fun u i wr => ∃ (tt : Nat) (Ab : Option Addr) (cb : Nat), u = .slice Ab (bestL betM (fun m => agM s n m) n [] (tt - 1)).length cb ∧ RdL wr wr.heap.size inE 1 Ab ((bestL betM (fun m => agM s n m) n [] (tt - 1)).map Int.ofNat) ∧ i = .int .i64 tt ∧ 1 ≤ tt ∧ tt ≤ P ∧ Below w1.heap.size w1 wr) (fun _ i _ => P - (intOf i).toNat)
    case atStart => exact ⟨1, none, 0, rfl, RdL.nil, rfl, by omega, by omega, Below.refl _ _⟩
    case round =>
      rename World => V
      obtain ⟨tt, Ab, cb, rfl, rb, rfl, ht1, htP, hbV⟩ := hrel
      have RB := Lib.hid rb
      have RV := Lib.hid (R4.out.step hbV)
      have hbw : Below w.heap.size w V := Below.low G3 hbV (by have := G3.size; omega)
      have cv1 : V.cell? ⟨w.heap.size, 1, none⟩ = some (.int .i64 x.e) := keep_cell hbV cz1
      have hbl := best_len (bt := betM) (dis := (fun m => agM s n m)) (n := n) (init := []) (Nat.zero_le _) (tt - 1)
      have HBS : Hid ((bestL betM (fun m => agM s n m) n [] tt) = if (betM (memL tt n) (bestL betM (fun m => agM s n m) n [] (tt - 1)) && agM s n tt) = true then memL tt n else (bestL betM (fun m => agM s n m) n [] (tt - 1))) := Lib.hid (by
        obtain ⟨t, rfl⟩ : ∃ t, tt = t + 1 := ⟨tt - 1, by omega⟩
        rfl)
      have HEQ : Hid (tt = P → (bestL betM (fun m => agM s n m) n [] (2 ^ n - 1)) = (bestL betM (fun m => agM s n m) n [] (tt - 1))) := Lib.hid (fun h => by rw [h, HPP.out])
      clear rb
      generalize (bestL betM (fun m => agM s n m) n [] (tt - 1)) = best at *
      obtain ⟨bn, hbn⟩ : ∃ bn, bn = best.length := ⟨_, rfl⟩
      have HBN := Lib.hid hbn
      rw [← hbn] at hbl ⊢
      clear hbn
      by_cases hlt : tt < P
      · have u1 : decide ((tt : Int) < (P : Int)) = true := decide_eq_true (by omega)
        have u3 : IntKind.i64.wrap ((tt : Int) + 1) = (tt : Int) + 1 := IntWalk.i64_in _ (by omega)
        have HTP := Lib.hid hlt
        have HM1 := Lib.hid (fun W => HM.out tt W hlt)
        have HC1 := Lib.hid (HC.out tt hlt)
        have HO1 := Lib.hid (HO.out tt)
        have hml := memL_len tt n
        generalize pickK sn sn0 tt n = pk at *
        obtain ⟨pn, hpn⟩ : ∃ pn, pn = pk.length := ⟨_, rfl⟩
        rw [← hpn] at HC1 HO1
        clear hpn hlt
        generalize memL tt n = ml at *
        obtain ⟨mn, hmn⟩ : ∃ mn, mn = ml.length := ⟨_, rfl⟩
        have HMN := Lib.hid hmn
        rw [← hmn] at HM1 hml
        clear hmn
        go_wp2_with fail
        refine (HM1.out _).mono ?_
        rintro e w5 ⟨⟨A5, c5, rfl, r5⟩, hb5⟩
        have R5 := Lib.hid r5
        have R6 := Lib.hid (RB.out.step hb5)
        have R7 := Lib.hid (RV.out.step hb5)
        have cw1 : w5.cell? ⟨w.heap.size, 1, none⟩ = some (.int .i64 x.e) := keep_cell hb5 cv1
        have p1 : ∀ W, Below w5.heap.size w5 W → W.cell? ⟨w.heap.size, 1, none⟩ = some (.int .i64 x.e) := fun W hb => keep_cell hb cw1
        have G5 : Below w1.heap.size w1 w5 := Below.step hbV hb5
        have HE := Lib.hid (fun W (hb : Below w5.heap.size w5 W) => Earlier_c ml best mn bn HMN.out.symm HBN.out.symm (by omega) (by omega) A5 Ab c5 cb W (R5.out.step hb) (R6.out.step hb))
        clear r5 hb5 cv1
        by_cases h1 : bn < mn
        · have d1 : decide ((bn : Int) < (mn : Int)) = true := decide_eq_true (by omega)
          have d1n : decide (bn < mn) = true := decide_eq_true (by omega)
          have d1' : decide ((mn : Int) > (bn : Int)) = true := decide_eq_true (by omega)
          have HBT := Lib.hid (show betM ml best = true by unfold betM; rw [← HMN.out, ← HBN.out, decide_eq_true h1]; rfl)
          clear h1
          go_wp2_with fail
          refine wp_region_held_drew (S := fun W => Below w5.heap.size w5 W) (by kernel_rfl) ?_ (fun hHeld => ?_); (· (repeat (first | (with_reducible exact Below.refl _ _) | (with_reducible assumption) | (with_reducible refine Below.drew ?_) | (with_reducible refine Below.allocS ?_ _) | (with_reducible refine Below.setCell ?_ ?_ _) | (with_reducible refine Below.step ?_ (by assumption)) | (with_reducible refine Below.drewN' ?_ _))); (try any_goals (first | (with_reducible assumption) | (simp; done) | (simp; omega) | omega)))
          (first | (refine wpAnyH_take (i := 0) (oi := ⟨_, _, _, _, _, _⟩) (v := ?_) rfl (by kernel_rfl) (by kernel_rfl) (by kernel_rfl) (fun _ _ _ h => h) (Or.inl ⟨by rfl, ?_⟩) (by assumption) ?_; rotate_left 1; (· (intro w0 hSw; (try dsimp only at hSw); go_simp; (try with_reducible rfl)))) | (refine wpAnyH_take (i := 0) (oi := ⟨_, _, _, _, _, _⟩) (v := undef) rfl (by kernel_rfl) (by kernel_rfl) (by kernel_rfl) (fun _ _ _ h => h) (Or.inr ⟨by rfl, rfl⟩) (by assumption) ?_)); (try simp only [Act.put, List.setIfInBounds_toArray, List.set_cons_zero, List.set_cons_succ])
          (first | (refine wpAnyH_take (i := 1) (oi := ⟨_, _, _, _, _, _⟩) (v := ?_) rfl (by kernel_rfl) (by kernel_rfl) (by kernel_rfl) (fun _ _ _ h => h) (Or.inl ⟨by rfl, ?_⟩) (by assumption) ?_; rotate_left 1; (· (intro w0 hSw; (try dsimp only at hSw); go_simp; (try with_reducible rfl)))) | (refine wpAnyH_take (i := 1) (oi := ⟨_, _, _, _, _, _⟩) (v := undef) rfl (by kernel_rfl) (by kernel_rfl) (by kernel_rfl) (fun _ _ _ h => h) (Or.inr ⟨by rfl, rfl⟩) (by assumption) ?_)); (try simp only [Act.put, List.setIfInBounds_toArray, List.set_cons_zero, List.set_cons_succ])
          (first | (refine wpAnyH_take (i := 2) (oi := ⟨_, _, _, _, _, _⟩) (v := ?_) rfl (by kernel_rfl) (by kernel_rfl) (by kernel_rfl) (fun _ _ _ h => h) (Or.inl ⟨by rfl, ?_⟩) (by assumption) ?_; rotate_left 1; (· (intro w0 hSw; (try dsimp only at hSw); go_simp; (try with_reducible rfl)))) | (refine wpAnyH_take (i := 2) (oi := ⟨_, _, _, _, _, _⟩) (v := undef) rfl (by kernel_rfl) (by kernel_rfl) (by kernel_rfl) (fun _ _ _ h => h) (Or.inr ⟨by rfl, rfl⟩) (by assumption) ?_)); (try simp only [Act.put, List.setIfInBounds_toArray, List.set_cons_zero, List.set_cons_succ])
          (first | (refine wpAnyH_take (i := 3) (oi := ⟨_, _, _, _, _, _⟩) (v := ?_) rfl (by kernel_rfl) (by kernel_rfl) (by kernel_rfl) (fun _ _ _ h => h) (Or.inl ⟨by rfl, ?_⟩) (by assumption) ?_; rotate_left 1; (· (intro w0 hSw; (try dsimp only at hSw); go_simp; (try with_reducible rfl)))) | (refine wpAnyH_take (i := 3) (oi := ⟨_, _, _, _, _, _⟩) (v := undef) rfl (by kernel_rfl) (by kernel_rfl) (by kernel_rfl) (fun _ _ _ h => h) (Or.inr ⟨by rfl, rfl⟩) (by assumption) ?_)); (try simp only [Act.put, List.setIfInBounds_toArray, List.set_cons_zero, List.set_cons_succ])
          (first | (refine wpAnyH_take (i := 4) (oi := ⟨_, _, _, _, _, _⟩) (v := ?_) rfl (by kernel_rfl) (by kernel_rfl) (by kernel_rfl) (fun _ _ _ h => h) (Or.inl ⟨by rfl, ?_⟩) (by assumption) ?_; rotate_left 1; (· (intro w0 hSw; (try dsimp only at hSw); go_simp; (try with_reducible rfl)))) | (refine wpAnyH_take (i := 4) (oi := ⟨_, _, _, _, _, _⟩) (v := undef) rfl (by kernel_rfl) (by kernel_rfl) (by kernel_rfl) (fun _ _ _ h => h) (Or.inr ⟨by rfl, rfl⟩) (by assumption) ?_)); (try simp only [Act.put, List.setIfInBounds_toArray, List.set_cons_zero, List.set_cons_succ])
          (first | (refine wpAnyH_take (i := 5) (oi := ⟨_, _, _, _, _, _⟩) (v := ?_) rfl (by kernel_rfl) (by kernel_rfl) (by kernel_rfl) (fun _ _ _ h => h) (Or.inl ⟨by rfl, ?_⟩) (by assumption) ?_; rotate_left 1; (· (intro w0 hSw; (try dsimp only at hSw); go_simp; (try with_reducible rfl)))) | (refine wpAnyH_take (i := 5) (oi := ⟨_, _, _, _, _, _⟩) (v := undef) rfl (by kernel_rfl) (by kernel_rfl) (by kernel_rfl) (fun _ _ _ h => h) (Or.inr ⟨by rfl, rfl⟩) (by assumption) ?_)); (try simp only [Act.put, List.setIfInBounds_toArray, List.set_cons_zero, List.set_cons_succ])
          (first | (refine wpAnyH_take (i := 6) (oi := ⟨_, _, _, _, _, _⟩) (v := ?_) rfl (by kernel_rfl) (by kernel_rfl) (by kernel_rfl) (fun _ _ _ h => h) (Or.inl ⟨by rfl, ?_⟩) (by assumption) ?_; rotate_left 1; (· (intro w0 hSw; (try dsimp only at hSw); go_simp; (try with_reducible rfl)))) | (refine wpAnyH_take (i := 6) (oi := ⟨_, _, _, _, _, _⟩) (v := undef) rfl (by kernel_rfl) (by kernel_rfl) (by kernel_rfl) (fun _ _ _ h => h) (Or.inr ⟨by rfl, rfl⟩) (by assumption) ?_)); (try simp only [Act.put, List.setIfInBounds_toArray, List.set_cons_zero, List.set_cons_succ])
          (first | (refine wpAnyH_take (i := 7) (oi := ⟨_, _, _, _, _, _⟩) (v := ?_) rfl (by kernel_rfl) (by kernel_rfl) (by kernel_rfl) (fun _ _ _ h => h) (Or.inl ⟨by rfl, ?_⟩) (by assumption) ?_; rotate_left 1; (· (intro w0 hSw; (try dsimp only at hSw); go_simp; (try with_reducible rfl)))) | (refine wpAnyH_take (i := 7) (oi := ⟨_, _, _, _, _, _⟩) (v := undef) rfl (by kernel_rfl) (by kernel_rfl) (by kernel_rfl) (fun _ _ _ h => h) (Or.inr ⟨by rfl, rfl⟩) (by assumption) ?_)); (try simp only [Act.put, List.setIfInBounds_toArray, List.set_cons_zero, List.set_cons_succ])
          (first | (refine wpAnyH_take (i := 8) (oi := ⟨_, _, _, _, _, _⟩) (v := ?_) rfl (by kernel_rfl) (by kernel_rfl) (by kernel_rfl) (fun _ _ _ h => h) (Or.inl ⟨by rfl, ?_⟩) (by assumption) ?_; rotate_left 1; (· (intro w0 hSw; (try dsimp only at hSw); go_simp; (try with_reducible rfl)))) | (refine wpAnyH_take (i := 8) (oi := ⟨_, _, _, _, _, _⟩) (v := undef) rfl (by kernel_rfl) (by kernel_rfl) (by kernel_rfl) (fun _ _ _ h => h) (Or.inr ⟨by rfl, rfl⟩) (by assumption) ?_)); (try simp only [Act.put, List.setIfInBounds_toArray, List.set_cons_zero, List.set_cons_succ])
          (first | (refine wpAnyH_take (i := 9) (oi := ⟨_, _, _, _, _, _⟩) (v := ?_) rfl (by kernel_rfl) (by kernel_rfl) (by kernel_rfl) (fun _ _ _ h => h) (Or.inl ⟨by rfl, ?_⟩) (by assumption) ?_; rotate_left 1; (· (intro w0 hSw; (try dsimp only at hSw); go_simp; (try with_reducible rfl)))) | (refine wpAnyH_take (i := 9) (oi := ⟨_, _, _, _, _, _⟩) (v := undef) rfl (by kernel_rfl) (by kernel_rfl) (by kernel_rfl) (fun _ _ _ h => h) (Or.inr ⟨by rfl, rfl⟩) (by assumption) ?_)); (try simp only [Act.put, List.setIfInBounds_toArray, List.set_cons_zero, List.set_cons_succ])
          (first | (refine wpAnyH_take (i := 10) (oi := ⟨_, _, _, _, _, _⟩) (v := ?_) rfl (by kernel_rfl) (by kernel_rfl) (by kernel_rfl) (fun _ _ _ h => h) (Or.inl ⟨by rfl, ?_⟩) (by assumption) ?_; rotate_left 1; (· (intro w0 hSw; (try dsimp only at hSw); go_simp; (try with_reducible rfl)))) | (refine wpAnyH_take (i := 10) (oi := ⟨_, _, _, _, _, _⟩) (v := undef) rfl (by kernel_rfl) (by kernel_rfl) (by kernel_rfl) (fun _ _ _ h => h) (Or.inr ⟨by rfl, rfl⟩) (by assumption) ?_)); (try simp only [Act.put, List.setIfInBounds_toArray, List.set_cons_zero, List.set_cons_succ])
          (first | (refine wpAnyH_take (i := 11) (oi := ⟨_, _, _, _, _, _⟩) (v := ?_) rfl (by kernel_rfl) (by kernel_rfl) (by kernel_rfl) (fun _ _ _ h => h) (Or.inl ⟨by rfl, ?_⟩) (by assumption) ?_; rotate_left 1; (· (intro w0 hSw; (try dsimp only at hSw); go_simp; (try with_reducible rfl)))) | (refine wpAnyH_take (i := 11) (oi := ⟨_, _, _, _, _, _⟩) (v := undef) rfl (by kernel_rfl) (by kernel_rfl) (by kernel_rfl) (fun _ _ _ h => h) (Or.inr ⟨by rfl, rfl⟩) (by assumption) ?_)); (try simp only [Act.put, List.setIfInBounds_toArray, List.set_cons_zero, List.set_cons_succ])
          (first | (refine wpAnyH_take (i := 12) (oi := ⟨_, _, _, _, _, _⟩) (v := ?_) rfl (by kernel_rfl) (by kernel_rfl) (by kernel_rfl) (fun _ _ _ h => h) (Or.inl ⟨by rfl, ?_⟩) (by assumption) ?_; rotate_left 1; (· (intro w0 hSw; (try dsimp only at hSw); go_simp; (try with_reducible rfl)))) | (refine wpAnyH_take (i := 12) (oi := ⟨_, _, _, _, _, _⟩) (v := undef) rfl (by kernel_rfl) (by kernel_rfl) (by kernel_rfl) (fun _ _ _ h => h) (Or.inr ⟨by rfl, rfl⟩) (by assumption) ?_)); (try simp only [Act.put, List.setIfInBounds_toArray, List.set_cons_zero, List.set_cons_succ])
          (first | (refine wpAnyH_take (i := 13) (oi := ⟨_, _, _, _, _, _⟩) (v := ?_) rfl (by kernel_rfl) (by kernel_rfl) (by kernel_rfl) (fun _ _ _ h => h) (Or.inl ⟨by rfl, ?_⟩) (by assumption) ?_; rotate_left 1; (· (intro w0 hSw; (try dsimp only at hSw); go_simp; (try with_reducible rfl)))) | (refine wpAnyH_take (i := 13) (oi := ⟨_, _, _, _, _, _⟩) (v := undef) rfl (by kernel_rfl) (by kernel_rfl) (by kernel_rfl) (fun _ _ _ h => h) (Or.inr ⟨by rfl, rfl⟩) (by assumption) ?_)); (try simp only [Act.put, List.setIfInBounds_toArray, List.set_cons_zero, List.set_cons_succ])
          (first | (refine wpAnyH_take (i := 14) (oi := ⟨_, _, _, _, _, _⟩) (v := ?_) rfl (by kernel_rfl) (by kernel_rfl) (by kernel_rfl) (fun _ _ _ h => h) (Or.inl ⟨by rfl, ?_⟩) (by assumption) ?_; rotate_left 1; (· (intro w0 hSw; (try dsimp only at hSw); go_simp; (try with_reducible rfl)))) | (refine wpAnyH_take (i := 14) (oi := ⟨_, _, _, _, _, _⟩) (v := undef) rfl (by kernel_rfl) (by kernel_rfl) (by kernel_rfl) (fun _ _ _ h => h) (Or.inr ⟨by rfl, rfl⟩) (by assumption) ?_)); (try simp only [Act.put, List.setIfInBounds_toArray, List.set_cons_zero, List.set_cons_succ])
          (first | (refine wpAnyH_take (i := 15) (oi := ⟨_, _, _, _, _, _⟩) (v := ?_) rfl (by kernel_rfl) (by kernel_rfl) (by kernel_rfl) (fun _ _ _ h => h) (Or.inl ⟨by rfl, ?_⟩) (by assumption) ?_; rotate_left 1; (· (intro w0 hSw; (try dsimp only at hSw); go_simp; (try with_reducible rfl)))) | (refine wpAnyH_take (i := 15) (oi := ⟨_, _, _, _, _, _⟩) (v := undef) rfl (by kernel_rfl) (by kernel_rfl) (by kernel_rfl) (fun _ _ _ h => h) (Or.inr ⟨by rfl, rfl⟩) (by assumption) ?_)); (try simp only [Act.put, List.setIfInBounds_toArray, List.set_cons_zero, List.set_cons_succ])
          (first | (refine wpAnyH_take (i := 16) (oi := ⟨_, _, _, _, _, _⟩) (v := ?_) rfl (by kernel_rfl) (by kernel_rfl) (by kernel_rfl) (fun _ _ _ h => h) (Or.inl ⟨by rfl, ?_⟩) (by assumption) ?_; rotate_left 1; (· (intro w0 hSw; (try dsimp only at hSw); go_simp; (try with_reducible rfl)))) | (refine wpAnyH_take (i := 16) (oi := ⟨_, _, _, _, _, _⟩) (v := undef) rfl (by kernel_rfl) (by kernel_rfl) (by kernel_rfl) (fun _ _ _ h => h) (Or.inr ⟨by rfl, rfl⟩) (by assumption) ?_)); (try simp only [Act.put, List.setIfInBounds_toArray, List.set_cons_zero, List.set_cons_succ])
          (first | (refine wpAnyH_take (i := 17) (oi := ⟨_, _, _, _, _, _⟩) (v := ?_) rfl (by kernel_rfl) (by kernel_rfl) (by kernel_rfl) (fun _ _ _ h => h) (Or.inl ⟨by rfl, ?_⟩) (by assumption) ?_; rotate_left 1; (· (intro w0 hSw; (try dsimp only at hSw); go_simp; (try with_reducible rfl)))) | (refine wpAnyH_take (i := 17) (oi := ⟨_, _, _, _, _, _⟩) (v := undef) rfl (by kernel_rfl) (by kernel_rfl) (by kernel_rfl) (fun _ _ _ h => h) (Or.inr ⟨by rfl, rfl⟩) (by assumption) ?_)); (try simp only [Act.put, List.setIfInBounds_toArray, List.set_cons_zero, List.set_cons_succ])
          (first | (refine wpAnyH_take (i := 18) (oi := ⟨_, _, _, _, _, _⟩) (v := ?_) rfl (by kernel_rfl) (by kernel_rfl) (by kernel_rfl) (fun _ _ _ h => h) (Or.inl ⟨by rfl, ?_⟩) (by assumption) ?_; rotate_left 1; (· (intro w0 hSw; (try dsimp only at hSw); go_simp; (try with_reducible rfl)))) | (refine wpAnyH_take (i := 18) (oi := ⟨_, _, _, _, _, _⟩) (v := undef) rfl (by kernel_rfl) (by kernel_rfl) (by kernel_rfl) (fun _ _ _ h => h) (Or.inr ⟨by rfl, rfl⟩) (by assumption) ?_)); (try simp only [Act.put, List.setIfInBounds_toArray, List.set_cons_zero, List.set_cons_succ])
          (first | (refine wpAnyH_take (i := 19) (oi := ⟨_, _, _, _, _, _⟩) (v := ?_) rfl (by kernel_rfl) (by kernel_rfl) (by kernel_rfl) (fun _ _ _ h => h) (Or.inl ⟨by rfl, ?_⟩) (by assumption) ?_; rotate_left 1; (· (intro w0 hSw; (try dsimp only at hSw); go_simp; (try with_reducible rfl)))) | (refine wpAnyH_take (i := 19) (oi := ⟨_, _, _, _, _, _⟩) (v := undef) rfl (by kernel_rfl) (by kernel_rfl) (by kernel_rfl) (fun _ _ _ h => h) (Or.inr ⟨by rfl, rfl⟩) (by assumption) ?_)); (try simp only [Act.put, List.setIfInBounds_toArray, List.set_cons_zero, List.set_cons_succ])
          (first | (refine wpAnyH_take (i := 21) (oi := ⟨_, _, _, _, _, _⟩) (v := ?_) rfl (by kernel_rfl) (by kernel_rfl) (by kernel_rfl) (fun _ _ _ h => h) (Or.inl ⟨by rfl, ?_⟩) (by assumption) ?_; rotate_left 1; (· (intro w0 hSw; (try dsimp only at hSw); go_simp; (try with_reducible rfl)))) | (refine wpAnyH_take (i := 21) (oi := ⟨_, _, _, _, _, _⟩) (v := undef) rfl (by kernel_rfl) (by kernel_rfl) (by kernel_rfl) (fun _ _ _ h => h) (Or.inr ⟨by rfl, rfl⟩) (by assumption) ?_)); (try simp only [Act.put, List.setIfInBounds_toArray, List.set_cons_zero, List.set_cons_succ])
          (first | (refine wpAnyH_take (i := 22) (oi := ⟨_, _, _, _, _, _⟩) (v := ?_) rfl (by kernel_rfl) (by kernel_rfl) (by kernel_rfl) (fun _ _ _ h => h) (Or.inl ⟨by rfl, ?_⟩) (by assumption) ?_; rotate_left 1; (· (intro w0 hSw; (try dsimp only at hSw); go_simp; (try with_reducible rfl)))) | (refine wpAnyH_take (i := 22) (oi := ⟨_, _, _, _, _, _⟩) (v := undef) rfl (by kernel_rfl) (by kernel_rfl) (by kernel_rfl) (fun _ _ _ h => h) (Or.inr ⟨by rfl, rfl⟩) (by assumption) ?_)); (try simp only [Act.put, List.setIfInBounds_toArray, List.set_cons_zero, List.set_cons_succ])
          refine wpAnyH_ready (rs := [20]) (by kernel_rfl) (by simp) ?_
          refine AllReadyH.cons (o := ⟨_, _, _, _, _, _⟩) rfl (fun K hK => ?_) AllReadyH.nil
          go_simp
          refine (HC1.out A1 c1 _ (R7.out.step (by assumption))).mono ?_; rintro e wm ⟨A8, c8, rfl, r8, hbm⟩; have HR8 := Lib.hid r8; clear r8
          (try go_wp2_with fail)
          refine hK.out _ _ ?_ (fun hHeld => ?_)
          · exact Below.step (by assumption) hbm
          clear hK K
          (try simp only [Act.put, List.setIfInBounds_toArray, List.set_cons_zero, List.set_cons_succ])
          refine wpAnyH_ready (rs := [23]) (by kernel_rfl) (by simp) ?_
          refine AllReadyH.cons (o := ⟨_, _, _, _, _, _⟩) rfl (fun K hK => ?_) AllReadyH.nil
          go_simp
          refine (HO1.out A8 c8 _ HR8.out).mono ?_; rintro e wn ⟨rfl, hbn⟩
          (try go_wp2_with fail)
          refine hK.out _ _ ?_ (fun hHeld => ?_)
          · exact Below.step (by assumption) hbn
          clear hK K
          (try simp only [Act.put, List.setIfInBounds_toArray, List.set_cons_zero, List.set_cons_succ])
          (first | (refine wpAnyH_take (i := 24) (oi := ⟨_, _, _, _, _, _⟩) (v := ?_) rfl (by kernel_rfl) (by kernel_rfl) (by kernel_rfl) (fun _ _ _ h => h) (Or.inl ⟨by rfl, ?_⟩) (by assumption) ?_; rotate_left 1; (· (intro w0 hSw; (try dsimp only at hSw); go_simp; (try with_reducible rfl)))) | (refine wpAnyH_take (i := 24) (oi := ⟨_, _, _, _, _, _⟩) (v := undef) rfl (by kernel_rfl) (by kernel_rfl) (by kernel_rfl) (fun _ _ _ h => h) (Or.inr ⟨by rfl, rfl⟩) (by assumption) ?_)); (try simp only [Act.put, List.setIfInBounds_toArray, List.set_cons_zero, List.set_cons_succ])
          refine wpAnyH_done (by kernel_rfl) ?_ _
          have hb7 : Below w5.heap.size w5 wn := by (repeat (first | exact Below.refl _ _ | refine Below.drew ?_ | refine Below.allocS ?_ _ | refine Below.step ?_ (by assumption) | refine Below.setCell ?_ (by simp <;> omega) _ | refine Below.drewN' ?_ _))
          have hb8 : Below w1.heap.size w1 wn := Below.step G5 hb7
          have HAG := Lib.hid (show ∃ B, B = agM s n tt from ⟨_, rfl⟩)
          obtain ⟨B, hB⟩ := HAG.out
          rw [← hB]
          have HAGM := Lib.hid hB.symm
          clear hB HAG HO1
          cases B
          · go_wp2
            go_roundw
            case rel => exact ⟨tt + 1, Ab, cb, by rw [show tt + 1 - 1 = tt from rfl, HBS.out, HBT.out, HAGM.out]; simp [HBN.out], by rw [show tt + 1 - 1 = tt from rfl, HBS.out, HBT.out, HAGM.out]; exact R6.out.step hb7, by go_num, by omega, HTP.out, hb8⟩
            case measure => have := HTP.out; simp [intOf]; omega
          · go_wp2
            go_roundw
            case rel => exact ⟨tt + 1, A5, c5, by rw [show tt + 1 - 1 = tt from rfl, HBS.out, HBT.out, HAGM.out]; simp [HMN.out], by rw [show tt + 1 - 1 = tt from rfl, HBS.out, HBT.out, HAGM.out]; exact R5.out.step hb7, by go_num, by omega, HTP.out, hb8⟩
            case measure => have := HTP.out; simp [intOf]; omega
        by_cases h2 : mn = bn
        · subst h2
          cases he : earl ml best
          · have d1 : decide ((mn : Int) < (mn : Int)) = false := decide_eq_false (by omega)
            have d1n : decide (mn < mn) = false := decide_eq_false (by omega)
            have d1' : decide ((mn : Int) > (mn : Int)) = false := decide_eq_false (by omega)
            have d2 : ((mn : Int) == (mn : Int)) = true := by simp
            have HBT := Lib.hid (show betM ml best = false by unfold betM; rw [← HMN.out, ← HBN.out, decide_eq_true (rfl : mn = mn), he]; simp)
            rw [he] at HE
            clear he
            go_wp2_with fail
            refine wp_region_held_drew (S := fun W => Below w5.heap.size w5 W) (by kernel_rfl) ?_ (fun hHeld => ?_); (· (repeat (first | (with_reducible exact Below.refl _ _) | (with_reducible assumption) | (with_reducible refine Below.drew ?_) | (with_reducible refine Below.allocS ?_ _) | (with_reducible refine Below.setCell ?_ ?_ _) | (with_reducible refine Below.step ?_ (by assumption)) | (with_reducible refine Below.drewN' ?_ _))); (try any_goals (first | (with_reducible assumption) | (simp; done) | (simp; omega) | omega)))
            (first | (refine wpAnyH_take (i := 0) (oi := ⟨_, _, _, _, _, _⟩) (v := ?_) rfl (by kernel_rfl) (by kernel_rfl) (by kernel_rfl) (fun _ _ _ h => h) (Or.inl ⟨by rfl, ?_⟩) (by assumption) ?_; rotate_left 1; (· (intro w0 hSw; (try dsimp only at hSw); go_simp; (try with_reducible rfl)))) | (refine wpAnyH_take (i := 0) (oi := ⟨_, _, _, _, _, _⟩) (v := undef) rfl (by kernel_rfl) (by kernel_rfl) (by kernel_rfl) (fun _ _ _ h => h) (Or.inr ⟨by rfl, rfl⟩) (by assumption) ?_)); (try simp only [Act.put, List.setIfInBounds_toArray, List.set_cons_zero, List.set_cons_succ])
            (first | (refine wpAnyH_take (i := 1) (oi := ⟨_, _, _, _, _, _⟩) (v := ?_) rfl (by kernel_rfl) (by kernel_rfl) (by kernel_rfl) (fun _ _ _ h => h) (Or.inl ⟨by rfl, ?_⟩) (by assumption) ?_; rotate_left 1; (· (intro w0 hSw; (try dsimp only at hSw); go_simp; (try with_reducible rfl)))) | (refine wpAnyH_take (i := 1) (oi := ⟨_, _, _, _, _, _⟩) (v := undef) rfl (by kernel_rfl) (by kernel_rfl) (by kernel_rfl) (fun _ _ _ h => h) (Or.inr ⟨by rfl, rfl⟩) (by assumption) ?_)); (try simp only [Act.put, List.setIfInBounds_toArray, List.set_cons_zero, List.set_cons_succ])
            (first | (refine wpAnyH_take (i := 2) (oi := ⟨_, _, _, _, _, _⟩) (v := ?_) rfl (by kernel_rfl) (by kernel_rfl) (by kernel_rfl) (fun _ _ _ h => h) (Or.inl ⟨by rfl, ?_⟩) (by assumption) ?_; rotate_left 1; (· (intro w0 hSw; (try dsimp only at hSw); go_simp; (try with_reducible rfl)))) | (refine wpAnyH_take (i := 2) (oi := ⟨_, _, _, _, _, _⟩) (v := undef) rfl (by kernel_rfl) (by kernel_rfl) (by kernel_rfl) (fun _ _ _ h => h) (Or.inr ⟨by rfl, rfl⟩) (by assumption) ?_)); (try simp only [Act.put, List.setIfInBounds_toArray, List.set_cons_zero, List.set_cons_succ])
            (first | (refine wpAnyH_take (i := 3) (oi := ⟨_, _, _, _, _, _⟩) (v := ?_) rfl (by kernel_rfl) (by kernel_rfl) (by kernel_rfl) (fun _ _ _ h => h) (Or.inl ⟨by rfl, ?_⟩) (by assumption) ?_; rotate_left 1; (· (intro w0 hSw; (try dsimp only at hSw); go_simp; (try with_reducible rfl)))) | (refine wpAnyH_take (i := 3) (oi := ⟨_, _, _, _, _, _⟩) (v := undef) rfl (by kernel_rfl) (by kernel_rfl) (by kernel_rfl) (fun _ _ _ h => h) (Or.inr ⟨by rfl, rfl⟩) (by assumption) ?_)); (try simp only [Act.put, List.setIfInBounds_toArray, List.set_cons_zero, List.set_cons_succ])
            (first | (refine wpAnyH_take (i := 4) (oi := ⟨_, _, _, _, _, _⟩) (v := ?_) rfl (by kernel_rfl) (by kernel_rfl) (by kernel_rfl) (fun _ _ _ h => h) (Or.inl ⟨by rfl, ?_⟩) (by assumption) ?_; rotate_left 1; (· (intro w0 hSw; (try dsimp only at hSw); go_simp; (try with_reducible rfl)))) | (refine wpAnyH_take (i := 4) (oi := ⟨_, _, _, _, _, _⟩) (v := undef) rfl (by kernel_rfl) (by kernel_rfl) (by kernel_rfl) (fun _ _ _ h => h) (Or.inr ⟨by rfl, rfl⟩) (by assumption) ?_)); (try simp only [Act.put, List.setIfInBounds_toArray, List.set_cons_zero, List.set_cons_succ])
            (first | (refine wpAnyH_take (i := 5) (oi := ⟨_, _, _, _, _, _⟩) (v := ?_) rfl (by kernel_rfl) (by kernel_rfl) (by kernel_rfl) (fun _ _ _ h => h) (Or.inl ⟨by rfl, ?_⟩) (by assumption) ?_; rotate_left 1; (· (intro w0 hSw; (try dsimp only at hSw); go_simp; (try with_reducible rfl)))) | (refine wpAnyH_take (i := 5) (oi := ⟨_, _, _, _, _, _⟩) (v := undef) rfl (by kernel_rfl) (by kernel_rfl) (by kernel_rfl) (fun _ _ _ h => h) (Or.inr ⟨by rfl, rfl⟩) (by assumption) ?_)); (try simp only [Act.put, List.setIfInBounds_toArray, List.set_cons_zero, List.set_cons_succ])
            (first | (refine wpAnyH_take (i := 6) (oi := ⟨_, _, _, _, _, _⟩) (v := ?_) rfl (by kernel_rfl) (by kernel_rfl) (by kernel_rfl) (fun _ _ _ h => h) (Or.inl ⟨by rfl, ?_⟩) (by assumption) ?_; rotate_left 1; (· (intro w0 hSw; (try dsimp only at hSw); go_simp; (try with_reducible rfl)))) | (refine wpAnyH_take (i := 6) (oi := ⟨_, _, _, _, _, _⟩) (v := undef) rfl (by kernel_rfl) (by kernel_rfl) (by kernel_rfl) (fun _ _ _ h => h) (Or.inr ⟨by rfl, rfl⟩) (by assumption) ?_)); (try simp only [Act.put, List.setIfInBounds_toArray, List.set_cons_zero, List.set_cons_succ])
            (first | (refine wpAnyH_take (i := 7) (oi := ⟨_, _, _, _, _, _⟩) (v := ?_) rfl (by kernel_rfl) (by kernel_rfl) (by kernel_rfl) (fun _ _ _ h => h) (Or.inl ⟨by rfl, ?_⟩) (by assumption) ?_; rotate_left 1; (· (intro w0 hSw; (try dsimp only at hSw); go_simp; (try with_reducible rfl)))) | (refine wpAnyH_take (i := 7) (oi := ⟨_, _, _, _, _, _⟩) (v := undef) rfl (by kernel_rfl) (by kernel_rfl) (by kernel_rfl) (fun _ _ _ h => h) (Or.inr ⟨by rfl, rfl⟩) (by assumption) ?_)); (try simp only [Act.put, List.setIfInBounds_toArray, List.set_cons_zero, List.set_cons_succ])
            (first | (refine wpAnyH_take (i := 8) (oi := ⟨_, _, _, _, _, _⟩) (v := ?_) rfl (by kernel_rfl) (by kernel_rfl) (by kernel_rfl) (fun _ _ _ h => h) (Or.inl ⟨by rfl, ?_⟩) (by assumption) ?_; rotate_left 1; (· (intro w0 hSw; (try dsimp only at hSw); go_simp; (try with_reducible rfl)))) | (refine wpAnyH_take (i := 8) (oi := ⟨_, _, _, _, _, _⟩) (v := undef) rfl (by kernel_rfl) (by kernel_rfl) (by kernel_rfl) (fun _ _ _ h => h) (Or.inr ⟨by rfl, rfl⟩) (by assumption) ?_)); (try simp only [Act.put, List.setIfInBounds_toArray, List.set_cons_zero, List.set_cons_succ])
            (first | (refine wpAnyH_take (i := 9) (oi := ⟨_, _, _, _, _, _⟩) (v := ?_) rfl (by kernel_rfl) (by kernel_rfl) (by kernel_rfl) (fun _ _ _ h => h) (Or.inl ⟨by rfl, ?_⟩) (by assumption) ?_; rotate_left 1; (· (intro w0 hSw; (try dsimp only at hSw); go_simp; (try with_reducible rfl)))) | (refine wpAnyH_take (i := 9) (oi := ⟨_, _, _, _, _, _⟩) (v := undef) rfl (by kernel_rfl) (by kernel_rfl) (by kernel_rfl) (fun _ _ _ h => h) (Or.inr ⟨by rfl, rfl⟩) (by assumption) ?_)); (try simp only [Act.put, List.setIfInBounds_toArray, List.set_cons_zero, List.set_cons_succ])
            (first | (refine wpAnyH_take (i := 10) (oi := ⟨_, _, _, _, _, _⟩) (v := ?_) rfl (by kernel_rfl) (by kernel_rfl) (by kernel_rfl) (fun _ _ _ h => h) (Or.inl ⟨by rfl, ?_⟩) (by assumption) ?_; rotate_left 1; (· (intro w0 hSw; (try dsimp only at hSw); go_simp; (try with_reducible rfl)))) | (refine wpAnyH_take (i := 10) (oi := ⟨_, _, _, _, _, _⟩) (v := undef) rfl (by kernel_rfl) (by kernel_rfl) (by kernel_rfl) (fun _ _ _ h => h) (Or.inr ⟨by rfl, rfl⟩) (by assumption) ?_)); (try simp only [Act.put, List.setIfInBounds_toArray, List.set_cons_zero, List.set_cons_succ])
            (first | (refine wpAnyH_take (i := 11) (oi := ⟨_, _, _, _, _, _⟩) (v := ?_) rfl (by kernel_rfl) (by kernel_rfl) (by kernel_rfl) (fun _ _ _ h => h) (Or.inl ⟨by rfl, ?_⟩) (by assumption) ?_; rotate_left 1; (· (intro w0 hSw; (try dsimp only at hSw); go_simp; (try with_reducible rfl)))) | (refine wpAnyH_take (i := 11) (oi := ⟨_, _, _, _, _, _⟩) (v := undef) rfl (by kernel_rfl) (by kernel_rfl) (by kernel_rfl) (fun _ _ _ h => h) (Or.inr ⟨by rfl, rfl⟩) (by assumption) ?_)); (try simp only [Act.put, List.setIfInBounds_toArray, List.set_cons_zero, List.set_cons_succ])
            (first | (refine wpAnyH_take (i := 12) (oi := ⟨_, _, _, _, _, _⟩) (v := ?_) rfl (by kernel_rfl) (by kernel_rfl) (by kernel_rfl) (fun _ _ _ h => h) (Or.inl ⟨by rfl, ?_⟩) (by assumption) ?_; rotate_left 1; (· (intro w0 hSw; (try dsimp only at hSw); go_simp; (try with_reducible rfl)))) | (refine wpAnyH_take (i := 12) (oi := ⟨_, _, _, _, _, _⟩) (v := undef) rfl (by kernel_rfl) (by kernel_rfl) (by kernel_rfl) (fun _ _ _ h => h) (Or.inr ⟨by rfl, rfl⟩) (by assumption) ?_)); (try simp only [Act.put, List.setIfInBounds_toArray, List.set_cons_zero, List.set_cons_succ])
            (first | (refine wpAnyH_take (i := 13) (oi := ⟨_, _, _, _, _, _⟩) (v := ?_) rfl (by kernel_rfl) (by kernel_rfl) (by kernel_rfl) (fun _ _ _ h => h) (Or.inl ⟨by rfl, ?_⟩) (by assumption) ?_; rotate_left 1; (· (intro w0 hSw; (try dsimp only at hSw); go_simp; (try with_reducible rfl)))) | (refine wpAnyH_take (i := 13) (oi := ⟨_, _, _, _, _, _⟩) (v := undef) rfl (by kernel_rfl) (by kernel_rfl) (by kernel_rfl) (fun _ _ _ h => h) (Or.inr ⟨by rfl, rfl⟩) (by assumption) ?_)); (try simp only [Act.put, List.setIfInBounds_toArray, List.set_cons_zero, List.set_cons_succ])
            refine wpAnyH_ready (rs := [14]) (by kernel_rfl) (by simp) ?_
            refine AllReadyH.cons (o := ⟨_, _, _, _, _, _⟩) rfl (fun K hK => ?_) AllReadyH.nil
            go_simp
            refine (HE.out _ (by assumption)).mono ?_; rintro e wl ⟨rfl, hbl5⟩
            (try go_wp2_with fail)
            refine hK.out _ _ ?_ (fun hHeld => ?_)
            · exact Below.step (by assumption) hbl5
            clear hK K
            (try simp only [Act.put, List.setIfInBounds_toArray, List.set_cons_zero, List.set_cons_succ])
            (first | (refine wpAnyH_take (i := 15) (oi := ⟨_, _, _, _, _, _⟩) (v := ?_) rfl (by kernel_rfl) (by kernel_rfl) (by kernel_rfl) (fun _ _ _ h => h) (Or.inl ⟨by rfl, ?_⟩) (by assumption) ?_; rotate_left 1; (· (intro w0 hSw; (try dsimp only at hSw); go_simp; (try with_reducible rfl)))) | (refine wpAnyH_take (i := 15) (oi := ⟨_, _, _, _, _, _⟩) (v := undef) rfl (by kernel_rfl) (by kernel_rfl) (by kernel_rfl) (fun _ _ _ h => h) (Or.inr ⟨by rfl, rfl⟩) (by assumption) ?_)); (try simp only [Act.put, List.setIfInBounds_toArray, List.set_cons_zero, List.set_cons_succ])
            (first | (refine wpAnyH_take (i := 16) (oi := ⟨_, _, _, _, _, _⟩) (v := ?_) rfl (by kernel_rfl) (by kernel_rfl) (by kernel_rfl) (fun _ _ _ h => h) (Or.inl ⟨by rfl, ?_⟩) (by assumption) ?_; rotate_left 1; (· (intro w0 hSw; (try dsimp only at hSw); go_simp; (try with_reducible rfl)))) | (refine wpAnyH_take (i := 16) (oi := ⟨_, _, _, _, _, _⟩) (v := undef) rfl (by kernel_rfl) (by kernel_rfl) (by kernel_rfl) (fun _ _ _ h => h) (Or.inr ⟨by rfl, rfl⟩) (by assumption) ?_)); (try simp only [Act.put, List.setIfInBounds_toArray, List.set_cons_zero, List.set_cons_succ])
            (first | (refine wpAnyH_take (i := 17) (oi := ⟨_, _, _, _, _, _⟩) (v := ?_) rfl (by kernel_rfl) (by kernel_rfl) (by kernel_rfl) (fun _ _ _ h => h) (Or.inl ⟨by rfl, ?_⟩) (by assumption) ?_; rotate_left 1; (· (intro w0 hSw; (try dsimp only at hSw); go_simp; (try with_reducible rfl)))) | (refine wpAnyH_take (i := 17) (oi := ⟨_, _, _, _, _, _⟩) (v := undef) rfl (by kernel_rfl) (by kernel_rfl) (by kernel_rfl) (fun _ _ _ h => h) (Or.inr ⟨by rfl, rfl⟩) (by assumption) ?_)); (try simp only [Act.put, List.setIfInBounds_toArray, List.set_cons_zero, List.set_cons_succ])
            (first | (refine wpAnyH_take (i := 18) (oi := ⟨_, _, _, _, _, _⟩) (v := ?_) rfl (by kernel_rfl) (by kernel_rfl) (by kernel_rfl) (fun _ _ _ h => h) (Or.inl ⟨by rfl, ?_⟩) (by assumption) ?_; rotate_left 1; (· (intro w0 hSw; (try dsimp only at hSw); go_simp; (try with_reducible rfl)))) | (refine wpAnyH_take (i := 18) (oi := ⟨_, _, _, _, _, _⟩) (v := undef) rfl (by kernel_rfl) (by kernel_rfl) (by kernel_rfl) (fun _ _ _ h => h) (Or.inr ⟨by rfl, rfl⟩) (by assumption) ?_)); (try simp only [Act.put, List.setIfInBounds_toArray, List.set_cons_zero, List.set_cons_succ])
            (first | (refine wpAnyH_take (i := 19) (oi := ⟨_, _, _, _, _, _⟩) (v := ?_) rfl (by kernel_rfl) (by kernel_rfl) (by kernel_rfl) (fun _ _ _ h => h) (Or.inl ⟨by rfl, ?_⟩) (by assumption) ?_; rotate_left 1; (· (intro w0 hSw; (try dsimp only at hSw); go_simp; (try with_reducible rfl)))) | (refine wpAnyH_take (i := 19) (oi := ⟨_, _, _, _, _, _⟩) (v := undef) rfl (by kernel_rfl) (by kernel_rfl) (by kernel_rfl) (fun _ _ _ h => h) (Or.inr ⟨by rfl, rfl⟩) (by assumption) ?_)); (try simp only [Act.put, List.setIfInBounds_toArray, List.set_cons_zero, List.set_cons_succ])
            (first | (refine wpAnyH_take (i := 20) (oi := ⟨_, _, _, _, _, _⟩) (v := ?_) rfl (by kernel_rfl) (by kernel_rfl) (by kernel_rfl) (fun _ _ _ h => h) (Or.inl ⟨by rfl, ?_⟩) (by assumption) ?_; rotate_left 1; (· (intro w0 hSw; (try dsimp only at hSw); go_simp; (try with_reducible rfl)))) | (refine wpAnyH_take (i := 20) (oi := ⟨_, _, _, _, _, _⟩) (v := undef) rfl (by kernel_rfl) (by kernel_rfl) (by kernel_rfl) (fun _ _ _ h => h) (Or.inr ⟨by rfl, rfl⟩) (by assumption) ?_)); (try simp only [Act.put, List.setIfInBounds_toArray, List.set_cons_zero, List.set_cons_succ])
            (first | (refine wpAnyH_take (i := 21) (oi := ⟨_, _, _, _, _, _⟩) (v := ?_) rfl (by kernel_rfl) (by kernel_rfl) (by kernel_rfl) (fun _ _ _ h => h) (Or.inl ⟨by rfl, ?_⟩) (by assumption) ?_; rotate_left 1; (· (intro w0 hSw; (try dsimp only at hSw); go_simp; (try with_reducible rfl)))) | (refine wpAnyH_take (i := 21) (oi := ⟨_, _, _, _, _, _⟩) (v := undef) rfl (by kernel_rfl) (by kernel_rfl) (by kernel_rfl) (fun _ _ _ h => h) (Or.inr ⟨by rfl, rfl⟩) (by assumption) ?_)); (try simp only [Act.put, List.setIfInBounds_toArray, List.set_cons_zero, List.set_cons_succ])
            (first | (refine wpAnyH_take (i := 22) (oi := ⟨_, _, _, _, _, _⟩) (v := ?_) rfl (by kernel_rfl) (by kernel_rfl) (by kernel_rfl) (fun _ _ _ h => h) (Or.inl ⟨by rfl, ?_⟩) (by assumption) ?_; rotate_left 1; (· (intro w0 hSw; (try dsimp only at hSw); go_simp; (try with_reducible rfl)))) | (refine wpAnyH_take (i := 22) (oi := ⟨_, _, _, _, _, _⟩) (v := undef) rfl (by kernel_rfl) (by kernel_rfl) (by kernel_rfl) (fun _ _ _ h => h) (Or.inr ⟨by rfl, rfl⟩) (by assumption) ?_)); (try simp only [Act.put, List.setIfInBounds_toArray, List.set_cons_zero, List.set_cons_succ])
            (first | (refine wpAnyH_take (i := 23) (oi := ⟨_, _, _, _, _, _⟩) (v := ?_) rfl (by kernel_rfl) (by kernel_rfl) (by kernel_rfl) (fun _ _ _ h => h) (Or.inl ⟨by rfl, ?_⟩) (by assumption) ?_; rotate_left 1; (· (intro w0 hSw; (try dsimp only at hSw); go_simp; (try with_reducible rfl)))) | (refine wpAnyH_take (i := 23) (oi := ⟨_, _, _, _, _, _⟩) (v := undef) rfl (by kernel_rfl) (by kernel_rfl) (by kernel_rfl) (fun _ _ _ h => h) (Or.inr ⟨by rfl, rfl⟩) (by assumption) ?_)); (try simp only [Act.put, List.setIfInBounds_toArray, List.set_cons_zero, List.set_cons_succ])
            (first | (refine wpAnyH_take (i := 24) (oi := ⟨_, _, _, _, _, _⟩) (v := ?_) rfl (by kernel_rfl) (by kernel_rfl) (by kernel_rfl) (fun _ _ _ h => h) (Or.inl ⟨by rfl, ?_⟩) (by assumption) ?_; rotate_left 1; (· (intro w0 hSw; (try dsimp only at hSw); go_simp; (try with_reducible rfl)))) | (refine wpAnyH_take (i := 24) (oi := ⟨_, _, _, _, _, _⟩) (v := undef) rfl (by kernel_rfl) (by kernel_rfl) (by kernel_rfl) (fun _ _ _ h => h) (Or.inr ⟨by rfl, rfl⟩) (by assumption) ?_)); (try simp only [Act.put, List.setIfInBounds_toArray, List.set_cons_zero, List.set_cons_succ])
            refine wpAnyH_done (by kernel_rfl) ?_ _
            have hb7 : Below w5.heap.size w5 wl := by (repeat (first | exact Below.refl _ _ | refine Below.drew ?_ | refine Below.allocS ?_ _ | refine Below.step ?_ (by assumption) | refine Below.setCell ?_ (by simp <;> omega) _ | refine Below.drewN' ?_ _))
            have hb8 : Below w1.heap.size w1 wl := Below.step G5 hb7
            go_wp2
            go_roundw
            case rel => exact ⟨tt + 1, Ab, cb, by rw [show tt + 1 - 1 = tt from rfl, HBS.out, HBT.out]; simp [HBN.out], by rw [show tt + 1 - 1 = tt from rfl, HBS.out, HBT.out]; exact R6.out.step hb7, by go_num, by omega, HTP.out, hb8⟩
            case measure => have := HTP.out; simp [intOf]; omega
          · have d1 : decide ((mn : Int) < (mn : Int)) = false := decide_eq_false (by omega)
            have d1n : decide (mn < mn) = false := decide_eq_false (by omega)
            have d1' : decide ((mn : Int) > (mn : Int)) = false := decide_eq_false (by omega)
            have d2 : ((mn : Int) == (mn : Int)) = true := by simp
            have HBT := Lib.hid (show betM ml best = true by unfold betM; rw [← HMN.out, ← HBN.out, decide_eq_true (rfl : mn = mn), he]; simp)
            rw [he] at HE
            clear he
            go_wp2_with fail
            refine wp_region_held_drew (S := fun W => Below w5.heap.size w5 W) (by kernel_rfl) ?_ (fun hHeld => ?_); (· (repeat (first | (with_reducible exact Below.refl _ _) | (with_reducible assumption) | (with_reducible refine Below.drew ?_) | (with_reducible refine Below.allocS ?_ _) | (with_reducible refine Below.setCell ?_ ?_ _) | (with_reducible refine Below.step ?_ (by assumption)) | (with_reducible refine Below.drewN' ?_ _))); (try any_goals (first | (with_reducible assumption) | (simp; done) | (simp; omega) | omega)))
            (first | (refine wpAnyH_take (i := 0) (oi := ⟨_, _, _, _, _, _⟩) (v := ?_) rfl (by kernel_rfl) (by kernel_rfl) (by kernel_rfl) (fun _ _ _ h => h) (Or.inl ⟨by rfl, ?_⟩) (by assumption) ?_; rotate_left 1; (· (intro w0 hSw; (try dsimp only at hSw); go_simp; (try with_reducible rfl)))) | (refine wpAnyH_take (i := 0) (oi := ⟨_, _, _, _, _, _⟩) (v := undef) rfl (by kernel_rfl) (by kernel_rfl) (by kernel_rfl) (fun _ _ _ h => h) (Or.inr ⟨by rfl, rfl⟩) (by assumption) ?_)); (try simp only [Act.put, List.setIfInBounds_toArray, List.set_cons_zero, List.set_cons_succ])
            (first | (refine wpAnyH_take (i := 1) (oi := ⟨_, _, _, _, _, _⟩) (v := ?_) rfl (by kernel_rfl) (by kernel_rfl) (by kernel_rfl) (fun _ _ _ h => h) (Or.inl ⟨by rfl, ?_⟩) (by assumption) ?_; rotate_left 1; (· (intro w0 hSw; (try dsimp only at hSw); go_simp; (try with_reducible rfl)))) | (refine wpAnyH_take (i := 1) (oi := ⟨_, _, _, _, _, _⟩) (v := undef) rfl (by kernel_rfl) (by kernel_rfl) (by kernel_rfl) (fun _ _ _ h => h) (Or.inr ⟨by rfl, rfl⟩) (by assumption) ?_)); (try simp only [Act.put, List.setIfInBounds_toArray, List.set_cons_zero, List.set_cons_succ])
            (first | (refine wpAnyH_take (i := 2) (oi := ⟨_, _, _, _, _, _⟩) (v := ?_) rfl (by kernel_rfl) (by kernel_rfl) (by kernel_rfl) (fun _ _ _ h => h) (Or.inl ⟨by rfl, ?_⟩) (by assumption) ?_; rotate_left 1; (· (intro w0 hSw; (try dsimp only at hSw); go_simp; (try with_reducible rfl)))) | (refine wpAnyH_take (i := 2) (oi := ⟨_, _, _, _, _, _⟩) (v := undef) rfl (by kernel_rfl) (by kernel_rfl) (by kernel_rfl) (fun _ _ _ h => h) (Or.inr ⟨by rfl, rfl⟩) (by assumption) ?_)); (try simp only [Act.put, List.setIfInBounds_toArray, List.set_cons_zero, List.set_cons_succ])
            (first | (refine wpAnyH_take (i := 3) (oi := ⟨_, _, _, _, _, _⟩) (v := ?_) rfl (by kernel_rfl) (by kernel_rfl) (by kernel_rfl) (fun _ _ _ h => h) (Or.inl ⟨by rfl, ?_⟩) (by assumption) ?_; rotate_left 1; (· (intro w0 hSw; (try dsimp only at hSw); go_simp; (try with_reducible rfl)))) | (refine wpAnyH_take (i := 3) (oi := ⟨_, _, _, _, _, _⟩) (v := undef) rfl (by kernel_rfl) (by kernel_rfl) (by kernel_rfl) (fun _ _ _ h => h) (Or.inr ⟨by rfl, rfl⟩) (by assumption) ?_)); (try simp only [Act.put, List.setIfInBounds_toArray, List.set_cons_zero, List.set_cons_succ])
            (first | (refine wpAnyH_take (i := 4) (oi := ⟨_, _, _, _, _, _⟩) (v := ?_) rfl (by kernel_rfl) (by kernel_rfl) (by kernel_rfl) (fun _ _ _ h => h) (Or.inl ⟨by rfl, ?_⟩) (by assumption) ?_; rotate_left 1; (· (intro w0 hSw; (try dsimp only at hSw); go_simp; (try with_reducible rfl)))) | (refine wpAnyH_take (i := 4) (oi := ⟨_, _, _, _, _, _⟩) (v := undef) rfl (by kernel_rfl) (by kernel_rfl) (by kernel_rfl) (fun _ _ _ h => h) (Or.inr ⟨by rfl, rfl⟩) (by assumption) ?_)); (try simp only [Act.put, List.setIfInBounds_toArray, List.set_cons_zero, List.set_cons_succ])
            (first | (refine wpAnyH_take (i := 5) (oi := ⟨_, _, _, _, _, _⟩) (v := ?_) rfl (by kernel_rfl) (by kernel_rfl) (by kernel_rfl) (fun _ _ _ h => h) (Or.inl ⟨by rfl, ?_⟩) (by assumption) ?_; rotate_left 1; (· (intro w0 hSw; (try dsimp only at hSw); go_simp; (try with_reducible rfl)))) | (refine wpAnyH_take (i := 5) (oi := ⟨_, _, _, _, _, _⟩) (v := undef) rfl (by kernel_rfl) (by kernel_rfl) (by kernel_rfl) (fun _ _ _ h => h) (Or.inr ⟨by rfl, rfl⟩) (by assumption) ?_)); (try simp only [Act.put, List.setIfInBounds_toArray, List.set_cons_zero, List.set_cons_succ])
            (first | (refine wpAnyH_take (i := 6) (oi := ⟨_, _, _, _, _, _⟩) (v := ?_) rfl (by kernel_rfl) (by kernel_rfl) (by kernel_rfl) (fun _ _ _ h => h) (Or.inl ⟨by rfl, ?_⟩) (by assumption) ?_; rotate_left 1; (· (intro w0 hSw; (try dsimp only at hSw); go_simp; (try with_reducible rfl)))) | (refine wpAnyH_take (i := 6) (oi := ⟨_, _, _, _, _, _⟩) (v := undef) rfl (by kernel_rfl) (by kernel_rfl) (by kernel_rfl) (fun _ _ _ h => h) (Or.inr ⟨by rfl, rfl⟩) (by assumption) ?_)); (try simp only [Act.put, List.setIfInBounds_toArray, List.set_cons_zero, List.set_cons_succ])
            (first | (refine wpAnyH_take (i := 7) (oi := ⟨_, _, _, _, _, _⟩) (v := ?_) rfl (by kernel_rfl) (by kernel_rfl) (by kernel_rfl) (fun _ _ _ h => h) (Or.inl ⟨by rfl, ?_⟩) (by assumption) ?_; rotate_left 1; (· (intro w0 hSw; (try dsimp only at hSw); go_simp; (try with_reducible rfl)))) | (refine wpAnyH_take (i := 7) (oi := ⟨_, _, _, _, _, _⟩) (v := undef) rfl (by kernel_rfl) (by kernel_rfl) (by kernel_rfl) (fun _ _ _ h => h) (Or.inr ⟨by rfl, rfl⟩) (by assumption) ?_)); (try simp only [Act.put, List.setIfInBounds_toArray, List.set_cons_zero, List.set_cons_succ])
            (first | (refine wpAnyH_take (i := 8) (oi := ⟨_, _, _, _, _, _⟩) (v := ?_) rfl (by kernel_rfl) (by kernel_rfl) (by kernel_rfl) (fun _ _ _ h => h) (Or.inl ⟨by rfl, ?_⟩) (by assumption) ?_; rotate_left 1; (· (intro w0 hSw; (try dsimp only at hSw); go_simp; (try with_reducible rfl)))) | (refine wpAnyH_take (i := 8) (oi := ⟨_, _, _, _, _, _⟩) (v := undef) rfl (by kernel_rfl) (by kernel_rfl) (by kernel_rfl) (fun _ _ _ h => h) (Or.inr ⟨by rfl, rfl⟩) (by assumption) ?_)); (try simp only [Act.put, List.setIfInBounds_toArray, List.set_cons_zero, List.set_cons_succ])
            (first | (refine wpAnyH_take (i := 9) (oi := ⟨_, _, _, _, _, _⟩) (v := ?_) rfl (by kernel_rfl) (by kernel_rfl) (by kernel_rfl) (fun _ _ _ h => h) (Or.inl ⟨by rfl, ?_⟩) (by assumption) ?_; rotate_left 1; (· (intro w0 hSw; (try dsimp only at hSw); go_simp; (try with_reducible rfl)))) | (refine wpAnyH_take (i := 9) (oi := ⟨_, _, _, _, _, _⟩) (v := undef) rfl (by kernel_rfl) (by kernel_rfl) (by kernel_rfl) (fun _ _ _ h => h) (Or.inr ⟨by rfl, rfl⟩) (by assumption) ?_)); (try simp only [Act.put, List.setIfInBounds_toArray, List.set_cons_zero, List.set_cons_succ])
            (first | (refine wpAnyH_take (i := 10) (oi := ⟨_, _, _, _, _, _⟩) (v := ?_) rfl (by kernel_rfl) (by kernel_rfl) (by kernel_rfl) (fun _ _ _ h => h) (Or.inl ⟨by rfl, ?_⟩) (by assumption) ?_; rotate_left 1; (· (intro w0 hSw; (try dsimp only at hSw); go_simp; (try with_reducible rfl)))) | (refine wpAnyH_take (i := 10) (oi := ⟨_, _, _, _, _, _⟩) (v := undef) rfl (by kernel_rfl) (by kernel_rfl) (by kernel_rfl) (fun _ _ _ h => h) (Or.inr ⟨by rfl, rfl⟩) (by assumption) ?_)); (try simp only [Act.put, List.setIfInBounds_toArray, List.set_cons_zero, List.set_cons_succ])
            (first | (refine wpAnyH_take (i := 11) (oi := ⟨_, _, _, _, _, _⟩) (v := ?_) rfl (by kernel_rfl) (by kernel_rfl) (by kernel_rfl) (fun _ _ _ h => h) (Or.inl ⟨by rfl, ?_⟩) (by assumption) ?_; rotate_left 1; (· (intro w0 hSw; (try dsimp only at hSw); go_simp; (try with_reducible rfl)))) | (refine wpAnyH_take (i := 11) (oi := ⟨_, _, _, _, _, _⟩) (v := undef) rfl (by kernel_rfl) (by kernel_rfl) (by kernel_rfl) (fun _ _ _ h => h) (Or.inr ⟨by rfl, rfl⟩) (by assumption) ?_)); (try simp only [Act.put, List.setIfInBounds_toArray, List.set_cons_zero, List.set_cons_succ])
            (first | (refine wpAnyH_take (i := 12) (oi := ⟨_, _, _, _, _, _⟩) (v := ?_) rfl (by kernel_rfl) (by kernel_rfl) (by kernel_rfl) (fun _ _ _ h => h) (Or.inl ⟨by rfl, ?_⟩) (by assumption) ?_; rotate_left 1; (· (intro w0 hSw; (try dsimp only at hSw); go_simp; (try with_reducible rfl)))) | (refine wpAnyH_take (i := 12) (oi := ⟨_, _, _, _, _, _⟩) (v := undef) rfl (by kernel_rfl) (by kernel_rfl) (by kernel_rfl) (fun _ _ _ h => h) (Or.inr ⟨by rfl, rfl⟩) (by assumption) ?_)); (try simp only [Act.put, List.setIfInBounds_toArray, List.set_cons_zero, List.set_cons_succ])
            (first | (refine wpAnyH_take (i := 13) (oi := ⟨_, _, _, _, _, _⟩) (v := ?_) rfl (by kernel_rfl) (by kernel_rfl) (by kernel_rfl) (fun _ _ _ h => h) (Or.inl ⟨by rfl, ?_⟩) (by assumption) ?_; rotate_left 1; (· (intro w0 hSw; (try dsimp only at hSw); go_simp; (try with_reducible rfl)))) | (refine wpAnyH_take (i := 13) (oi := ⟨_, _, _, _, _, _⟩) (v := undef) rfl (by kernel_rfl) (by kernel_rfl) (by kernel_rfl) (fun _ _ _ h => h) (Or.inr ⟨by rfl, rfl⟩) (by assumption) ?_)); (try simp only [Act.put, List.setIfInBounds_toArray, List.set_cons_zero, List.set_cons_succ])
            refine wpAnyH_ready (rs := [14]) (by kernel_rfl) (by simp) ?_
            refine AllReadyH.cons (o := ⟨_, _, _, _, _, _⟩) rfl (fun K hK => ?_) AllReadyH.nil
            go_simp
            refine (HE.out _ (by assumption)).mono ?_; rintro e wl ⟨rfl, hbl5⟩
            (try go_wp2_with fail)
            refine hK.out _ _ ?_ (fun hHeld => ?_)
            · exact Below.step (by assumption) hbl5
            clear hK K
            (try simp only [Act.put, List.setIfInBounds_toArray, List.set_cons_zero, List.set_cons_succ])
            (first | (refine wpAnyH_take (i := 15) (oi := ⟨_, _, _, _, _, _⟩) (v := ?_) rfl (by kernel_rfl) (by kernel_rfl) (by kernel_rfl) (fun _ _ _ h => h) (Or.inl ⟨by rfl, ?_⟩) (by assumption) ?_; rotate_left 1; (· (intro w0 hSw; (try dsimp only at hSw); go_simp; (try with_reducible rfl)))) | (refine wpAnyH_take (i := 15) (oi := ⟨_, _, _, _, _, _⟩) (v := undef) rfl (by kernel_rfl) (by kernel_rfl) (by kernel_rfl) (fun _ _ _ h => h) (Or.inr ⟨by rfl, rfl⟩) (by assumption) ?_)); (try simp only [Act.put, List.setIfInBounds_toArray, List.set_cons_zero, List.set_cons_succ])
            (first | (refine wpAnyH_take (i := 16) (oi := ⟨_, _, _, _, _, _⟩) (v := ?_) rfl (by kernel_rfl) (by kernel_rfl) (by kernel_rfl) (fun _ _ _ h => h) (Or.inl ⟨by rfl, ?_⟩) (by assumption) ?_; rotate_left 1; (· (intro w0 hSw; (try dsimp only at hSw); go_simp; (try with_reducible rfl)))) | (refine wpAnyH_take (i := 16) (oi := ⟨_, _, _, _, _, _⟩) (v := undef) rfl (by kernel_rfl) (by kernel_rfl) (by kernel_rfl) (fun _ _ _ h => h) (Or.inr ⟨by rfl, rfl⟩) (by assumption) ?_)); (try simp only [Act.put, List.setIfInBounds_toArray, List.set_cons_zero, List.set_cons_succ])
            (first | (refine wpAnyH_take (i := 17) (oi := ⟨_, _, _, _, _, _⟩) (v := ?_) rfl (by kernel_rfl) (by kernel_rfl) (by kernel_rfl) (fun _ _ _ h => h) (Or.inl ⟨by rfl, ?_⟩) (by assumption) ?_; rotate_left 1; (· (intro w0 hSw; (try dsimp only at hSw); go_simp; (try with_reducible rfl)))) | (refine wpAnyH_take (i := 17) (oi := ⟨_, _, _, _, _, _⟩) (v := undef) rfl (by kernel_rfl) (by kernel_rfl) (by kernel_rfl) (fun _ _ _ h => h) (Or.inr ⟨by rfl, rfl⟩) (by assumption) ?_)); (try simp only [Act.put, List.setIfInBounds_toArray, List.set_cons_zero, List.set_cons_succ])
            (first | (refine wpAnyH_take (i := 18) (oi := ⟨_, _, _, _, _, _⟩) (v := ?_) rfl (by kernel_rfl) (by kernel_rfl) (by kernel_rfl) (fun _ _ _ h => h) (Or.inl ⟨by rfl, ?_⟩) (by assumption) ?_; rotate_left 1; (· (intro w0 hSw; (try dsimp only at hSw); go_simp; (try with_reducible rfl)))) | (refine wpAnyH_take (i := 18) (oi := ⟨_, _, _, _, _, _⟩) (v := undef) rfl (by kernel_rfl) (by kernel_rfl) (by kernel_rfl) (fun _ _ _ h => h) (Or.inr ⟨by rfl, rfl⟩) (by assumption) ?_)); (try simp only [Act.put, List.setIfInBounds_toArray, List.set_cons_zero, List.set_cons_succ])
            (first | (refine wpAnyH_take (i := 19) (oi := ⟨_, _, _, _, _, _⟩) (v := ?_) rfl (by kernel_rfl) (by kernel_rfl) (by kernel_rfl) (fun _ _ _ h => h) (Or.inl ⟨by rfl, ?_⟩) (by assumption) ?_; rotate_left 1; (· (intro w0 hSw; (try dsimp only at hSw); go_simp; (try with_reducible rfl)))) | (refine wpAnyH_take (i := 19) (oi := ⟨_, _, _, _, _, _⟩) (v := undef) rfl (by kernel_rfl) (by kernel_rfl) (by kernel_rfl) (fun _ _ _ h => h) (Or.inr ⟨by rfl, rfl⟩) (by assumption) ?_)); (try simp only [Act.put, List.setIfInBounds_toArray, List.set_cons_zero, List.set_cons_succ])
            (first | (refine wpAnyH_take (i := 21) (oi := ⟨_, _, _, _, _, _⟩) (v := ?_) rfl (by kernel_rfl) (by kernel_rfl) (by kernel_rfl) (fun _ _ _ h => h) (Or.inl ⟨by rfl, ?_⟩) (by assumption) ?_; rotate_left 1; (· (intro w0 hSw; (try dsimp only at hSw); go_simp; (try with_reducible rfl)))) | (refine wpAnyH_take (i := 21) (oi := ⟨_, _, _, _, _, _⟩) (v := undef) rfl (by kernel_rfl) (by kernel_rfl) (by kernel_rfl) (fun _ _ _ h => h) (Or.inr ⟨by rfl, rfl⟩) (by assumption) ?_)); (try simp only [Act.put, List.setIfInBounds_toArray, List.set_cons_zero, List.set_cons_succ])
            (first | (refine wpAnyH_take (i := 22) (oi := ⟨_, _, _, _, _, _⟩) (v := ?_) rfl (by kernel_rfl) (by kernel_rfl) (by kernel_rfl) (fun _ _ _ h => h) (Or.inl ⟨by rfl, ?_⟩) (by assumption) ?_; rotate_left 1; (· (intro w0 hSw; (try dsimp only at hSw); go_simp; (try with_reducible rfl)))) | (refine wpAnyH_take (i := 22) (oi := ⟨_, _, _, _, _, _⟩) (v := undef) rfl (by kernel_rfl) (by kernel_rfl) (by kernel_rfl) (fun _ _ _ h => h) (Or.inr ⟨by rfl, rfl⟩) (by assumption) ?_)); (try simp only [Act.put, List.setIfInBounds_toArray, List.set_cons_zero, List.set_cons_succ])
            refine wpAnyH_ready (rs := [20]) (by kernel_rfl) (by simp) ?_
            refine AllReadyH.cons (o := ⟨_, _, _, _, _, _⟩) rfl (fun K hK => ?_) AllReadyH.nil
            go_simp
            refine (HC1.out A1 c1 _ (R7.out.step (by assumption))).mono ?_; rintro e wm ⟨A8, c8, rfl, r8, hbm⟩; have HR8 := Lib.hid r8; clear r8
            (try go_wp2_with fail)
            refine hK.out _ _ ?_ (fun hHeld => ?_)
            · exact Below.step (by assumption) hbm
            clear hK K
            (try simp only [Act.put, List.setIfInBounds_toArray, List.set_cons_zero, List.set_cons_succ])
            refine wpAnyH_ready (rs := [23]) (by kernel_rfl) (by simp) ?_
            refine AllReadyH.cons (o := ⟨_, _, _, _, _, _⟩) rfl (fun K hK => ?_) AllReadyH.nil
            go_simp
            refine (HO1.out A8 c8 _ HR8.out).mono ?_; rintro e wn ⟨rfl, hbn⟩
            (try go_wp2_with fail)
            refine hK.out _ _ ?_ (fun hHeld => ?_)
            · exact Below.step (by assumption) hbn
            clear hK K
            (try simp only [Act.put, List.setIfInBounds_toArray, List.set_cons_zero, List.set_cons_succ])
            (first | (refine wpAnyH_take (i := 24) (oi := ⟨_, _, _, _, _, _⟩) (v := ?_) rfl (by kernel_rfl) (by kernel_rfl) (by kernel_rfl) (fun _ _ _ h => h) (Or.inl ⟨by rfl, ?_⟩) (by assumption) ?_; rotate_left 1; (· (intro w0 hSw; (try dsimp only at hSw); go_simp; (try with_reducible rfl)))) | (refine wpAnyH_take (i := 24) (oi := ⟨_, _, _, _, _, _⟩) (v := undef) rfl (by kernel_rfl) (by kernel_rfl) (by kernel_rfl) (fun _ _ _ h => h) (Or.inr ⟨by rfl, rfl⟩) (by assumption) ?_)); (try simp only [Act.put, List.setIfInBounds_toArray, List.set_cons_zero, List.set_cons_succ])
            refine wpAnyH_done (by kernel_rfl) ?_ _
            have hb7 : Below w5.heap.size w5 wn := by (repeat (first | exact Below.refl _ _ | refine Below.drew ?_ | refine Below.allocS ?_ _ | refine Below.step ?_ (by assumption) | refine Below.setCell ?_ (by simp <;> omega) _ | refine Below.drewN' ?_ _))
            have hb8 : Below w1.heap.size w1 wn := Below.step G5 hb7
            have HAG := Lib.hid (show ∃ B, B = agM s n tt from ⟨_, rfl⟩)
            obtain ⟨B, hB⟩ := HAG.out
            rw [← hB]
            have HAGM := Lib.hid hB.symm
            clear hB HAG HO1
            cases B
            · go_wp2
              go_roundw
              case rel => exact ⟨tt + 1, Ab, cb, by rw [show tt + 1 - 1 = tt from rfl, HBS.out, HBT.out, HAGM.out]; simp [HBN.out], by rw [show tt + 1 - 1 = tt from rfl, HBS.out, HBT.out, HAGM.out]; exact R6.out.step hb7, by go_num, by omega, HTP.out, hb8⟩
              case measure => have := HTP.out; simp [intOf]; omega
            · go_wp2
              go_roundw
              case rel => exact ⟨tt + 1, A5, c5, by rw [show tt + 1 - 1 = tt from rfl, HBS.out, HBT.out, HAGM.out]; simp [HMN.out], by rw [show tt + 1 - 1 = tt from rfl, HBS.out, HBT.out, HAGM.out]; exact R5.out.step hb7, by go_num, by omega, HTP.out, hb8⟩
              case measure => have := HTP.out; simp [intOf]; omega
        · have d1 : decide ((bn : Int) < (mn : Int)) = false := decide_eq_false (by omega)
          have d1n : decide (bn < mn) = false := decide_eq_false (by omega)
          have d1' : decide ((mn : Int) > (bn : Int)) = false := decide_eq_false (by omega)
          have d2 : ((mn : Int) == (bn : Int)) = false := by simp; omega
          have d3 : decide ((mn : Int) = (bn : Int)) = false := decide_eq_false (by omega)
          have d3n : decide (mn = bn) = false := decide_eq_false (by omega)
          have d2n : (mn == bn) = false := by simp; omega
          have HBT := Lib.hid (show betM ml best = false by unfold betM; rw [← HMN.out, ← HBN.out, decide_eq_false h1, decide_eq_false h2]; rfl)
          clear h1 h2 HE
          go_wp2_with fail
          refine wp_region_held_drew (S := fun W => Below w5.heap.size w5 W) (by kernel_rfl) ?_ (fun hHeld => ?_); (· (repeat (first | (with_reducible exact Below.refl _ _) | (with_reducible assumption) | (with_reducible refine Below.drew ?_) | (with_reducible refine Below.allocS ?_ _) | (with_reducible refine Below.setCell ?_ ?_ _) | (with_reducible refine Below.step ?_ (by assumption)) | (with_reducible refine Below.drewN' ?_ _))); (try any_goals (first | (with_reducible assumption) | (simp; done) | (simp; omega) | omega)))
          (first | (refine wpAnyH_take (i := 0) (oi := ⟨_, _, _, _, _, _⟩) (v := ?_) rfl (by kernel_rfl) (by kernel_rfl) (by kernel_rfl) (fun _ _ _ h => h) (Or.inl ⟨by rfl, ?_⟩) (by assumption) ?_; rotate_left 1; (· (intro w0 hSw; (try dsimp only at hSw); go_simp; (try with_reducible rfl)))) | (refine wpAnyH_take (i := 0) (oi := ⟨_, _, _, _, _, _⟩) (v := undef) rfl (by kernel_rfl) (by kernel_rfl) (by kernel_rfl) (fun _ _ _ h => h) (Or.inr ⟨by rfl, rfl⟩) (by assumption) ?_)); (try simp only [Act.put, List.setIfInBounds_toArray, List.set_cons_zero, List.set_cons_succ])
          (first | (refine wpAnyH_take (i := 1) (oi := ⟨_, _, _, _, _, _⟩) (v := ?_) rfl (by kernel_rfl) (by kernel_rfl) (by kernel_rfl) (fun _ _ _ h => h) (Or.inl ⟨by rfl, ?_⟩) (by assumption) ?_; rotate_left 1; (· (intro w0 hSw; (try dsimp only at hSw); go_simp; (try with_reducible rfl)))) | (refine wpAnyH_take (i := 1) (oi := ⟨_, _, _, _, _, _⟩) (v := undef) rfl (by kernel_rfl) (by kernel_rfl) (by kernel_rfl) (fun _ _ _ h => h) (Or.inr ⟨by rfl, rfl⟩) (by assumption) ?_)); (try simp only [Act.put, List.setIfInBounds_toArray, List.set_cons_zero, List.set_cons_succ])
          (first | (refine wpAnyH_take (i := 2) (oi := ⟨_, _, _, _, _, _⟩) (v := ?_) rfl (by kernel_rfl) (by kernel_rfl) (by kernel_rfl) (fun _ _ _ h => h) (Or.inl ⟨by rfl, ?_⟩) (by assumption) ?_; rotate_left 1; (· (intro w0 hSw; (try dsimp only at hSw); go_simp; (try with_reducible rfl)))) | (refine wpAnyH_take (i := 2) (oi := ⟨_, _, _, _, _, _⟩) (v := undef) rfl (by kernel_rfl) (by kernel_rfl) (by kernel_rfl) (fun _ _ _ h => h) (Or.inr ⟨by rfl, rfl⟩) (by assumption) ?_)); (try simp only [Act.put, List.setIfInBounds_toArray, List.set_cons_zero, List.set_cons_succ])
          (first | (refine wpAnyH_take (i := 3) (oi := ⟨_, _, _, _, _, _⟩) (v := ?_) rfl (by kernel_rfl) (by kernel_rfl) (by kernel_rfl) (fun _ _ _ h => h) (Or.inl ⟨by rfl, ?_⟩) (by assumption) ?_; rotate_left 1; (· (intro w0 hSw; (try dsimp only at hSw); go_simp; (try with_reducible rfl)))) | (refine wpAnyH_take (i := 3) (oi := ⟨_, _, _, _, _, _⟩) (v := undef) rfl (by kernel_rfl) (by kernel_rfl) (by kernel_rfl) (fun _ _ _ h => h) (Or.inr ⟨by rfl, rfl⟩) (by assumption) ?_)); (try simp only [Act.put, List.setIfInBounds_toArray, List.set_cons_zero, List.set_cons_succ])
          (first | (refine wpAnyH_take (i := 4) (oi := ⟨_, _, _, _, _, _⟩) (v := ?_) rfl (by kernel_rfl) (by kernel_rfl) (by kernel_rfl) (fun _ _ _ h => h) (Or.inl ⟨by rfl, ?_⟩) (by assumption) ?_; rotate_left 1; (· (intro w0 hSw; (try dsimp only at hSw); go_simp; (try with_reducible rfl)))) | (refine wpAnyH_take (i := 4) (oi := ⟨_, _, _, _, _, _⟩) (v := undef) rfl (by kernel_rfl) (by kernel_rfl) (by kernel_rfl) (fun _ _ _ h => h) (Or.inr ⟨by rfl, rfl⟩) (by assumption) ?_)); (try simp only [Act.put, List.setIfInBounds_toArray, List.set_cons_zero, List.set_cons_succ])
          (first | (refine wpAnyH_take (i := 5) (oi := ⟨_, _, _, _, _, _⟩) (v := ?_) rfl (by kernel_rfl) (by kernel_rfl) (by kernel_rfl) (fun _ _ _ h => h) (Or.inl ⟨by rfl, ?_⟩) (by assumption) ?_; rotate_left 1; (· (intro w0 hSw; (try dsimp only at hSw); go_simp; (try with_reducible rfl)))) | (refine wpAnyH_take (i := 5) (oi := ⟨_, _, _, _, _, _⟩) (v := undef) rfl (by kernel_rfl) (by kernel_rfl) (by kernel_rfl) (fun _ _ _ h => h) (Or.inr ⟨by rfl, rfl⟩) (by assumption) ?_)); (try simp only [Act.put, List.setIfInBounds_toArray, List.set_cons_zero, List.set_cons_succ])
          (first | (refine wpAnyH_take (i := 6) (oi := ⟨_, _, _, _, _, _⟩) (v := ?_) rfl (by kernel_rfl) (by kernel_rfl) (by kernel_rfl) (fun _ _ _ h => h) (Or.inl ⟨by rfl, ?_⟩) (by assumption) ?_; rotate_left 1; (· (intro w0 hSw; (try dsimp only at hSw); go_simp; (try with_reducible rfl)))) | (refine wpAnyH_take (i := 6) (oi := ⟨_, _, _, _, _, _⟩) (v := undef) rfl (by kernel_rfl) (by kernel_rfl) (by kernel_rfl) (fun _ _ _ h => h) (Or.inr ⟨by rfl, rfl⟩) (by assumption) ?_)); (try simp only [Act.put, List.setIfInBounds_toArray, List.set_cons_zero, List.set_cons_succ])
          (first | (refine wpAnyH_take (i := 7) (oi := ⟨_, _, _, _, _, _⟩) (v := ?_) rfl (by kernel_rfl) (by kernel_rfl) (by kernel_rfl) (fun _ _ _ h => h) (Or.inl ⟨by rfl, ?_⟩) (by assumption) ?_; rotate_left 1; (· (intro w0 hSw; (try dsimp only at hSw); go_simp; (try with_reducible rfl)))) | (refine wpAnyH_take (i := 7) (oi := ⟨_, _, _, _, _, _⟩) (v := undef) rfl (by kernel_rfl) (by kernel_rfl) (by kernel_rfl) (fun _ _ _ h => h) (Or.inr ⟨by rfl, rfl⟩) (by assumption) ?_)); (try simp only [Act.put, List.setIfInBounds_toArray, List.set_cons_zero, List.set_cons_succ])
          (first | (refine wpAnyH_take (i := 8) (oi := ⟨_, _, _, _, _, _⟩) (v := ?_) rfl (by kernel_rfl) (by kernel_rfl) (by kernel_rfl) (fun _ _ _ h => h) (Or.inl ⟨by rfl, ?_⟩) (by assumption) ?_; rotate_left 1; (· (intro w0 hSw; (try dsimp only at hSw); go_simp; (try with_reducible rfl)))) | (refine wpAnyH_take (i := 8) (oi := ⟨_, _, _, _, _, _⟩) (v := undef) rfl (by kernel_rfl) (by kernel_rfl) (by kernel_rfl) (fun _ _ _ h => h) (Or.inr ⟨by rfl, rfl⟩) (by assumption) ?_)); (try simp only [Act.put, List.setIfInBounds_toArray, List.set_cons_zero, List.set_cons_succ])
          (first | (refine wpAnyH_take (i := 9) (oi := ⟨_, _, _, _, _, _⟩) (v := ?_) rfl (by kernel_rfl) (by kernel_rfl) (by kernel_rfl) (fun _ _ _ h => h) (Or.inl ⟨by rfl, ?_⟩) (by assumption) ?_; rotate_left 1; (· (intro w0 hSw; (try dsimp only at hSw); go_simp; (try with_reducible rfl)))) | (refine wpAnyH_take (i := 9) (oi := ⟨_, _, _, _, _, _⟩) (v := undef) rfl (by kernel_rfl) (by kernel_rfl) (by kernel_rfl) (fun _ _ _ h => h) (Or.inr ⟨by rfl, rfl⟩) (by assumption) ?_)); (try simp only [Act.put, List.setIfInBounds_toArray, List.set_cons_zero, List.set_cons_succ])
          (first | (refine wpAnyH_take (i := 10) (oi := ⟨_, _, _, _, _, _⟩) (v := ?_) rfl (by kernel_rfl) (by kernel_rfl) (by kernel_rfl) (fun _ _ _ h => h) (Or.inl ⟨by rfl, ?_⟩) (by assumption) ?_; rotate_left 1; (· (intro w0 hSw; (try dsimp only at hSw); go_simp; (try with_reducible rfl)))) | (refine wpAnyH_take (i := 10) (oi := ⟨_, _, _, _, _, _⟩) (v := undef) rfl (by kernel_rfl) (by kernel_rfl) (by kernel_rfl) (fun _ _ _ h => h) (Or.inr ⟨by rfl, rfl⟩) (by assumption) ?_)); (try simp only [Act.put, List.setIfInBounds_toArray, List.set_cons_zero, List.set_cons_succ])
          (first | (refine wpAnyH_take (i := 11) (oi := ⟨_, _, _, _, _, _⟩) (v := ?_) rfl (by kernel_rfl) (by kernel_rfl) (by kernel_rfl) (fun _ _ _ h => h) (Or.inl ⟨by rfl, ?_⟩) (by assumption) ?_; rotate_left 1; (· (intro w0 hSw; (try dsimp only at hSw); go_simp; (try with_reducible rfl)))) | (refine wpAnyH_take (i := 11) (oi := ⟨_, _, _, _, _, _⟩) (v := undef) rfl (by kernel_rfl) (by kernel_rfl) (by kernel_rfl) (fun _ _ _ h => h) (Or.inr ⟨by rfl, rfl⟩) (by assumption) ?_)); (try simp only [Act.put, List.setIfInBounds_toArray, List.set_cons_zero, List.set_cons_succ])
          (first | (refine wpAnyH_take (i := 12) (oi := ⟨_, _, _, _, _, _⟩) (v := ?_) rfl (by kernel_rfl) (by kernel_rfl) (by kernel_rfl) (fun _ _ _ h => h) (Or.inl ⟨by rfl, ?_⟩) (by assumption) ?_; rotate_left 1; (· (intro w0 hSw; (try dsimp only at hSw); go_simp; (try with_reducible rfl)))) | (refine wpAnyH_take (i := 12) (oi := ⟨_, _, _, _, _, _⟩) (v := undef) rfl (by kernel_rfl) (by kernel_rfl) (by kernel_rfl) (fun _ _ _ h => h) (Or.inr ⟨by rfl, rfl⟩) (by assumption) ?_)); (try simp only [Act.put, List.setIfInBounds_toArray, List.set_cons_zero, List.set_cons_succ])
          (first | (refine wpAnyH_take (i := 13) (oi := ⟨_, _, _, _, _, _⟩) (v := ?_) rfl (by kernel_rfl) (by kernel_rfl) (by kernel_rfl) (fun _ _ _ h => h) (Or.inl ⟨by rfl, ?_⟩) (by assumption) ?_; rotate_left 1; (· (intro w0 hSw; (try dsimp only at hSw); go_simp; (try with_reducible rfl)))) | (refine wpAnyH_take (i := 13) (oi := ⟨_, _, _, _, _, _⟩) (v := undef) rfl (by kernel_rfl) (by kernel_rfl) (by kernel_rfl) (fun _ _ _ h => h) (Or.inr ⟨by rfl, rfl⟩) (by assumption) ?_)); (try simp only [Act.put, List.setIfInBounds_toArray, List.set_cons_zero, List.set_cons_succ])
          (first | (refine wpAnyH_take (i := 14) (oi := ⟨_, _, _, _, _, _⟩) (v := ?_) rfl (by kernel_rfl) (by kernel_rfl) (by kernel_rfl) (fun _ _ _ h => h) (Or.inl ⟨by rfl, ?_⟩) (by assumption) ?_; rotate_left 1; (· (intro w0 hSw; (try dsimp only at hSw); go_simp; (try with_reducible rfl)))) | (refine wpAnyH_take (i := 14) (oi := ⟨_, _, _, _, _, _⟩) (v := undef) rfl (by kernel_rfl) (by kernel_rfl) (by kernel_rfl) (fun _ _ _ h => h) (Or.inr ⟨by rfl, rfl⟩) (by assumption) ?_)); (try simp only [Act.put, List.setIfInBounds_toArray, List.set_cons_zero, List.set_cons_succ])
          (first | (refine wpAnyH_take (i := 15) (oi := ⟨_, _, _, _, _, _⟩) (v := ?_) rfl (by kernel_rfl) (by kernel_rfl) (by kernel_rfl) (fun _ _ _ h => h) (Or.inl ⟨by rfl, ?_⟩) (by assumption) ?_; rotate_left 1; (· (intro w0 hSw; (try dsimp only at hSw); go_simp; (try with_reducible rfl)))) | (refine wpAnyH_take (i := 15) (oi := ⟨_, _, _, _, _, _⟩) (v := undef) rfl (by kernel_rfl) (by kernel_rfl) (by kernel_rfl) (fun _ _ _ h => h) (Or.inr ⟨by rfl, rfl⟩) (by assumption) ?_)); (try simp only [Act.put, List.setIfInBounds_toArray, List.set_cons_zero, List.set_cons_succ])
          (first | (refine wpAnyH_take (i := 16) (oi := ⟨_, _, _, _, _, _⟩) (v := ?_) rfl (by kernel_rfl) (by kernel_rfl) (by kernel_rfl) (fun _ _ _ h => h) (Or.inl ⟨by rfl, ?_⟩) (by assumption) ?_; rotate_left 1; (· (intro w0 hSw; (try dsimp only at hSw); go_simp; (try with_reducible rfl)))) | (refine wpAnyH_take (i := 16) (oi := ⟨_, _, _, _, _, _⟩) (v := undef) rfl (by kernel_rfl) (by kernel_rfl) (by kernel_rfl) (fun _ _ _ h => h) (Or.inr ⟨by rfl, rfl⟩) (by assumption) ?_)); (try simp only [Act.put, List.setIfInBounds_toArray, List.set_cons_zero, List.set_cons_succ])
          (first | (refine wpAnyH_take (i := 17) (oi := ⟨_, _, _, _, _, _⟩) (v := ?_) rfl (by kernel_rfl) (by kernel_rfl) (by kernel_rfl) (fun _ _ _ h => h) (Or.inl ⟨by rfl, ?_⟩) (by assumption) ?_; rotate_left 1; (· (intro w0 hSw; (try dsimp only at hSw); go_simp; (try with_reducible rfl)))) | (refine wpAnyH_take (i := 17) (oi := ⟨_, _, _, _, _, _⟩) (v := undef) rfl (by kernel_rfl) (by kernel_rfl) (by kernel_rfl) (fun _ _ _ h => h) (Or.inr ⟨by rfl, rfl⟩) (by assumption) ?_)); (try simp only [Act.put, List.setIfInBounds_toArray, List.set_cons_zero, List.set_cons_succ])
          (first | (refine wpAnyH_take (i := 18) (oi := ⟨_, _, _, _, _, _⟩) (v := ?_) rfl (by kernel_rfl) (by kernel_rfl) (by kernel_rfl) (fun _ _ _ h => h) (Or.inl ⟨by rfl, ?_⟩) (by assumption) ?_; rotate_left 1; (· (intro w0 hSw; (try dsimp only at hSw); go_simp; (try with_reducible rfl)))) | (refine wpAnyH_take (i := 18) (oi := ⟨_, _, _, _, _, _⟩) (v := undef) rfl (by kernel_rfl) (by kernel_rfl) (by kernel_rfl) (fun _ _ _ h => h) (Or.inr ⟨by rfl, rfl⟩) (by assumption) ?_)); (try simp only [Act.put, List.setIfInBounds_toArray, List.set_cons_zero, List.set_cons_succ])
          (first | (refine wpAnyH_take (i := 19) (oi := ⟨_, _, _, _, _, _⟩) (v := ?_) rfl (by kernel_rfl) (by kernel_rfl) (by kernel_rfl) (fun _ _ _ h => h) (Or.inl ⟨by rfl, ?_⟩) (by assumption) ?_; rotate_left 1; (· (intro w0 hSw; (try dsimp only at hSw); go_simp; (try with_reducible rfl)))) | (refine wpAnyH_take (i := 19) (oi := ⟨_, _, _, _, _, _⟩) (v := undef) rfl (by kernel_rfl) (by kernel_rfl) (by kernel_rfl) (fun _ _ _ h => h) (Or.inr ⟨by rfl, rfl⟩) (by assumption) ?_)); (try simp only [Act.put, List.setIfInBounds_toArray, List.set_cons_zero, List.set_cons_succ])
          (first | (refine wpAnyH_take (i := 20) (oi := ⟨_, _, _, _, _, _⟩) (v := ?_) rfl (by kernel_rfl) (by kernel_rfl) (by kernel_rfl) (fun _ _ _ h => h) (Or.inl ⟨by rfl, ?_⟩) (by assumption) ?_; rotate_left 1; (· (intro w0 hSw; (try dsimp only at hSw); go_simp; (try with_reducible rfl)))) | (refine wpAnyH_take (i := 20) (oi := ⟨_, _, _, _, _, _⟩) (v := undef) rfl (by kernel_rfl) (by kernel_rfl) (by kernel_rfl) (fun _ _ _ h => h) (Or.inr ⟨by rfl, rfl⟩) (by assumption) ?_)); (try simp only [Act.put, List.setIfInBounds_toArray, List.set_cons_zero, List.set_cons_succ])
          (first | (refine wpAnyH_take (i := 21) (oi := ⟨_, _, _, _, _, _⟩) (v := ?_) rfl (by kernel_rfl) (by kernel_rfl) (by kernel_rfl) (fun _ _ _ h => h) (Or.inl ⟨by rfl, ?_⟩) (by assumption) ?_; rotate_left 1; (· (intro w0 hSw; (try dsimp only at hSw); go_simp; (try with_reducible rfl)))) | (refine wpAnyH_take (i := 21) (oi := ⟨_, _, _, _, _, _⟩) (v := undef) rfl (by kernel_rfl) (by kernel_rfl) (by kernel_rfl) (fun _ _ _ h => h) (Or.inr ⟨by rfl, rfl⟩) (by assumption) ?_)); (try simp only [Act.put, List.setIfInBounds_toArray, List.set_cons_zero, List.set_cons_succ])
          (first | (refine wpAnyH_take (i := 22) (oi := ⟨_, _, _, _, _, _⟩) (v := ?_) rfl (by kernel_rfl) (by kernel_rfl) (by kernel_rfl) (fun _ _ _ h => h) (Or.inl ⟨by rfl, ?_⟩) (by assumption) ?_; rotate_left 1; (· (intro w0 hSw; (try dsimp only at hSw); go_simp; (try with_reducible rfl)))) | (refine wpAnyH_take (i := 22) (oi := ⟨_, _, _, _, _, _⟩) (v := undef) rfl (by kernel_rfl) (by kernel_rfl) (by kernel_rfl) (fun _ _ _ h => h) (Or.inr ⟨by rfl, rfl⟩) (by assumption) ?_)); (try simp only [Act.put, List.setIfInBounds_toArray, List.set_cons_zero, List.set_cons_succ])
          (first | (refine wpAnyH_take (i := 23) (oi := ⟨_, _, _, _, _, _⟩) (v := ?_) rfl (by kernel_rfl) (by kernel_rfl) (by kernel_rfl) (fun _ _ _ h => h) (Or.inl ⟨by rfl, ?_⟩) (by assumption) ?_; rotate_left 1; (· (intro w0 hSw; (try dsimp only at hSw); go_simp; (try with_reducible rfl)))) | (refine wpAnyH_take (i := 23) (oi := ⟨_, _, _, _, _, _⟩) (v := undef) rfl (by kernel_rfl) (by kernel_rfl) (by kernel_rfl) (fun _ _ _ h => h) (Or.inr ⟨by rfl, rfl⟩) (by assumption) ?_)); (try simp only [Act.put, List.setIfInBounds_toArray, List.set_cons_zero, List.set_cons_succ])
          (first | (refine wpAnyH_take (i := 24) (oi := ⟨_, _, _, _, _, _⟩) (v := ?_) rfl (by kernel_rfl) (by kernel_rfl) (by kernel_rfl) (fun _ _ _ h => h) (Or.inl ⟨by rfl, ?_⟩) (by assumption) ?_; rotate_left 1; (· (intro w0 hSw; (try dsimp only at hSw); go_simp; (try with_reducible rfl)))) | (refine wpAnyH_take (i := 24) (oi := ⟨_, _, _, _, _, _⟩) (v := undef) rfl (by kernel_rfl) (by kernel_rfl) (by kernel_rfl) (fun _ _ _ h => h) (Or.inr ⟨by rfl, rfl⟩) (by assumption) ?_)); (try simp only [Act.put, List.setIfInBounds_toArray, List.set_cons_zero, List.set_cons_succ])
          refine wpAnyH_done (by kernel_rfl) ?_ _
          have hb7 : Below w5.heap.size w5 w5.drew := by (repeat (first | exact Below.refl _ _ | refine Below.drew ?_ | refine Below.allocS ?_ _ | refine Below.step ?_ (by assumption) | refine Below.setCell ?_ (by simp <;> omega) _ | refine Below.drewN' ?_ _))
          have hb8 : Below w1.heap.size w1 w5.drew := Below.step G5 hb7
          go_wp2
          go_roundw
          case rel => exact ⟨tt + 1, Ab, cb, by rw [show tt + 1 - 1 = tt from rfl, HBS.out, HBT.out]; simp [HBN.out], by rw [show tt + 1 - 1 = tt from rfl, HBS.out, HBT.out]; exact R6.out.step hb7, by go_num, by omega, HTP.out, hb8⟩
          case measure => have := HTP.out; simp [intOf]; omega
      · obtain rfl : tt = P := by omega
        have u1 : decide ((tt : Int) < (tt : Int)) = false := decide_eq_false (by omega)
        go_wp2
        go_ret2
        first
          | exact ⟨.inl ⟨HH.out, Ab, ⟨cb, by rw [HEQ.out (by trivial), ← HBN.out] <;> rfl⟩, by rw [HEQ.out (by trivial)]; exact RB.out⟩, hbw⟩
          | exact ⟨.inl ⟨HH.out, Ab, cb, by rw [HEQ.out (by trivial), ← HBN.out] <;> rfl, by rw [HEQ.out (by trivial)]; exact RB.out⟩, hbw⟩
  · have H1' : Hid (∀ W, Below w.heap.size w W → Calls Try.prog 66 #[.agg #[.slice x.A x.xs.length x.ca, .int .i64 x.e], .slice A l.length cap] W fun e w' => e = .returned (.tuple #[.slice none 0 0, .int .i64 (stErr x l)]) ∧ Below W.heap.size W w') :=
      Lib.hid (fun W hb => (H1.out W hb).mono (by
        rintro e w' ⟨h | h, hb'⟩
        · exact absurd h.1 h0
        · exact ⟨h.2, hb'⟩))
    have hc := stErr_cases x l
    have HH := Lib.hid (show ∀ e w', e = .returned (.tuple #[.slice none 0 0, .int .i64 (stErr x l)]) → RMostR x l e w' from fun e w' h => Or.inr ⟨h0, h⟩)
    clear H1
    generalize stErr x l = E at *
    rcases hc with rfl | rfl | rfl
    · exact absurd rfl h0
    all_goals
      clear h0
      go_enter Try.func40, Try.ntmps40
      go_wp2_with fail
      refine (H1'.out _ (by (repeat (first | exact Below.refl _ _ | refine Below.drew ?_ | refine Below.allocS ?_ _ | refine Below.step ?_ (by assumption) | refine Below.setCell ?_ (by simp <;> omega) _ | refine Below.drewN' ?_ _)))).mono ?_
      rintro e w1 ⟨rfl, hb1⟩
      have x1_0_0 : w1.cell? ⟨w.heap.size, 0, none⟩ = some (.slice x.A x.xs.length x.ca) := keep_cell hb1 (by simp [go_sem, *])
      have x1_0_1 : w1.cell? ⟨w.heap.size, 1, none⟩ = some (.int .i64 x.e) := keep_cell hb1 (by simp [go_sem, *])
      have y1_0 : w.heap.size < w1.heap.size := cell?_lt x1_0_0
      have g1 : Below w.heap.size w w1 := by (repeat (first | exact Below.refl _ _ | refine Below.drew ?_ | refine Below.allocS ?_ _ | refine Below.step ?_ (by assumption) | refine Below.setCell ?_ (by simp <;> omega) _ | refine Below.drewN' ?_ _))
      clear hb1
      go_wp2
      go_ret2
      exact ⟨HH.out _ _ rfl, by (repeat (first | exact Below.refl _ _ | refine Below.drew ?_ | refine Below.allocS ?_ _ | refine Below.step ?_ (by assumption) | refine Below.setCell ?_ (by simp <;> omega) _ | refine Below.drewN' ?_ _))⟩
end Go.Proofs.Ytbcabckokmjelaa
namespace Go.Proofs.Ytbcabckokmjelaa
open Go.RowKit Go.Deep
set_option linter.unusedVariables false
set_option linter.unusedSimpArgs false
theorem earl_irr : ∀ a : List Nat, earl a a = false
  | [] => rfl
  | a :: l => by unfold earl; rw [if_pos rfl]; exact earl_irr l
theorem earl_trans : ∀ {a b c : List Nat}, earl a b = true → earl b c = true → earl a c = true
  | _, [], _, h, _ => by cases ‹List Nat› <;> simp [earl] at h
  | [], _ :: _, [], _, k => by simp [earl] at k
  | [], _ :: _, _ :: _, _, _ => rfl
  | a :: l, b :: m, [], _, k => by simp [earl] at k
  | a :: l, b :: m, c :: n, h, k => by
    unfold earl at h k ⊢
    by_cases h1 : a = b
    · subst h1
      rw [if_pos rfl] at h
      by_cases h2 : a = c
      · subst h2
        rw [if_pos rfl] at k ⊢
        exact earl_trans h k
      · rw [if_neg h2] at k ⊢; exact k
    · rw [if_neg h1] at h
      have h := of_decide_eq_true h
      by_cases h2 : b = c
      · subst h2
        rw [if_neg h1]; exact decide_eq_true h
      · rw [if_neg h2] at k
        have k := of_decide_eq_true k
        rw [if_neg (by omega)]
        exact decide_eq_true (by omega)
theorem betL_iff {m b : List Nat} : betL m b = true ↔ m.length < b.length ∨ m.length = b.length ∧ earl m b = true := by unfold betL; simp
theorem betM_iff {m b : List Nat} : betM m b = true ↔ b.length < m.length ∨ m.length = b.length ∧ earl m b = true := by unfold betM; simp
theorem betL_irr (a : List Nat) : betL a a = false := by
  cases h : betL a a with
  | false => rfl
  | true => rcases betL_iff.1 h with h | ⟨-, h⟩; omega; rw [earl_irr] at h; cases h
theorem betM_irr (a : List Nat) : betM a a = false := by
  cases h : betM a a with
  | false => rfl
  | true => rcases betM_iff.1 h with h | ⟨-, h⟩; omega; rw [earl_irr] at h; cases h
theorem betL_trans {a b c : List Nat} (h : betL a b = true) (k : betL b c = true) : betL a c = true := by
  rw [betL_iff] at *
  rcases h with h | ⟨h1, h2⟩
  · exact .inl (by rcases k with k | ⟨k, -⟩ <;> omega)
  · rcases k with k | ⟨k1, k2⟩
    · exact .inl (by omega)
    · exact .inr ⟨by omega, earl_trans h2 k2⟩
theorem betM_trans {a b c : List Nat} (h : betM a b = true) (k : betM b c = true) : betM a c = true := by
  rw [betM_iff] at *
  rcases h with h | ⟨h1, h2⟩
  · exact .inl (by rcases k with k | ⟨k, -⟩ <;> omega)
  · rcases k with k | ⟨k1, k2⟩
    · exact .inl (by omega)
    · exact .inr ⟨by omega, earl_trans h2 k2⟩
theorem best_inv {bt : List Nat → List Nat → Bool} (hirr : ∀ a, bt a a = false) (htr : ∀ {a b c}, bt a b = true → bt b c = true → bt a c = true) {dis : Nat → Bool} {n : Nat} {init : List Nat} {Q : List Nat → Prop}
    (h0 : Q init) (hQ : ∀ t, dis t = true → Q (memL t n)) : ∀ t, Q (bestL bt dis n init t) ∧ ∀ j, 1 ≤ j → j ≤ t → dis j = true → bt (memL j n) (bestL bt dis n init t) = false
  | 0 => ⟨h0, fun j h1 h2 => by omega⟩
  | t + 1 => by
    obtain ⟨i1, i2⟩ := best_inv hirr htr h0 hQ t
    unfold bestL
    by_cases h : (bt (memL (t + 1) n) (bestL bt dis n init t) && dis (t + 1)) = true
    · rw [if_pos h]
      rw [Bool.and_eq_true] at h
      refine ⟨hQ _ h.2, fun j h1 h2 hd => ?_⟩
      rcases Nat.lt_or_ge j (t + 1) with hj | hj
      · cases hb : bt (memL j n) (memL (t + 1) n) with
        | false => rfl
        | true => have := i2 j h1 (by omega) hd; rw [htr hb h.1] at this; cases this
      · obtain rfl : j = t + 1 := by omega
        exact hirr _
    · rw [if_neg h]
      refine ⟨i1, fun j h1 h2 hd => ?_⟩
      rcases Nat.lt_or_ge j (t + 1) with hj | hj
      · exact i2 j h1 (by omega) hd
      · obtain rfl : j = t + 1 := by omega
        cases hb : bt (memL (t + 1) n) (bestL bt dis n init t) with
        | false => rfl
        | true => rw [hb, hd] at h; exact absurd rfl h
theorem memL_asc (m n : Nat) : Asc (memL m n) := List.Pairwise.filter _ (range_asc n)
theorem memL_bits {n : Nat} {c : List Nat} (hc : Asc c) (hn : ∀ i ∈ c, i < n) : memL (bitsOf c) n = c :=
  asc_eq (memL_asc _ _) hc fun i => by
    rw [mem_memL, bits_mem, decide_eq_true_iff]
    exact ⟨fun h => h.2, fun h => ⟨hn i h, h⟩⟩
theorem bits_lt {n : Nat} {c : List Nat} (hn : ∀ i ∈ c, i < n) : bitsOf c < 2 ^ n := by
  refine Nat.lt_pow_two_of_testBit _ fun i hi => ?_
  rw [bits_mem]
  exact decide_eq_false fun h => by have := hn i h; omega
theorem bits_pos {c : List Nat} (h : 1 ≤ c.length) : 1 ≤ bitsOf c := by
  match c, h with
  | a :: l, _ =>
    rcases Nat.eq_zero_or_pos (bitsOf (a :: l)) with h0 | h0
    · have := bits_mem (a :: l) a
      rw [h0] at this
      simp at this
    · exact h0
theorem memL_full (n : Nat) : memL (2 ^ n - 1) n = List.range n :=
  asc_eq (memL_asc _ _) (range_asc n) fun i => by
    rw [mem_memL, List.mem_range, Nat.testBit_two_pow_sub_one, decide_eq_true_iff]
    exact ⟨fun h => h.1, fun h => ⟨h, h⟩⟩
theorem sel_range {s : List Sp} {n : Nat} (hn : s.length = n) : ∀ t, t ∈ selL s sp0 (List.range n) ↔ t ∈ s := fun t => by
  constructor
  · intro h
    exact sel_in (fun i hi => by rw [hn]; exact List.mem_range.1 hi) t h
  · intro h
    obtain ⟨i, hi, e⟩ := sel_of_mem (d := sp0) h
    exact mem_sel.2 ⟨i, List.mem_range.2 (by omega), e⟩
theorem comb_pair (n : Nat) : ∀ (f m : Nat), f ≤ n → (combos n f m).Pairwise (fun a b => earl a b = true) := by
  intro f
  induction f with
  | zero =>
    intro m _
    unfold combos
    split <;> simp
  | succ f ih =>
    intro m hf
    unfold combos
    split
    · simp
    · rename_i h0
      rw [List.pairwise_append]
      refine ⟨?_, ih m (by omega), fun a ha b hb => ?_⟩
      · rw [List.pairwise_map]
        exact (ih (m - 1) (by omega)).imp fun {x y} h => by unfold earl; rw [if_pos rfl]; exact h
      · obtain ⟨c, -, rfl⟩ := List.mem_map.1 ha
        obtain ⟨h1, h2, h3⟩ := (mem_combos n f m b (by omega)).1 hb
        cases b with
        | nil => exact absurd h1.symm h0
        | cons x b =>
          have := h3 x (by simp)
          unfold earl
          rw [if_neg (by omega)]
          exact decide_eq_true (by omega)
/-- The search's first is the first in order. -/
theorem ls_first {PL : List Sp → Bool} {s : List Sp} {n k : Nat} {r c : List Nat} (h : lsK PL s n k = some r) (hl : c.length = k) (ha : Asc c) (hn : ∀ i ∈ c, i < n) (hc : PL (selL s sp0 c) = true) (he : earl r c = false) : r = c := by
  unfold lsK at h
  obtain ⟨hp, l1, bs, hL, has⟩ := List.find?_eq_some_iff_append.1 h
  have hm : c ∈ tryL n k n [] := tryL_all.2 ⟨hl, ha, hn⟩
  have hpw : (tryL n k n []).Pairwise (fun a b => earl a b = true) := by
    unfold tryL
    have e : (([] : List Nat) ++ ·) = (id : List Nat → List Nat) := by funext x; rfl
    rw [e, List.map_id]
    exact comb_pair n n _ (Nat.le_refl _)
  rw [hL] at hm hpw
  have hpc : PB PL s n c = true := by unfold PB; rw [pickK_asc s sp0 n c ha hn]; exact hc
  rcases List.mem_append.1 hm with h1 | h1
  · have := has c h1
    rw [hpc] at this; cases this
  rcases List.mem_cons.1 h1 with h2 | h2
  · exact h2.symm
  · have := (List.pairwise_cons.1 (List.pairwise_append.1 hpw).2.1).1 c h2
    rw [he] at this; cases this
theorem least_eq {s : List Sp} {n k : Nat} {r : List Nat} (hn : s.length = n) (hlo : ∀ t ∈ s, t.lo ≤ t.hi) (h : agB (azR s) = false) (hk : ∀ j, j < k → lsK notAg s n j = none) (hr : lsK notAg s n k = some r) : r = bLs s n := by
  obtain ⟨h1, h2, h3, h4, h5, h6, -⟩ := ls_three hn hlo h hk hr
  have hinit : agB (azR (selL s sp0 (memL (2 ^ n - 1) n))) = false := by
    rw [memL_full]
    cases hg : agB (azR (selL s sp0 (List.range n))) with
    | false => rfl
    | true => rw [az_mono (fun t ht => (sel_range hn t).2 ht) hg] at h; cases h
  obtain ⟨q, i⟩ := best_inv (bt := betL) betL_irr betL_trans (dis := fun m => !agM s n m) (n := n) (init := memL (2 ^ n - 1) n) (Q := fun c => Asc c ∧ (∀ i ∈ c, i < n) ∧ agB (azR (selL s sp0 c)) = false)
    ⟨memL_asc _ _, memL_lt, hinit⟩ (fun t ht => ⟨memL_asc _ _, memL_lt, by unfold agM at ht; simpa using ht⟩) (2 ^ n - 1)
  change Asc (bLs s n) ∧ (∀ i ∈ bLs s n, i < n) ∧ agB (azR (selL s sp0 (bLs s n))) = false at q
  have hb := memL_bits h2 h3
  have hi := i (bitsOf r) (bits_pos (by omega)) (by have := bits_lt h3; omega) (by unfold agM; rw [hb, h6]; rfl)
  rw [hb] at hi
  change betL r (bLs s n) = false at hi
  have hge : k ≤ (bLs s n).length := by
    rcases Nat.lt_or_ge (bLs s n).length k with hlt | hge
    · have := ls_none (hk _ hlt) rfl q.1 q.2.1
      unfold notAg at this
      rw [q.2.2] at this; cases this
    · exact hge
  have hle : ¬ r.length < (bLs s n).length := fun h => by rw [betL_iff.2 (.inl h)] at hi; cases hi
  have heq : r.length = (bLs s n).length := by omega
  have he : earl r (bLs s n) = false := by
    cases he : earl r (bLs s n) with
    | false => rfl
    | true => rw [betL_iff.2 (.inr ⟨heq, he⟩)] at hi; cases hi
  exact ls_first hr (by omega) q.1 q.2.1 (by unfold notAg; rw [q.2.2]; rfl) he
theorem most_eq {s : List Sp} {n k : Nat} {r : List Nat} (hn : s.length = n) (hn1 : 1 ≤ n) (hlo : ∀ t ∈ s, t.lo ≤ t.hi) (hk : ∀ j, k < j → j ≤ n → lsK isAg s n j = none) (hr : lsK isAg s n k = some r) : r = bMs s n := by
  obtain ⟨h1, h2, h3, h4, -⟩ := ls_most hn hk hr
  have hp := most_pos hn hn1 hlo hk hr
  obtain ⟨q, i⟩ := best_inv (bt := betM) betM_irr betM_trans (dis := fun m => agM s n m) (n := n) (init := []) (Q := fun c => Asc c ∧ (∀ i ∈ c, i < n) ∧ agB (azR (selL s sp0 c)) = true)
    ⟨List.Pairwise.nil, by simp, (show agB (azR []) = true by decide)⟩ (fun t ht => ⟨memL_asc _ _, memL_lt, ht⟩) (2 ^ n - 1)
  change Asc (bMs s n) ∧ (∀ i ∈ bMs s n, i < n) ∧ agB (azR (selL s sp0 (bMs s n))) = true at q
  have hb := memL_bits h2 h3
  have hi := i (bitsOf r) (bits_pos hp) (by have := bits_lt h3; omega) (by unfold agM; rw [hb]; exact h4)
  rw [hb] at hi
  change betM r (bMs s n) = false at hi
  have hge : (bMs s n).length ≤ k := by
    rcases Nat.lt_or_ge k (bMs s n).length with hlt | hge
    · have := ls_none (hk _ hlt (asc_len q.1 q.2.1)) rfl q.1 q.2.1
      unfold isAg at this
      rw [q.2.2] at this; cases this
    · exact hge
  have hle : ¬ (bMs s n).length < r.length := fun h => by rw [betM_iff.2 (.inl h)] at hi; cases hi
  have heq : r.length = (bMs s n).length := by omega
  have he : earl r (bMs s n) = false := by
    cases he : earl r (bMs s n) with
    | false => rfl
    | true => rw [betM_iff.2 (.inr ⟨heq, he⟩)] at hi; cases hi
  exact ls_first hr (by omega) q.1 q.2.1 (by unfold isAg; exact q.2.2) he
end Go.Proofs.Ytbcabckokmjelaa
namespace Go.Proofs.Ytbcabckokmjelaa
open Go.RowKit Go.Deep
set_option linter.unusedVariables false
set_option linter.unusedSimpArgs false
def lsLst (x : Tb) (l : List Tr) : List Nat := if stErr x l = 0 ∧ agB (azR (wdL x l)) = false then bLs (wdL x l) l.length else []
def lsEr (x : Tb) (l : List Tr) : Int := if stErr x l = 0 then (if agB (azR (wdL x l)) = true then 8 else 0) else stErr x l
def msLst (x : Tb) (l : List Tr) : List Nat := if stErr x l = 0 then bMs (wdL x l) l.length else []
theorem lsLst_len (x : Tb) (l : List Tr) : (lsLst x l).length ≤ l.length := by
  unfold lsLst
  split
  · exact best_len (memL_len _ _) _
  · exact Nat.zero_le _
theorem msLst_len (x : Tb) (l : List Tr) : (msLst x l).length ≤ l.length := by
  unfold msLst
  split
  · exact best_len (Nat.zero_le _) _
  · exact Nat.zero_le _
theorem ls_val {x : Tb} {l : List Tr} {e : Ending} {w' : World} (h : LeastR x l e w') : ∃ A c, e = .returned (.tuple #[.slice A (lsLst x l).length c, .int .i64 (lsEr x l)]) ∧ RdL w' w'.heap.size inE 1 A ((lsLst x l).map Int.ofNat) := by
  unfold lsLst lsEr
  rcases h with ⟨h0, ⟨k, r, A, c, -, h1, h2, rfl, h3, -⟩ | ⟨h1, rfl⟩⟩ | ⟨h0, rfl⟩
  · have hag : agB (azR (wdL x l)) = false := by
      cases hg : agB (azR (wdL x l)) with
      | false => rfl
      | true => rw [ls_ok (wdL_len x l) hg] at h2; cases h2
    have e := least_eq (wdL_len x l) (wd_lohi h0) hag h1 h2
    rw [if_pos ⟨h0, hag⟩, if_pos h0, if_neg (by rw [hag]; simp), ← e]
    exact ⟨A, c, rfl, h3⟩
  · have hag : agB (azR (wdL x l)) = true := by
      cases hg : agB (azR (wdL x l)) with
      | true => rfl
      | false => exact (ls_some_ex (wdL_len x l) hg h1).elim
    rw [if_neg (by rw [hag]; simp), if_pos h0, if_pos hag]
    exact ⟨none, 0, rfl, RdL.nil⟩
  · rw [if_neg (fun h => h0 h.1), if_neg h0]
    exact ⟨none, 0, rfl, RdL.nil⟩
theorem rls_val {x : Tb} {l : List Tr} {e : Ending} {w' : World} (h : RLeastR x l e w') : ∃ A c, e = .returned (.tuple #[.slice A (lsLst x l).length c, .int .i64 (lsEr x l)]) ∧ RdL w' w'.heap.size inE 1 A ((lsLst x l).map Int.ofNat) := by
  unfold lsLst lsEr
  rcases h with ⟨h0, ⟨hag, rfl⟩ | ⟨hag, A, c, rfl, h3⟩⟩ | ⟨h0, rfl⟩
  · rw [if_neg (by rw [hag]; simp), if_pos h0, if_pos hag]
    exact ⟨none, 0, rfl, RdL.nil⟩
  · rw [if_pos ⟨h0, hag⟩, if_pos h0, if_neg (by rw [hag]; simp)]
    exact ⟨A, c, rfl, h3⟩
  · rw [if_neg (fun h => h0 h.1), if_neg h0]
    exact ⟨none, 0, rfl, RdL.nil⟩
theorem ms_val {x : Tb} {l : List Tr} {e : Ending} {w' : World} (h : MostR x l e w') : ∃ A c, e = .returned (.tuple #[.slice A (msLst x l).length c, .int .i64 (stErr x l)]) ∧ RdL w' w'.heap.size inE 1 A ((msLst x l).map Int.ofNat) := by
  unfold msLst
  rcases h with ⟨h0, k, r, A, c, -, h1, h2, rfl, h3, -⟩ | ⟨h0, rfl⟩
  · have e := most_eq (wdL_len x l) (by have := (okAll_ok (stErr_ok h0).1).n; omega) (wd_lohi h0) h1 h2
    rw [if_pos h0, ← e, h0]
    exact ⟨A, c, rfl, h3⟩
  · rw [if_neg h0]
    exact ⟨none, 0, rfl, RdL.nil⟩
theorem rms_val {x : Tb} {l : List Tr} {e : Ending} {w' : World} (h : RMostR x l e w') : ∃ A c, e = .returned (.tuple #[.slice A (msLst x l).length c, .int .i64 (stErr x l)]) ∧ RdL w' w'.heap.size inE 1 A ((msLst x l).map Int.ofNat) := by
  unfold msLst
  rcases h with ⟨h0, A, c, rfl, h3⟩ | ⟨h0, rfl⟩
  · rw [if_pos h0, h0]
    exact ⟨A, c, rfl, h3⟩
  · rw [if_neg h0]
    exact ⟨none, 0, rfl, RdL.nil⟩
theorem odd_form {x : Tb} {l : List Tr} {e : Ending} (h : OddR x l e) : ∃ v er : Int, e = .returned (.tuple #[.int .i64 v, .int .i64 er]) := by
  rcases h with ⟨-, ⟨-, h⟩ | ⟨-, ⟨i, -, -, -, h⟩ | ⟨-, h⟩⟩⟩ | ⟨-, h⟩ <;> exact ⟨_, _, h⟩
theorem odd_det {x : Tb} {l : List Tr} {e e' : Ending} (h : OddR x l e) (k : OddR x l e') : e' = e := by
  rcases h with ⟨h0, h⟩ | ⟨h0, rfl⟩
  · rcases k with ⟨-, k⟩ | ⟨k0, -⟩
    · rcases h with ⟨h1, rfl⟩ | ⟨h1, h⟩
      · rcases k with ⟨-, rfl⟩ | ⟨k1, -⟩
        · rfl
        · rw [h1] at k1; cases k1
      · rcases k with ⟨k1, -⟩ | ⟨-, k⟩
        · rw [h1] at k1; cases k1
        · rcases h with ⟨i, a1, a2, a3, rfl⟩ | ⟨a1, rfl⟩
          · rcases k with ⟨j, b1, b2, b3, rfl⟩ | ⟨b1, -⟩
            · rcases Nat.lt_trichotomy i j with hij | rfl | hij
              · have := b2 i hij; rw [a3] at this; cases this
              · rfl
              · have := a2 j hij; rw [b3] at this; cases this
            · have := b1 i a1; rw [a3] at this; cases this
          · rcases k with ⟨j, b1, b2, b3, rfl⟩ | ⟨b1, rfl⟩
            · have := a1 j b1; rw [b3] at this; cases this
            · rfl
    · exact absurd h0 k0
  · rcases k with ⟨k0, -⟩ | ⟨-, rfl⟩
    · exact absurd k0 h0
    · rfl
theorem tight_form {x : Tb} {l : List Tr} {e : Ending} (h : TightR x l e) : ∃ v er : Int, e = .returned (.tuple #[.int .i64 v, .int .i64 er]) := by
  rcases h with ⟨-, ⟨m, -, -, -, -, h⟩ | ⟨-, h⟩⟩ | ⟨-, h⟩ <;> exact ⟨_, _, h⟩
theorem tight_det {x : Tb} {l : List Tr} {e e' : Ending} (h : TightR x l e) (k : TightR x l e') : e' = e := by
  rcases h with ⟨h0, h⟩ | ⟨h0, rfl⟩
  · rcases k with ⟨-, k⟩ | ⟨k0, -⟩
    · rcases h with ⟨i, a0, a1, a2, a3, rfl⟩ | ⟨a1, rfl⟩
      · rcases k with ⟨j, b0, b1, b2, b3, rfl⟩ | ⟨b1, -⟩
        · rcases Int.lt_trichotomy i j with hij | rfl | hij
          · have := b3 i a0 hij; rw [a2] at this; cases this
          · rfl
          · have := a3 j b0 hij; rw [b2] at this; cases this
        · have := b1 i a0 a1; rw [a2] at this; cases this
      · rcases k with ⟨j, b0, b1, b2, b3, rfl⟩ | ⟨b1, rfl⟩
        · have := a1 j b0 b1; rw [b2] at this; cases this
        · rfl
    · exact absurd h0 k0
  · rcases k with ⟨k0, -⟩ | ⟨-, rfl⟩
    · exact absurd k0 h0
    · rfl
end Go.Proofs.Ytbcabckokmjelaa
