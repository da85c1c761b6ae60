/-
  NightCircle: the walk. No conditions.
-/
import Derived.Test.YtomgaiokmdcjmaaTN
import Derived.Test.YtomgaiokmdcjmaaNt54
namespace Go.Proofs.Ytomgaiokmdcjmaa
open Go.RowKit Go.Deep
set_option linter.unusedVariables false
set_option linter.unusedSimpArgs false
theorem cir_hab (n : Int) (l : List Sg) : cirE n l = 0 ↔ habE n l = 9 := by
  cases hv : vdB n l with
  | false => rw [cirE_7 hv, habE_7 hv]; omega
  | true =>
    obtain ⟨k, rfl⟩ := vd_nat hv
    by_cases hs : SatE l k
    · rw [cirE_8 hv hs]
      by_cases hj : JoinE l k
      · rw [habE_0 hv hs hj]; omega
      · rw [habE_8 hv hs hj]; omega
    · rw [cirE_0 hv hs, habE_9 hv hs]; omega
theorem cir_vd {n : Int} {l : List Sg} (h : cirE n l = 0) : ∃ k : Nat, n = (k : Int) ∧ VdP k l := by
  cases hv : vdB n l with
  | false => rw [cirE_7 hv] at h; omega
  | true => obtain ⟨k, rfl⟩ := vd_nat hv; exact ⟨k, rfl, VdP.of hv⟩
set_option maxHeartbeats 8000000 in
set_option maxRecDepth 100000 in
theorem NightCircle_walk (w : World) (o : Int) (A : Option Addr) (cap : Nat) (l : List Sg) (ho : I64 o) (hl : l.length ≤ cap) (hm : cap ≤ maxLen) (hr : RdL w w.heap.size sgE 5 A l) (hw : ∀ x ∈ l, ∃ g : Nat → Int, x = (⟨g 0, g 1, g 2, g 3, g 4⟩ : Sg) ∧ ∀ j, j < 5 → I64 (g j)) :
    Calls Try.prog 11 #[.int .i64 o, .slice A l.length cap] w fun e w' => e = .returned (.bool true) ∧ Below w.heap.size w w' := by
  have h9 : l.length ≤ 9223372036854775807 := by unfold maxLen at hm; omega
  have hA2 : l.length = 0 ∨ ∃ b off, A = some ⟨b, off, none⟩ ∧ b < w.heap.size := by
    rcases Nat.eq_zero_or_pos l.length with h | h
    · exact .inl h
    · obtain ⟨b, off, e, hlt, -⟩ := hr h
      exact .inr ⟨b, off, e, hlt⟩
  have hA3 : ∀ W, Below w.heap.size w W → l.length = 0 ∨ ∃ b off, A = some ⟨b, off, none⟩ ∧ b < W.heap.size := fun W hb => by
    rcases hA2 with h | ⟨b, off, e, h⟩
    · exact .inl h
    · exact .inr ⟨b, off, e, by have := hb.size; omega⟩
  have H1 := Lib.hid (fun W (hb : Below w.heap.size w W) => Circle_c o l A cap h9 W (hr.step hb) (hA3 W hb))
  have H2 := Lib.hid (fun W (hb : Below w.heap.size w W) => Habits_c o l A cap h9 W (hr.step hb) (hA3 W hb))
  have H3 := Lib.hid (fun W (hb : Below w.heap.size w W) => CircleError_c o l A cap h9 W (hr.step hb))
  have H4 : Hid (∀ W, Below w.heap.size w W → ∀ (C : List Nat) (B : Option Addr) (cb a : Nat) (s : Int), cirE o l = 0 → Chn l a C a s → s ≠ 0 → 1 ≤ C.length → C.length ≤ 100 → RdL W W.heap.size inE 1 B (C.map Int.ofNat) →
      Calls Try.prog 52 #[.slice A l.length cap, .slice B C.length cb] W fun e w' => e = .returned (.bool true) ∧ Below W.heap.size W w') := Lib.hid (fun W hb C B cb a s h0 hC hs h1 h2 hB => by
    obtain ⟨k, rfl, hd⟩ := cir_vd h0
    exact Closes_c l k hd A cap C B cb a s hC hs h1 h2 W (hr.step hb) hB)
  have HE := Lib.hid (cir_hab o l)
  clear hl hm hr hw ho h9 hA2 hA3
  by_cases hm40 : l.length ≤ 40
  case neg =>
    have u1 : decide ((l.length : Int) > 40) = true := decide_eq_true (by omega)
    generalize l.length = m at *
    go_enter Try.func11, Try.ntmps11
    go_wp2_with fail
    refine (awake_c _).mono ?_
    rintro e w3 ⟨rfl, hb3⟩
    go_wp2
    go_ret
    exact ⟨rfl, by (repeat (first | exact Below.refl _ _ | refine Below.drew ?_ | refine Below.allocS ?_ _ | refine Below.step ?_ (by assumption) | refine Below.setCell ?_ (by simp <;> omega) _ | refine Below.drewN' ?_ _))⟩
  have u1 : decide ((l.length : Int) > 40) = false := decide_eq_false (by omega)
  generalize cirE o l = E at *
  generalize habE o l = G at *
  generalize hmm : l.length = m at *
  go_enter Try.func11, Try.ntmps11
  go_wp2_with fail
  refine (H1.out _ (by (repeat (first | exact Below.refl _ _ | refine Below.drew ?_ | refine Below.allocS ?_ _ | refine Below.step ?_ (by assumption) | refine Below.setCell ?_ (by simp <;> omega) _ | refine Below.drewN' ?_ _)))).mono ?_
  rintro e w1 ⟨⟨A1, c1, C, rfl, r1, z1, o1⟩, hb1⟩
  have g1 : Below w.heap.size w w1 := by (repeat (first | exact Below.refl _ _ | refine Below.drew ?_ | refine Below.allocS ?_ _ | refine Below.step ?_ (by assumption) | refine Below.setCell ?_ (by simp <;> omega) _ | refine Below.drewN' ?_ _))
  clear hb1
  have Z1 := Lib.hid z1
  have O1 := Lib.hid o1
  clear z1 o1
  go_wp2_with fail
  refine (H2.out _ (by (repeat (first | exact Below.refl _ _ | refine Below.drew ?_ | refine Below.allocS ?_ _ | refine Below.step ?_ (by assumption) | refine Below.setCell ?_ (by simp <;> omega) _ | refine Below.drewN' ?_ _)))).mono ?_
  rintro e w2 ⟨⟨A2, c2, rfl, r2⟩, hb2⟩
  replace r1 := r1.step (W := w2) (by (repeat (first | exact Below.refl _ _ | refine Below.drew ?_ | refine Below.allocS ?_ _ | refine Below.step ?_ (by assumption) | refine Below.setCell ?_ (by simp <;> omega) _ | refine Below.drewN' ?_ _)))
  have g2 : Below w.heap.size w w2 := by (repeat (first | exact Below.refl _ _ | refine Below.drew ?_ | refine Below.allocS ?_ _ | refine Below.step ?_ (by assumption) | refine Below.setCell ?_ (by simp <;> omega) _ | refine Below.drewN' ?_ _))
  clear hb2 g1 
  clear r2
  go_wp2_with fail
  refine (H3.out _ (by (repeat (first | exact Below.refl _ _ | refine Below.drew ?_ | refine Below.allocS ?_ _ | refine Below.step ?_ (by assumption) | refine Below.setCell ?_ (by simp <;> omega) _ | refine Below.drewN' ?_ _)))).mono ?_
  rintro e w3 ⟨rfl, hb3⟩
  replace r1 := r1.step (W := w3) (by (repeat (first | exact Below.refl _ _ | refine Below.drew ?_ | refine Below.allocS ?_ _ | refine Below.step ?_ (by assumption) | refine Below.setCell ?_ (by simp <;> omega) _ | refine Below.drewN' ?_ _)))
  have g3 : Below w.heap.size w w3 := by (repeat (first | exact Below.refl _ _ | refine Below.drew ?_ | refine Below.allocS ?_ _ | refine Below.step ?_ (by assumption) | refine Below.setCell ?_ (by simp <;> omega) _ | refine Below.drewN' ?_ _))
  clear hb3 g2 
  clear H1 H2 H3
  have d0 : (E != E) = false := by simp
  by_cases hE : E = 0
  case neg =>
    have d1 : (E != 0) = true := by simp [hE]
    have d2 : (E == 0) = false := by simp [hE]
    have hG : G ≠ 9 := fun h => hE (HE.out.2 h)
    have d3 : (G == 9) = false := by simp [hG]
    obtain rfl := Z1.out hE
    clear hE hG Z1 O1 H4 HE
    go_wp2_with fail
    refine (awake_c _).mono ?_
    rintro e w9 ⟨rfl, hb9⟩
    go_wp2
    go_ret
    exact ⟨rfl, by (repeat (first | exact Below.refl _ _ | refine Below.drew ?_ | refine Below.allocS ?_ _ | refine Below.step ?_ (by assumption) | refine Below.setCell ?_ (by simp <;> omega) _ | refine Below.drewN' ?_ _))⟩
  subst hE
  obtain rfl : G = 9 := HE.out.1 rfl
  obtain ⟨a, s, hC, hs, k1, k2⟩ := O1.out rfl
  have H5 := Lib.hid (fun W (hb : Below w.heap.size w W) hB => H4.out W hb C A1 c1 a s rfl hC hs k1 k2 hB)
  have R1 := Lib.hid r1
  clear hC hs H4 HE Z1 O1 r1
  have hbw3 : Below w.heap.size w w3 := by (repeat (first | exact Below.refl _ _ | refine Below.drew ?_ | refine Below.allocS ?_ _ | refine Below.step ?_ (by assumption) | refine Below.setCell ?_ (by simp <;> omega) _ | refine Below.drewN' ?_ _))
  generalize C.length = N at *
  go_wp2_with fail
  refine (H5.out _ hbw3 R1.out).mono ?_
  rintro e w4 ⟨rfl, hb4⟩
  go_wp2_with fail
  refine (awake_c _).mono ?_
  rintro e w9 ⟨rfl, hb9⟩
  go_wp2
  go_ret
  exact ⟨rfl, Below.step (Below.step hbw3 hb4) hb9⟩
end Go.Proofs.Ytomgaiokmdcjmaa
