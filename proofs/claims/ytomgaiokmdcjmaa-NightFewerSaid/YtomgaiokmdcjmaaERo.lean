/-
  NightRotas: the walk. No conditions.
-/
import Derived.Test.YtomgaiokmdcjmaaTN
import Derived.Test.YtomgaiokmdcjmaaRo12
namespace Go.Proofs.Ytomgaiokmdcjmaa
open Go.RowKit Go.Deep
set_option linter.unusedVariables false
set_option linter.unusedSimpArgs false
def lightB (n : Nat) : Bool := decide (n ≤ 5) || (decide (12 < n) && decide (n ≤ 20))
theorem light_c (A : Option Addr) (n cap : Nat) (w : World) : Calls Try.prog 29 #[.slice A n cap] w fun e w' => e = .returned (.bool (lightB n)) ∧ w' = w := by
  by_cases h5 : n ≤ 5
  · have d1 : decide ((n : Int) ≤ 5) = true := decide_eq_true (by omega)
    have d1' : decide (n ≤ 5) = true := decide_eq_true h5
    have hL : lightB n = true := by unfold lightB; rw [d1']; rfl
    rw [hL]
    clear hL h5
    go_enter Try.func29, Try.ntmps29
    go_wp2
    go_ret
    exact ⟨rfl, rfl⟩
  have d1 : decide ((n : Int) ≤ 5) = false := decide_eq_false (by omega)
  have d1' : decide (n ≤ 5) = false := decide_eq_false h5
  by_cases h12 : 12 < n
  case neg =>
    have d2 : decide ((n : Int) > 12) = false := decide_eq_false (by omega)
    have d3 : decide (12 < (n : Int)) = false := decide_eq_false (by omega)
    have d2' : decide (12 < n) = false := decide_eq_false h12
    have hL : lightB n = false := by unfold lightB; rw [d1', d2']; rfl
    rw [hL]
    clear hL h5 h12
    go_enter Try.func29, Try.ntmps29
    go_wp2
    go_ret
    exact ⟨rfl, rfl⟩
  have d2 : decide ((n : Int) > 12) = true := decide_eq_true (by omega)
  have d3 : decide (12 < (n : Int)) = true := decide_eq_true (by omega)
  have d2' : decide (12 < n) = true := decide_eq_true h12
  by_cases h20 : n ≤ 20
  · have d4 : decide ((n : Int) ≤ 20) = true := decide_eq_true (by omega)
    have d4' : decide (n ≤ 20) = true := decide_eq_true h20
    have hL : lightB n = true := by unfold lightB; rw [d1', d2', d4']; rfl
    rw [hL]
    clear hL h5 h12 h20
    go_enter Try.func29, Try.ntmps29
    go_wp2
    go_ret
    exact ⟨rfl, rfl⟩
  · have d4 : decide ((n : Int) ≤ 20) = false := decide_eq_false (by omega)
    have d4' : decide (n ≤ 20) = false := decide_eq_false h20
    have hL : lightB n = false := by unfold lightB; rw [d1', d2', d4']; rfl
    rw [hL]
    clear hL h5 h12 h20
    go_enter Try.func29, Try.ntmps29
    go_wp2
    go_ret
    exact ⟨rfl, rfl⟩
theorem isRI_nat {K : Crw} : ∀ (t b : List Nat), isR K b t = true → isRI K b (t.map Int.ofNat) = true
  | [], b, _ => rfl
  | o :: t, b, h => by
    unfold isR at h
    simp only [Bool.and_eq_true, decide_eq_true_eq] at h
    rw [List.map_cons]
    unfold isRI
    have e : (Int.ofNat o).toNat = o := rfl
    rw [e, h.2.1, isRI_nat t (b ++ [o]) h.2.2]
    have h1 : decide ((0 : Int) ≤ Int.ofNat o) = true := decide_eq_true (Int.natCast_nonneg o)
    have h2 : decide (Int.ofNat o < (K.obs : Int)) = true := decide_eq_true (Int.ofNat_lt.2 h.1)
    rw [h1, h2]; rfl
theorem rta_is {xs : List Int} {o m : Int} (h : rtaE xs o m = 0) : isRB xs o m ((rtaL xs o m).map Int.ofNat) = true ∧ (rtaL xs o m).length ≤ 12 := by
  cases ha : askB xs o m with
  | false => rw [(rtaE_no ha).1] at h; omega
  | true =>
    have hc := crw_ok ha
    by_cases h0 : rN (crw xs o m) xs.length [] = 0
    · rw [(rtaE_none ha h0).1] at h; omega
    · obtain ⟨t, h1, h2⟩ := rF_is h0
      have hl := rF_len h0
      rw [List.nil_append] at h1
      rw [(rtaE_yes ha h0).2]
      unfold isRB
      rw [ha, List.length_map, hl, h1, isRI_nat t [] h2]
      simp at hl ⊢
      rw [h1] at hl
      omega
theorem rta_facts (xs : List Int) (o m : Int) : (askQ xs o m = 0 ∨ askQ xs o m = 7) ∧ (askQ xs o m = 7 → rtaE xs o m = 7) ∧ (askQ xs o m = 0 → (rtaE xs o m = 8 ∧ rtV xs o m = 0) ∨ (rtaE xs o m = 0 ∧ rtV xs o m ≠ 0)) := by
  cases ha : askB xs o m with
  | false => rw [askQ_no ha, (rtaE_no ha).1]; exact ⟨.inr rfl, fun _ => rfl, fun h => by omega⟩
  | true =>
    rw [askQ_yes ha]
    refine ⟨.inl rfl, fun h => by omega, fun _ => ?_⟩
    have hV : rtV xs o m = (rN (crw xs o m) xs.length [] : Int) := by unfold rtV; rw [ha]; rfl
    rw [hV]
    by_cases h0 : rN (crw xs o m) xs.length [] = 0
    · exact .inl ⟨(rtaE_none ha h0).1, by rw [h0]; rfl⟩
    · exact .inr ⟨(rtaE_yes ha h0).1, by omega⟩
set_option maxHeartbeats 8000000 in
set_option maxRecDepth 100000 in
theorem NightRotas_walk (w : World) (A : Option Addr) (cap : Nat) (xs : List Int) (o m : Int) (B : Option Addr) (cb : Nat) (t : List Int) (hl : xs.length ≤ cap) (hm : cap ≤ maxLen) (hr : RdL w w.heap.size inE 1 A xs) (hw : ∀ x ∈ xs, ∃ g : Nat → Int, x = g 0 ∧ ∀ j, j < 1 → I64 (g j)) (ho : I64 o) (hp : I64 m)
    (jl : t.length ≤ cb) (jm : cb ≤ maxLen) (jr : RdL w w.heap.size inE 1 B t) (jw : ∀ x ∈ t, ∃ g : Nat → Int, x = g 0 ∧ ∀ j, j < 1 → I64 (g j)) :
    Calls Try.prog 10 #[.slice A xs.length cap, .int .i64 o, .int .i64 m, .slice B t.length cb] w fun e w' => e = .returned (.bool true) ∧ Below w.heap.size w w' := by
  obtain ⟨n, hn⟩ : ∃ n, n = xs.length := ⟨_, rfl⟩
  obtain ⟨tl, htl⟩ : ∃ tl, tl = t.length := ⟨_, rfl⟩
  have H1 := Lib.hid (fun (h : n ≤ 20) W (hb : Below w.heap.size w W) => Rota_c xs n hn.symm (by omega) A cap o m W (hr.step hb))
  have H2 := Lib.hid (fun (h : n ≤ 20) W (hb : Below w.heap.size w W) => rRota_c xs n hn.symm (by omega) A cap o m W (hr.step hb))
  have H3 := Lib.hid (fun (h : n ≤ 20) W (hb : Below w.heap.size w W) => Rotas_c xs n hn.symm (by omega) A cap o m W (hr.step hb))
  have H4 := Lib.hid (fun (h : n ≤ 20) W (hb : Below w.heap.size w W) => rRotas_c xs n hn.symm (by omega) A cap o m W (hr.step hb))
  have H5 := Lib.hid (fun (h : n ≤ 20) (h2 : tl ≤ 20) W (hb : Below w.heap.size w W) => IsRota_c xs n hn.symm (by omega) A cap o m t tl htl.symm (by omega) B cb W (hr.step hb) (jr.step hb))
  have H6 := Lib.hid (fun (h : n ≤ 20) (h2 : tl ≤ 20) W (hb : Below w.heap.size w W) => rIsRota_c xs n hn.symm (by omega) A cap o m t tl htl.symm (by omega) B cb (by omega) W (hr.step hb) (jr.step hb))
  have H7 := Lib.hid (fun (h : n ≤ 20) (t2 : List Int) (k : Nat) (hk : t2.length = k) (h2 : k ≤ 20) (C : Option Addr) (cc : Nat) W (hb : Below w.heap.size w W) (hC : RdL W W.heap.size inE 1 C t2) => IsRota_c xs n hn.symm (by omega) A cap o m t2 k hk (by omega) C cc W (hr.step hb) hC)
  have HF := Lib.hid (rta_facts xs o m)
  have HI := Lib.hid (@rta_is xs o m)
  rw [← hn, ← htl]
  clear hl hm hr hw ho hp jl jm jr jw
  cases hL : lightB n with
  | false =>
    have HLI := Lib.hid (fun W => light_c A n cap W)
    rw [hL] at HLI
    clear H1 H2 H3 H4 H5 H6 H7 HF HI hn htl hL
    go_enter Try.func10, Try.ntmps10
    go_wp2_with fail
    refine (HLI.out _).mono ?_
    rintro e w' ⟨rfl, hw'⟩; replace hw' := hw'.symm; subst hw'
    go_wp2_with fail
    refine (awake_c _).mono ?_
    rintro e w3 ⟨rfl, hb3⟩
    go_wp2
    go_ret
    exact ⟨rfl, by (repeat (first | exact Below.refl _ _ | refine Below.drew ?_ | refine Below.allocS ?_ _ | refine Below.step ?_ (by assumption) | refine Below.setCell ?_ (by simp <;> omega) _ | refine Below.drewN' ?_ _))⟩
  | true =>
    have HLI := Lib.hid (fun W => light_c A n cap W)
    rw [hL] at HLI
    have hn20 : n ≤ 20 := by
      unfold lightB at hL
      simp only [Bool.or_eq_true, Bool.and_eq_true, decide_eq_true_eq] at hL
      omega
    by_cases ht20 : tl ≤ 20
    case neg =>
      have u1 : decide ((tl : Int) > 20) = true := decide_eq_true (by omega)
      have u2 : decide (20 < (tl : Int)) = true := decide_eq_true (by omega)
      clear H1 H2 H3 H4 H5 H6 H7 HF HI hn htl hL
      go_enter Try.func10, Try.ntmps10
      go_wp2_with fail
      refine (HLI.out _).mono ?_
      rintro e w' ⟨rfl, hw'⟩; replace hw' := hw'.symm; subst hw'
      go_wp2_with fail
      refine (awake_c _).mono ?_
      rintro e w3 ⟨rfl, hb3⟩
      go_wp2
      go_ret
      exact ⟨rfl, by (repeat (first | exact Below.refl _ _ | refine Below.drew ?_ | refine Below.allocS ?_ _ | refine Below.step ?_ (by assumption) | refine Below.setCell ?_ (by simp <;> omega) _ | refine Below.drewN' ?_ _))⟩
    have u1 : decide ((tl : Int) > 20) = false := decide_eq_false (by omega)
    have u2 : decide (20 < (tl : Int)) = false := decide_eq_false (by omega)
    obtain ⟨L, hLL⟩ : ∃ L, L = rtaL xs o m := ⟨_, rfl⟩
    have H1 := Lib.hid (H1.out hn20)
    have H2 := Lib.hid (H2.out hn20)
    have H3 := Lib.hid (H3.out hn20)
    have H4 := Lib.hid (H4.out hn20)
    have H5 := Lib.hid (H5.out hn20 ht20)
    have H6 := Lib.hid (H6.out hn20 ht20)
    have H7 := Lib.hid (H7.out hn20)
    rw [← hLL] at H1 H2 HI
    obtain ⟨nL, hnL⟩ : ∃ k, k = L.length := ⟨_, rfl⟩
    have HNL : Hid ((L.map Int.ofNat).length = nL) := Lib.hid (by rw [List.length_map]; exact hnL.symm)
    rw [← hnL] at H1 H2 HI
    have hI2 : rtaE xs o m = 0 → isRB xs o m (L.map Int.ofNat) = true ∧ nL ≤ 12 := HI.out
    have hnl9 : nL ≤ 9223372036854775807 := by
      by_cases h : rtaE xs o m = 0
      · have := (hI2 h).2; omega
      · have : L = [] := by rw [hLL]; unfold rtaL; rw [if_neg h]
        rw [hnL, this]; simp
    have HSI := Lib.hid (fun A2 c2 A3 c3 W h1 h2 => SameInts_c (L.map Int.ofNat) (L.map Int.ofNat) nL nL HNL.out HNL.out A2 A3 c2 c3 hnl9 W h1 h2)
    rw [show decide (L.map Int.ofNat = L.map Int.ofNat) = true from decide_eq_true rfl] at HSI
    have HI2 := Lib.hid hI2
    generalize rtaE xs o m = E at *
    generalize askQ xs o m = G at *
    generalize rtV xs o m = V at *
    generalize isRB xs o m t = X at *
    have x1 : (X != X) = false := by simp
    have x2 : (E != E) = false := by simp
    have x3 : (G != G) = false := by simp
    have x4 : (V != V) = false := by simp
    clear hI2 HI hLL hnL hn htl hL
    obtain ⟨hG, hE7, hE0⟩ := HF.out
    have HE7 := Lib.hid hE7
    have HE0 := Lib.hid hE0
    clear HF hE7 hE0
    go_enter Try.func10, Try.ntmps10
    go_wp2_with fail
    refine (HLI.out _).mono ?_
    rintro e w' ⟨rfl, hw'⟩; replace hw' := hw'.symm; subst hw'
    go_wp2_with fail
    refine (H1.out _ (by (repeat (first | exact Below.refl _ _ | refine Below.drew ?_ | refine Below.allocS ?_ _ | refine Below.step ?_ (by assumption) | refine Below.setCell ?_ (by simp <;> omega) _ | refine Below.drewN' ?_ _)))).mono ?_
    rintro e w2 ⟨⟨A2, c2, rfl, r2⟩, hb2⟩
    have g2 : Below w.heap.size w w2 := by (repeat (first | exact Below.refl _ _ | refine Below.drew ?_ | refine Below.allocS ?_ _ | refine Below.step ?_ (by assumption) | refine Below.setCell ?_ (by simp <;> omega) _ | refine Below.drewN' ?_ _))
    clear hb2
    go_wp2_with fail
    refine (H2.out _ (by (repeat (first | exact Below.refl _ _ | refine Below.drew ?_ | refine Below.allocS ?_ _ | refine Below.step ?_ (by assumption) | refine Below.setCell ?_ (by simp <;> omega) _ | refine Below.drewN' ?_ _)))).mono ?_
    rintro e w3 ⟨⟨A3, c3, rfl, r3⟩, hb3⟩
    replace r2 := r2.step (W := w3) (by (repeat (first | exact Below.refl _ _ | refine Below.drew ?_ | refine Below.allocS ?_ _ | refine Below.step ?_ (by assumption) | refine Below.setCell ?_ (by simp <;> omega) _ | refine Below.drewN' ?_ _)))
    have g3 : Below w.heap.size w w3 := by (repeat (first | exact Below.refl _ _ | refine Below.drew ?_ | refine Below.allocS ?_ _ | refine Below.step ?_ (by assumption) | refine Below.setCell ?_ (by simp <;> omega) _ | refine Below.drewN' ?_ _))
    clear hb3 g2 
    go_wp2_with fail
    refine (H3.out _ (by (repeat (first | exact Below.refl _ _ | refine Below.drew ?_ | refine Below.allocS ?_ _ | refine Below.step ?_ (by assumption) | refine Below.setCell ?_ (by simp <;> omega) _ | refine Below.drewN' ?_ _)))).mono ?_
    rintro e w4 ⟨rfl, hb4⟩
    replace r2 := r2.step (W := w4) (by (repeat (first | exact Below.refl _ _ | refine Below.drew ?_ | refine Below.allocS ?_ _ | refine Below.step ?_ (by assumption) | refine Below.setCell ?_ (by simp <;> omega) _ | refine Below.drewN' ?_ _)))
    replace r3 := r3.step (W := w4) (by (repeat (first | exact Below.refl _ _ | refine Below.drew ?_ | refine Below.allocS ?_ _ | refine Below.step ?_ (by assumption) | refine Below.setCell ?_ (by simp <;> omega) _ | refine Below.drewN' ?_ _)))
    have g4 : Below w.heap.size w w4 := by (repeat (first | exact Below.refl _ _ | refine Below.drew ?_ | refine Below.allocS ?_ _ | refine Below.step ?_ (by assumption) | refine Below.setCell ?_ (by simp <;> omega) _ | refine Below.drewN' ?_ _))
    clear hb4 g3 
    go_wp2_with fail
    refine (H4.out _ (by (repeat (first | exact Below.refl _ _ | refine Below.drew ?_ | refine Below.allocS ?_ _ | refine Below.step ?_ (by assumption) | refine Below.setCell ?_ (by simp <;> omega) _ | refine Below.drewN' ?_ _)))).mono ?_
    rintro e w5 ⟨rfl, hb5⟩
    replace r2 := r2.step (W := w5) (by (repeat (first | exact Below.refl _ _ | refine Below.drew ?_ | refine Below.allocS ?_ _ | refine Below.step ?_ (by assumption) | refine Below.setCell ?_ (by simp <;> omega) _ | refine Below.drewN' ?_ _)))
    replace r3 := r3.step (W := w5) (by (repeat (first | exact Below.refl _ _ | refine Below.drew ?_ | refine Below.allocS ?_ _ | refine Below.step ?_ (by assumption) | refine Below.setCell ?_ (by simp <;> omega) _ | refine Below.drewN' ?_ _)))
    have g5 : Below w.heap.size w w5 := by (repeat (first | exact Below.refl _ _ | refine Below.drew ?_ | refine Below.allocS ?_ _ | refine Below.step ?_ (by assumption) | refine Below.setCell ?_ (by simp <;> omega) _ | refine Below.drewN' ?_ _))
    clear hb5 g4 
    go_wp2_with fail
    refine (HSI.out A2 c2 A3 c3 _ r2 r3).mono ?_
    rintro e w6 ⟨rfl, hb6⟩
    replace r2 := r2.step (W := w6) (by (repeat (first | exact Below.refl _ _ | refine Below.drew ?_ | refine Below.allocS ?_ _ | refine Below.step ?_ (by assumption) | refine Below.setCell ?_ (by simp <;> omega) _ | refine Below.drewN' ?_ _)))
    replace r3 := r3.step (W := w6) (by (repeat (first | exact Below.refl _ _ | refine Below.drew ?_ | refine Below.allocS ?_ _ | refine Below.step ?_ (by assumption) | refine Below.setCell ?_ (by simp <;> omega) _ | refine Below.drewN' ?_ _)))
    have g6 : Below w.heap.size w w6 := by (repeat (first | exact Below.refl _ _ | refine Below.drew ?_ | refine Below.allocS ?_ _ | refine Below.step ?_ (by assumption) | refine Below.setCell ?_ (by simp <;> omega) _ | refine Below.drewN' ?_ _))
    clear hb6 g5 
    go_wp2_with fail
    refine (H5.out _ (by (repeat (first | exact Below.refl _ _ | refine Below.drew ?_ | refine Below.allocS ?_ _ | refine Below.step ?_ (by assumption) | refine Below.setCell ?_ (by simp <;> omega) _ | refine Below.drewN' ?_ _)))).mono ?_
    rintro e w7 ⟨rfl, hb7⟩
    replace r2 := r2.step (W := w7) (by (repeat (first | exact Below.refl _ _ | refine Below.drew ?_ | refine Below.allocS ?_ _ | refine Below.step ?_ (by assumption) | refine Below.setCell ?_ (by simp <;> omega) _ | refine Below.drewN' ?_ _)))
    replace r3 := r3.step (W := w7) (by (repeat (first | exact Below.refl _ _ | refine Below.drew ?_ | refine Below.allocS ?_ _ | refine Below.step ?_ (by assumption) | refine Below.setCell ?_ (by simp <;> omega) _ | refine Below.drewN' ?_ _)))
    have g7 : Below w.heap.size w w7 := by (repeat (first | exact Below.refl _ _ | refine Below.drew ?_ | refine Below.allocS ?_ _ | refine Below.step ?_ (by assumption) | refine Below.setCell ?_ (by simp <;> omega) _ | refine Below.drewN' ?_ _))
    clear hb7 g6 
    go_wp2_with fail
    refine (H6.out _ (by (repeat (first | exact Below.refl _ _ | refine Below.drew ?_ | refine Below.allocS ?_ _ | refine Below.step ?_ (by assumption) | refine Below.setCell ?_ (by simp <;> omega) _ | refine Below.drewN' ?_ _)))).mono ?_
    rintro e w8 ⟨rfl, hb8⟩
    replace r2 := r2.step (W := w8) (by (repeat (first | exact Below.refl _ _ | refine Below.drew ?_ | refine Below.allocS ?_ _ | refine Below.step ?_ (by assumption) | refine Below.setCell ?_ (by simp <;> omega) _ | refine Below.drewN' ?_ _)))
    replace r3 := r3.step (W := w8) (by (repeat (first | exact Below.refl _ _ | refine Below.drew ?_ | refine Below.allocS ?_ _ | refine Below.step ?_ (by assumption) | refine Below.setCell ?_ (by simp <;> omega) _ | refine Below.drewN' ?_ _)))
    have g8 : Below w.heap.size w w8 := by (repeat (first | exact Below.refl _ _ | refine Below.drew ?_ | refine Below.allocS ?_ _ | refine Below.step ?_ (by assumption) | refine Below.setCell ?_ (by simp <;> omega) _ | refine Below.drewN' ?_ _))
    clear hb8 g7 
    have R2 := Lib.hid r2
    have hbw8 : Below w.heap.size w w8 := by (repeat (first | exact Below.refl _ _ | refine Below.drew ?_ | refine Below.allocS ?_ _ | refine Below.step ?_ (by assumption) | refine Below.setCell ?_ (by simp <;> omega) _ | refine Below.drewN' ?_ _))
    clear H1 H2 H3 H4 H5 H6 HSI r2 r3
    rcases hG with rfl | rfl
    case inr =>
      obtain rfl : E = 7 := HE7.out rfl
      go_wp2_with fail
      refine (awake_c _).mono ?_
      rintro e w9 ⟨rfl, hb9⟩
      go_wp2
      go_ret
      exact ⟨rfl, Below.step hbw8 hb9⟩
    case inl =>
      rcases HE0.out rfl with ⟨rfl, rfl⟩ | ⟨rfl, hV⟩
      · go_wp2_with fail
        refine (awake_c _).mono ?_
        rintro e w9 ⟨rfl, hb9⟩
        go_wp2
        go_ret
        exact ⟨rfl, Below.step hbw8 hb9⟩
      · have y1 : (V == 0) = false := by simp [hV]
        obtain ⟨hi1, hi2⟩ := HI2.out rfl
        have H8 := Lib.hid (H7.out (L.map Int.ofNat) nL HNL.out (by omega) A2 c2 w8 hbw8 R2.out)
        rw [hi1] at H8
        clear hV hi1 hi2 HE0 HE7 HI2 H7
        go_wp2_with fail
        refine H8.out.mono ?_
        rintro e w9 ⟨rfl, hb9⟩
        go_wp2_with fail
        refine (awake_c _).mono ?_
        rintro e w10 ⟨rfl, hb10⟩
        go_wp2
        go_ret
        exact ⟨rfl, Below.step (Below.step hbw8 hb9) hb10⟩
end Go.Proofs.Ytomgaiokmdcjmaa
