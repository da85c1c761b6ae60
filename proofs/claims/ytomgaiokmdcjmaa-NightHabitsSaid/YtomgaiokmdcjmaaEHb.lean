/-
  NightHabits: the walk. No conditions.
-/
import Derived.Test.YtomgaiokmdcjmaaTN
import Derived.Test.YtomgaiokmdcjmaaNt50
namespace Go.Proofs.Ytomgaiokmdcjmaa
open Go.RowKit Go.Deep
set_option linter.unusedVariables false
set_option linter.unusedSimpArgs false
theorem hab_facts {n : Int} {l : List Sg} (h : habE n l = 0) : ∃ k : Nat, n = (k : Int) ∧ VdP k l ∧ (habR n l).length = k ∧ (∀ i, i < l.length → (habR n l).getD (l.getD i sg0).a.toNat 0 - (habR n l).getD (l.getD i sg0).b.toNat 0 = (l.getD i sg0).lo) ∧ (habR n l).getD 0 0 = 0 := by
  have hv : vdB n l = true := by
    cases hv : vdB n l with
    | true => rfl
    | false => rw [habE_7 hv] at h; omega
  obtain ⟨k, rfl⟩ := vd_nat hv
  have hd := VdP.of hv
  have hs : SatE l k := by
    refine Classical.byContradiction fun hc => ?_
    rw [habE_9 hv hc] at h; omega
  have hj : JoinE l k := by
    refine Classical.byContradiction fun hc => ?_
    rw [habE_8 hv hs hc] at h; omega
  obtain ⟨v, f, hsp, hst⟩ := hs
  have hR := habR_eq hd h hsp hst ((joinE_iff hsp).2 hj)
  have hg : ∀ o, o < k → (habR (k : Int) l).getD o 0 = v o := fun o ho => by
    rw [hR, List.getD_eq_getElem?_getD, List.getElem?_map, List.getElem?_range ho]; rfl
  have hn1 := hd.n1
  refine ⟨k, rfl, hd, by rw [hR]; simp, fun i hi => ?_, by rw [hg 0 (by omega)]; exact sat_zero (by omega) hsp hst⟩
  have ha := hd.a i hi
  have hb := hd.b i hi
  rw [hg _ (by omega), hg _ (by omega)]
  exact hst.at hi
set_option maxHeartbeats 8000000 in
set_option maxRecDepth 100000 in
theorem NightHabits_walk (w : World) (o : Int) (A : Option Addr) (cap : Nat) (l : List Sg) (ho : I64 o) (hl : l.length ≤ cap) (hm : cap ≤ maxLen) (hr : RdL w w.heap.size sgE 5 A l) (hw : ∀ x ∈ l, ∃ g : Nat → Int, x = (⟨g 0, g 1, g 2, g 3, g 4⟩ : Sg) ∧ ∀ j, j < 5 → I64 (g j)) :
    Calls Try.prog 7 #[.int .i64 o, .slice A l.length cap] w fun e w' => e = .returned (.bool true) ∧ Below w.heap.size w w' := by
  have h9 : l.length ≤ 9223372036854775807 := by unfold maxLen at hm; omega
  have H1 := Lib.hid (fun W (hb : Below w.heap.size w W) => Habits_c o l A cap h9 W (hr.step hb) (by
    rcases Nat.eq_zero_or_pos l.length with h | h
    · exact .inl h
    · obtain ⟨b, off, e, hlt, -⟩ := hr h
      exact .inr ⟨b, off, e, by have := hb.size; omega⟩))
  have H2 := Lib.hid (fun W (hb : Below w.heap.size w W) => rHabits_c o l A cap h9 W (hr.step hb))
  have HR := Lib.hid hr
  have HF := Lib.hid (@hab_facts o l)
  have h8 : (habR o l).length ≤ 8 := by
    by_cases h : habE o l = 0
    · obtain ⟨k, -, hd, e, -⟩ := hab_facts h
      rw [e]; exact hd.n8
    · rw [habR_nil h]; simp
  clear hl hm hr hw ho h9
  obtain ⟨m, hmm⟩ : ∃ m, m = l.length := ⟨_, rfl⟩
  have HM := Lib.hid hmm
  rw [← hmm] at H1 H2 ⊢
  clear hmm
  obtain ⟨R, hR⟩ : ∃ R, R = habR o l := ⟨_, rfl⟩
  rw [← hR] at H1 H2 HF h8
  generalize habE o l = E at *
  clear hR
  obtain ⟨nR, hnR⟩ : ∃ n, n = R.length := ⟨_, rfl⟩
  have HNR := Lib.hid hnR.symm
  rw [← hnR] at H1 H2 HF h8
  clear hnR
  have HSI := Lib.hid (fun A2 c2 A3 c3 (h : nR ≤ 9223372036854775807) W h1 h2 => SameInts_c R R nR nR HNR.out HNR.out A2 A3 c2 c3 h W h1 h2)
  have hdec : decide (R = R) = true := decide_eq_true rfl
  rw [hdec] at HSI
  clear hdec
  by_cases hm40 : m ≤ 40
  case neg =>
    have u1 : decide ((m : Int) > 40) = true := decide_eq_true (by omega)
    go_enter Try.func7, Try.ntmps7
    go_wp2_with fail
    refine (awake_c _).mono ?_
    rintro e w3 ⟨rfl, hb3⟩
    go_wp2
    go_ret
    exact ⟨rfl, by (repeat (first | exact Below.refl _ _ | refine Below.drew ?_ | refine Below.allocS ?_ _ | refine Below.step ?_ (by assumption) | refine Below.setCell ?_ (by simp <;> omega) _ | refine Below.drewN' ?_ _))⟩
  have u1 : decide ((m : Int) > 40) = false := decide_eq_false (by omega)
  go_enter Try.func7, Try.ntmps7
  go_wp2_with fail
  refine (H1.out _ (by (repeat (first | exact Below.refl _ _ | refine Below.drew ?_ | refine Below.allocS ?_ _ | refine Below.step ?_ (by assumption) | refine Below.setCell ?_ (by simp <;> omega) _ | refine Below.drewN' ?_ _)))).mono ?_
  rintro e w1 ⟨⟨A1, c1, rfl, r1⟩, hb1⟩
  have g1 : Below w.heap.size w w1 := by (repeat (first | exact Below.refl _ _ | refine Below.drew ?_ | refine Below.allocS ?_ _ | refine Below.step ?_ (by assumption) | refine Below.setCell ?_ (by simp <;> omega) _ | refine Below.drewN' ?_ _))
  clear hb1
  go_wp2_with fail
  refine (H2.out _ (by (repeat (first | exact Below.refl _ _ | refine Below.drew ?_ | refine Below.allocS ?_ _ | refine Below.step ?_ (by assumption) | refine Below.setCell ?_ (by simp <;> omega) _ | refine Below.drewN' ?_ _)))).mono ?_
  rintro e w2 ⟨⟨A2, c2, rfl, r2⟩, hb2⟩
  replace r1 := r1.step (W := w2) (by (repeat (first | exact Below.refl _ _ | refine Below.drew ?_ | refine Below.allocS ?_ _ | refine Below.step ?_ (by assumption) | refine Below.setCell ?_ (by simp <;> omega) _ | refine Below.drewN' ?_ _)))
  have g2 : Below w.heap.size w w2 := by (repeat (first | exact Below.refl _ _ | refine Below.drew ?_ | refine Below.allocS ?_ _ | refine Below.step ?_ (by assumption) | refine Below.setCell ?_ (by simp <;> omega) _ | refine Below.drewN' ?_ _))
  clear hb2 g1 
  clear H1 H2
  go_wp2_with fail
  refine (HSI.out A1 c1 A2 c2 (by omega) _ r1 r2).mono ?_
  rintro e w3 ⟨rfl, hb3⟩
  replace r1 := r1.step (W := w3) (by (repeat (first | exact Below.refl _ _ | refine Below.drew ?_ | refine Below.allocS ?_ _ | refine Below.step ?_ (by assumption) | refine Below.setCell ?_ (by simp <;> omega) _ | refine Below.drewN' ?_ _)))
  replace r2 := r2.step (W := w3) (by (repeat (first | exact Below.refl _ _ | refine Below.drew ?_ | refine Below.allocS ?_ _ | refine Below.step ?_ (by assumption) | refine Below.setCell ?_ (by simp <;> omega) _ | refine Below.drewN' ?_ _)))
  have g3 : Below w.heap.size w w3 := by (repeat (first | exact Below.refl _ _ | refine Below.drew ?_ | refine Below.allocS ?_ _ | refine Below.step ?_ (by assumption) | refine Below.setCell ?_ (by simp <;> omega) _ | refine Below.drewN' ?_ _))
  clear hb3 g2 
  have k3 := Lib.hid r1
  clear HSI r1 r2
  have d0 : (E != E) = false := by simp
  by_cases hE : E = 0
  case neg =>
    have d1 : (E != 0) = true := by simp [hE]
    clear hE HF
    go_wp2_with fail
    refine (awake_c _).mono ?_
    rintro e w9 ⟨rfl, hb9⟩
    go_wp2
    go_ret
    exact ⟨rfl, by (repeat (first | exact Below.refl _ _ | refine Below.drew ?_ | refine Below.allocS ?_ _ | refine Below.step ?_ (by assumption) | refine Below.setCell ?_ (by simp <;> omega) _ | refine Below.drewN' ?_ _))⟩
  subst hE
  obtain ⟨n, rfl, hd, hln, hdf, hz⟩ := HF.out rfl
  have HD := Lib.hid hd
  have HDF := Lib.hid hdf
  have hn1 := hd.n1
  subst hln
  have hbw3 : Below w.heap.size w w3 := by (repeat (first | exact Below.refl _ _ | refine Below.drew ?_ | refine Below.allocS ?_ _ | refine Below.step ?_ (by assumption) | refine Below.setCell ?_ (by simp <;> omega) _ | refine Below.drewN' ?_ _))
  obtain ⟨bR, oR, eA, hbR, hcR⟩ := k3.out (by rw [HNR.out]; omega)
  have HC : Hid (∀ W, Below w3.heap.size w3 W → ∀ j, j < nR → W.cell? ⟨bR, oR + j, none⟩ = some (.int .i64 (R.getD j 0))) := Lib.hid (fun W hb j hj => by
    have hj' : j < R.length := by rw [HNR.out]; exact hj
    have := hcR j hj' 0 (.int .i64 (R.getD j 0)) (by rw [List.getD_eq_getElem?_getD, List.getElem?_eq_getElem hj']; rfl)
    rw [Nat.mul_one, Nat.add_zero] at this
    exact keep_cell hb this)
  subst eA
  clear hcR HF hd hdf
  go_wp2_with fail
  go_loopw [41] (fun i wr => ∃ k : Nat, k ≤ m ∧ i = .int .i64 k ∧ Below w3.heap.size w3 wr) (fun i _ => m - (intOf i).toNat)
  case atStart => exact ⟨0, Nat.zero_le _, rfl, Below.refl _ _⟩
  case round =>
    rename World => U
    obtain ⟨k, hk, rfl, hbu⟩ := hrel
    have yU := hbu.size
    have yU3 := hbw3.size
    by_cases hlt : k < m
    case neg =>
      obtain rfl : m = k := by omega
      have v1 : decide ((m : Int) < (m : Int)) = false := decide_eq_false (by omega)
      have c0 : U.cell? ⟨bR, oR, none⟩ = some (.int .i64 0) := by
        have := HC.out U hbu 0 (by omega)
        rw [hz] at this
        exact this
      have yb := cell?_lt c0
      have z1 : (0 : Int) < (nR : Int) := by omega
      clear hz
      go_wp2_with fail
      refine (awake_c _).mono ?_
      rintro e w9 ⟨rfl, hb9⟩
      go_wp2
      go_ret
      exact ⟨rfl, Below.step (Below.step hbw3 hbu) hb9⟩
    have v1 : decide ((k : Int) < (m : Int)) = true := decide_eq_true (by omega)
    have v3 : IntKind.i64.wrap ((k : Int) + 1) = (k : Int) + 1 := IntWalk.i64_in _ (by omega)
    have hkl : k < l.length := by rw [← HM.out]; exact hlt
    have ea := HD.out.a k hkl
    have eb := HD.out.b k hkl
    have el := HD.out.lo k hkl
    have hsub := HDF.out k hkl
    obtain ⟨b, off, rfl, hb0, hch⟩ := sg_cells HR.out (by omega)
    obtain ⟨q0, q1, q2, q3, q4⟩ := hch U (Below.step hbw3 hbu) k hkl
    have yb : b < U.heap.size := cell?_lt q0
    generalize l.getD k sg0 = s at *
    clear hch hkl hz
    obtain ⟨a, hsa⟩ : ∃ a : Nat, a = s.a.toNat := ⟨_, rfl⟩
    obtain ⟨b2, hsb⟩ : ∃ b2 : Nat, b2 = s.b.toNat := ⟨_, rfl⟩
    rw [← hsa, ← hsb] at hsub
    have r1 : s.a = (a : Int) := by omega
    have r2 : s.b = (b2 : Int) := by omega
    have r3 : a < nR := by omega
    have r4 : b2 < nR := by omega
    rw [r1] at q1
    rw [r2] at q2
    have ca := HC.out U hbu a r3
    have cb := HC.out U hbu b2 r4
    clear hsa hsb r1 r2 ea eb
    generalize R.getD a 0 = va at *
    generalize R.getD b2 0 = vb at *
    have v4 : IntKind.i64.wrap (va - vb) = s.lo := by rw [hsub]; exact IntWalk.i64_in _ (by omega)
    have d3 : (s.lo != s.lo) = false := by simp
    have yR : bR < U.heap.size := cell?_lt ca
    clear hsub
    go_wp2_with fail
    go_quiet (fail)
    go_wp2
    go_roundw
    case rel => exact ⟨k + 1, by omega, by go_num, by (repeat (first | (with_reducible exact Below.refl _ _) | (with_reducible assumption) | (with_reducible refine Below.drew ?_) | (with_reducible refine Below.allocS ?_ _) | (with_reducible refine Below.setCell ?_ ?_ _) | (with_reducible refine Below.step ?_ (by assumption)) | (with_reducible refine Below.drewN' ?_ _))); (try any_goals (first | (with_reducible assumption) | (simp; done) | (simp; omega) | omega))⟩
    case measure => simp [intOf]; omega
end Go.Proofs.Ytomgaiokmdcjmaa
