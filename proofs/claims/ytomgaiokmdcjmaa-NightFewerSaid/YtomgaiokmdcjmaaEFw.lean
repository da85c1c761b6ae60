/-
  NightFewer: the walk. No conditions.
-/
import Derived.Test.YtomgaiokmdcjmaaERo
import Derived.Test.YtomgaiokmdcjmaaTypes2
import Derived.BigQuiet
import Derived.Test.YtomgaiokmdcjmaaQt
namespace Go.Proofs.Ytomgaiokmdcjmaa
open Go.RowKit Go.Deep
set_option linter.unusedVariables false
set_option linter.unusedSimpArgs false
theorem or_nat (x y : Nat) (hx : x < 256) (hy : y < 256) : bits .or .i64 (x : Int) (y : Int) = ((x ||| y : Nat) : Int) := by
  have h : x ||| y < 256 := Nat.or_lt_two_pow (n := 8) hx hy
  show IntKind.i64.wrap ((BitVec.ofInt 64 (x : Int) ||| BitVec.ofInt 64 (y : Int)).toNat : Int) = _
  have e1 : (BitVec.ofInt 64 (x : Int)).toNat = x := by simp; omega
  have e2 : (BitVec.ofInt 64 (y : Int)).toNat = y := by simp; omega
  rw [BitVec.toNat_or, e1, e2]
  exact IntWalk.i64_in _ (by omega)
/-- A set with more in it. -/
def wdI (p : Int) (x : Int) (t : List Int) (i : Nat) : Int := if i < t.length ∧ 0 ≤ atI t i then bits .or .i64 x (Int.tmod (atI t i) p) else x
def wdL (p : Int) (xs t : List Int) : List Int := (List.range xs.length).map fun i => wdI p (atI xs i) t i
theorem wdL_at {p : Int} {xs t : List Int} {i : Nat} (h : i < xs.length) : atI (wdL p xs t) i = wdI p (atI xs i) t i := by
  unfold wdL
  show ((List.range xs.length).map _).getD i 0 = _
  rw [List.getD_eq_getElem?_getD, List.getElem?_map, List.getElem?_range h]; rfl
theorem bit_test (x k : Nat) : bitB x k = x.testBit k := by
  unfold bitB
  rw [Nat.testBit_eq_decide_div_mod_eq]
theorem wd_ok {o x : Int} (ho : 1 ≤ o ∧ o ≤ 8) (hx : setB o x = true) (t : List Int) (i : Nat) {p : Int} (hp : (2 : Int) ^ o.toNat = p) : setB o (wdI p x t i) = true ∧ ∀ k, bitB x.toNat k = true → bitB (wdI p x t i).toNat k = true := by
  unfold wdI
  by_cases h : i < t.length ∧ 0 ≤ atI t i
  · rw [if_pos h]
    unfold setB at hx ⊢
    rw [hp] at hx ⊢
    have hx := within_true hx
    obtain ⟨p', hp', hp1, hp2⟩ := pow_bd ho
    rw [hp] at hp'
    subst hp'
    have hr0 : 0 ≤ Int.tmod (atI t i) p := Int.tmod_nonneg _ h.2
    have hr1 : Int.tmod (atI t i) p < p := Int.tmod_lt_of_pos _ (by omega)
    obtain ⟨a, rfl⟩ : ∃ a : Nat, x = (a : Int) := ⟨x.toNat, by omega⟩
    generalize Int.tmod (atI t i) p = r at *
    obtain ⟨b, rfl⟩ : ∃ b : Nat, r = (b : Int) := ⟨r.toNat, by omega⟩
    rw [or_nat a b (by omega) (by omega)]
    obtain ⟨q, rfl⟩ : ∃ q : Nat, p = (q : Int) := ⟨p.toNat, by omega⟩
    have hq : q = 2 ^ o.toNat := by
      have : ((2 ^ o.toNat : Nat) : Int) = (q : Int) := by rw [Int.natCast_pow]; exact hp
      omega
    have hlt : a ||| b < q := by rw [hq]; exact Nat.or_lt_two_pow (by omega) (by omega)
    refine ⟨?_, fun k hk => ?_⟩
    · unfold within; rw [decide_eq_true (show (0 : Int) ≤ ((a ||| b : Nat) : Int) by omega), decide_eq_true (show ((a ||| b : Nat) : Int) ≤ (q : Int) - 1 by omega)]; rfl
    · rw [Int.toNat_natCast, bit_test] at hk ⊢
      rw [Nat.testBit_or, hk]; rfl
  · rw [if_neg h]; exact ⟨hx, fun _ h => h⟩
theorem wd_ask {xs t : List Int} {o m p : Int} (h : askB xs o m = true) (hp : (2 : Int) ^ o.toNat = p) : askB (wdL p xs t) o m = true := by
  unfold askB at h ⊢
  simp only [Bool.and_eq_true, decide_eq_true_eq] at h ⊢
  obtain ⟨h1, h2, h3, h4⟩ := h
  have hl : (wdL p xs t).length = xs.length := by unfold wdL; simp
  refine ⟨by omega, h2, h3, ?_⟩
  rw [all_range] at h4 ⊢
  rw [hl]
  exact all_end (fun j hj => by
    rw [wdL_at hj]
    exact (wd_ok (within_true h2) (all_get h4 j hj) t j hp).1)
theorem getD_nat (xs : List Int) (k : Nat) : (xs.map Int.toNat).getD k 0 = (atI xs k).toNat := by
  unfold atI
  rw [List.getD_eq_getElem?_getD, List.getD_eq_getElem?_getD, List.getElem?_map]
  cases xs[k]? <;> rfl
theorem rt_wide {xs t : List Int} {o m p : Int} (h : askB xs o m = true) (hp : (2 : Int) ^ o.toNat = p) : rtV xs o m ≤ rtV (wdL p xs t) o m := by
  have hw := wd_ask (t := t) h hp
  have hl : (wdL p xs t).length = xs.length := by unfold wdL; simp
  unfold rtV
  rw [if_pos h, if_pos hw, hl]
  refine Int.ofNat_le.2 (rN_mono (K := crw xs o m) (L := crw (wdL p xs t) o m) rfl (Nat.le_refl _) (fun k b hb hk => ?_) _ _)
  unfold crw at hk ⊢
  rw [getD_nat] at hk ⊢
  by_cases hkl : k < xs.length
  · rw [wdL_at hkl]
    unfold askB at h
    simp only [Bool.and_eq_true, decide_eq_true_eq] at h
    obtain ⟨h1, h2, h3, h4⟩ := h
    rw [all_range] at h4
    exact (wd_ok (within_true h2) (all_get h4 k hkl) t k hp).2 b hk
  · have : atI xs k = 0 := by unfold atI; rw [List.getD_eq_getElem?_getD, List.getElem?_eq_none (by omega)]; rfl
    rw [this] at hk
    unfold bitB at hk
    simp at hk
theorem ask_more {xs : List Int} {o m : Int} (h : askB xs o m = true) (hm : m < 12) : askB xs o (m + 1) = true := by
  unfold askB at h ⊢
  simp only [Bool.and_eq_true, decide_eq_true_eq] at h ⊢
  obtain ⟨h1, h2, h3, h4⟩ := h
  have h3 := within_true h3
  refine ⟨h1, h2, ?_, h4⟩
  unfold within; rw [decide_eq_true (show 0 ≤ m + 1 by omega), decide_eq_true (show m + 1 ≤ 12 by omega)]; rfl
theorem rt_more {xs : List Int} {o m : Int} (h : askB xs o m = true) (hm : m < 12) : rtV xs o m ≤ rtV xs o (m + 1) := by
  have hw := ask_more h hm
  have h3 : 0 ≤ m ∧ m ≤ 12 := (crw_ok h).2.2.1
  unfold rtV
  rw [if_pos h, if_pos hw]
  refine Int.ofNat_le.2 (rN_mono (K := crw xs o m) (L := crw xs o (m + 1)) rfl ?_ (fun k b hb hk => hk) _ _)
  unfold crw
  simp only
  omega
theorem rdl_at {W : World} {b off : Nat} {r : List Int} (hb : b < W.heap.size) (h : ∀ j, j < r.length → W.cell? ⟨b, off + j, none⟩ = some (.int .i64 (atI r j))) : RdL W W.heap.size inE 1 (some ⟨b, off, none⟩) r := by
  intro _
  refine ⟨b, off, rfl, hb, fun i hi j v hv => ?_⟩
  have hj : j < 1 := (List.getElem?_eq_some_iff.1 hv).1
  obtain rfl : j = 0 := by omega
  have := h i hi
  unfold atI at this
  rw [List.getD_eq_getElem?_getD, List.getElem?_eq_getElem hi] at this
  simp [inE] at hv
  subst hv
  simpa using this
/-- The list without its head. -/
theorem flat_inE (xs : List Int) : xs.flatMap inE = xs.map (fun x : Int => (.int .i64 x : Value)) := by
  induction xs with
  | nil => rfl
  | cons a t ih => rw [List.flatMap_cons, List.map_cons, ih]; rfl
theorem wd_put {U V : World} {g n k : Nat} {f f' : Nat → Int} {v : Int} (h : ∀ j, j < n → U.cell? ⟨g, j, none⟩ = some (.int .i64 (f j)) ∧ U.frozen? ⟨g, j, none⟩ = false) (hb : Below U.heap.size U V) (hk : k < n) (hf : ∀ j, j < n → f' j = if j = k then v else f j) :
    ∀ j, j < n → (V.setCell ⟨g, k, none⟩ (.int .i64 v)).cell? ⟨g, j, none⟩ = some (.int .i64 (f' j)) ∧ (V.setCell ⟨g, k, none⟩ (.int .i64 v)).frozen? ⟨g, j, none⟩ = false := by
  intro j hj
  have hg : g < U.heap.size := cell?_lt (h k hk).1
  refine ⟨?_, by rw [World.frozen?_setCell]; exact keep_frozen hb hg (h j hj).2⟩
  rw [hf j hj]
  by_cases hjk : j = k
  · subst hjk; rw [if_pos rfl]; exact World.cell?_setCell_same _ _ _ (keep_cell hb (h j hj).1)
  · rw [if_neg hjk, World.cell?_setCell_other _ _ _ _ (by intro e; injection e with e1 e2; omega)]; exact keep_cell hb (h j hj).1
set_option maxHeartbeats 8000000 in
set_option maxRecDepth 100000 in
theorem NightFewer_walk (w : World) (A : Option Addr) (cap : Nat) (xs : List Int) (o m : Int) (B : Option Addr) (cb : Nat) (t : List Int) (hl : xs.length ≤ cap) (hm : cap ≤ maxLen) (hr : RdL w w.heap.size inE 1 A xs) (hw : ∀ x ∈ xs, ∃ g : Nat → Int, x = g 0 ∧ ∀ j, j < 1 → I64 (g j)) (hz : A = none → cap = 0) (ho : I64 o) (hp : I64 m)
    (jl : t.length ≤ cb) (jm : cb ≤ maxLen) (jr : RdL w w.heap.size inE 1 B t) (jw : ∀ x ∈ t, ∃ g : Nat → Int, x = g 0 ∧ ∀ j, j < 1 → I64 (g j)) (jz : B = none → cb = 0) :
    Calls Try.prog 5 #[.slice A xs.length cap, .int .i64 o, .int .i64 m, .slice B t.length cb] w fun e w' => e = .returned (.bool true) ∧ Below w.heap.size w w' := by
  obtain ⟨n, hn⟩ : ∃ n, n = xs.length := ⟨_, rfl⟩
  obtain ⟨tl, htl⟩ : ∃ tl, tl = t.length := ⟨_, rfl⟩
  have htl9 : tl ≤ 9223372036854775807 := by unfold maxLen at jm; omega
  have H3 := Lib.hid (fun (h : n ≤ 5) (m : Int) W (hb : Below w.heap.size w W) => Rotas_c xs n hn.symm (by omega) A cap o m W (hr.step hb))
  have HXS := Lib.hid hr
  have HJR := Lib.hid jr
  have HZ := Lib.hid hz
  have HN := Lib.hid hn.symm
  have HTL := Lib.hid htl.symm
  have hp' : -9223372036854775808 ≤ m ∧ m ≤ 9223372036854775807 := hp
  rw [← hn, ← htl]
  clear hl hm hr hw ho jl jm jr jw hz jz hn htl hp
  cases hL : lightB n with
  | false =>
    have HLI := Lib.hid (fun W => light_c A n cap W)
    rw [hL] at HLI
    clear H3 hL HXS HJR HZ HN HTL
    go_enter Try.func5, Try.ntmps5
    go_wp2_with fail
    refine (HLI.out _).mono ?_
    rintro e w' ⟨rfl, hw'⟩; replace hw' := hw'.symm; subst hw'
    go_wp2_with fail
    refine (awake_c _).mono ?_
    rintro e w3 ⟨rfl, hb3⟩
    go_wp2
    go_ret
    exact ⟨rfl, by (repeat (first | exact Below.refl _ _ | refine Below.drew ?_ | refine Below.allocS ?_ _ | refine Below.step ?_ (by assumption) | refine Below.setCell ?_ (by simp <;> omega) _ | refine Below.drewN' ?_ _))⟩
  | true =>
    have HLI := Lib.hid (fun W => light_c A n cap W)
    rw [hL] at HLI
    clear hL
    by_cases h5 : n ≤ 5
    case neg =>
      have u1 : decide ((n : Int) > 5) = true := decide_eq_true (by omega)
      have u2 : decide (5 < (n : Int)) = true := decide_eq_true (by omega)
      clear H3 HXS HJR HZ HN HTL
      go_enter Try.func5, Try.ntmps5
      go_wp2_with fail
      refine (HLI.out _).mono ?_
      rintro e w' ⟨rfl, hw'⟩; replace hw' := hw'.symm; subst hw'
      go_wp2_with fail
      refine (awake_c _).mono ?_
      rintro e w3 ⟨rfl, hb3⟩
      go_wp2
      go_ret
      exact ⟨rfl, by (repeat (first | exact Below.refl _ _ | refine Below.drew ?_ | refine Below.allocS ?_ _ | refine Below.step ?_ (by assumption) | refine Below.setCell ?_ (by simp <;> omega) _ | refine Below.drewN' ?_ _))⟩
    have u1 : decide ((n : Int) > 5) = false := decide_eq_false (by omega)
    have u2 : decide (5 < (n : Int)) = false := decide_eq_false (by omega)
    by_cases hm12 : m < 12
    case neg =>
      have u3 : decide (m ≥ 12) = true := decide_eq_true (by omega)
      have u4 : decide (12 ≤ m) = true := decide_eq_true (by omega)
      clear H3 HXS HJR HZ HN HTL hm12
      go_enter Try.func5, Try.ntmps5
      go_wp2_with fail
      refine (HLI.out _).mono ?_
      rintro e w' ⟨rfl, hw'⟩; replace hw' := hw'.symm; subst hw'
      go_wp2_with fail
      refine (awake_c _).mono ?_
      rintro e w3 ⟨rfl, hb3⟩
      go_wp2
      go_ret
      exact ⟨rfl, by (repeat (first | exact Below.refl _ _ | refine Below.drew ?_ | refine Below.allocS ?_ _ | refine Below.step ?_ (by assumption) | refine Below.setCell ?_ (by simp <;> omega) _ | refine Below.drewN' ?_ _))⟩
    have u3 : decide (m ≥ 12) = false := decide_eq_false (by omega)
    have u4 : decide (12 ≤ m) = false := decide_eq_false (by omega)
    have H3 := Lib.hid (H3.out h5)
    cases ha : askB xs o m with
    | false =>
      have hV : rtV xs o m = 0 := by unfold rtV; rw [ha]; rfl
      have H4 := Lib.hid (H3.out m)
      rw [hV, askQ_no ha] at H4
      clear H3 HXS HJR HZ HN HTL hm12 hV ha
      go_enter Try.func5, Try.ntmps5
      go_wp2_with fail
      refine (HLI.out _).mono ?_
      rintro e w' ⟨rfl, hw'⟩; replace hw' := hw'.symm; subst hw'
      go_wp2_with fail
      refine (H4.out _ (by (repeat (first | exact Below.refl _ _ | refine Below.drew ?_ | refine Below.allocS ?_ _ | refine Below.step ?_ (by assumption) | refine Below.setCell ?_ (by simp <;> omega) _ | refine Below.drewN' ?_ _)))).mono ?_
      rintro e w2 ⟨rfl, hb2⟩
      have g2 : Below w.heap.size w w2 := by (repeat (first | exact Below.refl _ _ | refine Below.drew ?_ | refine Below.allocS ?_ _ | refine Below.step ?_ (by assumption) | refine Below.setCell ?_ (by simp <;> omega) _ | refine Below.drewN' ?_ _))
      clear hb2
      go_wp2_with fail
      refine (awake_c _).mono ?_
      rintro e w3 ⟨rfl, hb3⟩
      go_wp2
      go_ret
      exact ⟨rfl, by (repeat (first | exact Below.refl _ _ | refine Below.drew ?_ | refine Below.allocS ?_ _ | refine Below.step ?_ (by assumption) | refine Below.setCell ?_ (by simp <;> omega) _ | refine Below.drewN' ?_ _))⟩
    | true =>
      obtain ⟨h1, h2, h3, h4, h5', h6, h7, h8⟩ := crw_ok ha
      obtain ⟨p, hpp, hp1, hp2⟩ := pow_bd h2
      have s0 : IntKind.i64.wrap (2 ^ o.toNat) = p := by rw [hpp]; exact IntWalk.i64_in _ (by omega)
      have o1 : 0 ≤ o := by omega
      have o2 : o ≤ 64 := by omega
      have HW1 := Lib.hid (wd_ask (t := t) ha hpp)
      have HW2 := Lib.hid (rt_wide (t := t) ha hpp)
      have HW3 := Lib.hid (ask_more ha hm12)
      have HW4 := Lib.hid (rt_more ha hm12)
      have H4 := Lib.hid (H3.out m)
      have H5 := Lib.hid (H3.out (m + 1))
      rw [askQ_yes ha] at H4
      rw [askQ_yes HW3.out] at H5
      have hwl : (wdL p xs t).length = n := by unfold wdL; rw [List.length_map, List.length_range]; exact HN.out
      have H6 := Lib.hid (fun (C : Option Addr) (cc : Nat) W (hC : RdL W W.heap.size inE 1 C (wdL p xs t)) => Rotas_c (wdL p xs t) n hwl (by omega) C cc o m W hC)
      rw [askQ_yes HW1.out] at H6
      have HWL := Lib.hid hwl
      have HSET : Hid (∀ j, j < n → 0 ≤ atI xs j ∧ atI xs j < 256) := Lib.hid (fun j hj => by
        have := all_range (xs := xs) (p := setB o)
        unfold askB at ha
        simp only [Bool.and_eq_true, decide_eq_true_eq] at ha
        rw [all_range] at ha
        have hb := all_get ha.2.2.2 j (by rw [HN.out]; exact hj)
        unfold setB at hb
        rw [hpp] at hb
        have := within_true hb
        omega)
      have v5 : IntKind.i64.wrap (m + 1) = m + 1 := IntWalk.i64_in _ (by omega)
      generalize hV1 : rtV xs o m = V1 at *
      generalize hV2 : rtV (wdL p xs t) o m = V2 at *
      generalize hV3 : rtV xs o (m + 1) = V3 at *
      have g1 : decide (V2 ≥ V1) = true := decide_eq_true (by have := HW2.out; omega)
      have g2 : decide (V3 ≥ V1) = true := decide_eq_true (by have := HW4.out; omega)
      have g1' : decide (V1 ≤ V2) = true := decide_eq_true (by have := HW2.out; omega)
      have g2' : decide (V1 ≤ V3) = true := decide_eq_true (by have := HW4.out; omega)
      clear H3 HW1 HW2 HW3 HW4 ha h4 h5' h6 h7 h8 hpp hwl hV1 hV2 hV3 h1
      go_enter Try.func5, Try.ntmps5
      go_wp2_with fail
      refine (HLI.out _).mono ?_
      rintro e w' ⟨rfl, hw'⟩; replace hw' := hw'.symm; subst hw'
      go_wp2_with fail
      refine (H4.out _ (by (repeat (first | exact Below.refl _ _ | refine Below.drew ?_ | refine Below.allocS ?_ _ | refine Below.step ?_ (by assumption) | refine Below.setCell ?_ (by simp <;> omega) _ | refine Below.drewN' ?_ _)))).mono ?_
      rintro e w2 ⟨rfl, hb2⟩
      have g2 : Below w.heap.size w w2 := by (repeat (first | exact Below.refl _ _ | refine Below.drew ?_ | refine Below.allocS ?_ _ | refine Below.step ?_ (by assumption) | refine Below.setCell ?_ (by simp <;> omega) _ | refine Below.drewN' ?_ _))
      clear hb2
      have hbw2 : Below w.heap.size w w2 := by (repeat (first | exact Below.refl _ _ | refine Below.drew ?_ | refine Below.allocS ?_ _ | refine Below.step ?_ (by assumption) | refine Below.setCell ?_ (by simp <;> omega) _ | refine Below.drewN' ?_ _))
      have hxsm : (xs.map Int.toNat).map Int.ofNat = xs := by
        rw [List.map_map]
        refine (List.map_congr_left fun x hx => ?_).trans (List.map_id xs)
        obtain ⟨j, hj, rfl⟩ := List.mem_iff_getElem.1 hx
        have := HSET.out j (by rw [← HN.out]; exact hj)
        unfold atI at this
        rw [List.getD_eq_getElem?_getD, List.getElem?_eq_getElem hj] at this
        show Int.ofNat (xs[j].toNat) = xs[j]
        simp only [Option.getD_some] at this
        simp only [Int.ofNat_eq_natCast]; omega
      have hap := app_empty (xs.map Int.toNat) n (by rw [List.length_map]; exact HN.out) (by omega) w2 A cap (by rw [hxsm]; exact HXS.out.step hbw2) HZ.out
      rw [hxsm] at hap
      have HAP := Lib.hid hap
      clear hap hxsm H4
      go_wp2_with (at_builtin; refine wpList_app rfl (.tmp 44) (.tmp 45) 26 rfl _ _ rfl rfl HAP.out ?_; rintro v3 w3 ⟨hown3, hb3⟩; obtain ⟨A3, c3, rfl, -, -⟩ := row_form hown3; have HO3 := Lib.hid hown3; clear hown3)
      have hbw3 : Below w.heap.size w w3 := Below.step hbw2 hb3
      have HB3 := Lib.hid hbw3
      have hs3 := hb3.size
      have hs2 := hbw2.size
      have H0 : Hid (n = 0 ∨ ∃ g, A3 = some ⟨g, 0, none⟩ ∧ w.heap.size ≤ g ∧ ∀ j, j < n → w3.cell? ⟨g, j, none⟩ = some (.int .i64 (atI xs j)) ∧ w3.frozen? ⟨g, j, none⟩ = false) := Lib.hid (by
        rcases Nat.eq_zero_or_pos n with h | h
        · exact .inl h
        · obtain ⟨g, rfl⟩ := own_addr HO3.out h
          refine .inr ⟨g, rfl, by have := (HO3.out.lt g rfl).1; omega, fun j hj => ⟨?_, ?_⟩⟩
          · have hf : (xs.flatMap inE)[j]? = some (.int .i64 (atI xs j)) := by
              rw [flat_inE, List.getElem?_map, List.getElem?_eq_getElem (by rw [HN.out]; exact hj)]
              unfold atI
              rw [List.getD_eq_getElem?_getD, List.getElem?_eq_getElem (by rw [HN.out]; exact hj)]; rfl
            have := HO3.out.cellAt j (by omega)
            rw [hf] at this
            exact this
          · exact HO3.out.frozenAt _)
      clear hb3 g2 HO3 HAP HB3
      go_loopw [49] (fun i wr => ∃ k : Nat, k ≤ n ∧ i = .int .i64 k ∧ (n = 0 ∨ ∃ g, A3 = some ⟨g, 0, none⟩ ∧ w.heap.size ≤ g ∧ ∀ j, j < n → wr.cell? ⟨g, j, none⟩ = some (.int .i64 (if j < k then wdI p (atI xs j) t j else atI xs j)) ∧ wr.frozen? ⟨g, j, none⟩ = false) ∧ Below w.heap.size w wr) (fun i _ => n - (intOf i).toNat)
      case atStart =>
        refine ⟨0, Nat.zero_le _, rfl, ?_, hbw3⟩
        rcases H0.out with h | ⟨g, h1, h2, h3⟩
        · exact .inl h
        · exact .inr ⟨g, h1, h2, fun j hj => by rw [if_neg (Nat.not_lt_zero j)]; exact h3 j hj⟩
      case round =>
        rename World => U
        clear H0
        obtain ⟨k, hk, rfl, hcl, hbu⟩ := hrel
        have HCL := Lib.hid hcl
        have yU := hbu.size
        clear hcl
        by_cases hlt : k < n
        case neg =>
          obtain rfl : n = k := by omega
          have v1 : decide ((n : Int) < (n : Int)) = false := decide_eq_false (by omega)
          have hrd : RdL U U.heap.size inE 1 A3 (wdL p xs t) := by
            rcases HCL.out with h | ⟨g, rfl, h2, h3⟩
            · intro hpos; rw [HWL.out] at hpos; omega
            · intro hpos
              have h0 : 0 < n := by rw [← HWL.out]; exact hpos
              exact rdl_at (r := wdL p xs t) (off := 0) (cell?_lt (h3 0 h0).1) (fun j hj => by
                rw [HWL.out] at hj
                have := (h3 j hj).1
                rw [if_pos hj] at this
                rw [Nat.zero_add, this, wdL_at (by rw [HN.out]; exact hj)]) hpos
          have H7 := Lib.hid (H6.out A3 c3 U hrd)
          clear HCL hrd
          go_wp2_with fail
          refine H7.out.mono ?_
          rintro e w5 ⟨rfl, hb5⟩
          go_wp2_with fail
          refine (H5.out _ (Below.step hbu hb5)).mono ?_
          rintro e w6 ⟨rfl, hb6⟩
          go_wp2_with fail
          refine (awake_c _).mono ?_
          rintro e w7 ⟨rfl, hb7⟩
          go_wp2
          go_ret
          exact ⟨rfl, Below.step (Below.step (Below.step hbu hb5) hb6) hb7⟩
        have v1 : decide ((k : Int) < (n : Int)) = true := decide_eq_true (by omega)
        have v3 : IntKind.i64.wrap ((k : Int) + 1) = (k : Int) + 1 := IntWalk.i64_in _ (by omega)
        have z4 : (k : Int) < (n : Int) := by omega
        obtain ⟨g, rfl, hgw, hgc⟩ : ∃ g, A3 = some ⟨g, 0, none⟩ ∧ w.heap.size ≤ g ∧ ∀ j, j < n → U.cell? ⟨g, j, none⟩ = some (.int .i64 (if j < k then wdI p (atI xs j) t j else atI xs j)) ∧ U.frozen? ⟨g, j, none⟩ = false := by
          rcases HCL.out with h | h
          · omega
          · exact h
        have HGC := Lib.hid hgc
        have ck := (hgc k hlt).1
        have fk := (hgc k hlt).2
        rw [if_neg (Nat.lt_irrefl k)] at ck
        have yg : g < U.heap.size := cell?_lt ck
        clear hgc HCL
        by_cases hkt : k < tl
        case neg =>
          have d1 : decide ((k : Int) < (tl : Int)) = false := decide_eq_false (by omega)
          have d1' : decide (k < tl) = false := decide_eq_false (by omega)
          have hwd : wdI p (atI xs k) t k = atI xs k := by unfold wdI; rw [if_neg (by rw [HTL.out]; omega)]
          have HWD := Lib.hid hwd
          clear hwd hkt
          go_wp2
          go_roundw
          case rel => exact ⟨k + 1, by omega, by go_num, .inr ⟨g, rfl, hgw, fun j hj => ⟨(HGC.out j hj).1.trans (by
            by_cases h1 : j < k
            · rw [if_pos h1, if_pos (by omega)]
            · rw [if_neg h1]
              by_cases h2 : j = k
              · subst h2; rw [if_pos (by omega), HWD.out]
              · rw [if_neg (by omega)]), (HGC.out j hj).2⟩⟩, hbu⟩
          case measure => simp [intOf]; omega
        have d1 : decide ((k : Int) < (tl : Int)) = true := decide_eq_true (by omega)
        have d1' : decide (k < tl) = true := decide_eq_true (by omega)
        have z5 : (k : Int) < (tl : Int) := by omega
        obtain ⟨b, off, rfl, hb0, hcc⟩ := int_cell HJR.out hbu (k := k) (by rw [HTL.out]; exact hkt)
        have cy := hcc k (by rw [HTL.out]; exact hkt)
        have yb : b < U.heap.size := cell?_lt cy
        clear hcc
        have HWI : Hid (wdI p (atI xs k) t k = if 0 ≤ atI t k then bits .or .i64 (atI xs k) (Int.tmod (atI t k) p) else atI xs k) := Lib.hid (by
          unfold wdI
          by_cases h : 0 ≤ atI t k
          · rw [if_pos ⟨by rw [HTL.out]; exact hkt, h⟩, if_pos h]
          · rw [if_neg (fun h' => h h'.2), if_neg h])
        generalize hyy : atI t k = y at *
        generalize hxx : atI xs k = x at *
        have HXX := Lib.hid hxx
        clear hyy hxx
        by_cases hy0 : 0 ≤ y
        case neg =>
          have d2 : decide (y ≥ 0) = false := decide_eq_false (by omega)
          have d2' : decide (0 ≤ y) = false := decide_eq_false (by omega)
          have hwd := HWI.out
          rw [if_neg hy0] at hwd
          have HWD := Lib.hid hwd
          clear hwd HWI hy0
          go_wp2
          go_roundw
          case rel => exact ⟨k + 1, by omega, by go_num, .inr ⟨g, rfl, hgw, fun j hj => ⟨(HGC.out j hj).1.trans (by
            by_cases h1 : j < k
            · rw [if_pos h1, if_pos (by omega)]
            · rw [if_neg h1]
              by_cases h2 : j = k
              · subst h2; rw [if_pos (by omega), HXX.out, HWD.out]
              · rw [if_neg (by omega)]), (HGC.out j hj).2⟩⟩, hbu⟩
          case measure => simp [intOf]; omega
        have d2 : decide (y ≥ 0) = true := decide_eq_true (by omega)
        have d2' : decide (0 ≤ y) = true := decide_eq_true (by omega)
        have hwd := HWI.out
        rw [if_pos hy0] at hwd
        have hr0 : 0 ≤ Int.tmod y p := Int.tmod_nonneg _ hy0
        have hr1 : Int.tmod y p < p := Int.tmod_lt_of_pos _ (by omega)
        obtain ⟨r, hr⟩ : ∃ r, Int.tmod y p = r := ⟨_, rfl⟩
        rw [hr] at hr0 hr1 hwd
        obtain ⟨z, hz⟩ : ∃ z, bits .or .i64 x r = z := ⟨_, rfl⟩
        rw [hz] at hwd
        have s6 : IntKind.i64.wrap r = r := IntWalk.i64_in _ (by omega)
        have hp0 : (p == 0) = false := by simp; omega
        have hpne : p ≠ 0 := by omega
        have HWD := Lib.hid hwd
        clear hwd HWI hy0
        go_wp2_with fail
        refine region_below_tail 13 (by kernel_rfl) (by kernel_rfl) ?_; simp only [List.take_succ_cons, List.take_zero, List.drop_succ_cons, List.drop_zero]
        (first | go_big_quiet_skip | (go_big_quiet_want; refine quiet_val (v := ?_) ?_ ?_; rotate_left 1; (· (intro Wq hWq; obtain ⟨hWc, hWf⟩ := bcell hWq; go_simp; (try with_reducible rfl))); go_big_quiet_on; (try simp only [Act.put, List.setIfInBounds_toArray, List.set_cons_zero, List.set_cons_succ])))
        (first | go_big_quiet_skip | (go_big_quiet_want; refine quiet_val (v := ?_) ?_ ?_; rotate_left 1; (· (intro Wq hWq; obtain ⟨hWc, hWf⟩ := bcell hWq; go_simp; (try with_reducible rfl))); go_big_quiet_on; (try simp only [Act.put, List.setIfInBounds_toArray, List.set_cons_zero, List.set_cons_succ])))
        (first | go_big_quiet_skip | (go_big_quiet_want; refine quiet_val (v := ?_) ?_ ?_; rotate_left 1; (· (intro Wq hWq; obtain ⟨hWc, hWf⟩ := bcell hWq; go_simp; (try with_reducible rfl))); go_big_quiet_on; (try simp only [Act.put, List.setIfInBounds_toArray, List.set_cons_zero, List.set_cons_succ])))
        (first | go_big_quiet_skip | (go_big_quiet_want; refine quiet_val (v := ?_) ?_ ?_; rotate_left 1; (· (intro Wq hWq; obtain ⟨hWc, hWf⟩ := bcell hWq; go_simp; (try with_reducible rfl))); go_big_quiet_on; (try simp only [Act.put, List.setIfInBounds_toArray, List.set_cons_zero, List.set_cons_succ])))
        (first | go_big_quiet_skip | (go_big_quiet_want; refine quiet_val (v := ?_) ?_ ?_; rotate_left 1; (· (intro Wq hWq; obtain ⟨hWc, hWf⟩ := bcell hWq; go_simp; (try with_reducible rfl))); go_big_quiet_on; (try simp only [Act.put, List.setIfInBounds_toArray, List.set_cons_zero, List.set_cons_succ])))
        (first | go_big_quiet_skip | (go_big_quiet_want; refine quiet_val (v := ?_) ?_ ?_; rotate_left 1; (· (intro Wq hWq; obtain ⟨hWc, hWf⟩ := bcell hWq; go_simp; (try with_reducible rfl))); go_big_quiet_on; (try simp only [Act.put, List.setIfInBounds_toArray, List.set_cons_zero, List.set_cons_succ])))
        (first | go_big_quiet_skip | (go_big_quiet_want; refine quiet_val (v := ?_) ?_ ?_; rotate_left 1; (· (intro Wq hWq; obtain ⟨hWc, hWf⟩ := bcell hWq; go_simp; (try with_reducible rfl))); go_big_quiet_on; (try simp only [Act.put, List.setIfInBounds_toArray, List.set_cons_zero, List.set_cons_succ])))
        (first | go_big_quiet_skip | (go_big_quiet_want; refine quiet_val (v := ?_) ?_ ?_; rotate_left 1; (· (intro Wq hWq; obtain ⟨hWc, hWf⟩ := bcell hWq; go_simp; (try with_reducible rfl))); go_big_quiet_on; (try simp only [Act.put, List.setIfInBounds_toArray, List.set_cons_zero, List.set_cons_succ])))
        (first | go_big_quiet_skip | (go_big_quiet_want; refine quiet_val (v := ?_) ?_ ?_; rotate_left 1; (· (intro Wq hWq; obtain ⟨hWc, hWf⟩ := bcell hWq; go_simp; (try with_reducible rfl))); go_big_quiet_on; (try simp only [Act.put, List.setIfInBounds_toArray, List.set_cons_zero, List.set_cons_succ])))
        (first | go_big_quiet_skip | (go_big_quiet_want; refine quiet_val (v := ?_) ?_ ?_; rotate_left 1; (· (intro Wq hWq; obtain ⟨hWc, hWf⟩ := bcell hWq; go_simp; (try with_reducible rfl))); go_big_quiet_on; (try simp only [Act.put, List.setIfInBounds_toArray, List.set_cons_zero, List.set_cons_succ])))
        (first | go_big_quiet_skip | (go_big_quiet_want; refine quiet_val (v := ?_) ?_ ?_; rotate_left 1; (· (intro Wq hWq; obtain ⟨hWc, hWf⟩ := bcell hWq; go_simp; (try with_reducible rfl))); go_big_quiet_on; (try simp only [Act.put, List.setIfInBounds_toArray, List.set_cons_zero, List.set_cons_succ])))
        (first | go_big_quiet_skip | (go_big_quiet_want; refine quiet_val (v := ?_) ?_ ?_; rotate_left 1; (· (intro Wq hWq; obtain ⟨hWc, hWf⟩ := bcell hWq; go_simp; (try with_reducible rfl))); go_big_quiet_on; (try simp only [Act.put, List.setIfInBounds_toArray, List.set_cons_zero, List.set_cons_succ])))
        (first | go_big_quiet_skip | (go_big_quiet_want; refine quiet_val (v := ?_) ?_ ?_; rotate_left 1; (· (intro Wq hWq; obtain ⟨hWc, hWf⟩ := bcell hWq; go_simp; (try with_reducible rfl))); go_big_quiet_on; (try simp only [Act.put, List.setIfInBounds_toArray, List.set_cons_zero, List.set_cons_succ])))
        refine wpQuiet_nil ?_; intro W9 hb9
        have ck9 := keep_cell hb9 ck
        have fk9 := keep_frozen hb9 yg fk
        have yg9 : g < W9.heap.size := cell?_lt ck9
        go_wp2
        go_roundw
        case rel =>
          refine ⟨k + 1, by omega, by go_num, .inr ⟨g, rfl, hgw, wd_put HGC.out (by (repeat (first | (with_reducible exact Below.refl _ _) | (with_reducible assumption) | (with_reducible refine Below.drew ?_) | (with_reducible refine Below.allocS ?_ _) | (with_reducible refine Below.setCell ?_ ?_ _) | (with_reducible refine Below.step ?_ (by assumption)) | (with_reducible refine Below.drewN' ?_ _))); (try any_goals (first | (with_reducible assumption) | (simp; done) | (simp; omega) | omega))) hlt (fun j hj => ?_)⟩, Below.setCell (by (repeat (first | (with_reducible exact Below.refl _ _) | (with_reducible assumption) | (with_reducible refine Below.drew ?_) | (with_reducible refine Below.allocS ?_ _) | (with_reducible refine Below.setCell ?_ ?_ _) | (with_reducible refine Below.step ?_ (by assumption)) | (with_reducible refine Below.drewN' ?_ _))); (try any_goals (first | (with_reducible assumption) | (simp; done) | (simp; omega) | omega))) (by exact hgw) _⟩
          by_cases h2 : j = k
          · subst h2; rw [if_pos (by omega), if_pos rfl, HXX.out, HWD.out]
          · rw [if_neg h2]
            by_cases h1 : j < k
            · rw [if_pos h1, if_pos (by omega)]
            · rw [if_neg h1, if_neg (by omega)]
        case measure => simp [intOf]; omega
end Go.Proofs.Ytomgaiokmdcjmaa
