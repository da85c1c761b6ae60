/-
  rotas of the reference. No conditions.
-/
import Derived.Test.YtomgaiokmdcjmaaRo8
import Derived.Test.YtomgaiokmdcjmaaNt29
import Derived.Test.YtomgaiokmdcjmaaRo5
namespace Go.Proofs.Ytomgaiokmdcjmaa
open Go.RowKit Go.Deep
set_option linter.unusedVariables false
set_option linter.unusedSimpArgs false
/-- The first rota among those that go on with one of the first k observers. -/
def rFk (K : Crw) (r : Nat) (b : List Nat) (k : Nat) : List Nat := match (List.range k).find? (fun o => fitB K b o && decide (rN K r (b ++ [o]) ≠ 0)) with | some o => rF K r (b ++ [o]) | none => []
def rNk (K : Crw) (r : Nat) (b : List Nat) (k : Nat) : Nat := ((List.range k).map fun o => if fitB K b o then rN K r (b ++ [o]) else 0).sum
theorem rNk_succ (K : Crw) (r : Nat) (b : List Nat) (k : Nat) : rNk K r b (k + 1) = rNk K r b k + (if fitB K b k then rN K r (b ++ [k]) else 0) := by
  unfold rNk; rw [List.range_succ, List.map_append, List.sum_append]; simp
theorem rFk_find (K : Crw) (r : Nat) (b : List Nat) (k : Nat) : rNk K r b k = 0 ↔ (List.range k).find? (fun o => fitB K b o && decide (rN K r (b ++ [o]) ≠ 0)) = none := by
  unfold rNk
  rw [sum_zero, List.find?_eq_none]
  constructor
  · intro h o ho hc
    have := h o ho
    simp only [Bool.and_eq_true, decide_eq_true_eq] at hc
    rw [if_pos hc.1] at this
    exact hc.2 this
  · intro h o ho
    have := h o ho
    simp only [Bool.and_eq_true, decide_eq_true_eq, not_and, Decidable.not_not] at this
    split
    · rename_i hc; exact this hc
    · rfl
theorem rFk_no {K : Crw} {r : Nat} {b : List Nat} {k : Nat} (h : fitB K b k = false) : rFk K r b (k + 1) = rFk K r b k ∧ rNk K r b (k + 1) = rNk K r b k := by
  refine ⟨?_, by rw [rNk_succ, h]; simp⟩
  unfold rFk
  rw [List.range_succ, List.find?_append]
  have : [k].find? (fun o => fitB K b o && decide (rN K r (b ++ [o]) ≠ 0)) = none := by simp [h]
  rw [this, Option.or_none]
theorem rFk_old {K : Crw} {r : Nat} {b : List Nat} {k : Nat} (h : rNk K r b k ≠ 0) : rFk K r b (k + 1) = rFk K r b k := by
  unfold rFk
  rw [List.range_succ, List.find?_append]
  cases hf : (List.range k).find? (fun o => fitB K b o && decide (rN K r (b ++ [o]) ≠ 0)) with
  | none => exact absurd ((rFk_find K r b k).2 hf) h
  | some o => rfl
theorem rFk_new {K : Crw} {r : Nat} {b : List Nat} {k : Nat} (h : rNk K r b k = 0) (hf : fitB K b k = true) : rFk K r b (k + 1) = rF K r (b ++ [k]) := by
  unfold rFk
  rw [List.range_succ, List.find?_append, (rFk_find K r b k).1 h, Option.none_or]
  by_cases h0 : rN K r (b ++ [k]) = 0
  · have : [k].find? (fun o => fitB K b o && decide (rN K r (b ++ [o]) ≠ 0)) = none := by simp [h0]
    rw [this, rF_none h0]
  · have : [k].find? (fun o => fitB K b o && decide (rN K r (b ++ [o]) ≠ 0)) = some k := by simp [h0, hf]
    rw [this]
theorem rNk_all (K : Crw) (r : Nat) (b : List Nat) : rNk K r b K.obs = rN K (r + 1) b := rfl
theorem rFk_all (K : Crw) (r : Nat) (b : List Nat) : rFk K r b K.obs = rF K (r + 1) b := rfl
theorem rNk_le {K : Crw} (hk : K.obs ≤ 8) (r : Nat) (b : List Nat) {k : Nat} (h : k ≤ 8) : rNk K r b k ≤ 8 ^ (r + 1) := by
  unfold rNk
  refine Nat.le_trans (sum_le (c := 8 ^ r) fun o ho => ?_) ?_
  · split
    · exact rN_le hk r _
    · exact Nat.zero_le _
  · rw [List.length_range, Nat.pow_succ]; exact Nat.mul_le_mul_left _ h
set_option maxHeartbeats 8000000 in
set_option maxRecDepth 100000 in
theorem rrotas_c (K : Crw) (N : Nat) (hN : K.can.length = N) (hN2 : N ≤ 12) (ho : K.obs ≤ 8) (hm : K.most ≤ 12) (hcb : ∀ x ∈ K.can, x < 256) (A : Option Addr) (cap : Nat) : ∀ (r : Nat) (b : List Nat) (n : Nat) (B : Option Addr) (cb : Nat) (w : World), b.length = n → r + n = N → (B = none → cb = 0) →
    RdL w w.heap.size inE 1 A (K.can.map Int.ofNat) → RdL w w.heap.size inE 1 B (b.map Int.ofNat) →
    Calls Try.prog 92 #[.slice A N cap, .int .i64 K.obs, .int .i64 K.most, .slice B n cb] w fun e w' => (∃ A' c', e = .returned (.tuple #[.int .i64 (rN K r b : Nat), .slice A' (rF K r b).length c']) ∧ RdL w' w'.heap.size inE 1 A' ((rF K r b).map Int.ofNat)) ∧ Below w.heap.size w w' := by
  intro r
  induction r with
  | zero =>
    intro b n B cb w hbn hr hz hA hB
    obtain rfl : n = N := by omega
    have HB := Lib.hid hB
    have HBN := Lib.hid hbn
    have hf : (rF K 0 b).length = n := hbn
    rw [hf]
    clear hA hB hcb hN hbn hf hz
    generalize K.obs = ob at *
    generalize K.most = ms at *
    go_enter Try.func92, Try.ntmps92
    go_wp2
    go_ret2
    exact ⟨⟨B, cb, rfl, HB.out⟩, Below.refl _ _⟩
  | succ r ih =>
    intro b n B cb w hbn hr hz hA hB
    have hnN : n < N := by omega
    have d1 : ((n : Int) == (N : Int)) = false := by simp; omega
    have HFI := Lib.hid (fun (o : Nat) (h8 : o < 8) W (hb : Below w.heap.size w W) => fits_c K N hN hN2 hm hcb A cap b n hbn hnN B cb o h8 W (hA.step hb) (hB.step hb))
    have HIH := Lib.hid ih
    have HA := Lib.hid hA
    have HB := Lib.hid hB
    have HBN := Lib.hid hbn
    have HZ := Lib.hid hz
    have HNO := Lib.hid (fun k (h : fitB K b k = false) => rFk_no (r := r) h)
    have HOLD := Lib.hid (fun k (h : rNk K r b k ≠ 0) => rFk_old h)
    have HNEW := Lib.hid (fun k (h : rNk K r b k = 0) (hf : fitB K b k = true) => rFk_new h hf)
    have HSU := Lib.hid (rNk_succ K r b)
    have HLE := Lib.hid (fun k (h : k ≤ 8) => Nat.le_trans (rNk_le ho r b h) (pow8_le (show r + 1 ≤ 12 by omega)))
    have HEN := Lib.hid (rNk_all K r b)
    have HEF := Lib.hid (rFk_all K r b)
    have HRL := Lib.hid (fun k => Nat.le_trans (rN_le ho r (b ++ [k])) (pow8_le (show r ≤ 12 by omega)))
    obtain ⟨ob, hob⟩ : ∃ ob, ob = K.obs := ⟨_, rfl⟩
    obtain ⟨ms, hms⟩ : ∃ ms, ms = K.most := ⟨_, rfl⟩
    have HOB := Lib.hid hob
    have HMS := Lib.hid hms
    rw [← hob] at HEN HEF ho
    rw [← hob, ← hms, ← HEN.out, ← HEF.out]
    rw [← hms] at HFI
    have hz0 : (rFk K r b 0).length = 0 := rfl
    have hn0 : rNk K r b 0 = 0 := rfl
    clear hA hB hcb hN hbn ih hz hob hms
    go_enter Try.func92, Try.ntmps92
    go_wp2
    go_loopw [22, 10, 11] (fun i s v wr => ∃ (k : Nat) (A1 : Option Addr) (c1 : Nat), k ≤ ob ∧ i = .int .i64 k ∧ s = .int .i64 (rNk K r b k : Nat) ∧ v = .slice A1 (rFk K r b k).length c1 ∧ RdL wr wr.heap.size inE 1 A1 ((rFk K r b k).map Int.ofNat) ∧ Below w.heap.size w wr) (fun i s v _ => ob - (intOf i).toNat)
    case atStart => exact ⟨0, none, 0, Nat.zero_le _, rfl, by rw [hn0]; rfl, by rw [hz0], RdL.nil, Below.refl _ _⟩
    case round =>
      rename World => U
      obtain ⟨k, A1, c1, hk, rfl, rfl, rfl, hr1, hbu⟩ := hrel
      have HR1 := Lib.hid hr1
      have yU := hbu.size
      clear hr1 hz0 hn0
      obtain ⟨L1, hL1⟩ : ∃ L1, L1 = (rFk K r b k).length := ⟨_, rfl⟩
      obtain ⟨S1, hS1⟩ : ∃ S1, S1 = rNk K r b k := ⟨_, rfl⟩
      have HL1 := Lib.hid hL1
      have HS1 := Lib.hid hS1
      rw [← hL1, ← hS1]
      clear hL1 hS1
      by_cases hlt : k < ob
      case neg =>
        obtain rfl : ob = k := by omega
        have v1 : decide ((ob : Int) < (ob : Int)) = false := decide_eq_false (by omega)
        go_wp2
        go_ret2
        exact ⟨⟨A1, c1, by rw [HL1.out, HS1.out]; rfl, HR1.out⟩, hbu⟩
      have v1 : decide ((k : Int) < (ob : Int)) = true := decide_eq_true (by omega)
      have v3 : IntKind.i64.wrap ((k : Int) + 1) = (k : Int) + 1 := IntWalk.i64_in _ (by omega)
      have HF := Lib.hid (HFI.out k (by omega) U hbu)
      cases hfb : fitB K b k with
      | false =>
        rw [hfb] at HF
        obtain ⟨n1, n2⟩ := HNO.out k hfb
        have HN1 := Lib.hid n1
        have HN2 := Lib.hid n2
        clear n1 n2 hfb
        go_wp2_with fail
        refine HF.out.mono ?_
        rintro e W1 ⟨rfl, hb1⟩
        go_wp2
        go_roundw
        case rel => exact ⟨k + 1, A1, c1, by omega, by go_num, by rw [HN2.out, ← HS1.out], by rw [HN1.out, ← HL1.out], by rw [HN1.out]; exact HR1.out.step hb1, Below.step hbu hb1⟩
        case measure => simp [intOf]; omega
      | true =>
        rw [hfb] at HF
        have HFB := Lib.hid hfb
        clear hfb
        go_wp2_with fail
        refine HF.out.mono ?_
        rintro e W1 ⟨rfl, hb1⟩
        have hbw1 := Below.step hbu hb1
        have HR2 := Lib.hid (HR1.out.step hb1)
        have HAP1 := Lib.hid (app_empty b n HBN.out (by omega) W1 B cb (HB.out.step hbw1) HZ.out)
        have HAP2 := Lib.hid (fun (w5 : World) (v5 : Value) (ho : w5.ownsRow W1.heap.size 3 1 v5 n ((b.map Int.ofNat).flatMap inE)) (hs : W1.heap.size ≤ w5.heap.size) => app_run appI (b.map Int.ofNat) (k : Int) n (by rw [List.length_map]; exact HBN.out) (by omega) (w5.alloc (.cells #[.int .i64 k] 3)) W1.heap.size w5.heap.size v5 (ho.alloc _) (by simp; omega) (one_cell rfl (by simp [go_sem])))
        obtain ⟨L2, hL2⟩ : ∃ L2, L2 = (rF K r (b ++ [k])).length := ⟨_, rfl⟩
        obtain ⟨S2, hS2⟩ : ∃ S2, S2 = rN K r (b ++ [k]) := ⟨_, rfl⟩
        have HL2 := Lib.hid hL2
        have HS2 := Lib.hid hS2
        have hrl := HRL.out k
        rw [← hS2] at hrl
        have hle1 := HLE.out k (by omega)
        rw [← HS1.out] at hle1
        clear hL2 hS2
        have HREC : Hid (∀ (w6 : World) (g6 c6 : Nat), Below w.heap.size w w6 → w6.ownsRow W1.heap.size 3 1 (.slice (some ⟨g6, 0, none⟩) (n + 1) c6) (n + 1) ((b.map Int.ofNat ++ [(k : Int)]).flatMap inE) →
            Calls Try.prog 92 #[.slice A N cap, .int .i64 ob, .int .i64 ms, .slice (some ⟨g6, 0, none⟩) (n + 1) c6] w6 fun e w' => (∃ A' c', e = .returned (.tuple #[.int .i64 S2, .slice A' L2 c']) ∧ RdL w' w'.heap.size inE 1 A' ((rF K r (b ++ [k])).map Int.ofNat)) ∧ Below w6.heap.size w6 w') := Lib.hid (fun w6 g6 c6 hb6 ho6 => by
          have := HIH.out (b ++ [k]) (n + 1) (some ⟨g6, 0, none⟩) c6 w6 (by rw [List.length_append, HBN.out]; rfl) (by omega) (fun e => by cases e) (HA.out.step hb6) (by
            rw [List.map_append]
            exact RdL.of_own (enc := inE) (fun _ => rfl) ho6 (by rw [List.length_append, List.length_map, HBN.out]; rfl))
          rw [← HL2.out, ← HS2.out, ← HOB.out, ← HMS.out] at this
          exact this)
        have v4 : IntKind.i64.wrap ((S1 : Int) + (S2 : Int)) = ((S1 + S2 : Nat) : Int) := IntWalk.i64_in _ (by omega)
        have HSM : Hid (rNk K r b (k + 1) = S1 + S2) := Lib.hid (by rw [HSU.out, HFB.out, if_pos rfl, ← HS1.out, ← HS2.out])
        by_cases hS0 : S1 = 0
        · have HFN : Hid (rFk K r b (k + 1) = rF K r (b ++ [k])) := Lib.hid (HNEW.out k (by rw [← HS1.out]; exact hS0) HFB.out)
          have d3 : ((S1 : Int) == 0) = true := by simp [hS0]
          clear hS0
          go_wp2_with (first
            | (at_builtin; refine wpList_app rfl (.tmp 34) (.tmp 35) 26 rfl _ _ rfl rfl HAP1.out ?_; rintro v5 W5 ⟨hown5, hb5⟩; have HO5 := Lib.hid hown5; have HAP2' := Lib.hid (HAP2.out W5 v5 HO5.out hb5.size); clear hown5)
            | (at_builtin; refine wpList_app rfl (.tmp 36) (.tmp 38) 26 rfl _ _ rfl rfl HAP2'.out ?_; rintro v6 W6 ⟨hown6, hb6⟩; obtain ⟨A6, c6, rfl, k6, m6⟩ := row_form hown6; have hA6 := own_addr hown6 (by omega); obtain ⟨g6, rfl⟩ := hA6; have hb16 : Below W1.heap.size W1 W6 := Below.low (Below.allocS hb5 _) hb6 (Nat.le_refl _); have HREC' := Lib.hid (HREC.out W6 g6 c6 (Below.step hbw1 hb16) hown6); clear hown6 hb6 hb5 k6 m6)
            | (go_at_call 92; refine HREC'.out.mono ?_; rintro e W7 ⟨⟨A7, c7, rfl, r7⟩, hb7⟩; have HR7 := Lib.hid r7; clear r7))
          have hbw7 : Below w.heap.size w W7 := Below.step (Below.step hbw1 hb16) hb7
          go_roundw
          case rel => exact ⟨k + 1, A7, c7, by omega, by go_num, by rw [HSM.out]; rfl, by rw [HFN.out, ← HL2.out], by rw [HFN.out]; exact HR7.out, hbw7⟩
          case measure => simp [intOf]; omega
        · have HFN : Hid (rFk K r b (k + 1) = rFk K r b k) := Lib.hid (HOLD.out k (by rw [← HS1.out]; exact hS0))
          have d3 : ((S1 : Int) == 0) = false := by simp [hS0]
          clear hS0
          go_wp2_with (first
            | (at_builtin; refine wpList_app rfl (.tmp 34) (.tmp 35) 26 rfl _ _ rfl rfl HAP1.out ?_; rintro v5 W5 ⟨hown5, hb5⟩; have HO5 := Lib.hid hown5; have HAP2' := Lib.hid (HAP2.out W5 v5 HO5.out hb5.size); clear hown5)
            | (at_builtin; refine wpList_app rfl (.tmp 36) (.tmp 38) 26 rfl _ _ rfl rfl HAP2'.out ?_; rintro v6 W6 ⟨hown6, hb6⟩; obtain ⟨A6, c6, rfl, k6, m6⟩ := row_form hown6; have hA6 := own_addr hown6 (by omega); obtain ⟨g6, rfl⟩ := hA6; have hb16 : Below W1.heap.size W1 W6 := Below.low (Below.allocS hb5 _) hb6 (Nat.le_refl _); have HREC' := Lib.hid (HREC.out W6 g6 c6 (Below.step hbw1 hb16) hown6); clear hown6 hb6 hb5 k6 m6)
            | (go_at_call 92; refine HREC'.out.mono ?_; rintro e W7 ⟨⟨A7, c7, rfl, r7⟩, hb7⟩; have HR7 := Lib.hid r7; clear r7))
          have hbw7 : Below w.heap.size w W7 := Below.step (Below.step hbw1 hb16) hb7
          have HR8 := Lib.hid (HR2.out.step (Below.step hb16 hb7))
          go_roundw
          case rel => exact ⟨k + 1, A1, c1, by omega, by go_num, by rw [HSM.out]; rfl, by rw [HFN.out, ← HL1.out], by rw [HFN.out]; exact HR8.out, hbw7⟩
          case measure => simp [intOf]; omega
end Go.Proofs.Ytomgaiokmdcjmaa
