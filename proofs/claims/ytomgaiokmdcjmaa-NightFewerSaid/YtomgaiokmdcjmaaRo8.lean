/-
  fits of the reference. No conditions.
-/
import Derived.Test.YtomgaiokmdcjmaaRo4
namespace Go.Proofs.Ytomgaiokmdcjmaa
open Go.RowKit Go.Deep
set_option linter.unusedVariables false
set_option linter.unusedSimpArgs false
theorem nat_cell {w W : World} {A : Option Addr} {b : List Nat} (hr : RdL w w.heap.size inE 1 A (b.map Int.ofNat)) (hb : Below w.heap.size w W) {k : Nat} (hk : k < b.length) : ∃ g off, A = some ⟨g, off, none⟩ ∧ g < w.heap.size ∧ W.cell? ⟨g, off + k, none⟩ = some (.int .i64 (b.getD k 0 : Nat)) := by
  have hk' : k < (b.map Int.ofNat).length := by rw [List.length_map]; exact hk
  obtain ⟨g, off, e, hlt, hc⟩ := hr (by omega)
  have hx : (b.map Int.ofNat)[k] = Int.ofNat (b.getD k 0) := by rw [List.getElem_map, List.getD_eq_getElem?_getD, List.getElem?_eq_getElem hk]; rfl
  have := hc k hk' 0 (.int .i64 (b.getD k 0 : Nat)) (by rw [hx]; rfl)
  rw [Nat.mul_one, Nat.add_zero] at this
  exact ⟨g, off, e, hlt, keep_cell hb this⟩
theorem count_take (b : List Nat) (o k : Nat) (hk : k < b.length) : (b.take (k + 1)).count o = (b.take k).count o + (if b.getD k 0 = o then 1 else 0) := by
  rw [List.take_add_one, List.getElem?_eq_getElem hk, List.count_append, List.getD_eq_getElem?_getD, List.getElem?_eq_getElem hk]
  simp only [Option.toList_some, Option.getD_some, List.count_singleton, beq_iff_eq]
theorem count_len (b : List Nat) (o : Nat) : b.count o ≤ b.length := List.count_le_length
set_option maxHeartbeats 2000000 in
set_option maxRecDepth 100000 in
theorem fits_c (K : Crw) (N : Nat) (hN : K.can.length = N) (hN2 : N ≤ 12) (hm : K.most ≤ 12) (hcb : ∀ x ∈ K.can, x < 256) (A : Option Addr) (cap : Nat) (b : List Nat) (n : Nat) (hbn : b.length = n) (hn : n < N) (B : Option Addr) (cb : Nat) (o : Nat) (ho : o < 8) (w : World)
    (hA : RdL w w.heap.size inE 1 A (K.can.map Int.ofNat)) (hB : RdL w w.heap.size inE 1 B (b.map Int.ofNat)) :
    Calls Try.prog 93 #[.slice A N cap, .int .i64 K.most, .slice B n cb, .int .i64 o] w fun e w' => e = .returned (.bool (fitB K b o)) ∧ Below w.heap.size w w' := by
  have HB : Hid (∀ W, Below w.heap.size w W → ∀ k, k < n → ∃ g off, B = some ⟨g, off, none⟩ ∧ g < w.heap.size ∧ W.cell? ⟨g, off + k, none⟩ = some (.int .i64 (b.getD k 0 : Nat))) := Lib.hid (fun W h k hk => nat_cell hB h (by omega))
  obtain ⟨g, off, rfl, hg, hcx⟩ := nat_cell hA (Below.refl _ _) (k := n) (by omega)
  have hx256 : K.can.getD n 0 < 256 := by
    rw [List.getD_eq_getElem?_getD, List.getElem?_eq_getElem (by rw [hN]; exact hn)]
    exact hcb _ (List.getElem_mem _)
  have HFB : Hid (fitB K b o = (bitB (K.can.getD n 0) o && (decide (b.getLast? ≠ some o) && decide (b.count o + 1 ≤ K.most)))) := Lib.hid (by unfold fitB; rw [hbn])
  have HCT := Lib.hid (fun k (hk : k < n) => count_take b o k (by omega))
  have HCL : Hid (∀ k, (b.take k).count o ≤ k) := Lib.hid (fun k => Nat.le_trans (count_len _ _) (by rw [List.length_take]; omega))
  have HCE : Hid ((b.take n).count o = b.count o) := Lib.hid (by rw [List.take_of_length_le (by omega)])
  have HLA : Hid (b.getLast? = if n = 0 then none else some (b.getD (n - 1) 0)) := Lib.hid (by
    by_cases h0 : n = 0
    · rw [if_pos h0, List.eq_nil_of_length_eq_zero (hbn.trans h0)]; rfl
    · rw [if_neg h0, List.getLast?_eq_getElem?, hbn, List.getD_eq_getElem?_getD, List.getElem?_eq_getElem (by omega)]; rfl)
  obtain ⟨ms, hms⟩ : ∃ ms, ms = K.most := ⟨_, rfl⟩
  rw [← hms] at hm HFB ⊢
  generalize K.can.getD n 0 = x at *
  obtain ⟨y, hy⟩ : ∃ y, y = x / 2 ^ o := ⟨_, rfl⟩
  have hsh : (x : Int) / 2 ^ o = (y : Int) := by rw [hy]; simp
  have hand := and_one y (by rw [hy]; exact Nat.lt_of_le_of_lt (Nat.div_le_self _ _) hx256)
  have HBI : Hid (bitB x o = decide (y % 2 = 1)) := Lib.hid (by unfold bitB; rw [hy])
  have z1 : (n : Int) < (N : Int) := by omega
  generalize fitB K b o = R at *
  clear hA hB hcb hN hbn hms hy hx256
  rcases Nat.mod_two_eq_zero_or_one y with h2 | h2
  case inl =>
    have hand0 : bits .and .i64 (y : Int) 1 = 0 := by rw [hand, h2]; rfl
    obtain rfl : R = false := by rw [HFB.out, HBI.out, h2]; rfl
    clear h2 HFB HBI hand HLA HCT HCL HCE
    go_enter Try.func93, Try.ntmps93
    go_wp2
    go_ret
    exact ⟨rfl, Below.refl _ _⟩
  have hand1 : bits .and .i64 (y : Int) 1 = 1 := by rw [hand, h2]; rfl
  have hbk : bitB x o = true := by rw [HBI.out, h2]; rfl
  rw [hbk] at HFB
  clear h2 HBI hand hbk
  by_cases h0 : n = 0
  case pos =>
    subst h0
    have hcx0 : w.cell? ⟨g, off, none⟩ = some (.int .i64 x) := hcx
    have hl0 : b.getLast? = none := by rw [HLA.out]; rfl
    have hR : R = decide (1 ≤ ms) := by rw [HFB.out, hl0, ← HCE.out]; simp
    have HR := Lib.hid hR
    clear hl0 hR HFB HLA HCT HCL HCE
    by_cases hm1 : 1 ≤ ms
    · have d1 : decide ((1 : Int) ≤ (ms : Int)) = true := decide_eq_true (by omega)
      have d2 : decide (1 ≤ ms) = true := decide_eq_true (by omega)
      obtain rfl : R = true := HR.out.trans (decide_eq_true hm1)
      clear HR hm1
      go_enter Try.func93, Try.ntmps93
      go_wp2
      go_loopw [38, 10] (fun i s wr => i = .int .i64 0 ∧ s = .int .i64 1 ∧ wr = w) (fun i s _ => 0)
      case atStart => exact ⟨rfl, rfl, rfl⟩
      case round =>
        obtain ⟨rfl, rfl, rfl⟩ := hrel
        go_wp2
        go_ret
        exact ⟨rfl, Below.refl _ _⟩
    · have d1 : decide ((1 : Int) ≤ (ms : Int)) = false := decide_eq_false (by omega)
      have d2 : decide (1 ≤ ms) = false := decide_eq_false (by omega)
      obtain rfl : R = false := HR.out.trans (decide_eq_false hm1)
      clear HR hm1
      go_enter Try.func93, Try.ntmps93
      go_wp2
      go_loopw [38, 10] (fun i s wr => i = .int .i64 0 ∧ s = .int .i64 1 ∧ wr = w) (fun i s _ => 0)
      case atStart => exact ⟨rfl, rfl, rfl⟩
      case round =>
        obtain ⟨rfl, rfl, rfl⟩ := hrel
        go_wp2
        go_ret
        exact ⟨rfl, Below.refl _ _⟩
  have hgt : decide ((n : Int) > 0) = true := decide_eq_true (by omega)
  have hgt2 : decide (0 < (n : Int)) = true := decide_eq_true (by omega)
  obtain ⟨gb, ofb, rfl, hgb, hcl⟩ := HB.out w (Below.refl _ _) (n - 1) (by omega)
  obtain ⟨n1, hn1⟩ : ∃ n1, n1 = n - 1 := ⟨_, rfl⟩
  have s1 : IntKind.i64.wrap ((n : Int) - 1) = (n1 : Int) := by rw [show (n : Int) - 1 = (n1 : Int) by omega]; exact IntWalk.i64_in _ (by omega)
  have z2 : (n1 : Int) < (n : Int) := by omega
  have HL : Hid (b.getLast? = some (b.getD (n - 1) 0)) := Lib.hid (by rw [HLA.out, if_neg h0])
  rw [← hn1] at hcl HL
  generalize hlx : b.getD n1 0 = lx at *
  clear HLA hn1 hlx
  by_cases hlo : lx = o
  case pos =>
    have g1 : ((lx : Int) == (o : Int)) = true := by simp [hlo]
    obtain rfl : R = false := by rw [HFB.out, HL.out, hlo]; simp
    clear HFB HL hlo HCT HCL HCE h0
    go_enter Try.func93, Try.ntmps93
    go_wp2
    go_ret
    exact ⟨rfl, Below.refl _ _⟩
  have g1 : ((lx : Int) == (o : Int)) = false := by simp; omega
  have HR : Hid (R = decide ((b.take n).count o + 1 ≤ ms)) := Lib.hid (by rw [HFB.out, HL.out, HCE.out]; simp [hlo])
  clear HFB HL hlo h0 HCE
  go_enter Try.func93, Try.ntmps93
  go_wp2
  clear hsh hand1 g1 s1 hcx hcl
  go_loopw [38, 10] (fun i s wr => ∃ k : Nat, k ≤ n ∧ i = .int .i64 k ∧ s = .int .i64 (((b.take k).count o + 1 : Nat)) ∧ Below w.heap.size w wr) (fun i s _ => n - (intOf i).toNat)
  case atStart => exact ⟨0, Nat.zero_le _, rfl, rfl, Below.refl _ _⟩
  case round =>
    rename World => U
    obtain ⟨k, hk, rfl, rfl, hbu⟩ := hrel
    have hcl := HCL.out k
    obtain ⟨c, hc⟩ : ∃ c, c = (b.take k).count o + 1 := ⟨_, rfl⟩
    rw [← hc]
    have HC := Lib.hid hc
    clear hc
    by_cases hlt : k < n
    case neg =>
      obtain rfl : n = k := by omega
      have v1 : decide ((n : Int) < (n : Int)) = false := decide_eq_false (by omega)
      have hR := HR.out
      rw [← HC.out] at hR
      by_cases hcm : c ≤ ms
      · have d1 : decide ((c : Int) ≤ (ms : Int)) = true := decide_eq_true (by omega)
        have d2 : decide (c ≤ ms) = true := decide_eq_true (by omega)
        obtain rfl : R = true := hR.trans (decide_eq_true hcm)
        clear hR HR hcm
        go_wp2
        go_ret
        exact ⟨rfl, hbu⟩
      · have d1 : decide ((c : Int) ≤ (ms : Int)) = false := decide_eq_false (by omega)
        have d2 : decide (c ≤ ms) = false := decide_eq_false (by omega)
        obtain rfl : R = false := hR.trans (decide_eq_false hcm)
        clear hR HR hcm
        go_wp2
        go_ret
        exact ⟨rfl, hbu⟩
    have v1 : decide ((k : Int) < (n : Int)) = true := decide_eq_true (by omega)
    have v3 : IntKind.i64.wrap ((k : Int) + 1) = (k : Int) + 1 := IntWalk.i64_in _ (by omega)
    obtain ⟨gb', ofb', he, hgb', hck⟩ := HB.out U hbu k hlt
    obtain ⟨rfl, rfl⟩ : gb = gb' ∧ ofb = ofb' := by injection he with he; injection he with e1 e2; exact ⟨e1, e2⟩
    have HCK := Lib.hid (HCT.out k hlt)
    have z3 : (k : Int) < (n : Int) := by omega
    have hc12 : c ≤ 13 := by have := HC.out; omega
    have v4 : IntKind.i64.wrap ((c : Int) + 1) = ((c + 1 : Nat) : Int) := IntWalk.i64_in _ (by omega)
    have yb : gb < U.heap.size := cell?_lt hck
    generalize b.getD k 0 = bk at *
    clear he hcl
    by_cases hbo : bk = o
    · have g2 : ((bk : Int) == (o : Int)) = true := by simp [hbo]
      have HC2 : Hid ((b.take (k + 1)).count o + 1 = c + 1) := Lib.hid (by rw [HCK.out, if_pos hbo, HC.out])
      clear hbo HCK
      go_wp2
      go_roundw
      case rel => exact ⟨k + 1, by omega, by go_num, by first | (rw [HC2.out]; done) | (rw [HC2.out]; rfl), hbu⟩
      case measure => simp [intOf]; omega
    · have g2 : ((bk : Int) == (o : Int)) = false := by simp; omega
      have HC2 : Hid ((b.take (k + 1)).count o + 1 = c) := Lib.hid (by rw [HCK.out, if_neg hbo, HC.out, Nat.add_zero])
      clear hbo HCK
      go_wp2
      go_roundw
      case rel => exact ⟨k + 1, by omega, by go_num, by rw [HC2.out], hbu⟩
      case measure => simp [intOf]; omega
end Go.Proofs.Ytomgaiokmdcjmaa
