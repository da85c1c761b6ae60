/-
  Valid of the reference: chances. No conditions.
-/
import Derived.Test.YtimbdnngeoccdaaGreatDoorNt5
namespace Go.Proofs.YtimbdnngeoccdaaGreatDoor
open Go.RowKit Go.Deep
set_option linter.unusedVariables false
set_option linter.unusedSimpArgs false
def eqN (d c : Ch) : Bool := d.nm.toList == c.nm.toList
def gtN (d c : Ch) : Bool := !(Op.bytesLess d.nm.toList c.nm.toList || d.nm.toList == c.nm.toList)
/-- What may not stand ahead of a chance. -/
def badC (d c : Ch) : Bool := eqN d c || (decide (c.a < d.a) || (decide (d.a = c.a) && gtN d c))
def rokAt (l : List Ch) (k : Nat) : Bool := okC (l.getD k ch0).nm (l.getD k ch0).a (l.getD k ch0).b (l.getD k ch0).t (l.getD k ch0).v && (List.range k).all (fun j => !badC (l.getD j ch0) (l.getD k ch0))
def rokV (l : List Ch) : Bool := (List.range l.length).all (rokAt l) && decide (l.length ≤ 20)
theorem rokV_false {l : List Ch} {k : Nat} (hk : k < l.length) (h : rokAt l k = false) : rokV l = false := by
  unfold rokV
  rw [Bool.and_eq_false_iff]
  refine .inl ?_
  cases ha : (List.range l.length).all (rokAt l) with
  | false => rfl
  | true => rw [List.all_eq_true.1 ha k (List.mem_range.2 hk)] at h; cases h
theorem rokV_end {l : List Ch} (h : ∀ j, j < l.length → rokAt l j = true) : rokV l = decide (l.length ≤ 20) := by
  unfold rokV
  rw [List.all_eq_true.2 fun j hj => h j (List.mem_range.1 hj)]; rfl
set_option maxHeartbeats 4000000 in
set_option maxRecDepth 100000 in
theorem rValid_c (l : List Ch) (A : Option Addr) (cap : Nat) (hl : l.length ≤ 1000000) (hcap : l.length ≤ cap) (hs : ∀ x ∈ l, x.nm.size ≤ maxLen) (w : World) (hr : RdL w w.heap.size chE 5 A l) :
    Calls Tryz.prog 40 #[.slice A l.length cap] w fun e w' => e = .returned (.bool (rokV l)) ∧ Below w.heap.size w w' := by
  have HR := Lib.hid hr
  have HS := Lib.hid hs
  obtain ⟨n, hn⟩ : ∃ n, n = l.length := ⟨_, rfl⟩
  have HN := Lib.hid hn
  rw [← hn] at hl hcap ⊢
  clear hr hs hn
  go_enter Tryz.func40, Tryz.ntmps40
  go_wp2
  go_loopw [9] (fun i wr => ∃ k : Nat, k ≤ n ∧ i = .int .i64 k ∧ (∀ j, j < k → rokAt l j = true) ∧ Below w.heap.size w wr) (fun i _ => n - (intOf i).toNat)
  case atStart => exact ⟨0, Nat.zero_le _, rfl, fun j h => absurd h (Nat.not_lt_zero j), Below.refl _ _⟩
  case round =>
    rename World => U
    obtain ⟨k, hk, rfl, hno, hbw⟩ := hrel
    have HNO := Lib.hid hno
    clear hno
    by_cases hlt : k < n
    · have hl1 : k < l.length := by rw [← HN.out]; exact hlt
      obtain ⟨b, off, rfl, hb0, hc⟩ := HR.out (by omega)
      obtain ⟨c, hcd⟩ : ∃ c, c = l[k] := ⟨_, rfl⟩
      have hcell : ∀ jj v, (chE c)[jj]? = some v → U.cell? ⟨b, off + k * 5 + jj, none⟩ = some v := fun jj v hv => (hbw.cell (p := ⟨b, _, none⟩) hb0).trans (hc k hl1 jj v (by rw [hcd] at hv; exact hv))
      have q0 : U.cell? ⟨b, off + k * 5, none⟩ = some (.string c.nm) := by simpa using hcell 0 _ rfl
      have q1 : U.cell? ⟨b, off + k * 5 + 1, none⟩ = some (.int .i64 c.a) := hcell 1 _ rfl
      have q2 : U.cell? ⟨b, off + k * 5 + 2, none⟩ = some (.int .i64 c.b) := hcell 2 _ rfl
      have q3 : U.cell? ⟨b, off + k * 5 + 3, none⟩ = some (.int .i64 c.t) := hcell 3 _ rfl
      have q4 : U.cell? ⟨b, off + k * 5 + 4, none⟩ = some (.int .i64 c.v) := hcell 4 _ rfl
      have hgk : l.getD k ch0 = c := by rw [hcd, List.getD_eq_getElem?_getD, List.getElem?_eq_getElem hl1]; rfl
      have hnm : c.nm.size ≤ maxLen := HS.out c (by rw [hcd]; exact List.getElem_mem hl1)
      have HAT := Lib.hid (show rokAt l k = (okC c.nm c.a c.b c.t c.v && (List.range k).all (fun j => !badC (l.getD j ch0) c)) by unfold rokAt; rw [hgk])
      have HFL := Lib.hid (fun h : rokAt l k = false => rokV_false hl1 h)
      have HC := Lib.hid hc
      have HVA := Lib.hid (fun W => rvalid_c c.nm c.a c.b c.t c.v (by unfold maxLen at hnm; omega) W)
      clear hcell hgk hcd hc
      have yU : b < U.heap.size := cell?_lt q0
      have u1 : decide ((k : Int) < (n : Int)) = true := decide_eq_true (by omega)
      have u3 : IntKind.i64.wrap ((k : Int) + 1) = (k : Int) + 1 := IntWalk.i64_in _ (by omega)
      have u4 : (0 : Int) ≤ (k : Int) := by omega
      have u5 : (k : Int) ≤ (cap : Int) := by omega
      obtain ⟨vB, hvB⟩ : ∃ vB, vB = okC c.nm c.a c.b c.t c.v := ⟨_, rfl⟩
      rw [← hvB] at HAT HVA
      clear hvB
      go_wp2_with fail
      refine (HVA.out _).mono ?_
      rintro e V ⟨rfl, hbv⟩
      have e0 : V.cell? ⟨U.heap.size, 0, none⟩ = some (.string c.nm) := keep_cell hbv (by simp [go_sem])
      have e1 : V.cell? ⟨U.heap.size, 1, none⟩ = some (.int .i64 c.a) := keep_cell hbv (by simp [go_sem])
      have hbUV : Below U.heap.size U V := Below.low (by (repeat (first | (with_reducible exact Below.refl _ _) | (with_reducible assumption) | (with_reducible refine Below.drew ?_) | (with_reducible refine Below.allocS ?_ _) | (with_reducible refine Below.setCell ?_ ?_ _) | (with_reducible refine Below.step ?_ (by assumption)) | (with_reducible refine Below.drewN' ?_ _))); (try any_goals (first | (with_reducible assumption) | (simp; done) | (simp; omega) | omega))) hbv (by simp)
      have hbwV : Below w.heap.size w V := Below.low hbw hbUV (by have := hbw.size; omega)
      clear hbv q0 q1 q2 q3 q4
      cases vB
      · have HF := Lib.hid (HFL.out (by rw [HAT.out]; rfl))
        go_wp2
        go_ret
        exact ⟨by rw [HF.out]; rfl, hbwV⟩
      go_wp2
      go_loopw [21] (fun i wr => ∃ j : Nat, j ≤ k ∧ i = .int .i64 j ∧ (∀ m, m < j → badC (l.getD m ch0) c = false) ∧ Below V.heap.size V wr) (fun i _ => k - (intOf i).toNat)
      case atStart => exact ⟨0, Nat.zero_le _, rfl, fun j h => absurd h (Nat.not_lt_zero j), Below.refl _ _⟩
      case round =>
        rename World => X
        obtain ⟨j, hj, rfl, hnb, hbX⟩ := hrel
        have HNB := Lib.hid hnb
        clear hnb
        have hbUX : Below U.heap.size U X := Below.low hbUV hbX (by have := hbUV.size; omega)
        have hbwX : Below w.heap.size w X := Below.low hbwV hbX (by have := hbwV.size; omega)
        have f0 : X.cell? ⟨U.heap.size, 0, none⟩ = some (.string c.nm) := keep_cell hbX e0
        have f1 : X.cell? ⟨U.heap.size, 1, none⟩ = some (.int .i64 c.a) := keep_cell hbX e1
        have yX : U.heap.size < X.heap.size := cell?_lt f0
        by_cases hjk : j < k
        · have hjl : j < l.length := by omega
          obtain ⟨d, hdd⟩ : ∃ d, d = l[j] := ⟨_, rfl⟩
          have hcell : ∀ jj v, (chE d)[jj]? = some v → X.cell? ⟨b, off + j * 5 + jj, none⟩ = some v := fun jj v hv => (hbwX.cell (p := ⟨b, _, none⟩) hb0).trans (HC.out j hjl jj v (by rw [hdd] at hv; exact hv))
          have q0 : X.cell? ⟨b, off + j * 5, none⟩ = some (.string d.nm) := by simpa using hcell 0 _ rfl
          have q1 : X.cell? ⟨b, off + j * 5 + 1, none⟩ = some (.int .i64 d.a) := hcell 1 _ rfl
          have q2 : X.cell? ⟨b, off + j * 5 + 2, none⟩ = some (.int .i64 d.b) := hcell 2 _ rfl
          have q3 : X.cell? ⟨b, off + j * 5 + 3, none⟩ = some (.int .i64 d.t) := hcell 3 _ rfl
          have q4 : X.cell? ⟨b, off + j * 5 + 4, none⟩ = some (.int .i64 d.v) := hcell 4 _ rfl
          have hgj : l.getD j ch0 = d := by rw [hdd, List.getD_eq_getElem?_getD, List.getElem?_eq_getElem hjl]; rfl
          have HBD := Lib.hid (show badC (l.getD j ch0) c = (eqN d c || (decide (c.a < d.a) || (decide (d.a = c.a) && gtN d c))) by rw [hgj]; rfl)
          clear hcell hgj hdd hjl
          have u6 : decide ((j : Int) < (k : Int)) = true := decide_eq_true (by omega)
          have u7 : IntKind.i64.wrap ((j : Int) + 1) = (j : Int) + 1 := IntWalk.i64_in _ (by omega)
          have HKF := Lib.hid (fun h : badC (l.getD j ch0) c = true => HFL.out (show rokAt l k = false by
            rw [HAT.out, Bool.true_and]
            cases ha : (List.range k).all (fun j => !badC (l.getD j ch0) c) with
            | false => rfl
            | true => have := List.all_eq_true.1 ha j (List.mem_range.2 hjk); rw [h] at this; cases this))
          cases hE : (d.nm.toList == c.nm.toList)
          case true =>
            have HF := Lib.hid (HKF.out (by rw [HBD.out]; unfold eqN; rw [hE]; rfl))
            go_wp2
            go_ret
            exact ⟨by rw [HF.out]; rfl, by (repeat (first | (with_reducible exact Below.refl _ _) | (with_reducible assumption) | (with_reducible refine Below.drew ?_) | (with_reducible refine Below.allocS ?_ _) | (with_reducible refine Below.setCell ?_ ?_ _) | (with_reducible refine Below.step ?_ (by assumption)) | (with_reducible refine Below.drewN' ?_ _))); (try any_goals (first | (with_reducible assumption) | (simp; done) | (simp; omega) | omega))⟩
          by_cases hgt : c.a < d.a
          · have g1 : decide (d.a > c.a) = true := decide_eq_true hgt
            have g2 : decide (c.a < d.a) = true := decide_eq_true hgt
            have HF := Lib.hid (HKF.out (by rw [HBD.out, g2]; simp))
            clear hgt
            go_wp2
            go_ret
            exact ⟨by rw [HF.out]; rfl, by (repeat (first | (with_reducible exact Below.refl _ _) | (with_reducible assumption) | (with_reducible refine Below.drew ?_) | (with_reducible refine Below.allocS ?_ _) | (with_reducible refine Below.setCell ?_ ?_ _) | (with_reducible refine Below.step ?_ (by assumption)) | (with_reducible refine Below.drewN' ?_ _))); (try any_goals (first | (with_reducible assumption) | (simp; done) | (simp; omega) | omega))⟩
          have g1 : decide (d.a > c.a) = false := decide_eq_false hgt
          have g2 : decide (c.a < d.a) = false := decide_eq_false hgt
          by_cases heq : d.a = c.a
          · have g3 : (d.a == c.a) = true := by simp [heq]
            have g4 : decide (d.a = c.a) = true := decide_eq_true heq
            cases hL : Op.bytesLess d.nm.toList c.nm.toList
            · have HF := Lib.hid (HKF.out (by rw [HBD.out, g4]; unfold gtN; rw [hL, hE]; simp))
              clear hgt heq
              go_wp2
              go_ret
              exact ⟨by rw [HF.out]; rfl, by (repeat (first | (with_reducible exact Below.refl _ _) | (with_reducible assumption) | (with_reducible refine Below.drew ?_) | (with_reducible refine Below.allocS ?_ _) | (with_reducible refine Below.setCell ?_ ?_ _) | (with_reducible refine Below.step ?_ (by assumption)) | (with_reducible refine Below.drewN' ?_ _))); (try any_goals (first | (with_reducible assumption) | (simp; done) | (simp; omega) | omega))⟩
            · have HN2 := Lib.hid (show badC (l.getD j ch0) c = false by rw [HBD.out, g2]; unfold gtN eqN; rw [hL, hE]; simp)
              clear hgt heq
              go_wp2
              go_roundw
              case rel => exact ⟨j + 1, by omega, by go_num, fun m hm => (by rcases Nat.lt_succ_iff_lt_or_eq.1 hm with h | rfl; exact HNB.out m h; exact HN2.out), by (repeat (first | (with_reducible exact Below.refl _ _) | (with_reducible assumption) | (with_reducible refine Below.drew ?_) | (with_reducible refine Below.allocS ?_ _) | (with_reducible refine Below.setCell ?_ ?_ _) | (with_reducible refine Below.step ?_ (by assumption)) | (with_reducible refine Below.drewN' ?_ _))); (try any_goals (first | (with_reducible assumption) | (simp; done) | (simp; omega) | omega))⟩
              case measure => simp [intOf]; omega
          · have g3 : (d.a == c.a) = false := by simp [heq]
            have g4 : decide (d.a = c.a) = false := decide_eq_false heq
            have HN2 := Lib.hid (show badC (l.getD j ch0) c = false by rw [HBD.out, g2, g4]; unfold eqN; rw [hE]; rfl)
            clear hgt heq
            go_wp2
            go_roundw
            case rel => exact ⟨j + 1, by omega, by go_num, fun m hm => (by rcases Nat.lt_succ_iff_lt_or_eq.1 hm with h | rfl; exact HNB.out m h; exact HN2.out), by (repeat (first | (with_reducible exact Below.refl _ _) | (with_reducible assumption) | (with_reducible refine Below.drew ?_) | (with_reducible refine Below.allocS ?_ _) | (with_reducible refine Below.setCell ?_ ?_ _) | (with_reducible refine Below.step ?_ (by assumption)) | (with_reducible refine Below.drewN' ?_ _))); (try any_goals (first | (with_reducible assumption) | (simp; done) | (simp; omega) | omega))⟩
            case measure => simp [intOf]; omega
        · obtain rfl : j = k := by omega
          have u6 : decide ((j : Int) < (j : Int)) = false := decide_eq_false (by omega)
          have HT := Lib.hid (show rokAt l j = true by
            rw [HAT.out, Bool.true_and]
            exact List.all_eq_true.2 fun m hm => by rw [HNB.out m (List.mem_range.1 hm)]; rfl)
          go_wp2
          go_roundw
          case rel => exact ⟨j + 1, by omega, by go_num, fun m hm => (by rcases Nat.lt_succ_iff_lt_or_eq.1 hm with h | rfl; exact HNO.out m h; exact HT.out), hbwX⟩
          case measure => simp [intOf]; omega
    · obtain rfl : k = n := by omega
      have HE := Lib.hid (show rokV l = decide ((k : Int) ≤ 20) by
        rw [rokV_end (by rw [← HN.out]; exact HNO.out), ← HN.out]; exact decide_eq_decide.2 (by omega))
      go_wp2
      go_ret
      exact ⟨by rw [HE.out]; first | rfl | (simp; done), hbw⟩
end Go.Proofs.YtimbdnngeoccdaaGreatDoor
