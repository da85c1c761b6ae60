/-
  The worth of lists, and their order. No conditions.
-/
import Derived.Test.YtimbdnngeoccdaaGreatDoorNt10
namespace Go.Proofs.YtimbdnngeoccdaaGreatDoor
open Go.RowKit Go.Deep
set_option linter.unusedVariables false
set_option linter.unusedSimpArgs false
def worthL (l : List Ch) : List Nat → Int
  | [] => 0
  | i :: r => (l.getD i ch0).v + worthL l r
theorem worth_snoc (l : List Ch) (i : Nat) : ∀ r, worthL l (r ++ [i]) = worthL l r + (l.getD i ch0).v
  | [] => by simp [worthL]
  | j :: r => by simp only [List.cons_append, worthL]; rw [worth_snoc l i r]; omega
def VOk (l : List Ch) : Prop := ∀ x ∈ l, 0 ≤ x.v ∧ x.v ≤ 1000000
theorem worth_bd {l : List Ch} (hv : VOk l) : ∀ {r : List Nat}, (∀ i ∈ r, i < l.length) → 0 ≤ worthL l r ∧ worthL l r ≤ 1000000 * (r.length : Int)
  | [], _ => by simp [worthL]
  | i :: r, h => by
    have h1 := @worth_bd l hv r (fun j hj => h j (List.mem_cons_of_mem _ hj))
    have hi := h i (by simp)
    have h2 := hv (l.getD i ch0) (by rw [List.getD_eq_getElem?_getD, List.getElem?_eq_getElem hi]; exact List.getElem_mem hi)
    simp only [worthL, List.length_cons]
    omega
set_option maxHeartbeats 1000000 in
theorem worth_c (l : List Ch) (A : Option Addr) (cap : Nat) (r : List Nat) (B : Option Addr) (cb : Nat) (hv : VOk l) (hr1 : ∀ i ∈ r, i < l.length) (hl : l.length ≤ 1000000) (hn : r.length ≤ 1000) (w : World) (hr : RdL w w.heap.size chE 5 A l) (hb : RdL w w.heap.size inE 1 B (r.map Int.ofNat)) :
    Calls Tryz.prog 121 #[.slice A l.length cap, .slice B r.length cb] w fun e w' => e = .returned (.int .i64 (worthL l r)) ∧ w' = w := by
  have HR := Lib.hid hr
  have HB := Lib.hid hb
  have HI := Lib.hid hr1
  have HV := Lib.hid hv
  obtain ⟨n, hnl⟩ : ∃ n, n = l.length := ⟨_, rfl⟩
  obtain ⟨m, hmr⟩ : ∃ m, m = r.length := ⟨_, rfl⟩
  have HN := Lib.hid hnl
  have HM := Lib.hid hmr
  rw [← hnl] at hl ⊢
  rw [← hmr] at hn ⊢
  clear hr hb hr1 hv hnl hmr
  go_enter Tryz.func121, Tryz.ntmps121
  go_wp2
  go_loopw [5, 10] (fun s i wr => ∃ k : Nat, k ≤ m ∧ i = .int .i64 k ∧ s = .int .i64 (worthL l (r.take k)) ∧ w = wr) (fun _ i _ => m - (intOf i).toNat)
  case atStart => exact ⟨0, Nat.zero_le _, rfl, rfl, rfl⟩
  case round =>
    obtain ⟨k, hk, rfl, rfl, rfl⟩ := hrel
    by_cases hlt : k < m
    · have hkr : k < r.length := by rw [← HM.out]; exact hlt
      obtain ⟨i, hi⟩ : ∃ i, i = r[k] := ⟨_, rfl⟩
      have hil : i < l.length := by rw [hi]; exact HI.out _ (List.getElem_mem hkr)
      obtain ⟨b2, off2, rfl, hb2, hc2⟩ := HB.out (by rw [List.length_map]; omega)
      have d0 := hc2 k (by rw [List.length_map]; exact hkr) 0 _ rfl
      clear hc2
      have d1 : w.cell? ⟨b2, off2 + k, none⟩ = some (.int .i64 i) := by rw [hi]; simpa using d0
      obtain ⟨b, off, rfl, hb0, hc⟩ := HR.out (by omega)
      obtain ⟨v, hv⟩ : ∃ v, v = l[i].v := ⟨_, rfl⟩
      have c4 := hc i hil 4 _ rfl
      have c4' : w.cell? ⟨b, off + i * 5 + 4, none⟩ = some (.int .i64 v) := by rw [hv]; exact c4
      have HT := Lib.hid (show worthL l (r.take (k + 1)) = worthL l (r.take k) + v by
        rw [List.take_succ_eq_append_getElem hkr, worth_snoc, ← hi, hv, List.getD_eq_getElem?_getD, List.getElem?_eq_getElem hil]; rfl)
      have hbd := worth_bd HV.out (r := r.take k) (fun j hj => HI.out j (List.mem_of_mem_take hj))
      have hvb := HV.out l[i] (List.getElem_mem hil)
      rw [← hv] at hvb
      have hlen : (r.take k).length ≤ 1000 := by rw [List.length_take]; omega
      generalize worthL l (r.take k) = s at *
      have u0 : IntKind.i64.wrap (s + v) = s + v := IntWalk.i64_in _ (by omega)
      have u1 : (0 : Int) ≤ (i : Int) := by omega
      have u2 : (i : Int) < (n : Int) := by rw [HN.out]; omega
      clear c4 hc d0 hi hil hkr hv hbd hvb hlen
      go_wp2
      go_roundw
      case rel => exact ⟨k + 1, by omega, by go_num, by rw [HT.out], trivial⟩
      case measure => simp [intOf]; omega
    · obtain rfl : k = m := by omega
      have HE := Lib.hid (show r.take k = r by rw [HM.out]; exact List.take_of_length_le (Nat.le_refl _))
      go_wp2
      go_ret
      exact ⟨by rw [HE.out]; rfl, rfl⟩
/-- The order of lists. -/
def cmpL : List Nat → List Nat → Int
  | [], [] => 0
  | [], _ :: _ => -1
  | _ :: _, [] => 1
  | a :: x, b :: y => if sgnI a b = 0 then cmpL x y else sgnI a b
set_option maxRecDepth 100000 in
set_option maxHeartbeats 1000000 in
theorem SCompare_c (l r : List Nat) (n m : Nat) (hn : l.length = n) (hm : r.length = m) (h1 : n ≤ 1000) (h2 : m ≤ 1000) (A B : Option Addr) (ca cb : Nat) (w : World) (ha : RdL w w.heap.size inE 1 A (l.map Int.ofNat)) (hb : RdL w w.heap.size inE 1 B (r.map Int.ofNat)) :
    Calls Tryz.prog 122 #[.slice A n ca, .slice B m cb] w fun e w' => e = .returned (.int .i64 (cmpL l r)) ∧ w' = w := by
  have HA := Lib.hid ha
  have HB := Lib.hid hb
  have HN := Lib.hid hn
  have HM := Lib.hid hm
  clear ha hb hn hm
  go_enter Tryz.func122, Tryz.ntmps122
  go_wp2
  go_loopw [11] (fun i wr => ∃ k : Nat, k ≤ n ∧ k ≤ m ∧ i = .int .i64 k ∧ cmpL l r = cmpL (l.drop k) (r.drop k) ∧ w = wr) (fun i _ => n - (intOf i).toNat)
  case atStart => exact ⟨0, Nat.zero_le _, Nat.zero_le _, rfl, rfl, rfl⟩
  case round =>
    obtain ⟨k, hk, hk2, rfl, he, rfl⟩ := hrel
    have HE := Lib.hid he
    clear he
    by_cases hlt : k < n
    · have y1 : decide ((k : Int) < (n : Int)) = true := decide_eq_true (by omega)
      have hl1 : k < l.length := by rw [HN.out]; exact hlt
      obtain ⟨p, hp⟩ : ∃ p, p = l[k] := ⟨_, rfl⟩
      obtain ⟨b, off, rfl, hb0, hc⟩ := HA.out (by rw [List.length_map]; omega)
      have c0 := hc k (by rw [List.length_map]; exact hl1) 0 _ rfl
      have e0 : w.cell? ⟨b, off + k, none⟩ = some (.int .i64 p) := by rw [hp]; simpa using c0
      have hdl := List.drop_eq_getElem_cons hl1
      rw [← hp] at hdl
      have HDL := Lib.hid hdl
      clear c0 hc hp hdl
      have u1 : (0 : Int) ≤ (k : Int) := by omega
      have u3 : IntKind.i64.wrap ((k : Int) + 1) = (k : Int) + 1 := IntWalk.i64_in _ (by omega)
      by_cases hlt2 : k < m
      · have y2 : decide ((k : Int) ≥ (m : Int)) = false := decide_eq_false (by omega)
        have y2' : decide ((m : Int) ≤ (k : Int)) = false := decide_eq_false (by omega)
        have hl2 : k < r.length := by rw [HM.out]; exact hlt2
        obtain ⟨q, hq⟩ : ∃ q, q = r[k] := ⟨_, rfl⟩
        have HD := Lib.hid (show cmpL (l.drop k) (r.drop k) = if sgnI p q = 0 then cmpL (l.drop (k + 1)) (r.drop (k + 1)) else sgnI p q by
          rw [HDL.out, List.drop_eq_getElem_cons hl2, ← hq]; rfl)
        obtain ⟨b', off', rfl, hb0', hc'⟩ := HB.out (by rw [List.length_map]; omega)
        have d0 := hc' k (by rw [List.length_map]; exact hl2) 0 _ rfl
        have f0 : w.cell? ⟨b', off' + k, none⟩ = some (.int .i64 q) := by rw [hq]; simpa using d0
        clear d0 hc' hq hl1 hl2
        have HCI := Lib.hid (fun W => CompareI_c (p : Int) (q : Int) W)
        generalize sgnI (p : Int) (q : Int) = s at *
        have u5 : (k : Int) < (m : Int) := by omega
        go_wp2_with fail
        refine (HCI.out _).mono ?_
        rintro e w' ⟨rfl, rfl⟩
        by_cases hs : s = 0
        · subst hs
          have HE2 := Lib.hid (show cmpL l r = cmpL (l.drop (k + 1)) (r.drop (k + 1)) by rw [HE.out, HD.out, if_pos rfl])
          go_wp2
          go_roundw
          case rel => exact ⟨k + 1, by omega, by omega, by go_num, HE2.out, trivial⟩
          case measure => simp [intOf]; omega
        · have q1 : (s != 0) = true := by simp [hs]
          have q2 : (s == 0) = false := by simp [hs]
          have HE2 := Lib.hid (show cmpL l r = s by rw [HE.out, HD.out, if_neg hs])
          clear hs
          go_wp2
          go_ret
          exact ⟨by rw [HE2.out]; rfl, rfl⟩
      · obtain rfl : k = m := by omega
        have y2 : decide ((k : Int) ≥ (k : Int)) = true := decide_eq_true (by omega)
        have HE2 := Lib.hid (show cmpL l r = 1 by rw [HE.out, HDL.out, List.drop_of_length_le (l := r) (by rw [HM.out]; exact Nat.le_refl _)]; rfl)
        go_wp2
        go_ret
        exact ⟨by rw [HE2.out]; rfl, rfl⟩
    · obtain rfl : k = n := by omega
      have y1 : decide ((k : Int) < (k : Int)) = false := decide_eq_false (by omega)
      have hlen : (r.drop k).length = m - k := by rw [List.length_drop, HM.out]
      have hx : cmpL l r = cmpL [] (r.drop k) := by rw [HE.out, List.drop_of_length_le (l := l) (by rw [HN.out]; exact Nat.le_refl _)]
      by_cases hkm : k < m
      · have y2 : decide ((k : Int) < (m : Int)) = true := decide_eq_true (by omega)
        have HE2 := Lib.hid (show cmpL l r = -1 by
          rw [hx]
          cases hd : r.drop k with
          | nil => rw [hd] at hlen; simp at hlen; omega
          | cons a t => rfl)
        clear hx hlen
        go_wp2
        go_ret
        exact ⟨by rw [HE2.out]; rfl, rfl⟩
      · have y2 : decide ((k : Int) < (m : Int)) = false := decide_eq_false (by omega)
        have HE2 := Lib.hid (show cmpL l r = 0 by
          rw [hx]
          cases hd : r.drop k with
          | nil => rfl
          | cons a t => rw [hd] at hlen; simp at hlen; omega)
        clear hx hlen
        go_wp2
        go_ret
        exact ⟨by rw [HE2.out]; rfl, rfl⟩
end Go.Proofs.YtimbdnngeoccdaaGreatDoor
