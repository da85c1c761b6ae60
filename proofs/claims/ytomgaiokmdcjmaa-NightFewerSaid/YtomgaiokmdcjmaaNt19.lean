/-
  named, and Clear of both. No conditions.
-/
import Derived.Test.YtomgaiokmdcjmaaNt18
namespace Go.Proofs.Ytomgaiokmdcjmaa
open Go.RowKit Go.Deep
set_option linter.unusedVariables false
set_option linter.unusedSimpArgs false
set_option maxHeartbeats 1000000 in
theorem named_c (l : List Ch) (A : Option Addr) (cap : Nat) (hl : l.length ≤ 9223372036854775807) (w : World) (hr : RdL w w.heap.size chE 5 A l) :
    Calls Try.prog 16 #[.slice A l.length cap] w fun e w' => (∃ x : Bool, e = .returned (.bool x) ∧ (x = true → l.length ≤ 30)) ∧ Below w.heap.size w w' := by
  have HR := Lib.hid hr
  clear hr
  generalize hn : l.length = n at *
  have HN := Lib.hid hn
  clear hn
  go_enter Try.func16, Try.ntmps16
  go_wp2
  go_loopw [7] (fun i wr => ∃ k : Nat, k ≤ n ∧ i = .int .i64 k ∧ Below w.heap.size w wr) (fun i _ => n - (intOf i).toNat)
  case atStart => exact ⟨0, Nat.zero_le _, rfl, Below.refl _ _⟩
  case round =>
    rename World => U
    obtain ⟨k, hk, rfl, hbW⟩ := hrel
    by_cases hlt : k < n
    · have hil : k < l.length := by rw [HN.out]; exact hlt
      obtain ⟨b, off, rfl, hb0, hc⟩ := HR.out (by omega)
      obtain ⟨c, hcd⟩ : ∃ c, c = l[k] := ⟨_, rfl⟩
      have hcell : ∀ jj v, (chE c)[jj]? = some v → U.cell? ⟨b, off + k * 5 + jj, none⟩ = some v := fun jj v hv => (hbW.cell (p := ⟨b, _, none⟩) hb0).trans (hc k hil jj v (by rw [hcd] at hv; exact hv))
      have q0 : U.cell? ⟨b, off + k * 5, none⟩ = some (.string c.nm) := by simpa using hcell 0 _ rfl
      have q1 : U.cell? ⟨b, off + k * 5 + 1, none⟩ = some (.int .i64 c.a) := hcell 1 _ rfl
      have q2 : U.cell? ⟨b, off + k * 5 + 2, none⟩ = some (.int .i64 c.b) := hcell 2 _ rfl
      have q3 : U.cell? ⟨b, off + k * 5 + 3, none⟩ = some (.int .i64 c.t) := hcell 3 _ rfl
      have q4 : U.cell? ⟨b, off + k * 5 + 4, none⟩ = some (.int .i64 c.v) := hcell 4 _ rfl
      clear hcell hcd hc hil
      have u3 : IntKind.i64.wrap ((k : Int) + 1) = (k : Int) + 1 := IntWalk.i64_in _ (by omega)
      by_cases h1 : (c.nm.size : Int) > 100
      · have d1 : decide ((c.nm.size : Int) > 100) = true := decide_eq_true h1
        clear h1
        go_wp2
        go_ret
        exact ⟨⟨false, rfl, fun h => by cases h⟩, by (repeat (first | (with_reducible exact Below.refl _ _) | (with_reducible assumption) | (with_reducible refine Below.drew ?_) | (with_reducible refine Below.allocS ?_ _) | (with_reducible refine Below.setCell ?_ ?_ _) | (with_reducible refine Below.step ?_ (by assumption)) | (with_reducible refine Below.drewN' ?_ _))); (try any_goals (first | (with_reducible assumption) | (simp; done) | (simp; omega) | omega))⟩
      · have d1 : decide ((c.nm.size : Int) > 100) = false := decide_eq_false h1
        clear h1
        go_wp2
        go_roundw
        case rel => exact ⟨k + 1, by omega, by go_num, by (repeat (first | (with_reducible exact Below.refl _ _) | (with_reducible assumption) | (with_reducible refine Below.drew ?_) | (with_reducible refine Below.allocS ?_ _) | (with_reducible refine Below.setCell ?_ ?_ _) | (with_reducible refine Below.step ?_ (by assumption)) | (with_reducible refine Below.drewN' ?_ _))); (try any_goals (first | (with_reducible assumption) | (simp; done) | (simp; omega) | omega))⟩
        case measure => simp [intOf]; omega
    · obtain rfl : k = n := by omega
      go_wp2
      go_ret
      exact ⟨⟨_, rfl, fun h => by have := of_decide_eq_true h; omega⟩, hbW⟩
def clrL (l : List Ch) (L : List Cl) (k : Nat) : List Nat := (List.range k).filter (clB l L)
theorem clrL_succ (l : List Ch) (L : List Cl) (k : Nat) : clrL l L (k + 1) = if clB l L k = true then clrL l L k ++ [k] else clrL l L k := by
  unfold clrL
  rw [List.range_succ, List.filter_append]
  cases h : clB l L k <;> simp [h]
theorem clrL_len (l : List Ch) (L : List Cl) (k : Nat) : (clrL l L k).length ≤ k := by
  have := List.length_filter_le (clB l L) (List.range k)
  rw [List.length_range] at this
  exact this
noncomputable def clrE (l : List Ch) (L : List Cl) : Int := if (okV l && okCl L) = true then 0 else 1
noncomputable def clrR (l : List Ch) (L : List Cl) : List Nat := if (okV l && okCl L) = true then clrL l L l.length else []
set_option maxHeartbeats 2000000 in
set_option maxRecDepth 100000 in
theorem Clear_c (l : List Ch) (A : Option Addr) (cap : Nat) (L : List Cl) (B : Option Addr) (cb : Nat) (w : World) (h : InAt w l A cap L B cb) :
    Calls Try.prog 17 #[.slice A l.length cap, .slice B L.length cb] w fun e w' => (∃ A' c', e = .returned (.tuple #[.slice A' (clrR l L).length c', .int .i64 (clrE l L)]) ∧ RdL w' w'.heap.size inE 1 A' ((clrR l L).map Int.ofNat)) ∧ Below w.heap.size w w' := by
  have H1 := Lib.hid (fun W hb => Valid_c l A cap h.hl h.hs W (h.hr.step hb))
  have H2 := Lib.hid (fun W (hb : Below w.heap.size w W) => validClouds_c L B cb (by have := h.hL; omega) W (h.hR.step hb))
  have HIN := Lib.hid h
  have HCV := Lib.hid (fun c W (hb : Below w.heap.size w W) => covered_c c L B cb (by have := h.hL; omega) W (h.hR.step hb))
  have HL : Hid (l.length ≤ 1000000) := Lib.hid h.hl
  have HE : Hid (clrE l L = if (okV l && okCl L) = true then 0 else 1) := Lib.hid (by unfold clrE; rfl)
  have HR : Hid (clrR l L = if (okV l && okCl L) = true then clrL l L l.length else []) := Lib.hid (by unfold clrR; rfl)
  clear h
  skip
  have HN20 : Hid (okV l = true → l.length ≤ 20) := Lib.hid fun h => by unfold okV at h; simp at h; exact h.2
  generalize okV l = v1 at *
  generalize okCl L = v2 at *
  generalize clrE l L = E at *
  generalize clrR l L = R at *
  obtain ⟨n, hn⟩ : ∃ n, n = l.length := ⟨_, rfl⟩
  have HN := Lib.hid hn
  rw [← hn] at H1 HN20 HR HL ⊢
  obtain ⟨m, hm⟩ : ∃ m, m = L.length := ⟨_, rfl⟩
  rw [← hm] at H2 HCV ⊢
  clear hn hm
  cases v1
  · have HE2 := Lib.hid (show E = 1 from HE.out)
    have HR2 := Lib.hid (show R = [] from HR.out)
    clear HE HR
    go_enter Try.func17, Try.ntmps17
    go_wp2_with fail
    refine (H1.out _ (by (repeat (first | exact Below.refl _ _ | refine Below.drew ?_ | refine Below.allocS ?_ _ | refine Below.step ?_ (by assumption) | refine Below.setCell ?_ (by simp <;> omega) _ | refine Below.drewN' ?_ _)))).mono ?_
    rintro e w1 ⟨rfl, hb1⟩
    have g1 : Below w.heap.size w w1 := by (repeat (first | exact Below.refl _ _ | refine Below.drew ?_ | refine Below.allocS ?_ _ | refine Below.step ?_ (by assumption) | refine Below.setCell ?_ (by simp <;> omega) _ | refine Below.drewN' ?_ _))
    clear hb1
    go_wp2
    go_ret2
    rw [HE2.out, HR2.out]
    exact ⟨⟨none, 0, rfl, fun h => absurd h (by simp)⟩, by (repeat (first | exact Below.refl _ _ | refine Below.drew ?_ | refine Below.allocS ?_ _ | refine Below.step ?_ (by assumption) | refine Below.setCell ?_ (by simp <;> omega) _ | refine Below.drewN' ?_ _))⟩
  cases v2
  · have HE2 := Lib.hid (show E = 1 from HE.out)
    have HR2 := Lib.hid (show R = [] from HR.out)
    clear HE HR
    go_enter Try.func17, Try.ntmps17
    go_wp2_with fail
    refine (H1.out _ (by (repeat (first | exact Below.refl _ _ | refine Below.drew ?_ | refine Below.allocS ?_ _ | refine Below.step ?_ (by assumption) | refine Below.setCell ?_ (by simp <;> omega) _ | refine Below.drewN' ?_ _)))).mono ?_
    rintro e w1 ⟨rfl, hb1⟩
    have g1 : Below w.heap.size w w1 := by (repeat (first | exact Below.refl _ _ | refine Below.drew ?_ | refine Below.allocS ?_ _ | refine Below.step ?_ (by assumption) | refine Below.setCell ?_ (by simp <;> omega) _ | refine Below.drewN' ?_ _))
    clear hb1
    go_wp2_with fail
    refine (H2.out _ (by (repeat (first | exact Below.refl _ _ | refine Below.drew ?_ | refine Below.allocS ?_ _ | refine Below.step ?_ (by assumption) | refine Below.setCell ?_ (by simp <;> omega) _ | refine Below.drewN' ?_ _)))).mono ?_
    rintro e w2 ⟨rfl, hb2⟩
    have g2 : Below w.heap.size w w2 := by (repeat (first | exact Below.refl _ _ | refine Below.drew ?_ | refine Below.allocS ?_ _ | refine Below.step ?_ (by assumption) | refine Below.setCell ?_ (by simp <;> omega) _ | refine Below.drewN' ?_ _))
    clear hb2 g1 
    go_wp2
    go_ret2
    rw [HE2.out, HR2.out]
    exact ⟨⟨none, 0, rfl, fun h => absurd h (by simp)⟩, by (repeat (first | exact Below.refl _ _ | refine Below.drew ?_ | refine Below.allocS ?_ _ | refine Below.step ?_ (by assumption) | refine Below.setCell ?_ (by simp <;> omega) _ | refine Below.drewN' ?_ _))⟩
  have HE2 := Lib.hid (show E = 0 from HE.out)
  have HR2 := Lib.hid (show R = clrL l L n from HR.out)
  have hn20 : n ≤ 20 := HN20.out (by first | trivial | rfl)
  clear HE HR HN20
  go_enter Try.func17, Try.ntmps17
  go_wp2_with fail
  refine (H1.out _ (by (repeat (first | exact Below.refl _ _ | refine Below.drew ?_ | refine Below.allocS ?_ _ | refine Below.step ?_ (by assumption) | refine Below.setCell ?_ (by simp <;> omega) _ | refine Below.drewN' ?_ _)))).mono ?_
  rintro e w1 ⟨rfl, hb1⟩
  have g1 : Below w.heap.size w w1 := by (repeat (first | exact Below.refl _ _ | refine Below.drew ?_ | refine Below.allocS ?_ _ | refine Below.step ?_ (by assumption) | refine Below.setCell ?_ (by simp <;> omega) _ | refine Below.drewN' ?_ _))
  clear hb1
  go_wp2_with fail
  refine (H2.out _ (by (repeat (first | exact Below.refl _ _ | refine Below.drew ?_ | refine Below.allocS ?_ _ | refine Below.step ?_ (by assumption) | refine Below.setCell ?_ (by simp <;> omega) _ | refine Below.drewN' ?_ _)))).mono ?_
  rintro e w2 ⟨rfl, hb2⟩
  have g2 : Below w.heap.size w w2 := by (repeat (first | exact Below.refl _ _ | refine Below.drew ?_ | refine Below.allocS ?_ _ | refine Below.step ?_ (by assumption) | refine Below.setCell ?_ (by simp <;> omega) _ | refine Below.drewN' ?_ _))
  clear hb2 g1 
  go_wp2_with fail
  go_loopw [6, 19] (fun u i wr => ∃ (k : Nat) (v8 : Value), v8 = u ∧ k ≤ n ∧ i = .int .i64 k ∧ wr.ownsRow w2.heap.size 3 1 v8 (clrL l L k).length (((clrL l L k).map Int.ofNat).flatMap inE) ∧ Below w2.heap.size w2 wr) (fun _ i _ => n - (intOf i).toNat)
  case atStart => exact ⟨0, _, rfl, Nat.zero_le _, rfl, World.ownsRow_nil _ _ _ _, Below.refl _ _⟩
  case round =>
    rename World => U
    obtain ⟨k, v8, rfl, hk, rfl, hown, hbw⟩ := hrel
    obtain ⟨A8, c8, rfl, -, -⟩ := row_form hown
    have HO := Lib.hid hown
    clear hown
    have hsz := hbw.size
    have hbW : Below w.heap.size w U := Below.low g2 hbw g2.size
    by_cases hlt : k < n
    · have hil : k < l.length := by rw [← HN.out]; exact hlt
      obtain ⟨b, off, rfl, hb0, hc⟩ := HIN.out.hr (by omega)
      obtain ⟨c, hcd⟩ : ∃ c, c = l[k] := ⟨_, rfl⟩
      have hcell : ∀ jj v, (chE c)[jj]? = some v → U.cell? ⟨b, off + k * 5 + jj, none⟩ = some v := fun jj v hv => (hbW.cell (p := ⟨b, _, none⟩) hb0).trans (hc k hil jj v (by rw [hcd] at hv; exact hv))
      have q0 : U.cell? ⟨b, off + k * 5, none⟩ = some (.string c.nm) := by simpa using hcell 0 _ rfl
      have q1 : U.cell? ⟨b, off + k * 5 + 1, none⟩ = some (.int .i64 c.a) := hcell 1 _ rfl
      have q2 : U.cell? ⟨b, off + k * 5 + 2, none⟩ = some (.int .i64 c.b) := hcell 2 _ rfl
      have q3 : U.cell? ⟨b, off + k * 5 + 3, none⟩ = some (.int .i64 c.t) := hcell 3 _ rfl
      have q4 : U.cell? ⟨b, off + k * 5 + 4, none⟩ = some (.int .i64 c.v) := hcell 4 _ rfl
      have hgi : l.getD k ch0 = c := by rw [hcd, List.getD_eq_getElem?_getD, List.getElem?_eq_getElem hil]; rfl
      have HST := Lib.hid (show clrL l L (k + 1) = if covB c L = true then clrL l L k else clrL l L k ++ [k] by rw [clrL_succ]; unfold clB; rw [hgi]; cases covB c L <;> rfl)
      have HCC := Lib.hid (HCV.out c)
      have hlen := clrL_len l L k
      clear hcell hgi hcd hc hil
      have u3 : IntKind.i64.wrap ((k : Int) + 1) = (k : Int) + 1 := IntWalk.i64_in _ (by omega)
      generalize covB c L = cv at *
      go_wp2_with fail
      refine (HCC.out _ (by (repeat (first | (with_reducible exact Below.refl _ _) | (with_reducible assumption) | (with_reducible refine Below.drew ?_) | (with_reducible refine Below.allocS ?_ _) | (with_reducible refine Below.setCell ?_ ?_ _) | (with_reducible refine Below.step ?_ (by assumption)) | (with_reducible refine Below.drewN' ?_ _))); (try any_goals (first | (with_reducible assumption) | (simp; done) | (simp; omega) | omega)))).mono ?_
      rintro e V ⟨rfl, hbv⟩
      have hbUV : Below U.heap.size U V := Below.low (by (repeat (first | (with_reducible exact Below.refl _ _) | (with_reducible assumption) | (with_reducible refine Below.drew ?_) | (with_reducible refine Below.allocS ?_ _) | (with_reducible refine Below.setCell ?_ ?_ _) | (with_reducible refine Below.step ?_ (by assumption)) | (with_reducible refine Below.drewN' ?_ _))); (try any_goals (first | (with_reducible assumption) | (simp; done) | (simp; omega) | omega))) hbv (by simp)
      have hb2V : Below w2.heap.size w2 V := Below.low hbw hbUV hsz
      have HOV := Lib.hid (ownsRow_keep HO.out hbUV)
      clear hbv q0 q1 q2 q3 q4
      cases cv
      · have HP := Lib.hid (show clrL l L (k + 1) = clrL l L k ++ [k] from HST.out)
        have hsV := hb2V.size
        have HAPP := Lib.hid (app_run appI ((clrL l L k).map Int.ofNat) (k : Int) (clrL l L k).length (List.length_map ..) (by omega) (V.alloc (.cells #[.int .i64 k] 3)) w2.heap.size V.heap.size _ (HOV.out.alloc _) (by simp; omega) (one_cell (enc := inE) rfl (by simp [go_sem])))
        have HL2 := Lib.hid (show (clrL l L k).length + 1 = (clrL l L (k + 1)).length by rw [HP.out]; simp)
        have HM2 := Lib.hid (show (clrL l L k).map Int.ofNat ++ [(k : Int)] = (clrL l L (k + 1)).map Int.ofNat by rw [HP.out]; simp)
        rw [HM2.out, HL2.out] at HAPP
        generalize (clrL l L k).length = len at *
        obtain ⟨len2, hl2⟩ : ∃ x, x = (clrL l L (k + 1)).length := ⟨_, rfl⟩
        rw [← hl2] at HAPP
        have HLL := Lib.hid hl2
        clear hl2
        go_wp2_with (at_builtin; refine wpList_app rfl (.tmp 28) (.tmp 30) 26 rfl _ _ rfl rfl HAPP.out ?_; rintro v5 w5 ⟨hown5, hbel5⟩; obtain ⟨A5, c5, rfl, -, -⟩ := row_form hown5; have HO5 := Lib.hid hown5; clear hown5; have hB5 : Below w2.heap.size w2 w5 := Below.low (Below.allocS hb2V _) hbel5 (Nat.le_refl _); clear hbel5)
        go_roundw
        case rel => exact ⟨k + 1, _, rfl, by omega, by go_num, by rw [← HLL.out]; exact HO5.out, hB5⟩
        case measure => simp [intOf]; omega
      · have HP := Lib.hid (show clrL l L (k + 1) = clrL l L k from HST.out)
        go_wp2
        go_roundw
        case rel => exact ⟨k + 1, _, rfl, by omega, by go_num, by rw [HP.out]; exact HOV.out, hb2V⟩
        case measure => simp [intOf]; omega
    · obtain rfl : k = n := by omega
      have HLEN : Hid (R.length = (clrL l L k).length) := Lib.hid (by rw [HR2.out])
      have HRD : Hid (RdL U U.heap.size inE 1 A8 (R.map Int.ofNat)) := Lib.hid (by rw [HR2.out]; exact RdL.of_own (fun _ => rfl) HO.out (List.length_map ..))
      generalize (clrL l L k).length = len at *
      go_wp2
      go_ret2
      exact ⟨⟨A8, c8, by rw [HE2.out, HLEN.out]; rfl, HRD.out⟩, hbW⟩
set_option maxHeartbeats 2000000 in
set_option maxRecDepth 100000 in
theorem rClear_c (l : List Ch) (A : Option Addr) (cap : Nat) (L : List Cl) (B : Option Addr) (cb : Nat) (w : World) (h : InAt w l A cap L B cb) :
    Calls Try.prog 18 #[.slice A l.length cap, .slice B L.length cb] w fun e w' => (∃ A' c', e = .returned (.tuple #[.slice A' (clrR l L).length c', .int .i64 (clrE l L)]) ∧ RdL w' w'.heap.size inE 1 A' ((clrR l L).map Int.ofNat)) ∧ Below w.heap.size w w' := by
  have H1 := Lib.hid (fun W hb => rValid_c l A cap h.hl h.hcap h.hs W (h.hr.step hb))
  have H2 := Lib.hid (fun W (hb : Below w.heap.size w W) => rValidClouds_c L B cb h.hL W (h.hR.step hb))
  have HIN := Lib.hid h
  have HCV := Lib.hid (fun c W (hb : Below w.heap.size w W) => isClear_c c L B cb (by have := h.hL; omega) W (h.hR.step hb))
  have HL : Hid (l.length ≤ 1000000) := Lib.hid h.hl
  have HE : Hid (clrE l L = if (okV l && okCl L) = true then 0 else 1) := Lib.hid (by unfold clrE; rfl)
  have HR : Hid (clrR l L = if (okV l && okCl L) = true then clrL l L l.length else []) := Lib.hid (by unfold clrR; rfl)
  clear h
  rw [← ok_eq] at H1
  have HN20 : Hid (okV l = true → l.length ≤ 20) := Lib.hid fun h => by unfold okV at h; simp at h; exact h.2
  generalize okV l = v1 at *
  generalize okCl L = v2 at *
  generalize clrE l L = E at *
  generalize clrR l L = R at *
  obtain ⟨n, hn⟩ : ∃ n, n = l.length := ⟨_, rfl⟩
  have HN := Lib.hid hn
  rw [← hn] at H1 HN20 HR HL ⊢
  obtain ⟨m, hm⟩ : ∃ m, m = L.length := ⟨_, rfl⟩
  rw [← hm] at H2 HCV ⊢
  clear hn hm
  cases v1
  · have HE2 := Lib.hid (show E = 1 from HE.out)
    have HR2 := Lib.hid (show R = [] from HR.out)
    clear HE HR
    go_enter Try.func18, Try.ntmps18
    go_wp2_with fail
    refine (H1.out _ (by (repeat (first | exact Below.refl _ _ | refine Below.drew ?_ | refine Below.allocS ?_ _ | refine Below.step ?_ (by assumption) | refine Below.setCell ?_ (by simp <;> omega) _ | refine Below.drewN' ?_ _)))).mono ?_
    rintro e w1 ⟨rfl, hb1⟩
    have g1 : Below w.heap.size w w1 := by (repeat (first | exact Below.refl _ _ | refine Below.drew ?_ | refine Below.allocS ?_ _ | refine Below.step ?_ (by assumption) | refine Below.setCell ?_ (by simp <;> omega) _ | refine Below.drewN' ?_ _))
    clear hb1
    go_wp2
    go_ret2
    rw [HE2.out, HR2.out]
    exact ⟨⟨none, 0, rfl, fun h => absurd h (by simp)⟩, by (repeat (first | exact Below.refl _ _ | refine Below.drew ?_ | refine Below.allocS ?_ _ | refine Below.step ?_ (by assumption) | refine Below.setCell ?_ (by simp <;> omega) _ | refine Below.drewN' ?_ _))⟩
  cases v2
  · have HE2 := Lib.hid (show E = 1 from HE.out)
    have HR2 := Lib.hid (show R = [] from HR.out)
    clear HE HR
    go_enter Try.func18, Try.ntmps18
    go_wp2_with fail
    refine (H1.out _ (by (repeat (first | exact Below.refl _ _ | refine Below.drew ?_ | refine Below.allocS ?_ _ | refine Below.step ?_ (by assumption) | refine Below.setCell ?_ (by simp <;> omega) _ | refine Below.drewN' ?_ _)))).mono ?_
    rintro e w1 ⟨rfl, hb1⟩
    have g1 : Below w.heap.size w w1 := by (repeat (first | exact Below.refl _ _ | refine Below.drew ?_ | refine Below.allocS ?_ _ | refine Below.step ?_ (by assumption) | refine Below.setCell ?_ (by simp <;> omega) _ | refine Below.drewN' ?_ _))
    clear hb1
    go_wp2_with fail
    refine (H2.out _ (by (repeat (first | exact Below.refl _ _ | refine Below.drew ?_ | refine Below.allocS ?_ _ | refine Below.step ?_ (by assumption) | refine Below.setCell ?_ (by simp <;> omega) _ | refine Below.drewN' ?_ _)))).mono ?_
    rintro e w2 ⟨rfl, hb2⟩
    have g2 : Below w.heap.size w w2 := by (repeat (first | exact Below.refl _ _ | refine Below.drew ?_ | refine Below.allocS ?_ _ | refine Below.step ?_ (by assumption) | refine Below.setCell ?_ (by simp <;> omega) _ | refine Below.drewN' ?_ _))
    clear hb2 g1 
    go_wp2
    go_ret2
    rw [HE2.out, HR2.out]
    exact ⟨⟨none, 0, rfl, fun h => absurd h (by simp)⟩, by (repeat (first | exact Below.refl _ _ | refine Below.drew ?_ | refine Below.allocS ?_ _ | refine Below.step ?_ (by assumption) | refine Below.setCell ?_ (by simp <;> omega) _ | refine Below.drewN' ?_ _))⟩
  have HE2 := Lib.hid (show E = 0 from HE.out)
  have HR2 := Lib.hid (show R = clrL l L n from HR.out)
  have hn20 : n ≤ 20 := HN20.out (by first | trivial | rfl)
  clear HE HR HN20
  go_enter Try.func18, Try.ntmps18
  go_wp2_with fail
  refine (H1.out _ (by (repeat (first | exact Below.refl _ _ | refine Below.drew ?_ | refine Below.allocS ?_ _ | refine Below.step ?_ (by assumption) | refine Below.setCell ?_ (by simp <;> omega) _ | refine Below.drewN' ?_ _)))).mono ?_
  rintro e w1 ⟨rfl, hb1⟩
  have g1 : Below w.heap.size w w1 := by (repeat (first | exact Below.refl _ _ | refine Below.drew ?_ | refine Below.allocS ?_ _ | refine Below.step ?_ (by assumption) | refine Below.setCell ?_ (by simp <;> omega) _ | refine Below.drewN' ?_ _))
  clear hb1
  go_wp2_with fail
  refine (H2.out _ (by (repeat (first | exact Below.refl _ _ | refine Below.drew ?_ | refine Below.allocS ?_ _ | refine Below.step ?_ (by assumption) | refine Below.setCell ?_ (by simp <;> omega) _ | refine Below.drewN' ?_ _)))).mono ?_
  rintro e w2 ⟨rfl, hb2⟩
  have g2 : Below w.heap.size w w2 := by (repeat (first | exact Below.refl _ _ | refine Below.drew ?_ | refine Below.allocS ?_ _ | refine Below.step ?_ (by assumption) | refine Below.setCell ?_ (by simp <;> omega) _ | refine Below.drewN' ?_ _))
  clear hb2 g1 
  go_wp2_with fail
  go_loopw [6, 19] (fun u i wr => ∃ (k : Nat) (v8 : Value), v8 = u ∧ k ≤ n ∧ i = .int .i64 k ∧ wr.ownsRow w2.heap.size 3 1 v8 (clrL l L k).length (((clrL l L k).map Int.ofNat).flatMap inE) ∧ Below w2.heap.size w2 wr) (fun _ i _ => n - (intOf i).toNat)
  case atStart => exact ⟨0, _, rfl, Nat.zero_le _, rfl, World.ownsRow_nil _ _ _ _, Below.refl _ _⟩
  case round =>
    rename World => U
    obtain ⟨k, v8, rfl, hk, rfl, hown, hbw⟩ := hrel
    obtain ⟨A8, c8, rfl, -, -⟩ := row_form hown
    have HO := Lib.hid hown
    clear hown
    have hsz := hbw.size
    have hbW : Below w.heap.size w U := Below.low g2 hbw g2.size
    by_cases hlt : k < n
    · have hil : k < l.length := by rw [← HN.out]; exact hlt
      obtain ⟨b, off, rfl, hb0, hc⟩ := HIN.out.hr (by omega)
      obtain ⟨c, hcd⟩ : ∃ c, c = l[k] := ⟨_, rfl⟩
      have hcell : ∀ jj v, (chE c)[jj]? = some v → U.cell? ⟨b, off + k * 5 + jj, none⟩ = some v := fun jj v hv => (hbW.cell (p := ⟨b, _, none⟩) hb0).trans (hc k hil jj v (by rw [hcd] at hv; exact hv))
      have q0 : U.cell? ⟨b, off + k * 5, none⟩ = some (.string c.nm) := by simpa using hcell 0 _ rfl
      have q1 : U.cell? ⟨b, off + k * 5 + 1, none⟩ = some (.int .i64 c.a) := hcell 1 _ rfl
      have q2 : U.cell? ⟨b, off + k * 5 + 2, none⟩ = some (.int .i64 c.b) := hcell 2 _ rfl
      have q3 : U.cell? ⟨b, off + k * 5 + 3, none⟩ = some (.int .i64 c.t) := hcell 3 _ rfl
      have q4 : U.cell? ⟨b, off + k * 5 + 4, none⟩ = some (.int .i64 c.v) := hcell 4 _ rfl
      have hgi : l.getD k ch0 = c := by rw [hcd, List.getD_eq_getElem?_getD, List.getElem?_eq_getElem hil]; rfl
      have HST := Lib.hid (show clrL l L (k + 1) = if covB c L = true then clrL l L k else clrL l L k ++ [k] by rw [clrL_succ]; unfold clB; rw [hgi]; cases covB c L <;> rfl)
      have HCC := Lib.hid (HCV.out c)
      have hlen := clrL_len l L k
      clear hcell hgi hcd hc hil
      have u3 : IntKind.i64.wrap ((k : Int) + 1) = (k : Int) + 1 := IntWalk.i64_in _ (by omega)
      generalize covB c L = cv at *
      go_wp2_with fail
      refine (HCC.out _ (by (repeat (first | (with_reducible exact Below.refl _ _) | (with_reducible assumption) | (with_reducible refine Below.drew ?_) | (with_reducible refine Below.allocS ?_ _) | (with_reducible refine Below.setCell ?_ ?_ _) | (with_reducible refine Below.step ?_ (by assumption)) | (with_reducible refine Below.drewN' ?_ _))); (try any_goals (first | (with_reducible assumption) | (simp; done) | (simp; omega) | omega)))).mono ?_
      rintro e V ⟨rfl, hbv⟩
      have hbUV : Below U.heap.size U V := Below.low (by (repeat (first | (with_reducible exact Below.refl _ _) | (with_reducible assumption) | (with_reducible refine Below.drew ?_) | (with_reducible refine Below.allocS ?_ _) | (with_reducible refine Below.setCell ?_ ?_ _) | (with_reducible refine Below.step ?_ (by assumption)) | (with_reducible refine Below.drewN' ?_ _))); (try any_goals (first | (with_reducible assumption) | (simp; done) | (simp; omega) | omega))) hbv (by simp)
      have hb2V : Below w2.heap.size w2 V := Below.low hbw hbUV hsz
      have HOV := Lib.hid (ownsRow_keep HO.out hbUV)
      clear hbv q0 q1 q2 q3 q4
      cases cv
      · have HP := Lib.hid (show clrL l L (k + 1) = clrL l L k ++ [k] from HST.out)
        have hsV := hb2V.size
        have HAPP := Lib.hid (app_run appI ((clrL l L k).map Int.ofNat) (k : Int) (clrL l L k).length (List.length_map ..) (by omega) (V.alloc (.cells #[.int .i64 k] 3)) w2.heap.size V.heap.size _ (HOV.out.alloc _) (by simp; omega) (one_cell (enc := inE) rfl (by simp [go_sem])))
        have HL2 := Lib.hid (show (clrL l L k).length + 1 = (clrL l L (k + 1)).length by rw [HP.out]; simp)
        have HM2 := Lib.hid (show (clrL l L k).map Int.ofNat ++ [(k : Int)] = (clrL l L (k + 1)).map Int.ofNat by rw [HP.out]; simp)
        rw [HM2.out, HL2.out] at HAPP
        generalize (clrL l L k).length = len at *
        obtain ⟨len2, hl2⟩ : ∃ x, x = (clrL l L (k + 1)).length := ⟨_, rfl⟩
        rw [← hl2] at HAPP
        have HLL := Lib.hid hl2
        clear hl2
        go_wp2_with (at_builtin; refine wpList_app rfl (.tmp 27) (.tmp 29) 26 rfl _ _ rfl rfl HAPP.out ?_; rintro v5 w5 ⟨hown5, hbel5⟩; obtain ⟨A5, c5, rfl, -, -⟩ := row_form hown5; have HO5 := Lib.hid hown5; clear hown5; have hB5 : Below w2.heap.size w2 w5 := Below.low (Below.allocS hb2V _) hbel5 (Nat.le_refl _); clear hbel5)
        go_roundw
        case rel => exact ⟨k + 1, _, rfl, by omega, by go_num, by rw [← HLL.out]; exact HO5.out, hB5⟩
        case measure => simp [intOf]; omega
      · have HP := Lib.hid (show clrL l L (k + 1) = clrL l L k from HST.out)
        go_wp2
        go_roundw
        case rel => exact ⟨k + 1, _, rfl, by omega, by go_num, by rw [HP.out]; exact HOV.out, hb2V⟩
        case measure => simp [intOf]; omega
    · obtain rfl : k = n := by omega
      have HLEN : Hid (R.length = (clrL l L k).length) := Lib.hid (by rw [HR2.out])
      have HRD : Hid (RdL U U.heap.size inE 1 A8 (R.map Int.ofNat)) := Lib.hid (by rw [HR2.out]; exact RdL.of_own (fun _ => rfl) HO.out (List.length_map ..))
      generalize (clrL l L k).length = len at *
      go_wp2
      go_ret2
      exact ⟨⟨A8, c8, by rw [HE2.out, HLEN.out]; rfl, HRD.out⟩, hbW⟩
end Go.Proofs.Ytomgaiokmdcjmaa
