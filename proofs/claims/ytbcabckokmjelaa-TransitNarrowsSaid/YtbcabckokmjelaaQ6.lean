/-
  What transits say of clock and azimuth: strips.
-/
import Derived.Test.YtbcabckokmjelaaQ5
namespace Go.Proofs.Ytbcabckokmjelaa
open Go.RowKit
set_option linter.unusedVariables false
set_option linter.unusedSimpArgs false
set_option maxHeartbeats 1000000 in
theorem IndexFuncTr (l : List Tr) (A : Option Addr) (cap : Nat) (hl : l.length ≤ 9223372036854775807) (fv : Nat) (caps : Array Value) (p : Tr → Bool) (w : World) (hr : RdL w w.heap.size trE 5 A l)
    (hcall : ∀ (args : Array Value) (W : World), (callFunc fv args).run Try.prog W = .ok (.enter fv args) W)
    (hf : ∀ x ∈ l, ∀ W, Below w.heap.size w W → Calls Try.prog fv (#[.agg #[.string x.nm, .int .i64 x.a, .int .i64 x.b, .int .i64 x.c, .slice x.T x.ts.length x.ct]] ++ caps) W fun e W' => e = .returned (.bool (p x)) ∧ Below W.heap.size W W') :
    Calls Try.prog 112 #[.slice A l.length cap, .func (.func fv) #[] caps] w fun e w' => e = .returned (.int .i64 (idxOf p l 0)) ∧ Below w.heap.size w w' := by
  have HF := Lib.hid hf
  have HR := Lib.hid hr
  clear hf hr
  go_enter Try.func112, Try.ntmps112
  go_wp2
  go_loopw [5, 8] (fun u i wr => ∃ k : Nat, k ≤ l.length ∧ i = .int .i64 k ∧ Below w.heap.size w wr ∧ idxOf p l 0 = idxOf p (l.drop k) k) (fun u i _ => l.length - (intOf i).toNat)
  case atStart => exact ⟨0, Nat.zero_le _, rfl, Below.refl _ _, rfl⟩
  case round =>
    obtain ⟨k, hk, rfl, hbw, hx⟩ := hrel
    have HX := Lib.hid hx
    clear hx
    by_cases hlt : k < l.length
    · obtain ⟨b, off, rfl, hb0, hc⟩ := HR.out (by omega)
      have c0 := hc k hlt 0 _ rfl
      have c1 := hc k hlt 1 _ rfl
      have c2 := hc k hlt 2 _ rfl
      have c3 := hc k hlt 3 _ rfl
      have c4 := hc k hlt 4 _ rfl
      clear hc
      rw [← hbw.cell (p := ⟨b, _, none⟩) hb0] at c0 c1 c2 c3 c4
      simp at c0
      have hmem : l[k] ∈ l := List.getElem_mem hlt
      have hcc := Lib.hid (HF.out l[k] hmem wr hbw)
      have hd : l.drop k = l[k] :: l.drop (k + 1) := List.drop_eq_getElem_cons hlt
      have HD := Lib.hid hd
      clear hd
      cases hp : p l[k]
      · go_wp2_with fail
        refine hcc.out.mono ?_
        rintro e w1 ⟨rfl, hb⟩
        rw [hp]
        go_wp2
        go_roundw
        case rel => exact ⟨k + 1, by omega, by go_num, Below.step hbw hb, by rw [HX.out, HD.out, idxOf_false _ _ _ _ hp]⟩
        case measure => simp [intOf]; omega
      · go_wp2_with fail
        refine hcc.out.mono ?_
        rintro e w1 ⟨rfl, hb⟩
        rw [hp]
        go_wp2
        go_ret
        exact ⟨by rw [HX.out, HD.out, idxOf_true _ _ _ _ hp]; rfl, Below.step hbw hb⟩
    · obtain rfl : k = l.length := by omega
      go_wp2
      go_ret
      exact ⟨by rw [HX.out]; simp [idxOf], hbw⟩
theorem ContainsFuncTr (l : List Tr) (A : Option Addr) (cap : Nat) (hl : l.length ≤ 9223372036854775807) (fv : Nat) (caps : Array Value) (p : Tr → Bool) (w : World) (hr : RdL w w.heap.size trE 5 A l)
    (hcall : ∀ (args : Array Value) (W : World), (callFunc fv args).run Try.prog W = .ok (.enter fv args) W)
    (hf : ∀ x ∈ l, ∀ W, Below w.heap.size w W → Calls Try.prog fv (#[.agg #[.string x.nm, .int .i64 x.a, .int .i64 x.b, .int .i64 x.c, .slice x.T x.ts.length x.ct]] ++ caps) W fun e W' => e = .returned (.bool (p x)) ∧ Below W.heap.size W W') :
    Calls Try.prog 93 #[.slice A l.length cap, .func (.func fv) #[] caps] w fun e w' => e = .returned (.bool (l.any p)) ∧ Below w.heap.size w w' := by
  have HI := Lib.hid (IndexFuncTr l A cap hl fv caps p w hr hcall hf)
  have HE := Lib.hid (idxOf_any p l 0)
  clear hf hr hcall
  go_enter Try.func93, Try.ntmps93
  go_wp2_with (go_at_call 112; refine HI.out.mono ?_; rintro e w1 ⟨rfl, hb⟩)
  go_ret
  exact ⟨by rw [← HE.out]; rfl, hb⟩


theorem strips1_c (x : Tb) (t : Tr) (P : Nat) (W : World) (hx : TbAt W x) (ht : TrAt W t) (c0 : W.cell? ⟨P, 0, none⟩ = some (.slice x.A x.xs.length x.ca)) (c1 : W.cell? ⟨P, 1, none⟩ = some (.int .i64 x.e)) :
    Calls Try.prog 94 #[.agg #[.string t.nm, .int .i64 t.a, .int .i64 t.b, .int .i64 t.c, .slice t.T t.ts.length t.ct], .pointer (some ⟨P, 0, none⟩)] W fun e w' => e = .returned (.bool (!fitsB (obs x t))) ∧ Below W.heap.size W w' := by
  have H := Lib.hid (fun V hb => Fits_c (obs x t) x.A t.T x.ca t.ct V ((obs_at hx ht).step hb))
  generalize fitsB (obs x t) = B at *
  simp only [obs] at H
  have y0 : P < W.heap.size := cell?_lt c0
  clear hx ht
  go_enter Try.func94, Try.ntmps94
  go_wp2_with fail
  refine (H.out _ (by (repeat (first | exact Below.refl _ _ | refine Below.drew ?_ | refine Below.allocS ?_ _ | refine Below.step ?_ (by assumption) | refine Below.setCell ?_ (by simp <;> omega) _ | refine Below.drewN' ?_ _)))).mono ?_
  rintro e w1 ⟨rfl, hb1⟩
  go_wp2
  go_ret
  exact ⟨rfl, by (repeat (first | exact Below.refl _ _ | refine Below.drew ?_ | refine Below.allocS ?_ _ | refine Below.step ?_ (by assumption) | refine Below.setCell ?_ (by simp <;> omega) _ | refine Below.drewN' ?_ _))⟩
theorem call_strips1 (args : Array Value) (W : World) : (callFunc 94 args).run Try.prog W = .ok (.enter 94 args) W := by kernel_rfl
def okAll (x : Tb) (l : List Tr) : Bool := okTube x.xs x.e && (within l.length 1 12 && l.all fun t => fitsB (obs x t))
def noCr (x : Tb) (t : Tr) : Bool := decide (crE (obs x t) ≠ 0)
def stErr (x : Tb) (l : List Tr) : Int := if okAll x l = true then (if l.any (noCr x) = true then 8 else 0) else 1
def stOf (x : Tb) (t : Tr) : Sp := ⟨t.b, dfV (obs x t), dfV (obs x t)⟩
def stL (x : Tb) (l : List Tr) : List Sp := l.map (stOf x)
def StR (x : Tb) (l : List Tr) (e : Ending) (w' : World) : Prop :=
  (stErr x l = 0 ∧ ∃ A c, e = .returned (.tuple #[.slice A l.length c, .int .i64 0]) ∧ RdL w' w'.heap.size stE 3 A (stL x l)) ∨
  (stErr x l ≠ 0 ∧ e = .returned (.tuple #[.slice none 0 0, .int .i64 (stErr x l)]))
theorem noCr_8 {x : Tb} {t : Tr} (hf : fitsB (obs x t) = true) (h : noCr x t = true) : crE (obs x t) = 8 := by
  unfold noCr at h
  have h := of_decide_eq_true h
  unfold crE at *
  rw [if_pos hf] at *
  split at h
  · rename_i hN; rw [if_pos hN]
  · exact absurd rfl h
set_option maxHeartbeats 4000000 in
set_option maxRecDepth 100000 in
theorem strips_c (x : Tb) (l : List Tr) (A : Option Addr) (cap : Nat) (w : World) (hx : TbAt w x) (hl : l.length ≤ cap) (hm : cap ≤ maxLen) (hr : RdL w w.heap.size trE 5 A l) (ht : ∀ t ∈ l, TrAt w t) :
    Calls Try.prog 64 #[.agg #[.slice x.A x.xs.length x.ca, .int .i64 x.e], .slice A l.length cap] w fun e w' => StR x l e w' ∧ Below w.heap.size w w' := by
  have hml : l.length ≤ 9223372036854775807 := by unfold maxLen at hm; omega
  have hxl : x.xs.length ≤ 9223372036854775807 := by have := hx.n; have := hx.m; unfold maxLen at this; omega
  have HX := Lib.hid hx
  have HT := Lib.hid ht
  have HR := Lib.hid hr
  have H1 := Lib.hid (fun W hb => ValidTube_c x.xs x.A x.ca x.e hxl W (hx.r.step hb))
  have H2 := Lib.hid (fun W => within_c l.length 1 12 W)
  have H3 : Hid (∀ W, Below w.heap.size w W → W.cell? ⟨w.heap.size, 0, none⟩ = some (.slice x.A x.xs.length x.ca) → W.cell? ⟨w.heap.size, 1, none⟩ = some (.int .i64 x.e) →
      Calls Try.prog 93 #[.slice A l.length cap, .func (.func 94) #[] #[.pointer (some ⟨w.heap.size, 0, none⟩)]] W fun e w' => e = .returned (.bool (l.any fun t => !fitsB (obs x t))) ∧ Below W.heap.size W w') :=
    Lib.hid (fun W hb h0 h1 => ContainsFuncTr l A cap hml _ _ (fun t => !fitsB (obs x t)) W (HR.out.step hb) call_strips1 (fun t htm V hv => by
      simpa using strips1_c x t w.heap.size V ((HX.out.step hb).step hv) (((HT.out t htm).step hb).step hv) (keep_cell hv h0) (keep_cell hv h1)))
  clear hx ht hr hm hl hxl
  cases h1 : okTube x.xs x.e
  · rw [h1] at H1
    have HE := Lib.hid (show stErr x l = 1 by unfold stErr okAll; rw [h1]; rfl)
    clear h1
    go_enter Try.func64, Try.ntmps64
    go_wp2_with fail
    refine (H1.out _ (by (repeat (first | exact Below.refl _ _ | refine Below.drew ?_ | refine Below.allocS ?_ _ | refine Below.step ?_ (by assumption) | refine Below.setCell ?_ (by simp <;> omega) _ | refine Below.drewN' ?_ _)))).mono ?_
    rintro e w1 ⟨rfl, hb1⟩
    have x1_0_0 : w1.cell? ⟨w.heap.size, 0, none⟩ = some (.slice x.A x.xs.length x.ca) := keep_cell hb1 (by simp [go_sem, *])
    have x1_0_1 : w1.cell? ⟨w.heap.size, 1, none⟩ = some (.int .i64 x.e) := keep_cell hb1 (by simp [go_sem, *])
    have y1_0 : w.heap.size < w1.heap.size := cell?_lt x1_0_0
    have g1 : Below w.heap.size w w1 := by (repeat (first | exact Below.refl _ _ | refine Below.drew ?_ | refine Below.allocS ?_ _ | refine Below.step ?_ (by assumption) | refine Below.setCell ?_ (by simp <;> omega) _ | refine Below.drewN' ?_ _))
    clear hb1
    go_wp2
    go_ret2
    exact ⟨Or.inr ⟨by rw [HE.out]; decide, by rw [HE.out]; rfl⟩, by (repeat (first | (with_reducible exact Below.refl _ _) | (with_reducible assumption) | (with_reducible refine Below.drew ?_) | (with_reducible refine Below.allocS ?_ _) | (with_reducible refine Below.setCell ?_ ?_ _) | (with_reducible refine Below.step ?_ (by assumption)) | (with_reducible refine Below.drewN' ?_ _))); (try any_goals (first | (with_reducible assumption) | (simp; done) | (simp; omega) | omega))⟩
  cases h2 : within l.length 1 12
  · rw [h1] at H1
    rw [h2] at H2
    have HE := Lib.hid (show stErr x l = 1 by unfold stErr okAll; rw [h1, h2]; rfl)
    clear h1 h2
    go_enter Try.func64, Try.ntmps64
    go_wp2_with fail
    refine (H1.out _ (by (repeat (first | exact Below.refl _ _ | refine Below.drew ?_ | refine Below.allocS ?_ _ | refine Below.step ?_ (by assumption) | refine Below.setCell ?_ (by simp <;> omega) _ | refine Below.drewN' ?_ _)))).mono ?_
    rintro e w1 ⟨rfl, hb1⟩
    have x1_0_0 : w1.cell? ⟨w.heap.size, 0, none⟩ = some (.slice x.A x.xs.length x.ca) := keep_cell hb1 (by simp [go_sem, *])
    have x1_0_1 : w1.cell? ⟨w.heap.size, 1, none⟩ = some (.int .i64 x.e) := keep_cell hb1 (by simp [go_sem, *])
    have y1_0 : w.heap.size < w1.heap.size := cell?_lt x1_0_0
    have g1 : Below w.heap.size w w1 := by (repeat (first | exact Below.refl _ _ | refine Below.drew ?_ | refine Below.allocS ?_ _ | refine Below.step ?_ (by assumption) | refine Below.setCell ?_ (by simp <;> omega) _ | refine Below.drewN' ?_ _))
    clear hb1
    go_wp2_with fail
    refine (H2.out _).mono ?_
    rintro e w' ⟨rfl, hw'⟩; replace hw' := hw'.symm; subst hw'
    go_wp2
    go_ret2
    exact ⟨Or.inr ⟨by rw [HE.out]; decide, by rw [HE.out]; rfl⟩, by (repeat (first | (with_reducible exact Below.refl _ _) | (with_reducible assumption) | (with_reducible refine Below.drew ?_) | (with_reducible refine Below.allocS ?_ _) | (with_reducible refine Below.setCell ?_ ?_ _) | (with_reducible refine Below.step ?_ (by assumption)) | (with_reducible refine Below.drewN' ?_ _))); (try any_goals (first | (with_reducible assumption) | (simp; done) | (simp; omega) | omega))⟩
  have h12 : l.length ≤ 12 := by have := within_true h2; omega
  have h01 : 1 ≤ l.length := by have := within_true h2; omega
  cases h3 : l.any fun t => !fitsB (obs x t)
  case true =>
    rw [h1] at H1
    rw [h2] at H2
    rw [h3] at H3
    have HE := Lib.hid (show stErr x l = 1 by unfold stErr okAll; rw [h1, h2, ← any_not, h3]; rfl)
    clear h1 h2 h3
    go_enter Try.func64, Try.ntmps64
    go_wp2_with fail
    refine (H1.out _ (by (repeat (first | exact Below.refl _ _ | refine Below.drew ?_ | refine Below.allocS ?_ _ | refine Below.step ?_ (by assumption) | refine Below.setCell ?_ (by simp <;> omega) _ | refine Below.drewN' ?_ _)))).mono ?_
    rintro e w1 ⟨rfl, hb1⟩
    have x1_0_0 : w1.cell? ⟨w.heap.size, 0, none⟩ = some (.slice x.A x.xs.length x.ca) := keep_cell hb1 (by simp [go_sem, *])
    have x1_0_1 : w1.cell? ⟨w.heap.size, 1, none⟩ = some (.int .i64 x.e) := keep_cell hb1 (by simp [go_sem, *])
    have y1_0 : w.heap.size < w1.heap.size := cell?_lt x1_0_0
    have g1 : Below w.heap.size w w1 := by (repeat (first | exact Below.refl _ _ | refine Below.drew ?_ | refine Below.allocS ?_ _ | refine Below.step ?_ (by assumption) | refine Below.setCell ?_ (by simp <;> omega) _ | refine Below.drewN' ?_ _))
    clear hb1
    go_wp2_with fail
    refine (H2.out _).mono ?_
    rintro e w' ⟨rfl, hw'⟩; replace hw' := hw'.symm; subst hw'
    go_wp2_with fail
    refine (H3.out _ (by (repeat (first | exact Below.refl _ _ | refine Below.drew ?_ | refine Below.allocS ?_ _ | refine Below.step ?_ (by assumption) | refine Below.setCell ?_ (by simp <;> omega) _ | refine Below.drewN' ?_ _))) (by simp [go_sem, *]) (by simp [go_sem, *])).mono ?_
    rintro e w3 ⟨rfl, hb3⟩
    have x3_0_0 : w3.cell? ⟨w.heap.size, 0, none⟩ = some (.slice x.A x.xs.length x.ca) := keep_cell hb3 (by simp [go_sem, *])
    have x3_0_1 : w3.cell? ⟨w.heap.size, 1, none⟩ = some (.int .i64 x.e) := keep_cell hb3 (by simp [go_sem, *])
    have y3_0 : w.heap.size < w3.heap.size := cell?_lt x3_0_0
    have g3 : Below w.heap.size w w3 := by (repeat (first | exact Below.refl _ _ | refine Below.drew ?_ | refine Below.allocS ?_ _ | refine Below.step ?_ (by assumption) | refine Below.setCell ?_ (by simp <;> omega) _ | refine Below.drewN' ?_ _))
    clear hb3 g1 x1_0_0 x1_0_1 y1_0
    go_wp2
    go_ret2
    exact ⟨Or.inr ⟨by rw [HE.out]; decide, by rw [HE.out]; rfl⟩, by (repeat (first | (with_reducible exact Below.refl _ _) | (with_reducible assumption) | (with_reducible refine Below.drew ?_) | (with_reducible refine Below.allocS ?_ _) | (with_reducible refine Below.setCell ?_ ?_ _) | (with_reducible refine Below.step ?_ (by assumption)) | (with_reducible refine Below.drewN' ?_ _))); (try any_goals (first | (with_reducible assumption) | (simp; done) | (simp; omega) | omega))⟩
  have hall : (l.all fun t => fitsB (obs x t)) = true := by rw [← any_not, h3]; rfl
  have HF := Lib.hid (fun t (h : t ∈ l) => List.all_eq_true.1 hall t h)
  have HO := Lib.hid (show okAll x l = true by unfold okAll; rw [h1, h2, hall]; rfl)
  rw [h1] at H1
  rw [h2] at H2
  rw [h3] at H3
  clear h1 h2 h3 hall
  go_enter Try.func64, Try.ntmps64
  go_wp2_with fail
  refine (H1.out _ (by (repeat (first | exact Below.refl _ _ | refine Below.drew ?_ | refine Below.allocS ?_ _ | refine Below.step ?_ (by assumption) | refine Below.setCell ?_ (by simp <;> omega) _ | refine Below.drewN' ?_ _)))).mono ?_
  rintro e w1 ⟨rfl, hb1⟩
  have x1_0_0 : w1.cell? ⟨w.heap.size, 0, none⟩ = some (.slice x.A x.xs.length x.ca) := keep_cell hb1 (by simp [go_sem, *])
  have x1_0_1 : w1.cell? ⟨w.heap.size, 1, none⟩ = some (.int .i64 x.e) := keep_cell hb1 (by simp [go_sem, *])
  have y1_0 : w.heap.size < w1.heap.size := cell?_lt x1_0_0
  have g1 : Below w.heap.size w w1 := by (repeat (first | exact Below.refl _ _ | refine Below.drew ?_ | refine Below.allocS ?_ _ | refine Below.step ?_ (by assumption) | refine Below.setCell ?_ (by simp <;> omega) _ | refine Below.drewN' ?_ _))
  clear hb1
  go_wp2_with fail
  refine (H2.out _).mono ?_
  rintro e w' ⟨rfl, hw'⟩; replace hw' := hw'.symm; subst hw'
  go_wp2_with fail
  refine (H3.out _ (by (repeat (first | exact Below.refl _ _ | refine Below.drew ?_ | refine Below.allocS ?_ _ | refine Below.step ?_ (by assumption) | refine Below.setCell ?_ (by simp <;> omega) _ | refine Below.drewN' ?_ _))) (by simp [go_sem, *]) (by simp [go_sem, *])).mono ?_
  rintro e w3 ⟨rfl, hb3⟩
  have x3_0_0 : w3.cell? ⟨w.heap.size, 0, none⟩ = some (.slice x.A x.xs.length x.ca) := keep_cell hb3 (by simp [go_sem, *])
  have x3_0_1 : w3.cell? ⟨w.heap.size, 1, none⟩ = some (.int .i64 x.e) := keep_cell hb3 (by simp [go_sem, *])
  have y3_0 : w.heap.size < w3.heap.size := cell?_lt x3_0_0
  have g3 : Below w.heap.size w w3 := by (repeat (first | exact Below.refl _ _ | refine Below.drew ?_ | refine Below.allocS ?_ _ | refine Below.step ?_ (by assumption) | refine Below.setCell ?_ (by simp <;> omega) _ | refine Below.drewN' ?_ _))
  clear hb3 g1 x1_0_0 x1_0_1 y1_0
  clear H1 H2 H3
  go_wp2
  go_loopw [6, 27] (fun u i wr => ∃ (k : Nat) (v8 : Value), v8 = u ∧ k ≤ l.length ∧ i = .int .i64 k ∧ wr.cell? ⟨w.heap.size, 0, none⟩ = some (.slice x.A x.xs.length x.ca) ∧ wr.cell? ⟨w.heap.size, 1, none⟩ = some (.int .i64 x.e) ∧
    wr.ownsRow w3.heap.size 99 3 v8 k (((stL x l).take k).flatMap stE) ∧ w3.heap.size ≤ wr.heap.size ∧ Below w.heap.size w wr ∧ (l.take k).any (noCr x) = false) (fun _ i _ => l.length - (intOf i).toNat)
  case atStart => exact ⟨0, _, rfl, Nat.zero_le _, rfl, by simp [go_sem, *], by simp [go_sem, *], World.ownsRow_nil _ _ _ _, Nat.le_refl _, by (repeat (first | (with_reducible exact Below.refl _ _) | (with_reducible assumption) | (with_reducible refine Below.drew ?_) | (with_reducible refine Below.allocS ?_ _) | (with_reducible refine Below.setCell ?_ ?_ _) | (with_reducible refine Below.step ?_ (by assumption)) | (with_reducible refine Below.drewN' ?_ _))); (try any_goals (first | (with_reducible assumption) | (simp; done) | (simp; omega) | omega)), rfl⟩
  case round =>
    obtain ⟨k, v8, rfl, hk, rfl, m0, m1, hown, hsz, hbw, hno⟩ := hrel
    obtain ⟨A8, c8, rfl, -, -⟩ := row_form hown
    have HOW := Lib.hid hown
    have HNO := Lib.hid hno
    clear hown hno
    have y9 : w.heap.size < w3.heap.size := y3_0
    by_cases hlt : k < l.length
    · obtain ⟨b, off, rfl, hb0, hc⟩ := HR.out (by omega)
      have c0 := (hbw.cell (p := ⟨b, _, none⟩) hb0).trans (hc k hlt 0 _ rfl)
      have c1 := (hbw.cell (p := ⟨b, _, none⟩) hb0).trans (hc k hlt 1 _ rfl)
      have c2 := (hbw.cell (p := ⟨b, _, none⟩) hb0).trans (hc k hlt 2 _ rfl)
      have c3 := (hbw.cell (p := ⟨b, _, none⟩) hb0).trans (hc k hlt 3 _ rfl)
      have c4 := (hbw.cell (p := ⟨b, _, none⟩) hb0).trans (hc k hlt 4 _ rfl)
      clear hc
      simp at c0
      have y0 : b < wr.heap.size := cell?_lt c0
      have y1 : w.heap.size < wr.heap.size := cell?_lt m0
      have hmem : l[k] ∈ l := List.getElem_mem hlt
      have hfit := HF.out _ hmem
      have HD : Hid (∀ W, Below w.heap.size w W → Calls Try.prog 16 #[.agg #[.slice x.A x.xs.length x.ca, .int .i64 x.e], .agg #[.string l[k].nm, .int .i64 l[k].a, .int .i64 l[k].b, .int .i64 l[k].c, .slice l[k].T l[k].ts.length l[k].ct]] W fun r w' => r = .returned (.tuple #[.int .i64 (dfV (obs x l[k])), .int .i64 (crE (obs x l[k]))]) ∧ Below W.heap.size W w') :=
        Lib.hid (fun W hb => Difference_c (obs x l[k]) x.A l[k].T x.ca l[k].ct W (obs_at (HX.out.step hb) ((HT.out _ hmem).step hb)))
      have HTk := Lib.hid (show (stL x l).take (k + 1) = (stL x l).take k ++ [⟨l[k].b, dfV (obs x l[k]), dfV (obs x l[k])⟩] by
        unfold stL
        rw [List.take_succ_eq_append_getElem (by rw [List.length_map]; exact hlt), List.getElem_map]; rfl)
      have hln : ((stL x l).take k).length = k := by unfold stL; rw [List.length_take, List.length_map]; omega
      have HTa := Lib.hid (show (l.take (k + 1)).any (noCr x) = noCr x l[k] by
        rw [List.take_succ_eq_append_getElem hlt, List.any_append, HNO.out]; simp)
      have hE8 : noCr x l[k] = true → crE (obs x l[k]) = 8 := fun h => noCr_8 hfit h
      have hE0 : noCr x l[k] = false → crE (obs x l[k]) = 0 := fun h => by unfold noCr at h; have := of_decide_eq_false h; omega
      have hany : noCr x l[k] = true → l.any (noCr x) = true := fun h => List.any_eq_true.2 ⟨_, hmem, h⟩
      generalize dfV (obs x l[k]) = d at *
      generalize crE (obs x l[k]) = E at *
      have hnn := HTa.out
      cases hp : noCr x l[k]
      · obtain rfl := hE0 hp
        rw [hp] at hnn
        have HNN := Lib.hid hnn
        clear hE0 hE8 hany hp hnn hfit HTa
        go_wp2_with fail
        refine (HD.out _ (by (repeat (first | exact Below.refl _ _ | refine Below.drew ?_ | refine Below.allocS ?_ _ | refine Below.step ?_ (by assumption) | refine Below.setCell ?_ (by simp <;> omega) _ | refine Below.drewN' ?_ _)))).mono ?_
        rintro e w4 ⟨rfl, hb4⟩
        have hW : Below wr.heap.size wr w4 := by (repeat (first | exact Below.refl _ _ | refine Below.drew ?_ | refine Below.allocS ?_ _ | refine Below.step ?_ (by assumption) | refine Below.setCell ?_ (by simp <;> omega) _ | refine Below.drewN' ?_ _))
        have n0 : w4.cell? ⟨w.heap.size, 0, none⟩ = some (.slice x.A x.xs.length x.ca) := keep_cell hW m0
        have n1 : w4.cell? ⟨w.heap.size, 1, none⟩ = some (.int .i64 x.e) := keep_cell hW m1
        have q2 : w4.cell? ⟨wr.heap.size, 2, none⟩ = some (.int .i64 l[k].b) := keep_cell hb4 (by simp [go_sem])
        have hB4 : Below w.heap.size w w4 := Below.step hbw hW
        have hs4 : w3.heap.size ≤ w4.heap.size := by have := hW.size; omega
        have y4 : w.heap.size < w4.heap.size := cell?_lt n0
        have HAPP := Lib.hid (app_run appS _ (⟨l[k].b, d, d⟩ : Sp) k hln (by omega) (w4.alloc (.cells #[.int .i64 l[k].b, .int .i64 d, .int .i64 d] 99)) w3.heap.size w4.heap.size (.slice A8 k c8) ((ownsRow_keep HOW.out hW).alloc _) (by simp; omega) (three_cells (by simp [go_sem]) (by simp [go_sem]) (by simp [go_sem])))
        clear hb4 hW hln
        go_wp2_with (go_loud (at_builtin; refine wpList_app rfl (.tmp 40) (.tmp 47) 75 rfl _ _ rfl rfl HAPP.out ?_; rintro v5 w5 ⟨hown5, hbel5⟩; obtain ⟨A5, c5, rfl, -, -⟩ := row_form hown5; have HO5 := Lib.hid hown5; clear hown5; have hsz5 : w3.heap.size ≤ w5.heap.size := (by have := hbel5.size; simp at this; omega); have hB5 : Below w.heap.size w w5 := Below.low (Below.allocS hB4 _) hbel5 (by omega); have r0 : w5.cell? ⟨w.heap.size, 0, none⟩ = some (.slice x.A x.xs.length x.ca) := low_at hbel5 (by omega) (by simp [go_sem, *]); have r1 : w5.cell? ⟨w.heap.size, 1, none⟩ = some (.int .i64 x.e) := low_at hbel5 (by omega) (by simp [go_sem, *]); clear hbel5))
        go_roundw
        case rel => exact ⟨k + 1, _, rfl, by omega, by go_num, r0, r1, by rw [HTk.out]; exact HO5.out, hsz5, hB5, HNN.out⟩
        case measure => simp [intOf]; omega
      · obtain rfl := hE8 hp
        have HE := Lib.hid (show stErr x l = 8 by unfold stErr; rw [if_pos HO.out, if_pos (hany hp)])
        clear hE0 hE8 hany hp hnn hfit HTa HTk hmem hln
        go_wp2_with fail
        refine (HD.out _ (by (repeat (first | exact Below.refl _ _ | refine Below.drew ?_ | refine Below.allocS ?_ _ | refine Below.step ?_ (by assumption) | refine Below.setCell ?_ (by simp <;> omega) _ | refine Below.drewN' ?_ _)))).mono ?_
        rintro e w4 ⟨rfl, hb4⟩
        go_wp2
        go_ret2
        exact ⟨Or.inr ⟨by rw [HE.out]; decide, by rw [HE.out]; rfl⟩, by (repeat (first | (with_reducible exact Below.refl _ _) | (with_reducible assumption) | (with_reducible refine Below.drew ?_) | (with_reducible refine Below.allocS ?_ _) | (with_reducible refine Below.setCell ?_ ?_ _) | (with_reducible refine Below.step ?_ (by assumption)) | (with_reducible refine Below.drewN' ?_ _))); (try any_goals (first | (with_reducible assumption) | (simp; done) | (simp; omega) | omega))⟩
    · obtain rfl : k = l.length := by omega
      have HE := Lib.hid (show stErr x l = 0 by
        unfold stErr
        have := HNO.out
        rw [List.take_of_length_le (Nat.le_refl _)] at this
        rw [if_pos HO.out, if_neg (by rw [this]; simp)])
      rw [List.take_of_length_le (by unfold stL; rw [List.length_map]; exact Nat.le_refl _)] at HOW
      have hI := RdL.of_own (enc := stE) (l := stL x l) (fun _ => rfl) HOW.out (by unfold stL; rw [List.length_map])
      clear HNO
      go_wp2
      go_ret2
      exact ⟨Or.inl ⟨HE.out, A8, c8, rfl, hI⟩, by (repeat (first | (with_reducible exact Below.refl _ _) | (with_reducible assumption) | (with_reducible refine Below.drew ?_) | (with_reducible refine Below.allocS ?_ _) | (with_reducible refine Below.setCell ?_ ?_ _) | (with_reducible refine Below.step ?_ (by assumption)) | (with_reducible refine Below.drewN' ?_ _))); (try any_goals (first | (with_reducible assumption) | (simp; done) | (simp; omega) | omega))⟩
end Go.Proofs.Ytbcabckokmjelaa
