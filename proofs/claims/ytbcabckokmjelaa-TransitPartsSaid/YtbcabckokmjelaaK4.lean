/-
  Bundle K4: Q6, Q7, Q8, Q9, Q10. Printed by bundle.py.
-/
import Derived.Test.YtbcabckokmjelaaK3
namespace Go.Proofs.Ytbcabckokmjelaa
open Go.RowKit
set_option linter.unusedVariables false
set_option linter.unusedSimpArgs false
set_option maxHeartbeats 1000000 in
theorem IndexFuncTr (l : List Tr) (A : Option Addr) (cap : Nat) (hl : l.length ≤ 9223372036854775807) (fv : Nat) (caps : Array Value) (p : Tr → Bool) (w : World) (hr : RdL w w.heap.size trE 5 A l)
    (hcall : ∀ (args : Array Value) (W : World), (callFunc fv args).run Try.prog W = .ok (.enter fv args) W)
    (hf : ∀ x ∈ l, ∀ W, Below w.heap.size w W → Calls Try.prog fv (#[.agg #[.string x.nm, .int .i64 x.a, .int .i64 x.b, .int .i64 x.c, .slice x.T x.ts.length x.ct]] ++ caps) W fun e W' => e = .returned (.bool (p x)) ∧ Below W.heap.size W W') :
    Calls Try.prog 112 #[.slice A l.length cap, .func (.func fv) #[] caps] w fun e w' => e = .returned (.int .i64 (idxOf p l 0)) ∧ Below w.heap.size w w' := by
  have HF := Lib.hid hf
  have HR := Lib.hid hr
  clear hf hr
  go_enter Try.func112, Try.ntmps112
  go_wp2
  go_loopw [5, 8] (fun u i wr => ∃ k : Nat, k ≤ l.length ∧ i = .int .i64 k ∧ Below w.heap.size w wr ∧ idxOf p l 0 = idxOf p (l.drop k) k) (fun u i _ => l.length - (intOf i).toNat)
  case atStart => exact ⟨0, Nat.zero_le _, rfl, Below.refl _ _, rfl⟩
  case round =>
    obtain ⟨k, hk, rfl, hbw, hx⟩ := hrel
    have HX := Lib.hid hx
    clear hx
    by_cases hlt : k < l.length
    · obtain ⟨b, off, rfl, hb0, hc⟩ := HR.out (by omega)
      have c0 := hc k hlt 0 _ rfl
      have c1 := hc k hlt 1 _ rfl
      have c2 := hc k hlt 2 _ rfl
      have c3 := hc k hlt 3 _ rfl
      have c4 := hc k hlt 4 _ rfl
      clear hc
      rw [← hbw.cell (p := ⟨b, _, none⟩) hb0] at c0 c1 c2 c3 c4
      simp at c0
      have hmem : l[k] ∈ l := List.getElem_mem hlt
      have hcc := Lib.hid (HF.out l[k] hmem wr hbw)
      have hd : l.drop k = l[k] :: l.drop (k + 1) := List.drop_eq_getElem_cons hlt
      have HD := Lib.hid hd
      clear hd
      cases hp : p l[k]
      · go_wp2_with fail
        refine hcc.out.mono ?_
        rintro e w1 ⟨rfl, hb⟩
        rw [hp]
        go_wp2
        go_roundw
        case rel => exact ⟨k + 1, by omega, by go_num, Below.step hbw hb, by rw [HX.out, HD.out, idxOf_false _ _ _ _ hp]⟩
        case measure => simp [intOf]; omega
      · go_wp2_with fail
        refine hcc.out.mono ?_
        rintro e w1 ⟨rfl, hb⟩
        rw [hp]
        go_wp2
        go_ret
        exact ⟨by rw [HX.out, HD.out, idxOf_true _ _ _ _ hp]; rfl, Below.step hbw hb⟩
    · obtain rfl : k = l.length := by omega
      go_wp2
      go_ret
      exact ⟨by rw [HX.out]; simp [idxOf], hbw⟩
theorem ContainsFuncTr (l : List Tr) (A : Option Addr) (cap : Nat) (hl : l.length ≤ 9223372036854775807) (fv : Nat) (caps : Array Value) (p : Tr → Bool) (w : World) (hr : RdL w w.heap.size trE 5 A l)
    (hcall : ∀ (args : Array Value) (W : World), (callFunc fv args).run Try.prog W = .ok (.enter fv args) W)
    (hf : ∀ x ∈ l, ∀ W, Below w.heap.size w W → Calls Try.prog fv (#[.agg #[.string x.nm, .int .i64 x.a, .int .i64 x.b, .int .i64 x.c, .slice x.T x.ts.length x.ct]] ++ caps) W fun e W' => e = .returned (.bool (p x)) ∧ Below W.heap.size W W') :
    Calls Try.prog 93 #[.slice A l.length cap, .func (.func fv) #[] caps] w fun e w' => e = .returned (.bool (l.any p)) ∧ Below w.heap.size w w' := by
  have HI := Lib.hid (IndexFuncTr l A cap hl fv caps p w hr hcall hf)
  have HE := Lib.hid (idxOf_any p l 0)
  clear hf hr hcall
  go_enter Try.func93, Try.ntmps93
  go_wp2_with (go_at_call 112; refine HI.out.mono ?_; rintro e w1 ⟨rfl, hb⟩)
  go_ret
  exact ⟨by rw [← HE.out]; rfl, hb⟩


theorem strips1_c (x : Tb) (t : Tr) (P : Nat) (W : World) (hx : TbAt W x) (ht : TrAt W t) (c0 : W.cell? ⟨P, 0, none⟩ = some (.slice x.A x.xs.length x.ca)) (c1 : W.cell? ⟨P, 1, none⟩ = some (.int .i64 x.e)) :
    Calls Try.prog 94 #[.agg #[.string t.nm, .int .i64 t.a, .int .i64 t.b, .int .i64 t.c, .slice t.T t.ts.length t.ct], .pointer (some ⟨P, 0, none⟩)] W fun e w' => e = .returned (.bool (!fitsB (obs x t))) ∧ Below W.heap.size W w' := by
  have H := Lib.hid (fun V hb => Fits_c (obs x t) x.A t.T x.ca t.ct V ((obs_at hx ht).step hb))
  generalize fitsB (obs x t) = B at *
  simp only [obs] at H
  have y0 : P < W.heap.size := cell?_lt c0
  clear hx ht
  go_enter Try.func94, Try.ntmps94
  go_wp2_with fail
  refine (H.out _ (by (repeat (first | exact Below.refl _ _ | refine Below.drew ?_ | refine Below.allocS ?_ _ | refine Below.step ?_ (by assumption) | refine Below.setCell ?_ (by simp <;> omega) _ | refine Below.drewN' ?_ _)))).mono ?_
  rintro e w1 ⟨rfl, hb1⟩
  go_wp2
  go_ret
  exact ⟨rfl, by (repeat (first | exact Below.refl _ _ | refine Below.drew ?_ | refine Below.allocS ?_ _ | refine Below.step ?_ (by assumption) | refine Below.setCell ?_ (by simp <;> omega) _ | refine Below.drewN' ?_ _))⟩
theorem call_strips1 (args : Array Value) (W : World) : (callFunc 94 args).run Try.prog W = .ok (.enter 94 args) W := by kernel_rfl
def okAll (x : Tb) (l : List Tr) : Bool := okTube x.xs x.e && (within l.length 1 12 && l.all fun t => fitsB (obs x t))
def noCr (x : Tb) (t : Tr) : Bool := decide (crE (obs x t) ≠ 0)
def stErr (x : Tb) (l : List Tr) : Int := if okAll x l = true then (if l.any (noCr x) = true then 8 else 0) else 1
def stOf (x : Tb) (t : Tr) : Sp := ⟨t.b, dfV (obs x t), dfV (obs x t)⟩
def stL (x : Tb) (l : List Tr) : List Sp := l.map (stOf x)
def StR (x : Tb) (l : List Tr) (e : Ending) (w' : World) : Prop :=
  (stErr x l = 0 ∧ ∃ A c, e = .returned (.tuple #[.slice A l.length c, .int .i64 0]) ∧ RdL w' w'.heap.size stE 3 A (stL x l)) ∨
  (stErr x l ≠ 0 ∧ e = .returned (.tuple #[.slice none 0 0, .int .i64 (stErr x l)]))
theorem noCr_8 {x : Tb} {t : Tr} (hf : fitsB (obs x t) = true) (h : noCr x t = true) : crE (obs x t) = 8 := by
  unfold noCr at h
  have h := of_decide_eq_true h
  unfold crE at *
  rw [if_pos hf] at *
  split at h
  · rename_i hN; rw [if_pos hN]
  · exact absurd rfl h
set_option maxHeartbeats 4000000 in
set_option maxRecDepth 100000 in
theorem strips_c (x : Tb) (l : List Tr) (A : Option Addr) (cap : Nat) (w : World) (hx : TbAt w x) (hl : l.length ≤ cap) (hm : cap ≤ maxLen) (hr : RdL w w.heap.size trE 5 A l) (ht : ∀ t ∈ l, TrAt w t) :
    Calls Try.prog 64 #[.agg #[.slice x.A x.xs.length x.ca, .int .i64 x.e], .slice A l.length cap] w fun e w' => StR x l e w' ∧ Below w.heap.size w w' := by
  have hml : l.length ≤ 9223372036854775807 := by unfold maxLen at hm; omega
  have hxl : x.xs.length ≤ 9223372036854775807 := by have := hx.n; have := hx.m; unfold maxLen at this; omega
  have HX := Lib.hid hx
  have HT := Lib.hid ht
  have HR := Lib.hid hr
  have H1 := Lib.hid (fun W hb => ValidTube_c x.xs x.A x.ca x.e hxl W (hx.r.step hb))
  have H2 := Lib.hid (fun W => within_c l.length 1 12 W)
  have H3 : Hid (∀ W, Below w.heap.size w W → W.cell? ⟨w.heap.size, 0, none⟩ = some (.slice x.A x.xs.length x.ca) → W.cell? ⟨w.heap.size, 1, none⟩ = some (.int .i64 x.e) →
      Calls Try.prog 93 #[.slice A l.length cap, .func (.func 94) #[] #[.pointer (some ⟨w.heap.size, 0, none⟩)]] W fun e w' => e = .returned (.bool (l.any fun t => !fitsB (obs x t))) ∧ Below W.heap.size W w') :=
    Lib.hid (fun W hb h0 h1 => ContainsFuncTr l A cap hml _ _ (fun t => !fitsB (obs x t)) W (HR.out.step hb) call_strips1 (fun t htm V hv => by
      simpa using strips1_c x t w.heap.size V ((HX.out.step hb).step hv) (((HT.out t htm).step hb).step hv) (keep_cell hv h0) (keep_cell hv h1)))
  clear hx ht hr hm hl hxl
  cases h1 : okTube x.xs x.e
  · rw [h1] at H1
    have HE := Lib.hid (show stErr x l = 1 by unfold stErr okAll; rw [h1]; rfl)
    clear h1
    go_enter Try.func64, Try.ntmps64
    go_wp2_with fail
    refine (H1.out _ (by (repeat (first | exact Below.refl _ _ | refine Below.drew ?_ | refine Below.allocS ?_ _ | refine Below.step ?_ (by assumption) | refine Below.setCell ?_ (by simp <;> omega) _ | refine Below.drewN' ?_ _)))).mono ?_
    rintro e w1 ⟨rfl, hb1⟩
    have x1_0_0 : w1.cell? ⟨w.heap.size, 0, none⟩ = some (.slice x.A x.xs.length x.ca) := keep_cell hb1 (by simp [go_sem, *])
    have x1_0_1 : w1.cell? ⟨w.heap.size, 1, none⟩ = some (.int .i64 x.e) := keep_cell hb1 (by simp [go_sem, *])
    have y1_0 : w.heap.size < w1.heap.size := cell?_lt x1_0_0
    have g1 : Below w.heap.size w w1 := by (repeat (first | exact Below.refl _ _ | refine Below.drew ?_ | refine Below.allocS ?_ _ | refine Below.step ?_ (by assumption) | refine Below.setCell ?_ (by simp <;> omega) _ | refine Below.drewN' ?_ _))
    clear hb1
    go_wp2
    go_ret2
    exact ⟨Or.inr ⟨by rw [HE.out]; decide, by rw [HE.out]; rfl⟩, by (repeat (first | (with_reducible exact Below.refl _ _) | (with_reducible assumption) | (with_reducible refine Below.drew ?_) | (with_reducible refine Below.allocS ?_ _) | (with_reducible refine Below.setCell ?_ ?_ _) | (with_reducible refine Below.step ?_ (by assumption)) | (with_reducible refine Below.drewN' ?_ _))); (try any_goals (first | (with_reducible assumption) | (simp; done) | (simp; omega) | omega))⟩
  cases h2 : within l.length 1 12
  · rw [h1] at H1
    rw [h2] at H2
    have HE := Lib.hid (show stErr x l = 1 by unfold stErr okAll; rw [h1, h2]; rfl)
    clear h1 h2
    go_enter Try.func64, Try.ntmps64
    go_wp2_with fail
    refine (H1.out _ (by (repeat (first | exact Below.refl _ _ | refine Below.drew ?_ | refine Below.allocS ?_ _ | refine Below.step ?_ (by assumption) | refine Below.setCell ?_ (by simp <;> omega) _ | refine Below.drewN' ?_ _)))).mono ?_
    rintro e w1 ⟨rfl, hb1⟩
    have x1_0_0 : w1.cell? ⟨w.heap.size, 0, none⟩ = some (.slice x.A x.xs.length x.ca) := keep_cell hb1 (by simp [go_sem, *])
    have x1_0_1 : w1.cell? ⟨w.heap.size, 1, none⟩ = some (.int .i64 x.e) := keep_cell hb1 (by simp [go_sem, *])
    have y1_0 : w.heap.size < w1.heap.size := cell?_lt x1_0_0
    have g1 : Below w.heap.size w w1 := by (repeat (first | exact Below.refl _ _ | refine Below.drew ?_ | refine Below.allocS ?_ _ | refine Below.step ?_ (by assumption) | refine Below.setCell ?_ (by simp <;> omega) _ | refine Below.drewN' ?_ _))
    clear hb1
    go_wp2_with fail
    refine (H2.out _).mono ?_
    rintro e w' ⟨rfl, hw'⟩; replace hw' := hw'.symm; subst hw'
    go_wp2
    go_ret2
    exact ⟨Or.inr ⟨by rw [HE.out]; decide, by rw [HE.out]; rfl⟩, by (repeat (first | (with_reducible exact Below.refl _ _) | (with_reducible assumption) | (with_reducible refine Below.drew ?_) | (with_reducible refine Below.allocS ?_ _) | (with_reducible refine Below.setCell ?_ ?_ _) | (with_reducible refine Below.step ?_ (by assumption)) | (with_reducible refine Below.drewN' ?_ _))); (try any_goals (first | (with_reducible assumption) | (simp; done) | (simp; omega) | omega))⟩
  have h12 : l.length ≤ 12 := by have := within_true h2; omega
  have h01 : 1 ≤ l.length := by have := within_true h2; omega
  cases h3 : l.any fun t => !fitsB (obs x t)
  case true =>
    rw [h1] at H1
    rw [h2] at H2
    rw [h3] at H3
    have HE := Lib.hid (show stErr x l = 1 by unfold stErr okAll; rw [h1, h2, ← any_not, h3]; rfl)
    clear h1 h2 h3
    go_enter Try.func64, Try.ntmps64
    go_wp2_with fail
    refine (H1.out _ (by (repeat (first | exact Below.refl _ _ | refine Below.drew ?_ | refine Below.allocS ?_ _ | refine Below.step ?_ (by assumption) | refine Below.setCell ?_ (by simp <;> omega) _ | refine Below.drewN' ?_ _)))).mono ?_
    rintro e w1 ⟨rfl, hb1⟩
    have x1_0_0 : w1.cell? ⟨w.heap.size, 0, none⟩ = some (.slice x.A x.xs.length x.ca) := keep_cell hb1 (by simp [go_sem, *])
    have x1_0_1 : w1.cell? ⟨w.heap.size, 1, none⟩ = some (.int .i64 x.e) := keep_cell hb1 (by simp [go_sem, *])
    have y1_0 : w.heap.size < w1.heap.size := cell?_lt x1_0_0
    have g1 : Below w.heap.size w w1 := by (repeat (first | exact Below.refl _ _ | refine Below.drew ?_ | refine Below.allocS ?_ _ | refine Below.step ?_ (by assumption) | refine Below.setCell ?_ (by simp <;> omega) _ | refine Below.drewN' ?_ _))
    clear hb1
    go_wp2_with fail
    refine (H2.out _).mono ?_
    rintro e w' ⟨rfl, hw'⟩; replace hw' := hw'.symm; subst hw'
    go_wp2_with fail
    refine (H3.out _ (by (repeat (first | exact Below.refl _ _ | refine Below.drew ?_ | refine Below.allocS ?_ _ | refine Below.step ?_ (by assumption) | refine Below.setCell ?_ (by simp <;> omega) _ | refine Below.drewN' ?_ _))) (by simp [go_sem, *]) (by simp [go_sem, *])).mono ?_
    rintro e w3 ⟨rfl, hb3⟩
    have x3_0_0 : w3.cell? ⟨w.heap.size, 0, none⟩ = some (.slice x.A x.xs.length x.ca) := keep_cell hb3 (by simp [go_sem, *])
    have x3_0_1 : w3.cell? ⟨w.heap.size, 1, none⟩ = some (.int .i64 x.e) := keep_cell hb3 (by simp [go_sem, *])
    have y3_0 : w.heap.size < w3.heap.size := cell?_lt x3_0_0
    have g3 : Below w.heap.size w w3 := by (repeat (first | exact Below.refl _ _ | refine Below.drew ?_ | refine Below.allocS ?_ _ | refine Below.step ?_ (by assumption) | refine Below.setCell ?_ (by simp <;> omega) _ | refine Below.drewN' ?_ _))
    clear hb3 g1 x1_0_0 x1_0_1 y1_0
    go_wp2
    go_ret2
    exact ⟨Or.inr ⟨by rw [HE.out]; decide, by rw [HE.out]; rfl⟩, by (repeat (first | (with_reducible exact Below.refl _ _) | (with_reducible assumption) | (with_reducible refine Below.drew ?_) | (with_reducible refine Below.allocS ?_ _) | (with_reducible refine Below.setCell ?_ ?_ _) | (with_reducible refine Below.step ?_ (by assumption)) | (with_reducible refine Below.drewN' ?_ _))); (try any_goals (first | (with_reducible assumption) | (simp; done) | (simp; omega) | omega))⟩
  have hall : (l.all fun t => fitsB (obs x t)) = true := by rw [← any_not, h3]; rfl
  have HF := Lib.hid (fun t (h : t ∈ l) => List.all_eq_true.1 hall t h)
  have HO := Lib.hid (show okAll x l = true by unfold okAll; rw [h1, h2, hall]; rfl)
  rw [h1] at H1
  rw [h2] at H2
  rw [h3] at H3
  clear h1 h2 h3 hall
  go_enter Try.func64, Try.ntmps64
  go_wp2_with fail
  refine (H1.out _ (by (repeat (first | exact Below.refl _ _ | refine Below.drew ?_ | refine Below.allocS ?_ _ | refine Below.step ?_ (by assumption) | refine Below.setCell ?_ (by simp <;> omega) _ | refine Below.drewN' ?_ _)))).mono ?_
  rintro e w1 ⟨rfl, hb1⟩
  have x1_0_0 : w1.cell? ⟨w.heap.size, 0, none⟩ = some (.slice x.A x.xs.length x.ca) := keep_cell hb1 (by simp [go_sem, *])
  have x1_0_1 : w1.cell? ⟨w.heap.size, 1, none⟩ = some (.int .i64 x.e) := keep_cell hb1 (by simp [go_sem, *])
  have y1_0 : w.heap.size < w1.heap.size := cell?_lt x1_0_0
  have g1 : Below w.heap.size w w1 := by (repeat (first | exact Below.refl _ _ | refine Below.drew ?_ | refine Below.allocS ?_ _ | refine Below.step ?_ (by assumption) | refine Below.setCell ?_ (by simp <;> omega) _ | refine Below.drewN' ?_ _))
  clear hb1
  go_wp2_with fail
  refine (H2.out _).mono ?_
  rintro e w' ⟨rfl, hw'⟩; replace hw' := hw'.symm; subst hw'
  go_wp2_with fail
  refine (H3.out _ (by (repeat (first | exact Below.refl _ _ | refine Below.drew ?_ | refine Below.allocS ?_ _ | refine Below.step ?_ (by assumption) | refine Below.setCell ?_ (by simp <;> omega) _ | refine Below.drewN' ?_ _))) (by simp [go_sem, *]) (by simp [go_sem, *])).mono ?_
  rintro e w3 ⟨rfl, hb3⟩
  have x3_0_0 : w3.cell? ⟨w.heap.size, 0, none⟩ = some (.slice x.A x.xs.length x.ca) := keep_cell hb3 (by simp [go_sem, *])
  have x3_0_1 : w3.cell? ⟨w.heap.size, 1, none⟩ = some (.int .i64 x.e) := keep_cell hb3 (by simp [go_sem, *])
  have y3_0 : w.heap.size < w3.heap.size := cell?_lt x3_0_0
  have g3 : Below w.heap.size w w3 := by (repeat (first | exact Below.refl _ _ | refine Below.drew ?_ | refine Below.allocS ?_ _ | refine Below.step ?_ (by assumption) | refine Below.setCell ?_ (by simp <;> omega) _ | refine Below.drewN' ?_ _))
  clear hb3 g1 x1_0_0 x1_0_1 y1_0
  clear H1 H2 H3
  go_wp2
  go_loopw [6, 27] (fun u i wr => ∃ (k : Nat) (v8 : Value), v8 = u ∧ k ≤ l.length ∧ i = .int .i64 k ∧ wr.cell? ⟨w.heap.size, 0, none⟩ = some (.slice x.A x.xs.length x.ca) ∧ wr.cell? ⟨w.heap.size, 1, none⟩ = some (.int .i64 x.e) ∧
    wr.ownsRow w3.heap.size 99 3 v8 k (((stL x l).take k).flatMap stE) ∧ w3.heap.size ≤ wr.heap.size ∧ Below w.heap.size w wr ∧ (l.take k).any (noCr x) = false) (fun _ i _ => l.length - (intOf i).toNat)
  case atStart => exact ⟨0, _, rfl, Nat.zero_le _, rfl, by simp [go_sem, *], by simp [go_sem, *], World.ownsRow_nil _ _ _ _, Nat.le_refl _, by (repeat (first | (with_reducible exact Below.refl _ _) | (with_reducible assumption) | (with_reducible refine Below.drew ?_) | (with_reducible refine Below.allocS ?_ _) | (with_reducible refine Below.setCell ?_ ?_ _) | (with_reducible refine Below.step ?_ (by assumption)) | (with_reducible refine Below.drewN' ?_ _))); (try any_goals (first | (with_reducible assumption) | (simp; done) | (simp; omega) | omega)), rfl⟩
  case round =>
    obtain ⟨k, v8, rfl, hk, rfl, m0, m1, hown, hsz, hbw, hno⟩ := hrel
    obtain ⟨A8, c8, rfl, -, -⟩ := row_form hown
    have HOW := Lib.hid hown
    have HNO := Lib.hid hno
    clear hown hno
    have y9 : w.heap.size < w3.heap.size := y3_0
    by_cases hlt : k < l.length
    · obtain ⟨b, off, rfl, hb0, hc⟩ := HR.out (by omega)
      have c0 := (hbw.cell (p := ⟨b, _, none⟩) hb0).trans (hc k hlt 0 _ rfl)
      have c1 := (hbw.cell (p := ⟨b, _, none⟩) hb0).trans (hc k hlt 1 _ rfl)
      have c2 := (hbw.cell (p := ⟨b, _, none⟩) hb0).trans (hc k hlt 2 _ rfl)
      have c3 := (hbw.cell (p := ⟨b, _, none⟩) hb0).trans (hc k hlt 3 _ rfl)
      have c4 := (hbw.cell (p := ⟨b, _, none⟩) hb0).trans (hc k hlt 4 _ rfl)
      clear hc
      simp at c0
      have y0 : b < wr.heap.size := cell?_lt c0
      have y1 : w.heap.size < wr.heap.size := cell?_lt m0
      have hmem : l[k] ∈ l := List.getElem_mem hlt
      have hfit := HF.out _ hmem
      have HD : Hid (∀ W, Below w.heap.size w W → Calls Try.prog 16 #[.agg #[.slice x.A x.xs.length x.ca, .int .i64 x.e], .agg #[.string l[k].nm, .int .i64 l[k].a, .int .i64 l[k].b, .int .i64 l[k].c, .slice l[k].T l[k].ts.length l[k].ct]] W fun r w' => r = .returned (.tuple #[.int .i64 (dfV (obs x l[k])), .int .i64 (crE (obs x l[k]))]) ∧ Below W.heap.size W w') :=
        Lib.hid (fun W hb => Difference_c (obs x l[k]) x.A l[k].T x.ca l[k].ct W (obs_at (HX.out.step hb) ((HT.out _ hmem).step hb)))
      have HTk := Lib.hid (show (stL x l).take (k + 1) = (stL x l).take k ++ [⟨l[k].b, dfV (obs x l[k]), dfV (obs x l[k])⟩] by
        unfold stL
        rw [List.take_succ_eq_append_getElem (by rw [List.length_map]; exact hlt), List.getElem_map]; rfl)
      have hln : ((stL x l).take k).length = k := by unfold stL; rw [List.length_take, List.length_map]; omega
      have HTa := Lib.hid (show (l.take (k + 1)).any (noCr x) = noCr x l[k] by
        rw [List.take_succ_eq_append_getElem hlt, List.any_append, HNO.out]; simp)
      have hE8 : noCr x l[k] = true → crE (obs x l[k]) = 8 := fun h => noCr_8 hfit h
      have hE0 : noCr x l[k] = false → crE (obs x l[k]) = 0 := fun h => by unfold noCr at h; have := of_decide_eq_false h; omega
      have hany : noCr x l[k] = true → l.any (noCr x) = true := fun h => List.any_eq_true.2 ⟨_, hmem, h⟩
      generalize dfV (obs x l[k]) = d at *
      generalize crE (obs x l[k]) = E at *
      have hnn := HTa.out
      cases hp : noCr x l[k]
      · obtain rfl := hE0 hp
        rw [hp] at hnn
        have HNN := Lib.hid hnn
        clear hE0 hE8 hany hp hnn hfit HTa
        go_wp2_with fail
        refine (HD.out _ (by (repeat (first | exact Below.refl _ _ | refine Below.drew ?_ | refine Below.allocS ?_ _ | refine Below.step ?_ (by assumption) | refine Below.setCell ?_ (by simp <;> omega) _ | refine Below.drewN' ?_ _)))).mono ?_
        rintro e w4 ⟨rfl, hb4⟩
        have hW : Below wr.heap.size wr w4 := by (repeat (first | exact Below.refl _ _ | refine Below.drew ?_ | refine Below.allocS ?_ _ | refine Below.step ?_ (by assumption) | refine Below.setCell ?_ (by simp <;> omega) _ | refine Below.drewN' ?_ _))
        have n0 : w4.cell? ⟨w.heap.size, 0, none⟩ = some (.slice x.A x.xs.length x.ca) := keep_cell hW m0
        have n1 : w4.cell? ⟨w.heap.size, 1, none⟩ = some (.int .i64 x.e) := keep_cell hW m1
        have q2 : w4.cell? ⟨wr.heap.size, 2, none⟩ = some (.int .i64 l[k].b) := keep_cell hb4 (by simp [go_sem])
        have hB4 : Below w.heap.size w w4 := Below.step hbw hW
        have hs4 : w3.heap.size ≤ w4.heap.size := by have := hW.size; omega
        have y4 : w.heap.size < w4.heap.size := cell?_lt n0
        have HAPP := Lib.hid (app_run appS _ (⟨l[k].b, d, d⟩ : Sp) k hln (by omega) (w4.alloc (.cells #[.int .i64 l[k].b, .int .i64 d, .int .i64 d] 99)) w3.heap.size w4.heap.size (.slice A8 k c8) ((ownsRow_keep HOW.out hW).alloc _) (by simp; omega) (three_cells (by simp [go_sem]) (by simp [go_sem]) (by simp [go_sem])))
        clear hb4 hW hln
        go_wp2_with (at_builtin; refine wpList_app rfl (.tmp 40) (.tmp 47) 75 rfl _ _ rfl rfl HAPP.out ?_; rintro v5 w5 ⟨hown5, hbel5⟩; obtain ⟨A5, c5, rfl, -, -⟩ := row_form hown5; have HO5 := Lib.hid hown5; clear hown5; have hsz5 : w3.heap.size ≤ w5.heap.size := (by have := hbel5.size; simp at this; omega); have hB5 : Below w.heap.size w w5 := Below.low (Below.allocS hB4 _) hbel5 (by omega); have r0 : w5.cell? ⟨w.heap.size, 0, none⟩ = some (.slice x.A x.xs.length x.ca) := low_at hbel5 (by omega) (by simp [go_sem, *]); have r1 : w5.cell? ⟨w.heap.size, 1, none⟩ = some (.int .i64 x.e) := low_at hbel5 (by omega) (by simp [go_sem, *]); clear hbel5)
        go_roundw
        case rel => exact ⟨k + 1, _, rfl, by omega, by go_num, r0, r1, by rw [HTk.out]; exact HO5.out, hsz5, hB5, HNN.out⟩
        case measure => simp [intOf]; omega
      · obtain rfl := hE8 hp
        have HE := Lib.hid (show stErr x l = 8 by unfold stErr; rw [if_pos HO.out, if_pos (hany hp)])
        clear hE0 hE8 hany hp hnn hfit HTa HTk hmem hln
        go_wp2_with fail
        refine (HD.out _ (by (repeat (first | exact Below.refl _ _ | refine Below.drew ?_ | refine Below.allocS ?_ _ | refine Below.step ?_ (by assumption) | refine Below.setCell ?_ (by simp <;> omega) _ | refine Below.drewN' ?_ _)))).mono ?_
        rintro e w4 ⟨rfl, hb4⟩
        go_wp2
        go_ret2
        exact ⟨Or.inr ⟨by rw [HE.out]; decide, by rw [HE.out]; rfl⟩, by (repeat (first | (with_reducible exact Below.refl _ _) | (with_reducible assumption) | (with_reducible refine Below.drew ?_) | (with_reducible refine Below.allocS ?_ _) | (with_reducible refine Below.setCell ?_ ?_ _) | (with_reducible refine Below.step ?_ (by assumption)) | (with_reducible refine Below.drewN' ?_ _))); (try any_goals (first | (with_reducible assumption) | (simp; done) | (simp; omega) | omega))⟩
    · obtain rfl : k = l.length := by omega
      have HE := Lib.hid (show stErr x l = 0 by
        unfold stErr
        have := HNO.out
        rw [List.take_of_length_le (Nat.le_refl _)] at this
        rw [if_pos HO.out, if_neg (by rw [this]; simp)])
      rw [List.take_of_length_le (by unfold stL; rw [List.length_map]; exact Nat.le_refl _)] at HOW
      have hI := RdL.of_own (enc := stE) (l := stL x l) (fun _ => rfl) HOW.out (by unfold stL; rw [List.length_map])
      clear HNO
      go_wp2
      go_ret2
      exact ⟨Or.inl ⟨HE.out, A8, c8, rfl, hI⟩, by (repeat (first | (with_reducible exact Below.refl _ _) | (with_reducible assumption) | (with_reducible refine Below.drew ?_) | (with_reducible refine Below.allocS ?_ _) | (with_reducible refine Below.setCell ?_ ?_ _) | (with_reducible refine Below.step ?_ (by assumption)) | (with_reducible refine Below.drewN' ?_ _))); (try any_goals (first | (with_reducible assumption) | (simp; done) | (simp; omega) | omega))⟩
end Go.Proofs.Ytbcabckokmjelaa
namespace Go.Proofs.Ytbcabckokmjelaa
open Go.RowKit
set_option linter.unusedVariables false
set_option linter.unusedSimpArgs false
theorem stErr_ok {x : Tb} {l : List Tr} (h : stErr x l = 0) : okAll x l = true ∧ l.any (noCr x) = false := by
  unfold stErr at h
  by_cases ho : okAll x l = true
  · rw [if_pos ho] at h
    refine ⟨ho, ?_⟩
    cases ha : l.any (noCr x) with
    | false => rfl
    | true => rw [if_pos ha] at h; cases h
  · rw [if_neg ho] at h; cases h
structure Okd (x : Tb) (l : List Tr) : Prop where
  n : 1 ≤ l.length ∧ l.length ≤ 12
  e : 0 ≤ x.e ∧ x.e ≤ 10000
  f : ∀ t ∈ l, fitsB (obs x t) = true
  tube : okTube x.xs x.e = true
theorem okAll_ok {x : Tb} {l : List Tr} (h : okAll x l = true) : Okd x l := by
  unfold okAll at h
  simp only [Bool.and_eq_true] at h
  obtain ⟨h1, h2, h3⟩ := h
  have q := within_true h2
  refine ⟨by omega, ?_, List.all_eq_true.1 h3, h1⟩
  unfold okTube at h1
  simp only [Bool.and_eq_true] at h1
  exact within_true h1.2.2
theorem dfV_bd (o : Obs) : -43200000 ≤ dfV o ∧ dfV o ≤ 43200000 := by
  unfold dfV
  split
  · have := foldD_bd (o.a - crQ o); omega
  · omega
theorem stL_in {x : Tb} {l : List Tr} (h : okAll x l = true) : ∀ s ∈ stL x l, (-10000 ≤ s.s ∧ s.s ≤ 10000) ∧ s.lo = s.hi ∧ -43200000 ≤ s.lo ∧ s.lo ≤ 43200000 := by
  intro s hs
  obtain ⟨t, ht, rfl⟩ := List.mem_map.1 hs
  have hf := fits_at ((okAll_ok h).f t ht)
  exact ⟨hf.b, rfl, dfV_bd _⟩
theorem stL_ok {x : Tb} {l : List Tr} (h : okAll x l = true) : ∀ s ∈ stL x l, SpOk s := by
  intro s hs
  obtain ⟨h1, h2, h3⟩ := stL_in h s hs
  exact ⟨h1, by omega, by omega⟩
theorem wid_ok {x : Tb} {l : List Tr} (h : okAll x l = true) {w : Int} (hw : 0 ≤ w ∧ w ≤ 1000000) : ∀ s ∈ (stL x l).map (widen w), SpOk s := by
  intro s hs
  obtain ⟨t, ht, rfl⟩ := List.mem_map.1 hs
  obtain ⟨h1, h2, h3⟩ := stL_in h t ht
  exact ⟨h1, by simp only [widen]; omega, by simp only [widen]; omega⟩
def wdL (x : Tb) (l : List Tr) : List Sp := (stL x l).map (widen x.e)
theorem wdL_len (x : Tb) (l : List Tr) : (wdL x l).length = l.length := by unfold wdL stL; rw [List.length_map, List.length_map]
theorem wdL_ok {x : Tb} {l : List Tr} (h : okAll x l = true) : ∀ s ∈ wdL x l, SpOk s := wid_ok h (by have := (okAll_ok h).e; omega)
def AsR (x : Tb) (l : List Tr) (e : Ending) (w' : World) : Prop :=
  (stErr x l = 0 ∧ ∃ A c, e = .returned (.tuple #[.slice A l.length c, .int .i64 0]) ∧ RdL w' w'.heap.size stE 3 A (wdL x l)) ∨
  (stErr x l ≠ 0 ∧ e = .returned (.tuple #[.slice none 0 0, .int .i64 (stErr x l)]))
theorem stErr_cases (x : Tb) (l : List Tr) : stErr x l = 0 ∨ stErr x l = 1 ∨ stErr x l = 8 := by
  unfold stErr; split
  · split
    · exact .inr (.inr rfl)
    · exact .inl rfl
  · exact .inr (.inl rfl)
set_option maxHeartbeats 1000000 in
theorem asked_c (x : Tb) (l : List Tr) (A : Option Addr) (cap : Nat) (w : World) (hx : TbAt w x) (hl : l.length ≤ cap) (hm : cap ≤ maxLen) (hr : RdL w w.heap.size trE 5 A l) (ht : ∀ t ∈ l, TrAt w t) :
    Calls Try.prog 60 #[.agg #[.slice x.A x.xs.length x.ca, .int .i64 x.e], .slice A l.length cap] w fun e w' => AsR x l e w' ∧ Below w.heap.size w w' := by
  have H1 := Lib.hid (fun W (hb : Below w.heap.size w W) => strips_c x l A cap W (hx.step hb) hl hm (hr.step hb) (fun t h => (ht t h).step hb))
  clear hx hl hm hr ht
  by_cases h0 : stErr x l = 0
  · have H1' : Hid (∀ W, Below w.heap.size w W → Calls Try.prog 64 #[.agg #[.slice x.A x.xs.length x.ca, .int .i64 x.e], .slice A l.length cap] W fun e w' => ∃ A' c', e = .returned (.tuple #[.slice A' l.length c', .int .i64 0]) ∧ RdL w' w'.heap.size stE 3 A' (stL x l) ∧ Below W.heap.size W w') :=
      Lib.hid (fun W hb => (H1.out W hb).mono (by
        rintro e w' ⟨h | h, hb'⟩
        · obtain ⟨-, A', c', h1, h2⟩ := h; exact ⟨A', c', h1, h2, hb'⟩
        · exact absurd h0 h.1))
    have hok := (stErr_ok h0).1
    have hO := okAll_ok hok
    have HW := Lib.hid (fun (A' : Option Addr) c' W hr => wider_c (stL x l) l.length (by unfold stL; rw [List.length_map]) (by have := hO.n; omega) (stL_ok hok) x.e (by have := hO.e; omega) A' c' W hr)
    have HH := Lib.hid h0
    clear H1 h0 hok hO
    go_enter Try.func60, Try.ntmps60
    go_wp2_with fail
    refine (H1'.out _ (by (repeat (first | exact Below.refl _ _ | refine Below.drew ?_ | refine Below.allocS ?_ _ | refine Below.step ?_ (by assumption) | refine Below.setCell ?_ (by simp <;> omega) _ | refine Below.drewN' ?_ _)))).mono ?_
    rintro e w1 ⟨A1, c1, rfl, r1, hb1⟩
    have x1_0_0 : w1.cell? ⟨w.heap.size, 0, none⟩ = some (.slice x.A x.xs.length x.ca) := keep_cell hb1 (by simp [go_sem, *])
    have x1_0_1 : w1.cell? ⟨w.heap.size, 1, none⟩ = some (.int .i64 x.e) := keep_cell hb1 (by simp [go_sem, *])
    have y1_0 : w.heap.size < w1.heap.size := cell?_lt x1_0_0
    have g1 : Below w.heap.size w w1 := by (repeat (first | exact Below.refl _ _ | refine Below.drew ?_ | refine Below.allocS ?_ _ | refine Below.step ?_ (by assumption) | refine Below.setCell ?_ (by simp <;> omega) _ | refine Below.drewN' ?_ _))
    clear hb1
    go_wp2_with fail
    refine (HW.out A1 c1 _ r1).mono ?_
    rintro e w2 ⟨A2, c2, rfl, r2, hb2⟩
    go_wp2
    go_ret2
    exact ⟨Or.inl ⟨HH.out, A2, c2, rfl, r2⟩, by (repeat (first | exact Below.refl _ _ | refine Below.drew ?_ | refine Below.allocS ?_ _ | refine Below.step ?_ (by assumption) | refine Below.setCell ?_ (by simp <;> omega) _ | refine Below.drewN' ?_ _))⟩
  · have H1' : Hid (∀ W, Below w.heap.size w W → Calls Try.prog 64 #[.agg #[.slice x.A x.xs.length x.ca, .int .i64 x.e], .slice A l.length cap] W fun e w' => e = .returned (.tuple #[.slice none 0 0, .int .i64 (stErr x l)]) ∧ Below W.heap.size W w') :=
      Lib.hid (fun W hb => (H1.out W hb).mono (by
        rintro e w' ⟨h | h, hb'⟩
        · exact absurd h.1 h0
        · exact ⟨h.2, hb'⟩))
    have hc := stErr_cases x l
    have HH := Lib.hid (show ∀ e w', e = .returned (.tuple #[.slice none 0 0, .int .i64 (stErr x l)]) → AsR x l e w' from fun e w' h => Or.inr ⟨h0, h⟩)
    clear H1
    generalize stErr x l = E at *
    rcases hc with rfl | rfl | rfl
    · exact absurd rfl h0
    all_goals
      clear h0
      go_enter Try.func60, Try.ntmps60
      go_wp2_with fail
      refine (H1'.out _ (by (repeat (first | exact Below.refl _ _ | refine Below.drew ?_ | refine Below.allocS ?_ _ | refine Below.step ?_ (by assumption) | refine Below.setCell ?_ (by simp <;> omega) _ | refine Below.drewN' ?_ _)))).mono ?_
      rintro e w1 ⟨rfl, hb1⟩
      have x1_0_0 : w1.cell? ⟨w.heap.size, 0, none⟩ = some (.slice x.A x.xs.length x.ca) := keep_cell hb1 (by simp [go_sem, *])
      have x1_0_1 : w1.cell? ⟨w.heap.size, 1, none⟩ = some (.int .i64 x.e) := keep_cell hb1 (by simp [go_sem, *])
      have y1_0 : w.heap.size < w1.heap.size := cell?_lt x1_0_0
      have g1 : Below w.heap.size w w1 := by (repeat (first | exact Below.refl _ _ | refine Below.drew ?_ | refine Below.allocS ?_ _ | refine Below.step ?_ (by assumption) | refine Below.setCell ?_ (by simp <;> omega) _ | refine Below.drewN' ?_ _))
      clear hb1
      go_wp2
      go_ret2
      exact ⟨HH.out _ _ rfl, by (repeat (first | exact Below.refl _ _ | refine Below.drew ?_ | refine Below.allocS ?_ _ | refine Below.step ?_ (by assumption) | refine Below.setCell ?_ (by simp <;> omega) _ | refine Below.drewN' ?_ _))⟩
def agE (x : Tb) (l : List Tr) : Bool := decide (stErr x l = 0) && agB (azR (wdL x l))
set_option maxHeartbeats 1000000 in
theorem Agree_c (x : Tb) (l : List Tr) (A : Option Addr) (cap : Nat) (w : World) (hx : TbAt w x) (hl : l.length ≤ cap) (hm : cap ≤ maxLen) (hr : RdL w w.heap.size trE 5 A l) (ht : ∀ t ∈ l, TrAt w t) :
    Calls Try.prog 29 #[.agg #[.slice x.A x.xs.length x.ca, .int .i64 x.e], .slice A l.length cap] w fun e w' => e = .returned (.tuple #[.bool (agE x l), .int .i64 (stErr x l)]) ∧ Below w.heap.size w w' := by
  have H1 := Lib.hid (fun W (hb : Below w.heap.size w W) => asked_c x l A cap W (hx.step hb) hl hm (hr.step hb) (fun t h => (ht t h).step hb))
  clear hx hl hm hr ht
  unfold agE
  by_cases h0 : stErr x l = 0
  · have H1' : Hid (∀ W, Below w.heap.size w W → Calls Try.prog 60 #[.agg #[.slice x.A x.xs.length x.ca, .int .i64 x.e], .slice A l.length cap] W fun e w' => ∃ A' c', e = .returned (.tuple #[.slice A' l.length c', .int .i64 0]) ∧ RdL w' w'.heap.size stE 3 A' (wdL x l) ∧ Below W.heap.size W w') :=
      Lib.hid (fun W hb => (H1.out W hb).mono (by
        rintro e w' ⟨h | h, hb'⟩
        · obtain ⟨-, A', c', h1, h2⟩ := h; exact ⟨A', c', h1, h2, hb'⟩
        · exact absurd h0 h.1))
    have hok := (stErr_ok h0).1
    have hO := okAll_ok hok
    have HW := Lib.hid (fun (A' : Option Addr) c' W hr => agree_c (wdL x l) l.length (wdL_len x l) (by have := hO.n; omega) (wdL_ok hok) A' c' W hr)
    rw [h0]
    rw [decide_eq_true rfl, Bool.true_and]
    clear H1 h0 hok hO
    generalize agB (azR (wdL x l)) = B at *
    go_enter Try.func29, Try.ntmps29
    go_wp2_with fail
    refine (H1'.out _ (by (repeat (first | exact Below.refl _ _ | refine Below.drew ?_ | refine Below.allocS ?_ _ | refine Below.step ?_ (by assumption) | refine Below.setCell ?_ (by simp <;> omega) _ | refine Below.drewN' ?_ _)))).mono ?_
    rintro e w1 ⟨A1, c1, rfl, r1, hb1⟩
    have x1_0_0 : w1.cell? ⟨w.heap.size, 0, none⟩ = some (.slice x.A x.xs.length x.ca) := keep_cell hb1 (by simp [go_sem, *])
    have x1_0_1 : w1.cell? ⟨w.heap.size, 1, none⟩ = some (.int .i64 x.e) := keep_cell hb1 (by simp [go_sem, *])
    have y1_0 : w.heap.size < w1.heap.size := cell?_lt x1_0_0
    have g1 : Below w.heap.size w w1 := by (repeat (first | exact Below.refl _ _ | refine Below.drew ?_ | refine Below.allocS ?_ _ | refine Below.step ?_ (by assumption) | refine Below.setCell ?_ (by simp <;> omega) _ | refine Below.drewN' ?_ _))
    clear hb1
    go_wp2_with fail
    refine (HW.out A1 c1 _ r1).mono ?_
    rintro e w2 ⟨rfl, hb2⟩
    go_wp2
    go_ret2
    exact ⟨rfl, by (repeat (first | exact Below.refl _ _ | refine Below.drew ?_ | refine Below.allocS ?_ _ | refine Below.step ?_ (by assumption) | refine Below.setCell ?_ (by simp <;> omega) _ | refine Below.drewN' ?_ _))⟩
  · have H1' : Hid (∀ W, Below w.heap.size w W → Calls Try.prog 60 #[.agg #[.slice x.A x.xs.length x.ca, .int .i64 x.e], .slice A l.length cap] W fun e w' => e = .returned (.tuple #[.slice none 0 0, .int .i64 (stErr x l)]) ∧ Below W.heap.size W w') :=
      Lib.hid (fun W hb => (H1.out W hb).mono (by
        rintro e w' ⟨h | h, hb'⟩
        · exact absurd h.1 h0
        · exact ⟨h.2, hb'⟩))
    have hc := stErr_cases x l
    rw [decide_eq_false h0, Bool.false_and]
    clear H1
    generalize stErr x l = E at *
    rcases hc with rfl | rfl | rfl
    · exact absurd rfl h0
    all_goals
      clear h0
      go_enter Try.func29, Try.ntmps29
      go_wp2_with fail
      refine (H1'.out _ (by (repeat (first | exact Below.refl _ _ | refine Below.drew ?_ | refine Below.allocS ?_ _ | refine Below.step ?_ (by assumption) | refine Below.setCell ?_ (by simp <;> omega) _ | refine Below.drewN' ?_ _)))).mono ?_
      rintro e w1 ⟨rfl, hb1⟩
      have x1_0_0 : w1.cell? ⟨w.heap.size, 0, none⟩ = some (.slice x.A x.xs.length x.ca) := keep_cell hb1 (by simp [go_sem, *])
      have x1_0_1 : w1.cell? ⟨w.heap.size, 1, none⟩ = some (.int .i64 x.e) := keep_cell hb1 (by simp [go_sem, *])
      have y1_0 : w.heap.size < w1.heap.size := cell?_lt x1_0_0
      have g1 : Below w.heap.size w w1 := by (repeat (first | exact Below.refl _ _ | refine Below.drew ?_ | refine Below.allocS ?_ _ | refine Below.step ?_ (by assumption) | refine Below.setCell ?_ (by simp <;> omega) _ | refine Below.drewN' ?_ _))
      clear hb1
      go_wp2
      go_ret2
      exact ⟨rfl, by (repeat (first | exact Below.refl _ _ | refine Below.drew ?_ | refine Below.allocS ?_ _ | refine Below.step ?_ (by assumption) | refine Below.setCell ?_ (by simp <;> omega) _ | refine Below.drewN' ?_ _))⟩
end Go.Proofs.Ytbcabckokmjelaa
namespace Go.Proofs.Ytbcabckokmjelaa
open Go.RowKit
set_option linter.unusedVariables false
set_option linter.unusedSimpArgs false
/-- Bounds that say what a reach says. -/
structure RbAt (W : World) (P : Nat) (r : Rc) : Prop where
  c0 : W.cell? ⟨P, 0, none⟩ = some (.int .i64 r.lo.n)
  c1 : W.cell? ⟨P, 1, none⟩ = some (.int .i64 r.lo.d)
  c2 : W.cell? ⟨P, 2, none⟩ = some (.int .i64 r.hi.n)
  c3 : W.cell? ⟨P, 3, none⟩ = some (.int .i64 r.hi.d)
  c4 : W.cell? ⟨P, 4, none⟩ = some (.bool (decide (r.lo.d ≠ 0)))
  c5 : W.cell? ⟨P, 5, none⟩ = some (.bool (decide (r.hi.d ≠ 0)))
  c6 : W.cell? ⟨P, 6, none⟩ = some (.bool (!r.ok))
  f0 : W.frozen? ⟨P, 0, none⟩ = false
  f1 : W.frozen? ⟨P, 1, none⟩ = false
  f2 : W.frozen? ⟨P, 2, none⟩ = false
  f3 : W.frozen? ⟨P, 3, none⟩ = false
  f4 : W.frozen? ⟨P, 4, none⟩ = false
  f5 : W.frozen? ⟨P, 5, none⟩ = false
  f6 : W.frozen? ⟨P, 6, none⟩ = false
theorem RbAt.lt {W : World} {P : Nat} {r : Rc} (h : RbAt W P r) : P < W.heap.size := cell?_lt h.c0
theorem RbAt.step {W W' : World} {P : Nat} {r : Rc} (h : RbAt W P r) (hb : Below W.heap.size W W') : RbAt W' P r :=
  ⟨keep_cell hb h.c0, keep_cell hb h.c1, keep_cell hb h.c2, keep_cell hb h.c3, keep_cell hb h.c4, keep_cell hb h.c5, keep_cell hb h.c6, keep_frozen hb h.lt h.f0, keep_frozen hb h.lt h.f1, keep_frozen hb h.lt h.f2, keep_frozen hb h.lt h.f3, keep_frozen hb h.lt h.f4, keep_frozen hb h.lt h.f5, keep_frozen hb h.lt h.f6⟩
theorem RbAt.setLo {W : World} {P : Nat} {r : Rc} (h : RbAt W P r) (y : Fr) (hy : y.d ≠ 0) : RbAt (((W.setCell ⟨P, 0, none⟩ (.int .i64 y.n)).setCell ⟨P, 1, none⟩ (.int .i64 y.d)).setCell ⟨P, 4, none⟩ (.bool true)) P ⟨y, r.hi, r.ok⟩ := by
  obtain ⟨c0, c1, c2, c3, c4, c5, c6, f0, f1, f2, f3, f4, f5, f6⟩ := h
  refine ⟨?_, ?_, ?_, ?_, ?_, ?_, ?_, ?_, ?_, ?_, ?_, ?_, ?_, ?_⟩ <;> simp [go_sem, *]
theorem RbAt.setHi {W : World} {P : Nat} {r : Rc} (h : RbAt W P r) (y : Fr) (hy : y.d ≠ 0) : RbAt (((W.setCell ⟨P, 2, none⟩ (.int .i64 y.n)).setCell ⟨P, 3, none⟩ (.int .i64 y.d)).setCell ⟨P, 5, none⟩ (.bool true)) P ⟨r.lo, y, r.ok⟩ := by
  obtain ⟨c0, c1, c2, c3, c4, c5, c6, f0, f1, f2, f3, f4, f5, f6⟩ := h
  refine ⟨?_, ?_, ?_, ?_, ?_, ?_, ?_, ?_, ?_, ?_, ?_, ?_, ?_, ?_⟩ <;> simp [go_sem, *]
theorem RbAt.setOk {W : World} {P : Nat} {r : Rc} (h : RbAt W P r) (y : Bool) : RbAt (W.setCell ⟨P, 6, none⟩ (.bool (!y))) P ⟨r.lo, r.hi, y⟩ := by
  obtain ⟨c0, c1, c2, c3, c4, c5, c6, f0, f1, f2, f3, f4, f5, f6⟩ := h
  refine ⟨?_, ?_, ?_, ?_, ?_, ?_, ?_, ?_, ?_, ?_, ?_, ?_, ?_, ?_⟩ <;> simp [go_sem, *]
set_option maxHeartbeats 2000000 in
theorem hold_c (r : Rc) (P : Nat) (k n : Int) (W : World) (h : RbAt W P r) (hr : RcOk r) (hn : -10000000000000 ≤ n ∧ n ≤ 10000000000000) (hk : -100000 ≤ k ∧ k ≤ 100000) :
    Calls Try.prog 101 #[.pointer (some ⟨P, 0, none⟩), .int .i64 k, .int .i64 n] W fun e w' => (∃ u, e = .returned u) ∧ RbAt w' P (askR r (-n) (-k)) ∧ Exc P W w' := by
  have HR := Lib.hid h
  have y0 : P < W.heap.size := h.lt
  have v1 : IntKind.i64.wrap (-n) = -n := IntWalk.i64_in _ (by omega)
  have v2 : IntKind.i64.wrap (-k) = -k := IntWalk.i64_in _ (by omega)
  obtain ⟨c0, c1, c2, c3, c4, c5, c6, f0, f1, f2, f3, f4, f5, f6⟩ := h
  unfold askR
  rcases Int.lt_trichotomy k 0 with h1 | rfl | h1
  · have h1' : 0 < -k := by omega
    have hb : FrB ⟨-n, -k⟩ := ⟨by simp only; omega, by simp only; omega⟩
    have HL := Lib.hid (fun W => rless_c r.lo ⟨-n, -k⟩ hr.lo.b hb W)
    rw [if_pos h1']
    unfold overF keepG
    rw [if_neg (show ¬ -k < 0 by omega)]
    clear hn hk hr h1' hb
    unfold frV at HL
    have hg1 : decide (k = 0) = false := decide_eq_false (by omega)
    have hg2 : decide (0 < k) = false := decide_eq_false (by omega)
    have hg3 : ((k : Int) == 0) = false := by simp; omega
    have hg4 : ¬ 0 < k := by omega
    have hg5 : k ≠ 0 := by omega
    by_cases hd : r.lo.d = 0
    · rw [decide_eq_true hd, Bool.true_or, if_pos rfl]
      have hdd : decide (r.lo.d ≠ 0) = false := decide_eq_false (by simp [hd])
      rw [hdd] at c4
      go_enter Try.func101, Try.ntmps101
      go_wp2_with fail
      refine region_below (by kernel_rfl) (by kernel_rfl) ?_
      (first | go_big_quiet_skip | (go_big_quiet_want; refine quiet_val (v := ?_) ?_ ?_; rotate_left 1; (· (intro Wq hWq; obtain ⟨hWc, hWf⟩ := bcell hWq; go_simp; (try with_reducible rfl))); go_big_quiet_on; (try simp only [Act.put, List.setIfInBounds_toArray, List.set_cons_zero, List.set_cons_succ])))
      (first | go_big_quiet_skip | (go_big_quiet_want; refine quiet_val (v := ?_) ?_ ?_; rotate_left 1; (· (intro Wq hWq; obtain ⟨hWc, hWf⟩ := bcell hWq; go_simp; (try with_reducible rfl))); go_big_quiet_on; (try simp only [Act.put, List.setIfInBounds_toArray, List.set_cons_zero, List.set_cons_succ])))
      (first | go_big_quiet_skip | (go_big_quiet_want; refine quiet_val (v := ?_) ?_ ?_; rotate_left 1; (· (intro Wq hWq; obtain ⟨hWc, hWf⟩ := bcell hWq; go_simp; (try with_reducible rfl))); go_big_quiet_on; (try simp only [Act.put, List.setIfInBounds_toArray, List.set_cons_zero, List.set_cons_succ])))
      (first | go_big_quiet_skip | (go_big_quiet_want; refine quiet_val (v := ?_) ?_ ?_; rotate_left 1; (· (intro Wq hWq; obtain ⟨hWc, hWf⟩ := bcell hWq; go_simp; (try with_reducible rfl))); go_big_quiet_on; (try simp only [Act.put, List.setIfInBounds_toArray, List.set_cons_zero, List.set_cons_succ])))
      (first | go_big_quiet_skip | (go_big_quiet_want; refine quiet_val (v := ?_) ?_ ?_; rotate_left 1; (· (intro Wq hWq; obtain ⟨hWc, hWf⟩ := bcell hWq; go_simp; (try with_reducible rfl))); go_big_quiet_on; (try simp only [Act.put, List.setIfInBounds_toArray, List.set_cons_zero, List.set_cons_succ])))
      (first | go_big_quiet_skip | (go_big_quiet_want; refine quiet_val (v := ?_) ?_ ?_; rotate_left 1; (· (intro Wq hWq; obtain ⟨hWc, hWf⟩ := bcell hWq; go_simp; (try with_reducible rfl))); go_big_quiet_on; (try simp only [Act.put, List.setIfInBounds_toArray, List.set_cons_zero, List.set_cons_succ])))
      (first | go_big_quiet_skip | (go_big_quiet_want; refine quiet_val (v := ?_) ?_ ?_; rotate_left 1; (· (intro Wq hWq; obtain ⟨hWc, hWf⟩ := bcell hWq; go_simp; (try with_reducible rfl))); go_big_quiet_on; (try simp only [Act.put, List.setIfInBounds_toArray, List.set_cons_zero, List.set_cons_succ])))
      (first | go_big_quiet_skip | (go_big_quiet_want; refine quiet_val (v := ?_) ?_ ?_; rotate_left 1; (· (intro Wq hWq; obtain ⟨hWc, hWf⟩ := bcell hWq; go_simp; (try with_reducible rfl))); go_big_quiet_on; (try simp only [Act.put, List.setIfInBounds_toArray, List.set_cons_zero, List.set_cons_succ])))
      (first | go_big_quiet_skip | (go_big_quiet_want; refine quiet_val (v := ?_) ?_ ?_; rotate_left 1; (· (intro Wq hWq; obtain ⟨hWc, hWf⟩ := bcell hWq; go_simp; (try with_reducible rfl))); go_big_quiet_on; (try simp only [Act.put, List.setIfInBounds_toArray, List.set_cons_zero, List.set_cons_succ])))
      (first | go_big_quiet_skip | (go_big_quiet_want; refine quiet_val (v := ?_) ?_ ?_; rotate_left 1; (· (intro Wq hWq; obtain ⟨hWc, hWf⟩ := bcell hWq; go_simp; (try with_reducible rfl))); go_big_quiet_on; (try simp only [Act.put, List.setIfInBounds_toArray, List.set_cons_zero, List.set_cons_succ])))
      (first | go_big_quiet_skip | (go_big_quiet_want; refine quiet_val (v := ?_) ?_ ?_; rotate_left 1; (· (intro Wq hWq; obtain ⟨hWc, hWf⟩ := bcell hWq; go_simp; (try with_reducible rfl))); go_big_quiet_on; (try simp only [Act.put, List.setIfInBounds_toArray, List.set_cons_zero, List.set_cons_succ])))
      (first | go_big_quiet_skip | (go_big_quiet_want; refine quiet_val (v := ?_) ?_ ?_; rotate_left 1; (· (intro Wq hWq; obtain ⟨hWc, hWf⟩ := bcell hWq; go_simp; (try with_reducible rfl))); go_big_quiet_on; (try simp only [Act.put, List.setIfInBounds_toArray, List.set_cons_zero, List.set_cons_succ])))
      (first | go_big_quiet_skip | (go_big_quiet_want; refine quiet_val (v := ?_) ?_ ?_; rotate_left 1; (· (intro Wq hWq; obtain ⟨hWc, hWf⟩ := bcell hWq; go_simp; (try with_reducible rfl))); go_big_quiet_on; (try simp only [Act.put, List.setIfInBounds_toArray, List.set_cons_zero, List.set_cons_succ])))
      refine wpQuiet_nil ?_; intro w4 hb4
      have R4 := HR.out.step (Below.step (Below.allocS (Below.refl _ _) _) hb4)
      obtain ⟨d0, d1, d2, d3, d4, d5, d6, e0, e1, e2, e3, e4, e5, e6⟩ := R4
      have R4 := HR.out.step (Below.step (Below.allocS (Below.refl _ _) _) hb4)
      have p0 : w4.cell? ⟨W.heap.size, 0, none⟩ = some (.int .i64 (-n)) := keep_cell hb4 (by simp [go_sem])
      have p1 : w4.cell? ⟨W.heap.size, 1, none⟩ = some (.int .i64 (-k)) := keep_cell hb4 (by simp [go_sem])
      go_wp2
      go_end0
      exact ⟨⟨_, rfl⟩, R4.setLo ⟨-n, -k⟩ (by simp only; omega), (Exc.set (Exc.set (Exc.set (Exc.of_below (Below.step (Below.allocS (Below.refl _ _) _) hb4)) 0 _) 1 _) 4 _)⟩
    · rw [decide_eq_false hd, Bool.false_or]
      have hdd : decide (r.lo.d ≠ 0) = true := decide_eq_true hd
      rw [hdd] at c4
      cases hX : frLess r.lo ⟨-n, -k⟩
      · rw [hX] at HL
        rw [if_neg (by simp)]
        clear hX
        go_enter Try.func101, Try.ntmps101
        go_wp2_with fail
        refine region_below (by kernel_rfl) (by kernel_rfl) ?_
        (first | go_big_quiet_skip | (go_big_quiet_want; refine quiet_val (v := ?_) ?_ ?_; rotate_left 1; (· (intro Wq hWq; obtain ⟨hWc, hWf⟩ := bcell hWq; go_simp; (try with_reducible rfl))); go_big_quiet_on; (try simp only [Act.put, List.setIfInBounds_toArray, List.set_cons_zero, List.set_cons_succ])))
        (first | go_big_quiet_skip | (go_big_quiet_want; refine quiet_val (v := ?_) ?_ ?_; rotate_left 1; (· (intro Wq hWq; obtain ⟨hWc, hWf⟩ := bcell hWq; go_simp; (try with_reducible rfl))); go_big_quiet_on; (try simp only [Act.put, List.setIfInBounds_toArray, List.set_cons_zero, List.set_cons_succ])))
        (first | go_big_quiet_skip | (go_big_quiet_want; refine quiet_val (v := ?_) ?_ ?_; rotate_left 1; (· (intro Wq hWq; obtain ⟨hWc, hWf⟩ := bcell hWq; go_simp; (try with_reducible rfl))); go_big_quiet_on; (try simp only [Act.put, List.setIfInBounds_toArray, List.set_cons_zero, List.set_cons_succ])))
        (first | go_big_quiet_skip | (go_big_quiet_want; refine quiet_val (v := ?_) ?_ ?_; rotate_left 1; (· (intro Wq hWq; obtain ⟨hWc, hWf⟩ := bcell hWq; go_simp; (try with_reducible rfl))); go_big_quiet_on; (try simp only [Act.put, List.setIfInBounds_toArray, List.set_cons_zero, List.set_cons_succ])))
        (first | go_big_quiet_skip | (go_big_quiet_want; refine quiet_val (v := ?_) ?_ ?_; rotate_left 1; (· (intro Wq hWq; obtain ⟨hWc, hWf⟩ := bcell hWq; go_simp; (try with_reducible rfl))); go_big_quiet_on; (try simp only [Act.put, List.setIfInBounds_toArray, List.set_cons_zero, List.set_cons_succ])))
        (first | go_big_quiet_skip | (go_big_quiet_want; refine quiet_val (v := ?_) ?_ ?_; rotate_left 1; (· (intro Wq hWq; obtain ⟨hWc, hWf⟩ := bcell hWq; go_simp; (try with_reducible rfl))); go_big_quiet_on; (try simp only [Act.put, List.setIfInBounds_toArray, List.set_cons_zero, List.set_cons_succ])))
        (first | go_big_quiet_skip | (go_big_quiet_want; refine quiet_val (v := ?_) ?_ ?_; rotate_left 1; (· (intro Wq hWq; obtain ⟨hWc, hWf⟩ := bcell hWq; go_simp; (try with_reducible rfl))); go_big_quiet_on; (try simp only [Act.put, List.setIfInBounds_toArray, List.set_cons_zero, List.set_cons_succ])))
        (first | go_big_quiet_skip | (go_big_quiet_want; refine quiet_val (v := ?_) ?_ ?_; rotate_left 1; (· (intro Wq hWq; obtain ⟨hWc, hWf⟩ := bcell hWq; go_simp; (try with_reducible rfl))); go_big_quiet_on; (try simp only [Act.put, List.setIfInBounds_toArray, List.set_cons_zero, List.set_cons_succ])))
        (first | go_big_quiet_skip | (go_big_quiet_want; refine quiet_val (v := ?_) ?_ ?_; rotate_left 1; (· (intro Wq hWq; obtain ⟨hWc, hWf⟩ := bcell hWq; go_simp; (try with_reducible rfl))); go_big_quiet_on; (try simp only [Act.put, List.setIfInBounds_toArray, List.set_cons_zero, List.set_cons_succ])))
        (first | go_big_quiet_skip | (go_big_quiet_want; refine quiet_val (v := ?_) ?_ ?_; rotate_left 1; (· (intro Wq hWq; obtain ⟨hWc, hWf⟩ := bcell hWq; go_simp; (try with_reducible rfl))); go_big_quiet_on; (try simp only [Act.put, List.setIfInBounds_toArray, List.set_cons_zero, List.set_cons_succ])))
        (first | go_big_quiet_skip | (go_big_quiet_want; refine quiet_val (v := ?_) ?_ ?_; rotate_left 1; (· (intro Wq hWq; obtain ⟨hWc, hWf⟩ := bcell hWq; go_simp; (try with_reducible rfl))); go_big_quiet_on; (try simp only [Act.put, List.setIfInBounds_toArray, List.set_cons_zero, List.set_cons_succ])))
        go_big_quiet_want; refine quiet_callB (f := 113) (args := ?_) (v := ?_) ?_ ?_ ?_; rotate_left 2
        · (intro Wq hWq; obtain ⟨hWc, hWf⟩ := bcell hWq; go_simp; (first | with_reducible rfl | exact ⟨rfl, rfl⟩))
        · (intro Wq hWq; exact HL.out Wq)
        go_big_quiet_on; (try simp only [Act.put, List.setIfInBounds_toArray, List.set_cons_zero, List.set_cons_succ])
        (first | go_big_quiet_skip | (go_big_quiet_want; refine quiet_val (v := ?_) ?_ ?_; rotate_left 1; (· (intro Wq hWq; obtain ⟨hWc, hWf⟩ := bcell hWq; go_simp; (try with_reducible rfl))); go_big_quiet_on; (try simp only [Act.put, List.setIfInBounds_toArray, List.set_cons_zero, List.set_cons_succ])))
        refine wpQuiet_nil ?_; intro w4 hb4
        go_wp2
        go_end0
        exact ⟨⟨_, rfl⟩, HR.out.step (Below.step (Below.allocS (Below.refl _ _) _) hb4), Exc.of_below (Below.step (Below.allocS (Below.refl _ _) _) hb4)⟩
      · rw [hX] at HL
        rw [if_pos rfl]
        clear hX
        go_enter Try.func101, Try.ntmps101
        go_wp2_with fail
        refine region_below (by kernel_rfl) (by kernel_rfl) ?_
        (first | go_big_quiet_skip | (go_big_quiet_want; refine quiet_val (v := ?_) ?_ ?_; rotate_left 1; (· (intro Wq hWq; obtain ⟨hWc, hWf⟩ := bcell hWq; go_simp; (try with_reducible rfl))); go_big_quiet_on; (try simp only [Act.put, List.setIfInBounds_toArray, List.set_cons_zero, List.set_cons_succ])))
        (first | go_big_quiet_skip | (go_big_quiet_want; refine quiet_val (v := ?_) ?_ ?_; rotate_left 1; (· (intro Wq hWq; obtain ⟨hWc, hWf⟩ := bcell hWq; go_simp; (try with_reducible rfl))); go_big_quiet_on; (try simp only [Act.put, List.setIfInBounds_toArray, List.set_cons_zero, List.set_cons_succ])))
        (first | go_big_quiet_skip | (go_big_quiet_want; refine quiet_val (v := ?_) ?_ ?_; rotate_left 1; (· (intro Wq hWq; obtain ⟨hWc, hWf⟩ := bcell hWq; go_simp; (try with_reducible rfl))); go_big_quiet_on; (try simp only [Act.put, List.setIfInBounds_toArray, List.set_cons_zero, List.set_cons_succ])))
        (first | go_big_quiet_skip | (go_big_quiet_want; refine quiet_val (v := ?_) ?_ ?_; rotate_left 1; (· (intro Wq hWq; obtain ⟨hWc, hWf⟩ := bcell hWq; go_simp; (try with_reducible rfl))); go_big_quiet_on; (try simp only [Act.put, List.setIfInBounds_toArray, List.set_cons_zero, List.set_cons_succ])))
        (first | go_big_quiet_skip | (go_big_quiet_want; refine quiet_val (v := ?_) ?_ ?_; rotate_left 1; (· (intro Wq hWq; obtain ⟨hWc, hWf⟩ := bcell hWq; go_simp; (try with_reducible rfl))); go_big_quiet_on; (try simp only [Act.put, List.setIfInBounds_toArray, List.set_cons_zero, List.set_cons_succ])))
        (first | go_big_quiet_skip | (go_big_quiet_want; refine quiet_val (v := ?_) ?_ ?_; rotate_left 1; (· (intro Wq hWq; obtain ⟨hWc, hWf⟩ := bcell hWq; go_simp; (try with_reducible rfl))); go_big_quiet_on; (try simp only [Act.put, List.setIfInBounds_toArray, List.set_cons_zero, List.set_cons_succ])))
        (first | go_big_quiet_skip | (go_big_quiet_want; refine quiet_val (v := ?_) ?_ ?_; rotate_left 1; (· (intro Wq hWq; obtain ⟨hWc, hWf⟩ := bcell hWq; go_simp; (try with_reducible rfl))); go_big_quiet_on; (try simp only [Act.put, List.setIfInBounds_toArray, List.set_cons_zero, List.set_cons_succ])))
        (first | go_big_quiet_skip | (go_big_quiet_want; refine quiet_val (v := ?_) ?_ ?_; rotate_left 1; (· (intro Wq hWq; obtain ⟨hWc, hWf⟩ := bcell hWq; go_simp; (try with_reducible rfl))); go_big_quiet_on; (try simp only [Act.put, List.setIfInBounds_toArray, List.set_cons_zero, List.set_cons_succ])))
        (first | go_big_quiet_skip | (go_big_quiet_want; refine quiet_val (v := ?_) ?_ ?_; rotate_left 1; (· (intro Wq hWq; obtain ⟨hWc, hWf⟩ := bcell hWq; go_simp; (try with_reducible rfl))); go_big_quiet_on; (try simp only [Act.put, List.setIfInBounds_toArray, List.set_cons_zero, List.set_cons_succ])))
        (first | go_big_quiet_skip | (go_big_quiet_want; refine quiet_val (v := ?_) ?_ ?_; rotate_left 1; (· (intro Wq hWq; obtain ⟨hWc, hWf⟩ := bcell hWq; go_simp; (try with_reducible rfl))); go_big_quiet_on; (try simp only [Act.put, List.setIfInBounds_toArray, List.set_cons_zero, List.set_cons_succ])))
        (first | go_big_quiet_skip | (go_big_quiet_want; refine quiet_val (v := ?_) ?_ ?_; rotate_left 1; (· (intro Wq hWq; obtain ⟨hWc, hWf⟩ := bcell hWq; go_simp; (try with_reducible rfl))); go_big_quiet_on; (try simp only [Act.put, List.setIfInBounds_toArray, List.set_cons_zero, List.set_cons_succ])))
        go_big_quiet_want; refine quiet_callB (f := 113) (args := ?_) (v := ?_) ?_ ?_ ?_; rotate_left 2
        · (intro Wq hWq; obtain ⟨hWc, hWf⟩ := bcell hWq; go_simp; (first | with_reducible rfl | exact ⟨rfl, rfl⟩))
        · (intro Wq hWq; exact HL.out Wq)
        go_big_quiet_on; (try simp only [Act.put, List.setIfInBounds_toArray, List.set_cons_zero, List.set_cons_succ])
        (first | go_big_quiet_skip | (go_big_quiet_want; refine quiet_val (v := ?_) ?_ ?_; rotate_left 1; (· (intro Wq hWq; obtain ⟨hWc, hWf⟩ := bcell hWq; go_simp; (try with_reducible rfl))); go_big_quiet_on; (try simp only [Act.put, List.setIfInBounds_toArray, List.set_cons_zero, List.set_cons_succ])))
        refine wpQuiet_nil ?_; intro w4 hb4
        have R4 := HR.out.step (Below.step (Below.allocS (Below.refl _ _) _) hb4)
        obtain ⟨d0, d1, d2, d3, d4, d5, d6, e0, e1, e2, e3, e4, e5, e6⟩ := R4
        have R4 := HR.out.step (Below.step (Below.allocS (Below.refl _ _) _) hb4)
        have p0 : w4.cell? ⟨W.heap.size, 0, none⟩ = some (.int .i64 (-n)) := keep_cell hb4 (by simp [go_sem])
        have p1 : w4.cell? ⟨W.heap.size, 1, none⟩ = some (.int .i64 (-k)) := keep_cell hb4 (by simp [go_sem])
        go_wp2
        go_end0
        exact ⟨⟨_, rfl⟩, R4.setLo ⟨-n, -k⟩ (by simp only; omega), (Exc.set (Exc.set (Exc.set (Exc.of_below (Below.step (Below.allocS (Below.refl _ _) _) hb4)) 0 _) 1 _) 4 _)⟩
  · rw [if_neg (by omega), if_neg (by omega)]
    by_cases h3 : n < 0
    · rw [if_pos (by omega)]
      have hg := HR.out.setOk false
      go_enter Try.func101, Try.ntmps101
      cases ho : r.ok
      all_goals
        rw [ho] at c6
        go_wp2
        go_end0
        exact ⟨⟨_, rfl⟩, hg, Exc.set (Exc.refl _ _) 6 _⟩
    · rw [if_neg (by omega)]
      have hg := HR.out.setOk r.ok
      go_enter Try.func101, Try.ntmps101
      cases ho : r.ok
      all_goals
        rw [ho] at c6 hg
        go_wp2
        go_end0
        exact ⟨⟨_, rfl⟩, by obtain ⟨lo, hi, ok⟩ := r; simp only at ho; subst ho; exact hg, Exc.set (Exc.refl _ _) 6 _⟩
  · have h1' : ¬ 0 < -k := by omega
    have hb : FrB ⟨n, k⟩ := ⟨by simp only; omega, by simp only; omega⟩
    have HL := Lib.hid (fun W => rless_c ⟨n, k⟩ r.hi hb hr.hi.b W)
    rw [if_neg h1', if_pos (by omega)]
    unfold overF keepL
    rw [if_pos (show -k < 0 by omega), Int.neg_neg, Int.neg_neg]
    clear hn hk hr h1' hb
    unfold frV at HL
    have hg1 : decide (k = 0) = false := decide_eq_false (by omega)
    have hg3 : ((k : Int) == 0) = false := by simp; omega
    have hg5 : k ≠ 0 := by omega
    by_cases hd : r.hi.d = 0
    · rw [decide_eq_true hd, Bool.true_or, if_pos rfl]
      have hdd : decide (r.hi.d ≠ 0) = false := decide_eq_false (by simp [hd])
      rw [hdd] at c5
      go_enter Try.func101, Try.ntmps101
      go_wp2_with fail
      refine region_below (by kernel_rfl) (by kernel_rfl) ?_
      (first | go_big_quiet_skip | (go_big_quiet_want; refine quiet_val (v := ?_) ?_ ?_; rotate_left 1; (· (intro Wq hWq; obtain ⟨hWc, hWf⟩ := bcell hWq; go_simp; (try with_reducible rfl))); go_big_quiet_on; (try simp only [Act.put, List.setIfInBounds_toArray, List.set_cons_zero, List.set_cons_succ])))
      (first | go_big_quiet_skip | (go_big_quiet_want; refine quiet_val (v := ?_) ?_ ?_; rotate_left 1; (· (intro Wq hWq; obtain ⟨hWc, hWf⟩ := bcell hWq; go_simp; (try with_reducible rfl))); go_big_quiet_on; (try simp only [Act.put, List.setIfInBounds_toArray, List.set_cons_zero, List.set_cons_succ])))
      (first | go_big_quiet_skip | (go_big_quiet_want; refine quiet_val (v := ?_) ?_ ?_; rotate_left 1; (· (intro Wq hWq; obtain ⟨hWc, hWf⟩ := bcell hWq; go_simp; (try with_reducible rfl))); go_big_quiet_on; (try simp only [Act.put, List.setIfInBounds_toArray, List.set_cons_zero, List.set_cons_succ])))
      (first | go_big_quiet_skip | (go_big_quiet_want; refine quiet_val (v := ?_) ?_ ?_; rotate_left 1; (· (intro Wq hWq; obtain ⟨hWc, hWf⟩ := bcell hWq; go_simp; (try with_reducible rfl))); go_big_quiet_on; (try simp only [Act.put, List.setIfInBounds_toArray, List.set_cons_zero, List.set_cons_succ])))
      (first | go_big_quiet_skip | (go_big_quiet_want; refine quiet_val (v := ?_) ?_ ?_; rotate_left 1; (· (intro Wq hWq; obtain ⟨hWc, hWf⟩ := bcell hWq; go_simp; (try with_reducible rfl))); go_big_quiet_on; (try simp only [Act.put, List.setIfInBounds_toArray, List.set_cons_zero, List.set_cons_succ])))
      (first | go_big_quiet_skip | (go_big_quiet_want; refine quiet_val (v := ?_) ?_ ?_; rotate_left 1; (· (intro Wq hWq; obtain ⟨hWc, hWf⟩ := bcell hWq; go_simp; (try with_reducible rfl))); go_big_quiet_on; (try simp only [Act.put, List.setIfInBounds_toArray, List.set_cons_zero, List.set_cons_succ])))
      (first | go_big_quiet_skip | (go_big_quiet_want; refine quiet_val (v := ?_) ?_ ?_; rotate_left 1; (· (intro Wq hWq; obtain ⟨hWc, hWf⟩ := bcell hWq; go_simp; (try with_reducible rfl))); go_big_quiet_on; (try simp only [Act.put, List.setIfInBounds_toArray, List.set_cons_zero, List.set_cons_succ])))
      (first | go_big_quiet_skip | (go_big_quiet_want; refine quiet_val (v := ?_) ?_ ?_; rotate_left 1; (· (intro Wq hWq; obtain ⟨hWc, hWf⟩ := bcell hWq; go_simp; (try with_reducible rfl))); go_big_quiet_on; (try simp only [Act.put, List.setIfInBounds_toArray, List.set_cons_zero, List.set_cons_succ])))
      (first | go_big_quiet_skip | (go_big_quiet_want; refine quiet_val (v := ?_) ?_ ?_; rotate_left 1; (· (intro Wq hWq; obtain ⟨hWc, hWf⟩ := bcell hWq; go_simp; (try with_reducible rfl))); go_big_quiet_on; (try simp only [Act.put, List.setIfInBounds_toArray, List.set_cons_zero, List.set_cons_succ])))
      (first | go_big_quiet_skip | (go_big_quiet_want; refine quiet_val (v := ?_) ?_ ?_; rotate_left 1; (· (intro Wq hWq; obtain ⟨hWc, hWf⟩ := bcell hWq; go_simp; (try with_reducible rfl))); go_big_quiet_on; (try simp only [Act.put, List.setIfInBounds_toArray, List.set_cons_zero, List.set_cons_succ])))
      (first | go_big_quiet_skip | (go_big_quiet_want; refine quiet_val (v := ?_) ?_ ?_; rotate_left 1; (· (intro Wq hWq; obtain ⟨hWc, hWf⟩ := bcell hWq; go_simp; (try with_reducible rfl))); go_big_quiet_on; (try simp only [Act.put, List.setIfInBounds_toArray, List.set_cons_zero, List.set_cons_succ])))
      (first | go_big_quiet_skip | (go_big_quiet_want; refine quiet_val (v := ?_) ?_ ?_; rotate_left 1; (· (intro Wq hWq; obtain ⟨hWc, hWf⟩ := bcell hWq; go_simp; (try with_reducible rfl))); go_big_quiet_on; (try simp only [Act.put, List.setIfInBounds_toArray, List.set_cons_zero, List.set_cons_succ])))
      (first | go_big_quiet_skip | (go_big_quiet_want; refine quiet_val (v := ?_) ?_ ?_; rotate_left 1; (· (intro Wq hWq; obtain ⟨hWc, hWf⟩ := bcell hWq; go_simp; (try with_reducible rfl))); go_big_quiet_on; (try simp only [Act.put, List.setIfInBounds_toArray, List.set_cons_zero, List.set_cons_succ])))
      refine wpQuiet_nil ?_; intro w4 hb4
      have R4 := HR.out.step (Below.step (Below.allocS (Below.refl _ _) _) hb4)
      obtain ⟨d0, d1, d2, d3, d4, d5, d6, e0, e1, e2, e3, e4, e5, e6⟩ := R4
      have R4 := HR.out.step (Below.step (Below.allocS (Below.refl _ _) _) hb4)
      have p0 : w4.cell? ⟨W.heap.size, 0, none⟩ = some (.int .i64 n) := keep_cell hb4 (by simp [go_sem])
      have p1 : w4.cell? ⟨W.heap.size, 1, none⟩ = some (.int .i64 k) := keep_cell hb4 (by simp [go_sem])
      go_wp2
      go_end0
      exact ⟨⟨_, rfl⟩, R4.setHi ⟨n, k⟩ (by simp only; omega), (Exc.set (Exc.set (Exc.set (Exc.of_below (Below.step (Below.allocS (Below.refl _ _) _) hb4)) 2 _) 3 _) 5 _)⟩
    · rw [decide_eq_false hd, Bool.false_or]
      have hdd : decide (r.hi.d ≠ 0) = true := decide_eq_true hd
      rw [hdd] at c5
      cases hX : frLess ⟨n, k⟩ r.hi
      · rw [hX] at HL
        rw [if_neg (by simp)]
        clear hX
        go_enter Try.func101, Try.ntmps101
        go_wp2_with fail
        refine region_below (by kernel_rfl) (by kernel_rfl) ?_
        (first | go_big_quiet_skip | (go_big_quiet_want; refine quiet_val (v := ?_) ?_ ?_; rotate_left 1; (· (intro Wq hWq; obtain ⟨hWc, hWf⟩ := bcell hWq; go_simp; (try with_reducible rfl))); go_big_quiet_on; (try simp only [Act.put, List.setIfInBounds_toArray, List.set_cons_zero, List.set_cons_succ])))
        (first | go_big_quiet_skip | (go_big_quiet_want; refine quiet_val (v := ?_) ?_ ?_; rotate_left 1; (· (intro Wq hWq; obtain ⟨hWc, hWf⟩ := bcell hWq; go_simp; (try with_reducible rfl))); go_big_quiet_on; (try simp only [Act.put, List.setIfInBounds_toArray, List.set_cons_zero, List.set_cons_succ])))
        (first | go_big_quiet_skip | (go_big_quiet_want; refine quiet_val (v := ?_) ?_ ?_; rotate_left 1; (· (intro Wq hWq; obtain ⟨hWc, hWf⟩ := bcell hWq; go_simp; (try with_reducible rfl))); go_big_quiet_on; (try simp only [Act.put, List.setIfInBounds_toArray, List.set_cons_zero, List.set_cons_succ])))
        (first | go_big_quiet_skip | (go_big_quiet_want; refine quiet_val (v := ?_) ?_ ?_; rotate_left 1; (· (intro Wq hWq; obtain ⟨hWc, hWf⟩ := bcell hWq; go_simp; (try with_reducible rfl))); go_big_quiet_on; (try simp only [Act.put, List.setIfInBounds_toArray, List.set_cons_zero, List.set_cons_succ])))
        (first | go_big_quiet_skip | (go_big_quiet_want; refine quiet_val (v := ?_) ?_ ?_; rotate_left 1; (· (intro Wq hWq; obtain ⟨hWc, hWf⟩ := bcell hWq; go_simp; (try with_reducible rfl))); go_big_quiet_on; (try simp only [Act.put, List.setIfInBounds_toArray, List.set_cons_zero, List.set_cons_succ])))
        (first | go_big_quiet_skip | (go_big_quiet_want; refine quiet_val (v := ?_) ?_ ?_; rotate_left 1; (· (intro Wq hWq; obtain ⟨hWc, hWf⟩ := bcell hWq; go_simp; (try with_reducible rfl))); go_big_quiet_on; (try simp only [Act.put, List.setIfInBounds_toArray, List.set_cons_zero, List.set_cons_succ])))
        (first | go_big_quiet_skip | (go_big_quiet_want; refine quiet_val (v := ?_) ?_ ?_; rotate_left 1; (· (intro Wq hWq; obtain ⟨hWc, hWf⟩ := bcell hWq; go_simp; (try with_reducible rfl))); go_big_quiet_on; (try simp only [Act.put, List.setIfInBounds_toArray, List.set_cons_zero, List.set_cons_succ])))
        (first | go_big_quiet_skip | (go_big_quiet_want; refine quiet_val (v := ?_) ?_ ?_; rotate_left 1; (· (intro Wq hWq; obtain ⟨hWc, hWf⟩ := bcell hWq; go_simp; (try with_reducible rfl))); go_big_quiet_on; (try simp only [Act.put, List.setIfInBounds_toArray, List.set_cons_zero, List.set_cons_succ])))
        (first | go_big_quiet_skip | (go_big_quiet_want; refine quiet_val (v := ?_) ?_ ?_; rotate_left 1; (· (intro Wq hWq; obtain ⟨hWc, hWf⟩ := bcell hWq; go_simp; (try with_reducible rfl))); go_big_quiet_on; (try simp only [Act.put, List.setIfInBounds_toArray, List.set_cons_zero, List.set_cons_succ])))
        (first | go_big_quiet_skip | (go_big_quiet_want; refine quiet_val (v := ?_) ?_ ?_; rotate_left 1; (· (intro Wq hWq; obtain ⟨hWc, hWf⟩ := bcell hWq; go_simp; (try with_reducible rfl))); go_big_quiet_on; (try simp only [Act.put, List.setIfInBounds_toArray, List.set_cons_zero, List.set_cons_succ])))
        (first | go_big_quiet_skip | (go_big_quiet_want; refine quiet_val (v := ?_) ?_ ?_; rotate_left 1; (· (intro Wq hWq; obtain ⟨hWc, hWf⟩ := bcell hWq; go_simp; (try with_reducible rfl))); go_big_quiet_on; (try simp only [Act.put, List.setIfInBounds_toArray, List.set_cons_zero, List.set_cons_succ])))
        go_big_quiet_want; refine quiet_callB (f := 113) (args := ?_) (v := ?_) ?_ ?_ ?_; rotate_left 2
        · (intro Wq hWq; obtain ⟨hWc, hWf⟩ := bcell hWq; go_simp; (first | with_reducible rfl | exact ⟨rfl, rfl⟩))
        · (intro Wq hWq; exact HL.out Wq)
        go_big_quiet_on; (try simp only [Act.put, List.setIfInBounds_toArray, List.set_cons_zero, List.set_cons_succ])
        (first | go_big_quiet_skip | (go_big_quiet_want; refine quiet_val (v := ?_) ?_ ?_; rotate_left 1; (· (intro Wq hWq; obtain ⟨hWc, hWf⟩ := bcell hWq; go_simp; (try with_reducible rfl))); go_big_quiet_on; (try simp only [Act.put, List.setIfInBounds_toArray, List.set_cons_zero, List.set_cons_succ])))
        refine wpQuiet_nil ?_; intro w4 hb4
        go_wp2
        go_end0
        exact ⟨⟨_, rfl⟩, HR.out.step (Below.step (Below.allocS (Below.refl _ _) _) hb4), Exc.of_below (Below.step (Below.allocS (Below.refl _ _) _) hb4)⟩
      · rw [hX] at HL
        rw [if_pos rfl]
        clear hX
        go_enter Try.func101, Try.ntmps101
        go_wp2_with fail
        refine region_below (by kernel_rfl) (by kernel_rfl) ?_
        (first | go_big_quiet_skip | (go_big_quiet_want; refine quiet_val (v := ?_) ?_ ?_; rotate_left 1; (· (intro Wq hWq; obtain ⟨hWc, hWf⟩ := bcell hWq; go_simp; (try with_reducible rfl))); go_big_quiet_on; (try simp only [Act.put, List.setIfInBounds_toArray, List.set_cons_zero, List.set_cons_succ])))
        (first | go_big_quiet_skip | (go_big_quiet_want; refine quiet_val (v := ?_) ?_ ?_; rotate_left 1; (· (intro Wq hWq; obtain ⟨hWc, hWf⟩ := bcell hWq; go_simp; (try with_reducible rfl))); go_big_quiet_on; (try simp only [Act.put, List.setIfInBounds_toArray, List.set_cons_zero, List.set_cons_succ])))
        (first | go_big_quiet_skip | (go_big_quiet_want; refine quiet_val (v := ?_) ?_ ?_; rotate_left 1; (· (intro Wq hWq; obtain ⟨hWc, hWf⟩ := bcell hWq; go_simp; (try with_reducible rfl))); go_big_quiet_on; (try simp only [Act.put, List.setIfInBounds_toArray, List.set_cons_zero, List.set_cons_succ])))
        (first | go_big_quiet_skip | (go_big_quiet_want; refine quiet_val (v := ?_) ?_ ?_; rotate_left 1; (· (intro Wq hWq; obtain ⟨hWc, hWf⟩ := bcell hWq; go_simp; (try with_reducible rfl))); go_big_quiet_on; (try simp only [Act.put, List.setIfInBounds_toArray, List.set_cons_zero, List.set_cons_succ])))
        (first | go_big_quiet_skip | (go_big_quiet_want; refine quiet_val (v := ?_) ?_ ?_; rotate_left 1; (· (intro Wq hWq; obtain ⟨hWc, hWf⟩ := bcell hWq; go_simp; (try with_reducible rfl))); go_big_quiet_on; (try simp only [Act.put, List.setIfInBounds_toArray, List.set_cons_zero, List.set_cons_succ])))
        (first | go_big_quiet_skip | (go_big_quiet_want; refine quiet_val (v := ?_) ?_ ?_; rotate_left 1; (· (intro Wq hWq; obtain ⟨hWc, hWf⟩ := bcell hWq; go_simp; (try with_reducible rfl))); go_big_quiet_on; (try simp only [Act.put, List.setIfInBounds_toArray, List.set_cons_zero, List.set_cons_succ])))
        (first | go_big_quiet_skip | (go_big_quiet_want; refine quiet_val (v := ?_) ?_ ?_; rotate_left 1; (· (intro Wq hWq; obtain ⟨hWc, hWf⟩ := bcell hWq; go_simp; (try with_reducible rfl))); go_big_quiet_on; (try simp only [Act.put, List.setIfInBounds_toArray, List.set_cons_zero, List.set_cons_succ])))
        (first | go_big_quiet_skip | (go_big_quiet_want; refine quiet_val (v := ?_) ?_ ?_; rotate_left 1; (· (intro Wq hWq; obtain ⟨hWc, hWf⟩ := bcell hWq; go_simp; (try with_reducible rfl))); go_big_quiet_on; (try simp only [Act.put, List.setIfInBounds_toArray, List.set_cons_zero, List.set_cons_succ])))
        (first | go_big_quiet_skip | (go_big_quiet_want; refine quiet_val (v := ?_) ?_ ?_; rotate_left 1; (· (intro Wq hWq; obtain ⟨hWc, hWf⟩ := bcell hWq; go_simp; (try with_reducible rfl))); go_big_quiet_on; (try simp only [Act.put, List.setIfInBounds_toArray, List.set_cons_zero, List.set_cons_succ])))
        (first | go_big_quiet_skip | (go_big_quiet_want; refine quiet_val (v := ?_) ?_ ?_; rotate_left 1; (· (intro Wq hWq; obtain ⟨hWc, hWf⟩ := bcell hWq; go_simp; (try with_reducible rfl))); go_big_quiet_on; (try simp only [Act.put, List.setIfInBounds_toArray, List.set_cons_zero, List.set_cons_succ])))
        (first | go_big_quiet_skip | (go_big_quiet_want; refine quiet_val (v := ?_) ?_ ?_; rotate_left 1; (· (intro Wq hWq; obtain ⟨hWc, hWf⟩ := bcell hWq; go_simp; (try with_reducible rfl))); go_big_quiet_on; (try simp only [Act.put, List.setIfInBounds_toArray, List.set_cons_zero, List.set_cons_succ])))
        go_big_quiet_want; refine quiet_callB (f := 113) (args := ?_) (v := ?_) ?_ ?_ ?_; rotate_left 2
        · (intro Wq hWq; obtain ⟨hWc, hWf⟩ := bcell hWq; go_simp; (first | with_reducible rfl | exact ⟨rfl, rfl⟩))
        · (intro Wq hWq; exact HL.out Wq)
        go_big_quiet_on; (try simp only [Act.put, List.setIfInBounds_toArray, List.set_cons_zero, List.set_cons_succ])
        (first | go_big_quiet_skip | (go_big_quiet_want; refine quiet_val (v := ?_) ?_ ?_; rotate_left 1; (· (intro Wq hWq; obtain ⟨hWc, hWf⟩ := bcell hWq; go_simp; (try with_reducible rfl))); go_big_quiet_on; (try simp only [Act.put, List.setIfInBounds_toArray, List.set_cons_zero, List.set_cons_succ])))
        refine wpQuiet_nil ?_; intro w4 hb4
        have R4 := HR.out.step (Below.step (Below.allocS (Below.refl _ _) _) hb4)
        obtain ⟨d0, d1, d2, d3, d4, d5, d6, e0, e1, e2, e3, e4, e5, e6⟩ := R4
        have R4 := HR.out.step (Below.step (Below.allocS (Below.refl _ _) _) hb4)
        have p0 : w4.cell? ⟨W.heap.size, 0, none⟩ = some (.int .i64 n) := keep_cell hb4 (by simp [go_sem])
        have p1 : w4.cell? ⟨W.heap.size, 1, none⟩ = some (.int .i64 k) := keep_cell hb4 (by simp [go_sem])
        go_wp2
        go_end0
        exact ⟨⟨_, rfl⟩, R4.setHi ⟨n, k⟩ (by simp only; omega), (Exc.set (Exc.set (Exc.set (Exc.of_below (Below.step (Below.allocS (Below.refl _ _) _) hb4)) 2 _) 3 _) 5 _)⟩
end Go.Proofs.Ytbcabckokmjelaa
namespace Go.Proofs.Ytbcabckokmjelaa
open Go.RowKit
set_option linter.unusedVariables false
set_option linter.unusedSimpArgs false
structure Sn where
  d : Int
  s : Int
def snE (x : Sn) : List Value := [.int .i64 x.d, .int .i64 x.s]
def snSp (w : Int) (x : Sn) : Sp := ⟨x.s, x.d - w, x.d + w⟩
structure SnOk (x : Sn) : Prop where
  s : -10000 ≤ x.s ∧ x.s ≤ 10000
  d : -50000000 ≤ x.d ∧ x.d ≤ 50000000
theorem snSp_ok {x : Sn} (h : SnOk x) {w : Int} (hw : 0 ≤ w ∧ w ≤ 1000000) : SpOk (snSp w x) := by
  have := h.s; have := h.d
  exact ⟨h.s, by simp only [snSp]; omega, by simp only [snSp]; omega⟩
theorem snSp_all {l : List Sn} (h : ∀ x ∈ l, SnOk x) {w : Int} (hw : 0 ≤ w ∧ w ≤ 1000000) : ∀ x ∈ l.map (snSp w), SpOk x := by
  intro x hx
  obtain ⟨y, hy, rfl⟩ := List.mem_map.1 hx
  exact snSp_ok (h y hy) hw
set_option maxHeartbeats 1000000 in
theorem empty_c (r : Rc) (P : Nat) (W : World) (h : RbAt W P r) (hr : RcOk r) :
    Calls Try.prog 95 #[.pointer (some ⟨P, 0, none⟩)] W fun e w' => e = .returned (.bool (!agB r)) ∧ Below W.heap.size W w' := by
  have y0 : P < W.heap.size := h.lt
  have HL := Lib.hid (fun W => rless_c r.hi r.lo hr.hi.b hr.lo.b W)
  obtain ⟨c0, c1, c2, c3, c4, c5, c6, f0, f1, f2, f3, f4, f5, f6⟩ := h
  clear hr
  unfold agB
  unfold frV at HL
  generalize frLess r.hi r.lo = X at *
  cases ho : r.ok
  · rw [ho] at c6
    rw [Bool.not_false] at c6
    go_enter Try.func95, Try.ntmps95
    go_wp2_with fail
    refine region_below (by kernel_rfl) (by kernel_rfl) ?_
    (first | go_big_quiet_skip | (go_big_quiet_want; refine quiet_val (v := ?_) ?_ ?_; rotate_left 1; (· (intro Wq hWq; obtain ⟨hWc, hWf⟩ := bcell hWq; go_simp; (try with_reducible rfl))); go_big_quiet_on; (try simp only [Act.put, List.setIfInBounds_toArray, List.set_cons_zero, List.set_cons_succ])))
    (first | go_big_quiet_skip | (go_big_quiet_want; refine quiet_val (v := ?_) ?_ ?_; rotate_left 1; (· (intro Wq hWq; obtain ⟨hWc, hWf⟩ := bcell hWq; go_simp; (try with_reducible rfl))); go_big_quiet_on; (try simp only [Act.put, List.setIfInBounds_toArray, List.set_cons_zero, List.set_cons_succ])))
    (first | go_big_quiet_skip | (go_big_quiet_want; refine quiet_val (v := ?_) ?_ ?_; rotate_left 1; (· (intro Wq hWq; obtain ⟨hWc, hWf⟩ := bcell hWq; go_simp; (try with_reducible rfl))); go_big_quiet_on; (try simp only [Act.put, List.setIfInBounds_toArray, List.set_cons_zero, List.set_cons_succ])))
    (first | go_big_quiet_skip | (go_big_quiet_want; refine quiet_val (v := ?_) ?_ ?_; rotate_left 1; (· (intro Wq hWq; obtain ⟨hWc, hWf⟩ := bcell hWq; go_simp; (try with_reducible rfl))); go_big_quiet_on; (try simp only [Act.put, List.setIfInBounds_toArray, List.set_cons_zero, List.set_cons_succ])))
    (first | go_big_quiet_skip | (go_big_quiet_want; refine quiet_val (v := ?_) ?_ ?_; rotate_left 1; (· (intro Wq hWq; obtain ⟨hWc, hWf⟩ := bcell hWq; go_simp; (try with_reducible rfl))); go_big_quiet_on; (try simp only [Act.put, List.setIfInBounds_toArray, List.set_cons_zero, List.set_cons_succ])))
    (first | go_big_quiet_skip | (go_big_quiet_want; refine quiet_val (v := ?_) ?_ ?_; rotate_left 1; (· (intro Wq hWq; obtain ⟨hWc, hWf⟩ := bcell hWq; go_simp; (try with_reducible rfl))); go_big_quiet_on; (try simp only [Act.put, List.setIfInBounds_toArray, List.set_cons_zero, List.set_cons_succ])))
    (first | go_big_quiet_skip | (go_big_quiet_want; refine quiet_val (v := ?_) ?_ ?_; rotate_left 1; (· (intro Wq hWq; obtain ⟨hWc, hWf⟩ := bcell hWq; go_simp; (try with_reducible rfl))); go_big_quiet_on; (try simp only [Act.put, List.setIfInBounds_toArray, List.set_cons_zero, List.set_cons_succ])))
    (first | go_big_quiet_skip | (go_big_quiet_want; refine quiet_val (v := ?_) ?_ ?_; rotate_left 1; (· (intro Wq hWq; obtain ⟨hWc, hWf⟩ := bcell hWq; go_simp; (try with_reducible rfl))); go_big_quiet_on; (try simp only [Act.put, List.setIfInBounds_toArray, List.set_cons_zero, List.set_cons_succ])))
    (first | go_big_quiet_skip | (go_big_quiet_want; refine quiet_val (v := ?_) ?_ ?_; rotate_left 1; (· (intro Wq hWq; obtain ⟨hWc, hWf⟩ := bcell hWq; go_simp; (try with_reducible rfl))); go_big_quiet_on; (try simp only [Act.put, List.setIfInBounds_toArray, List.set_cons_zero, List.set_cons_succ])))
    (first | go_big_quiet_skip | (go_big_quiet_want; refine quiet_val (v := ?_) ?_ ?_; rotate_left 1; (· (intro Wq hWq; obtain ⟨hWc, hWf⟩ := bcell hWq; go_simp; (try with_reducible rfl))); go_big_quiet_on; (try simp only [Act.put, List.setIfInBounds_toArray, List.set_cons_zero, List.set_cons_succ])))
    (first | go_big_quiet_skip | (go_big_quiet_want; refine quiet_val (v := ?_) ?_ ?_; rotate_left 1; (· (intro Wq hWq; obtain ⟨hWc, hWf⟩ := bcell hWq; go_simp; (try with_reducible rfl))); go_big_quiet_on; (try simp only [Act.put, List.setIfInBounds_toArray, List.set_cons_zero, List.set_cons_succ])))
    (first | go_big_quiet_skip | (go_big_quiet_want; refine quiet_val (v := ?_) ?_ ?_; rotate_left 1; (· (intro Wq hWq; obtain ⟨hWc, hWf⟩ := bcell hWq; go_simp; (try with_reducible rfl))); go_big_quiet_on; (try simp only [Act.put, List.setIfInBounds_toArray, List.set_cons_zero, List.set_cons_succ])))
    (first | go_big_quiet_skip | (go_big_quiet_want; refine quiet_val (v := ?_) ?_ ?_; rotate_left 1; (· (intro Wq hWq; obtain ⟨hWc, hWf⟩ := bcell hWq; go_simp; (try with_reducible rfl))); go_big_quiet_on; (try simp only [Act.put, List.setIfInBounds_toArray, List.set_cons_zero, List.set_cons_succ])))
    (first | go_big_quiet_skip | (go_big_quiet_want; refine quiet_val (v := ?_) ?_ ?_; rotate_left 1; (· (intro Wq hWq; obtain ⟨hWc, hWf⟩ := bcell hWq; go_simp; (try with_reducible rfl))); go_big_quiet_on; (try simp only [Act.put, List.setIfInBounds_toArray, List.set_cons_zero, List.set_cons_succ])))
    (first | go_big_quiet_skip | (go_big_quiet_want; refine quiet_val (v := ?_) ?_ ?_; rotate_left 1; (· (intro Wq hWq; obtain ⟨hWc, hWf⟩ := bcell hWq; go_simp; (try with_reducible rfl))); go_big_quiet_on; (try simp only [Act.put, List.setIfInBounds_toArray, List.set_cons_zero, List.set_cons_succ])))
    (first | go_big_quiet_skip | (go_big_quiet_want; refine quiet_val (v := ?_) ?_ ?_; rotate_left 1; (· (intro Wq hWq; obtain ⟨hWc, hWf⟩ := bcell hWq; go_simp; (try with_reducible rfl))); go_big_quiet_on; (try simp only [Act.put, List.setIfInBounds_toArray, List.set_cons_zero, List.set_cons_succ])))
    (first | go_big_quiet_skip | (go_big_quiet_want; refine quiet_val (v := ?_) ?_ ?_; rotate_left 1; (· (intro Wq hWq; obtain ⟨hWc, hWf⟩ := bcell hWq; go_simp; (try with_reducible rfl))); go_big_quiet_on; (try simp only [Act.put, List.setIfInBounds_toArray, List.set_cons_zero, List.set_cons_succ])))
    (first | go_big_quiet_skip | (go_big_quiet_want; refine quiet_val (v := ?_) ?_ ?_; rotate_left 1; (· (intro Wq hWq; obtain ⟨hWc, hWf⟩ := bcell hWq; go_simp; (try with_reducible rfl))); go_big_quiet_on; (try simp only [Act.put, List.setIfInBounds_toArray, List.set_cons_zero, List.set_cons_succ])))
    (first | go_big_quiet_skip | (go_big_quiet_want; refine quiet_val (v := ?_) ?_ ?_; rotate_left 1; (· (intro Wq hWq; obtain ⟨hWc, hWf⟩ := bcell hWq; go_simp; (try with_reducible rfl))); go_big_quiet_on; (try simp only [Act.put, List.setIfInBounds_toArray, List.set_cons_zero, List.set_cons_succ])))
    (first | go_big_quiet_skip | (go_big_quiet_want; refine quiet_val (v := ?_) ?_ ?_; rotate_left 1; (· (intro Wq hWq; obtain ⟨hWc, hWf⟩ := bcell hWq; go_simp; (try with_reducible rfl))); go_big_quiet_on; (try simp only [Act.put, List.setIfInBounds_toArray, List.set_cons_zero, List.set_cons_succ])))
    (first | go_big_quiet_skip | (go_big_quiet_want; refine quiet_val (v := ?_) ?_ ?_; rotate_left 1; (· (intro Wq hWq; obtain ⟨hWc, hWf⟩ := bcell hWq; go_simp; (try with_reducible rfl))); go_big_quiet_on; (try simp only [Act.put, List.setIfInBounds_toArray, List.set_cons_zero, List.set_cons_succ])))
    (first | go_big_quiet_skip | (go_big_quiet_want; refine quiet_val (v := ?_) ?_ ?_; rotate_left 1; (· (intro Wq hWq; obtain ⟨hWc, hWf⟩ := bcell hWq; go_simp; (try with_reducible rfl))); go_big_quiet_on; (try simp only [Act.put, List.setIfInBounds_toArray, List.set_cons_zero, List.set_cons_succ])))
    (first | go_big_quiet_skip | (go_big_quiet_want; refine quiet_val (v := ?_) ?_ ?_; rotate_left 1; (· (intro Wq hWq; obtain ⟨hWc, hWf⟩ := bcell hWq; go_simp; (try with_reducible rfl))); go_big_quiet_on; (try simp only [Act.put, List.setIfInBounds_toArray, List.set_cons_zero, List.set_cons_succ])))
    (first | go_big_quiet_skip | (go_big_quiet_want; refine quiet_val (v := ?_) ?_ ?_; rotate_left 1; (· (intro Wq hWq; obtain ⟨hWc, hWf⟩ := bcell hWq; go_simp; (try with_reducible rfl))); go_big_quiet_on; (try simp only [Act.put, List.setIfInBounds_toArray, List.set_cons_zero, List.set_cons_succ])))
    (first | go_big_quiet_skip | (go_big_quiet_want; refine quiet_val (v := ?_) ?_ ?_; rotate_left 1; (· (intro Wq hWq; obtain ⟨hWc, hWf⟩ := bcell hWq; go_simp; (try with_reducible rfl))); go_big_quiet_on; (try simp only [Act.put, List.setIfInBounds_toArray, List.set_cons_zero, List.set_cons_succ])))
    (first | go_big_quiet_skip | (go_big_quiet_want; refine quiet_val (v := ?_) ?_ ?_; rotate_left 1; (· (intro Wq hWq; obtain ⟨hWc, hWf⟩ := bcell hWq; go_simp; (try with_reducible rfl))); go_big_quiet_on; (try simp only [Act.put, List.setIfInBounds_toArray, List.set_cons_zero, List.set_cons_succ])))
    (first | go_big_quiet_skip | (go_big_quiet_want; refine quiet_val (v := ?_) ?_ ?_; rotate_left 1; (· (intro Wq hWq; obtain ⟨hWc, hWf⟩ := bcell hWq; go_simp; (try with_reducible rfl))); go_big_quiet_on; (try simp only [Act.put, List.setIfInBounds_toArray, List.set_cons_zero, List.set_cons_succ])))
    (first | go_big_quiet_skip | (go_big_quiet_want; refine quiet_val (v := ?_) ?_ ?_; rotate_left 1; (· (intro Wq hWq; obtain ⟨hWc, hWf⟩ := bcell hWq; go_simp; (try with_reducible rfl))); go_big_quiet_on; (try simp only [Act.put, List.setIfInBounds_toArray, List.set_cons_zero, List.set_cons_succ])))
    refine wpQuiet_nil ?_; intro w4 hb4
    go_wp2
    go_ret
    exact ⟨rfl, hb4⟩
  rw [ho] at c6
  rw [Bool.not_true] at c6
  clear ho
  by_cases h1 : r.lo.d = 0
  · rw [decide_eq_false (show ¬ r.lo.d ≠ 0 by simp [h1])] at c4
    rw [decide_eq_true h1]
    clear h1
    go_enter Try.func95, Try.ntmps95
    go_wp2_with fail
    refine region_below (by kernel_rfl) (by kernel_rfl) ?_
    (first | go_big_quiet_skip | (go_big_quiet_want; refine quiet_val (v := ?_) ?_ ?_; rotate_left 1; (· (intro Wq hWq; obtain ⟨hWc, hWf⟩ := bcell hWq; go_simp; (try with_reducible rfl))); go_big_quiet_on; (try simp only [Act.put, List.setIfInBounds_toArray, List.set_cons_zero, List.set_cons_succ])))
    (first | go_big_quiet_skip | (go_big_quiet_want; refine quiet_val (v := ?_) ?_ ?_; rotate_left 1; (· (intro Wq hWq; obtain ⟨hWc, hWf⟩ := bcell hWq; go_simp; (try with_reducible rfl))); go_big_quiet_on; (try simp only [Act.put, List.setIfInBounds_toArray, List.set_cons_zero, List.set_cons_succ])))
    (first | go_big_quiet_skip | (go_big_quiet_want; refine quiet_val (v := ?_) ?_ ?_; rotate_left 1; (· (intro Wq hWq; obtain ⟨hWc, hWf⟩ := bcell hWq; go_simp; (try with_reducible rfl))); go_big_quiet_on; (try simp only [Act.put, List.setIfInBounds_toArray, List.set_cons_zero, List.set_cons_succ])))
    (first | go_big_quiet_skip | (go_big_quiet_want; refine quiet_val (v := ?_) ?_ ?_; rotate_left 1; (· (intro Wq hWq; obtain ⟨hWc, hWf⟩ := bcell hWq; go_simp; (try with_reducible rfl))); go_big_quiet_on; (try simp only [Act.put, List.setIfInBounds_toArray, List.set_cons_zero, List.set_cons_succ])))
    (first | go_big_quiet_skip | (go_big_quiet_want; refine quiet_val (v := ?_) ?_ ?_; rotate_left 1; (· (intro Wq hWq; obtain ⟨hWc, hWf⟩ := bcell hWq; go_simp; (try with_reducible rfl))); go_big_quiet_on; (try simp only [Act.put, List.setIfInBounds_toArray, List.set_cons_zero, List.set_cons_succ])))
    (first | go_big_quiet_skip | (go_big_quiet_want; refine quiet_val (v := ?_) ?_ ?_; rotate_left 1; (· (intro Wq hWq; obtain ⟨hWc, hWf⟩ := bcell hWq; go_simp; (try with_reducible rfl))); go_big_quiet_on; (try simp only [Act.put, List.setIfInBounds_toArray, List.set_cons_zero, List.set_cons_succ])))
    (first | go_big_quiet_skip | (go_big_quiet_want; refine quiet_val (v := ?_) ?_ ?_; rotate_left 1; (· (intro Wq hWq; obtain ⟨hWc, hWf⟩ := bcell hWq; go_simp; (try with_reducible rfl))); go_big_quiet_on; (try simp only [Act.put, List.setIfInBounds_toArray, List.set_cons_zero, List.set_cons_succ])))
    (first | go_big_quiet_skip | (go_big_quiet_want; refine quiet_val (v := ?_) ?_ ?_; rotate_left 1; (· (intro Wq hWq; obtain ⟨hWc, hWf⟩ := bcell hWq; go_simp; (try with_reducible rfl))); go_big_quiet_on; (try simp only [Act.put, List.setIfInBounds_toArray, List.set_cons_zero, List.set_cons_succ])))
    (first | go_big_quiet_skip | (go_big_quiet_want; refine quiet_val (v := ?_) ?_ ?_; rotate_left 1; (· (intro Wq hWq; obtain ⟨hWc, hWf⟩ := bcell hWq; go_simp; (try with_reducible rfl))); go_big_quiet_on; (try simp only [Act.put, List.setIfInBounds_toArray, List.set_cons_zero, List.set_cons_succ])))
    (first | go_big_quiet_skip | (go_big_quiet_want; refine quiet_val (v := ?_) ?_ ?_; rotate_left 1; (· (intro Wq hWq; obtain ⟨hWc, hWf⟩ := bcell hWq; go_simp; (try with_reducible rfl))); go_big_quiet_on; (try simp only [Act.put, List.setIfInBounds_toArray, List.set_cons_zero, List.set_cons_succ])))
    (first | go_big_quiet_skip | (go_big_quiet_want; refine quiet_val (v := ?_) ?_ ?_; rotate_left 1; (· (intro Wq hWq; obtain ⟨hWc, hWf⟩ := bcell hWq; go_simp; (try with_reducible rfl))); go_big_quiet_on; (try simp only [Act.put, List.setIfInBounds_toArray, List.set_cons_zero, List.set_cons_succ])))
    (first | go_big_quiet_skip | (go_big_quiet_want; refine quiet_val (v := ?_) ?_ ?_; rotate_left 1; (· (intro Wq hWq; obtain ⟨hWc, hWf⟩ := bcell hWq; go_simp; (try with_reducible rfl))); go_big_quiet_on; (try simp only [Act.put, List.setIfInBounds_toArray, List.set_cons_zero, List.set_cons_succ])))
    (first | go_big_quiet_skip | (go_big_quiet_want; refine quiet_val (v := ?_) ?_ ?_; rotate_left 1; (· (intro Wq hWq; obtain ⟨hWc, hWf⟩ := bcell hWq; go_simp; (try with_reducible rfl))); go_big_quiet_on; (try simp only [Act.put, List.setIfInBounds_toArray, List.set_cons_zero, List.set_cons_succ])))
    (first | go_big_quiet_skip | (go_big_quiet_want; refine quiet_val (v := ?_) ?_ ?_; rotate_left 1; (· (intro Wq hWq; obtain ⟨hWc, hWf⟩ := bcell hWq; go_simp; (try with_reducible rfl))); go_big_quiet_on; (try simp only [Act.put, List.setIfInBounds_toArray, List.set_cons_zero, List.set_cons_succ])))
    (first | go_big_quiet_skip | (go_big_quiet_want; refine quiet_val (v := ?_) ?_ ?_; rotate_left 1; (· (intro Wq hWq; obtain ⟨hWc, hWf⟩ := bcell hWq; go_simp; (try with_reducible rfl))); go_big_quiet_on; (try simp only [Act.put, List.setIfInBounds_toArray, List.set_cons_zero, List.set_cons_succ])))
    (first | go_big_quiet_skip | (go_big_quiet_want; refine quiet_val (v := ?_) ?_ ?_; rotate_left 1; (· (intro Wq hWq; obtain ⟨hWc, hWf⟩ := bcell hWq; go_simp; (try with_reducible rfl))); go_big_quiet_on; (try simp only [Act.put, List.setIfInBounds_toArray, List.set_cons_zero, List.set_cons_succ])))
    (first | go_big_quiet_skip | (go_big_quiet_want; refine quiet_val (v := ?_) ?_ ?_; rotate_left 1; (· (intro Wq hWq; obtain ⟨hWc, hWf⟩ := bcell hWq; go_simp; (try with_reducible rfl))); go_big_quiet_on; (try simp only [Act.put, List.setIfInBounds_toArray, List.set_cons_zero, List.set_cons_succ])))
    (first | go_big_quiet_skip | (go_big_quiet_want; refine quiet_val (v := ?_) ?_ ?_; rotate_left 1; (· (intro Wq hWq; obtain ⟨hWc, hWf⟩ := bcell hWq; go_simp; (try with_reducible rfl))); go_big_quiet_on; (try simp only [Act.put, List.setIfInBounds_toArray, List.set_cons_zero, List.set_cons_succ])))
    (first | go_big_quiet_skip | (go_big_quiet_want; refine quiet_val (v := ?_) ?_ ?_; rotate_left 1; (· (intro Wq hWq; obtain ⟨hWc, hWf⟩ := bcell hWq; go_simp; (try with_reducible rfl))); go_big_quiet_on; (try simp only [Act.put, List.setIfInBounds_toArray, List.set_cons_zero, List.set_cons_succ])))
    (first | go_big_quiet_skip | (go_big_quiet_want; refine quiet_val (v := ?_) ?_ ?_; rotate_left 1; (· (intro Wq hWq; obtain ⟨hWc, hWf⟩ := bcell hWq; go_simp; (try with_reducible rfl))); go_big_quiet_on; (try simp only [Act.put, List.setIfInBounds_toArray, List.set_cons_zero, List.set_cons_succ])))
    (first | go_big_quiet_skip | (go_big_quiet_want; refine quiet_val (v := ?_) ?_ ?_; rotate_left 1; (· (intro Wq hWq; obtain ⟨hWc, hWf⟩ := bcell hWq; go_simp; (try with_reducible rfl))); go_big_quiet_on; (try simp only [Act.put, List.setIfInBounds_toArray, List.set_cons_zero, List.set_cons_succ])))
    (first | go_big_quiet_skip | (go_big_quiet_want; refine quiet_val (v := ?_) ?_ ?_; rotate_left 1; (· (intro Wq hWq; obtain ⟨hWc, hWf⟩ := bcell hWq; go_simp; (try with_reducible rfl))); go_big_quiet_on; (try simp only [Act.put, List.setIfInBounds_toArray, List.set_cons_zero, List.set_cons_succ])))
    (first | go_big_quiet_skip | (go_big_quiet_want; refine quiet_val (v := ?_) ?_ ?_; rotate_left 1; (· (intro Wq hWq; obtain ⟨hWc, hWf⟩ := bcell hWq; go_simp; (try with_reducible rfl))); go_big_quiet_on; (try simp only [Act.put, List.setIfInBounds_toArray, List.set_cons_zero, List.set_cons_succ])))
    (first | go_big_quiet_skip | (go_big_quiet_want; refine quiet_val (v := ?_) ?_ ?_; rotate_left 1; (· (intro Wq hWq; obtain ⟨hWc, hWf⟩ := bcell hWq; go_simp; (try with_reducible rfl))); go_big_quiet_on; (try simp only [Act.put, List.setIfInBounds_toArray, List.set_cons_zero, List.set_cons_succ])))
    (first | go_big_quiet_skip | (go_big_quiet_want; refine quiet_val (v := ?_) ?_ ?_; rotate_left 1; (· (intro Wq hWq; obtain ⟨hWc, hWf⟩ := bcell hWq; go_simp; (try with_reducible rfl))); go_big_quiet_on; (try simp only [Act.put, List.setIfInBounds_toArray, List.set_cons_zero, List.set_cons_succ])))
    (first | go_big_quiet_skip | (go_big_quiet_want; refine quiet_val (v := ?_) ?_ ?_; rotate_left 1; (· (intro Wq hWq; obtain ⟨hWc, hWf⟩ := bcell hWq; go_simp; (try with_reducible rfl))); go_big_quiet_on; (try simp only [Act.put, List.setIfInBounds_toArray, List.set_cons_zero, List.set_cons_succ])))
    (first | go_big_quiet_skip | (go_big_quiet_want; refine quiet_val (v := ?_) ?_ ?_; rotate_left 1; (· (intro Wq hWq; obtain ⟨hWc, hWf⟩ := bcell hWq; go_simp; (try with_reducible rfl))); go_big_quiet_on; (try simp only [Act.put, List.setIfInBounds_toArray, List.set_cons_zero, List.set_cons_succ])))
    (first | go_big_quiet_skip | (go_big_quiet_want; refine quiet_val (v := ?_) ?_ ?_; rotate_left 1; (· (intro Wq hWq; obtain ⟨hWc, hWf⟩ := bcell hWq; go_simp; (try with_reducible rfl))); go_big_quiet_on; (try simp only [Act.put, List.setIfInBounds_toArray, List.set_cons_zero, List.set_cons_succ])))
    refine wpQuiet_nil ?_; intro w4 hb4
    go_wp2
    go_ret
    exact ⟨rfl, hb4⟩
  rw [decide_eq_true (show r.lo.d ≠ 0 from h1)] at c4
  rw [decide_eq_false h1]
  clear h1
  by_cases h2 : r.hi.d = 0
  · rw [decide_eq_false (show ¬ r.hi.d ≠ 0 by simp [h2])] at c5
    rw [decide_eq_true h2]
    clear h2
    go_enter Try.func95, Try.ntmps95
    go_wp2_with fail
    refine region_below (by kernel_rfl) (by kernel_rfl) ?_
    (first | go_big_quiet_skip | (go_big_quiet_want; refine quiet_val (v := ?_) ?_ ?_; rotate_left 1; (· (intro Wq hWq; obtain ⟨hWc, hWf⟩ := bcell hWq; go_simp; (try with_reducible rfl))); go_big_quiet_on; (try simp only [Act.put, List.setIfInBounds_toArray, List.set_cons_zero, List.set_cons_succ])))
    (first | go_big_quiet_skip | (go_big_quiet_want; refine quiet_val (v := ?_) ?_ ?_; rotate_left 1; (· (intro Wq hWq; obtain ⟨hWc, hWf⟩ := bcell hWq; go_simp; (try with_reducible rfl))); go_big_quiet_on; (try simp only [Act.put, List.setIfInBounds_toArray, List.set_cons_zero, List.set_cons_succ])))
    (first | go_big_quiet_skip | (go_big_quiet_want; refine quiet_val (v := ?_) ?_ ?_; rotate_left 1; (· (intro Wq hWq; obtain ⟨hWc, hWf⟩ := bcell hWq; go_simp; (try with_reducible rfl))); go_big_quiet_on; (try simp only [Act.put, List.setIfInBounds_toArray, List.set_cons_zero, List.set_cons_succ])))
    (first | go_big_quiet_skip | (go_big_quiet_want; refine quiet_val (v := ?_) ?_ ?_; rotate_left 1; (· (intro Wq hWq; obtain ⟨hWc, hWf⟩ := bcell hWq; go_simp; (try with_reducible rfl))); go_big_quiet_on; (try simp only [Act.put, List.setIfInBounds_toArray, List.set_cons_zero, List.set_cons_succ])))
    (first | go_big_quiet_skip | (go_big_quiet_want; refine quiet_val (v := ?_) ?_ ?_; rotate_left 1; (· (intro Wq hWq; obtain ⟨hWc, hWf⟩ := bcell hWq; go_simp; (try with_reducible rfl))); go_big_quiet_on; (try simp only [Act.put, List.setIfInBounds_toArray, List.set_cons_zero, List.set_cons_succ])))
    (first | go_big_quiet_skip | (go_big_quiet_want; refine quiet_val (v := ?_) ?_ ?_; rotate_left 1; (· (intro Wq hWq; obtain ⟨hWc, hWf⟩ := bcell hWq; go_simp; (try with_reducible rfl))); go_big_quiet_on; (try simp only [Act.put, List.setIfInBounds_toArray, List.set_cons_zero, List.set_cons_succ])))
    (first | go_big_quiet_skip | (go_big_quiet_want; refine quiet_val (v := ?_) ?_ ?_; rotate_left 1; (· (intro Wq hWq; obtain ⟨hWc, hWf⟩ := bcell hWq; go_simp; (try with_reducible rfl))); go_big_quiet_on; (try simp only [Act.put, List.setIfInBounds_toArray, List.set_cons_zero, List.set_cons_succ])))
    (first | go_big_quiet_skip | (go_big_quiet_want; refine quiet_val (v := ?_) ?_ ?_; rotate_left 1; (· (intro Wq hWq; obtain ⟨hWc, hWf⟩ := bcell hWq; go_simp; (try with_reducible rfl))); go_big_quiet_on; (try simp only [Act.put, List.setIfInBounds_toArray, List.set_cons_zero, List.set_cons_succ])))
    (first | go_big_quiet_skip | (go_big_quiet_want; refine quiet_val (v := ?_) ?_ ?_; rotate_left 1; (· (intro Wq hWq; obtain ⟨hWc, hWf⟩ := bcell hWq; go_simp; (try with_reducible rfl))); go_big_quiet_on; (try simp only [Act.put, List.setIfInBounds_toArray, List.set_cons_zero, List.set_cons_succ])))
    (first | go_big_quiet_skip | (go_big_quiet_want; refine quiet_val (v := ?_) ?_ ?_; rotate_left 1; (· (intro Wq hWq; obtain ⟨hWc, hWf⟩ := bcell hWq; go_simp; (try with_reducible rfl))); go_big_quiet_on; (try simp only [Act.put, List.setIfInBounds_toArray, List.set_cons_zero, List.set_cons_succ])))
    (first | go_big_quiet_skip | (go_big_quiet_want; refine quiet_val (v := ?_) ?_ ?_; rotate_left 1; (· (intro Wq hWq; obtain ⟨hWc, hWf⟩ := bcell hWq; go_simp; (try with_reducible rfl))); go_big_quiet_on; (try simp only [Act.put, List.setIfInBounds_toArray, List.set_cons_zero, List.set_cons_succ])))
    (first | go_big_quiet_skip | (go_big_quiet_want; refine quiet_val (v := ?_) ?_ ?_; rotate_left 1; (· (intro Wq hWq; obtain ⟨hWc, hWf⟩ := bcell hWq; go_simp; (try with_reducible rfl))); go_big_quiet_on; (try simp only [Act.put, List.setIfInBounds_toArray, List.set_cons_zero, List.set_cons_succ])))
    (first | go_big_quiet_skip | (go_big_quiet_want; refine quiet_val (v := ?_) ?_ ?_; rotate_left 1; (· (intro Wq hWq; obtain ⟨hWc, hWf⟩ := bcell hWq; go_simp; (try with_reducible rfl))); go_big_quiet_on; (try simp only [Act.put, List.setIfInBounds_toArray, List.set_cons_zero, List.set_cons_succ])))
    (first | go_big_quiet_skip | (go_big_quiet_want; refine quiet_val (v := ?_) ?_ ?_; rotate_left 1; (· (intro Wq hWq; obtain ⟨hWc, hWf⟩ := bcell hWq; go_simp; (try with_reducible rfl))); go_big_quiet_on; (try simp only [Act.put, List.setIfInBounds_toArray, List.set_cons_zero, List.set_cons_succ])))
    (first | go_big_quiet_skip | (go_big_quiet_want; refine quiet_val (v := ?_) ?_ ?_; rotate_left 1; (· (intro Wq hWq; obtain ⟨hWc, hWf⟩ := bcell hWq; go_simp; (try with_reducible rfl))); go_big_quiet_on; (try simp only [Act.put, List.setIfInBounds_toArray, List.set_cons_zero, List.set_cons_succ])))
    (first | go_big_quiet_skip | (go_big_quiet_want; refine quiet_val (v := ?_) ?_ ?_; rotate_left 1; (· (intro Wq hWq; obtain ⟨hWc, hWf⟩ := bcell hWq; go_simp; (try with_reducible rfl))); go_big_quiet_on; (try simp only [Act.put, List.setIfInBounds_toArray, List.set_cons_zero, List.set_cons_succ])))
    (first | go_big_quiet_skip | (go_big_quiet_want; refine quiet_val (v := ?_) ?_ ?_; rotate_left 1; (· (intro Wq hWq; obtain ⟨hWc, hWf⟩ := bcell hWq; go_simp; (try with_reducible rfl))); go_big_quiet_on; (try simp only [Act.put, List.setIfInBounds_toArray, List.set_cons_zero, List.set_cons_succ])))
    (first | go_big_quiet_skip | (go_big_quiet_want; refine quiet_val (v := ?_) ?_ ?_; rotate_left 1; (· (intro Wq hWq; obtain ⟨hWc, hWf⟩ := bcell hWq; go_simp; (try with_reducible rfl))); go_big_quiet_on; (try simp only [Act.put, List.setIfInBounds_toArray, List.set_cons_zero, List.set_cons_succ])))
    (first | go_big_quiet_skip | (go_big_quiet_want; refine quiet_val (v := ?_) ?_ ?_; rotate_left 1; (· (intro Wq hWq; obtain ⟨hWc, hWf⟩ := bcell hWq; go_simp; (try with_reducible rfl))); go_big_quiet_on; (try simp only [Act.put, List.setIfInBounds_toArray, List.set_cons_zero, List.set_cons_succ])))
    (first | go_big_quiet_skip | (go_big_quiet_want; refine quiet_val (v := ?_) ?_ ?_; rotate_left 1; (· (intro Wq hWq; obtain ⟨hWc, hWf⟩ := bcell hWq; go_simp; (try with_reducible rfl))); go_big_quiet_on; (try simp only [Act.put, List.setIfInBounds_toArray, List.set_cons_zero, List.set_cons_succ])))
    (first | go_big_quiet_skip | (go_big_quiet_want; refine quiet_val (v := ?_) ?_ ?_; rotate_left 1; (· (intro Wq hWq; obtain ⟨hWc, hWf⟩ := bcell hWq; go_simp; (try with_reducible rfl))); go_big_quiet_on; (try simp only [Act.put, List.setIfInBounds_toArray, List.set_cons_zero, List.set_cons_succ])))
    (first | go_big_quiet_skip | (go_big_quiet_want; refine quiet_val (v := ?_) ?_ ?_; rotate_left 1; (· (intro Wq hWq; obtain ⟨hWc, hWf⟩ := bcell hWq; go_simp; (try with_reducible rfl))); go_big_quiet_on; (try simp only [Act.put, List.setIfInBounds_toArray, List.set_cons_zero, List.set_cons_succ])))
    (first | go_big_quiet_skip | (go_big_quiet_want; refine quiet_val (v := ?_) ?_ ?_; rotate_left 1; (· (intro Wq hWq; obtain ⟨hWc, hWf⟩ := bcell hWq; go_simp; (try with_reducible rfl))); go_big_quiet_on; (try simp only [Act.put, List.setIfInBounds_toArray, List.set_cons_zero, List.set_cons_succ])))
    (first | go_big_quiet_skip | (go_big_quiet_want; refine quiet_val (v := ?_) ?_ ?_; rotate_left 1; (· (intro Wq hWq; obtain ⟨hWc, hWf⟩ := bcell hWq; go_simp; (try with_reducible rfl))); go_big_quiet_on; (try simp only [Act.put, List.setIfInBounds_toArray, List.set_cons_zero, List.set_cons_succ])))
    (first | go_big_quiet_skip | (go_big_quiet_want; refine quiet_val (v := ?_) ?_ ?_; rotate_left 1; (· (intro Wq hWq; obtain ⟨hWc, hWf⟩ := bcell hWq; go_simp; (try with_reducible rfl))); go_big_quiet_on; (try simp only [Act.put, List.setIfInBounds_toArray, List.set_cons_zero, List.set_cons_succ])))
    (first | go_big_quiet_skip | (go_big_quiet_want; refine quiet_val (v := ?_) ?_ ?_; rotate_left 1; (· (intro Wq hWq; obtain ⟨hWc, hWf⟩ := bcell hWq; go_simp; (try with_reducible rfl))); go_big_quiet_on; (try simp only [Act.put, List.setIfInBounds_toArray, List.set_cons_zero, List.set_cons_succ])))
    (first | go_big_quiet_skip | (go_big_quiet_want; refine quiet_val (v := ?_) ?_ ?_; rotate_left 1; (· (intro Wq hWq; obtain ⟨hWc, hWf⟩ := bcell hWq; go_simp; (try with_reducible rfl))); go_big_quiet_on; (try simp only [Act.put, List.setIfInBounds_toArray, List.set_cons_zero, List.set_cons_succ])))
    (first | go_big_quiet_skip | (go_big_quiet_want; refine quiet_val (v := ?_) ?_ ?_; rotate_left 1; (· (intro Wq hWq; obtain ⟨hWc, hWf⟩ := bcell hWq; go_simp; (try with_reducible rfl))); go_big_quiet_on; (try simp only [Act.put, List.setIfInBounds_toArray, List.set_cons_zero, List.set_cons_succ])))
    refine wpQuiet_nil ?_; intro w4 hb4
    go_wp2
    go_ret
    exact ⟨rfl, hb4⟩
  rw [decide_eq_true (show r.hi.d ≠ 0 from h2)] at c5
  rw [decide_eq_false h2]
  clear h2
  go_enter Try.func95, Try.ntmps95
  go_wp2_with fail
  refine region_below (by kernel_rfl) (by kernel_rfl) ?_
  (first | go_big_quiet_skip | (go_big_quiet_want; refine quiet_val (v := ?_) ?_ ?_; rotate_left 1; (· (intro Wq hWq; obtain ⟨hWc, hWf⟩ := bcell hWq; go_simp; (try with_reducible rfl))); go_big_quiet_on; (try simp only [Act.put, List.setIfInBounds_toArray, List.set_cons_zero, List.set_cons_succ])))
  (first | go_big_quiet_skip | (go_big_quiet_want; refine quiet_val (v := ?_) ?_ ?_; rotate_left 1; (· (intro Wq hWq; obtain ⟨hWc, hWf⟩ := bcell hWq; go_simp; (try with_reducible rfl))); go_big_quiet_on; (try simp only [Act.put, List.setIfInBounds_toArray, List.set_cons_zero, List.set_cons_succ])))
  (first | go_big_quiet_skip | (go_big_quiet_want; refine quiet_val (v := ?_) ?_ ?_; rotate_left 1; (· (intro Wq hWq; obtain ⟨hWc, hWf⟩ := bcell hWq; go_simp; (try with_reducible rfl))); go_big_quiet_on; (try simp only [Act.put, List.setIfInBounds_toArray, List.set_cons_zero, List.set_cons_succ])))
  (first | go_big_quiet_skip | (go_big_quiet_want; refine quiet_val (v := ?_) ?_ ?_; rotate_left 1; (· (intro Wq hWq; obtain ⟨hWc, hWf⟩ := bcell hWq; go_simp; (try with_reducible rfl))); go_big_quiet_on; (try simp only [Act.put, List.setIfInBounds_toArray, List.set_cons_zero, List.set_cons_succ])))
  (first | go_big_quiet_skip | (go_big_quiet_want; refine quiet_val (v := ?_) ?_ ?_; rotate_left 1; (· (intro Wq hWq; obtain ⟨hWc, hWf⟩ := bcell hWq; go_simp; (try with_reducible rfl))); go_big_quiet_on; (try simp only [Act.put, List.setIfInBounds_toArray, List.set_cons_zero, List.set_cons_succ])))
  (first | go_big_quiet_skip | (go_big_quiet_want; refine quiet_val (v := ?_) ?_ ?_; rotate_left 1; (· (intro Wq hWq; obtain ⟨hWc, hWf⟩ := bcell hWq; go_simp; (try with_reducible rfl))); go_big_quiet_on; (try simp only [Act.put, List.setIfInBounds_toArray, List.set_cons_zero, List.set_cons_succ])))
  (first | go_big_quiet_skip | (go_big_quiet_want; refine quiet_val (v := ?_) ?_ ?_; rotate_left 1; (· (intro Wq hWq; obtain ⟨hWc, hWf⟩ := bcell hWq; go_simp; (try with_reducible rfl))); go_big_quiet_on; (try simp only [Act.put, List.setIfInBounds_toArray, List.set_cons_zero, List.set_cons_succ])))
  (first | go_big_quiet_skip | (go_big_quiet_want; refine quiet_val (v := ?_) ?_ ?_; rotate_left 1; (· (intro Wq hWq; obtain ⟨hWc, hWf⟩ := bcell hWq; go_simp; (try with_reducible rfl))); go_big_quiet_on; (try simp only [Act.put, List.setIfInBounds_toArray, List.set_cons_zero, List.set_cons_succ])))
  (first | go_big_quiet_skip | (go_big_quiet_want; refine quiet_val (v := ?_) ?_ ?_; rotate_left 1; (· (intro Wq hWq; obtain ⟨hWc, hWf⟩ := bcell hWq; go_simp; (try with_reducible rfl))); go_big_quiet_on; (try simp only [Act.put, List.setIfInBounds_toArray, List.set_cons_zero, List.set_cons_succ])))
  (first | go_big_quiet_skip | (go_big_quiet_want; refine quiet_val (v := ?_) ?_ ?_; rotate_left 1; (· (intro Wq hWq; obtain ⟨hWc, hWf⟩ := bcell hWq; go_simp; (try with_reducible rfl))); go_big_quiet_on; (try simp only [Act.put, List.setIfInBounds_toArray, List.set_cons_zero, List.set_cons_succ])))
  (first | go_big_quiet_skip | (go_big_quiet_want; refine quiet_val (v := ?_) ?_ ?_; rotate_left 1; (· (intro Wq hWq; obtain ⟨hWc, hWf⟩ := bcell hWq; go_simp; (try with_reducible rfl))); go_big_quiet_on; (try simp only [Act.put, List.setIfInBounds_toArray, List.set_cons_zero, List.set_cons_succ])))
  (first | go_big_quiet_skip | (go_big_quiet_want; refine quiet_val (v := ?_) ?_ ?_; rotate_left 1; (· (intro Wq hWq; obtain ⟨hWc, hWf⟩ := bcell hWq; go_simp; (try with_reducible rfl))); go_big_quiet_on; (try simp only [Act.put, List.setIfInBounds_toArray, List.set_cons_zero, List.set_cons_succ])))
  (first | go_big_quiet_skip | (go_big_quiet_want; refine quiet_val (v := ?_) ?_ ?_; rotate_left 1; (· (intro Wq hWq; obtain ⟨hWc, hWf⟩ := bcell hWq; go_simp; (try with_reducible rfl))); go_big_quiet_on; (try simp only [Act.put, List.setIfInBounds_toArray, List.set_cons_zero, List.set_cons_succ])))
  (first | go_big_quiet_skip | (go_big_quiet_want; refine quiet_val (v := ?_) ?_ ?_; rotate_left 1; (· (intro Wq hWq; obtain ⟨hWc, hWf⟩ := bcell hWq; go_simp; (try with_reducible rfl))); go_big_quiet_on; (try simp only [Act.put, List.setIfInBounds_toArray, List.set_cons_zero, List.set_cons_succ])))
  (first | go_big_quiet_skip | (go_big_quiet_want; refine quiet_val (v := ?_) ?_ ?_; rotate_left 1; (· (intro Wq hWq; obtain ⟨hWc, hWf⟩ := bcell hWq; go_simp; (try with_reducible rfl))); go_big_quiet_on; (try simp only [Act.put, List.setIfInBounds_toArray, List.set_cons_zero, List.set_cons_succ])))
  (first | go_big_quiet_skip | (go_big_quiet_want; refine quiet_val (v := ?_) ?_ ?_; rotate_left 1; (· (intro Wq hWq; obtain ⟨hWc, hWf⟩ := bcell hWq; go_simp; (try with_reducible rfl))); go_big_quiet_on; (try simp only [Act.put, List.setIfInBounds_toArray, List.set_cons_zero, List.set_cons_succ])))
  (first | go_big_quiet_skip | (go_big_quiet_want; refine quiet_val (v := ?_) ?_ ?_; rotate_left 1; (· (intro Wq hWq; obtain ⟨hWc, hWf⟩ := bcell hWq; go_simp; (try with_reducible rfl))); go_big_quiet_on; (try simp only [Act.put, List.setIfInBounds_toArray, List.set_cons_zero, List.set_cons_succ])))
  (first | go_big_quiet_skip | (go_big_quiet_want; refine quiet_val (v := ?_) ?_ ?_; rotate_left 1; (· (intro Wq hWq; obtain ⟨hWc, hWf⟩ := bcell hWq; go_simp; (try with_reducible rfl))); go_big_quiet_on; (try simp only [Act.put, List.setIfInBounds_toArray, List.set_cons_zero, List.set_cons_succ])))
  (first | go_big_quiet_skip | (go_big_quiet_want; refine quiet_val (v := ?_) ?_ ?_; rotate_left 1; (· (intro Wq hWq; obtain ⟨hWc, hWf⟩ := bcell hWq; go_simp; (try with_reducible rfl))); go_big_quiet_on; (try simp only [Act.put, List.setIfInBounds_toArray, List.set_cons_zero, List.set_cons_succ])))
  (first | go_big_quiet_skip | (go_big_quiet_want; refine quiet_val (v := ?_) ?_ ?_; rotate_left 1; (· (intro Wq hWq; obtain ⟨hWc, hWf⟩ := bcell hWq; go_simp; (try with_reducible rfl))); go_big_quiet_on; (try simp only [Act.put, List.setIfInBounds_toArray, List.set_cons_zero, List.set_cons_succ])))
  (first | go_big_quiet_skip | (go_big_quiet_want; refine quiet_val (v := ?_) ?_ ?_; rotate_left 1; (· (intro Wq hWq; obtain ⟨hWc, hWf⟩ := bcell hWq; go_simp; (try with_reducible rfl))); go_big_quiet_on; (try simp only [Act.put, List.setIfInBounds_toArray, List.set_cons_zero, List.set_cons_succ])))
  (first | go_big_quiet_skip | (go_big_quiet_want; refine quiet_val (v := ?_) ?_ ?_; rotate_left 1; (· (intro Wq hWq; obtain ⟨hWc, hWf⟩ := bcell hWq; go_simp; (try with_reducible rfl))); go_big_quiet_on; (try simp only [Act.put, List.setIfInBounds_toArray, List.set_cons_zero, List.set_cons_succ])))
  (first | go_big_quiet_skip | (go_big_quiet_want; refine quiet_val (v := ?_) ?_ ?_; rotate_left 1; (· (intro Wq hWq; obtain ⟨hWc, hWf⟩ := bcell hWq; go_simp; (try with_reducible rfl))); go_big_quiet_on; (try simp only [Act.put, List.setIfInBounds_toArray, List.set_cons_zero, List.set_cons_succ])))
  (first | go_big_quiet_skip | (go_big_quiet_want; refine quiet_val (v := ?_) ?_ ?_; rotate_left 1; (· (intro Wq hWq; obtain ⟨hWc, hWf⟩ := bcell hWq; go_simp; (try with_reducible rfl))); go_big_quiet_on; (try simp only [Act.put, List.setIfInBounds_toArray, List.set_cons_zero, List.set_cons_succ])))
  go_big_quiet_want; refine quiet_callB (f := 113) (args := ?_) (v := ?_) ?_ ?_ ?_; rotate_left 2
  · (intro Wq hWq; obtain ⟨hWc, hWf⟩ := bcell hWq; go_simp; (first | with_reducible rfl | exact ⟨rfl, rfl⟩))
  · (intro Wq hWq; exact HL.out Wq)
  go_big_quiet_on; (try simp only [Act.put, List.setIfInBounds_toArray, List.set_cons_zero, List.set_cons_succ])
  (first | go_big_quiet_skip | (go_big_quiet_want; refine quiet_val (v := ?_) ?_ ?_; rotate_left 1; (· (intro Wq hWq; obtain ⟨hWc, hWf⟩ := bcell hWq; go_simp; (try with_reducible rfl))); go_big_quiet_on; (try simp only [Act.put, List.setIfInBounds_toArray, List.set_cons_zero, List.set_cons_succ])))
  (first | go_big_quiet_skip | (go_big_quiet_want; refine quiet_val (v := ?_) ?_ ?_; rotate_left 1; (· (intro Wq hWq; obtain ⟨hWc, hWf⟩ := bcell hWq; go_simp; (try with_reducible rfl))); go_big_quiet_on; (try simp only [Act.put, List.setIfInBounds_toArray, List.set_cons_zero, List.set_cons_succ])))
  (first | go_big_quiet_skip | (go_big_quiet_want; refine quiet_val (v := ?_) ?_ ?_; rotate_left 1; (· (intro Wq hWq; obtain ⟨hWc, hWf⟩ := bcell hWq; go_simp; (try with_reducible rfl))); go_big_quiet_on; (try simp only [Act.put, List.setIfInBounds_toArray, List.set_cons_zero, List.set_cons_succ])))
  refine wpQuiet_nil ?_; intro w4 hb4
  go_wp2
  go_ret
  exact ⟨by cases X <;> rfl, hb4⟩
set_option maxRecDepth 100000 in
set_option maxHeartbeats 2000000 in
theorem razimuth_c (l : List Sn) (n : Nat) (hln : l.length = n) (hn : n ≤ 100000) (hl : ∀ x ∈ l, SnOk x) (ww : Int) (hw : 0 ≤ ww ∧ ww ≤ 1000000) (A : Option Addr) (cap : Nat) (w : World) (hr : RdL w w.heap.size snE 2 A l) :
    Calls Try.prog 73 #[.slice A n cap, .int .i64 ww] w fun e w' => (∃ P, e = .returned (.pointer (some ⟨P, 0, none⟩)) ∧ RbAt w' P (azR (l.map (snSp ww)))) ∧ Below w.heap.size w w' := by
  have HR := Lib.hid hr
  have HL := Lib.hid hl
  have HN := Lib.hid hln
  have HM := Lib.hid (snSp_all hl hw)
  obtain ⟨M, hM⟩ : ∃ M, M = l.map (snSp ww) := ⟨_, rfl⟩
  have HNM : Hid (M.length = n) := Lib.hid (by rw [hM, List.length_map]; exact hln)
  have HE := Lib.hid (show ∀ j (h1 : j < M.length) (h2 : j < l.length), M[j] = snSp ww l[j] from fun j h1 h2 => by subst hM; rw [List.getElem_map])
  rw [← hM] at HM
  rw [← hM]
  clear hr hl hln hM
  obtain ⟨Z, hZ⟩ : ∃ Z, Z = azR M := ⟨_, rfl⟩
  rw [← hZ]
  have HZ := Lib.hid (show M.foldl (azRow M) r00 = Z from hZ.symm)
  clear hZ
  have v2w : IntKind.i64.wrap (2 * ww) = 2 * ww := IntWalk.i64_in _ (by omega)
  go_enter Try.func73, Try.ntmps73
  go_wp2
  obtain ⟨W0, hW0⟩ : ∃ W, W = w.alloc (.cells #[.int .i64 0, .int .i64 0, .int .i64 0, .int .i64 0, .bool false, .bool false, .bool false] 130) := ⟨_, rfl⟩
  have hP : RbAt W0 w.heap.size r00 := by
    rw [hW0]
    unfold r00
    refine ⟨?_, ?_, ?_, ?_, ?_, ?_, ?_, ?_, ?_, ?_, ?_, ?_, ?_, ?_⟩ <;> simp [go_sem]
  have g0 : Below w.heap.size w W0 := by rw [hW0]; (repeat (first | exact Below.refl _ _ | refine Below.drew ?_ | refine Below.allocS ?_ _ | refine Below.step ?_ (by assumption) | refine Below.setCell ?_ (by simp <;> omega) _ | refine Below.drewN' ?_ _))
  have hs0 : W0.heap.size = w.heap.size + 1 := by rw [hW0]; simp
  rw [← hW0]
  clear hW0
  have HP := Lib.hid hP
  clear hP
  go_loopw [14] (fun i wr => ∃ (k : Nat), k ≤ n ∧ i = .int .i64 k ∧ RbAt wr w.heap.size ((M.take k).foldl (azRow M) r00) ∧ Exc w.heap.size W0 wr) (fun i _ => n - (intOf i).toNat)
  case atStart => exact ⟨0, Nat.zero_le _, rfl, HP.out, Exc.refl _ _⟩
  case round =>
    rename World => V
    obtain ⟨k, hk, rfl, hrc, hex⟩ := hrel
    have hbw : Below w.heap.size w V := g0.trans (hex.below (by omega) (by omega))
    have hsw := hex.size
    have HRC := Lib.hid hrc
    clear hrc
    by_cases hlt : k < n
    · have hltl : k < l.length := by rw [HN.out]; exact hlt
      have hltm : k < M.length := by rw [HNM.out]; exact hlt
      obtain ⟨b, off, rfl, hb0, hc⟩ := HR.out (by omega)
      have c0 := (hbw.cell (p := ⟨b, _, none⟩) hb0).trans (hc k hltl 0 _ rfl)
      have c1 := (hbw.cell (p := ⟨b, _, none⟩) hb0).trans (hc k hltl 1 _ rfl)
      have HC := Lib.hid hc
      clear hc
      simp at c0
      have y0 : b < V.heap.size := cell?_lt c0
      have hm := HL.out _ (List.getElem_mem hltl)
      have hT := take_fold (azRow M) M r00 k hltm
      rw [HE.out k hltm hltl] at hT
      have HT := Lib.hid hT
      have hOk : RcOk ((M.take k).foldl (azRow M) r00) := foldOk (fun r t ht hr => foldOk (fun r' t' ht' hr' => azStepOk (HM.out _ (List.mem_of_mem_take ht)) (HM.out _ ht') hr') hr) r00Ok
      have HOK := Lib.hid hOk
      clear hOk hT
      generalize (M.take k).foldl (azRow M) r00 = r at *
      generalize l[k] = s at *
      have HS := Lib.hid hm
      clear hm
      go_wp2
      obtain ⟨W1, hW1⟩ : ∃ W, W = V.alloc (.cells #[.int .i64 s.d, .int .i64 s.s] 106) := ⟨_, rfl⟩
      have t0 : W1.cell? ⟨V.heap.size, 0, none⟩ = some (.int .i64 s.d) := by rw [hW1]; simp [go_sem]
      have t1 : W1.cell? ⟨V.heap.size, 1, none⟩ = some (.int .i64 s.s) := by rw [hW1]; simp [go_sem]
      have g1 : Below V.heap.size V W1 := by rw [hW1]; (repeat (first | exact Below.refl _ _ | refine Below.drew ?_ | refine Below.allocS ?_ _ | refine Below.step ?_ (by assumption) | refine Below.setCell ?_ (by simp <;> omega) _ | refine Below.drewN' ?_ _))
      have hs1 : W1.heap.size = V.heap.size + 1 := by rw [hW1]; simp
      rw [← hW1]
      clear hW1 c0 c1
      go_loopw [20] (fun i wi => ∃ (j : Nat), j ≤ n ∧ i = .int .i64 j ∧ RbAt wi w.heap.size ((M.take j).foldl (azStep (snSp ww s)) r) ∧ Exc w.heap.size W1 wi) (fun i _ => n - (intOf i).toNat)
      case atStart => exact ⟨0, Nat.zero_le _, rfl, HRC.out.step g1, Exc.refl _ _⟩
      case round =>
        obtain ⟨j, hj, rfl, hrci, hexi⟩ := hrel
        have hsi := hexi.size
        have hbi : Below w.heap.size w wr := (hbw.trans (g1.mono (by omega))).trans (hexi.below (by omega) (by omega))
        have HRI := Lib.hid hrci
        have q0 := hexi.cell t0 (by omega)
        have q1 := hexi.cell t1 (by omega)
        clear hrci
        by_cases hltj : j < n
        · have hltl' : j < l.length := by rw [HN.out]; exact hltj
          have hltm' : j < M.length := by rw [HNM.out]; exact hltj
          have d0 := (hbi.cell (p := ⟨b, _, none⟩) hb0).trans (HC.out j hltl' 0 _ rfl)
          have d1 := (hbi.cell (p := ⟨b, _, none⟩) hb0).trans (HC.out j hltl' 1 _ rfl)
          simp at d0
          have hT2 := take_fold (azStep (snSp ww s)) M r j hltm'
          rw [HE.out j hltm' hltl'] at hT2
          have hOk2 : RcOk ((M.take j).foldl (azStep (snSp ww s)) r) := foldOk (fun r' t' ht' hr' => azStepOk (snSp_ok HS.out hw) (HM.out _ (List.mem_of_mem_take ht')) hr') HOK.out
          have ht := HL.out _ (List.getElem_mem hltl')
          have HOK2 := Lib.hid hOk2
          clear hOk2
          generalize (M.take j).foldl (azStep (snSp ww s)) r = r2 at *
          generalize l[j] = t at *
          have hs := HS.out.s
          have hsd := HS.out.d
          have hts := ht.s
          have htd := ht.d
          clear ht
          have hstep : azStep (snSp ww s) r2 (snSp ww t) = askR r2 (-(1000 * (t.d - s.d + 2 * ww))) (-(t.s - s.s)) := by
            unfold azStep snSp
            simp only
            congr 1 <;> omega
          rw [hstep] at hT2
          have HT2 := Lib.hid hT2
          clear hT2 hstep
          have v1 : IntKind.i64.wrap (t.s - s.s) = t.s - s.s := IntWalk.i64_in _ (by omega)
          have v3 : IntKind.i64.wrap (t.d - s.d) = t.d - s.d := IntWalk.i64_in _ (by omega)
          have v4 : IntKind.i64.wrap (t.d - s.d + 2 * ww) = t.d - s.d + 2 * ww := IntWalk.i64_in _ (by omega)
          have v5 : IntKind.i64.wrap (1000 * (t.d - s.d + 2 * ww)) = 1000 * (t.d - s.d + 2 * ww) := IntWalk.i64_in _ (by omega)
          have y1 : b < wr.heap.size := cell?_lt d0
          have y2 : V.heap.size < wr.heap.size := cell?_lt q0
          have HAS := Lib.hid (fun W h => hold_c r2 w.heap.size (t.s - s.s) (1000 * (t.d - s.d + 2 * ww)) W h HOK2.out (by omega) (by omega))
          have hba := fun o => Below.allocS (Below.refl wr.heap.size wr) o
          go_wp2_with fail
          refine (HAS.out _ (HRI.out.step (hba _))).mono ?_
          rintro e w4 ⟨⟨u, rfl⟩, hr4, he4⟩
          go_wp2
          go_roundw
          case rel => exact ⟨j + 1, by omega, by go_num, by rw [HT2.out]; exact hr4, (hexi.step (hba _)).trans he4⟩
          case measure => simp [intOf]; omega
        · obtain rfl : j = n := by omega
          rw [List.take_of_length_le (by rw [HNM.out]; exact Nat.le_refl _)] at HRI
          go_wp2
          go_roundw
          case rel => exact ⟨k + 1, by omega, by go_num, by rw [HT.out]; exact HRI.out, (hex.step g1).trans hexi⟩
          case measure => simp [intOf]; omega
    · obtain rfl : k = n := by omega
      rw [List.take_of_length_le (by rw [HNM.out]; exact Nat.le_refl _), HZ.out] at HRC
      go_wp2
      go_ret
      exact ⟨⟨_, rfl, HRC.out⟩, hbw⟩
set_option maxHeartbeats 1000000 in
theorem ragree_c (l : List Sn) (n : Nat) (hln : l.length = n) (hn : n ≤ 100000) (hl : ∀ x ∈ l, SnOk x) (ww : Int) (hw : 0 ≤ ww ∧ ww ≤ 1000000) (A : Option Addr) (cap : Nat) (w : World) (hr : RdL w w.heap.size snE 2 A l) :
    Calls Try.prog 67 #[.slice A n cap, .int .i64 ww] w fun e w' => e = .returned (.bool (agB (azR (l.map (snSp ww))))) ∧ Below w.heap.size w w' := by
  have H1 := Lib.hid (razimuth_c l n hln hn hl ww hw A cap w hr)
  have H2 := Lib.hid (fun P W h => empty_c (azR (l.map (snSp ww))) P W h (azOk (snSp_all hl hw)))
  clear hr hl hln
  generalize azR (l.map (snSp ww)) = r at *
  generalize agB r = B at *
  go_enter Try.func67, Try.ntmps67
  go_wp2_with fail
  refine H1.out.mono ?_
  rintro e w1 ⟨⟨P, rfl, hP⟩, hb1⟩
  go_wp2_with fail
  refine (H2.out P _ hP).mono ?_
  rintro e w2 ⟨rfl, hb2⟩
  go_wp2
  go_ret
  exact ⟨by cases B <;> rfl, by (repeat (first | exact Below.refl _ _ | refine Below.drew ?_ | refine Below.allocS ?_ _ | refine Below.step ?_ (by assumption) | refine Below.setCell ?_ (by simp <;> omega) _ | refine Below.drewN' ?_ _))⟩
end Go.Proofs.Ytbcabckokmjelaa
namespace Go.Proofs.Ytbcabckokmjelaa
open Go.RowKit
set_option linter.unusedVariables false
set_option linter.unusedSimpArgs false
theorem appN : AppE 82 106 snE 2 where
  ht := Try.underlying82
  info := app_info (z := .agg #[.int .i64 0, .int .i64 0]) (bytes := 16) (by kernel_rfl) rfl (by decide)
  pos := by decide
  len := fun x => rfl
  one := fun x u hu => by simp [snE] at hu; rcases hu with rfl | rfl <;> rfl
theorem two_cells {W : World} {g : Nat} {a b : Value} (h0 : W.cell? ⟨g, 0, none⟩ = some a) (h1 : W.cell? ⟨g, 1, none⟩ = some b) : ∀ j u, ([a, b] : List Value)[j]? = some u → W.cell? ⟨g, j, none⟩ = some u := by
  intro j u hu
  have hj : j < 2 := (List.getElem?_eq_some_iff.1 hu).1
  match j, hj with
  | 0, _ => simp at hu; subst hu; exact h0
  | 1, _ => simp at hu; subst hu; exact h1
def snL (x : Tb) (l : List Tr) : List Sn := l.map fun t => ⟨dfV (obs x t), t.b⟩
theorem snL_wid (x : Tb) (l : List Tr) (w : Int) : (snL x l).map (snSp w) = (stL x l).map (widen w) := by
  unfold snL stL
  rw [List.map_map, List.map_map]
  rfl
theorem snL_ok {x : Tb} {l : List Tr} (h : okAll x l = true) : ∀ s ∈ snL x l, SnOk s := by
  intro s hs
  obtain ⟨t, ht, rfl⟩ := List.mem_map.1 hs
  have hf := fits_at ((okAll_ok h).f t ht)
  have := dfV_bd (obs x t)
  exact ⟨hf.b, by simp only; omega⟩
def DfR (x : Tb) (l : List Tr) (e : Ending) (w' : World) : Prop :=
  (stErr x l = 0 ∧ ∃ A c, e = .returned (.tuple #[.slice A l.length c, .int .i64 0]) ∧ RdL w' w'.heap.size snE 2 A (snL x l)) ∨
  (stErr x l ≠ 0 ∧ e = .returned (.tuple #[.slice none 0 0, .int .i64 (stErr x l)]))
set_option maxHeartbeats 4000000 in
set_option maxRecDepth 100000 in
theorem differences_c (x : Tb) (l : List Tr) (A : Option Addr) (cap : Nat) (w : World) (hx : TbAt w x) (hl : l.length ≤ cap) (hm : cap ≤ maxLen) (hr : RdL w w.heap.size trE 5 A l) (ht : ∀ t ∈ l, TrAt w t) :
    Calls Try.prog 66 #[.agg #[.slice x.A x.xs.length x.ca, .int .i64 x.e], .slice A l.length cap] w fun e w' => DfR x l e w' ∧ Below w.heap.size w w' := by
  have hml : l.length ≤ 9223372036854775807 := by unfold maxLen at hm; omega
  have hxl : x.xs.length ≤ 9223372036854775807 := by have := hx.n; have := hx.m; unfold maxLen at this; omega
  have HX := Lib.hid hx
  have HT := Lib.hid ht
  have HR := Lib.hid hr
  have H1 := Lib.hid (fun W hb => rValidTube_c x.xs x.A x.ca x.e hxl W (hx.r.step hb))
  have H2 := Lib.hid (fun W => rwithin_c l.length 1 12 W)
  clear hx ht hr hm hl hxl
  cases h1 : okTube x.xs x.e
  · rw [h1] at H1
    have HE := Lib.hid (show stErr x l = 1 by unfold stErr okAll; rw [h1]; rfl)
    clear h1
    go_enter Try.func66, Try.ntmps66
    go_wp2_with fail
    refine (H1.out _ (by (repeat (first | exact Below.refl _ _ | refine Below.drew ?_ | refine Below.allocS ?_ _ | refine Below.step ?_ (by assumption) | refine Below.setCell ?_ (by simp <;> omega) _ | refine Below.drewN' ?_ _)))).mono ?_
    rintro e w1 ⟨rfl, hb1⟩
    have x1_0_0 : w1.cell? ⟨w.heap.size, 0, none⟩ = some (.slice x.A x.xs.length x.ca) := keep_cell hb1 (by simp [go_sem, *])
    have x1_0_1 : w1.cell? ⟨w.heap.size, 1, none⟩ = some (.int .i64 x.e) := keep_cell hb1 (by simp [go_sem, *])
    have y1_0 : w.heap.size < w1.heap.size := cell?_lt x1_0_0
    have g1 : Below w.heap.size w w1 := by (repeat (first | exact Below.refl _ _ | refine Below.drew ?_ | refine Below.allocS ?_ _ | refine Below.step ?_ (by assumption) | refine Below.setCell ?_ (by simp <;> omega) _ | refine Below.drewN' ?_ _))
    clear hb1
    go_wp2
    go_ret2
    exact ⟨Or.inr ⟨by rw [HE.out]; decide, by rw [HE.out]; rfl⟩, by (repeat (first | (with_reducible exact Below.refl _ _) | (with_reducible assumption) | (with_reducible refine Below.drew ?_) | (with_reducible refine Below.allocS ?_ _) | (with_reducible refine Below.setCell ?_ ?_ _) | (with_reducible refine Below.step ?_ (by assumption)) | (with_reducible refine Below.drewN' ?_ _))); (try any_goals (first | (with_reducible assumption) | (simp; done) | (simp; omega) | omega))⟩
  cases h2 : within l.length 1 12
  · rw [h1] at H1
    rw [h2] at H2
    have HE := Lib.hid (show stErr x l = 1 by unfold stErr okAll; rw [h1, h2]; rfl)
    clear h1 h2
    go_enter Try.func66, Try.ntmps66
    go_wp2_with fail
    refine (H1.out _ (by (repeat (first | exact Below.refl _ _ | refine Below.drew ?_ | refine Below.allocS ?_ _ | refine Below.step ?_ (by assumption) | refine Below.setCell ?_ (by simp <;> omega) _ | refine Below.drewN' ?_ _)))).mono ?_
    rintro e w1 ⟨rfl, hb1⟩
    have x1_0_0 : w1.cell? ⟨w.heap.size, 0, none⟩ = some (.slice x.A x.xs.length x.ca) := keep_cell hb1 (by simp [go_sem, *])
    have x1_0_1 : w1.cell? ⟨w.heap.size, 1, none⟩ = some (.int .i64 x.e) := keep_cell hb1 (by simp [go_sem, *])
    have y1_0 : w.heap.size < w1.heap.size := cell?_lt x1_0_0
    have g1 : Below w.heap.size w w1 := by (repeat (first | exact Below.refl _ _ | refine Below.drew ?_ | refine Below.allocS ?_ _ | refine Below.step ?_ (by assumption) | refine Below.setCell ?_ (by simp <;> omega) _ | refine Below.drewN' ?_ _))
    clear hb1
    go_wp2_with fail
    refine (H2.out _).mono ?_
    rintro e w' ⟨rfl, hw'⟩; replace hw' := hw'.symm; subst hw'
    go_wp2
    go_ret2
    exact ⟨Or.inr ⟨by rw [HE.out]; decide, by rw [HE.out]; rfl⟩, by (repeat (first | (with_reducible exact Below.refl _ _) | (with_reducible assumption) | (with_reducible refine Below.drew ?_) | (with_reducible refine Below.allocS ?_ _) | (with_reducible refine Below.setCell ?_ ?_ _) | (with_reducible refine Below.step ?_ (by assumption)) | (with_reducible refine Below.drewN' ?_ _))); (try any_goals (first | (with_reducible assumption) | (simp; done) | (simp; omega) | omega))⟩
  have h12 : l.length ≤ 12 := by have := within_true h2; omega
  have h01 : 1 ≤ l.length := by have := within_true h2; omega
  have HOA := Lib.hid (show okAll x l = (l.all fun t => fitsB (obs x t)) by unfold okAll; rw [h1, h2]; rfl)
  rw [h1] at H1
  rw [h2] at H2
  clear h1 h2
  go_enter Try.func66, Try.ntmps66
  go_wp2_with fail
  refine (H1.out _ (by (repeat (first | exact Below.refl _ _ | refine Below.drew ?_ | refine Below.allocS ?_ _ | refine Below.step ?_ (by assumption) | refine Below.setCell ?_ (by simp <;> omega) _ | refine Below.drewN' ?_ _)))).mono ?_
  rintro e w1 ⟨rfl, hb1⟩
  have x1_0_0 : w1.cell? ⟨w.heap.size, 0, none⟩ = some (.slice x.A x.xs.length x.ca) := keep_cell hb1 (by simp [go_sem, *])
  have x1_0_1 : w1.cell? ⟨w.heap.size, 1, none⟩ = some (.int .i64 x.e) := keep_cell hb1 (by simp [go_sem, *])
  have y1_0 : w.heap.size < w1.heap.size := cell?_lt x1_0_0
  have g1 : Below w.heap.size w w1 := by (repeat (first | exact Below.refl _ _ | refine Below.drew ?_ | refine Below.allocS ?_ _ | refine Below.step ?_ (by assumption) | refine Below.setCell ?_ (by simp <;> omega) _ | refine Below.drewN' ?_ _))
  clear hb1
  go_wp2_with fail
  refine (H2.out _).mono ?_
  rintro e w' ⟨rfl, hw'⟩; replace hw' := hw'.symm; subst hw'
  clear H1 H2
  go_wp2
  go_loopw [24] (fun i wr => ∃ (k : Nat), k ≤ l.length ∧ i = .int .i64 k ∧ wr.cell? ⟨w.heap.size, 0, none⟩ = some (.slice x.A x.xs.length x.ca) ∧ wr.cell? ⟨w.heap.size, 1, none⟩ = some (.int .i64 x.e) ∧
    Below w.heap.size w wr ∧ ((l.take k).all fun t => fitsB (obs x t)) = true) (fun i _ => l.length - (intOf i).toNat)
  case atStart => exact ⟨0, Nat.zero_le _, rfl, by simp [go_sem, *], by simp [go_sem, *], by (repeat (first | (with_reducible exact Below.refl _ _) | (with_reducible assumption) | (with_reducible refine Below.drew ?_) | (with_reducible refine Below.allocS ?_ _) | (with_reducible refine Below.setCell ?_ ?_ _) | (with_reducible refine Below.step ?_ (by assumption)) | (with_reducible refine Below.drewN' ?_ _))); (try any_goals (first | (with_reducible assumption) | (simp; done) | (simp; omega) | omega)), rfl⟩
  case round =>
    rename World => V
    obtain ⟨k, hk, rfl, m0, m1, hbw, hfa⟩ := hrel
    have HFA := Lib.hid hfa
    clear hfa
    by_cases hlt : k < l.length
    · obtain ⟨b, off, rfl, hb0, hc⟩ := HR.out (by omega)
      have c0 := (hbw.cell (p := ⟨b, _, none⟩) hb0).trans (hc k hlt 0 _ rfl)
      have c1 := (hbw.cell (p := ⟨b, _, none⟩) hb0).trans (hc k hlt 1 _ rfl)
      have c2 := (hbw.cell (p := ⟨b, _, none⟩) hb0).trans (hc k hlt 2 _ rfl)
      have c3 := (hbw.cell (p := ⟨b, _, none⟩) hb0).trans (hc k hlt 3 _ rfl)
      have c4 := (hbw.cell (p := ⟨b, _, none⟩) hb0).trans (hc k hlt 4 _ rfl)
      clear hc
      simp at c0
      have y0 : b < V.heap.size := cell?_lt c0
      have y1 : w.heap.size < V.heap.size := cell?_lt m0
      have hmem : l[k] ∈ l := List.getElem_mem hlt
      have HD : Hid (∀ W, Below w.heap.size w W → Calls Try.prog 25 #[.agg #[.slice x.A x.xs.length x.ca, .int .i64 x.e], .agg #[.string l[k].nm, .int .i64 l[k].a, .int .i64 l[k].b, .int .i64 l[k].c, .slice l[k].T l[k].ts.length l[k].ct]] W fun r w' => r = .returned (.bool (fitsB (obs x l[k]))) ∧ Below W.heap.size W w') :=
        Lib.hid (fun W hb => rFits_c (obs x l[k]) x.A l[k].T x.ca l[k].ct W (obs_at (HX.out.step hb) ((HT.out _ hmem).step hb)))
      cases hp : fitsB (obs x l[k])
      · rw [hp] at HD
        have HE := Lib.hid (show stErr x l = 1 by
          unfold stErr
          rw [if_neg]
          rw [HOA.out]
          intro h
          have := List.all_eq_true.1 h _ hmem
          rw [hp] at this; cases this)
        clear hmem hp HFA
        go_wp2_with fail
        refine (HD.out _ (by (repeat (first | exact Below.refl _ _ | refine Below.drew ?_ | refine Below.allocS ?_ _ | refine Below.step ?_ (by assumption) | refine Below.setCell ?_ (by simp <;> omega) _ | refine Below.drewN' ?_ _)))).mono ?_
        rintro e w4 ⟨rfl, hb4⟩
        go_wp2
        go_ret2
        exact ⟨Or.inr ⟨by rw [HE.out]; decide, by rw [HE.out]; rfl⟩, by (repeat (first | (with_reducible exact Below.refl _ _) | (with_reducible assumption) | (with_reducible refine Below.drew ?_) | (with_reducible refine Below.allocS ?_ _) | (with_reducible refine Below.setCell ?_ ?_ _) | (with_reducible refine Below.step ?_ (by assumption)) | (with_reducible refine Below.drewN' ?_ _))); (try any_goals (first | (with_reducible assumption) | (simp; done) | (simp; omega) | omega))⟩
      · rw [hp] at HD
        have HTa := Lib.hid (show ((l.take (k + 1)).all fun t => fitsB (obs x t)) = true by
          rw [List.take_succ_eq_append_getElem hlt, List.all_append, HFA.out]; simp [hp])
        clear hmem hp HFA
        go_wp2_with fail
        refine (HD.out _ (by (repeat (first | exact Below.refl _ _ | refine Below.drew ?_ | refine Below.allocS ?_ _ | refine Below.step ?_ (by assumption) | refine Below.setCell ?_ (by simp <;> omega) _ | refine Below.drewN' ?_ _)))).mono ?_
        rintro e w4 ⟨rfl, hb4⟩
        have hW : Below V.heap.size V w4 := by (repeat (first | exact Below.refl _ _ | refine Below.drew ?_ | refine Below.allocS ?_ _ | refine Below.step ?_ (by assumption) | refine Below.setCell ?_ (by simp <;> omega) _ | refine Below.drewN' ?_ _))
        have n0 : w4.cell? ⟨w.heap.size, 0, none⟩ = some (.slice x.A x.xs.length x.ca) := keep_cell hW m0
        have n1 : w4.cell? ⟨w.heap.size, 1, none⟩ = some (.int .i64 x.e) := keep_cell hW m1
        go_wp2
        go_roundw
        case rel => exact ⟨k + 1, by omega, by go_num, n0, n1, Below.step hbw hW, HTa.out⟩
        case measure => simp [intOf]; omega
    · obtain rfl : k = l.length := by omega
      have hall : (l.all fun t => fitsB (obs x t)) = true := by
        have := HFA.out
        rwa [List.take_of_length_le (Nat.le_refl _)] at this
      have HF := Lib.hid (fun t (h : t ∈ l) => List.all_eq_true.1 hall t h)
      have HO := Lib.hid (show okAll x l = true by rw [HOA.out]; exact hall)
      clear hall HFA HOA
      have v0 : V.cell? ⟨w.heap.size, 0, none⟩ = some (.slice x.A x.xs.length x.ca) := m0
      have v1 : V.cell? ⟨w.heap.size, 1, none⟩ = some (.int .i64 x.e) := m1
      have vb : Below w.heap.size w V := hbw
      have hyV : w.heap.size < V.heap.size := cell?_lt v0
      go_wp2
      go_loopw [8, 35] (fun u i wr => ∃ (k : Nat) (v8 : Value), v8 = u ∧ k ≤ l.length ∧ i = .int .i64 k ∧ wr.cell? ⟨w.heap.size, 0, none⟩ = some (.slice x.A x.xs.length x.ca) ∧ wr.cell? ⟨w.heap.size, 1, none⟩ = some (.int .i64 x.e) ∧
        wr.ownsRow V.heap.size 106 2 v8 k (((snL x l).take k).flatMap snE) ∧ V.heap.size ≤ wr.heap.size ∧ Below w.heap.size w wr ∧ (l.take k).any (noCr x) = false) (fun _ i _ => l.length - (intOf i).toNat)
      case atStart => exact ⟨0, _, rfl, Nat.zero_le _, rfl, by simp [go_sem, *], by simp [go_sem, *], World.ownsRow_nil _ _ _ _, Nat.le_refl _, by (repeat (first | (with_reducible exact Below.refl _ _) | (with_reducible assumption) | (with_reducible refine Below.drew ?_) | (with_reducible refine Below.allocS ?_ _) | (with_reducible refine Below.setCell ?_ ?_ _) | (with_reducible refine Below.step ?_ (by assumption)) | (with_reducible refine Below.drewN' ?_ _))); (try any_goals (first | (with_reducible assumption) | (simp; done) | (simp; omega) | omega)), rfl⟩
      case round =>
        obtain ⟨k, v8, rfl, hk, rfl, m0, m1, hown, hsz, hbw, hno⟩ := hrel
        obtain ⟨A8, c8, rfl, -, -⟩ := row_form hown
        have HOW := Lib.hid hown
        have HNO := Lib.hid hno
        clear hown hno
        have y9 : w.heap.size < V.heap.size := cell?_lt v0
        by_cases hlt : k < l.length
        · obtain ⟨b, off, rfl, hb0, hc⟩ := HR.out (by omega)
          have c0 := (hbw.cell (p := ⟨b, _, none⟩) hb0).trans (hc k hlt 0 _ rfl)
          have c1 := (hbw.cell (p := ⟨b, _, none⟩) hb0).trans (hc k hlt 1 _ rfl)
          have c2 := (hbw.cell (p := ⟨b, _, none⟩) hb0).trans (hc k hlt 2 _ rfl)
          have c3 := (hbw.cell (p := ⟨b, _, none⟩) hb0).trans (hc k hlt 3 _ rfl)
          have c4 := (hbw.cell (p := ⟨b, _, none⟩) hb0).trans (hc k hlt 4 _ rfl)
          clear hc
          simp at c0
          have y0 : b < wr.heap.size := cell?_lt c0
          have y1 : w.heap.size < wr.heap.size := cell?_lt m0
          have hmem : l[k] ∈ l := List.getElem_mem hlt
          have hfit := HF.out _ hmem
          have HD : Hid (∀ W, Below w.heap.size w W → Calls Try.prog 17 #[.agg #[.slice x.A x.xs.length x.ca, .int .i64 x.e], .agg #[.string l[k].nm, .int .i64 l[k].a, .int .i64 l[k].b, .int .i64 l[k].c, .slice l[k].T l[k].ts.length l[k].ct]] W fun r w' => r = .returned (.tuple #[.int .i64 (dfV (obs x l[k])), .int .i64 (crE (obs x l[k]))]) ∧ Below W.heap.size W w') :=
            Lib.hid (fun W hb => rDifference_c (obs x l[k]) x.A l[k].T x.ca l[k].ct W (obs_at (HX.out.step hb) ((HT.out _ hmem).step hb)))
          have HTk := Lib.hid (show (snL x l).take (k + 1) = (snL x l).take k ++ [⟨dfV (obs x l[k]), l[k].b⟩] by
            unfold snL
            rw [List.take_succ_eq_append_getElem (by rw [List.length_map]; exact hlt), List.getElem_map])
          have hln : ((snL x l).take k).length = k := by unfold snL; rw [List.length_take, List.length_map]; omega
          have HTa := Lib.hid (show (l.take (k + 1)).any (noCr x) = noCr x l[k] by
            rw [List.take_succ_eq_append_getElem hlt, List.any_append, HNO.out]; simp)
          have hE8 : noCr x l[k] = true → crE (obs x l[k]) = 8 := fun h => noCr_8 hfit h
          have hE0 : noCr x l[k] = false → crE (obs x l[k]) = 0 := fun h => by unfold noCr at h; have := of_decide_eq_false h; omega
          have hany : noCr x l[k] = true → l.any (noCr x) = true := fun h => List.any_eq_true.2 ⟨_, hmem, h⟩
          generalize dfV (obs x l[k]) = d at *
          generalize crE (obs x l[k]) = E at *
          have hnn := HTa.out
          cases hp : noCr x l[k]
          · obtain rfl := hE0 hp
            rw [hp] at hnn
            have HNN := Lib.hid hnn
            clear hE0 hE8 hany hp hnn hfit HTa
            go_wp2_with fail
            refine (HD.out _ (by (repeat (first | exact Below.refl _ _ | refine Below.drew ?_ | refine Below.allocS ?_ _ | refine Below.step ?_ (by assumption) | refine Below.setCell ?_ (by simp <;> omega) _ | refine Below.drewN' ?_ _)))).mono ?_
            rintro e w4 ⟨rfl, hb4⟩
            have hW : Below wr.heap.size wr w4 := by (repeat (first | exact Below.refl _ _ | refine Below.drew ?_ | refine Below.allocS ?_ _ | refine Below.step ?_ (by assumption) | refine Below.setCell ?_ (by simp <;> omega) _ | refine Below.drewN' ?_ _))
            have n0 : w4.cell? ⟨w.heap.size, 0, none⟩ = some (.slice x.A x.xs.length x.ca) := keep_cell hW m0
            have n1 : w4.cell? ⟨w.heap.size, 1, none⟩ = some (.int .i64 x.e) := keep_cell hW m1
            have q2 : w4.cell? ⟨wr.heap.size, 2, none⟩ = some (.int .i64 l[k].b) := keep_cell hb4 (by simp [go_sem])
            have hB4 : Below w.heap.size w w4 := Below.step hbw hW
            have hs4 : V.heap.size ≤ w4.heap.size := by have := hW.size; omega
            have y4 : w.heap.size < w4.heap.size := cell?_lt n0
            have HAPP := Lib.hid (app_run appN _ (⟨d, l[k].b⟩ : Sn) k hln (by omega) (w4.alloc (.cells #[.int .i64 d, .int .i64 l[k].b] 106)) V.heap.size w4.heap.size (.slice A8 k c8) ((ownsRow_keep HOW.out hW).alloc _) (by simp; omega) (two_cells (by simp [go_sem]) (by simp [go_sem])))
            clear hb4 hW hln
            go_wp2_with (at_builtin; refine wpList_app rfl (.tmp 48) (.tmp 54) 82 rfl _ _ rfl rfl HAPP.out ?_; rintro v5 w5 ⟨hown5, hbel5⟩; obtain ⟨A5, c5, rfl, -, -⟩ := row_form hown5; have HO5 := Lib.hid hown5; clear hown5; have hsz5 : V.heap.size ≤ w5.heap.size := (by have := hbel5.size; simp at this; omega); have hB5 : Below w.heap.size w w5 := Below.low (Below.allocS hB4 _) hbel5 (by omega); have r0 : w5.cell? ⟨w.heap.size, 0, none⟩ = some (.slice x.A x.xs.length x.ca) := low_at hbel5 (by omega) (by simp [go_sem, *]); have r1 : w5.cell? ⟨w.heap.size, 1, none⟩ = some (.int .i64 x.e) := low_at hbel5 (by omega) (by simp [go_sem, *]); clear hbel5)
            go_roundw
            case rel => exact ⟨k + 1, _, rfl, by omega, by go_num, r0, r1, by rw [HTk.out]; exact HO5.out, hsz5, hB5, HNN.out⟩
            case measure => simp [intOf]; omega
          · obtain rfl := hE8 hp
            have HE := Lib.hid (show stErr x l = 8 by unfold stErr; rw [if_pos HO.out, if_pos (hany hp)])
            clear hE0 hE8 hany hp hnn hfit HTa HTk hmem hln
            go_wp2_with fail
            refine (HD.out _ (by (repeat (first | exact Below.refl _ _ | refine Below.drew ?_ | refine Below.allocS ?_ _ | refine Below.step ?_ (by assumption) | refine Below.setCell ?_ (by simp <;> omega) _ | refine Below.drewN' ?_ _)))).mono ?_
            rintro e w4 ⟨rfl, hb4⟩
            go_wp2
            go_ret2
            exact ⟨Or.inr ⟨by rw [HE.out]; decide, by rw [HE.out]; rfl⟩, by (repeat (first | (with_reducible exact Below.refl _ _) | (with_reducible assumption) | (with_reducible refine Below.drew ?_) | (with_reducible refine Below.allocS ?_ _) | (with_reducible refine Below.setCell ?_ ?_ _) | (with_reducible refine Below.step ?_ (by assumption)) | (with_reducible refine Below.drewN' ?_ _))); (try any_goals (first | (with_reducible assumption) | (simp; done) | (simp; omega) | omega))⟩
        · obtain rfl : k = l.length := by omega
          have HE := Lib.hid (show stErr x l = 0 by
            unfold stErr
            have := HNO.out
            rw [List.take_of_length_le (Nat.le_refl _)] at this
            rw [if_pos HO.out, if_neg (by rw [this]; simp)])
          rw [List.take_of_length_le (by unfold snL; rw [List.length_map]; exact Nat.le_refl _)] at HOW
          have hI := RdL.of_own (enc := snE) (l := snL x l) (fun _ => rfl) HOW.out (by unfold snL; rw [List.length_map])
          clear HNO
          go_wp2
          go_ret2
          exact ⟨Or.inl ⟨HE.out, A8, c8, rfl, hI⟩, by (repeat (first | (with_reducible exact Below.refl _ _) | (with_reducible assumption) | (with_reducible refine Below.drew ?_) | (with_reducible refine Below.allocS ?_ _) | (with_reducible refine Below.setCell ?_ ?_ _) | (with_reducible refine Below.step ?_ (by assumption)) | (with_reducible refine Below.drewN' ?_ _))); (try any_goals (first | (with_reducible assumption) | (simp; done) | (simp; omega) | omega))⟩
set_option maxHeartbeats 1000000 in
theorem rAgree_c (x : Tb) (l : List Tr) (A : Option Addr) (cap : Nat) (w : World) (hx : TbAt w x) (hl : l.length ≤ cap) (hm : cap ≤ maxLen) (hr : RdL w w.heap.size trE 5 A l) (ht : ∀ t ∈ l, TrAt w t) :
    Calls Try.prog 34 #[.agg #[.slice x.A x.xs.length x.ca, .int .i64 x.e], .slice A l.length cap] w fun e w' => e = .returned (.tuple #[.bool (agE x l), .int .i64 (stErr x l)]) ∧ Below w.heap.size w w' := by
  have H1 := Lib.hid (fun W (hb : Below w.heap.size w W) => differences_c x l A cap W (hx.step hb) hl hm (hr.step hb) (fun t h => (ht t h).step hb))
  clear hx hl hm hr ht
  unfold agE
  by_cases h0 : stErr x l = 0
  · have H1' : Hid (∀ W, Below w.heap.size w W → Calls Try.prog 66 #[.agg #[.slice x.A x.xs.length x.ca, .int .i64 x.e], .slice A l.length cap] W fun e w' => ∃ A' c', e = .returned (.tuple #[.slice A' l.length c', .int .i64 0]) ∧ RdL w' w'.heap.size snE 2 A' (snL x l) ∧ Below W.heap.size W w') :=
      Lib.hid (fun W hb => (H1.out W hb).mono (by
        rintro e w' ⟨h | h, hb'⟩
        · obtain ⟨-, A', c', h1, h2⟩ := h; exact ⟨A', c', h1, h2, hb'⟩
        · exact absurd h0 h.1))
    have hok := (stErr_ok h0).1
    have hO := okAll_ok hok
    have HW := Lib.hid (fun (A' : Option Addr) c' W hr => ragree_c (snL x l) l.length (by unfold snL; rw [List.length_map]) (by have := hO.n; omega) (snL_ok hok) x.e (by have := hO.e; omega) A' c' W hr)
    rw [snL_wid] at HW
    rw [h0]
    rw [decide_eq_true rfl, Bool.true_and]
    clear H1 h0 hok hO
    unfold wdL
    generalize agB (azR ((stL x l).map (widen x.e))) = B at *
    go_enter Try.func34, Try.ntmps34
    go_wp2_with fail
    refine (H1'.out _ (by (repeat (first | exact Below.refl _ _ | refine Below.drew ?_ | refine Below.allocS ?_ _ | refine Below.step ?_ (by assumption) | refine Below.setCell ?_ (by simp <;> omega) _ | refine Below.drewN' ?_ _)))).mono ?_
    rintro e w1 ⟨A1, c1, rfl, r1, hb1⟩
    have x1_0_0 : w1.cell? ⟨w.heap.size, 0, none⟩ = some (.slice x.A x.xs.length x.ca) := keep_cell hb1 (by simp [go_sem, *])
    have x1_0_1 : w1.cell? ⟨w.heap.size, 1, none⟩ = some (.int .i64 x.e) := keep_cell hb1 (by simp [go_sem, *])
    have y1_0 : w.heap.size < w1.heap.size := cell?_lt x1_0_0
    have g1 : Below w.heap.size w w1 := by (repeat (first | exact Below.refl _ _ | refine Below.drew ?_ | refine Below.allocS ?_ _ | refine Below.step ?_ (by assumption) | refine Below.setCell ?_ (by simp <;> omega) _ | refine Below.drewN' ?_ _))
    clear hb1
    go_wp2_with fail
    refine (HW.out A1 c1 _ r1).mono ?_
    rintro e w2 ⟨rfl, hb2⟩
    go_wp2
    go_ret2
    exact ⟨rfl, by (repeat (first | exact Below.refl _ _ | refine Below.drew ?_ | refine Below.allocS ?_ _ | refine Below.step ?_ (by assumption) | refine Below.setCell ?_ (by simp <;> omega) _ | refine Below.drewN' ?_ _))⟩
  · have H1' : Hid (∀ W, Below w.heap.size w W → Calls Try.prog 66 #[.agg #[.slice x.A x.xs.length x.ca, .int .i64 x.e], .slice A l.length cap] W fun e w' => e = .returned (.tuple #[.slice none 0 0, .int .i64 (stErr x l)]) ∧ Below W.heap.size W w') :=
      Lib.hid (fun W hb => (H1.out W hb).mono (by
        rintro e w' ⟨h | h, hb'⟩
        · exact absurd h.1 h0
        · exact ⟨h.2, hb'⟩))
    have hc := stErr_cases x l
    rw [decide_eq_false h0, Bool.false_and]
    clear H1
    generalize stErr x l = E at *
    rcases hc with rfl | rfl | rfl
    · exact absurd rfl h0
    all_goals
      clear h0
      go_enter Try.func34, Try.ntmps34
      go_wp2_with fail
      refine (H1'.out _ (by (repeat (first | exact Below.refl _ _ | refine Below.drew ?_ | refine Below.allocS ?_ _ | refine Below.step ?_ (by assumption) | refine Below.setCell ?_ (by simp <;> omega) _ | refine Below.drewN' ?_ _)))).mono ?_
      rintro e w1 ⟨rfl, hb1⟩
      have x1_0_0 : w1.cell? ⟨w.heap.size, 0, none⟩ = some (.slice x.A x.xs.length x.ca) := keep_cell hb1 (by simp [go_sem, *])
      have x1_0_1 : w1.cell? ⟨w.heap.size, 1, none⟩ = some (.int .i64 x.e) := keep_cell hb1 (by simp [go_sem, *])
      have y1_0 : w.heap.size < w1.heap.size := cell?_lt x1_0_0
      have g1 : Below w.heap.size w w1 := by (repeat (first | exact Below.refl _ _ | refine Below.drew ?_ | refine Below.allocS ?_ _ | refine Below.step ?_ (by assumption) | refine Below.setCell ?_ (by simp <;> omega) _ | refine Below.drewN' ?_ _))
      clear hb1
      go_wp2
      go_ret2
      exact ⟨rfl, by (repeat (first | exact Below.refl _ _ | refine Below.drew ?_ | refine Below.allocS ?_ _ | refine Below.step ?_ (by assumption) | refine Below.setCell ?_ (by simp <;> omega) _ | refine Below.drewN' ?_ _))⟩
end Go.Proofs.Ytbcabckokmjelaa
