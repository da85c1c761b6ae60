/-
  Contracts of Ring and of the closures that it makes, of gun and of its reference.
-/
import Derived.Test.YtgiplkfdallmkaaL1
import Derived.Test.YtgiplkfdallmkaaGM
import Derived.Test.YtgiplkfdallmkaaPre2
import Derived.Outline
namespace Go.Proofs.Ytgiplkfdallmkaa
open Go.RowKit
set_option linter.unusedVariables false

/-- The first number from k on, of n, that p has; k + n if there is none. -/
def firstP (p : Int → Bool) : Nat → Int → Int
  | 0, k => k
  | n + 1, k => if p k then k else firstP p n (k + 1)
theorem firstP_unique (p : Int → Bool) : ∀ (n : Nat) (k r : Int), k ≤ r → r ≤ k + n → (∀ d, k ≤ d → d < r → p d = false) → (r < k + n → p r = true) → firstP p n k = r
  | 0, k, r, h1, h2, _, _ => by simp at h2; unfold firstP; omega
  | n + 1, k, r, h1, h2, h3, h4 => by
    unfold firstP
    by_cases hk : k = r
    · subst hk
      rw [if_pos (h4 (by omega))]
    · rw [if_neg (by rw [h3 k (Int.le_refl _) (by omega)]; simp)]
      exact firstP_unique p n (k + 1) r (by omega) (by omega) (fun d a b => h3 d (by omega) b) (fun h => h4 (by omega))
theorem firstP_spec (p : Int → Bool) : ∀ (n : Nat) (k : Int), k ≤ firstP p n k ∧ firstP p n k ≤ k + n ∧ (∀ d, k ≤ d → d < firstP p n k → p d = false) ∧ (firstP p n k < k + n → p (firstP p n k) = true)
  | 0, k => by unfold firstP; exact ⟨by omega, by omega, fun d a b => by omega, fun h => by omega⟩
  | n + 1, k => by
    unfold firstP
    cases hk : p k
    · obtain ⟨a, b, c, d⟩ := firstP_spec p n (k + 1)
      simp only [Bool.false_eq_true, if_false]
      refine ⟨by omega, by omega, fun e h1 h2 => ?_, fun h => d (by omega)⟩
      by_cases he : e = k
      · rw [he]; exact hk
      · exact c e (by omega) h2
    · simp only [if_true]
      exact ⟨by omega, by omega, fun d a b => by omega, fun _ => hk⟩

/-- Whether the end of a lag at d metres is late. -/
def lateHi (s v ms d : Int) : Bool := decide (ms ≤ ovHi s v (d * 1000))
def lateLo (s v ms d : Int) : Bool := decide (ms < ovLo s v (d * 1000))
theorem lateHi_mono {s v ms d e : Int} (ha : validAir s v = true) (h : d ≤ e) (hd : lateHi s v ms d = true) : lateHi s v ms e = true := by
  obtain ⟨⟨p1, p2⟩, p3, p4⟩ := validAir_true ha
  simp only [lateHi, decide_eq_true_eq] at *
  exact Int.le_trans hd (ovHi_mono (by omega) (by omega))
theorem lateLo_mono {s v ms d e : Int} (ha : validAir s v = true) (h : d ≤ e) (hd : lateLo s v ms d = true) : lateLo s v ms e = true := by
  obtain ⟨⟨p1, p2⟩, p3, p4⟩ := validAir_true ha
  simp only [lateLo, decide_eq_true_eq] at *
  exact Int.lt_of_lt_of_le hd (ovLo_mono (by omega) (by omega))

theorem not_before (p : Int → Bool) (hp : ∀ d e, d ≤ e → p d = true → p e = true) {m : Int} (hm : p m = false) : ∀ d, d < m + 1 → 0 ≤ d → p d = false := by
  intro d h1 _
  cases hd : p d
  · rfl
  · have := hp d m (by omega) hd; rw [hm] at this; cases this

set_option maxHeartbeats 1000000 in
theorem Ring1_c (s v : Int) (ha : validAir s v = true) (fv : Nat) (caps : Array Value) (p : Int → Bool) (hp : ∀ d e, d ≤ e → p d = true → p e = true) (ba : Nat) (w : World)
    (c0 : w.cell? ⟨ba, 0, none⟩ = some (.int .i64 s)) (c1 : w.cell? ⟨ba, 1, none⟩ = some (.int .i64 v))
    (hcall : ∀ (args : Array Value) (W : World), (callFunc fv args).run Try.prog W = .ok (.enter fv args) W)
    (hf : ∀ d, 0 ≤ d → d ≤ 200000 → ∀ W, Below w.heap.size w W → Calls Try.prog fv (#[.agg #[.int .i64 (ovLo s v (d * 1000)), .int .i64 (ovHi s v (d * 1000))]] ++ caps) W fun e W' => e = .returned (.bool (p d)) ∧ Below W.heap.size W W') :
    Calls Try.prog 71 #[.func (.func fv) #[] caps, .pointer (some ⟨ba, 0, none⟩)] w fun e w' => e = .returned (.int .i64 (firstP p 200001 0)) ∧ Below w.heap.size w w' := by
  have HF := Lib.hid hf
  have l0 := cell?_lt c0
  clear hf
  go_enter Try.func71, Try.ntmps71
  go_wp2
  go_loopw [4, 5] (fun x y wr => ∃ lo hi : Int, x = .int .i64 lo ∧ y = .int .i64 hi ∧ 0 ≤ lo ∧ lo ≤ hi ∧ hi ≤ 200001 ∧ (∀ d, d < lo → 0 ≤ d → p d = false) ∧ (hi < 200001 → p hi = true) ∧ Below w.heap.size w wr) (fun x y _ => (intOf y - intOf x).toNat)
  case atStart => exact ⟨0, 200001, rfl, rfl, by omega, by omega, by omega, fun d h1 h2 => by omega, fun h => by omega, Below.refl _ _⟩
  case round =>
    obtain ⟨lo, hi, rfl, rfl, g1, g2, g3, g4, g5, hbw⟩ := hrel
    have G4 := Lib.hid g4
    have G5 := Lib.hid g5
    clear g4 g5
    have d0 : wr.cell? ⟨ba, 0, none⟩ = some (.int .i64 s) := (hbw.cell (p := ⟨ba, 0, none⟩) l0).trans c0
    have d1 : wr.cell? ⟨ba, 1, none⟩ = some (.int .i64 v) := (hbw.cell (p := ⟨ba, 1, none⟩) l0).trans c1
    by_cases hlt : lo < hi
    · cases hm : p ((lo + hi) / 2)
      all_goals
        have HM := Lib.hid hm
        clear hm
        go_wp2_with fail
        refine (over_c s v _ _ ha (by omega) (by omega) (by omega) (by omega) _).mono ?_
        rintro e w1 ⟨rfl, hb⟩
        go_wp2_with fail
        refine (HF.out _ (by omega) (by omega) _ (Below.step hbw hb)).mono ?_
        rintro e w2 ⟨rfl, hb2⟩
        rw [HM.out]
        go_wp2
        go_roundw
      case rel => exact ⟨_, _, rfl, rfl, by omega, by omega, by omega, not_before p hp HM.out, G5.out, Below.step (Below.step hbw hb) hb2⟩
      case measure => simp [intOf]; omega
      case rel => exact ⟨_, _, rfl, rfl, by omega, by omega, by omega, G4.out, fun _ => HM.out, Below.step (Below.step hbw hb) hb2⟩
      case measure => simp [intOf]; omega
    · obtain rfl : lo = hi := by omega
      have H := Lib.hid (firstP_unique p 200001 0 lo (by omega) (by omega) (fun d a b => G4.out d b a) (fun h => G5.out (by omega)))
      go_wp2
      go_ret
      exact ⟨by rw [H.out]; rfl, hbw⟩

theorem Ring2_c (a b ms : Int) (bm : Nat) (w : World) (c0 : w.cell? ⟨bm, 0, none⟩ = some (.int .i64 ms)) :
    Calls Try.prog 73 #[.agg #[.int .i64 a, .int .i64 b], .pointer (some ⟨bm, 0, none⟩)] w fun e w' => e = .returned (.bool (decide (ms ≤ b))) ∧ Below w.heap.size w w' := by
  have l0 := cell?_lt c0
  go_enter Try.func73, Try.ntmps73
  go_wp2
  go_ret
  exact ⟨rfl, by (repeat (first | exact Below.refl _ _ | refine Below.drew ?_ | refine Below.allocS ?_ _ | refine Below.step ?_ (by assumption) | refine Below.setCell ?_ (by simp <;> omega) _ | refine Below.drewN' ?_ _))⟩
theorem Ring3_c (a b ms : Int) (bm : Nat) (w : World) (c0 : w.cell? ⟨bm, 0, none⟩ = some (.int .i64 ms)) :
    Calls Try.prog 74 #[.agg #[.int .i64 a, .int .i64 b], .pointer (some ⟨bm, 0, none⟩)] w fun e w' => e = .returned (.bool (decide (ms < a))) ∧ Below w.heap.size w w' := by
  have l0 := cell?_lt c0
  go_enter Try.func74, Try.ntmps74
  go_wp2
  go_ret
  exact ⟨rfl, by (repeat (first | exact Below.refl _ _ | refine Below.drew ?_ | refine Below.allocS ?_ _ | refine Below.step ?_ (by assumption) | refine Below.setCell ?_ (by simp <;> omega) _ | refine Below.drewN' ?_ _))⟩
theorem call_Ring2 (args : Array Value) (W : World) : (callFunc 73 args).run Try.prog W = .ok (.enter 73 args) W := by kernel_rfl
theorem call_Ring3 (args : Array Value) (W : World) : (callFunc 74 args).run Try.prog W = .ok (.enter 74 args) W := by kernel_rfl

/-- The first distance whose lag's Hi, and the first whose Lo, is late. -/
def fHi (s v ms : Int) : Int := firstP (lateHi s v ms) 200001 0
def fLo (s v ms : Int) : Int := firstP (lateLo s v ms) 200001 0
theorem fHi_bd (s v ms : Int) : 0 ≤ fHi s v ms ∧ fHi s v ms ≤ 200001 := by
  obtain ⟨a, b, _⟩ := firstP_spec (lateHi s v ms) 200001 0
  unfold fHi; omega
theorem fLo_bd (s v ms : Int) : 0 ≤ fLo s v ms ∧ fLo s v ms ≤ 200001 := by
  obtain ⟨a, b, _⟩ := firstP_spec (lateLo s v ms) 200001 0
  unfold fLo; omega
theorem Ring1_hi (s v ms : Int) (ha : validAir s v = true) (ba bm : Nat) (w : World) (c0 : w.cell? ⟨ba, 0, none⟩ = some (.int .i64 s)) (c1 : w.cell? ⟨ba, 1, none⟩ = some (.int .i64 v)) (c2 : w.cell? ⟨bm, 0, none⟩ = some (.int .i64 ms)) :
    Calls Try.prog 71 #[.func (.func 73) #[] #[.pointer (some ⟨bm, 0, none⟩)], .pointer (some ⟨ba, 0, none⟩)] w fun e w' => e = .returned (.int .i64 (fHi s v ms)) ∧ Below w.heap.size w w' :=
  Ring1_c s v ha _ _ (lateHi s v ms) (fun d e h hd => lateHi_mono ha h hd) ba w c0 c1 call_Ring2 (fun d _ _ W hW => by
    have := Ring2_c (ovLo s v (d * 1000)) (ovHi s v (d * 1000)) ms bm W ((hW.cell (p := ⟨bm, 0, none⟩) (cell?_lt c2)).trans c2)
    simpa [lateHi, lateLo] using this)
theorem Ring1_lo (s v ms : Int) (ha : validAir s v = true) (ba bm : Nat) (w : World) (c0 : w.cell? ⟨ba, 0, none⟩ = some (.int .i64 s)) (c1 : w.cell? ⟨ba, 1, none⟩ = some (.int .i64 v)) (c2 : w.cell? ⟨bm, 0, none⟩ = some (.int .i64 ms)) :
    Calls Try.prog 71 #[.func (.func 74) #[] #[.pointer (some ⟨bm, 0, none⟩)], .pointer (some ⟨ba, 0, none⟩)] w fun e w' => e = .returned (.int .i64 (fLo s v ms)) ∧ Below w.heap.size w w' :=
  Ring1_c s v ha _ _ (lateLo s v ms) (fun d e h hd => lateLo_mono ha h hd) ba w c0 c1 call_Ring3 (fun d _ _ W hW => by
    have := Ring3_c (ovLo s v (d * 1000)) (ovHi s v (d * 1000)) ms bm W ((hW.cell (p := ⟨bm, 0, none⟩) (cell?_lt c2)).trans c2)
    simpa [lateHi, lateLo] using this)

/-- What Ring answers. -/
def ringE (s v a b ms : Int) : Int := if lagE s v a b a b = 0 then (if within ms 0 1000000 then (if fHi s v ms < fLo s v ms then 0 else 8) else 7) else lagE s v a b a b
def ringLo (s v a b ms : Int) : Int := if ringE s v a b ms = 0 then fHi s v ms else 0
def ringHi (s v a b ms : Int) : Int := if ringE s v a b ms = 0 then fLo s v ms - 1 else 0
theorem Ring_c (s v a b ms : Int) (w : World) :
    Calls Try.prog 33 #[.agg #[.int .i64 s, .int .i64 v], .agg #[.int .i64 a, .int .i64 b], .int .i64 ms] w fun e w' => e = .returned (.tuple #[.int .i64 (ringLo s v a b ms), .int .i64 (ringHi s v a b ms), .int .i64 (ringE s v a b ms)]) ∧ Below w.heap.size w w' := by
  have fh := fHi_bd s v ms
  have fl := fLo_bd s v ms
  by_cases h1 : lagE s v a b a b = 0
  · cases h2 : within ms 0 1000000
    · have e1 : ringE s v a b ms = 7 := by unfold ringE; rw [if_pos h1, h2]; rfl
      have e2 : ringLo s v a b ms = 0 := by unfold ringLo; rw [e1]; rfl
      have e3 : ringHi s v a b ms = 0 := by unfold ringHi; rw [e1]; rfl
      rw [e1, e2, e3]
      clear e1 e2 e3
      go_enter Try.func33, Try.ntmps33
      go_wp2_with fail
      refine (asked_one s v a b _ _ (by simp) (by simp [go_sem]) (by simp [go_sem])).mono ?_
      rintro e w1 ⟨rfl, hb1⟩
      have x1_0_0 : w1.cell? ⟨w.heap.size, 0, none⟩ = some (.int .i64 s) := keep_cell hb1 (by simp [go_sem, *])
      have x1_0_1 : w1.cell? ⟨w.heap.size, 1, none⟩ = some (.int .i64 v) := keep_cell hb1 (by simp [go_sem, *])
      have y1_0 : w.heap.size < w1.heap.size := cell?_lt x1_0_0
      have x1_1_0 : w1.cell? ⟨w.heap.size + 1, 0, none⟩ = some (.int .i64 a) := keep_cell hb1 (by simp [go_sem, *])
      have x1_1_1 : w1.cell? ⟨w.heap.size + 1, 1, none⟩ = some (.int .i64 b) := keep_cell hb1 (by simp [go_sem, *])
      have y1_1 : w.heap.size + 1 < w1.heap.size := cell?_lt x1_1_0
      have x1_2_0 : w1.cell? ⟨w.heap.size + 1 + 1, 0, none⟩ = some (.int .i64 ms) := keep_cell hb1 (by simp [go_sem, *])
      have y1_2 : w.heap.size + 1 + 1 < w1.heap.size := cell?_lt x1_2_0
      have g1 : Below w.heap.size w w1 := by (repeat (first | exact Below.refl _ _ | refine Below.drew ?_ | refine Below.allocS ?_ _ | refine Below.step ?_ (by assumption) | refine Below.setCell ?_ (by simp <;> omega) _ | refine Below.drewN' ?_ _))
      clear hb1
      go_wp2_with (go_at_call 53; (with_reducible refine (within_c _ _ _ _).mono ?_); rintro e w' ⟨rfl, rfl⟩)
      go_ret3
      exact ⟨rfl, by (repeat (first | exact Below.refl _ _ | refine Below.drew ?_ | refine Below.allocS ?_ _ | refine Below.step ?_ (by assumption) | refine Below.setCell ?_ (by simp <;> omega) _ | refine Below.drewN' ?_ _))⟩
    · have ha := (lagE_ok h1).1
      by_cases h3 : fHi s v ms < fLo s v ms
      · have e1 : ringE s v a b ms = 0 := by unfold ringE; rw [if_pos h1, h2, if_pos h3]; rfl
        have e2 : ringLo s v a b ms = fHi s v ms := by unfold ringLo; rw [if_pos e1]
        have e3 : ringHi s v a b ms = fLo s v ms - 1 := by unfold ringHi; rw [if_pos e1]
        rw [e1, e2, e3]
        clear e1 e2 e3
        go_enter Try.func33, Try.ntmps33
        go_wp2_with fail
        refine (asked_one s v a b _ _ (by simp) (by simp [go_sem]) (by simp [go_sem])).mono ?_
        rintro e w1 ⟨rfl, hb1⟩
        have x1_0_0 : w1.cell? ⟨w.heap.size, 0, none⟩ = some (.int .i64 s) := keep_cell hb1 (by simp [go_sem, *])
        have x1_0_1 : w1.cell? ⟨w.heap.size, 1, none⟩ = some (.int .i64 v) := keep_cell hb1 (by simp [go_sem, *])
        have y1_0 : w.heap.size < w1.heap.size := cell?_lt x1_0_0
        have x1_1_0 : w1.cell? ⟨w.heap.size + 1, 0, none⟩ = some (.int .i64 a) := keep_cell hb1 (by simp [go_sem, *])
        have x1_1_1 : w1.cell? ⟨w.heap.size + 1, 1, none⟩ = some (.int .i64 b) := keep_cell hb1 (by simp [go_sem, *])
        have y1_1 : w.heap.size + 1 < w1.heap.size := cell?_lt x1_1_0
        have x1_2_0 : w1.cell? ⟨w.heap.size + 1 + 1, 0, none⟩ = some (.int .i64 ms) := keep_cell hb1 (by simp [go_sem, *])
        have y1_2 : w.heap.size + 1 + 1 < w1.heap.size := cell?_lt x1_2_0
        have g1 : Below w.heap.size w w1 := by (repeat (first | exact Below.refl _ _ | refine Below.drew ?_ | refine Below.allocS ?_ _ | refine Below.step ?_ (by assumption) | refine Below.setCell ?_ (by simp <;> omega) _ | refine Below.drewN' ?_ _))
        clear hb1
        go_wp2_with (go_at_call 53; (with_reducible refine (within_c _ _ _ _).mono ?_); rintro e w' ⟨rfl, rfl⟩)
        go_wp2_with fail
        refine (Ring1_hi s v ms ha _ _ _ (by simp [go_sem, *]) (by simp [go_sem, *]) (by simp [go_sem, *])).mono ?_
        rintro e w2 ⟨rfl, hb2⟩
        have x2_0_0 : w2.cell? ⟨w.heap.size, 0, none⟩ = some (.int .i64 s) := keep_cell hb2 (by simp [go_sem, *])
        have x2_0_1 : w2.cell? ⟨w.heap.size, 1, none⟩ = some (.int .i64 v) := keep_cell hb2 (by simp [go_sem, *])
        have y2_0 : w.heap.size < w2.heap.size := cell?_lt x2_0_0
        have x2_1_0 : w2.cell? ⟨w.heap.size + 1, 0, none⟩ = some (.int .i64 a) := keep_cell hb2 (by simp [go_sem, *])
        have x2_1_1 : w2.cell? ⟨w.heap.size + 1, 1, none⟩ = some (.int .i64 b) := keep_cell hb2 (by simp [go_sem, *])
        have y2_1 : w.heap.size + 1 < w2.heap.size := cell?_lt x2_1_0
        have x2_2_0 : w2.cell? ⟨w.heap.size + 1 + 1, 0, none⟩ = some (.int .i64 ms) := keep_cell hb2 (by simp [go_sem, *])
        have y2_2 : w.heap.size + 1 + 1 < w2.heap.size := cell?_lt x2_2_0
        have g2 : Below w.heap.size w w2 := by (repeat (first | exact Below.refl _ _ | refine Below.drew ?_ | refine Below.allocS ?_ _ | refine Below.step ?_ (by assumption) | refine Below.setCell ?_ (by simp <;> omega) _ | refine Below.drewN' ?_ _))
        clear hb2 g1 x1_0_0 x1_0_1 x1_1_0 x1_1_1 x1_2_0 y1_0 y1_1 y1_2
        go_wp2_with fail
        refine (Ring1_lo s v ms ha _ _ _ (by simp [go_sem, *]) (by simp [go_sem, *]) (by simp [go_sem, *])).mono ?_
        rintro e w3 ⟨rfl, hb3⟩
        have x3_0_0 : w3.cell? ⟨w.heap.size, 0, none⟩ = some (.int .i64 s) := keep_cell hb3 (by simp [go_sem, *])
        have x3_0_1 : w3.cell? ⟨w.heap.size, 1, none⟩ = some (.int .i64 v) := keep_cell hb3 (by simp [go_sem, *])
        have y3_0 : w.heap.size < w3.heap.size := cell?_lt x3_0_0
        have x3_1_0 : w3.cell? ⟨w.heap.size + 1, 0, none⟩ = some (.int .i64 a) := keep_cell hb3 (by simp [go_sem, *])
        have x3_1_1 : w3.cell? ⟨w.heap.size + 1, 1, none⟩ = some (.int .i64 b) := keep_cell hb3 (by simp [go_sem, *])
        have y3_1 : w.heap.size + 1 < w3.heap.size := cell?_lt x3_1_0
        have x3_2_0 : w3.cell? ⟨w.heap.size + 1 + 1, 0, none⟩ = some (.int .i64 ms) := keep_cell hb3 (by simp [go_sem, *])
        have y3_2 : w.heap.size + 1 + 1 < w3.heap.size := cell?_lt x3_2_0
        have g3 : Below w.heap.size w w3 := by (repeat (first | exact Below.refl _ _ | refine Below.drew ?_ | refine Below.allocS ?_ _ | refine Below.step ?_ (by assumption) | refine Below.setCell ?_ (by simp <;> omega) _ | refine Below.drewN' ?_ _))
        clear hb3 g2 x2_0_0 x2_0_1 x2_1_0 x2_1_1 x2_2_0 y2_0 y2_1 y2_2
        go_wp2
        go_ret3
        exact ⟨rfl, by (repeat (first | exact Below.refl _ _ | refine Below.drew ?_ | refine Below.allocS ?_ _ | refine Below.step ?_ (by assumption) | refine Below.setCell ?_ (by simp <;> omega) _ | refine Below.drewN' ?_ _))⟩
      · have e1 : ringE s v a b ms = 8 := by unfold ringE; rw [if_pos h1, h2, if_neg h3]; rfl
        have e2 : ringLo s v a b ms = 0 := by unfold ringLo; rw [e1]; rfl
        have e3 : ringHi s v a b ms = 0 := by unfold ringHi; rw [e1]; rfl
        rw [e1, e2, e3]
        clear e1 e2 e3
        go_enter Try.func33, Try.ntmps33
        go_wp2_with fail
        refine (asked_one s v a b _ _ (by simp) (by simp [go_sem]) (by simp [go_sem])).mono ?_
        rintro e w1 ⟨rfl, hb1⟩
        have x1_0_0 : w1.cell? ⟨w.heap.size, 0, none⟩ = some (.int .i64 s) := keep_cell hb1 (by simp [go_sem, *])
        have x1_0_1 : w1.cell? ⟨w.heap.size, 1, none⟩ = some (.int .i64 v) := keep_cell hb1 (by simp [go_sem, *])
        have y1_0 : w.heap.size < w1.heap.size := cell?_lt x1_0_0
        have x1_1_0 : w1.cell? ⟨w.heap.size + 1, 0, none⟩ = some (.int .i64 a) := keep_cell hb1 (by simp [go_sem, *])
        have x1_1_1 : w1.cell? ⟨w.heap.size + 1, 1, none⟩ = some (.int .i64 b) := keep_cell hb1 (by simp [go_sem, *])
        have y1_1 : w.heap.size + 1 < w1.heap.size := cell?_lt x1_1_0
        have x1_2_0 : w1.cell? ⟨w.heap.size + 1 + 1, 0, none⟩ = some (.int .i64 ms) := keep_cell hb1 (by simp [go_sem, *])
        have y1_2 : w.heap.size + 1 + 1 < w1.heap.size := cell?_lt x1_2_0
        have g1 : Below w.heap.size w w1 := by (repeat (first | exact Below.refl _ _ | refine Below.drew ?_ | refine Below.allocS ?_ _ | refine Below.step ?_ (by assumption) | refine Below.setCell ?_ (by simp <;> omega) _ | refine Below.drewN' ?_ _))
        clear hb1
        go_wp2_with (go_at_call 53; (with_reducible refine (within_c _ _ _ _).mono ?_); rintro e w' ⟨rfl, rfl⟩)
        go_wp2_with fail
        refine (Ring1_hi s v ms ha _ _ _ (by simp [go_sem, *]) (by simp [go_sem, *]) (by simp [go_sem, *])).mono ?_
        rintro e w2 ⟨rfl, hb2⟩
        have x2_0_0 : w2.cell? ⟨w.heap.size, 0, none⟩ = some (.int .i64 s) := keep_cell hb2 (by simp [go_sem, *])
        have x2_0_1 : w2.cell? ⟨w.heap.size, 1, none⟩ = some (.int .i64 v) := keep_cell hb2 (by simp [go_sem, *])
        have y2_0 : w.heap.size < w2.heap.size := cell?_lt x2_0_0
        have x2_1_0 : w2.cell? ⟨w.heap.size + 1, 0, none⟩ = some (.int .i64 a) := keep_cell hb2 (by simp [go_sem, *])
        have x2_1_1 : w2.cell? ⟨w.heap.size + 1, 1, none⟩ = some (.int .i64 b) := keep_cell hb2 (by simp [go_sem, *])
        have y2_1 : w.heap.size + 1 < w2.heap.size := cell?_lt x2_1_0
        have x2_2_0 : w2.cell? ⟨w.heap.size + 1 + 1, 0, none⟩ = some (.int .i64 ms) := keep_cell hb2 (by simp [go_sem, *])
        have y2_2 : w.heap.size + 1 + 1 < w2.heap.size := cell?_lt x2_2_0
        have g2 : Below w.heap.size w w2 := by (repeat (first | exact Below.refl _ _ | refine Below.drew ?_ | refine Below.allocS ?_ _ | refine Below.step ?_ (by assumption) | refine Below.setCell ?_ (by simp <;> omega) _ | refine Below.drewN' ?_ _))
        clear hb2 g1 x1_0_0 x1_0_1 x1_1_0 x1_1_1 x1_2_0 y1_0 y1_1 y1_2
        go_wp2_with fail
        refine (Ring1_lo s v ms ha _ _ _ (by simp [go_sem, *]) (by simp [go_sem, *]) (by simp [go_sem, *])).mono ?_
        rintro e w3 ⟨rfl, hb3⟩
        have x3_0_0 : w3.cell? ⟨w.heap.size, 0, none⟩ = some (.int .i64 s) := keep_cell hb3 (by simp [go_sem, *])
        have x3_0_1 : w3.cell? ⟨w.heap.size, 1, none⟩ = some (.int .i64 v) := keep_cell hb3 (by simp [go_sem, *])
        have y3_0 : w.heap.size < w3.heap.size := cell?_lt x3_0_0
        have x3_1_0 : w3.cell? ⟨w.heap.size + 1, 0, none⟩ = some (.int .i64 a) := keep_cell hb3 (by simp [go_sem, *])
        have x3_1_1 : w3.cell? ⟨w.heap.size + 1, 1, none⟩ = some (.int .i64 b) := keep_cell hb3 (by simp [go_sem, *])
        have y3_1 : w.heap.size + 1 < w3.heap.size := cell?_lt x3_1_0
        have x3_2_0 : w3.cell? ⟨w.heap.size + 1 + 1, 0, none⟩ = some (.int .i64 ms) := keep_cell hb3 (by simp [go_sem, *])
        have y3_2 : w.heap.size + 1 + 1 < w3.heap.size := cell?_lt x3_2_0
        have g3 : Below w.heap.size w w3 := by (repeat (first | exact Below.refl _ _ | refine Below.drew ?_ | refine Below.allocS ?_ _ | refine Below.step ?_ (by assumption) | refine Below.setCell ?_ (by simp <;> omega) _ | refine Below.drewN' ?_ _))
        clear hb3 g2 x2_0_0 x2_0_1 x2_1_0 x2_1_1 x2_2_0 y2_0 y2_1 y2_2
        go_wp2
        go_ret3
        exact ⟨rfl, by (repeat (first | exact Below.refl _ _ | refine Below.drew ?_ | refine Below.allocS ?_ _ | refine Below.step ?_ (by assumption) | refine Below.setCell ?_ (by simp <;> omega) _ | refine Below.drewN' ?_ _))⟩
  · have e1 : ringE s v a b ms = lagE s v a b a b := by unfold ringE; rw [if_neg h1]
    have e2 : ringLo s v a b ms = 0 := by unfold ringLo; rw [e1, if_neg h1]
    have e3 : ringHi s v a b ms = 0 := by unfold ringHi; rw [e1, if_neg h1]
    rw [e1, e2, e3]
    clear e1 e2 e3
    have hn : (lagE s v a b a b != 0) = true := by simpa using h1
    clear h1
    go_enter Try.func33, Try.ntmps33
    go_wp2_with fail
    refine (asked_one s v a b _ _ (by simp) (by simp [go_sem]) (by simp [go_sem])).mono ?_
    rintro e w1 ⟨rfl, hb1⟩
    have x1_0_0 : w1.cell? ⟨w.heap.size, 0, none⟩ = some (.int .i64 s) := keep_cell hb1 (by simp [go_sem, *])
    have x1_0_1 : w1.cell? ⟨w.heap.size, 1, none⟩ = some (.int .i64 v) := keep_cell hb1 (by simp [go_sem, *])
    have y1_0 : w.heap.size < w1.heap.size := cell?_lt x1_0_0
    have x1_1_0 : w1.cell? ⟨w.heap.size + 1, 0, none⟩ = some (.int .i64 a) := keep_cell hb1 (by simp [go_sem, *])
    have x1_1_1 : w1.cell? ⟨w.heap.size + 1, 1, none⟩ = some (.int .i64 b) := keep_cell hb1 (by simp [go_sem, *])
    have y1_1 : w.heap.size + 1 < w1.heap.size := cell?_lt x1_1_0
    have x1_2_0 : w1.cell? ⟨w.heap.size + 1 + 1, 0, none⟩ = some (.int .i64 ms) := keep_cell hb1 (by simp [go_sem, *])
    have y1_2 : w.heap.size + 1 + 1 < w1.heap.size := cell?_lt x1_2_0
    have g1 : Below w.heap.size w w1 := by (repeat (first | exact Below.refl _ _ | refine Below.drew ?_ | refine Below.allocS ?_ _ | refine Below.step ?_ (by assumption) | refine Below.setCell ?_ (by simp <;> omega) _ | refine Below.drewN' ?_ _))
    clear hb1
    go_wp2
    go_ret3
    exact ⟨rfl, by (repeat (first | exact Below.refl _ _ | refine Below.drew ?_ | refine Below.allocS ?_ _ | refine Below.step ?_ (by assumption) | refine Below.setCell ?_ (by simp <;> omega) _ | refine Below.drewN' ?_ _))⟩
end Go.Proofs.Ytgiplkfdallmkaa
