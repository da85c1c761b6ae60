/-
  Contracts of Clip and of First, of gun and of its reference.
-/
import Derived.Test.YtgiplkfdallmkaaL1
import Derived.Test.YtgiplkfdallmkaaGM
import Derived.Test.YtgiplkfdallmkaaPre2
import Derived.Deep.RegionHeld3
import Derived.Test.YtgiplkfdallmkaaRow
import Derived.Deep.DeepCutAuto
import Derived.Outline
namespace Go.Proofs.Ytgiplkfdallmkaa
open Go.RowKit
set_option linter.unusedVariables false

theorem Clip_c (A : Option Addr) (n cap : Nat) (h : n ≤ cap) (hm : cap ≤ maxLen) (w : World) :
    Calls Try.prog 75 #[.slice A n cap] w fun e w' => e = .returned (.slice A n n) ∧ w = w' := by
  unfold maxLen at hm
  go_enter Try.func75, Try.ntmps75
  go_wp2
  go_ret
  exact ⟨rfl, rfl⟩

theorem ptI : (Try.prog.info? 25).map (fun i => (i.zero, i.size, i.bytes)) = some (some (.agg #[.int .i64 0, .int .i64 0]), 2, 16) := by kernel_rfl

theorem ptE_len (x : Int × Int) : (ptE x).length = 2 := rfl
/-- What asked answers of a list and one place more. -/
theorem asked_n (s v : Int) (l : List (Int × Int)) (n : Nat) (hn : l.length = n) (A : Option Addr) (cap : Nat) (hl : l.length ≤ 9223372036854775807) (w : World) (hr : RdL w w.heap.size ptE 2 A l) :
    Calls Try.prog 51 #[.agg #[.int .i64 s, .int .i64 v], .slice A n cap] w fun e w' => e = .returned (.int .i64 (askedE s v l)) ∧ Below w.heap.size w w' := by
  subst hn; exact asked_c s v l A cap hl w hr

/-- The least index whose number is least, of those below k. -/
def bestK (f : Nat → Int) : Nat → Nat
  | 0 => 0
  | k + 1 => if f k < f (bestK f k) then k else bestK f k
theorem bestK_lt (f : Nat → Int) (k n : Nat) (h : k ≤ n) (hn : 0 < n) : bestK f k < n := by
  induction k with
  | zero => exact hn
  | succ k ih =>
    unfold bestK
    split
    · omega
    · exact ih (by omega)
def lateF (s v x y : Int) (l : List (Int × Int)) (i : Nat) : Int := lagHi s v (dd (l.getD i (0, 0)).1 (l.getD i (0, 0)).2 x y)
def firstE (s v x y : Int) (l : List (Int × Int)) : Int := if askedE s v (l ++ [(x, y)]) = 0 then (if within l.length 1 6 = true then 0 else 7) else askedE s v (l ++ [(x, y)])
def firstV (s v x y : Int) (l : List (Int × Int)) : Int := if firstE s v x y l = 0 then bestK (lateF s v x y l) l.length else 0

theorem askedE_parts {s v x y : Int} {l : List (Int × Int)} (h : askedE s v (l ++ [(x, y)]) = 0) : validAir s v = true ∧ place x y = true ∧ ∀ p ∈ l, place p.1 p.2 = true := by
  unfold askedE at h
  cases ha : validAir s v
  · simp [ha] at h
  · simp [ha] at h
    refine ⟨rfl, ?_, fun p hp => ?_⟩
    · grind
    · grind

set_option maxHeartbeats 4000000 in
set_option maxRecDepth 100000 in
theorem First_c (s v x y : Int) (l : List (Int × Int)) (A : Option Addr) (cap : Nat) (hc : l.length ≤ cap) (hm : cap ≤ maxLen) (hl : l.length ≤ 1000) (w : World) (hr : RdL w w.heap.size ptE 2 A l) :
    Calls Try.prog 34 #[.agg #[.int .i64 s, .int .i64 v], .slice A l.length cap, .agg #[.int .i64 x, .int .i64 y]] w fun e w' => e = .returned (.tuple #[.int .i64 (firstV s v x y l), .int .i64 (firstE s v x y l)]) ∧ Below w.heap.size w w' := by
  obtain ⟨i0, hi, hz0, hz1, hz2⟩ := info_parts ptI
  have hA := Lib.hid (fun h => (⟨hr.none_len h, hr.none_len h⟩ : l.length = 0 ∧ l.length = 0))
  have HR := Lib.hid hr
  have HL := Lib.hid (flat_len ptE 2 ptE_len l)
  generalize hE : askedE s v (l ++ [(x, y)]) = E
  have HE := Lib.hid hE
  generalize hV : firstV s v x y l = V
  generalize hF : firstE s v x y l = F
  have HV := Lib.hid hV
  have HF := Lib.hid hF
  clear hr hE hV hF
  go_enter Try.func34, Try.ntmps34
  go_wp2
  go_upto_region 2 with fail
  go_cut [8] (fun s8 w1 => (s8 = .int .i64 E) ∧ w1.cell? ⟨w.heap.size, 0, none⟩ = some (.int .i64 s) ∧ w1.cell? ⟨w.heap.size, 1, none⟩ = some (.int .i64 v) ∧ w1.cell? ⟨w.heap.size + 1, 0, none⟩ = some (.int .i64 x) ∧ w1.cell? ⟨w.heap.size + 1, 1, none⟩ = some (.int .i64 y) ∧ Below w.heap.size w w1)
  case first =>
    go_region_law (first
      | (refine step_append_grows rfl (.tmp 14) (.tmp 16) 51 rfl 25 i0 (.agg #[.int .i64 0, .int .i64 0]) 2 16 (by kernel_rfl) hi hz0 hz1 hz2 rfl (by decide) A l.length l.length (l.flatMap ptE) (by simp [Act.eval]) hA.out HL.out (HR.out.olds ptE_len (by decide) (by (repeat (first | exact Below.refl _ _ | refine Below.drew ?_ | refine Below.allocS ?_ _ | refine Below.step ?_ (by assumption) | refine Below.setCell ?_ (by simp <;> omega) _ | refine Below.drewN' ?_ _)))) ⟨w.heap.size + 1 + 1, 0, none⟩ 1 1 [.int .i64 x, .int .i64 y] (by simp [Act.eval]) rfl (new_cells _ _ [.int .i64 x, .int .i64 y] _ (by simp)) (by simp [Value.oneCell']) (by omega) (by unfold maxLen; omega) (by omega) ?_; intro v' w' hown hgrow; obtain ⟨g', cap', rfl⟩ := ownsRow_succ hown; have hbg := Below.of_grow0 hgrow; have q0 : w'.cell? ⟨w.heap.size, 0, none⟩ = some (.int .i64 s) := keep_cell hbg (by simp [go_sem]); have q1 : w'.cell? ⟨w.heap.size, 1, none⟩ = some (.int .i64 v) := keep_cell hbg (by simp [go_sem]); have q2 : w'.cell? ⟨w.heap.size + 1, 0, none⟩ = some (.int .i64 x) := keep_cell hbg (by simp [go_sem]); have q3 : w'.cell? ⟨w.heap.size + 1, 1, none⟩ = some (.int .i64 y) := keep_cell hbg (by simp [go_sem]))
      | (go_simp; go_at_call 75; refine (Clip_c _ _ _ hc hm _).mono ?_; rintro e w1 ⟨rfl, rfl⟩)
      | (go_simp; go_at_call 51; refine (asked_n s v (l ++ [(x, y)]) _ (by simp) _ _ (by simp; omega) _ (RdL.of_own ptE_len (by rw [← flat_snoc]; assumption) (by simp))).mono ?_; rintro e w1 ⟨rfl, hb⟩))
    all_goals
      have z0 : w1.cell? ⟨w.heap.size, 0, none⟩ = some (.int .i64 s) := keep_cell hb (by simp [go_sem, *])
      have z1 : w1.cell? ⟨w.heap.size, 1, none⟩ = some (.int .i64 v) := keep_cell hb (by simp [go_sem, *])
      have z2 : w1.cell? ⟨w.heap.size + 1, 0, none⟩ = some (.int .i64 x) := keep_cell hb (by simp [go_sem, *])
      have z3 : w1.cell? ⟨w.heap.size + 1, 1, none⟩ = some (.int .i64 y) := keep_cell hb (by simp [go_sem, *])
      rw [HE.out]
      go_wp2_with fail
      go_meet; exact ⟨rfl, (by simp [go_sem, *]), (by simp [go_sem, *]), (by simp [go_sem, *]), (by simp [go_sem, *]), by (repeat (first | exact Below.refl _ _ | refine Below.drew ?_ | refine Below.allocS ?_ _ | refine Below.step ?_ (by assumption) | refine Below.setCell ?_ (by simp <;> omega) _ | refine Below.drewN' ?_ _))⟩
  case rest =>
    obtain ⟨c1, x1_0_0, x1_0_1, x1_1_0, x1_1_1, g1⟩ := hcut
    have y1_0 : w.heap.size < wc.heap.size := cell?_lt x1_0_0
    have y1_1 : w.heap.size + 1 < wc.heap.size := cell?_lt x1_1_0
    subst c1
    by_cases he : E = 0
    · subst he
      cases hw : within l.length 1 6
      · have h2 : F = 7 := by rw [← HF.out]; unfold firstE; rw [HE.out, hw]; rfl
        have h3 : V = 0 := by rw [← HV.out]; unfold firstV firstE; rw [HE.out, hw]; rfl
        subst h2 h3
        go_wp2_with (go_at_call 53; (with_reducible refine (within_c _ _ _ _).mono ?_); rintro e w' ⟨rfl, rfl⟩)
        go_ret2
        exact ⟨(by first | rfl | (simp; done) | (simp; omega) | (simp [*]; done)), by (repeat (first | exact Below.refl _ _ | refine Below.drew ?_ | refine Below.allocS ?_ _ | refine Below.step ?_ (by assumption) | refine Below.setCell ?_ (by simp <;> omega) _ | refine Below.drewN' ?_ _))⟩
      · have h2 : F = 0 := by rw [← HF.out]; unfold firstE; rw [HE.out, hw]; rfl
        have h3 : V = (bestK (lateF s v x y l) l.length : Nat) := by rw [← HV.out]; unfold firstV firstE; rw [HE.out, hw]; rfl
        have h4 := within_true hw
        have hp := Lib.hid (askedE_parts HE.out)
        have HX := Lib.hid h3
        clear h3
        subst h2
        go_wp2_with (go_at_call 53; (with_reducible refine (within_c _ _ _ _).mono ?_); rintro e w' ⟨rfl, rfl⟩)
        go_loopw [9, 10, 11, 28, 29] (fun u9 u10 u11 i u29 wr => ∃ k : Nat, k ≤ l.length ∧ i = .int .i64 k ∧ u9 = .int .i64 (bestK (lateF s v x y l) k : Nat) ∧ wr.cell? ⟨w.heap.size, 0, none⟩ = some (.int .i64 s) ∧ wr.cell? ⟨w.heap.size, 1, none⟩ = some (.int .i64 v) ∧ wr.cell? ⟨w.heap.size + 1, 0, none⟩ = some (.int .i64 x) ∧ wr.cell? ⟨w.heap.size + 1, 1, none⟩ = some (.int .i64 y) ∧ Below w.heap.size w wr) (fun u9 u10 u11 i u29 _ => l.length - (intOf i).toNat)
        case atStart => exact ⟨0, Nat.zero_le _, rfl, rfl, x1_0_0, x1_0_1, x1_1_0, x1_1_1, g1⟩
        case round =>
          obtain ⟨k, hk, rfl, rfl, z0, z1, z2, z3, hbw⟩ := hrel
          clear x1_0_0 x1_0_1 x1_1_0 x1_1_1 g1 y1_0 y1_1
          have y0 := cell?_lt z0
          have y1 := cell?_lt z2
          by_cases hlt : k < l.length
          · obtain ⟨p1, p2, p3⟩ := hp.out
            have hm0 := bestK_lt (lateF s v x y l) k l.length (by omega) (by omega)
            generalize hbk : bestK (lateF s v x y l) k = m at hm0
            have hs : bestK (lateF s v x y l) (k + 1) = if lagHi s v (dd l[k].1 l[k].2 x y) < lagHi s v (dd l[m].1 l[m].2 x y) then k else m := by
              rw [bestK, hbk]; simp [lateF, hlt, hm0]
            obtain ⟨b, off, rfl, hb0, hc⟩ := HR.out (by omega)
            have c0 := (hbw.cell (p := ⟨b, _, none⟩) hb0).trans (hc k hlt 0 _ rfl)
            have c1 := (hbw.cell (p := ⟨b, _, none⟩) hb0).trans (hc k hlt 1 _ rfl)
            have c2 := (hbw.cell (p := ⟨b, _, none⟩) hb0).trans (hc m hm0 0 _ rfl)
            have c3 := (hbw.cell (p := ⟨b, _, none⟩) hb0).trans (hc m hm0 1 _ rfl)
            clear hc
            simp at c0 c2
            have q1 := p3 _ (List.getElem_mem hlt)
            have q2 := p3 _ (List.getElem_mem hm0)
            have HB := Lib.hid hbk
            have hb1 : b < wr.heap.size := Nat.lt_of_lt_of_le hb0 hbw.size
            have hK := fun W => lag_c s v l[k].1 l[k].2 x y p1 q1 p2 W
            have hM := fun W => lag_c s v l[m].1 l[m].2 x y p1 q2 p2 W
            generalize lagLo s v (dd l[k].1 l[k].2 x y) = a1 at hK
            generalize lagHi s v (dd l[k].1 l[k].2 x y) = a2 at hK hs
            generalize lagLo s v (dd l[m].1 l[m].2 x y) = d1 at hM
            generalize lagHi s v (dd l[m].1 l[m].2 x y) = d2 at hM hs
            clear q1 q2 p3
            generalize l[k].1 = e1 at hK c0
            generalize l[k].2 = e2 at hK c1
            generalize l[m].1 = f1 at hM c2
            generalize l[m].2 = f2 at hM c3
            have HK := Lib.hid hK
            have HM := Lib.hid hM
            have HS := Lib.hid hs
            clear hbk hs hK hM
            have fd1 : ∀ W : World, (Instr.field 29 (.agg #[.int .i64 a1, .int .i64 a2]) 1).run Try.prog W = .ok (.int .i64 a2) W := fun _ => by kernel_rfl
            have fd2 : ∀ W : World, (Instr.field 29 (.agg #[.int .i64 d1, .int .i64 d2]) 1).run Try.prog W = .ok (.int .i64 d2) W := fun _ => by kernel_rfl
            by_cases hcmp : a2 < d2
            all_goals
              have h5 := HS.out
              first | rw [if_pos hcmp] at h5 | rw [if_neg hcmp] at h5
              have H5 := Lib.hid h5
              clear h5
              go_wp2_with fail
              go_region_held3 (fun W => W.cell? ⟨w.heap.size, 0, none⟩ = some (.int .i64 s) ∧ W.cell? ⟨w.heap.size, 1, none⟩ = some (.int .i64 v) ∧ W.cell? ⟨w.heap.size + 1, 0, none⟩ = some (.int .i64 x) ∧ W.cell? ⟨w.heap.size + 1, 1, none⟩ = some (.int .i64 y) ∧ W.cell? ⟨wr.heap.size, 0, none⟩ = some (.int .i64 e1) ∧ W.cell? ⟨wr.heap.size, 1, none⟩ = some (.int .i64 e2) ∧ W.cell? ⟨b, off + m * 2, none⟩ = some (.int .i64 f1) ∧ W.cell? ⟨b, off + m * 2 + 1, none⟩ = some (.int .i64 f2) ∧ Below wr.heap.size wr W) (first | assumption | (exact And.imp (keep_cell (by assumption)) (And.imp (keep_cell (by assumption)) (And.imp (keep_cell (by assumption)) (And.imp (keep_cell (by assumption)) (And.imp (keep_cell (by assumption)) (And.imp (keep_cell (by assumption)) (And.imp (keep_cell (by assumption)) (And.imp (keep_cell (by assumption)) (fun h => Below.step h (by assumption))))))))) (by assumption)) | exact ⟨by simp [go_sem, *], by simp [go_sem, *], by simp [go_sem, *], by simp [go_sem, *], by simp [go_sem], by simp [go_sem], by simp [go_sem, *], by simp [go_sem, *], by (repeat (first | exact Below.refl _ _ | refine Below.drew ?_ | refine Below.allocS ?_ _ | refine Below.step ?_ (by assumption) | refine Below.setCell ?_ (by simp <;> omega) _ | refine Below.drewN' ?_ _))⟩)
                (first
                  | (go_at_call 52; (with_reducible refine (HK.out _).mono ?_); rintro e w1 ⟨rfl, hb⟩)
                  | (go_at_call 52; (with_reducible refine (HM.out _).mono ?_); rintro e w1 ⟨rfl, hb⟩))
              obtain ⟨s0, s1, s2, s3, -, -, -, -, s8⟩ := (fun (h : _ ∧ _ ∧ _ ∧ _ ∧ _ ∧ _ ∧ _ ∧ _ ∧ Below wr.heap.size wr _) => h) (by assumption)
              go_wp2
              go_roundw
              case rel => exact ⟨k + 1, by omega, by go_num, by rw [H5.out], s0, s1, s2, s3, Below.step hbw s8⟩
              case measure => simp [intOf]; omega
          · obtain rfl : k = l.length := by omega
            go_wp2
            go_ret2
            exact ⟨by rw [HX.out]; rfl, hbw⟩
    · have hn : (E != 0) = true := by simpa using he
      have h2 : F = E := by rw [← HF.out]; unfold firstE; rw [HE.out, if_neg he]
      have h3 : V = 0 := by rw [← HV.out]; unfold firstV firstE; rw [HE.out, if_neg he, if_neg he]
      subst h2 h3
      go_wp2
      go_ret2
      exact ⟨(by first | rfl | (simp; done) | (simp; omega) | (simp [*]; done)), by (repeat (first | exact Below.refl _ _ | refine Below.drew ?_ | refine Below.allocS ?_ _ | refine Below.step ?_ (by assumption) | refine Below.setCell ?_ (by simp <;> omega) _ | refine Below.drewN' ?_ _))⟩
end Go.Proofs.Ytgiplkfdallmkaa
