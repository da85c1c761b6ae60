/-
  Contracts of Mirrored of the reference, and of Alike, of gun and of its reference.
-/
import Derived.Test.YtgiplkfdallmkaaU3
namespace Go.Proofs.Ytgiplkfdallmkaa
open Go.RowKit Go.Deep
set_option linter.unusedVariables false

set_option maxHeartbeats 4000000 in
set_option maxRecDepth 100000 in
theorem rMirrored_c (l : List Shot) (A : Option Addr) (cap : Nat) (hl : l.length ≤ 1000) (w : World) (hr : RdL w w.heap.size shE 4 A l) :
    Calls Try.prog 40 #[.slice A l.length cap] w fun e w' => ∃ u, e = .returned (.tuple #[u, .int .i64 (mirE l)]) ∧ IsSl w' shE 4 u (mirL l) ∧ Below w.heap.size w w' := by
  obtain ⟨i1, hj, hy0, hy1, hy2⟩ := info_parts shI
  have HV := Lib.hid (rValidShots_c l A cap (by omega) w hr)
  unfold mirE mirL
  have HR := Lib.hid hr
  clear hr
  cases hok : okShots l
  · rw [hok] at HV
    go_enter Try.func40, Try.ntmps40
    go_wp2_with (go_at_call 32; refine HV.out.mono ?_; rintro e w1 ⟨rfl, hb⟩)
    go_ret2
    exact ⟨.slice none 0 0, rfl, IsSl.nil _ _ _, by (repeat (first | exact Below.refl _ _ | refine Below.drew ?_ | refine Below.allocS ?_ _ | refine Below.step ?_ (by assumption) | refine Below.setCell ?_ (by simp <;> omega) _ | refine Below.drewN' ?_ _))⟩
  · rw [hok] at HV
    obtain ⟨k1, k2, k3⟩ := okShots_true hok
    have HK := Lib.hid k3
    clear k3
    go_enter Try.func40, Try.ntmps40
    go_wp2_with (first | (go_at_call 32; refine HV.out.mono ?_; rintro e w1 ⟨rfl, hb⟩))
    go_loopw [4, 12] (fun v4 i wr => ∃ k : Nat, k ≤ l.length ∧ i = .int .i64 k ∧ wr.ownsRow w1.heap.size 65 4 v4 k (((l.map mir).take k).flatMap shE) ∧ Below w1.heap.size w1 wr) (fun v4 i _ => l.length - (intOf i).toNat)
    case atStart => exact ⟨0, Nat.zero_le _, rfl, World.ownsRow_nil _ _ _ _, Below.refl _ _⟩
    case round =>
      obtain ⟨k, hk, rfl, hown, hbw⟩ := hrel
      have hs := hbw.size
      by_cases hlt : k < l.length
      · have hv := HK.out _ (List.getElem_mem hlt)
        obtain ⟨hp, -⟩ := okShot_true hv
        obtain ⟨⟨t1, t2⟩, -⟩ := place_true hp
        obtain ⟨b, off, rfl, hb0, hc⟩ := HR.out (by omega)
        have gw := Below.step hb hbw
        have c0 := (gw.cell (p := ⟨b, _, none⟩) hb0).trans (hc k hlt 0 _ rfl)
        have c1 := (gw.cell (p := ⟨b, _, none⟩) hb0).trans (hc k hlt 1 _ rfl)
        have c2 := (gw.cell (p := ⟨b, _, none⟩) hb0).trans (hc k hlt 2 _ rfl)
        have c3 := (gw.cell (p := ⟨b, _, none⟩) hb0).trans (hc k hlt 3 _ rfl)
        have hb1 : b < wr.heap.size := Nat.lt_of_lt_of_le hb0 gw.size
        clear hc gw hb
        simp at c0
        have hs2 : mir l[k] = ⟨-l[k].gx, l[k].gy, l[k].lo, l[k].hi⟩ := rfl
        generalize l[k].gx = e1 at hs2 c0 t1 t2
        generalize l[k].gy = e2 at hs2 c1
        generalize l[k].lo = e3 at hs2 c2
        generalize l[k].hi = e4 at hs2 c3
        have HS := Lib.hid hs2
        have HO := Lib.hid hown
        clear hs2 hown hv hp
        go_wp2_with (at_builtin; refine wpList_append_own _ rfl (.tmp 22) (.tmp 24) 45 rfl w1.heap.size 65 i1 (.agg #[.int .i64 0, .int .i64 0, .int .i64 0, .int .i64 0]) 4 32 shU hj hy0 hy1 hy2 rfl (by decide) _ _ _ rfl (ownsRow_keep HO.out (by (repeat (first | exact Below.refl _ _ | refine Below.drew ?_ | refine Below.allocS ?_ _ | refine Below.step ?_ (by assumption) | refine Below.setCell ?_ (by simp <;> omega) _ | refine Below.drewN' ?_ _)))) ⟨wr.heap.size + 1, 0, none⟩ 1 1 [.int .i64 (-e1), .int .i64 e2, .int .i64 e3, .int .i64 e4] rfl rfl (new_cells _ _ [.int .i64 (-e1), .int .i64 e2, .int .i64 e3, .int .i64 e4] _ (by simp)) (by simp [Value.oneCell']) (by unfold maxLen; omega) (by omega) (by simp; omega) ?_; intro v2 w2 hown2 hgrow2 hnil2)
        go_roundw
        case rel => exact ⟨k + 1, by omega, by go_num, by rw [take_snoc _ _ (by simpa using hlt), List.getElem_map, HS.out]; exact row_snoc hown2 rfl, Below.grow (Below.step hbw (by (repeat (first | exact Below.refl _ _ | refine Below.drew ?_ | refine Below.allocS ?_ _ | refine Below.step ?_ (by assumption) | refine Below.setCell ?_ (by simp <;> omega) _ | refine Below.drewN' ?_ _)))) (ownsRow_keep HO.out (by (repeat (first | exact Below.refl _ _ | refine Below.drew ?_ | refine Below.allocS ?_ _ | refine Below.step ?_ (by assumption) | refine Below.setCell ?_ (by simp <;> omega) _ | refine Below.drewN' ?_ _)))) hgrow2 rfl (by simp; omega)⟩
        case measure => simp [intOf]; omega
      · obtain rfl : k = l.length := by omega
        rw [List.take_of_length_le (by simp)] at hown
        have HO := Lib.hid hown
        clear hown
        go_wp2
        go_ret2
        exact ⟨_, rfl, IsSl.of_row shE_len HO.out (by simp), by (repeat (first | exact Below.refl _ _ | refine Below.drew ?_ | refine Below.allocS ?_ _ | refine Below.step ?_ (by assumption) | refine Below.setCell ?_ (by simp <;> omega) _ | refine Below.drewN' ?_ _))⟩

def alE (s v x y a b c d : Int) : Int := if lagE s v x y a b = 0 then lagE s v x y c d else lagE s v x y a b
def alV (s v x y a b c d : Int) : Bool := if alE s v x y a b c d = 0 then decide (LLo s v x y a b = LLo s v x y c d) && decide (LHi s v x y a b = LHi s v x y c d) else false
theorem askedE_three (s v x y a b c d : Int) : askedE s v [(x, y), (a, b), (c, d)] = alE s v x y a b c d := by
  unfold askedE alE lagE
  cases validAir s v <;> cases h' : place a b <;> cases h : place c d <;> cases h'' : place x y <;> simp [h, h', h'']
theorem asked_three (s v x y a b c d : Int) (g : Nat) (w : World) (hg : g < w.heap.size) (h0 : w.cell? ⟨g, 0, none⟩ = some (.int .i64 x)) (h1 : w.cell? ⟨g, 1, none⟩ = some (.int .i64 y)) (h2 : w.cell? ⟨g, 2, none⟩ = some (.int .i64 a)) (h3 : w.cell? ⟨g, 3, none⟩ = some (.int .i64 b)) (h4 : w.cell? ⟨g, 4, none⟩ = some (.int .i64 c)) (h5 : w.cell? ⟨g, 5, none⟩ = some (.int .i64 d)) :
    Calls Try.prog 51 #[.agg #[.int .i64 s, .int .i64 v], .slice (some ⟨g, 0, none⟩) 3 3] w fun e w' => e = .returned (.int .i64 (alE s v x y a b c d)) ∧ Below w.heap.size w w' := by
  rw [← askedE_three]
  refine asked_c s v [(x, y), (a, b), (c, d)] (some ⟨g, 0, none⟩) 3 (by simp) w ?_
  intro _
  refine ⟨g, 0, rfl, hg, fun i hi j v hv => ?_⟩
  have hi' : i = 0 ∨ i = 1 ∨ i = 2 := by simp at hi; omega
  have hj' : j = 0 ∨ j = 1 := by have := (List.getElem?_eq_some_iff.1 hv).1; simp [ptE] at this; omega
  rcases hi' with rfl | rfl | rfl <;> rcases hj' with rfl | rfl <;> (simp [ptE] at hv; subst hv; assumption)
theorem eqSpan (a1 a2 d1 d2 : Int) (W : World) : (binOp .eql 29 (.agg #[.int .i64 a1, .int .i64 a2]) (.agg #[.int .i64 d1, .int .i64 d2])).run Try.prog W = .ok (.bool (decide (a1 = d1) && decide (a2 = d2))) W := by
  by_cases h1 : a1 = d1 <;> by_cases h2 : a2 = d2 <;> simp [go_sem, h1, h2]

set_option maxHeartbeats 4000000 in
set_option maxRecDepth 100000 in
theorem Alike_c (s v x y a b c d : Int) (w : World) :
    Calls Try.prog 43 #[.agg #[.int .i64 s, .int .i64 v], .agg #[.int .i64 x, .int .i64 y], .agg #[.int .i64 a, .int .i64 b], .agg #[.int .i64 c, .int .i64 d]] w fun e w' => e = .returned (.tuple #[.bool (alV s v x y a b c d), .int .i64 (alE s v x y a b c d)]) ∧ Below w.heap.size w w' := by
  by_cases he : alE s v x y a b c d = 0
  · have h1 : lagE s v x y a b = 0 := by
      unfold alE at he
      by_cases h : lagE s v x y a b = 0
      · exact h
      · rw [if_neg h] at he; exact he
    have h2 : lagE s v x y c d = 0 := by rw [alE, if_pos h1] at he; exact he
    have hv : alV s v x y a b c d = (decide (lagLo s v (dd x y a b) = lagLo s v (dd x y c d)) && decide (lagHi s v (dd x y a b) = lagHi s v (dd x y c d))) := by
      unfold alV; rw [if_pos he, LLo_ok h1, LLo_ok h2, LHi_ok h1, LHi_ok h2]
    obtain ⟨p1, p2, p3⟩ := lagE_ok h1
    obtain ⟨-, -, p4⟩ := lagE_ok h2
    have hA := Lib.hid (fun g W q q0 q1 q2 q3 q4 q5 => asked_three s v x y a b c d g W q q0 q1 q2 q3 q4 q5)
    have hK := Lib.hid (fun W => lag_c s v x y a b p1 p2 p3 W)
    have hM := Lib.hid (fun W => lag_c s v x y c d p1 p2 p4 W)
    rw [he] at hA
    rw [he, hv]
    clear hv h1 h2
    generalize lagLo s v (dd x y a b) = a1 at hK ⊢
    generalize lagHi s v (dd x y a b) = a2 at hK ⊢
    generalize lagLo s v (dd x y c d) = d1 at hM ⊢
    generalize lagHi s v (dd x y c d) = d2 at hM ⊢
    have fq := eqSpan a1 a2 d1 d2
    generalize hR : (decide (a1 = d1) && decide (a2 = d2)) = R at fq ⊢
    clear hR he
    go_enter Try.func43, Try.ntmps43
    go_wp2_with fail
    refine (hA.out _ _ (by simp) (by simp [go_sem]) (by simp [go_sem]) (by simp [go_sem]) (by simp [go_sem]) (by simp [go_sem]) (by simp [go_sem])).mono ?_
    rintro e w1 ⟨rfl, hb1⟩
    have x1_0_0 : w1.cell? ⟨w.heap.size, 0, none⟩ = some (.int .i64 s) := keep_cell hb1 (by simp [go_sem, *])
    have x1_0_1 : w1.cell? ⟨w.heap.size, 1, none⟩ = some (.int .i64 v) := keep_cell hb1 (by simp [go_sem, *])
    have y1_0 : w.heap.size < w1.heap.size := cell?_lt x1_0_0
    have x1_1_0 : w1.cell? ⟨w.heap.size + 1, 0, none⟩ = some (.int .i64 x) := keep_cell hb1 (by simp [go_sem, *])
    have x1_1_1 : w1.cell? ⟨w.heap.size + 1, 1, none⟩ = some (.int .i64 y) := keep_cell hb1 (by simp [go_sem, *])
    have y1_1 : w.heap.size + 1 < w1.heap.size := cell?_lt x1_1_0
    have x1_2_0 : w1.cell? ⟨w.heap.size + 1 + 1, 0, none⟩ = some (.int .i64 a) := keep_cell hb1 (by simp [go_sem, *])
    have x1_2_1 : w1.cell? ⟨w.heap.size + 1 + 1, 1, none⟩ = some (.int .i64 b) := keep_cell hb1 (by simp [go_sem, *])
    have y1_2 : w.heap.size + 1 + 1 < w1.heap.size := cell?_lt x1_2_0
    have x1_3_0 : w1.cell? ⟨w.heap.size + 1 + 1 + 1, 0, none⟩ = some (.int .i64 c) := keep_cell hb1 (by simp [go_sem, *])
    have x1_3_1 : w1.cell? ⟨w.heap.size + 1 + 1 + 1, 1, none⟩ = some (.int .i64 d) := keep_cell hb1 (by simp [go_sem, *])
    have y1_3 : w.heap.size + 1 + 1 + 1 < w1.heap.size := cell?_lt x1_3_0
    have g1 : Below w.heap.size w w1 := by (repeat (first | exact Below.refl _ _ | refine Below.drew ?_ | refine Below.allocS ?_ _ | refine Below.step ?_ (by assumption) | refine Below.setCell ?_ (by simp <;> omega) _ | refine Below.drewN' ?_ _))
    clear hb1
    go_wp2_with fail
    go_region_held3 (fun W => W.cell? ⟨w.heap.size, 0, none⟩ = some (.int .i64 s) ∧ W.cell? ⟨w.heap.size, 1, none⟩ = some (.int .i64 v) ∧ W.cell? ⟨w.heap.size + 1, 0, none⟩ = some (.int .i64 x) ∧ W.cell? ⟨w.heap.size + 1, 1, none⟩ = some (.int .i64 y) ∧ W.cell? ⟨w.heap.size + 1 + 1, 0, none⟩ = some (.int .i64 a) ∧ W.cell? ⟨w.heap.size + 1 + 1, 1, none⟩ = some (.int .i64 b) ∧ W.cell? ⟨w.heap.size + 1 + 1 + 1, 0, none⟩ = some (.int .i64 c) ∧ W.cell? ⟨w.heap.size + 1 + 1 + 1, 1, none⟩ = some (.int .i64 d) ∧ Below w.heap.size w W) (first | assumption | (exact And.imp (keep_cell (by assumption)) (And.imp (keep_cell (by assumption)) (And.imp (keep_cell (by assumption)) (And.imp (keep_cell (by assumption)) (And.imp (keep_cell (by assumption)) (And.imp (keep_cell (by assumption)) (And.imp (keep_cell (by assumption)) (And.imp (keep_cell (by assumption)) (fun h => Below.step h (by assumption))))))))) (by assumption)) | exact ⟨by simp [go_sem, *], by simp [go_sem, *], by simp [go_sem, *], by simp [go_sem, *], by simp [go_sem, *], by simp [go_sem, *], by simp [go_sem, *], by simp [go_sem, *], by (repeat (first | exact Below.refl _ _ | refine Below.drew ?_ | refine Below.allocS ?_ _ | refine Below.step ?_ (by assumption) | refine Below.setCell ?_ (by simp <;> omega) _ | refine Below.drewN' ?_ _))⟩)
      (first
        | (go_at_call 52; (with_reducible refine (hK.out _).mono ?_); rintro e w2 ⟨rfl, hb⟩)
        | (go_at_call 52; (with_reducible refine (hM.out _).mono ?_); rintro e w2 ⟨rfl, hb⟩))
    obtain ⟨-, -, -, -, -, -, -, -, s8⟩ := (fun (h : _ ∧ _ ∧ _ ∧ _ ∧ _ ∧ _ ∧ _ ∧ _ ∧ Below w.heap.size w _) => h) (by assumption)
    go_wp2
    go_ret2
    exact ⟨rfl, s8⟩
  · have hv : alV s v x y a b c d = false := by unfold alV; rw [if_neg he]
    have hn : (alE s v x y a b c d != 0) = true := by simpa using he
    rw [hv]
    clear hv he
    go_enter Try.func43, Try.ntmps43
    go_wp2_with fail
    refine (asked_three s v x y a b c d _ _ (by simp) (by simp [go_sem]) (by simp [go_sem]) (by simp [go_sem]) (by simp [go_sem]) (by simp [go_sem]) (by simp [go_sem])).mono ?_
    rintro e w1 ⟨rfl, hb1⟩
    have x1_0_0 : w1.cell? ⟨w.heap.size, 0, none⟩ = some (.int .i64 s) := keep_cell hb1 (by simp [go_sem, *])
    have x1_0_1 : w1.cell? ⟨w.heap.size, 1, none⟩ = some (.int .i64 v) := keep_cell hb1 (by simp [go_sem, *])
    have y1_0 : w.heap.size < w1.heap.size := cell?_lt x1_0_0
    have x1_1_0 : w1.cell? ⟨w.heap.size + 1, 0, none⟩ = some (.int .i64 x) := keep_cell hb1 (by simp [go_sem, *])
    have x1_1_1 : w1.cell? ⟨w.heap.size + 1, 1, none⟩ = some (.int .i64 y) := keep_cell hb1 (by simp [go_sem, *])
    have y1_1 : w.heap.size + 1 < w1.heap.size := cell?_lt x1_1_0
    have x1_2_0 : w1.cell? ⟨w.heap.size + 1 + 1, 0, none⟩ = some (.int .i64 a) := keep_cell hb1 (by simp [go_sem, *])
    have x1_2_1 : w1.cell? ⟨w.heap.size + 1 + 1, 1, none⟩ = some (.int .i64 b) := keep_cell hb1 (by simp [go_sem, *])
    have y1_2 : w.heap.size + 1 + 1 < w1.heap.size := cell?_lt x1_2_0
    have x1_3_0 : w1.cell? ⟨w.heap.size + 1 + 1 + 1, 0, none⟩ = some (.int .i64 c) := keep_cell hb1 (by simp [go_sem, *])
    have x1_3_1 : w1.cell? ⟨w.heap.size + 1 + 1 + 1, 1, none⟩ = some (.int .i64 d) := keep_cell hb1 (by simp [go_sem, *])
    have y1_3 : w.heap.size + 1 + 1 + 1 < w1.heap.size := cell?_lt x1_3_0
    have g1 : Below w.heap.size w w1 := by (repeat (first | exact Below.refl _ _ | refine Below.drew ?_ | refine Below.allocS ?_ _ | refine Below.step ?_ (by assumption) | refine Below.setCell ?_ (by simp <;> omega) _ | refine Below.drewN' ?_ _))
    clear hb1
    go_wp2
    go_ret2
    exact ⟨rfl, by (repeat (first | exact Below.refl _ _ | refine Below.drew ?_ | refine Below.allocS ?_ _ | refine Below.step ?_ (by assumption) | refine Below.setCell ?_ (by simp <;> omega) _ | refine Below.drewN' ?_ _))⟩

set_option maxHeartbeats 1000000 in
theorem rAlike_c (s v x y a b c d : Int) (w : World) :
    Calls Try.prog 44 #[.agg #[.int .i64 s, .int .i64 v], .agg #[.int .i64 x, .int .i64 y], .agg #[.int .i64 a, .int .i64 b], .agg #[.int .i64 c, .int .i64 d]] w fun e w' => e = .returned (.tuple #[.bool (alV s v x y a b c d), .int .i64 (alE s v x y a b c d)]) ∧ Below w.heap.size w w' := by
  have hK := Lib.hid (fun W => rLag_c s v x y a b W)
  have hM := Lib.hid (fun W => rLag_c s v x y c d W)
  unfold alV alE
  generalize lagE s v x y a b = E at hK ⊢
  generalize lagE s v x y c d = F at hM ⊢
  generalize LLo s v x y a b = a1 at hK ⊢
  generalize LHi s v x y a b = a2 at hK ⊢
  generalize LLo s v x y c d = d1 at hM ⊢
  generalize LHi s v x y c d = d2 at hM ⊢
  by_cases h1 : E = 0
  · subst h1
    rw [if_pos rfl]
    by_cases h2 : F = 0
    · subst h2
      rw [if_pos rfl]
      have fq := eqSpan a1 a2 d1 d2
      generalize hR : (decide (a1 = d1) && decide (a2 = d2)) = R at fq ⊢
      clear hR
      go_enter Try.func44, Try.ntmps44
      go_wp2_with fail
      refine (hK.out _).mono ?_
      rintro e w1 ⟨rfl, hb1⟩
      have x1_0_0 : w1.cell? ⟨w.heap.size, 0, none⟩ = some (.int .i64 s) := keep_cell hb1 (by simp [go_sem, *])
      have x1_0_1 : w1.cell? ⟨w.heap.size, 1, none⟩ = some (.int .i64 v) := keep_cell hb1 (by simp [go_sem, *])
      have y1_0 : w.heap.size < w1.heap.size := cell?_lt x1_0_0
      have x1_1_0 : w1.cell? ⟨w.heap.size + 1, 0, none⟩ = some (.int .i64 x) := keep_cell hb1 (by simp [go_sem, *])
      have x1_1_1 : w1.cell? ⟨w.heap.size + 1, 1, none⟩ = some (.int .i64 y) := keep_cell hb1 (by simp [go_sem, *])
      have y1_1 : w.heap.size + 1 < w1.heap.size := cell?_lt x1_1_0
      have x1_2_0 : w1.cell? ⟨w.heap.size + 1 + 1, 0, none⟩ = some (.int .i64 a) := keep_cell hb1 (by simp [go_sem, *])
      have x1_2_1 : w1.cell? ⟨w.heap.size + 1 + 1, 1, none⟩ = some (.int .i64 b) := keep_cell hb1 (by simp [go_sem, *])
      have y1_2 : w.heap.size + 1 + 1 < w1.heap.size := cell?_lt x1_2_0
      have x1_3_0 : w1.cell? ⟨w.heap.size + 1 + 1 + 1, 0, none⟩ = some (.int .i64 c) := keep_cell hb1 (by simp [go_sem, *])
      have x1_3_1 : w1.cell? ⟨w.heap.size + 1 + 1 + 1, 1, none⟩ = some (.int .i64 d) := keep_cell hb1 (by simp [go_sem, *])
      have y1_3 : w.heap.size + 1 + 1 + 1 < w1.heap.size := cell?_lt x1_3_0
      have g1 : Below w.heap.size w w1 := by (repeat (first | exact Below.refl _ _ | refine Below.drew ?_ | refine Below.allocS ?_ _ | refine Below.step ?_ (by assumption) | refine Below.setCell ?_ (by simp <;> omega) _ | refine Below.drewN' ?_ _))
      clear hb1
      go_wp2_with fail
      refine (hM.out _).mono ?_
      rintro e w2 ⟨rfl, hb2⟩
      have x2_0_0 : w2.cell? ⟨w.heap.size, 0, none⟩ = some (.int .i64 s) := keep_cell hb2 (by simp [go_sem, *])
      have x2_0_1 : w2.cell? ⟨w.heap.size, 1, none⟩ = some (.int .i64 v) := keep_cell hb2 (by simp [go_sem, *])
      have y2_0 : w.heap.size < w2.heap.size := cell?_lt x2_0_0
      have x2_1_0 : w2.cell? ⟨w.heap.size + 1, 0, none⟩ = some (.int .i64 x) := keep_cell hb2 (by simp [go_sem, *])
      have x2_1_1 : w2.cell? ⟨w.heap.size + 1, 1, none⟩ = some (.int .i64 y) := keep_cell hb2 (by simp [go_sem, *])
      have y2_1 : w.heap.size + 1 < w2.heap.size := cell?_lt x2_1_0
      have x2_2_0 : w2.cell? ⟨w.heap.size + 1 + 1, 0, none⟩ = some (.int .i64 a) := keep_cell hb2 (by simp [go_sem, *])
      have x2_2_1 : w2.cell? ⟨w.heap.size + 1 + 1, 1, none⟩ = some (.int .i64 b) := keep_cell hb2 (by simp [go_sem, *])
      have y2_2 : w.heap.size + 1 + 1 < w2.heap.size := cell?_lt x2_2_0
      have x2_3_0 : w2.cell? ⟨w.heap.size + 1 + 1 + 1, 0, none⟩ = some (.int .i64 c) := keep_cell hb2 (by simp [go_sem, *])
      have x2_3_1 : w2.cell? ⟨w.heap.size + 1 + 1 + 1, 1, none⟩ = some (.int .i64 d) := keep_cell hb2 (by simp [go_sem, *])
      have y2_3 : w.heap.size + 1 + 1 + 1 < w2.heap.size := cell?_lt x2_3_0
      have x2_4_0 : w2.cell? ⟨w1.heap.size, 0, none⟩ = some (.int .i64 a1) := keep_cell hb2 (by simp [go_sem, *])
      have x2_4_1 : w2.cell? ⟨w1.heap.size, 1, none⟩ = some (.int .i64 a2) := keep_cell hb2 (by simp [go_sem, *])
      have y2_4 : w1.heap.size < w2.heap.size := cell?_lt x2_4_0
      have g2 : Below w.heap.size w w2 := by (repeat (first | exact Below.refl _ _ | refine Below.drew ?_ | refine Below.allocS ?_ _ | refine Below.step ?_ (by assumption) | refine Below.setCell ?_ (by simp <;> omega) _ | refine Below.drewN' ?_ _))
      clear hb2 g1 x1_0_0 x1_0_1 x1_1_0 x1_1_1 x1_2_0 x1_2_1 x1_3_0 x1_3_1 y1_0 y1_1 y1_2 y1_3
      go_wp2
      go_ret2
      exact ⟨rfl, by (repeat (first | exact Below.refl _ _ | refine Below.drew ?_ | refine Below.allocS ?_ _ | refine Below.step ?_ (by assumption) | refine Below.setCell ?_ (by simp <;> omega) _ | refine Below.drewN' ?_ _))⟩
    · have hn : (F != 0) = true := by simpa using h2
      rw [if_neg h2]
      clear h2
      go_enter Try.func44, Try.ntmps44
      go_wp2_with fail
      refine (hK.out _).mono ?_
      rintro e w1 ⟨rfl, hb1⟩
      have x1_0_0 : w1.cell? ⟨w.heap.size, 0, none⟩ = some (.int .i64 s) := keep_cell hb1 (by simp [go_sem, *])
      have x1_0_1 : w1.cell? ⟨w.heap.size, 1, none⟩ = some (.int .i64 v) := keep_cell hb1 (by simp [go_sem, *])
      have y1_0 : w.heap.size < w1.heap.size := cell?_lt x1_0_0
      have x1_1_0 : w1.cell? ⟨w.heap.size + 1, 0, none⟩ = some (.int .i64 x) := keep_cell hb1 (by simp [go_sem, *])
      have x1_1_1 : w1.cell? ⟨w.heap.size + 1, 1, none⟩ = some (.int .i64 y) := keep_cell hb1 (by simp [go_sem, *])
      have y1_1 : w.heap.size + 1 < w1.heap.size := cell?_lt x1_1_0
      have x1_2_0 : w1.cell? ⟨w.heap.size + 1 + 1, 0, none⟩ = some (.int .i64 a) := keep_cell hb1 (by simp [go_sem, *])
      have x1_2_1 : w1.cell? ⟨w.heap.size + 1 + 1, 1, none⟩ = some (.int .i64 b) := keep_cell hb1 (by simp [go_sem, *])
      have y1_2 : w.heap.size + 1 + 1 < w1.heap.size := cell?_lt x1_2_0
      have x1_3_0 : w1.cell? ⟨w.heap.size + 1 + 1 + 1, 0, none⟩ = some (.int .i64 c) := keep_cell hb1 (by simp [go_sem, *])
      have x1_3_1 : w1.cell? ⟨w.heap.size + 1 + 1 + 1, 1, none⟩ = some (.int .i64 d) := keep_cell hb1 (by simp [go_sem, *])
      have y1_3 : w.heap.size + 1 + 1 + 1 < w1.heap.size := cell?_lt x1_3_0
      have g1 : Below w.heap.size w w1 := by (repeat (first | exact Below.refl _ _ | refine Below.drew ?_ | refine Below.allocS ?_ _ | refine Below.step ?_ (by assumption) | refine Below.setCell ?_ (by simp <;> omega) _ | refine Below.drewN' ?_ _))
      clear hb1
      go_wp2_with fail
      refine (hM.out _).mono ?_
      rintro e w2 ⟨rfl, hb2⟩
      have x2_0_0 : w2.cell? ⟨w.heap.size, 0, none⟩ = some (.int .i64 s) := keep_cell hb2 (by simp [go_sem, *])
      have x2_0_1 : w2.cell? ⟨w.heap.size, 1, none⟩ = some (.int .i64 v) := keep_cell hb2 (by simp [go_sem, *])
      have y2_0 : w.heap.size < w2.heap.size := cell?_lt x2_0_0
      have x2_1_0 : w2.cell? ⟨w.heap.size + 1, 0, none⟩ = some (.int .i64 x) := keep_cell hb2 (by simp [go_sem, *])
      have x2_1_1 : w2.cell? ⟨w.heap.size + 1, 1, none⟩ = some (.int .i64 y) := keep_cell hb2 (by simp [go_sem, *])
      have y2_1 : w.heap.size + 1 < w2.heap.size := cell?_lt x2_1_0
      have x2_2_0 : w2.cell? ⟨w.heap.size + 1 + 1, 0, none⟩ = some (.int .i64 a) := keep_cell hb2 (by simp [go_sem, *])
      have x2_2_1 : w2.cell? ⟨w.heap.size + 1 + 1, 1, none⟩ = some (.int .i64 b) := keep_cell hb2 (by simp [go_sem, *])
      have y2_2 : w.heap.size + 1 + 1 < w2.heap.size := cell?_lt x2_2_0
      have x2_3_0 : w2.cell? ⟨w.heap.size + 1 + 1 + 1, 0, none⟩ = some (.int .i64 c) := keep_cell hb2 (by simp [go_sem, *])
      have x2_3_1 : w2.cell? ⟨w.heap.size + 1 + 1 + 1, 1, none⟩ = some (.int .i64 d) := keep_cell hb2 (by simp [go_sem, *])
      have y2_3 : w.heap.size + 1 + 1 + 1 < w2.heap.size := cell?_lt x2_3_0
      have x2_4_0 : w2.cell? ⟨w1.heap.size, 0, none⟩ = some (.int .i64 a1) := keep_cell hb2 (by simp [go_sem, *])
      have x2_4_1 : w2.cell? ⟨w1.heap.size, 1, none⟩ = some (.int .i64 a2) := keep_cell hb2 (by simp [go_sem, *])
      have y2_4 : w1.heap.size < w2.heap.size := cell?_lt x2_4_0
      have g2 : Below w.heap.size w w2 := by (repeat (first | exact Below.refl _ _ | refine Below.drew ?_ | refine Below.allocS ?_ _ | refine Below.step ?_ (by assumption) | refine Below.setCell ?_ (by simp <;> omega) _ | refine Below.drewN' ?_ _))
      clear hb2 g1 x1_0_0 x1_0_1 x1_1_0 x1_1_1 x1_2_0 x1_2_1 x1_3_0 x1_3_1 y1_0 y1_1 y1_2 y1_3
      go_wp2
      go_ret2
      exact ⟨rfl, by (repeat (first | exact Below.refl _ _ | refine Below.drew ?_ | refine Below.allocS ?_ _ | refine Below.step ?_ (by assumption) | refine Below.setCell ?_ (by simp <;> omega) _ | refine Below.drewN' ?_ _))⟩
  · have hn : (E != 0) = true := by simpa using h1
    rw [if_neg h1, if_neg h1]
    clear h1
    go_enter Try.func44, Try.ntmps44
    go_wp2_with fail
    refine (hK.out _).mono ?_
    rintro e w1 ⟨rfl, hb1⟩
    have x1_0_0 : w1.cell? ⟨w.heap.size, 0, none⟩ = some (.int .i64 s) := keep_cell hb1 (by simp [go_sem, *])
    have x1_0_1 : w1.cell? ⟨w.heap.size, 1, none⟩ = some (.int .i64 v) := keep_cell hb1 (by simp [go_sem, *])
    have y1_0 : w.heap.size < w1.heap.size := cell?_lt x1_0_0
    have x1_1_0 : w1.cell? ⟨w.heap.size + 1, 0, none⟩ = some (.int .i64 x) := keep_cell hb1 (by simp [go_sem, *])
    have x1_1_1 : w1.cell? ⟨w.heap.size + 1, 1, none⟩ = some (.int .i64 y) := keep_cell hb1 (by simp [go_sem, *])
    have y1_1 : w.heap.size + 1 < w1.heap.size := cell?_lt x1_1_0
    have x1_2_0 : w1.cell? ⟨w.heap.size + 1 + 1, 0, none⟩ = some (.int .i64 a) := keep_cell hb1 (by simp [go_sem, *])
    have x1_2_1 : w1.cell? ⟨w.heap.size + 1 + 1, 1, none⟩ = some (.int .i64 b) := keep_cell hb1 (by simp [go_sem, *])
    have y1_2 : w.heap.size + 1 + 1 < w1.heap.size := cell?_lt x1_2_0
    have x1_3_0 : w1.cell? ⟨w.heap.size + 1 + 1 + 1, 0, none⟩ = some (.int .i64 c) := keep_cell hb1 (by simp [go_sem, *])
    have x1_3_1 : w1.cell? ⟨w.heap.size + 1 + 1 + 1, 1, none⟩ = some (.int .i64 d) := keep_cell hb1 (by simp [go_sem, *])
    have y1_3 : w.heap.size + 1 + 1 + 1 < w1.heap.size := cell?_lt x1_3_0
    have g1 : Below w.heap.size w w1 := by (repeat (first | exact Below.refl _ _ | refine Below.drew ?_ | refine Below.allocS ?_ _ | refine Below.step ?_ (by assumption) | refine Below.setCell ?_ (by simp <;> omega) _ | refine Below.drewN' ?_ _))
    clear hb1
    go_wp2_with fail
    refine (hM.out _).mono ?_
    rintro e w2 ⟨rfl, hb2⟩
    have x2_0_0 : w2.cell? ⟨w.heap.size, 0, none⟩ = some (.int .i64 s) := keep_cell hb2 (by simp [go_sem, *])
    have x2_0_1 : w2.cell? ⟨w.heap.size, 1, none⟩ = some (.int .i64 v) := keep_cell hb2 (by simp [go_sem, *])
    have y2_0 : w.heap.size < w2.heap.size := cell?_lt x2_0_0
    have x2_1_0 : w2.cell? ⟨w.heap.size + 1, 0, none⟩ = some (.int .i64 x) := keep_cell hb2 (by simp [go_sem, *])
    have x2_1_1 : w2.cell? ⟨w.heap.size + 1, 1, none⟩ = some (.int .i64 y) := keep_cell hb2 (by simp [go_sem, *])
    have y2_1 : w.heap.size + 1 < w2.heap.size := cell?_lt x2_1_0
    have x2_2_0 : w2.cell? ⟨w.heap.size + 1 + 1, 0, none⟩ = some (.int .i64 a) := keep_cell hb2 (by simp [go_sem, *])
    have x2_2_1 : w2.cell? ⟨w.heap.size + 1 + 1, 1, none⟩ = some (.int .i64 b) := keep_cell hb2 (by simp [go_sem, *])
    have y2_2 : w.heap.size + 1 + 1 < w2.heap.size := cell?_lt x2_2_0
    have x2_3_0 : w2.cell? ⟨w.heap.size + 1 + 1 + 1, 0, none⟩ = some (.int .i64 c) := keep_cell hb2 (by simp [go_sem, *])
    have x2_3_1 : w2.cell? ⟨w.heap.size + 1 + 1 + 1, 1, none⟩ = some (.int .i64 d) := keep_cell hb2 (by simp [go_sem, *])
    have y2_3 : w.heap.size + 1 + 1 + 1 < w2.heap.size := cell?_lt x2_3_0
    have x2_4_0 : w2.cell? ⟨w1.heap.size, 0, none⟩ = some (.int .i64 a1) := keep_cell hb2 (by simp [go_sem, *])
    have x2_4_1 : w2.cell? ⟨w1.heap.size, 1, none⟩ = some (.int .i64 a2) := keep_cell hb2 (by simp [go_sem, *])
    have y2_4 : w1.heap.size < w2.heap.size := cell?_lt x2_4_0
    have g2 : Below w.heap.size w w2 := by (repeat (first | exact Below.refl _ _ | refine Below.drew ?_ | refine Below.allocS ?_ _ | refine Below.step ?_ (by assumption) | refine Below.setCell ?_ (by simp <;> omega) _ | refine Below.drewN' ?_ _))
    clear hb2 g1 x1_0_0 x1_0_1 x1_1_0 x1_1_1 x1_2_0 x1_2_1 x1_3_0 x1_3_1 y1_0 y1_1 y1_2 y1_3
    go_wp2
    go_ret2
    exact ⟨rfl, by (repeat (first | exact Below.refl _ _ | refine Below.drew ?_ | refine Below.allocS ?_ _ | refine Below.step ?_ (by assumption) | refine Below.setCell ?_ (by simp <;> omega) _ | refine Below.drewN' ?_ _))⟩
end Go.Proofs.Ytgiplkfdallmkaa
