/-
  Clone and Mirrored of gun (as in U3, without what stands ahead of it).
-/
import Derived.Test.YtgiplkfdallmkaaV9
import Derived.Test.YtgiplkfdallmkaaS3
import Derived.Laws.OwnMore
namespace Go.Proofs.Ytgiplkfdallmkaa
open Go.RowKit Go.Deep
set_option linter.unusedVariables false

/-- A store into a row of the call's own. -/
theorem ownsRow_set {W : World} {base sz n cap g : Nat} {e : TypeId} {xs : List Value} (h : W.ownsRow base e sz (.slice (some ⟨g, 0, none⟩) n cap) n xs) (j : Nat) (u : Value) : (W.setCell ⟨g, j, none⟩ u).ownsRow base e sz (.slice (some ⟨g, 0, none⟩) n cap) n (xs.set j u) := by
  refine ⟨by rw [List.length_set]; exact h.1, ?_⟩
  rcases h.2 with ⟨h0, _⟩ | ⟨g', cap', cur, hv, hg0, hg, h1, h2, h3, h4⟩
  · cases h0
  · injection hv with hA hn hc
    injection hA with hA
    injection hA with hb
    subst hb hc
    refine Or.inr ⟨g, cap, cur.setIfInBounds j u, rfl, hg0, ?_, h1, h2, by simpa using h3, ?_⟩
    · exact heap_setCell_same W g j cur e u hg
    · rw [Array.toList_setIfInBounds, List.take_set, h4]
theorem shI : (Try.prog.info? 65).map (fun i => (i.zero, i.size, i.bytes)) = some (some (.agg #[.int .i64 0, .int .i64 0, .int .i64 0, .int .i64 0]), 4, 32) := by kernel_rfl
theorem shU : Try.prog.underlying 45 = some (.slice 65) := by kernel_rfl
theorem shE_len (x : Shot) : (shE x).length = 4 := rfl
theorem shE_one (l : List Shot) : ∀ u ∈ l.flatMap shE, u.oneCell' = true := by
  intro u hu
  obtain ⟨x, _, hx⟩ := List.mem_flatMap.1 hu
  simp [shE] at hx
  rcases hx with rfl | rfl | rfl | rfl <;> rfl

theorem empty_row (W : World) (t : TypeId) (sz : Nat) : (W.alloc (.cells #[] t)).ownsRow W.heap.size t sz (.slice (some ⟨W.heap.size, 0, none⟩) 0 0) 0 [] :=
  ⟨by simp, Or.inr ⟨W.heap.size, 0, #[], rfl, Nat.le_refl _, by rw [show (W.alloc (.cells #[] t)).heap = W.heap.push (.cells #[] t) from rfl]; simp, Nat.le_refl _, Nat.zero_le _, by simp, by simp⟩⟩

theorem ownsRow_succ' {W : World} {base : Nat} {e : TypeId} {size : Nat} {v : Value} {k : Nat} {xs : List Value} (h : W.ownsRow base e size v k xs) (hk : 0 < k) : ∃ g cap, v = .slice (some ⟨g, 0, none⟩) k cap := by
  obtain ⟨n, rfl⟩ : ∃ n, k = n + 1 := ⟨k - 1, by omega⟩
  exact ownsRow_succ h

set_option maxRecDepth 100000 in
theorem CloneSh_c (l : List Shot) (A : Option Addr) (cap : Nat) (h0 : 0 < l.length) (hl : l.length ≤ 1000) (w : World) (hr : RdL w w.heap.size shE 4 A l) :
    Calls Try.prog 77 #[.slice A l.length cap] w fun e w' => ∃ u, e = .returned u ∧ w'.ownsRow w.heap.size 65 4 u l.length (l.flatMap shE) ∧ Below w.heap.size w w' := by
  obtain ⟨i1, hj, hy0, hy1, hy2⟩ := info_parts shI
  have HR := Lib.hid hr
  obtain ⟨b, off, rfl, hb0, hc⟩ := hr h0
  clear hr hc
  have he : ∀ W : World, (binOp .eql 45 (.slice (some ⟨b, off, none⟩) l.length cap) (.slice none 0 0)).run Try.prog W = .ok (.bool false) W := fun _ => by kernel_rfl
  go_enter Try.func77, Try.ntmps77
  go_wp2_with (at_builtin; refine wpList_append_own _ rfl (.tmp 5) (.tmp 6) 45 rfl w.heap.size 65 i1 (.agg #[.int .i64 0, .int .i64 0, .int .i64 0, .int .i64 0]) 4 32 shU hj hy0 hy1 hy2 rfl (by decide) _ 0 [] rfl (empty_row _ _ _) ⟨b, off, none⟩ l.length cap (l.flatMap shE) rfl (flat_len shE 4 shE_len l) (HR.out.olds shE_len (by decide) (by (repeat (first | exact Below.refl _ _ | refine Below.drew ?_ | refine Below.allocS ?_ _ | refine Below.step ?_ (by assumption) | refine Below.setCell ?_ (by simp <;> omega) _ | refine Below.drewN' ?_ _))) _ rfl) (shE_one l) (by unfold maxLen; omega) (by omega) (by simp) ?_; intro v2 w2 hown2 hgrow2 hnil2)
  go_ret
  exact ⟨_, rfl, by simpa using hown2, Below.grow (by (repeat (first | exact Below.refl _ _ | refine Below.drew ?_ | refine Below.allocS ?_ _ | refine Below.step ?_ (by assumption) | refine Below.setCell ?_ (by simp <;> omega) _ | refine Below.drewN' ?_ _))) (empty_row _ 65 4) hgrow2 rfl (by simp)⟩

def mir (x : Shot) : Shot := ⟨-x.gx, x.gy, x.lo, x.hi⟩
def mirE (l : List Shot) : Int := if okShots l then 0 else 1
def mirL (l : List Shot) : List Shot := if okShots l then l.map mir else []
def mix (l : List Shot) (k : Nat) : List Shot := (l.take k).map mir ++ l.drop k
theorem mix_zero (l : List Shot) : mix l 0 = l := by simp [mix]
theorem mix_all (l : List Shot) : mix l l.length = l.map mir := by simp [mix]
theorem mix_length (l : List Shot) (k : Nat) : (mix l k).length = l.length := by simp [mix]; omega
theorem mix_at (l : List Shot) (k : Nat) (h : k < l.length) : (mix l k)[k]'(by rw [mix_length]; exact h) = l[k] := by
  simp only [mix]
  rw [List.getElem_append_right (by simp; omega)]
  simp [Nat.min_eq_left (Nat.le_of_lt h)]
theorem mix_succ (l : List Shot) (k : Nat) (h : k < l.length) : ((mix l k).flatMap shE).set (k * 4) (.int .i64 (-l[k].gx)) = (mix l (k + 1)).flatMap shE := by
  have hlen : (((l.take k).map mir).flatMap shE).length = k * 4 := by rw [flat_len shE 4 shE_len]; simp; omega
  unfold mix
  rw [List.drop_eq_getElem_cons h, take_snoc l k h, List.flatMap_append, List.flatMap_cons, List.set_append_right _ _ (by omega), hlen, Nat.sub_self, List.map_append, List.flatMap_append, List.flatMap_append, List.append_assoc]
  rfl

set_option maxHeartbeats 4000000 in
set_option maxRecDepth 100000 in
theorem Mirrored_c (l : List Shot) (A : Option Addr) (cap : Nat) (hl : l.length ≤ 1000) (w : World) (hr : RdL w w.heap.size shE 4 A l) :
    Calls Try.prog 39 #[.slice A l.length cap] w fun e w' => ∃ u, e = .returned (.tuple #[u, .int .i64 (mirE l)]) ∧ IsSl w' shE 4 u (mirL l) ∧ Below w.heap.size w w' := by
  have HV := Lib.hid (ValidShots_c l A cap (by omega) w hr)
  unfold mirE mirL
  cases hok : okShots l
  · rw [hok] at HV
    clear hr
    go_enter Try.func39, Try.ntmps39
    go_wp2_with (go_at_call 31; refine HV.out.mono ?_; rintro e w1 ⟨rfl, hb⟩)
    go_ret2
    exact ⟨.slice none 0 0, rfl, IsSl.nil _ _ _, by (repeat (first | exact Below.refl _ _ | refine Below.drew ?_ | refine Below.allocS ?_ _ | refine Below.step ?_ (by assumption) | refine Below.setCell ?_ (by simp <;> omega) _ | refine Below.drewN' ?_ _))⟩
  · rw [hok] at HV
    obtain ⟨k1, k2, k3⟩ := okShots_true hok
    have HK := Lib.hid k3
    have HC := Lib.hid (fun W (hb : Below w.heap.size w W) => CloneSh_c l A cap (by omega) (by omega) W (hr.step hb))
    clear hr k3
    go_enter Try.func39, Try.ntmps39
    go_wp2_with (first | (go_at_call 31; refine HV.out.mono ?_; rintro e w1 ⟨rfl, hb⟩) | (go_at_call 77; refine (HC.out _ hb).mono ?_; rintro e w2 ⟨u, rfl, hown, hb2⟩; obtain ⟨g', cap', rfl⟩ := ownsRow_succ' hown (by omega)))
    have HO := Lib.hid hown
    clear hown
    go_loopw [13] (fun i wr => ∃ k : Nat, k ≤ l.length ∧ i = .int .i64 k ∧ wr.ownsRow w1.heap.size 65 4 (.slice (some ⟨g', 0, none⟩) l.length cap') l.length ((mix l k).flatMap shE) ∧ Below w1.heap.size w1 wr) (fun i _ => l.length - (intOf i).toNat)
    case atStart => exact ⟨0, Nat.zero_le _, rfl, by rw [mix_zero]; exact HO.out, hb2⟩
    case round =>
      obtain ⟨k, hk, rfl, hown, hbw⟩ := hrel
      by_cases hlt : k < l.length
      · have hv := HK.out _ (List.getElem_mem hlt)
        obtain ⟨hp, -⟩ := okShot_true hv
        obtain ⟨⟨t1, t2⟩, -⟩ := place_true hp
        have c0 := hown.cells (g := g') rfl (k * 4) (.int .i64 (l[k].gx)) (by have := flat_at shE 4 shE_len (mix l k) k 0 (by rw [mix_length]; exact hlt) (by decide); rw [Nat.add_zero] at this; rw [this, mix_at l k hlt]; rfl)
        rw [add_none] at c0
        have f0 := hown.frozenAt (k * 4)
        have hg := (hown.lt g' rfl).1
        have hn := ownsRow_set hown (k * 4) (.int .i64 (-l[k].gx))
        rw [mix_succ l k hlt] at hn
        have HN := Lib.hid hn
        have HO := Lib.hid hown
        generalize l[k].gx = gx at c0 t1 t2 HN
        clear hn hown hv hp
        go_wp2
        go_roundw
        case rel => exact ⟨k + 1, by omega, by go_num, HN.out, hbw.setCell hg _⟩
        case measure => simp [intOf]; omega
      · obtain rfl : k = l.length := by omega
        rw [mix_all] at hown
        have HO := Lib.hid hown
        clear hown
        go_wp2
        go_ret2
        exact ⟨_, rfl, IsSl.of_row shE_len HO.out (by simp), by (repeat (first | exact Below.refl _ _ | refine Below.drew ?_ | refine Below.allocS ?_ _ | refine Below.step ?_ (by assumption) | refine Below.setCell ?_ (by simp <;> omega) _ | refine Below.drewN' ?_ _))⟩
end Go.Proofs.Ytgiplkfdallmkaa
