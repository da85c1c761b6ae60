/-
  Contracts of ValidShots of the reference, heard, valid and Suits, and the walk of the law GunSuits.
-/
import Derived.Test.YtimbdnngeoccdaaDoorS2
namespace Go.Proofs.YtimbdnngeoccdaaDoor
open Go.RowKit
set_option linter.unusedVariables false

set_option maxHeartbeats 1000000 in
set_option maxRecDepth 100000 in
theorem rValidShots_c (l : List Shot) (A : Option Addr) (cap : Nat) (hl : l.length ≤ 9223372036854775807) (w : World) (hr : RdL w w.heap.size shE 4 A l) :
    Calls Tryd.prog 18 #[.slice A l.length cap] w fun e w' => e = .returned (.bool (okShots l)) ∧ Below w.heap.size w w' := by
  have HR := Lib.hid hr
  clear hr
  go_enter Tryd.func18, Tryd.ntmps18
  go_wp2
  go_loopw [7] (fun i wr => ∃ k : Nat, k ≤ l.length ∧ i = .int .i64 k ∧ Below w.heap.size w wr ∧ (l.all fun x => okShot x.gx x.gy x.lo x.hi) = (l.drop k).all fun x => okShot x.gx x.gy x.lo x.hi) (fun i _ => l.length - (intOf i).toNat)
  case atStart => exact ⟨0, Nat.zero_le _, rfl, Below.refl _ _, rfl⟩
  case round =>
    obtain ⟨k, hk, rfl, hbw, hx⟩ := hrel
    have HX := Lib.hid hx
    clear hx
    by_cases hlt : k < l.length
    · obtain ⟨b, off, rfl, hb0, hc⟩ := HR.out (by omega)
      have c0 := (hbw.cell (p := ⟨b, _, none⟩) hb0).trans (hc k hlt 0 _ rfl)
      have c1 := (hbw.cell (p := ⟨b, _, none⟩) hb0).trans (hc k hlt 1 _ rfl)
      have c2 := (hbw.cell (p := ⟨b, _, none⟩) hb0).trans (hc k hlt 2 _ rfl)
      have c3 := (hbw.cell (p := ⟨b, _, none⟩) hb0).trans (hc k hlt 3 _ rfl)
      clear hc
      simp at c0
      have hd : l.drop k = l[k] :: l.drop (k + 1) := List.drop_eq_getElem_cons hlt
      have HD := Lib.hid hd
      clear hd
      cases hp : okShot l[k].gx l[k].gy l[k].lo l[k].hi
      all_goals
        have hP := Lib.hid hp
        clear hp
        go_wp2_with fail
        refine (rvalidShot_c _ _ _ _ _).mono ?_
        rintro e w1 ⟨rfl, hb⟩
        rw [hP.out]
      · go_wp2
        go_ret
        exact ⟨by rw [okShots, HX.out, HD.out, List.all_cons, hP.out]; simp, by (repeat (first | exact Below.refl _ _ | refine Below.drew ?_ | refine Below.allocS ?_ _ | refine Below.step ?_ (by assumption) | refine Below.setCell ?_ (by simp <;> omega) _ | refine Below.drewN' ?_ _))⟩
      · go_wp2
        go_roundw
        case rel => exact ⟨k + 1, by omega, by go_num, by (repeat (first | exact Below.refl _ _ | refine Below.drew ?_ | refine Below.allocS ?_ _ | refine Below.step ?_ (by assumption) | refine Below.setCell ?_ (by simp <;> omega) _ | refine Below.drewN' ?_ _)), by rw [HX.out, HD.out, List.all_cons, hP.out]; rfl⟩
        case measure => simp [intOf]; omega
    · obtain rfl : k = l.length := by omega
      have HW := Lib.hid (show okShots l = within l.length 1 6 by rw [okShots, HX.out]; simp)
      go_wp2_with (go_at_call 42; (with_reducible refine (rwithin_c _ _ _ _).mono ?_); rintro e w' ⟨rfl, rfl⟩)
      go_ret
      exact ⟨by rw [HW.out]; rfl, hbw⟩

/-- What heard answers. -/
def heardE (s v : Int) (l : List Shot) (p : List (Int × Int)) : Int := if okShots l then askedE s v p else 1
/-- What Suits answers. -/
def suE (s v : Int) (l : List Shot) (x y : Int) : Int := heardE s v l [(x, y)]
def suB (s v : Int) (l : List Shot) (x y : Int) : Bool := decide (suE s v l x y = 0) && suitAll s v x y l
theorem suE_ok {s v x y : Int} {l : List Shot} (h : suE s v l x y = 0) : okShots l = true ∧ validAir s v = true ∧ place x y = true := by
  unfold suE heardE askedE at h
  cases h1 : okShots l <;> cases h2 : validAir s v <;> cases h3 : place x y <;> simp_all
theorem few_c (n : Nat) (A : Option Addr) (cap : Nat) (w : World) (hl : n ≤ 9223372036854775807) :
    Calls Tryd.prog 11 #[.slice A n cap] w fun e w' => e = .returned (.bool (decide (n ≤ 50))) ∧ w = w' := by
  go_enter Tryd.func11, Tryd.ntmps11
  go_wp2
  go_ret
  exact ⟨(by first | rfl | (simp; done) | (simp; omega) | (simp [*]; done)), rfl⟩

end Go.Proofs.YtimbdnngeoccdaaDoor
