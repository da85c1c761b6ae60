/-
  named, and Clear of both. No conditions.
-/
import Derived.Test.YtimbdnngeoccdaaGreatDoorNt18
namespace Go.Proofs.YtimbdnngeoccdaaGreatDoor
open Go.RowKit Go.Deep
set_option linter.unusedVariables false
set_option linter.unusedSimpArgs false
set_option maxHeartbeats 1000000 in
theorem named_c (l : List Ch) (A : Option Addr) (cap : Nat) (hl : l.length ≤ 9223372036854775807) (w : World) (hr : RdL w w.heap.size chE 5 A l) :
    Calls Tryz.prog 12 #[.slice A l.length cap] w fun e w' => (∃ x : Bool, e = .returned (.bool x) ∧ (x = true → l.length ≤ 30)) ∧ Below w.heap.size w w' := by
  have HR := Lib.hid hr
  clear hr
  generalize hn : l.length = n at *
  have HN := Lib.hid hn
  clear hn
  go_enter Tryz.func12, Tryz.ntmps12
  go_wp2
  go_loopw [7] (fun i wr => ∃ k : Nat, k ≤ n ∧ i = .int .i64 k ∧ Below w.heap.size w wr) (fun i _ => n - (intOf i).toNat)
  case atStart => exact ⟨0, Nat.zero_le _, rfl, Below.refl _ _⟩
  case round =>
    rename World => U
    obtain ⟨k, hk, rfl, hbW⟩ := hrel
    by_cases hlt : k < n
    · have hil : k < l.length := by rw [HN.out]; exact hlt
      obtain ⟨b, off, rfl, hb0, hc⟩ := HR.out (by omega)
      obtain ⟨c, hcd⟩ : ∃ c, c = l[k] := ⟨_, rfl⟩
      have hcell : ∀ jj v, (chE c)[jj]? = some v → U.cell? ⟨b, off + k * 5 + jj, none⟩ = some v := fun jj v hv => (hbW.cell (p := ⟨b, _, none⟩) hb0).trans (hc k hil jj v (by rw [hcd] at hv; exact hv))
      have q0 : U.cell? ⟨b, off + k * 5, none⟩ = some (.string c.nm) := by simpa using hcell 0 _ rfl
      have q1 : U.cell? ⟨b, off + k * 5 + 1, none⟩ = some (.int .i64 c.a) := hcell 1 _ rfl
      have q2 : U.cell? ⟨b, off + k * 5 + 2, none⟩ = some (.int .i64 c.b) := hcell 2 _ rfl
      have q3 : U.cell? ⟨b, off + k * 5 + 3, none⟩ = some (.int .i64 c.t) := hcell 3 _ rfl
      have q4 : U.cell? ⟨b, off + k * 5 + 4, none⟩ = some (.int .i64 c.v) := hcell 4 _ rfl
      clear hcell hcd hc hil
      have u3 : IntKind.i64.wrap ((k : Int) + 1) = (k : Int) + 1 := IntWalk.i64_in _ (by omega)
      by_cases h1 : (c.nm.size : Int) > 100
      · have d1 : decide ((c.nm.size : Int) > 100) = true := decide_eq_true h1
        clear h1
        go_wp2
        go_ret
        exact ⟨⟨false, rfl, fun h => by cases h⟩, by (repeat (first | (with_reducible exact Below.refl _ _) | (with_reducible assumption) | (with_reducible refine Below.drew ?_) | (with_reducible refine Below.allocS ?_ _) | (with_reducible refine Below.setCell ?_ ?_ _) | (with_reducible refine Below.step ?_ (by assumption)) | (with_reducible refine Below.drewN' ?_ _))); (try any_goals (first | (with_reducible assumption) | (simp; done) | (simp; omega) | omega))⟩
      · have d1 : decide ((c.nm.size : Int) > 100) = false := decide_eq_false h1
        clear h1
        go_wp2
        go_roundw
        case rel => exact ⟨k + 1, by omega, by go_num, by (repeat (first | (with_reducible exact Below.refl _ _) | (with_reducible assumption) | (with_reducible refine Below.drew ?_) | (with_reducible refine Below.allocS ?_ _) | (with_reducible refine Below.setCell ?_ ?_ _) | (with_reducible refine Below.step ?_ (by assumption)) | (with_reducible refine Below.drewN' ?_ _))); (try any_goals (first | (with_reducible assumption) | (simp; done) | (simp; omega) | omega))⟩
        case measure => simp [intOf]; omega
    · obtain rfl : k = n := by omega
      go_wp2
      go_ret
      exact ⟨⟨_, rfl, fun h => by have := of_decide_eq_true h; omega⟩, hbW⟩
def clrL (l : List Ch) (L : List Cl) (k : Nat) : List Nat := (List.range k).filter (clB l L)
theorem clrL_succ (l : List Ch) (L : List Cl) (k : Nat) : clrL l L (k + 1) = if clB l L k = true then clrL l L k ++ [k] else clrL l L k := by
  unfold clrL
  rw [List.range_succ, List.filter_append]
  cases h : clB l L k <;> simp [h]
theorem clrL_len (l : List Ch) (L : List Cl) (k : Nat) : (clrL l L k).length ≤ k := by
  have := List.length_filter_le (clB l L) (List.range k)
  rw [List.length_range] at this
  exact this
noncomputable def clrE (l : List Ch) (L : List Cl) : Int := if (okV l && okCl L) = true then 0 else 1
noncomputable def clrR (l : List Ch) (L : List Cl) : List Nat := if (okV l && okCl L) = true then clrL l L l.length else []
end Go.Proofs.YtimbdnngeoccdaaGreatDoor
