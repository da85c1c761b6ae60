/-
  Strips; the azimuth's reach.
-/
import Derived.Test.YtbcabckokmjelaaQ3
import Derived.Test.YtbcabckokmjelaaApp
namespace Go.Proofs.Ytbcabckokmjelaa
open Go.RowKit
set_option linter.unusedVariables false
set_option linter.unusedSimpArgs false
structure Sp where
  s : Int
  lo : Int
  hi : Int
def stE (x : Sp) : List Value := [.int .i64 x.s, .int .i64 x.lo, .int .i64 x.hi]
structure SpOk (x : Sp) : Prop where
  s : -10000 ≤ x.s ∧ x.s ≤ 10000
  lo : -100000000 ≤ x.lo ∧ x.lo ≤ 100000000
  hi : -100000000 ≤ x.hi ∧ x.hi ≤ 100000000
theorem appS : AppE 75 99 stE 3 where
  ht := Try.underlying75
  info := app_info (z := .agg #[.int .i64 0, .int .i64 0, .int .i64 0]) (bytes := 24) (by kernel_rfl) rfl (by decide)
  pos := by decide
  len := fun x => rfl
  one := fun x u hu => by simp [stE] at hu; rcases hu with rfl | rfl | rfl <;> rfl
theorem three_cells {W : World} {g : Nat} {a b c : Value} (h0 : W.cell? ⟨g, 0, none⟩ = some a) (h1 : W.cell? ⟨g, 1, none⟩ = some b) (h2 : W.cell? ⟨g, 2, none⟩ = some c) : ∀ j u, ([a, b, c] : List Value)[j]? = some u → W.cell? ⟨g, j, none⟩ = some u := by
  intro j u hu
  have hj : j < 3 := (List.getElem?_eq_some_iff.1 hu).1
  match j, hj with
  | 0, _ => simp at hu; subst hu; exact h0
  | 1, _ => simp at hu; subst hu; exact h1
  | 2, _ => simp at hu; subst hu; exact h2
def widen (by' : Int) (x : Sp) : Sp := ⟨x.s, x.lo - by', x.hi + by'⟩
set_option maxRecDepth 100000 in
set_option maxHeartbeats 1000000 in
theorem wider_c (l : List Sp) (n : Nat) (hln : l.length = n) (hn : n ≤ 100000) (hl : ∀ x ∈ l, SpOk x) (by' : Int) (hb : 0 ≤ by' ∧ by' ≤ 1000000) (A : Option Addr) (cap : Nat) (w : World) (hr : RdL w w.heap.size stE 3 A l) :
    Calls Try.prog 65 #[.slice A n cap, .int .i64 by'] w fun e w' => ∃ A' c', e = .returned (.slice A' n c') ∧ RdL w' w'.heap.size stE 3 A' (l.map (widen by')) ∧ Below w.heap.size w w' := by
  have HR := Lib.hid hr
  have HL := Lib.hid hl
  have HN := Lib.hid hln
  clear hr hl hln
  go_enter Try.func65, Try.ntmps65
  go_wp2
  go_loopw [5, 10] (fun u i wr => ∃ (k : Nat) (v8 : Value), v8 = u ∧ k ≤ n ∧ i = .int .i64 k ∧ wr.ownsRow w.heap.size 99 3 v8 k (((l.map (widen by')).take k).flatMap stE) ∧ Below w.heap.size w wr) (fun _ i _ => n - (intOf i).toNat)
  case atStart => exact ⟨0, _, rfl, Nat.zero_le _, rfl, World.ownsRow_nil _ _ _ _, Below.refl _ _⟩
  case round =>
    obtain ⟨k, v8, rfl, hk, rfl, hown, hbw⟩ := hrel
    obtain ⟨A8, c8, rfl, -, -⟩ := row_form hown
    have HO := Lib.hid hown
    clear hown
    have hsz := hbw.size
    by_cases hlt : k < n
    · have hltl : k < l.length := by rw [HN.out]; exact hlt
      obtain ⟨b, off, rfl, hb0, hc⟩ := HR.out (by omega)
      have c0 := (hbw.cell (p := ⟨b, _, none⟩) hb0).trans (hc k hltl 0 _ rfl)
      have c1 := (hbw.cell (p := ⟨b, _, none⟩) hb0).trans (hc k hltl 1 _ rfl)
      have c2 := (hbw.cell (p := ⟨b, _, none⟩) hb0).trans (hc k hltl 2 _ rfl)
      clear hc
      simp at c0
      have y0 : b < wr.heap.size := cell?_lt c0
      have hm := HL.out _ (List.getElem_mem hltl)
      have HT := Lib.hid (show (l.map (widen by')).take (k + 1) = (l.map (widen by')).take k ++ [⟨l[k].s, l[k].lo - by', l[k].hi + by'⟩] by
        rw [List.take_succ_eq_append_getElem (by rw [List.length_map]; exact hltl), List.getElem_map]; rfl)
      have hln : ((l.map (widen by')).take k).length = k := by rw [List.length_take, List.length_map, HN.out]; omega
      have hlo := hm.lo
      have hhi := hm.hi
      clear hm
      generalize l[k].s = s at *
      generalize l[k].lo = lo at *
      generalize l[k].hi = hi at *
      have v1 : IntKind.i64.wrap (lo - by') = lo - by' := IntWalk.i64_in _ (by omega)
      have v2 : IntKind.i64.wrap (hi + by') = hi + by' := IntWalk.i64_in _ (by omega)
      have HAPP := Lib.hid (app_run appS _ (⟨s, lo - by', hi + by'⟩ : Sp) k hln (by omega) ((wr.alloc (.cells #[.int .i64 s, .int .i64 lo, .int .i64 hi] 99)).alloc (.cells #[.int .i64 s, .int .i64 (lo - by'), .int .i64 (hi + by')] 99)) w.heap.size (wr.heap.size + 1) _ ((HO.out.alloc _).alloc _) (by simp; omega) (three_cells (by simp [go_sem]) (by simp [go_sem]) (by simp [go_sem])))
      go_wp2_with (at_builtin; refine wpList_app rfl (.tmp 14) (.tmp 26) 75 rfl _ _ rfl rfl HAPP.out ?_; rintro v5 w5 ⟨hown5, hbel5⟩; obtain ⟨A5, c5, rfl, -, -⟩ := row_form hown5; have HO5 := Lib.hid hown5; clear hown5; have hB5 : Below w.heap.size w w5 := Below.low (Below.allocS (Below.allocS hbw _) _) hbel5 (Nat.le_refl _); clear hbel5)
      go_roundw
      case rel => exact ⟨k + 1, _, rfl, by omega, by go_num, by rw [HT.out]; exact HO5.out, by first | exact hB5 | (repeat (first | (with_reducible exact Below.refl _ _) | (with_reducible assumption) | (with_reducible refine Below.drew ?_) | (with_reducible refine Below.allocS ?_ _) | (with_reducible refine Below.setCell ?_ ?_ _) | (with_reducible refine Below.step ?_ (by assumption)) | (with_reducible refine Below.drewN' ?_ _))); (try any_goals (first | (with_reducible assumption) | (simp; done) | (simp; omega) | omega))⟩
      case measure => simp [intOf]; omega
    · obtain rfl : k = n := by omega
      rw [List.take_of_length_le (by rw [List.length_map, HN.out]; exact Nat.le_refl _)] at HO
      go_wp2
      go_ret
      exact ⟨A8, c8, rfl, RdL.of_own (fun _ => rfl) HO.out (by rw [List.length_map]; exact HN.out), hbw⟩
end Go.Proofs.Ytbcabckokmjelaa
