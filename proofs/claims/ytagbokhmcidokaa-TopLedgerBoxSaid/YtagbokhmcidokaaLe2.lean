/-
  A page of a ledger: the last entry of each day and kind, in a map.
-/
import Derived.Test.YtagbokhmcidokaaLe1
import Derived.Test.YtagbokhmcidokaaMf
import Derived.Test.YtagbokhmcidokaaTypes
import Derived.WalkArith
import Derived.Test.YtagbokhmcidokaaQt
import Derived.DeepKeys4
namespace Go.Proofs.Ytagbokhmcidokaa
open Go.RowKit Go.Deep
set_option linter.unusedVariables false
set_option linter.unusedSimpArgs false
theorem laid_out : laidOutB Try.prog = true := by kernel_rfl
theorem ky_row : (146 : TypeId) < Try.prog.types.size := of_decide_eq_true (by kernel_rfl)
theorem ky_wide : (match Try.prog.underlying 146 with | some (.array _ _) | some (.struct _) => true | _ => false) = true := by kernel_rfl
set_option maxRecDepth 100000 in
theorem ky_law : WideMaps.KeyLaw Try.prog 146 := deep_law_laid laid_out (m := 3) (by omega) ky_row (by kernel_rfl) ky_wide
theorem ky_keyed : Maps.Keyed Try.prog 146 := Maps.Keyed.of_law ky_law
theorem ky_type : Try.prog.keyType 146 = true := by kernel_rfl
theorem ky_size : ∃ d, Try.prog.types.size = d + 2 := by
  have h : 2 ≤ Try.prog.types.size := of_decide_eq_true (by kernel_rfl)
  exact ⟨Try.prog.types.size - 2, (Nat.sub_add_cancel h).symm⟩
theorem ky_cells : Try.prog.cellsOf 146 = 2 ∧ Try.prog.cellsOf 4 = 1 ∧ Try.prog.cellsOf 3 = 1 := ⟨by kernel_rfl, by kernel_rfl, by kernel_rfl⟩
theorem ky_int (d : Nat) (x : Int) (h : I64 x) : Try.prog.keyLits (d + 1) 3 [.int .i64 x] = some [.int .i64 x] := by
  have := WalkArith.wf_i64 (n := x) h
  simp [Program.keyLits, Try.underlying3, this]
theorem ky_bool (d : Nat) (x : Bool) : ∃ l, Try.prog.keyLits (d + 1) 4 [.bool x] = some l := by
  refine Option.isSome_iff_exists.1 ?_
  simp [Program.keyLits, Try.underlying4, Lit.wf]
theorem ky_key (n : Int) (f : Bool) (hn : I64 n) : ∃ kl, keyOf Try.prog 146 (.agg #[.int .i64 n, .bool f]) = some kl := by
  obtain ⟨d, hd⟩ := ky_size
  obtain ⟨c1, c2, c3⟩ := ky_cells
  obtain ⟨la, hla⟩ : ∃ l, Try.prog.keyLits (d + 2) 4 [.bool f] = some l := ky_bool (d + 1) f
  have hi : Try.prog.keyLits (d + 2) 3 [.int .i64 n] = some [.int .i64 n] := ky_int (d + 1) n hn
  refine Option.isSome_iff_exists.1 ?_
  unfold keyOf
  rw [ky_type, hd]
  simp only [Try.underlying146]
  unfold Program.keyLits
  simp only [Try.underlying146]
  simp [Value.formed, Value.cells, Try.underlying146, c1, c2, c3, hi, hla]
theorem take_one {α : Type} (l : List α) (k : Nat) (h : k < l.length) : l.take (k + 1) = l.take k ++ [l[k]] := by
  rw [List.take_add_one, List.getElem?_eq_getElem h]; rfl
/-- What counts of a day. -/
def lastE (l : List Ent) (d : Int) (f : Bool) : Option Int := ((l.filter fun x => x.d == d && x.f == f).getLast?).map Ent.e
theorem lastE_nil (d : Int) (f : Bool) : lastE [] d f = none := rfl
theorem lastE_snoc (l : List Ent) (x : Ent) (d : Int) (f : Bool) : lastE (l ++ [x]) d f = if x.d = d ∧ x.f = f then some x.e else lastE l d f := by
  unfold lastE
  rw [List.filter_append]
  by_cases h : x.d = d ∧ x.f = f
  · rw [if_pos h]
    have : List.filter (fun y : Ent => y.d == d && y.f == f) [x] = [x] := by simp [h.1, h.2]
    rw [this]
    simp
  · rw [if_neg h]
    have : List.filter (fun y : Ent => y.d == d && y.f == f) [x] = [] := by
      rw [List.filter_eq_nil_iff]
      intro y hy
      simp at hy
      subst hy
      simp
      intro a b
      exact h ⟨a, b⟩
    rw [this, List.append_nil]
theorem lastE_mem {l : List Ent} {d : Int} {f : Bool} {n : Int} (h : lastE l d f = some n) : ∃ x ∈ l, x.e = n := by
  unfold lastE at h
  rw [Option.map_eq_some_iff] at h
  obtain ⟨x, hx, rfl⟩ := h
  exact ⟨x, (List.mem_filter.1 (List.mem_of_getLast? hx)).1, rfl⟩
/-- The map holds what counts. -/
def PgF (l : List Ent) (F : Lit → Option Value) : Prop := ∀ d f kl, keyOf Try.prog 146 (.agg #[.int .i64 d, .bool f]) = some kl → F kl = (lastE l d f).map fun n => .int .i64 n
theorem PgF.nil : PgF [] (fun _ => none) := fun d f kl h => rfl
theorem PgF.put {l : List Ent} {F : Lit → Option Value} (h : PgF l F) {x : Ent} {kl : Lit} (hk : keyOf Try.prog 146 (.agg #[.int .i64 x.d, .bool (x.f)]) = some kl) : PgF (l ++ [x]) (putF F kl (.int .i64 x.e)) := by
  intro d f kl' hk'
  rw [lastE_snoc]
  unfold putF
  by_cases e : kl' = kl
  · subst e
    have := ky_keyed.inj hk hk'
    simp only [Value.agg.injEq, Array.mk.injEq, List.cons.injEq, Value.int.injEq, Value.bool.injEq, true_and, and_true] at this
    rw [if_pos rfl, if_pos this]; rfl
  · rw [if_neg e, if_neg (fun he => e (by
      rw [he.1, he.2] at hk
      exact Option.some.inj (hk'.symm.trans hk))), h d f kl' hk']
theorem of_c (x : Ent) (w : World) : Calls Try.prog 97 #[.agg #[.int .i64 x.d, .bool (x.f), .int .i64 x.e]] w fun e w' => e = .returned (.agg #[.int .i64 x.d, .bool (x.f)]) ∧ Below w.heap.size w w' := by
  go_enter Try.func97, Try.ntmps97
  go_wp2
  refine bodyPost_ret (v := .agg #[.int .i64 x.d, .bool (x.f)]) (by simp [results, Try.results97, go_sem, *] <;> (repeat' apply And.intro) <;> rfl) rfl ⟨rfl, ?_⟩
  (repeat (first | (with_reducible exact Below.refl _ _) | (with_reducible assumption) | (with_reducible refine Below.drew ?_) | (with_reducible refine Below.allocS ?_ _) | (with_reducible refine Below.setCell ?_ ?_ _) | (with_reducible refine Below.step ?_ (by assumption)) | (with_reducible refine Below.drewN' ?_ _))); (try any_goals (first | (with_reducible assumption) | (simp; done) | (simp; omega) | omega))
set_option maxHeartbeats 2000000 in
set_option maxRecDepth 100000 in
theorem pageOf_c (l : List Ent) (A : Option Addr) (cap : Nat) (hl : l.length ≤ 1000000) (hd : ∀ x ∈ l, I64 x.d) (w : World) (hr : RdL w w.heap.size enE 3 A l) :
    Calls Try.prog 51 #[.slice A l.length cap] w fun e w' => ∃ B n F, e = .returned (.map (some B)) ∧ (MapF Try.prog 146 w' B n F ∧ PgF l F) ∧ Below w.heap.size w w' := by
  have HR := Lib.hid hr
  have HD := Lib.hid hd
  clear hr hd
  have hmm := @run_makeMap Try.prog
  go_enter Try.func51, Try.ntmps51
  go_wp2
  go_loopw [9] (fun i wr => ∃ k : Nat, k ≤ l.length ∧ i = .int .i64 k ∧ (∃ F, MapF Try.prog 146 wr w.heap.size k F ∧ PgF (l.take k) F) ∧ Below w.heap.size w wr) (fun i _ => l.length - (intOf i).toNat)
  case atStart => exact ⟨0, Nat.zero_le _, rfl, ⟨_, MapF.made w Try.prog 146, PgF.nil⟩, by (repeat (first | (with_reducible exact Below.refl _ _) | (with_reducible assumption) | (with_reducible refine Below.drew ?_) | (with_reducible refine Below.allocS ?_ _) | (with_reducible refine Below.setCell ?_ ?_ _) | (with_reducible refine Below.step ?_ (by assumption)) | (with_reducible refine Below.drewN' ?_ _))); (try any_goals (first | (with_reducible assumption) | (simp; done) | (simp; omega) | omega))⟩
  case round =>
    obtain ⟨k, hk, rfl, ⟨F, hM, hF⟩, hbw⟩ := hrel
    have HM := Lib.hid hM
    have HF := Lib.hid hF
    clear hM hF
    by_cases hlt : k < l.length
    · obtain ⟨b, off, rfl, hb0, hc⟩ := HR.out (by omega)
      have c0 := (hbw.cell (p := ⟨b, _, none⟩) hb0).trans (hc k hlt 0 _ rfl)
      have c1 := (hbw.cell (p := ⟨b, _, none⟩) hb0).trans (hc k hlt 1 _ rfl)
      have c2 := (hbw.cell (p := ⟨b, _, none⟩) hb0).trans (hc k hlt 2 _ rfl)
      have hdx := HD.out _ (List.getElem_mem hlt)
      have HS := Lib.hid (take_one l k hlt)
      clear hc
      simp at c0
      generalize l[k] = x at *
      obtain ⟨kl, hkl⟩ := ky_key x.d x.f hdx
      have HK := Lib.hid hkl
      have HP := Lib.hid (HF.out.put hkl)
      have u1 : (0 : Int) ≤ (k : Int) := by omega
      have u2 : (k : Int) < (l.length : Int) := by omega
      have hO := Lib.hid (fun W => of_c x W)
      clear hkl
      go_wp2_with fail
      refine region_below_tail 5 (by kernel_rfl) (by kernel_rfl) ?_; simp only [List.take_succ_cons, List.take_zero, List.drop_succ_cons, List.drop_zero]
      (first | go_big_quiet_skip | (go_big_quiet_want; refine quiet_val (v := ?_) ?_ ?_; rotate_left 1; (· (intro Wq hWq; obtain ⟨hWc, hWf⟩ := bcell hWq; go_simp; (try with_reducible rfl))); go_big_quiet_on; (try simp only [Act.put, List.setIfInBounds_toArray, List.set_cons_zero, List.set_cons_succ])))
      (first | go_big_quiet_skip | (go_big_quiet_want; refine quiet_val (v := ?_) ?_ ?_; rotate_left 1; (· (intro Wq hWq; obtain ⟨hWc, hWf⟩ := bcell hWq; go_simp; (try with_reducible rfl))); go_big_quiet_on; (try simp only [Act.put, List.setIfInBounds_toArray, List.set_cons_zero, List.set_cons_succ])))
      go_big_quiet_want; refine quiet_callB (f := 97) (args := ?_) (v := ?_) ?_ ?_ ?_; rotate_left 2
      · (intro Wq hWq; obtain ⟨hWc, hWf⟩ := bcell hWq; go_simp; (first | with_reducible rfl | exact ⟨rfl, rfl⟩))
      · (intro Wq hWq; exact hO.out _)
      go_big_quiet_on; (try simp only [Act.put, List.setIfInBounds_toArray, List.set_cons_zero, List.set_cons_succ])
      (first | go_big_quiet_skip | (go_big_quiet_want; refine quiet_val (v := ?_) ?_ ?_; rotate_left 1; (· (intro Wq hWq; obtain ⟨hWc, hWf⟩ := bcell hWq; go_simp; (try with_reducible rfl))); go_big_quiet_on; (try simp only [Act.put, List.setIfInBounds_toArray, List.set_cons_zero, List.set_cons_succ])))
      (first | go_big_quiet_skip | (go_big_quiet_want; refine quiet_val (v := ?_) ?_ ?_; rotate_left 1; (· (intro Wq hWq; obtain ⟨hWc, hWf⟩ := bcell hWq; go_simp; (try with_reducible rfl))); go_big_quiet_on; (try simp only [Act.put, List.setIfInBounds_toArray, List.set_cons_zero, List.set_cons_succ])))
      intro V hV
      have hbV : Below wr.heap.size wr V := Below.step (Below.allocS (Below.refl _ _) _) hV
      have HMV := Lib.hid (HM.out.step hbV)
      have hbwV : Below w.heap.size w V := Below.step hbw hbV
      have hkm : k < maxLen := by unfold maxLen; omega
      have hvs := hbwV.size
      have HB9 : Hid (∀ W9, V.grownBy W9 (some w.heap.size) → Below w.heap.size w W9) := Lib.hid (fun W9 hg => hbwV.trans ⟨hg.os, hg.tape, hg.output, hg.size, fun q hq => hg.block q (by omega) (by intro e; injection e with e; omega)⟩)
      go_wp2_with (at_mapUpdate; refine wpList_storeF rfl (.tmp 13) (.tmp 15) (.tmp 17) 92 rfl _ 146 3 ky_keyed Try.underlying92 w.heap.size k F rfl HMV.out hkm _ _ kl rfl rfl HK.out ?_; intro W9 hM9 hg9; have HM9 := Lib.hid hM9; have hb9 := HB9.out W9 hg9; clear hM9 hg9)
      go_roundw
      case rel => exact ⟨k + 1, by omega, by go_num, ⟨_, HM9.out, by rw [HS.out]; exact HP.out⟩, hb9⟩
      case measure => simp [intOf]; omega
    · obtain rfl : k = l.length := by omega
      go_wp2
      go_ret
      exact ⟨_, _, F, rfl, ⟨HM.out, by have := HF.out; rw [List.take_length] at this; exact this⟩, hbw⟩
end Go.Proofs.Ytagbokhmcidokaa
