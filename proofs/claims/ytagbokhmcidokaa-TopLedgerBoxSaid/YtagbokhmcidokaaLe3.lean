/-
  A ledger's offs: off of a page, Off, Rated.
-/
import Derived.Test.YtagbokhmcidokaaLe2
import Derived.IntWalk
namespace Go.Proofs.Ytagbokhmcidokaa
open Go.RowKit Go.Deep
set_option linter.unusedVariables false
set_option linter.unusedSimpArgs false
theorem zero_int (W : World) : (zeroValue 3).run Try.prog W = .ok (.int .i64 0) W := by kernel_rfl
/-- The off of a day. -/
def offV (l : List Ent) (d : Int) : Option Int := match lastE l d false, lastE l d true with
  | some s, some f => some (f - s)
  | _, _ => none
def offN (l : List Ent) (d : Int) : Int := (lastE l d true).getD 0 - (lastE l d false).getD 0
theorem offN_some {l : List Ent} {d n : Int} (h : offV l d = some n) : offN l d = n := by
  unfold offV at h
  unfold offN
  cases h1 : lastE l d false <;> cases h2 : lastE l d true <;> rw [h1, h2] at h <;> simp_all
theorem offN_bd {l : List Ent} (h : okEn l = true) (d : Int) : -172800000 ≤ offN l d ∧ offN l d ≤ 172800000 := by
  have hb : ∀ f n, lastE l d f = some n → -86400000 ≤ n ∧ n ≤ 86400000 := fun f n hn => by
    obtain ⟨x, hx, rfl⟩ := lastE_mem hn
    have := (okEn_parts h).2 x hx
    unfold fineB at this
    rw [Bool.and_eq_true] at this
    exact wiB_true this.2
  unfold offN
  cases h1 : lastE l d false with
  | none => cases h2 : lastE l d true with
    | none => simp
    | some f => have := hb _ _ h2; simp; omega
  | some s => cases h2 : lastE l d true with
    | none => have := hb _ _ h1; simp; omega
    | some f => have := hb _ _ h1; have := hb _ _ h2; simp; omega
set_option maxHeartbeats 2000000 in
set_option maxRecDepth 100000 in
theorem off_c (l : List Ent) (hok : okEn l = true) (d : Int) (hd : I64 d) (B n : Nat) (F : Lit → Option Value) (w : World) (hM : MapF Try.prog 146 w B n F) (hF : PgF l F) :
    Calls Try.prog 42 #[.map (some B), .int .i64 d] w fun e w' => e = .returned (.tuple #[.int .i64 (offN l d), .bool ((offV l d).isSome)]) ∧ Below w.heap.size w w' := by
  obtain ⟨k1, hk1⟩ := ky_key d false hd
  obtain ⟨k2, hk2⟩ := ky_key d true hd
  have E1 := Lib.hid (hF d false k1 hk1)
  have E2 := Lib.hid (hF d true k2 hk2)
  have K1 := Lib.hid hk1
  have K2 := Lib.hid hk2
  have HM := Lib.hid hM
  have hbd := offN_bd hok d
  have hw : IntKind.i64.wrap (offN l d) = offN l d := IntWalk.i64_in _ (by omega)
  unfold offN at hw hbd ⊢
  unfold offV
  clear hk1 hk2 hM hF
  cases h1 : lastE l d false with
  | none => cases h2 : lastE l d true with
    | none =>
      rw [h1, h2] at hw hbd
      rw [h1] at E1
      rw [h2] at E2
      dsimp only [Option.getD, Option.map] at hw hbd E1 E2
      clear hbd
      go_enter Try.func42, Try.ntmps42
      go_wp2_with (first | (at_lookup; refine wpList_lookF_ok rfl (.tmp 11) (.tmp 13) 92 rfl _ 146 3 ky_keyed Try.underlying92 (.int .i64 0) (zero_int _) B n F rfl HM.out _ k1 rfl K1.out ?_; rw [E1.out]) | (at_lookup; refine wpList_lookF_ok rfl (.tmp 18) (.tmp 20) 92 rfl _ 146 3 ky_keyed Try.underlying92 (.int .i64 0) (zero_int _) B n F rfl HM.out _ k2 rfl K2.out ?_; rw [E2.out]))
      refine bodyPost_ret (v := .tuple #[.int .i64 0, .bool false]) (by simp [results, Try.results42, go_sem, *] <;> (repeat' apply And.intro) <;> rfl) rfl ⟨by simp, Below.refl _ _⟩
    | some f =>
      rw [h1, h2] at hw hbd
      rw [h1] at E1
      rw [h2] at E2
      dsimp only [Option.getD, Option.map] at hw hbd E1 E2
      have hw2 : IntKind.i64.wrap f = f := IntWalk.i64_in _ (by omega)
      clear hbd
      go_enter Try.func42, Try.ntmps42
      go_wp2_with (first | (at_lookup; refine wpList_lookF_ok rfl (.tmp 11) (.tmp 13) 92 rfl _ 146 3 ky_keyed Try.underlying92 (.int .i64 0) (zero_int _) B n F rfl HM.out _ k1 rfl K1.out ?_; rw [E1.out]) | (at_lookup; refine wpList_lookF_ok rfl (.tmp 18) (.tmp 20) 92 rfl _ 146 3 ky_keyed Try.underlying92 (.int .i64 0) (zero_int _) B n F rfl HM.out _ k2 rfl K2.out ?_; rw [E2.out]))
      refine bodyPost_ret (v := .tuple #[.int .i64 f, .bool false]) (by simp [results, Try.results42, go_sem, *] <;> (repeat' apply And.intro) <;> rfl) rfl ⟨by simp, Below.refl _ _⟩
  | some s => cases h2 : lastE l d true with
    | none =>
      rw [h1, h2] at hw hbd
      rw [h1] at E1
      rw [h2] at E2
      dsimp only [Option.getD, Option.map] at hw hbd E1 E2
      have hw2 : IntKind.i64.wrap (-s) = -s := IntWalk.i64_in _ (by omega)
      clear hbd
      go_enter Try.func42, Try.ntmps42
      go_wp2_with (first | (at_lookup; refine wpList_lookF_ok rfl (.tmp 11) (.tmp 13) 92 rfl _ 146 3 ky_keyed Try.underlying92 (.int .i64 0) (zero_int _) B n F rfl HM.out _ k1 rfl K1.out ?_; rw [E1.out]) | (at_lookup; refine wpList_lookF_ok rfl (.tmp 18) (.tmp 20) 92 rfl _ 146 3 ky_keyed Try.underlying92 (.int .i64 0) (zero_int _) B n F rfl HM.out _ k2 rfl K2.out ?_; rw [E2.out]))
      refine bodyPost_ret (v := .tuple #[.int .i64 (-s), .bool false]) (by simp [results, Try.results42, go_sem, *] <;> (repeat' apply And.intro) <;> rfl) rfl ⟨by simp, Below.refl _ _⟩
    | some f =>
      rw [h1, h2] at hw hbd
      rw [h1] at E1
      rw [h2] at E2
      dsimp only [Option.getD, Option.map] at hw hbd E1 E2
      clear hbd
      go_enter Try.func42, Try.ntmps42
      go_wp2_with (first | (at_lookup; refine wpList_lookF_ok rfl (.tmp 11) (.tmp 13) 92 rfl _ 146 3 ky_keyed Try.underlying92 (.int .i64 0) (zero_int _) B n F rfl HM.out _ k1 rfl K1.out ?_; rw [E1.out]) | (at_lookup; refine wpList_lookF_ok rfl (.tmp 18) (.tmp 20) 92 rfl _ 146 3 ky_keyed Try.underlying92 (.int .i64 0) (zero_int _) B n F rfl HM.out _ k2 rfl K2.out ?_; rw [E2.out]))
      refine bodyPost_ret (v := .tuple #[.int .i64 (f - s), .bool true]) (by simp [results, Try.results42, go_sem, *] <;> (repeat' apply And.intro) <;> rfl) rfl ⟨by simp, Below.refl _ _⟩
end Go.Proofs.Ytagbokhmcidokaa
