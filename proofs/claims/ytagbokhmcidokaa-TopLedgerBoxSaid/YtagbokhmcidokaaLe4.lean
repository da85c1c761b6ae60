/-
  Off and Rated of a ledger.
-/
import Derived.Test.YtagbokhmcidokaaLe3
namespace Go.Proofs.Ytagbokhmcidokaa
open Go.RowKit Go.Deep
set_option linter.unusedVariables false
set_option linter.unusedSimpArgs false
theorem isDay_I64 {d : Int} (h : isDayB d = true) : I64 d := by
  have := wiB_true h
  exact ⟨by omega, by omega⟩
theorem okEn_I64 {l : List Ent} (h : okEn l = true) : ∀ x ∈ l, I64 x.d := fun x hx => by
  have := (okEn_parts h).2 x hx
  unfold fineB at this
  rw [Bool.and_eq_true] at this
  have := wiB_true this.1
  exact ⟨by omega, by omega⟩
def offR (l : List Ent) (d : Int) : Int × Int := if okEn l then if isDayB d then if (offV l d).isSome then (offN l d, 0) else (0, 8) else (0, 7) else (0, 1)
theorem Off1_c (l : List Ent) (hok : okEn l = true) (d : Int) (hd : I64 d) (B n g : Nat) (F : Lit → Option Value) (w : World) (hM : MapF Try.prog 146 w B n F) (hF : PgF l F) (hg : w.cell? ⟨g, 0, none⟩ = some (.int .i64 d)) :
    Calls Try.prog 41 #[.map (some B), .pointer (some ⟨g, 0, none⟩)] w fun e w' => e = .returned (.tuple #[.int .i64 (offN l d), .bool ((offV l d).isSome)]) ∧ Below w.heap.size w w' := by
  have H := Lib.hid (off_c l hok d hd B n F w hM hF)
  clear hM hF
  generalize offN l d = N at *
  generalize (offV l d).isSome = K at *
  go_enter Try.func41, Try.ntmps41
  go_wp2_with fail
  refine H.out.mono ?_
  rintro e w1 ⟨rfl, hb⟩
  go_wp2
  refine bodyPost_ret (v := .tuple #[.int .i64 N, .bool K]) (by simp [results, Try.results41, go_sem, *] <;> (repeat' apply And.intro) <;> rfl) rfl ⟨rfl, hb⟩
set_option maxHeartbeats 2000000 in
set_option maxRecDepth 100000 in
theorem told_c (l : List Ent) (A : Option Addr) (cap : Nat) (hl : l.length ≤ 9223372036854775807) (d : Int) (g : Nat) (w : World) (hr : RdL w w.heap.size enE 3 A l) (hg : w.cell? ⟨g, 0, none⟩ = some (.int .i64 d)) :
    Calls Try.prog 40 #[.slice A l.length cap, .int .i64 d, .func (.func 41) #[] #[.pointer (some ⟨g, 0, none⟩)]] w fun e w' => e = .returned (.tuple #[.int .i64 (offR l d).1, .int .i64 (offR l d).2]) ∧ Below w.heap.size w w' := by
  have HV := Lib.hid (lValid_c l A cap hl w hr)
  have HI := Lib.hid (fun W => isDay_c d W)
  unfold offR
  cases hok : okEn l
  · rw [hok] at HV
    clear hok hr
    generalize l.length = m at *
    go_enter Try.func40, Try.ntmps40
    go_wp2_with fail
    refine HV.out.mono ?_
    rintro e w1 ⟨rfl, hb⟩
    go_wp2
    refine bodyPost_ret (v := .tuple #[.int .i64 0, .int .i64 1]) (by simp [results, Try.results40, go_sem, *] <;> (repeat' apply And.intro) <;> rfl) rfl ⟨rfl, hb⟩
  rw [hok] at HV
  cases hd : isDayB d
  · rw [hd] at HI
    clear hok hr
    generalize l.length = m at *
    go_enter Try.func40, Try.ntmps40
    go_wp2_with fail
    refine HV.out.mono ?_
    rintro e w1 ⟨rfl, hb⟩
    go_wp2_with fail
    refine (HI.out _).mono ?_
    rintro e w2 ⟨rfl, rfl⟩
    go_wp2
    refine bodyPost_ret (v := .tuple #[.int .i64 0, .int .i64 7]) (by simp [results, Try.results40, go_sem, *] <;> (repeat' apply And.intro) <;> rfl) rfl ⟨rfl, hb⟩
  rw [hd] at HI
  have HP := Lib.hid (fun W (hb : Below w.heap.size w W) => pageOf_c l A cap (by have := (okEn_parts hok).1; omega) (okEn_I64 hok) W (hr.step hb))
  have HO := Lib.hid (fun B n F W hM hF hg => Off1_c l hok d (isDay_I64 hd) B n g F W hM hF hg)
  have hlm : l.length ≤ 1000 := (okEn_parts hok).1
  clear hok hd hr
  generalize offN l d = N at *
  generalize l.length = m at *
  cases hK : (offV l d).isSome
  all_goals
    rw [hK] at HO
    clear hK
    go_enter Try.func40, Try.ntmps40
    go_wp2_with fail
    refine HV.out.mono ?_
    rintro e w1 ⟨rfl, hb⟩
    go_wp2_with fail
    refine (HI.out _).mono ?_
    rintro e w2 ⟨rfl, rfl⟩
    go_wp2_with fail
    refine (HP.out _ hb).mono ?_
    rintro e w3 ⟨B, n, F, rfl, ⟨hM, hF⟩, hb3⟩
    have HO2 := Lib.hid (HO.out B n F w3 hM hF (keep_cell hb3 (keep_cell hb hg)))
    have hb4 := Below.step hb hb3
    clear hM hF
    go_wp2_with fail
    refine (HO2.out).mono ?_
    rintro e w5 ⟨rfl, hb5⟩
    go_wp2
  · refine bodyPost_ret (v := .tuple #[.int .i64 0, .int .i64 8]) (by simp [results, Try.results40, go_sem, *] <;> (repeat' apply And.intro) <;> rfl) rfl ⟨rfl, Below.step hb4 hb5⟩
  · refine bodyPost_ret (v := .tuple #[.int .i64 N, .int .i64 0]) (by simp [results, Try.results40, go_sem, *] <;> (repeat' apply And.intro) <;> rfl) rfl ⟨rfl, Below.step hb4 hb5⟩
set_option maxHeartbeats 2000000 in
theorem Off_c (l : List Ent) (A : Option Addr) (cap : Nat) (hl : l.length ≤ 9223372036854775807) (d : Int) (w : World) (hr : RdL w w.heap.size enE 3 A l) :
    Calls Try.prog 11 #[.slice A l.length cap, .int .i64 d] w fun e w' => e = .returned (.tuple #[.int .i64 (offR l d).1, .int .i64 (offR l d).2]) ∧ Below w.heap.size w w' := by
  have HT := Lib.hid (fun g W (hb : Below w.heap.size w W) hg => told_c l A cap hl d g W (hr.step hb) hg)
  clear hr
  generalize offR l d = R at *
  obtain ⟨x, y⟩ := R
  generalize l.length = m at *
  go_enter Try.func11, Try.ntmps11
  go_wp2_with fail
  refine (HT.out _ _ (by (repeat (first | (with_reducible exact Below.refl _ _) | (with_reducible assumption) | (with_reducible refine Below.drew ?_) | (with_reducible refine Below.allocS ?_ _) | (with_reducible refine Below.setCell ?_ ?_ _) | (with_reducible refine Below.step ?_ (by assumption)) | (with_reducible refine Below.drewN' ?_ _))); (try any_goals (first | (with_reducible assumption) | (simp; done) | (simp; omega) | omega))) (by simp [go_sem])).mono ?_
  rintro e w1 ⟨rfl, hb⟩
  go_wp2
  refine bodyPost_ret (v := .tuple #[.int .i64 x, .int .i64 y]) (by simp [results, Try.results11, go_sem, *] <;> (repeat' apply And.intro) <;> rfl) rfl ⟨rfl, Below.step (by (repeat (first | (with_reducible exact Below.refl _ _) | (with_reducible assumption) | (with_reducible refine Below.drew ?_) | (with_reducible refine Below.allocS ?_ _) | (with_reducible refine Below.setCell ?_ ?_ _) | (with_reducible refine Below.step ?_ (by assumption)) | (with_reducible refine Below.drewN' ?_ _))); (try any_goals (first | (with_reducible assumption) | (simp; done) | (simp; omega) | omega))) hb⟩
set_option maxHeartbeats 2000000 in
set_option maxRecDepth 100000 in
theorem Rated_c (l : List Ent) (A : Option Addr) (cap : Nat) (hl : l.length ≤ 9223372036854775807) (hok : okEn l = true) (a b : Int) (ha : isDayB a = true) (hb : isDayB b = true) (hab : a < b) (sa : (offV l a).isSome = true) (sb : (offV l b).isSome = true) (w : World) (hr : RdL w w.heap.size enE 3 A l) :
    Calls Try.prog 14 #[.slice A l.length cap, .int .i64 a, .int .i64 b] w fun e w' => e = .returned (.tuple #[.int .i64 (offN l b - offN l a), .int .i64 0]) ∧ Below w.heap.size w w' := by
  have HV := Lib.hid (lValid_c l A cap hl w hr)
  rw [hok] at HV
  have HA := Lib.hid (fun W => isDay_c a W)
  have HB := Lib.hid (fun W => isDay_c b W)
  rw [ha] at HA
  rw [hb] at HB
  have HP := Lib.hid (fun W (hb : Below w.heap.size w W) => pageOf_c l A cap (by have := (okEn_parts hok).1; omega) (okEn_I64 hok) W (hr.step hb))
  have OA := Lib.hid (fun B n F W hM hF => off_c l hok a (isDay_I64 ha) B n F W hM hF)
  have OB := Lib.hid (fun B n F W hM hF => off_c l hok b (isDay_I64 hb) B n F W hM hF)
  have b1 := offN_bd hok a
  have b2 := offN_bd hok b
  rw [sa] at OA
  rw [sb] at OB
  have hge : decide (a ≥ b) = false := decide_eq_false (by omega)
  have hge' : decide (b ≤ a) = false := decide_eq_false (by omega)
  clear hok ha hb sa sb hr
  generalize offN l a = x at *
  generalize offN l b = y at *
  have hsub : IntKind.i64.wrap (y - x) = y - x := IntWalk.i64_in _ (by omega)
  generalize l.length = m at *
  go_enter Try.func14, Try.ntmps14
  go_wp2_with fail
  refine HV.out.mono ?_
  rintro e w1 ⟨rfl, hb1⟩
  go_wp2_with fail
  refine (HA.out _).mono ?_
  rintro e w2 ⟨rfl, rfl⟩
  go_wp2_with fail
  refine (HB.out _).mono ?_
  rintro e w2 ⟨rfl, rfl⟩
  go_wp2_with fail
  refine (HP.out _ hb1).mono ?_
  rintro e w3 ⟨B, n, F, rfl, ⟨hM, hF⟩, hb3⟩
  have OA2 := Lib.hid (OA.out B n F w3 hM hF)
  have OB2 := Lib.hid (fun W (h : Below w3.heap.size w3 W) => OB.out B n F W (hM.step h) hF)
  have hb4 := Below.step hb1 hb3
  clear hM hF
  go_wp2_with fail
  refine (OA2.out).mono ?_
  rintro e w5 ⟨rfl, hb5⟩
  go_wp2_with fail
  refine (OB2.out _ hb5).mono ?_
  rintro e w6 ⟨rfl, hb6⟩
  go_wp2
  refine bodyPost_ret (v := .tuple #[.int .i64 (y - x), .int .i64 0]) (by simp [results, Try.results14, go_sem, *] <;> (repeat' apply And.intro) <;> rfl) rfl ⟨rfl, Below.step (Below.step hb4 hb5) hb6⟩
end Go.Proofs.Ytagbokhmcidokaa
