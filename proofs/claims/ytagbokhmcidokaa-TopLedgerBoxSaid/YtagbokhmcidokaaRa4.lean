/-
  Daily rates.
-/
import Derived.Test.YtagbokhmcidokaaRa3
namespace Go.Proofs.Ytagbokhmcidokaa
open Go.RowKit Go.Deep
set_option linter.unusedVariables false
set_option linter.unusedSimpArgs false
theorem okErr_parts {l : List Int} (h : okErr l = true) : 2 ≤ l.length ∧ l.length ≤ 400 ∧ ∀ x ∈ l, -86400000 ≤ x ∧ x ≤ 86400000 := by
  unfold okErr at h
  rw [Bool.and_eq_true, List.all_eq_true] at h
  have := wiB_true h.1
  exact ⟨by omega, by omega, fun x hx => wiB_true (h.2 x hx)⟩
theorem Mil.of {l : List Int} (h : ∀ x ∈ l, -1000000000000 ≤ x ∧ x ≤ 1000000000000) : Mil l := fun i => by
  rcases Nat.lt_or_ge i l.length with hi | hi
  · rw [List.getD_eq_getElem?_getD, List.getElem?_eq_getElem hi]
    exact h _ (List.getElem_mem hi)
  · rw [List.getD_eq_getElem?_getD, List.getElem?_eq_none hi]
    simp
theorem okErr_mil {l : List Int} (h : okErr l = true) : Mil l := Mil.of fun x hx => by
  have := (okErr_parts h).2.2 x hx
  omega
/-- Where a list of numbers lies. -/
theorem rd_cells {l : List Int} {A : Option Addr} {w : World} {B : Nat} (hr : RdL w B inE 1 A l) (h : 0 < l.length) : ∃ b off, A = some ⟨b, off, none⟩ ∧ b < B ∧ ∀ i, i < l.length → w.cell? ⟨b, off + i, none⟩ = some (.int .i64 (l.getD i 0)) := by
  obtain ⟨b, off, rfl, hb, hc⟩ := hr h
  refine ⟨b, off, rfl, hb, fun i hi => ?_⟩
  have := hc i hi 0 _ rfl
  rw [Nat.mul_one, Nat.add_zero] at this
  rw [this, List.getD_eq_getElem?_getD, List.getElem?_eq_getElem hi]
  rfl
/-- What is collected. -/
def Coll (w : World) (D : List Int) (e : Ending) (w' : World) : Prop := ∃ A c, e = .returned (.slice A D.length c) ∧ (RdL w' w'.heap.size inE 1 A D ∧ D.length ≤ c) ∧ Below w.heap.size w w'
theorem CollectDif_c (l : List Int) (cap ap : Nat) (hap : 1 ≤ ap ∧ ap ≤ 1000) (hl : l.length ≤ 90000) (hm : Mil l) (b off b1 b2 : Nat) (w : World) (hb : b < w.heap.size)
    (hc : ∀ i, i < l.length → w.cell? ⟨b, off + i, none⟩ = some (.int .i64 (l.getD i 0))) (c1 : w.cell? ⟨b1, 0, none⟩ = some (.int .i64 ap)) (c2 : w.cell? ⟨b2, 0, none⟩ = some (.slice (some ⟨b, off, none⟩) l.length cap)) :
    Calls Try.prog 47 #[.func (.func 92) #[] #[.pointer (some ⟨b1, 0, none⟩), .pointer (some ⟨b2, 0, none⟩)]] w (Coll w (dif l ap)) := by
  have H := Lib.hid (AppendDif_c l cap ap hap hl hm b off b1 b2 w hb hc c1 c2)
  clear hc c1 c2 hm
  generalize dif l ap = D at *
  go_enter Try.func47, Try.ntmps47
  go_wp2_with fail
  refine (H.out).mono ?_
  rintro e w1 ⟨A, c, rfl, h, hb1⟩
  go_wp2
  go_ret
  exact ⟨A, c, rfl, h, hb1⟩
/-- The list of daily rates is handed back with its error. -/
def Daily (w : World) (D : List Int) (e : Ending) (w' : World) : Prop := ∃ A c, e = .returned (.tuple #[.slice A D.length c, .int .i64 0]) ∧ (RdL w' w'.heap.size inE 1 A D ∧ D.length ≤ c) ∧ Below w.heap.size w w'
set_option maxHeartbeats 2000000 in
set_option maxRecDepth 100000 in
theorem Daily_c (l : List Int) (A : Option Addr) (cap : Nat) (hok : okErr l = true) (w : World) (hr : RdL w w.heap.size inE 1 A l) :
    Calls Try.prog 13 #[.agg #[.string ⟨#[97]⟩, .slice A l.length cap]] w (Daily w (dif l 1)) := by
  obtain ⟨h1, h2, -⟩ := okErr_parts hok
  have HV := Lib.hid (fun W (hb : Below w.heap.size w W) => ValidBox_c l A cap (by omega) W (hr.step hb))
  rw [hok] at HV
  obtain ⟨b, off, rfl, hb, hc⟩ := rd_cells hr (by omega)
  have HD := Lib.hid (fun W => differences_c l (some ⟨b, off, none⟩) l.length cap 1 W)
  have HC := Lib.hid (fun (W : World) (b1 b2 : Nat) (hbW : Below w.heap.size w W) c1 c2 => CollectDif_c l cap 1 (by omega) (by omega) (okErr_mil hok) b off b1 b2 W (by have := hbW.size; omega) (fun i hi => keep_cell hbW (hc i hi)) c1 c2)
  clear hok hr hc
  generalize dif l 1 = D at *
  generalize l.length = m at *
  go_enter Try.func13, Try.ntmps13
  go_wp2_with fail
  refine (HV.out _ (by (repeat (first | (with_reducible exact Below.refl _ _) | (with_reducible assumption) | (with_reducible refine Below.drew ?_) | (with_reducible refine Below.allocS ?_ _) | (with_reducible refine Below.setCell ?_ ?_ _) | (with_reducible refine Below.step ?_ (by assumption)) | (with_reducible refine Below.drewN' ?_ _))); (try any_goals (first | (with_reducible assumption) | (simp; done) | (simp; omega) | omega)))).mono ?_
  rintro e w1 ⟨rfl, hb1⟩
  have d1 : w1.cell? ⟨w.heap.size, 1, none⟩ = some (.slice (some ⟨b, off, none⟩) m cap) := keep_cell hb1 (by simp [go_sem])
  have hbw : Below w.heap.size w w1 := Below.step (by (repeat (first | (with_reducible exact Below.refl _ _) | (with_reducible assumption) | (with_reducible refine Below.drew ?_) | (with_reducible refine Below.allocS ?_ _) | (with_reducible refine Below.setCell ?_ ?_ _) | (with_reducible refine Below.step ?_ (by assumption)) | (with_reducible refine Below.drewN' ?_ _))); (try any_goals (first | (with_reducible assumption) | (simp; done) | (simp; omega) | omega))) hb1
  clear hb1
  go_wp2_with fail
  refine (HD.out _).mono ?_
  rintro e w2 ⟨rfl, rfl⟩
  have HC2 := Lib.hid (HC.out ((w1.alloc (.cells #[.slice (some ⟨b, off, none⟩) m cap] 24)).alloc (.cells #[.int .i64 1] 3)) (w1.heap.size + 1) w1.heap.size (by (repeat (first | (with_reducible exact Below.refl _ _) | (with_reducible assumption) | (with_reducible refine Below.drew ?_) | (with_reducible refine Below.allocS ?_ _) | (with_reducible refine Below.setCell ?_ ?_ _) | (with_reducible refine Below.step ?_ (by assumption)) | (with_reducible refine Below.drewN' ?_ _))); (try any_goals (first | (with_reducible assumption) | (simp; done) | (simp; omega) | omega))) (by simp [go_sem]) (by simp [go_sem]))
  have hb2 : Below w1.heap.size w1 ((w1.alloc (.cells #[.slice (some ⟨b, off, none⟩) m cap] 24)).alloc (.cells #[.int .i64 1] 3)) := by (repeat (first | (with_reducible exact Below.refl _ _) | (with_reducible assumption) | (with_reducible refine Below.drew ?_) | (with_reducible refine Below.allocS ?_ _) | (with_reducible refine Below.setCell ?_ ?_ _) | (with_reducible refine Below.step ?_ (by assumption)) | (with_reducible refine Below.drewN' ?_ _))); (try any_goals (first | (with_reducible assumption) | (simp; done) | (simp; omega) | omega))
  generalize ((w1.alloc (.cells #[.slice (some ⟨b, off, none⟩) m cap] 24)).alloc (.cells #[.int .i64 1] 3)) = w3 at *
  go_wp2_with fail
  refine (HC2.out).mono ?_
  rintro e w4 ⟨A4, c4, rfl, h4, hb4⟩
  go_wp2
  refine bodyPost_ret (v := .tuple #[.slice A4 D.length c4, .int .i64 0]) (by simp [results, Try.results13, go_sem, *] <;> (repeat' apply And.intro) <;> rfl) rfl ⟨A4, c4, rfl, h4, Below.step (Below.step hbw hb2) hb4⟩
end Go.Proofs.Ytagbokhmcidokaa
