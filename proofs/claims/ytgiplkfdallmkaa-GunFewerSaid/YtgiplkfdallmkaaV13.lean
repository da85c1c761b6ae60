/-
  The plain law of GunFewer: a further shot leaves no more places; the mirror.
-/
import Derived.Test.YtgiplkfdallmkaaV11
import Derived.Test.YtgiplkfdallmkaaV12
namespace Go.Proofs.Ytgiplkfdallmkaa
open Go.RowKit
set_option linter.unusedVariables false
set_option linter.unusedSimpArgs false
theorem place_mir (x y : Int) : place (-x) y = place x y := by
  have h : within (-x) (-50000) 50000 = within x (-50000) 50000 := by
    unfold within
    rw [show decide (-50000 ≤ -x) = decide (x ≤ 50000) by apply decide_eq_decide.2; omega, show decide (-x ≤ 50000) = decide (-50000 ≤ x) by apply decide_eq_decide.2; omega, Bool.and_comm]
  unfold place
  rw [h]
theorem dd_mir (a b c d : Int) : dd (-a) b (-c) d = dd a b c d := by
  unfold dd
  rw [show -a - -c = -(a - c) by omega, Int.neg_mul_neg]
theorem suit1_mir (s v x y : Int) (t : Shot) : suit1 s v (-x) y (mir t) = suit1 s v x y t := by
  unfold suit1 mir
  simp only [dd_mir]
theorem okShot_mir (t : Shot) : okShot (mir t).gx (mir t).gy (mir t).lo (mir t).hi = okShot t.gx t.gy t.lo t.hi := by
  unfold okShot mir
  simp only [place_mir]
theorem okShots_mir (l : List Shot) : okShots (l.map mir) = okShots l := by
  unfold okShots
  rw [List.length_map, List.all_map]
  congr 1
  apply List.all_congr rfl
  intro t
  exact okShot_mir t
theorem suitAll_mir (s v x y : Int) (l : List Shot) : suitAll s v (-x) y (l.map mir) = suitAll s v x y l := by
  unfold suitAll
  rw [List.all_map]
  apply List.all_congr rfl
  intro t
  exact suit1_mir s v x y t
theorem suE_mir (s v x y : Int) (l : List Shot) : suE s v (l.map mir) (-x) y = suE s v l x y := by
  unfold suE heardE askedE
  rw [okShots_mir]
  have h : [(-x, y)].any (fun p => !place p.1 p.2) = [(x, y)].any (fun p => !place p.1 p.2) := by simp [place_mir]
  rw [h]
theorem suB_mir (s v x y : Int) (l : List Shot) : suB s v (l.map mir) (-x) y = suB s v l x y := by
  unfold suB
  rw [suE_mir, suitAll_mir]
theorem fitL_more (s v : Int) (l : List Shot) (t : Shot) : ∀ ps : List (Int × Int), (fitL s v (l ++ [t]) ps).Sublist (fitL s v l ps)
  | [] => List.Sublist.refl _
  | p :: ps => by
    have ih := fitL_more s v l t ps
    have e : suitAll s v p.1 p.2 (l ++ [t]) = (suitAll s v p.1 p.2 l && suit1 s v p.1 p.2 t) := by simp [suitAll]
    unfold fitL at ih ⊢
    rw [List.filter_cons, List.filter_cons, e]
    cases h1 : suitAll s v p.1 p.2 l
    · simpa using ih
    · cases h2 : suit1 s v p.1 p.2 t
      · exact ih.cons _
      · exact ih.cons_cons _
theorem whL_more {s v a b c d st : Int} {l : List Shot} {t : Shot} (h1 : whE s v l a b c d st = 0) (h2 : whE s v (l ++ [t]) a b c d st = 0) : (whL s v (l ++ [t]) a b c d st).Sublist (whL s v l a b c d st) := by
  rw [whL, if_pos h2, whL, if_pos h1]
  exact fitL_more s v l t _
/-- What Where allows is asked of Suits, too. -/
theorem whE_ok {s v a b c d st : Int} {l : List Shot} (h : whE s v l a b c d st = 0) : okShots l = true ∧ suE s v l a b = 0 := by
  rw [whE_ref] at h
  split at h
  · rename_i hv
    split at h
    · rename_i hb
      rw [Bool.and_eq_true] at hv
      have hbox := box_of_ref hb
      refine ⟨hv.2, ?_⟩
      unfold suE heardE askedE
      simp [hv.1, hv.2, hbox.lo]
    · cases h
  · cases h
/-- Where a list goes on in another: the next one stands there, or further on. -/
theorem sub_next {α : Type} {x y : α} {r p : List α} (h : (x :: r).Sublist (y :: p)) (hne : y ≠ x) : (x :: r).Sublist p := by
  cases h with
  | cons _ h => exact h
  | cons_cons _ h => exact absurd rfl hne
theorem sub_found {α : Type} {x : α} {r p : List α} (h : (x :: r).Sublist p) : r.Sublist p := (List.sublist_cons_self x r).trans h
end Go.Proofs.Ytgiplkfdallmkaa
