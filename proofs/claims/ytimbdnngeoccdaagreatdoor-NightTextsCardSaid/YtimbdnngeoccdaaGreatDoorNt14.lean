/-
  What the search for the best list keeps: the lists, and the map of them. No conditions.
-/
import Derived.Test.YtimbdnngeoccdaaGreatDoorNt13
import Derived.Deep.RegionLawGrows
namespace Go.Proofs.YtimbdnngeoccdaaGreatDoor
open Go.RowKit Go.Deep
set_option linter.unusedVariables false
set_option linter.unusedSimpArgs false
theorem Clip_c (A : Option Addr) (n cap : Nat) (h : n ≤ cap) (hm : cap ≤ maxLen) (hz : A = none → n = 0 ∧ cap = 0) (w : World) : Calls Tryz.prog 120 #[.slice A n cap] w fun e w' => e = .returned (.slice A n n) ∧ w' = w := by
  unfold maxLen at hm
  cases A with
  | none =>
    obtain ⟨rfl, rfl⟩ := hz rfl
    go_enter Tryz.func120, Tryz.ntmps120
    go_wp2
    go_ret
    exact ⟨rfl, rfl⟩
  | some a =>
    obtain ⟨b, off, sp⟩ := a
    clear hz
    go_enter Tryz.func120, Tryz.ntmps120
    go_wp2
    go_ret
    exact ⟨rfl, rfl⟩
theorem app_clip (l : List Int) (x : Int) (A : Option Addr) (hl : l.length ≤ 1000) (W : World) (g : Nat) (hr : RdL W W.heap.size inE 1 A l) (c0 : W.cell? ⟨g, 0, none⟩ = some (.int .i64 x)) (n : Nat) (hn : n = l.length) :
    ∃ v' w', (Builtin.append_ #[75, 75] 75 #[.slice A n n, .slice (some ⟨g, 0, none⟩) 1 1]).run Tryz.prog W = .ok v' w' ∧ (w'.ownsRow W.heap.size 3 1 v' (n + 1) ((l ++ [x]).flatMap inE) ∧ Below W.heap.size W w') := by
  subst hn
  obtain ⟨i1, z, bytes, hj, hy0, hy1, hy2, hy3, hy4⟩ := appI.info
  have hnew : ∀ j u, (inE x)[j]? = some u → W.cell? ((⟨g, 0, none⟩ : Addr).add j) = some u := fun j u hu => by rw [add_none]; exact one_cell (enc := inE) rfl c0 j u hu
  have hb2 : (l.length + 1) * bytes ≤ 140737488355328 := by have := Nat.mul_le_mul (show l.length + 1 ≤ 1001 by omega) hy4; omega
  cases A with
  | none =>
    have h0 : l.length = 0 := hr.none_len rfl
    have : l = [] := List.eq_nil_of_length_eq_zero h0
    subst this
    obtain ⟨v', w', hrun, r1, r2, -⟩ := run_append_own (P := Tryz.prog) W W.heap.size 75 75 3 i1 z 1 bytes appI.ht hj hy0 hy1 hy2 hy3 (by decide) (.slice none 0 0) 0 [] (World.ownsRow_nil W _ _ 1) ⟨g, 0, none⟩ 1 1 (inE x) rfl hnew (by simp [inE, Value.oneCell']) (by unfold maxLen; omega) (by simpa using hb2) (Nat.le_refl _)
    exact ⟨v', w', hrun, by simpa using r1, Below.grown (Below.refl _ _) r2 (Nat.le_refl _) (fun k e => by cases e)⟩
  | some b =>
    obtain ⟨v', w', hrun, r1, r2⟩ := run_append_arg_grows (P := Tryz.prog) W 75 75 3 i1 z 1 bytes appI.ht hj hy0 hy1 hy2 hy3 (by decide) b l.length l.length (l.flatMap inE) (by rw [flat_len inE 1 (fun _ => rfl) l]) (RdL.olds (sz := 1) (enc := inE) (fun _ => rfl) (by decide) hr (Below.refl _ _) b rfl) ⟨g, 0, none⟩ 1 1 (inE x) rfl hnew (by omega) (by unfold maxLen; omega) (by simpa using hb2)
    exact ⟨v', w', hrun, by rw [List.flatMap_append]; simpa using r1, Below.grown (Below.refl _ _) r2 (Nat.le_refl _) (fun k e => by cases e)⟩

theorem appSl : AppE 130 75 slE 1 where
  ht := Tryz.underlying130
  info := app_info (z := .slice none 0 0) (bytes := 24) (by kernel_rfl) rfl (by decide)
  pos := by decide
  len := fun x => rfl
  one := fun x u hu => by simp [slE] at hu; subst hu; rfl
/-- The least of lists, by the ranking. -/
def minP (l : List Ch) (cs : List (List Nat)) : Nat → List Nat
  | 0 => cs.getD 0 []
  | k + 1 => if cmpR l (cs.getD (k + 1) []) (minP l cs k) < 0 then cs.getD (k + 1) [] else minP l cs k
theorem minK_xs (l : List Ch) (ls : List SlL) : ∀ k, (minK l ls k).xs = minP l (ls.map (·.xs)) k := by
  have hg : ∀ k, (ls.getD k sl0).xs = (ls.map (·.xs)).getD k [] := fun k => by
    rw [List.getD_eq_getElem?_getD, List.getD_eq_getElem?_getD, List.getElem?_map]
    cases ls[k]? <;> rfl
  intro k
  induction k with
  | zero => exact hg 0
  | succ k ih =>
    unfold minK minP
    rw [← ih, ← hg]
    split <;> rfl
def slV (s : SlL) : Value := .slice s.A s.xs.length s.c
/-- The map of the lists that end with each clear chance. -/
def eF (cl : Nat → Bool) (S : Nat → SlL) (k : Nat) : Lit → Option Value
  | .int .i64 a => if 0 ≤ a ∧ a.toNat < k ∧ cl a.toNat = true then some (slV (S a.toNat)) else none
  | _ => none
theorem eF_zero (cl : Nat → Bool) (S : Nat → SlL) : eF cl S 0 = fun _ => none := by
  funext kl
  unfold eF
  split
  · rw [if_neg (fun h => Nat.not_lt_zero _ h.2.1)]
  · rfl
theorem eF_skip {cl : Nat → Bool} (S : Nat → SlL) {k : Nat} (h : cl k = false) : eF cl S (k + 1) = eF cl S k := by
  funext kl
  unfold eF
  split
  · rename_i a
    by_cases h1 : a.toNat = k
    · rw [if_neg (fun h2 => by rw [h1, h] at h2; cases h2.2.2), if_neg (fun h2 => by omega)]
    · have : (0 ≤ a ∧ a.toNat < k + 1 ∧ cl a.toNat = true) = (0 ≤ a ∧ a.toNat < k ∧ cl a.toNat = true) := by
        apply propext
        constructor
        · rintro ⟨x, y, z⟩; exact ⟨x, by omega, z⟩
        · rintro ⟨x, y, z⟩; exact ⟨x, by omega, z⟩
      simp only [this]
  · rfl
def setS (S : Nat → SlL) (k : Nat) (x : SlL) : Nat → SlL := fun j => if j = k then x else S j
theorem eF_put {cl : Nat → Bool} (S : Nat → SlL) {k : Nat} (x : SlL) (h : cl k = true) : eF cl (setS S k x) (k + 1) = putF (eF cl S k) (.int .i64 (k : Int)) (slV x) := by
  funext kl
  unfold putF
  by_cases e : kl = .int .i64 (k : Int)
  · subst e
    rw [if_pos rfl]
    unfold eF
    simp only
    rw [if_pos ⟨by omega, by simp, by simpa using h⟩]
    unfold setS
    rw [if_pos (by simp)]
  · rw [if_neg e]
    unfold eF
    split
    · rename_i a
      by_cases h0 : 0 ≤ a
      · have hne : a.toNat ≠ k := fun h1 => e (by rw [← h1, Int.toNat_of_nonneg h0])
        by_cases h1 : a.toNat < k ∧ cl a.toNat = true
        · rw [if_pos ⟨h0, by omega, h1.2⟩, if_pos ⟨h0, h1⟩]
          unfold setS
          rw [if_neg hne]
        · rw [if_neg (fun h2 => h1 ⟨by omega, h2.2.2⟩), if_neg (fun h2 => h1 h2.2)]
      · rw [if_neg (fun h2 => h0 h2.1), if_neg (fun h2 => h0 h2.1)]
    · rfl
theorem eF_get (cl : Nat → Bool) (S : Nat → SlL) (k j : Nat) : eF cl S k (.int .i64 (j : Int)) = if j < k ∧ cl j = true then some (slV (S j)) else none := by
  unfold eF
  simp only [Int.toNat_natCast]
  by_cases h : j < k ∧ cl j = true
  · rw [if_pos ⟨by omega, h⟩, if_pos h]
  · rw [if_neg (fun h2 => h h2.2), if_neg h]
theorem zero_slice (W : World) : (zeroValue 75).run Tryz.prog W = .ok (.slice none 0 0) W := by kernel_rfl
/-- What may stand ahead of a chance in a list. -/
def preB (l : List Ch) (L : List Cl) (per : Int) (k i : Nat) : Bool := !covB (l.getD k ch0) L && folC (l.getD k ch0) (l.getD i ch0) per
/-- The lists that end with chance i, out of the best ones that end before. -/
def cand (l : List Ch) (L : List Cl) (per : Int) (T : List (List Nat)) (i k : Nat) : List (List Nat) := [i] :: ((List.range k).filter (fun j => preB l L per j i)).map (fun j => T.getD j [] ++ [i])
theorem cand_succ (l : List Ch) (L : List Cl) (per : Int) (T : List (List Nat)) (i k : Nat) : cand l L per T i (k + 1) = if preB l L per k i then cand l L per T i k ++ [T.getD k [] ++ [i]] else cand l L per T i k := by
  unfold cand
  rw [List.range_succ, List.filter_append]
  cases h : preB l L per k i <;> simp [h]
/-- The best list that ends with each chance. -/
def eT (l : List Ch) (L : List Cl) (per : Int) : Nat → List (List Nat)
  | 0 => []
  | i + 1 => eT l L per i ++ [minP l (cand l L per (eT l L per i) i i) ((cand l L per (eT l L per i) i i).length - 1)]
theorem eT_len (l : List Ch) (L : List Cl) (per : Int) : ∀ k, (eT l L per k).length = k
  | 0 => rfl
  | k + 1 => by unfold eT; rw [List.length_append, eT_len l L per k]; rfl
theorem eT_get (l : List Ch) (L : List Cl) (per : Int) {j : Nat} : ∀ {k : Nat}, j < k → (eT l L per k).getD j [] = (eT l L per (j + 1)).getD j []
  | k + 1, h => by
    rcases Nat.lt_succ_iff_lt_or_eq.1 h with h | rfl
    · rw [← eT_get l L per h]
      conv => lhs; unfold eT
      rw [List.getD_eq_getElem?_getD, List.getElem?_append_left (by rw [eT_len]; exact h), ← List.getD_eq_getElem?_getD]
    · rfl
end Go.Proofs.YtimbdnngeoccdaaGreatDoor
