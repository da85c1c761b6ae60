/-
  The least of lists by the ranking. No conditions.
-/
import Derived.Test.YtimbdnngeoccdaaGreatDoorNt12
namespace Go.Proofs.YtimbdnngeoccdaaGreatDoor
open Go.RowKit Go.Deep
set_option linter.unusedVariables false
set_option linter.unusedSimpArgs false
/-- A list of indexes where it lies. -/
structure SlL where
  A : Option Addr
  c : Nat
  xs : List Nat
def slE (s : SlL) : List Value := [.slice s.A s.xs.length s.c]
def sl0 : SlL := ⟨none, 0, []⟩
structure SlAt (w : World) (n : Nat) (s : SlL) : Prop where
  r : RdL w w.heap.size inE 1 s.A (s.xs.map Int.ofNat)
  i : ∀ i ∈ s.xs, i < n
  l : s.xs.length ≤ 1000
  c : s.xs.length ≤ s.c ∧ s.c ≤ maxLen
theorem SlAt.step {w W : World} {n : Nat} {s : SlL} (h : SlAt w n s) (hb : Below w.heap.size w W) : SlAt W n s := ⟨h.r.step hb, h.i, h.l, h.c⟩
def minK (l : List Ch) (ls : List SlL) : Nat → SlL
  | 0 => ls.getD 0 sl0
  | k + 1 => if cmpR l (ls.getD (k + 1) sl0).xs (minK l ls k).xs < 0 then ls.getD (k + 1) sl0 else minK l ls k
theorem minK_mem (l : List Ch) (ls : List SlL) : ∀ k, k < ls.length → minK l ls k ∈ ls := by
  have hg : ∀ k, k < ls.length → ls.getD k sl0 ∈ ls := fun k h => by
    rw [List.getD_eq_getElem?_getD, List.getElem?_eq_getElem h]; exact List.getElem_mem h
  intro k
  induction k with
  | zero => intro h; exact hg 0 h
  | succ k ih =>
    intro h
    unfold minK
    split
    · exact hg _ h
    · exact ih (by omega)
theorem call_cmp (args : Array Value) (W : World) : (callFunc 94 args).run Tryz.prog W = .ok (.enter 94 args) W := by kernel_rfl
set_option maxHeartbeats 2000000 in
set_option maxRecDepth 100000 in
theorem MinFunc_c (l : List Ch) (A : Option Addr) (cap : Nat) (hv : VOk l) (hl : l.length ≤ 1000000) (ls : List SlL) (n : Nat) (hn : ls.length = n) (h1 : 1 ≤ n) (h2 : n ≤ 1000000) (B : Option Addr) (cb : Nat) (w : World)
    (hr : RdL w w.heap.size chE 5 A l) (hrs : RdL w w.heap.size slE 1 B ls) (hs : ∀ s ∈ ls, SlAt w l.length s) :
    Calls Tryz.prog 93 #[.slice B n cb, .func (.func 94) #[.agg #[.slice A l.length cap]] #[]] w fun e w' => e = .returned (.slice (minK l ls (n - 1)).A (minK l ls (n - 1)).xs.length (minK l ls (n - 1)).c) ∧ Below w.heap.size w w' := by
  have HN := Lib.hid hn
  have HRS := Lib.hid hrs
  have HC : Hid (∀ a ∈ ls, ∀ b ∈ ls, ∀ W, Below w.heap.size w W → Calls Tryz.prog 94 #[.agg #[.slice A l.length cap], .slice a.A a.xs.length a.c, .slice b.A b.xs.length b.c] W fun e w' => e = .returned (.int .i64 (cmpR l a.xs b.xs)) ∧ Below W.heap.size W w') :=
    Lib.hid (fun a ha b hb W h => compare_c l A cap hv hl a.xs b.xs (hs a ha).i (hs b hb).i (hs a ha).l (hs b hb).l a.A b.A a.c b.c W (hr.step h) ((hs a ha).r.step h) ((hs b hb).r.step h))
  have HMM := Lib.hid (fun k h => minK_mem l ls k h)
  have hcl := call_cmp
  clear hr hrs hs hv hn
  obtain ⟨b, off, rfl, hb0, hc⟩ := HRS.out (by rw [HN.out]; omega)
  have hcell : ∀ k, k < n → ∀ W, Below w.heap.size w W → W.cell? ⟨b, off + k, none⟩ = some (.slice (ls.getD k sl0).A (ls.getD k sl0).xs.length (ls.getD k sl0).c) := fun k hk W hb => by
    have hkl : k < ls.length := by rw [HN.out]; exact hk
    have := (hb.cell (p := ⟨b, _, none⟩) hb0).trans (hc k hkl 0 _ rfl)
    rw [List.getD_eq_getElem?_getD, List.getElem?_eq_getElem hkl]
    simpa using this
  have HCL := Lib.hid hcell
  have c00 := hcell 0 h1 w (Below.refl _ _)
  have hmem : ∀ k, k < n → ls.getD k sl0 ∈ ls := fun k hk => by
    have hkl : k < ls.length := by rw [HN.out]; exact hk
    rw [List.getD_eq_getElem?_getD, List.getElem?_eq_getElem hkl]; exact List.getElem_mem hkl
  have HMEM := Lib.hid hmem
  clear hc hcell hmem
  rw [Nat.add_zero] at c00
  have d1 : decide ((n : Int) < 1) = false := decide_eq_false (by omega)
  have z0 : (0 : Int) < (n : Int) := by omega
  go_enter Tryz.func93, Tryz.ntmps93
  go_wp2
  go_loopw [5, 6] (fun u i wr => ∃ k : Nat, k + 1 ≤ n ∧ i = .int .i64 ((k : Int) + 1) ∧ u = .slice (minK l ls k).A (minK l ls k).xs.length (minK l ls k).c ∧ Below w.heap.size w wr) (fun _ i _ => n - (intOf i).toNat)
  case atStart => exact ⟨0, h1, rfl, rfl, Below.refl _ _⟩
  case round =>
    obtain ⟨k, hk, rfl, rfl, hbw⟩ := hrel
    by_cases hlt : k + 1 < n
    · have u1 : decide ((k : Int) + 1 < (n : Int)) = true := decide_eq_true (by omega)
      have u2 : (0 : Int) ≤ (k : Int) + 1 := by omega
      have u3 : (k : Int) + 1 < (n : Int) := by omega
      have u4 : IntKind.i64.wrap ((k : Int) + 1 + 1) = (k : Int) + 1 + 1 := IntWalk.i64_in _ (by omega)
      have c0 := HCL.out (k + 1) hlt _ hbw
      have yb := cell?_lt c0
      have hcmp := HC.out _ (HMEM.out (k + 1) hlt) _ (HMM.out k (by rw [HN.out]; omega)) _ hbw
      have HCM := Lib.hid hcmp
      have HST := Lib.hid (show minK l ls (k + 1) = if cmpR l (ls.getD (k + 1) sl0).xs (minK l ls k).xs < 0 then ls.getD (k + 1) sl0 else minK l ls k from rfl)
      clear hcmp
      obtain ⟨m, hm⟩ : ∃ m, m = minK l ls k := ⟨_, rfl⟩
      rw [← hm] at HCM HST ⊢
      clear hm
      generalize ls.getD (k + 1) sl0 = x at *
      generalize cmpR l x.xs m.xs = o at *
      obtain ⟨xl, hxl⟩ : ∃ xl, xl = x.xs.length := ⟨_, rfl⟩
      have HXL := Lib.hid hxl
      rw [← hxl] at c0 HCM
      clear hxl
      go_wp2_with fail
      refine HCM.out.mono ?_
      rintro e w1 ⟨rfl, hb1⟩
      have c1 : w1.cell? ⟨b, off + (k + 1), none⟩ = some (.slice x.A xl x.c) := keep_cell hb1 c0
      have yb1 := cell?_lt c1
      have hbw1 : Below w.heap.size w w1 := Below.step hbw hb1
      clear hb1 c0 yb
      by_cases ho : o < 0
      · have e1 : decide (o < 0) = true := decide_eq_true ho
        have HR2 := Lib.hid (show minK l ls (k + 1) = x by rw [HST.out, if_pos ho])
        clear ho
        go_wp2
        go_roundw
        case rel => exact ⟨k + 1, hlt, by go_num, by rw [HR2.out, HXL.out], hbw1⟩
        case measure => simp [intOf]; omega
      · have e1 : decide (o < 0) = false := decide_eq_false ho
        have HR2 := Lib.hid (show minK l ls (k + 1) = m by rw [HST.out, if_neg ho])
        clear ho
        go_wp2
        go_roundw
        case rel => exact ⟨k + 1, hlt, by go_num, by rw [HR2.out], hbw1⟩
        case measure => simp [intOf]; omega
    · obtain rfl : n = k + 1 := by omega
      have u1 : decide ((k : Int) + 1 < ((k + 1 : Nat) : Int)) = false := decide_eq_false (by omega)
      go_wp2
      go_ret
      exact ⟨by rw [Nat.add_sub_cancel]; rfl, hbw⟩
end Go.Proofs.YtimbdnngeoccdaaGreatDoor
