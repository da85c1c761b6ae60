/-
  Bundle KN1: Nt39, Nt40, Nt41, Nt42. Printed by bundle.py.
-/
import Derived.Test.YtomgaiokmdcjmaaNt25
import Derived.Deep.AppendSrc
import Derived.Test.YtomgaiokmdcjmaaPre2
import Derived.Test.YtomgaiokmdcjmaaNt36
namespace Go.Proofs.Ytomgaiokmdcjmaa
open Go.RowKit Go.Deep
set_option linter.unusedVariables false
set_option linter.unusedSimpArgs false
structure Sg where
  t : Int
  a : Int
  b : Int
  lo : Int
  hi : Int
def sgE (s : Sg) : List Value := [.int .i64 s.t, .int .i64 s.a, .int .i64 s.b, .int .i64 s.lo, .int .i64 s.hi]
def sg0 : Sg := ⟨0, 0, 0, 0, 0⟩
def okS (n : Int) (s : Sg) : Bool := within s.a 0 (n - 1) && (within s.b 0 (n - 1) && (decide (s.a ≠ s.b) && (decide (s.lo = s.hi) && within s.lo (-1000000) 1000000)))
def vdB (n : Int) (l : List Sg) : Bool := within n 1 8 && (decide (l.length ≤ 30) && l.all (okS n))
/-- All that valid differences have. -/
structure VdP (n : Nat) (l : List Sg) : Prop where
  n1 : 1 ≤ n
  n8 : n ≤ 8
  len : l.length ≤ 30
  a : ∀ i, i < l.length → 0 ≤ (l.getD i sg0).a ∧ (l.getD i sg0).a < (n : Int)
  b : ∀ i, i < l.length → 0 ≤ (l.getD i sg0).b ∧ (l.getD i sg0).b < (n : Int)
  lo : ∀ i, i < l.length → -1000000 ≤ (l.getD i sg0).lo ∧ (l.getD i sg0).lo ≤ 1000000
theorem sg_mem {l : List Sg} {i : Nat} (h : i < l.length) : l.getD i sg0 ∈ l := by
  rw [List.getD_eq_getElem?_getD, List.getElem?_eq_getElem h]; exact List.getElem_mem h
theorem VdP.of {n : Nat} {l : List Sg} (h : vdB (n : Int) l = true) : VdP n l := by
  unfold vdB at h
  simp only [Bool.and_eq_true, decide_eq_true_eq, List.all_eq_true] at h
  have h1 := within_true h.1
  have hs : ∀ i, i < l.length → okS n (l.getD i sg0) = true := fun i hi => h.2.2 _ (sg_mem hi)
  refine ⟨by omega, by omega, h.2.1, fun i hi => ?_, fun i hi => ?_, fun i hi => ?_⟩
  · have := hs i hi
    unfold okS at this
    simp only [Bool.and_eq_true] at this
    have := within_true this.1; omega
  · have := hs i hi
    unfold okS at this
    simp only [Bool.and_eq_true] at this
    have := within_true this.2.1; omega
  · have := hs i hi
    unfold okS at this
    simp only [Bool.and_eq_true] at this
    have := within_true this.2.2.2.2; omega
/-- Where a number leads from and to, and what it adds. -/
def tkF (l : List Sg) (k : Nat) : Int := if k % 2 = 0 then (l.getD (k / 2) sg0).b else (l.getD (k / 2) sg0).a
def tkT (l : List Sg) (k : Nat) : Int := if k % 2 = 0 then (l.getD (k / 2) sg0).a else (l.getD (k / 2) sg0).b
def tkV (l : List Sg) (k : Nat) : Int := if k % 2 = 0 then (l.getD (k / 2) sg0).lo else -(l.getD (k / 2) sg0).lo
def frN (l : List Sg) (k : Nat) : Nat := (tkF l k).toNat
def toN (l : List Sg) (k : Nat) : Nat := (tkT l k).toNat
theorem tk_bd {n : Nat} {l : List Sg} (h : VdP n l) {k : Nat} (hk : k < 2 * l.length) : tkF l k = (frN l k : Int) ∧ tkT l k = (toN l k : Int) ∧ frN l k < n ∧ toN l k < n ∧ -1000000 ≤ tkV l k ∧ tkV l k ≤ 1000000 := by
  have ha := h.a (k / 2) (by omega)
  have hb := h.b (k / 2) (by omega)
  have hl := h.lo (k / 2) (by omega)
  unfold frN toN tkF tkT tkV
  by_cases he : k % 2 = 0
  · simp only [if_pos he]; omega
  · simp only [if_neg he]; omega
/-- The number that leads back. -/
def bk (k : Nat) : Nat := if k % 2 = 0 then k + 1 else k - 1
theorem bk_lt {m k : Nat} (h : k < 2 * m) : bk k < 2 * m := by
  unfold bk; split <;> omega
theorem bk_tk (l : List Sg) (k : Nat) : tkF l (bk k) = tkT l k ∧ tkT l (bk k) = tkF l k ∧ tkV l (bk k) = - tkV l k := by
  unfold bk tkF tkT tkV
  by_cases he : k % 2 = 0
  · have h1 : (k + 1) % 2 ≠ 0 := by omega
    have h2 : (k + 1) / 2 = k / 2 := by omega
    simp only [if_pos he, if_neg h1, h2]
    exact ⟨trivial, trivial, trivial⟩
  · have h1 : (k - 1) % 2 = 0 := by omega
    have h2 : (k - 1) / 2 = k / 2 := by omega
    simp only [if_neg he, if_pos h1, h2]
    exact ⟨trivial, trivial, by omega⟩
/-- A way by differences, from f, and its sum. -/
inductive Pth (l : List Sg) (f : Nat) : Nat → List Nat → Int → Prop
  | nil : Pth l f f [] 0
  | snoc {m : Nat} {w : List Nat} {v : Int} {k : Nat} : Pth l f m w v → k < 2 * l.length → frN l k = m → Pth l f (toN l k) (w ++ [k]) (v + tkV l k)
structure HabSpec (l : List Sg) (n : Nat) (v : Nat → Int) (f : Nat → Nat) : Prop where
  path : ∀ o, o < n → f o < n ∧ ∃ w, Pth l (f o) o w (v o)
  same : ∀ k, k < 2 * l.length → f (frN l k) = f (toN l k)
  zero : f 0 = 0
def Sat (l : List Sg) (v : Nat → Int) : Prop := ∀ k, k < 2 * l.length → v (toN l k) - v (frN l k) = tkV l k
theorem Sat.even {l : List Sg} {v : Nat → Int} (h : ∀ i, i < l.length → v (l.getD i sg0).a.toNat - v (l.getD i sg0).b.toNat = (l.getD i sg0).lo) : Sat l v := by
  intro k hk
  have := h (k / 2) (by omega)
  unfold toN frN tkT tkF tkV
  by_cases he : k % 2 = 0
  · simp only [if_pos he]; omega
  · simp only [if_neg he]; omega
theorem Sat.at {l : List Sg} {v : Nat → Int} (h : Sat l v) {i : Nat} (hi : i < l.length) : v (l.getD i sg0).a.toNat - v (l.getD i sg0).b.toNat = (l.getD i sg0).lo := by
  have := h (2 * i) (by omega)
  unfold toN frN tkT tkF tkV at this
  have h1 : 2 * i % 2 = 0 := by omega
  have h2 : 2 * i / 2 = i := by omega
  simp only [if_pos h1, h2] at this
  exact this
theorem pth_pot {l : List Sg} {p : Nat → Int} (hp : Sat l p) {f o : Nat} {w : List Nat} {v : Int} (h : Pth l f o w v) : v = p o - p f := by
  induction h with
  | nil => omega
  | snoc h1 h2 h3 ih =>
    have := hp _ h2
    rw [h3] at this
    omega
theorem pth_same {l : List Sg} {g : Nat → Nat} (hg : ∀ k, k < 2 * l.length → g (frN l k) = g (toN l k)) {f o : Nat} {w : List Nat} {v : Int} (h : Pth l f o w v) : g o = g f := by
  induction h with
  | nil => rfl
  | snoc h1 h2 h3 ih => rw [← hg _ h2, h3]; exact ih
theorem sat_iff {n : Nat} {l : List Sg} (hd : VdP n l) {v v' : Nat → Int} {f f' : Nat → Nat} (h : HabSpec l n v f) (h' : HabSpec l n v' f') (hs : Sat l v) : Sat l v' := by
  intro k hk
  have hb := tk_bd hd hk
  obtain ⟨-, w1, p1⟩ := h'.path _ hb.2.2.1
  obtain ⟨-, w2, p2⟩ := h'.path _ hb.2.2.2.1
  have e1 := pth_pot hs p1
  have e2 := pth_pot hs p2
  have e3 := h'.same k hk
  have e4 := hs k hk
  rw [e3] at e1
  omega
theorem zero_iff {n : Nat} {l : List Sg} {v v' : Nat → Int} {f f' : Nat → Nat} (h : HabSpec l n v f) (h' : HabSpec l n v' f') {o : Nat} (ho : o < n) (hf : f o = 0) : f' o = 0 := by
  obtain ⟨-, w, p⟩ := h.path o ho
  rw [hf] at p
  rw [pth_same h'.same p]; exact h'.zero
theorem sat_zero {n : Nat} {l : List Sg} (hn : 0 < n) {v : Nat → Int} {f : Nat → Nat} (h : HabSpec l n v f) (hs : Sat l v) : v 0 = 0 := by
  obtain ⟨-, w, p⟩ := h.path 0 hn
  rw [h.zero] at p
  have := pth_pot hs p
  omega
theorem hab_eq {n : Nat} {l : List Sg} (hn : 0 < n) {v v' : Nat → Int} {f f' : Nat → Nat} (h : HabSpec l n v f) (h' : HabSpec l n v' f') (hs : Sat l v) (hs' : Sat l v') {o : Nat} (ho : o < n) (hf : f o = 0) : v o = v' o := by
  obtain ⟨-, w, p⟩ := h.path o ho
  rw [hf] at p
  have := pth_pot hs' p
  have := sat_zero hn h' hs'
  omega
/-- A queue that lies somewhere in memory of the call's own. -/
structure QAt (W : World) (base g off : Nat) (Q : List Nat) (cap : Nat) : Prop where
  ge : base ≤ g
  lt : g < W.heap.size
  c : ∀ j, j < Q.length → W.cell? ⟨g, off + j, none⟩ = some (.int .i64 (atN Q j))
  t : ∀ j, j < cap → (W.cell? ⟨g, off + j, none⟩).isSome = true ∧ W.frozen? ⟨g, off + j, none⟩ = false
  le : Q.length ≤ cap
  mx : cap ≤ maxLen
theorem QAt.step {W W' : World} {base g off cap : Nat} {Q : List Nat} (h : QAt W base g off Q cap) (hb : Below W.heap.size W W') : QAt W' base g off Q cap :=
  ⟨h.ge, by have := hb.size; have := h.lt; omega, fun j hj => keep_cell hb (h.c j hj), fun j hj => ⟨by rw [hb.cell (p := ⟨g, off + j, none⟩) h.lt]; exact (h.t j hj).1, keep_frozen hb h.lt (h.t j hj).2⟩, h.le, h.mx⟩
theorem QAt.kept {W W' : World} {base g off cap : Nat} {Q : List Nat} (h : QAt W base g off Q cap) (hg : W'.heap[g]? = W.heap[g]?) (hs : W.heap.size ≤ W'.heap.size) : QAt W' base g off Q cap :=
  ⟨h.ge, by have := h.lt; omega, fun j hj => (World.cell?_of_block (a := ⟨g, off + j, none⟩) hg).trans (h.c j hj), fun j hj => ⟨by rw [World.cell?_of_block (a := ⟨g, off + j, none⟩) hg]; exact (h.t j hj).1, (World.frozen?_of_block (a := ⟨g, off + j, none⟩) hg).trans (h.t j hj).2⟩, h.le, h.mx⟩
theorem atN_snoc (Q : List Nat) (x j : Nat) (hj : j < (Q ++ [x]).length) : (j < Q.length ∧ atN (Q ++ [x]) j = atN Q j) ∨ (j = Q.length ∧ atN (Q ++ [x]) j = x) := by
  unfold atN
  rw [List.length_append, List.length_cons, List.length_nil] at hj
  rcases Nat.lt_or_ge j Q.length with h | h
  · exact .inl ⟨h, by rw [List.getD_eq_getElem?_getD, List.getD_eq_getElem?_getD, List.getElem?_append_left h]⟩
  · obtain rfl : j = Q.length := by omega
    exact .inr ⟨rfl, by rw [List.getD_eq_getElem?_getD, List.getElem?_append_right (Nat.le_refl _), Nat.sub_self]; rfl⟩
theorem queue_push {W : World} {base g off cap : Nat} {Q : List Nat} (h : QAt W base g off Q cap) (hl : Q.length ≤ 1000) (hb : base ≤ W.heap.size) (x p : Nat) (hx : W.cell? ⟨p, 0, none⟩ = some (.int .i64 x)) :
    ∃ g' off' cap' w', (Builtin.append_ #[26, 26] 26 #[.slice (some ⟨g, off, none⟩) Q.length cap, .slice (some ⟨p, 0, none⟩) 1 1]).run Try.prog W = .ok (.slice (some ⟨g', off', none⟩) (Q.length + 1) cap') w' ∧
      (QAt w' base g' off' (Q ++ [x]) cap' ∧ W.grownBy w' (some g) ∧ (g' = g ∨ W.heap.size ≤ g')) := by
  obtain ⟨i, z, bytes, h1, h2, h3, h4, h5, h6⟩ := appI.info
  have hsrc : Src Try.prog i.size 26 (.slice (some ⟨p, 0, none⟩) 1 1) 1 [.int .i64 x] W := Src.ofSlice W appI.ht ⟨p, 0, none⟩ 1 1 [.int .i64 x] (by rw [h3]; rfl) (fun j u hu => by
    have hj : j < 1 := (List.getElem?_eq_some_iff.1 hu).1
    obtain rfl : j = 0 := by omega
    simp at hu; subst hu; exact hx) (fun u hu => by simp at hu; subst hu; rfl)
  have hlt := h.lt
  by_cases hroom : Q.length + 1 ≤ cap
  · have ht := h.t Q.length (by omega)
    have hrun := run_append_room_src (P := Try.prog) W 26 26 26 3 i appI.ht h1 g off Q.length cap (.slice (some ⟨p, 0, none⟩) 1 1) 1 [.int .i64 x] hsrc hroom
      (fun j hj => by obtain rfl : j = 0 := (by simpa using hj); rw [h3, Nat.mul_one, Nat.add_zero]; exact ht.1) (fun j hj => by obtain rfl : j = 0 := (by simpa using hj); rw [h3, Nat.mul_one, Nat.add_zero]; exact ht.2)
    rw [h3, Nat.mul_one] at hrun
    have hset : W.setCells g (off + Q.length) [.int .i64 x] = W.setCell ⟨g, off + Q.length, none⟩ (.int .i64 x) := rfl
    rw [hset] at hrun
    obtain ⟨u0, hu0⟩ := Option.isSome_iff_exists.1 ht.1
    refine ⟨g, off, cap, _, hrun, ⟨h.ge, by simpa using hlt, fun j hj => ?_, fun j hj => ⟨?_, ?_⟩, by rw [List.length_append]; exact hroom, h.mx⟩, ⟨rfl, rfl, rfl, by simp, fun k _ hk => Below.heap_setCell _ _ _ _ (fun e => hk (by first | rw [← e] | rw [e]))⟩, .inl rfl⟩
    · rcases atN_snoc Q x j hj with ⟨hj, e⟩ | ⟨rfl, e⟩
      · rw [e, World.cell?_setCell_other _ _ _ _ (by intro e; injection e with e1 e2; omega)]
        exact h.c j hj
      · rw [e]; exact World.cell?_setCell_same _ _ _ hu0
    · by_cases hj2 : j = Q.length
      · subst hj2; rw [World.cell?_setCell_same _ _ _ hu0]; rfl
      · rw [World.cell?_setCell_other _ _ _ _ (by intro e; injection e with e1 e2; omega)]; exact (h.t j hj).1
    · rw [World.frozen?_setCell]; exact (h.t j hj).2
  · have hlen : cap = Q.length := by have := h.le; omega
    have holds : (Q.map fun q : Nat => (.int .i64 q : Value)).length = Q.length * i.size := by rw [h3, List.length_map, Nat.mul_one]
    have hold := run_firstCells_some (P := Try.prog) W.drew i.size Q.length ⟨g, off, none⟩ Q.length cap (Q.map fun q : Nat => (.int .i64 q : Value)) holds (fun j u hu => by
      have hj : j < Q.length := by have := (List.getElem?_eq_some_iff.1 hu).1; rwa [List.length_map] at this
      rw [List.getElem?_map, List.getElem?_eq_getElem hj] at hu
      simp at hu; subst hu
      have := h.c j hj
      unfold atN at this
      rw [List.getD_eq_getElem?_getD, List.getElem?_eq_getElem hj, Option.getD_some] at this
      rw [add_off]
      exact this)
    have hrun := run_append_grow_src (P := Try.prog) W 26 26 26 3 i z appI.ht h1 h2 (some ⟨g, off, none⟩) Q.length cap (Q.map fun q : Nat => (.int .i64 q : Value)) hold (.slice (some ⟨p, 0, none⟩) 1 1) 1 [.int .i64 x] hsrc (by omega) (by omega)
      (growslice_fits (by omega) (by have := Nat.mul_le_mul (show Q.length + 1 ≤ 1001 by omega) h6; rw [h4]; omega))
    have hge := grownCap_ge W (Q.length + 1) cap 3
    have hcm := grownCap_le_maxLen W (Q.length + 1) cap 3 (by unfold maxLen; omega)
    generalize grownCap W (Q.length + 1) cap 3 = C at *
    have hcell : ∀ j, (W.drew.alloc (.cells (((Q.map fun q : Nat => (.int .i64 q : Value)) ++ [(.int .i64 x : Value)]).toArray ++ Builtin.zeroCells z.cells (C - (Q.length + 1))) 3)).cell? ⟨W.heap.size, j, none⟩ = (((Q.map fun q : Nat => (.int .i64 q : Value)) ++ [(.int .i64 x : Value)]).toArray ++ Builtin.zeroCells z.cells (C - (Q.length + 1)))[j]? := fun j => World.cell?_alloc_new W.drew _ _ j
    refine ⟨W.heap.size, 0, C, _, hrun, ⟨hb, by simp, fun j hj => ?_, fun j hj => ⟨?_, World.frozen?_alloc_new W.drew _ _ _⟩, by rw [List.length_append]; exact hge, hcm⟩, ⟨rfl, rfl, rfl, by simp, fun k hk _ => Below.heap_alloc W.drew _ k hk⟩, .inr (Nat.le_refl _)⟩
    · rw [Nat.zero_add, hcell]
      have hjl : j < ((Q.map fun q : Nat => (.int .i64 q : Value)) ++ [(.int .i64 x : Value)]).length := by rw [List.length_append, List.length_map]; rw [List.length_append] at hj; exact hj
      rw [Array.getElem?_append_left (by simpa using hjl), List.getElem?_toArray]
      rcases atN_snoc Q x j hj with ⟨hj, e⟩ | ⟨rfl, e⟩
      · rw [e, List.getElem?_append_left (by rw [List.length_map]; exact hj), List.getElem?_map, List.getElem?_eq_getElem hj]
        unfold atN
        rw [List.getD_eq_getElem?_getD, List.getElem?_eq_getElem hj]; rfl
      · rw [e, List.getElem?_append_right (by rw [List.length_map]; exact Nat.le_refl _), List.length_map, Nat.sub_self]; rfl
    · rw [Nat.zero_add, hcell]
      have hsz : (((Q.map fun q : Nat => (.int .i64 q : Value)) ++ [(.int .i64 x : Value)]).toArray ++ Builtin.zeroCells z.cells (C - (Q.length + 1))).size = C := by
        rw [Array.size_append, List.size_toArray, List.length_append, List.length_map, size_zeroCells, h5]
        simp; omega
      rw [Array.getElem?_eq_getElem (by rw [hsz]; exact hj)]; rfl
end Go.Proofs.Ytomgaiokmdcjmaa
namespace Go.Proofs.Ytomgaiokmdcjmaa
open Go.RowKit Go.Deep
set_option linter.unusedVariables false
set_option linter.unusedSimpArgs false
set_option maxHeartbeats 1000000 in
theorem IndexFuncSg (l : List Sg) (A : Option Addr) (cap : Nat) (hl : l.length ≤ 9223372036854775807) (fv : Nat) (caps : Array Value) (p : Sg → Bool) (w : World) (hr : RdL w w.heap.size sgE 5 A l)
    (hcall : ∀ (args : Array Value) (W : World), (callFunc fv args).run Try.prog W = .ok (.enter fv args) W)
    (hf : ∀ x ∈ l, ∀ W, Below w.heap.size w W → Calls Try.prog fv (#[.agg #[.int .i64 x.t, .int .i64 x.a, .int .i64 x.b, .int .i64 x.lo, .int .i64 x.hi]] ++ caps) W fun e W' => e = .returned (.bool (p x)) ∧ Below W.heap.size W W') :
    Calls Try.prog 122 #[.slice A l.length cap, .func (.func fv) #[] caps] w fun e w' => e = .returned (.int .i64 (idxOf p l 0)) ∧ Below w.heap.size w w' := by
  have HF := Lib.hid hf
  have HR := Lib.hid hr
  clear hf hr
  go_enter Try.func122, Try.ntmps122
  go_wp2
  go_loopw [5, 8] (fun u i wr => ∃ k : Nat, k ≤ l.length ∧ i = .int .i64 k ∧ Below w.heap.size w wr ∧ idxOf p l 0 = idxOf p (l.drop k) k) (fun u i _ => l.length - (intOf i).toNat)
  case atStart => exact ⟨0, Nat.zero_le _, rfl, Below.refl _ _, rfl⟩
  case round =>
    obtain ⟨k, hk, rfl, hbw, hx⟩ := hrel
    have HX := Lib.hid hx
    clear hx
    by_cases hlt : k < l.length
    · obtain ⟨b, off, rfl, hb0, hc⟩ := HR.out (by omega)
      have c0 := hc k hlt 0 _ rfl
      have c1 := hc k hlt 1 _ rfl
      have c2 := hc k hlt 2 _ rfl
      have c3 := hc k hlt 3 _ rfl
      have c4 := hc k hlt 4 _ rfl
      clear hc
      rw [← hbw.cell (p := ⟨b, _, none⟩) hb0] at c0 c1 c2 c3 c4
      simp at c0
      have hmem : l[k] ∈ l := List.getElem_mem hlt
      have hcc := Lib.hid (HF.out l[k] hmem wr hbw)
      have hd : l.drop k = l[k] :: l.drop (k + 1) := List.drop_eq_getElem_cons hlt
      have HD := Lib.hid hd
      clear hd
      cases hp : p l[k]
      · go_wp2_with fail
        refine hcc.out.mono ?_
        rintro e w1 ⟨rfl, hb⟩
        rw [hp]
        go_wp2
        go_roundw
        case rel => exact ⟨k + 1, by omega, by go_num, Below.step hbw hb, by rw [HX.out, HD.out, idxOf_false _ _ _ _ hp]⟩
        case measure => simp [intOf]; omega
      · go_wp2_with fail
        refine hcc.out.mono ?_
        rintro e w1 ⟨rfl, hb⟩
        rw [hp]
        go_wp2
        go_ret
        exact ⟨by rw [HX.out, HD.out, idxOf_true _ _ _ _ hp]; rfl, Below.step hbw hb⟩
    · obtain rfl : k = l.length := by omega
      go_wp2
      go_ret
      exact ⟨by rw [HX.out]; simp [idxOf], hbw⟩
theorem ContainsFuncSg (l : List Sg) (A : Option Addr) (cap : Nat) (hl : l.length ≤ 9223372036854775807) (fv : Nat) (caps : Array Value) (p : Sg → Bool) (w : World) (hr : RdL w w.heap.size sgE 5 A l)
    (hcall : ∀ (args : Array Value) (W : World), (callFunc fv args).run Try.prog W = .ok (.enter fv args) W)
    (hf : ∀ x ∈ l, ∀ W, Below w.heap.size w W → Calls Try.prog fv (#[.agg #[.int .i64 x.t, .int .i64 x.a, .int .i64 x.b, .int .i64 x.lo, .int .i64 x.hi]] ++ caps) W fun e W' => e = .returned (.bool (p x)) ∧ Below W.heap.size W W') :
    Calls Try.prog 110 #[.slice A l.length cap, .func (.func fv) #[] caps] w fun e w' => e = .returned (.bool (l.any p)) ∧ Below w.heap.size w w' := by
  have HI := Lib.hid (IndexFuncSg l A cap hl fv caps p w hr hcall hf)
  have HE := Lib.hid (idxOf_any p l 0)
  clear hf hr hcall
  go_enter Try.func110, Try.ntmps110
  go_wp2_with (go_at_call 122; refine HI.out.mono ?_; rintro e w1 ⟨rfl, hb⟩)
  go_ret
  exact ⟨by rw [← HE.out]; rfl, hb⟩



theorem call_wrongS (args : Array Value) (W : World) : (callFunc 109 args).run Try.prog W = .ok (.enter 109 args) W := by kernel_rfl
set_option maxHeartbeats 1000000 in
theorem wrongS_c (n : Int) (hn : 1 ≤ n ∧ n ≤ 8) (s : Sg) (P : Nat) (w : World) (c0 : w.cell? ⟨P, 0, none⟩ = some (.int .i64 n)) : Calls Try.prog 109 #[.agg #[.int .i64 s.t, .int .i64 s.a, .int .i64 s.b, .int .i64 s.lo, .int .i64 s.hi], .pointer (some ⟨P, 0, none⟩)] w fun e w' => e = .returned (.bool (!okS n s)) ∧ Below w.heap.size w w' := by
  have H1 := Lib.hid (fun W => within_c s.a 0 (n - 1) W)
  have H2 := Lib.hid (fun W => within_c s.b 0 (n - 1) W)
  have H3 := Lib.hid (fun W => within_c s.lo (-1000000) 1000000 W)
  have HO : Hid (okS n s = (within s.a 0 (n - 1) && (within s.b 0 (n - 1) && (decide (s.a ≠ s.b) && (decide (s.lo = s.hi) && within s.lo (-1000000) 1000000))))) := Lib.hid rfl
  have y1 : P < w.heap.size := cell?_lt c0
  have s1 : IntKind.i64.wrap (n - 1) = n - 1 := IntWalk.i64_in _ (by omega)
  generalize within s.a 0 (n - 1) = X1 at *
  generalize within s.b 0 (n - 1) = X2 at *
  generalize within s.lo (-1000000) 1000000 = X3 at *
  generalize okS n s = O at *
  cases X1
  case false =>
    have HB := Lib.hid (show O = false by rw [HO.out]; rfl)
    go_enter Try.func109, Try.ntmps109
    go_wp2_with fail
    refine (H1.out _).mono ?_
    rintro e w' ⟨rfl, hw'⟩; replace hw' := hw'.symm; subst hw'
    go_wp2
    go_ret
    exact ⟨by rw [HB.out]; first | rfl | (simp; done), by (repeat (first | (with_reducible exact Below.refl _ _) | (with_reducible assumption) | (with_reducible refine Below.drew ?_) | (with_reducible refine Below.allocS ?_ _) | (with_reducible refine Below.setCell ?_ ?_ _) | (with_reducible refine Below.step ?_ (by assumption)) | (with_reducible refine Below.drewN' ?_ _))); (try any_goals (first | (with_reducible assumption) | (simp; done) | (simp; omega) | omega))⟩
  cases X2
  case false =>
    have HB := Lib.hid (show O = false by rw [HO.out]; rfl)
    go_enter Try.func109, Try.ntmps109
    go_wp2_with fail
    refine (H1.out _).mono ?_
    rintro e w' ⟨rfl, hw'⟩; replace hw' := hw'.symm; subst hw'
    go_wp2_with fail
    refine (H2.out _).mono ?_
    rintro e w' ⟨rfl, hw'⟩; replace hw' := hw'.symm; subst hw'
    go_wp2
    go_ret
    exact ⟨by rw [HB.out]; first | rfl | (simp; done), by (repeat (first | (with_reducible exact Below.refl _ _) | (with_reducible assumption) | (with_reducible refine Below.drew ?_) | (with_reducible refine Below.allocS ?_ _) | (with_reducible refine Below.setCell ?_ ?_ _) | (with_reducible refine Below.step ?_ (by assumption)) | (with_reducible refine Below.drewN' ?_ _))); (try any_goals (first | (with_reducible assumption) | (simp; done) | (simp; omega) | omega))⟩
  by_cases hab : s.a = s.b
  case pos =>
    have d1 : (s.a == s.b) = true := by simp [hab]
    have HB := Lib.hid (show O = false by rw [HO.out, decide_eq_false (fun h => h hab)]; rfl)
    clear hab
    go_enter Try.func109, Try.ntmps109
    go_wp2_with fail
    refine (H1.out _).mono ?_
    rintro e w' ⟨rfl, hw'⟩; replace hw' := hw'.symm; subst hw'
    go_wp2_with fail
    refine (H2.out _).mono ?_
    rintro e w' ⟨rfl, hw'⟩; replace hw' := hw'.symm; subst hw'
    go_wp2
    go_ret
    exact ⟨by rw [HB.out]; first | rfl | (simp; done), by (repeat (first | (with_reducible exact Below.refl _ _) | (with_reducible assumption) | (with_reducible refine Below.drew ?_) | (with_reducible refine Below.allocS ?_ _) | (with_reducible refine Below.setCell ?_ ?_ _) | (with_reducible refine Below.step ?_ (by assumption)) | (with_reducible refine Below.drewN' ?_ _))); (try any_goals (first | (with_reducible assumption) | (simp; done) | (simp; omega) | omega))⟩
  have d1 : (s.a == s.b) = false := by simp [hab]
  by_cases hlh : s.lo = s.hi
  case neg =>
    have d2 : (s.lo != s.hi) = true := by simp [hlh]
    have HB := Lib.hid (show O = false by rw [HO.out, decide_eq_false hlh]; simp)
    clear hab hlh
    go_enter Try.func109, Try.ntmps109
    go_wp2_with fail
    refine (H1.out _).mono ?_
    rintro e w' ⟨rfl, hw'⟩; replace hw' := hw'.symm; subst hw'
    go_wp2_with fail
    refine (H2.out _).mono ?_
    rintro e w' ⟨rfl, hw'⟩; replace hw' := hw'.symm; subst hw'
    go_wp2
    go_ret
    exact ⟨by rw [HB.out]; first | rfl | (simp; done), by (repeat (first | (with_reducible exact Below.refl _ _) | (with_reducible assumption) | (with_reducible refine Below.drew ?_) | (with_reducible refine Below.allocS ?_ _) | (with_reducible refine Below.setCell ?_ ?_ _) | (with_reducible refine Below.step ?_ (by assumption)) | (with_reducible refine Below.drewN' ?_ _))); (try any_goals (first | (with_reducible assumption) | (simp; done) | (simp; omega) | omega))⟩
  have d2 : (s.lo != s.hi) = false := by simp [hlh]
  have HB := Lib.hid (show O = X3 by rw [HO.out, decide_eq_true hab, decide_eq_true hlh]; rfl)
  clear hab hlh
  go_enter Try.func109, Try.ntmps109
  go_wp2_with fail
  refine (H1.out _).mono ?_
  rintro e w' ⟨rfl, hw'⟩; replace hw' := hw'.symm; subst hw'
  go_wp2_with fail
  refine (H2.out _).mono ?_
  rintro e w' ⟨rfl, hw'⟩; replace hw' := hw'.symm; subst hw'
  go_wp2_with fail
  refine (H3.out _).mono ?_
  rintro e w' ⟨rfl, hw'⟩; replace hw' := hw'.symm; subst hw'
  go_wp2
  go_ret
  exact ⟨by rw [HB.out]; first | rfl | (simp; done), by (repeat (first | (with_reducible exact Below.refl _ _) | (with_reducible assumption) | (with_reducible refine Below.drew ?_) | (with_reducible refine Below.allocS ?_ _) | (with_reducible refine Below.setCell ?_ ?_ _) | (with_reducible refine Below.step ?_ (by assumption)) | (with_reducible refine Below.drewN' ?_ _))); (try any_goals (first | (with_reducible assumption) | (simp; done) | (simp; omega) | omega))⟩
theorem any_not {α : Type} (l : List α) (p : α → Bool) : l.any (fun s => !p s) = !l.all p := by
  induction l with
  | nil => rfl
  | cons x t ih => rw [List.any_cons, List.all_cons, ih]; cases p x <;> simp
set_option maxHeartbeats 1000000 in
theorem validDifferences_c (n : Int) (l : List Sg) (A : Option Addr) (cap : Nat) (hl : l.length ≤ 9223372036854775807) (w : World) (hr : RdL w w.heap.size sgE 5 A l) :
    Calls Try.prog 78 #[.int .i64 n, .slice A l.length cap] w fun e w' => e = .returned (.bool (vdB n l)) ∧ Below w.heap.size w w' := by
  have H1 := Lib.hid (fun W => within_c n 1 8 W)
  have H2 : Hid (1 ≤ n ∧ n ≤ 8 → ∀ W, Below w.heap.size w W → W.cell? ⟨w.heap.size, 0, none⟩ = some (.int .i64 n) → Calls Try.prog 110 #[.slice A l.length cap, .func (.func 109) #[] #[.pointer (some ⟨w.heap.size, 0, none⟩)]] W fun e w' => e = .returned (.bool (l.any (fun s => !okS n s))) ∧ Below W.heap.size W w') :=
    Lib.hid (fun h1 W hb hc => ContainsFuncSg l A cap hl 109 _ (fun s => !okS n s) W (hr.step hb) call_wrongS (fun x _ V hv => wrongS_c n h1 x w.heap.size V (keep_cell hv hc)))
  have HA : Hid (l.any (fun s => !okS n s) = !l.all (okS n)) := Lib.hid (any_not l (okS n))
  have HV : Hid (vdB n l = (within n 1 8 && (decide (l.length ≤ 30) && l.all (okS n)))) := Lib.hid rfl
  have HW := Lib.hid (@within_true n 1 8)
  clear hr
  generalize l.any (fun s => !okS n s) = N at *
  generalize l.all (okS n) = Al at *
  generalize vdB n l = V at *
  generalize within n 1 8 = X at *
  generalize l.length = m at *
  cases X
  case false =>
    have HB := Lib.hid (show V = false by rw [HV.out]; rfl)
    go_enter Try.func78, Try.ntmps78
    go_wp2_with fail
    refine (H1.out _).mono ?_
    rintro e w' ⟨rfl, hw'⟩; replace hw' := hw'.symm; subst hw'
    go_wp2
    go_ret
    exact ⟨by rw [HB.out]; rfl, by (repeat (first | (with_reducible exact Below.refl _ _) | (with_reducible assumption) | (with_reducible refine Below.drew ?_) | (with_reducible refine Below.allocS ?_ _) | (with_reducible refine Below.setCell ?_ ?_ _) | (with_reducible refine Below.step ?_ (by assumption)) | (with_reducible refine Below.drewN' ?_ _))); (try any_goals (first | (with_reducible assumption) | (simp; done) | (simp; omega) | omega))⟩
  by_cases hm : m ≤ 30
  case neg =>
    have d1 : decide ((m : Int) ≤ 30) = false := decide_eq_false (by omega)
    have d2 : decide (m ≤ 30) = false := decide_eq_false hm
    have HB := Lib.hid (show V = false by rw [HV.out, d2]; rfl)
    clear hm
    go_enter Try.func78, Try.ntmps78
    go_wp2_with fail
    refine (H1.out _).mono ?_
    rintro e w' ⟨rfl, hw'⟩; replace hw' := hw'.symm; subst hw'
    go_wp2
    go_ret
    exact ⟨by rw [HB.out]; rfl, by (repeat (first | (with_reducible exact Below.refl _ _) | (with_reducible assumption) | (with_reducible refine Below.drew ?_) | (with_reducible refine Below.allocS ?_ _) | (with_reducible refine Below.setCell ?_ ?_ _) | (with_reducible refine Below.step ?_ (by assumption)) | (with_reducible refine Below.drewN' ?_ _))); (try any_goals (first | (with_reducible assumption) | (simp; done) | (simp; omega) | omega))⟩
  have d1 : decide ((m : Int) ≤ 30) = true := decide_eq_true (by omega)
  have d2 : decide (m ≤ 30) = true := decide_eq_true hm
  have HB := Lib.hid (show V = Al by rw [HV.out, d2]; rfl)
  have H21 := Lib.hid (H2.out (HW.out rfl))
  have HNA := Lib.hid (show (!N) = Al by rw [HA.out]; simp)
  clear hm H2
  go_enter Try.func78, Try.ntmps78
  go_wp2_with fail
  refine (H1.out _).mono ?_
  rintro e w' ⟨rfl, hw'⟩; replace hw' := hw'.symm; subst hw'
  go_wp2_with fail
  refine (H21.out _ (by (repeat (first | (with_reducible exact Below.refl _ _) | (with_reducible assumption) | (with_reducible refine Below.drew ?_) | (with_reducible refine Below.allocS ?_ _) | (with_reducible refine Below.setCell ?_ ?_ _) | (with_reducible refine Below.step ?_ (by assumption)) | (with_reducible refine Below.drewN' ?_ _))); (try any_goals (first | (with_reducible assumption) | (simp; done) | (simp; omega) | omega))) (by simp [go_sem])).mono ?_
  rintro e w2 ⟨rfl, hb2⟩
  go_wp2
  go_ret
  exact ⟨by rw [HB.out, ← HNA.out]; first | rfl | (simp; done), Below.low (by (repeat (first | (with_reducible exact Below.refl _ _) | (with_reducible assumption) | (with_reducible refine Below.drew ?_) | (with_reducible refine Below.allocS ?_ _) | (with_reducible refine Below.setCell ?_ ?_ _) | (with_reducible refine Below.step ?_ (by assumption)) | (with_reducible refine Below.drewN' ?_ _))); (try any_goals (first | (with_reducible assumption) | (simp; done) | (simp; omega) | omega))) hb2 (by simp)⟩
/-- The cells of a sight. -/
structure SgC (W : World) (b o : Nat) (s : Sg) : Prop where
  c0 : W.cell? ⟨b, o, none⟩ = some (.int .i64 s.t)
  c1 : W.cell? ⟨b, o + 1, none⟩ = some (.int .i64 s.a)
  c2 : W.cell? ⟨b, o + 2, none⟩ = some (.int .i64 s.b)
  c3 : W.cell? ⟨b, o + 3, none⟩ = some (.int .i64 s.lo)
  c4 : W.cell? ⟨b, o + 4, none⟩ = some (.int .i64 s.hi)
theorem sg_cells {w : World} {A : Option Addr} {l : List Sg} (hr : RdL w w.heap.size sgE 5 A l) (h : 0 < l.length) :
    ∃ b off, A = some ⟨b, off, none⟩ ∧ b < w.heap.size ∧ ∀ W, Below w.heap.size w W → ∀ k, k < l.length → SgC W b (off + k * 5) (l.getD k sg0) := by
  obtain ⟨b, off, e, hb0, hc⟩ := hr h
  refine ⟨b, off, e, hb0, fun W hb k hk => ?_⟩
  have hcell : ∀ jj v, (sgE (l.getD k sg0))[jj]? = some v → W.cell? ⟨b, off + k * 5 + jj, none⟩ = some v := fun jj v hv => (hb.cell (p := ⟨b, _, none⟩) hb0).trans (hc k hk jj v (by
    rw [List.getD_eq_getElem?_getD, List.getElem?_eq_getElem hk] at hv; exact hv))
  exact ⟨by simpa using hcell 0 _ rfl, hcell 1 _ rfl, hcell 2 _ rfl, hcell 3 _ rfl, hcell 4 _ rfl⟩
set_option maxHeartbeats 1000000 in
theorem taken_c (l : List Sg) (A : Option Addr) (cap : Nat) (n k : Nat) (hd : VdP n l) (hk : k < 2 * l.length) (w : World) (hr : RdL w w.heap.size sgE 5 A l) :
    Calls Try.prog 94 #[.slice A l.length cap, .int .i64 k] w fun e w' => e = .returned (.tuple #[.int .i64 (frN l k), .int .i64 (toN l k), .int .i64 (tkV l k)]) ∧ Below w.heap.size w w' := by
  have hb := tk_bd hd hk
  have HB := Lib.hid hb
  have h30 := hd.len
  have hj : k / 2 < l.length := by omega
  obtain ⟨b, off, rfl, hb0, hch⟩ := sg_cells hr (by omega)
  obtain ⟨q0, q1, q2, q3, q4⟩ := hch w (Below.refl _ _) _ hj
  have HF : Hid ((if k % 2 = 0 then (l.getD (k / 2) sg0).b else (l.getD (k / 2) sg0).a) = (frN l k : Int)) := Lib.hid hb.1
  have HT : Hid ((if k % 2 = 0 then (l.getD (k / 2) sg0).a else (l.getD (k / 2) sg0).b) = (toN l k : Int)) := Lib.hid hb.2.1
  have HV : Hid ((if k % 2 = 0 then (l.getD (k / 2) sg0).lo else -(l.getD (k / 2) sg0).lo) = tkV l k) := Lib.hid rfl
  have hlo := hd.lo _ hj
  clear hch hb hr hd
  have e1 : Int.tdiv (k : Int) 2 = ((k / 2 : Nat) : Int) := by rw [Int.tdiv_eq_ediv_of_nonneg (by omega)]; omega
  have e2 : Int.tmod (k : Int) 2 = ((k % 2 : Nat) : Int) := by rw [Int.tmod_eq_emod_of_nonneg (by omega)]; omega
  have e3 : IntKind.i64.wrap ((k / 2 : Nat) : Int) = ((k / 2 : Nat) : Int) := IntWalk.i64_in _ (by omega)
  have z1 : (0 : Int) ≤ ((k / 2 : Nat) : Int) := by omega
  have z2 : ((k / 2 : Nat) : Int) < (l.length : Int) := by omega
  have yb : b < w.heap.size := hb0
  generalize l.getD (k / 2) sg0 = s at *
  generalize frN l k = F at *
  generalize toN l k = T at *
  generalize tkV l k = V at *
  obtain ⟨r, hr⟩ : ∃ r, r = k % 2 := ⟨_, rfl⟩
  rw [← hr] at HF HT HV e2
  have hr2 : r < 2 := by omega
  generalize k / 2 = j at *
  generalize l.length = m at *
  clear hk h30 hj hr
  by_cases h0 : r = 0
  · have d1 : ((r : Int) == 0) = true := by simp; omega
    have d2 : (r == 0) = true := by simp [h0]
    rw [if_pos h0] at HF HT HV
    clear h0 hr2
    rw [← HF.out, ← HT.out, ← HV.out]
    go_enter Try.func94, Try.ntmps94
    go_wp2_with fail
    go_quiet (fail)
    go_wp2
    refine bodyPost_ret (v := .tuple #[.int .i64 s.b, .int .i64 s.a, .int .i64 s.lo]) (by simp [results, Try.results94, go_sem, *] <;> (repeat' apply And.intro) <;> rfl) rfl ⟨rfl, ?_⟩
    (repeat (first | (with_reducible exact Below.refl _ _) | (with_reducible assumption) | (with_reducible refine Below.drew ?_) | (with_reducible refine Below.allocS ?_ _) | (with_reducible refine Below.setCell ?_ ?_ _) | (with_reducible refine Below.step ?_ (by assumption)) | (with_reducible refine Below.drewN' ?_ _))); (try any_goals (first | (with_reducible assumption) | (simp; done) | (simp; omega) | omega))
  · have d1 : ((r : Int) == 0) = false := by simp; omega
    have d2 : (r == 0) = false := by simp [h0]
    rw [if_neg h0] at HF HT HV
    have s1 : IntKind.i64.wrap (-s.lo) = -s.lo := IntWalk.i64_in _ (by omega)
    clear h0 hr2
    rw [← HF.out, ← HT.out, ← HV.out]
    go_enter Try.func94, Try.ntmps94
    go_wp2_with fail
    go_quiet (fail)
    go_wp2
    refine bodyPost_ret (v := .tuple #[.int .i64 s.a, .int .i64 s.b, .int .i64 (-s.lo)]) (by simp [results, Try.results94, go_sem, *] <;> (repeat' apply And.intro) <;> rfl) rfl ⟨rfl, ?_⟩
    (repeat (first | (with_reducible exact Below.refl _ _) | (with_reducible assumption) | (with_reducible refine Below.drew ?_) | (with_reducible refine Below.allocS ?_ _) | (with_reducible refine Below.setCell ?_ ?_ _) | (with_reducible refine Below.step ?_ (by assumption)) | (with_reducible refine Below.drewN' ?_ _))); (try any_goals (first | (with_reducible assumption) | (simp; done) | (simp; omega) | omega))
end Go.Proofs.Ytomgaiokmdcjmaa
namespace Go.Proofs.Ytomgaiokmdcjmaa
open Go.RowKit Go.Deep
set_option linter.unusedVariables false
set_option linter.unusedSimpArgs false
/-- A habit. -/
structure Hb where
  v : Int
  f : Nat
  s : SlL
def hbV (h : Hb) : Value := .agg #[.int .i64 h.v, .int .i64 h.f, .slice h.s.A h.s.xs.length h.s.c]
noncomputable def hF (K : Nat → Option Hb) : Lit → Option Value
  | .int .i64 a => if 0 ≤ a then (K a.toNat).map hbV else none
  | _ => none
theorem hF_get (K : Nat → Option Hb) (j : Nat) : hF K (.int .i64 (j : Int)) = (K j).map hbV := by
  show (if (0 : Int) ≤ (j : Int) then (K (j : Int).toNat).map hbV else none) = _
  rw [if_pos (by omega), Int.toNat_natCast]
noncomputable def upd (K : Nat → Option Hb) (j : Nat) (h : Hb) : Nat → Option Hb := fun o => if o = j then some h else K o
theorem upd_same (K : Nat → Option Hb) (j : Nat) (h : Hb) : upd K j h j = some h := if_pos rfl
theorem upd_other {K : Nat → Option Hb} {j o : Nat} (h : Hb) (hne : o ≠ j) : upd K j h o = K o := if_neg hne
theorem hF_put (K : Nat → Option Hb) (j : Nat) (h : Hb) : hF (upd K j h) = putF (hF K) (.int .i64 (j : Int)) (hbV h) := by
  funext kl
  unfold putF
  by_cases he : kl = .int .i64 (j : Int)
  · subst he; rw [if_pos rfl, hF_get, upd_same]; rfl
  · rw [if_neg he]
    unfold hF
    split
    · rename_i a
      by_cases ha : 0 ≤ a
      · rw [if_pos ha, if_pos ha, upd_other h (fun e => he (by rw [show a = (j : Int) by omega]))]
      · rw [if_neg ha, if_neg ha]
    · rfl
def cntK (K : Nat → Option Hb) : Nat → Nat
  | 0 => 0
  | n + 1 => cntK K n + (if (K n).isSome = true then 1 else 0)
theorem cntK_le (K : Nat → Option Hb) : ∀ n, cntK K n ≤ n
  | 0 => Nat.le_refl _
  | n + 1 => by unfold cntK; have := cntK_le K n; split <;> omega
theorem cntK_out {K : Nat → Option Hb} {j : Nat} (h : Hb) : ∀ n, n ≤ j → cntK (upd K j h) n = cntK K n
  | 0, _ => rfl
  | n + 1, hn => by unfold cntK; rw [cntK_out h n (by omega), upd_other h (by omega)]
theorem cntK_put {K : Nat → Option Hb} {j : Nat} (h : Hb) (hk : K j = none) : ∀ n, j < n → cntK (upd K j h) n = cntK K n + 1
  | 0, hn => absurd hn (Nat.not_lt_zero _)
  | n + 1, hn => by
    unfold cntK
    rcases Nat.lt_succ_iff_lt_or_eq.1 hn with h1 | rfl
    · rw [cntK_put h hk n h1, upd_other h (by omega)]; omega
    · rw [cntK_out h j (Nat.le_refl _), upd_same, hk]; simp
theorem cntK_ge {K : Nat → Option Hb} {j : Nat} (hk : (K j).isSome = true) : ∀ n, j < n → 1 ≤ cntK K n
  | 0, hn => absurd hn (Nat.not_lt_zero _)
  | n + 1, hn => by
    unfold cntK
    rcases Nat.lt_succ_iff_lt_or_eq.1 hn with h1 | rfl
    · have := cntK_ge hk n h1; omega
    · rw [if_pos hk]; omega
theorem grown_below {a b c : World} {row : Option Nat} (h : a.grownBy b row) (k : Below b.heap.size b c) : a.grownBy c row :=
  ⟨k.os.trans h.os, k.tape.trans h.tape, k.output.trans h.output, Nat.le_trans h.size k.size, fun i hi hne => (k.block i (by have := h.size; omega)).trans (h.block i hi hne)⟩
/-- What spread has in memory. -/
structure SpSt (w W : World) (A : Option Addr) (m cap Bm first n : Nat) (K : Nat → Option Hb) (g off cq : Nat) (Q : List Nat) (qb : Nat) : Prop where
  fr : w.grownBy W (some Bm)
  mp : MapF Try.prog 3 W Bm (cntK K n) (hF K)
  bm : Bm < w.heap.size
  b3 : W.cell? ⟨w.heap.size, 0, none⟩ = some (.slice A m cap)
  b4 : W.cell? ⟨w.heap.size + 1, 0, none⟩ = some (.map (some Bm))
  b5 : W.cell? ⟨w.heap.size + 2, 0, none⟩ = some (.int .i64 first)
  b6 : W.cell? ⟨qb, 0, none⟩ = some (.slice (some ⟨g, off, none⟩) Q.length cq)
  f6 : W.frozen? ⟨qb, 0, none⟩ = false
  q : QAt W (w.heap.size + 3) g off Q cq
  gq : g ≠ qb
  qge : w.heap.size + 3 ≤ qb
  ws : ∀ o h, K o = some h → SlAt W 60 h.s ∧ (h.s.A = none → h.s.c = 0) ∧ ∀ b off', h.s.A = some ⟨b, off', none⟩ → b < W.heap.size ∧ b ≠ g ∧ b ≠ qb
theorem SpSt.step {w W W' : World} {A : Option Addr} {m cap Bm first n : Nat} {K : Nat → Option Hb} {g off cq : Nat} {Q : List Nat} {qb : Nat} (h : SpSt w W A m cap Bm first n K g off cq Q qb) (hb : Below W.heap.size W W') : SpSt w W' A m cap Bm first n K g off cq Q qb :=
  ⟨grown_below h.fr hb, h.mp.step hb, h.bm, keep_cell hb h.b3, keep_cell hb h.b4, keep_cell hb h.b5, keep_cell hb h.b6, keep_frozen hb (cell?_lt h.b6) h.f6, h.q.step hb, h.gq, h.qge, fun o x hx => by
    obtain ⟨h1, h2, h3⟩ := h.ws o x hx
    exact ⟨h1.step hb, h2, fun b off' e => by have := h3 b off' e; have := hb.size; omega⟩⟩
theorem slat_map {P : Program} {k : TypeId} {W W' : World} {B c n : Nat} {f : Lit → Option Value} {y : SlL} (hy : SlAt W n y) (hm : MapF P k W B c f) (hg : W.grownBy W' (some B)) : SlAt W' n y := by
  by_cases he : y.xs = []
  · exact ⟨by rw [he]; exact RdL.nil, hy.i, hy.l, hy.c⟩
  · exact hy.store hm he hg
/-- Behind a write of the map. -/
theorem SpSt.put {w W W' : World} {A : Option Addr} {m cap Bm first n : Nat} {K : Nat → Option Hb} {g off cq : Nat} {Q : List Nat} {qb : Nat} (h : SpSt w W A m cap Bm first n K g off cq Q qb) {j : Nat} (hj : j < n) (hk : K j = none) {x : Hb} (hx : SlAt W 60 x.s) (hz : x.s.A = none → x.s.c = 0)
    (hd : ∀ b off', x.s.A = some ⟨b, off', none⟩ → b < W.heap.size ∧ b ≠ g ∧ b ≠ qb) (hsz : qb < W.heap.size) (hm : MapF Try.prog 3 W' Bm (cntK K n + 1) (putF (hF K) (.int .i64 (j : Int)) (hbV x))) (hg : W.grownBy W' (some Bm)) :
    SpSt w W' A m cap Bm first n (upd K j x) g off cq Q qb := by
  have hbm := h.bm
  have hqge := h.qge
  have hs := hg.size
  have hfs := h.fr.size
  have hcell : ∀ b o v, W.cell? ⟨b, o, none⟩ = some v → b ≠ Bm → W'.cell? ⟨b, o, none⟩ = some v := fun b o v hv hb => grown_cell hg hv (by simp [hb])
  have hslat : ∀ y : SlL, SlAt W 60 y → SlAt W' 60 y := fun y hy => slat_map hy h.mp hg
  refine ⟨⟨hg.os.trans h.fr.os, hg.tape.trans h.fr.tape, hg.output.trans h.fr.output, Nat.le_trans h.fr.size hs, fun i hi hb => (hg.block i (by omega) hb).trans (h.fr.block i hi hb)⟩, by rw [cntK_put x hk n hj, hF_put]; exact hm, hbm, hcell _ _ _ h.b3 (by omega), hcell _ _ _ h.b4 (by omega), hcell _ _ _ h.b5 (by omega), hcell _ _ _ h.b6 (by omega), ?_, ?_, h.gq, h.qge, fun o y hy => ?_⟩
  · rw [World.frozen?_of_block (a := ⟨qb, 0, none⟩) (hg.block _ hsz (by simp; omega))]; exact h.f6
  · exact h.q.kept (hg.block _ h.q.lt (by have := h.q.ge; simp; omega)) hs
  · by_cases ho : o = j
    · subst ho
      rw [upd_same] at hy
      cases hy
      exact ⟨hslat _ hx, hz, fun b off' e => by have := hd b off' e; omega⟩
    · rw [upd_other x ho] at hy
      obtain ⟨h1, h2, h3⟩ := h.ws o y hy
      exact ⟨hslat _ h1, h2, fun b off' e => by have := h3 b off' e; omega⟩
theorem slat_kept {W W' : World} {row : Option Nat} {n : Nat} {y : SlL} (hy : SlAt W n y) (hg : W.grownBy W' row) (hd : ∀ b off', y.A = some ⟨b, off', none⟩ → b < W.heap.size ∧ some b ≠ row) : SlAt W' n y := by
  refine ⟨fun hl => ?_, hy.i, hy.l, hy.c⟩
  obtain ⟨b, off, e, hb, hc⟩ := hy.r hl
  have hne := (hd b off e).2
  have hs := hg.size
  exact ⟨b, off, e, by omega, fun i hi j v hv => (World.cell?_of_block (a := ⟨b, _, none⟩) (hg.block b hb hne)).trans (hc i hi j v hv)⟩
/-- Behind a push: the queue's box is written, too. -/
theorem SpSt.push {w W W1 : World} {A : Option Addr} {m cap Bm first n : Nat} {K : Nat → Option Hb} {g off cq : Nat} {Q : List Nat} {qb : Nat} (h : SpSt w W A m cap Bm first n K g off cq Q qb) {g' off' cq' x : Nat} (hq : QAt W1 (w.heap.size + 3) g' off' (Q ++ [x]) cq') (hg : W.grownBy W1 (some g)) (hgg : g' = g ∨ W.heap.size ≤ g') (hsz : qb < W.heap.size) :
    SpSt w (W1.setCell ⟨qb, 0, none⟩ (.slice (some ⟨g', off', none⟩) (Q.length + 1) cq')) A m cap Bm first n K g' off' cq' (Q ++ [x]) qb := by
  have hbm := h.bm
  have hqge := h.qge
  have hs := hg.size
  have hge := h.q.ge
  have hgq := h.gq
  have hfs := h.fr.size
  have hcell : ∀ b o v, W.cell? ⟨b, o, none⟩ = some v → b ≠ g → b ≠ qb → (W1.setCell ⟨qb, 0, none⟩ (.slice (some ⟨g', off', none⟩) (Q.length + 1) cq')).cell? ⟨b, o, none⟩ = some v := fun b o v hv hb hb2 => by
    rw [World.cell?_setCell_other _ _ _ _ (by intro e; injection e with e1 e2; exact hb2 e1.symm)]
    exact grown_cell hg hv (by simp [hb])
  have hblk : ∀ b, b < W.heap.size → b ≠ g → b ≠ qb → (W1.setCell ⟨qb, 0, none⟩ (.slice (some ⟨g', off', none⟩) (Q.length + 1) cq')).heap[b]? = W.heap[b]? := fun b hb h1 h2 => (Below.heap_setCell _ _ _ _ (by first | exact h2 | exact fun e => h2 e.symm)).trans (hg.block b hb (by simp [h1]))
  have hset : W1.grownBy (W1.setCell ⟨qb, 0, none⟩ (.slice (some ⟨g', off', none⟩) (Q.length + 1) cq')) (some (qb)) := ⟨rfl, rfl, rfl, by simp, fun k _ hk => Below.heap_setCell _ _ _ _ (by first | exact fun e => hk (by rw [e]) | exact fun e => hk (by rw [← e]))⟩
  have hgq' : g' ≠ qb := by omega
  refine ⟨⟨hg.os.trans h.fr.os, hg.tape.trans h.fr.tape, hg.output.trans h.fr.output, by simp; omega, fun i hi hb => (hblk i (by omega) (by omega) (by omega)).trans (h.fr.block i hi hb)⟩, ?_, hbm, hcell _ _ _ h.b3 (by omega) (by omega), hcell _ _ _ h.b4 (by omega) (by omega), hcell _ _ _ h.b5 (by omega) (by omega), ?_, ?_, ?_, hgq', h.qge, fun o y hy => ?_⟩
  · exact (h.mp.kept hg (by simp; omega)).kept hset (by simp; omega)
  · rw [List.length_append]
    exact World.cell?_setCell_same _ _ _ (grown_cell hg h.b6 (by simp; omega))
  · rw [World.frozen?_setCell, World.frozen?_of_block (a := ⟨qb, 0, none⟩) (hg.block _ hsz (by simp; omega))]; exact h.f6
  · exact hq.kept (hset.block _ hq.lt (by simp; exact hgq')) hset.size
  · obtain ⟨h1, h2, h3⟩ := h.ws o y hy
    refine ⟨slat_kept (slat_kept h1 hg (fun b o' e => ⟨(h3 b o' e).1, by have := h3 b o' e; simp; omega⟩)) hset (fun b o' e => ⟨by have := h3 b o' e; omega, by have := h3 b o' e; simp; omega⟩), h2, fun b o' e => ?_⟩
    have := h3 b o' e
    simp
    omega
theorem step_storeF {P : Program} {ops : Array Oper} {o : Oper} {a : Act} {K : Act → World → Prop} {Q : Exit → Act → World → Prop} {E : Prop} (hg : o.guard = none) (m x v : Operand) (t : TypeId) (hop : o.op = Op.mapUpdate t m x v) (W : World) (k e : TypeId) (Kd : Maps.Keyed P k) (ht : P.underlying t = some (.map k e))
    (B n : Nat) (f : Lit → Option Value) (hm : a.eval m = .map (some B)) (h : MapF P k W B n f) (hn : n < maxLen) (key val : Value) (kl : Lit) (hx : a.eval x = key) (hv : a.eval v = val) (hkey : keyOf P k key = some kl)
    (hK : ∀ W', MapF P k W' B (n + 1) (putF f kl val) → W.grownBy W' (some B) → K (a.put o.dst undef) W') : if Region.wanted o (yielded ops a.tmps) = true then Oper.wp P o a W K Q else E := by
  have hw : Region.wanted o (yielded ops a.tmps) = true := by simp [Region.wanted, hg]
  rw [if_pos hw]
  obtain ⟨W', hrun, r1, r2⟩ := h.store Kd ht hn (val := val) hkey
  unfold Oper.wp
  simp [execOp, hop, hm, hx, hv, hrun, Result.andThen]
  exact hK W' r1 r2
end Go.Proofs.Ytomgaiokmdcjmaa
namespace Go.Proofs.Ytomgaiokmdcjmaa
open Go.RowKit Go.Deep
set_option linter.unusedVariables false
set_option linter.unusedSimpArgs false
theorem zero_hab (W : World) : (zeroValue 91).run Try.prog W = .ok (.agg #[.int .i64 0, .int .i64 0, .slice none 0 0]) W := by kernel_rfl
theorem grown_trans {a b c : World} {row : Option Nat} (h : a.grownBy b row) (k : b.grownBy c row) : a.grownBy c row :=
  ⟨k.os.trans h.os, k.tape.trans h.tape, k.output.trans h.output, Nat.le_trans h.size k.size, fun i hi hne => (k.block i (by have := h.size; omega) hne).trans (h.block i hi hne)⟩
/-- What one try does. -/
def Tried (l : List Sg) (first k q0 : Nat) (K K' : Nat → Option Hb) (Q Q' : List Nat) : Prop :=
  (K' = K ∧ Q' = Q ∧ (frN l k = q0 → K (toN l k) ≠ none)) ∨ (frN l k = q0 ∧ K (toN l k) = none ∧ ∃ h s', K q0 = some h ∧ s'.xs = h.s.xs ++ [k] ∧ K' = upd K (toN l k) ⟨h.v + tkV l k, first, s'⟩ ∧ Q' = Q ++ [toN l k])
set_option maxHeartbeats 4000000 in
set_option maxRecDepth 100000 in
theorem reach_c (l : List Sg) (A : Option Addr) (cap Bm first n : Nat) (hd : VdP n l) (w : World) (hA : RdL w w.heap.size sgE 5 A l) (hl : l.length = 0 ∨ ∃ b off, A = some ⟨b, off, none⟩ ∧ b ≠ Bm) (K : Nat → Option Hb) (g off cq q0 : Nat) (Qr : List Nat) (qb : Nat) (hQ : (q0 :: Qr).length ≤ 100)
    (hv : ∀ o h, K o = some h → (-100000000 ≤ h.v ∧ h.v ≤ 100000000) ∧ h.s.xs.length ≤ 50) (hq0 : K q0 ≠ none) (k : Nat) (hk : k < 2 * l.length) (W : World) (h : SpSt w W A l.length cap Bm first n K g off cq (q0 :: Qr) qb) :
    Calls Try.prog 123 #[.int .i64 k, .pointer (some ⟨w.heap.size, 0, none⟩), .pointer (some ⟨w.heap.size + 1, 0, none⟩), .pointer (some ⟨qb, 0, none⟩), .pointer (some ⟨w.heap.size + 2, 0, none⟩)] W fun e W' => (∃ u, e = .returned u) ∧ ∃ K' g' off' cq' Q', SpSt w W' A l.length cap Bm first n K' g' off' cq' Q' qb ∧ Tried l first k q0 K K' (q0 :: Qr) Q' := by
  have hb := tk_bd hd hk
  have hn8 := hd.n8
  have h30 := hd.len
  have hR : RdL W W.heap.size sgE 5 A l := by
    intro h0
    obtain ⟨b, o, e, hlt, hc⟩ := hA h0
    have hs := h.fr.size
    have hne : some b ≠ some Bm := by
      rcases hl with hl | ⟨b', o', e', hne⟩
      · omega
      · rw [e'] at e; cases e; simp [hne]
    exact ⟨b, o, e, by omega, fun i hi j v hv => (World.cell?_of_block (a := ⟨b, _, none⟩) (h.fr.block b hlt hne)).trans (hc i hi j v hv)⟩
  have HT := Lib.hid (fun W' (hb : Below W.heap.size W W') => taken_c l A cap n k hd hk W' (hR.step hb))
  have HS := Lib.hid h
  have HK := Lib.hid hq0
  have HV := Lib.hid hv
  have hfr : frN l k < n ∧ toN l k < n ∧ -1000000 ≤ tkV l k ∧ tkV l k ≤ 1000000 := ⟨hb.2.2.1, hb.2.2.2.1, hb.2.2.2.2⟩
  have b3 := h.b3
  have b4 := h.b4
  have b5 := h.b5
  have b6 := h.b6
  have f6 := h.f6
  have y4 : qb < W.heap.size := cell?_lt b6
  have hqge := h.qge
  have hq := h.q.c 0 (by simp)
  have hq2 : W.cell? ⟨g, off, none⟩ = some (.int .i64 q0) := hq
  have yg : g < W.heap.size := h.q.lt
  have hql : (q0 :: Qr).length = Qr.length + 1 := rfl
  rw [hql] at b6 hQ
  have HTR : Hid (∀ K' Q', Tried l first k q0 K K' (q0 :: Qr) Q' ↔ (K' = K ∧ Q' = q0 :: Qr ∧ (frN l k = q0 → K (toN l k) ≠ none)) ∨ (frN l k = q0 ∧ K (toN l k) = none ∧ ∃ h s', K q0 = some h ∧ s'.xs = h.s.xs ++ [k] ∧ K' = upd K (toN l k) ⟨h.v + tkV l k, first, s'⟩ ∧ Q' = q0 :: Qr ++ [toN l k])) := Lib.hid (fun K' Q' => Iff.rfl)
  have HKF := Lib.hid (Maps.keyOf_int_mk (P := Try.prog) Try.underlying3 (wf_small (k := frN l k) (by omega)))
  have HKT := Lib.hid (Maps.keyOf_int_mk (P := Try.prog) Try.underlying3 (wf_small (k := toN l k) (by omega)))
  have hlt := h.mp.look_ok (Maps.int_keyed Try.underlying3) Try.underlying87 (zero_hab W) HKT.out
  rw [hF_get] at hlt
  have HML := Lib.hid (fun (W' : World) (hb : Below W.heap.size W W') => (h.mp.step hb).look_ok (Maps.int_keyed Try.underlying3) Try.underlying87 (zero_hab W') HKT.out)
  have HMF := Lib.hid (fun (W' : World) (hb : Below W.heap.size W W') => (h.mp.step hb).look (Maps.int_keyed Try.underlying3) Try.underlying87 (zero_hab W') HKF.out)
  rw [hF_get] at HML HMF
  clear hlt hb hd hA hl hv hq0 h hq hR
  generalize hF1 : frN l k = F at *
  generalize hT1 : toN l k = T at *
  generalize tkV l k = V at *
  clear hF1 hT1
  generalize l.length = m at *
  generalize hcp : cap = cp at *
  clear hcp
  cases hKT : K T with
  | some ht =>
    have HKT2 := Lib.hid hKT
    rw [hKT] at HML
    have HML2 : Hid (∀ W', Below W.heap.size W W' → (Instr.lookup 87 (.map (some Bm)) (.int .i64 T) true).run Try.prog W' = .ok (.tuple #[.agg #[.int .i64 ht.v, .int .i64 ht.f, .slice ht.s.A ht.s.xs.length ht.s.c], .bool true]) W') := Lib.hid (fun W' hb => HML.out W' hb)
    clear HML hKT HMF
    generalize ht.s.xs.length = htl at *
    go_enter Try.func123, Try.ntmps123
    go_wp2_with fail
    refine (HT.out _ (by (repeat (first | (with_reducible exact Below.refl _ _) | (with_reducible assumption) | (with_reducible refine Below.drew ?_) | (with_reducible refine Below.allocS ?_ _) | (with_reducible refine Below.setCell ?_ ?_ _) | (with_reducible refine Below.step ?_ (by assumption)) | (with_reducible refine Below.drewN' ?_ _))); (try any_goals (first | (with_reducible assumption) | (simp; done) | (simp; omega) | omega)))).mono ?_
    rintro e W1 ⟨rfl, hb1⟩
    have hl2 := HML2.out W1 hb1
    have c4 := keep_cell hb1 b4
    have c6 := keep_cell hb1 b6
    have cg := keep_cell hb1 hq2
    have y46 : qb < W1.heap.size := cell?_lt c6
    have yg1 : g < W1.heap.size := cell?_lt cg
    have y14 : w.heap.size + 1 < W1.heap.size := by omega
    have y24 : w.heap.size + 2 < W1.heap.size := by omega
    have y04 : w.heap.size < W1.heap.size := by omega
    have c5 := keep_cell hb1 b5
    have c3 := keep_cell hb1 b3
    have HS1 := Lib.hid (HS.out.step hb1)
    by_cases hFq : F = q0
    · have d1 : ((F : Int) == (q0 : Int)) = true := by simp [hFq]
      have d2 : (F == q0) = true := by simp [hFq]
      clear hFq
      go_wp2
      go_end0
      exact ⟨⟨_, rfl⟩, K, g, off, cq, _, (HS1.out.step (by (repeat (first | (with_reducible exact Below.refl _ _) | (with_reducible assumption) | (with_reducible refine Below.drew ?_) | (with_reducible refine Below.allocS ?_ _) | (with_reducible refine Below.setCell ?_ ?_ _) | (with_reducible refine Below.step ?_ (by assumption)) | (with_reducible refine Below.drewN' ?_ _))); (try any_goals (first | (with_reducible assumption) | (simp; done) | (simp; omega) | omega)))), (HTR.out _ _).2 (.inl ⟨rfl, rfl, fun _ => by rw [HKT2.out]; simp⟩)⟩
    · have d1 : ((F : Int) == (q0 : Int)) = false := by simp; omega
      have d2 : (F == q0) = false := by simp; omega
      have HFQ := Lib.hid hFq
      clear hFq
      go_wp2
      go_end0
      exact ⟨⟨_, rfl⟩, K, g, off, cq, _, (HS1.out.step (by (repeat (first | (with_reducible exact Below.refl _ _) | (with_reducible assumption) | (with_reducible refine Below.drew ?_) | (with_reducible refine Below.allocS ?_ _) | (with_reducible refine Below.setCell ?_ ?_ _) | (with_reducible refine Below.step ?_ (by assumption)) | (with_reducible refine Below.drewN' ?_ _))); (try any_goals (first | (with_reducible assumption) | (simp; done) | (simp; omega) | omega)))), (HTR.out _ _).2 (.inl ⟨rfl, rfl, fun e => absurd e HFQ.out⟩)⟩
  | none =>
    have HKT2 := Lib.hid hKT
    rw [hKT] at HML
    have HML2 : Hid (∀ W', Below W.heap.size W W' → (Instr.lookup 87 (.map (some Bm)) (.int .i64 T) true).run Try.prog W' = .ok (.tuple #[.agg #[.int .i64 0, .int .i64 0, .slice none 0 0], .bool false]) W') := Lib.hid (fun W' hb => HML.out W' hb)
    clear HML hKT
    by_cases hFq : F = q0
    case neg =>
      have d1 : ((F : Int) == (q0 : Int)) = false := by simp; omega
      have d2 : (F == q0) = false := by simp; omega
      have HFQ := Lib.hid hFq
      clear hFq HMF
      go_enter Try.func123, Try.ntmps123
      go_wp2_with fail
      refine (HT.out _ (by (repeat (first | (with_reducible exact Below.refl _ _) | (with_reducible assumption) | (with_reducible refine Below.drew ?_) | (with_reducible refine Below.allocS ?_ _) | (with_reducible refine Below.setCell ?_ ?_ _) | (with_reducible refine Below.step ?_ (by assumption)) | (with_reducible refine Below.drewN' ?_ _))); (try any_goals (first | (with_reducible assumption) | (simp; done) | (simp; omega) | omega)))).mono ?_
      rintro e W1 ⟨rfl, hb1⟩
      have hl2 := HML2.out W1 hb1
      have c4 := keep_cell hb1 b4
      have c6 := keep_cell hb1 b6
      have cg := keep_cell hb1 hq2
      have y46 : qb < W1.heap.size := cell?_lt c6
      have yg1 : g < W1.heap.size := cell?_lt cg
      have y14 : w.heap.size + 1 < W1.heap.size := by omega
      have y24 : w.heap.size + 2 < W1.heap.size := by omega
      have y04 : w.heap.size < W1.heap.size := by omega
      have c5 := keep_cell hb1 b5
      have c3 := keep_cell hb1 b3
      have HS1 := Lib.hid (HS.out.step hb1)
      go_wp2
      go_end0
      exact ⟨⟨_, rfl⟩, K, g, off, cq, _, (HS1.out.step (by (repeat (first | (with_reducible exact Below.refl _ _) | (with_reducible assumption) | (with_reducible refine Below.drew ?_) | (with_reducible refine Below.allocS ?_ _) | (with_reducible refine Below.setCell ?_ ?_ _) | (with_reducible refine Below.step ?_ (by assumption)) | (with_reducible refine Below.drewN' ?_ _))); (try any_goals (first | (with_reducible assumption) | (simp; done) | (simp; omega) | omega)))), (HTR.out _ _).2 (.inl ⟨rfl, rfl, fun e => absurd e HFQ.out⟩)⟩
    obtain ⟨hh, hhK⟩ : ∃ hh, K q0 = some hh := Option.ne_none_iff_exists'.1 HK.out
    have HHK := Lib.hid hhK
    rw [hFq, hhK] at HMF
    subst hFq
    have hvb := HV.out _ _ hhK
    obtain ⟨hws1, hws2, hws3⟩ := HS.out.ws _ _ hhK
    have HWS := Lib.hid hws1
    have HWZ := Lib.hid hws2
    have HMF2 : Hid (∀ W', Below W.heap.size W W' → (Instr.lookup 87 (.map (some Bm)) (.int .i64 F) false).run Try.prog W' = .ok (.agg #[.int .i64 hh.v, .int .i64 hh.f, .slice hh.s.A hh.s.xs.length hh.s.c]) W') := Lib.hid (fun W' hb => HMF.out W' hb)
    have u0 : IntKind.i64.wrap (hh.v + V) = hh.v + V := IntWalk.i64_in _ (by omega)
    have HTN := Lib.hid hfr.2.1
    clear HMF hhK hws1 hws2 hws3 HK HV
    obtain ⟨xl, hxl⟩ : ∃ xl, xl = hh.s.xs.length := ⟨_, rfl⟩
    have HXL := Lib.hid hxl
    have hxl50 : xl ≤ 50 := by rw [hxl]; exact hvb.2
    rw [← hxl] at HMF2
    clear hxl hvb
    have HCLIP := Lib.hid (fun W => Clip_c hh.s.A xl hh.s.c (by rw [HXL.out]; exact HWS.out.c.1) HWS.out.c.2 (fun e => ⟨by rw [HXL.out]; have := HWS.out.r.none_len e; rwa [List.length_map] at this, HWZ.out e⟩) W)
    have d1 : ((F : Int) == (F : Int)) = true := by simp
    go_enter Try.func123, Try.ntmps123
    go_wp2_with fail
    refine (HT.out _ (by (repeat (first | (with_reducible exact Below.refl _ _) | (with_reducible assumption) | (with_reducible refine Below.drew ?_) | (with_reducible refine Below.allocS ?_ _) | (with_reducible refine Below.setCell ?_ ?_ _) | (with_reducible refine Below.step ?_ (by assumption)) | (with_reducible refine Below.drewN' ?_ _))); (try any_goals (first | (with_reducible assumption) | (simp; done) | (simp; omega) | omega)))).mono ?_
    rintro e W1 ⟨rfl, hb1⟩
    have hl2 := HML2.out W1 hb1
    have c4 := keep_cell hb1 b4
    have c6 := keep_cell hb1 b6
    have cg := keep_cell hb1 hq2
    have y46 : qb < W1.heap.size := cell?_lt c6
    have yg1 : g < W1.heap.size := cell?_lt cg
    have y14 : w.heap.size + 1 < W1.heap.size := by omega
    have y24 : w.heap.size + 2 < W1.heap.size := by omega
    have y04 : w.heap.size < W1.heap.size := by omega
    have c5 := keep_cell hb1 b5
    have c3 := keep_cell hb1 b3
    have HS1 := Lib.hid (HS.out.step hb1)
    have hl3 := HMF2.out (W1.alloc (.cells #[.int .i64 0, .int .i64 0, .slice none 0 0] 91)) (Below.allocS hb1 _)
    go_wp2_with fail
    obtain ⟨V1, hV1⟩ : ∃ V1, V1 = (W1.alloc (.cells #[.int .i64 0, .int .i64 0, .slice none 0 0] 91)).alloc (.cells #[.int .i64 hh.v, .int .i64 hh.f, .slice hh.s.A xl hh.s.c] 91) := ⟨_, rfl⟩
    have hb1V : Below W1.heap.size W1 V1 := by rw [hV1]; exact Below.allocS (Below.allocS (Below.refl _ _) _) _
    have e0 : V1.cell? ⟨W1.heap.size + 1, 0, none⟩ = some (.int .i64 hh.v) := by rw [hV1]; simp [go_sem]
    have e1 : V1.cell? ⟨W1.heap.size + 1, 1, none⟩ = some (.int .i64 hh.f) := by rw [hV1]; simp [go_sem]
    have e2 : V1.cell? ⟨W1.heap.size + 1, 2, none⟩ = some (.slice hh.s.A xl hh.s.c) := by rw [hV1]; simp [go_sem]
    have HSV := Lib.hid (HS1.out.step hb1V)
    have hbm := HS1.out.bm
    have hyV : qb < V1.heap.size := by have := hb1V.size; omega
    have hgV : g < V1.heap.size := by have := hb1V.size; omega
    have p0 : ∀ W, V1.grownBy W (some Bm) → W.cell? ⟨W1.heap.size + 1, 0, none⟩ = some (.int .i64 hh.v) := fun W hg => grown_cell hg e0 (by simp; omega)
    have p1 : ∀ W, V1.grownBy W (some Bm) → W.cell? ⟨W1.heap.size + 1, 2, none⟩ = some (.slice hh.s.A xl hh.s.c) := fun W hg => grown_cell hg e2 (by simp; omega)
    have p2 : ∀ W, V1.grownBy W (some Bm) → W.cell? ⟨w.heap.size + 1, 0, none⟩ = some (.map (some Bm)) := fun W hg => grown_cell hg (keep_cell hb1V c4) (by simp; omega)
    have p3 : ∀ W, V1.grownBy W (some Bm) → W.cell? ⟨w.heap.size + 2, 0, none⟩ = some (.int .i64 first) := fun W hg => grown_cell hg (keep_cell hb1V c5) (by simp; omega)
    have HAPP := Lib.hid (app_clip (hh.s.xs.map Int.ofNat) (k : Int) hh.s.A (by rw [List.length_map, ← HXL.out]; omega) (V1.drew.alloc (.cells #[.int .i64 k] 3)) V1.heap.size ((((HWS.out.step hb1).step hb1V).step (Below.allocS (Below.drew (Below.refl _ _)) _)).r) (by simp [go_sem]) xl (by rw [List.length_map]; exact HXL.out))
    rw [← hV1]
    clear hl2 hl3 e1 hV1
    refine wp_region_held_drew (S := fun W => V1.grownBy W (some Bm)) (by kernel_rfl) ?_ (fun hHeld => ?_); (· exact ⟨rfl, rfl, rfl, Nat.le_refl _, fun _ _ _ => rfl⟩)
    (first | (refine wpAnyH_take (i := 0) (oi := ⟨_, _, _, _, _, _⟩) (v := ?_) rfl (by kernel_rfl) (by kernel_rfl) (by kernel_rfl) (fun _ _ _ h => h) (Or.inl ⟨by rfl, ?_⟩) (by assumption) ?_; rotate_left 1; (· (intro w0 hSw; (try dsimp only at hSw); go_simp; (try with_reducible rfl)))) | (refine wpAnyH_take (i := 0) (oi := ⟨_, _, _, _, _, _⟩) (v := undef) rfl (by kernel_rfl) (by kernel_rfl) (by kernel_rfl) (fun _ _ _ h => h) (Or.inr ⟨by rfl, rfl⟩) (by assumption) ?_)); (try simp only [Act.put, List.setIfInBounds_toArray, List.set_cons_zero, List.set_cons_succ])
    (first | (refine wpAnyH_take (i := 1) (oi := ⟨_, _, _, _, _, _⟩) (v := ?_) rfl (by kernel_rfl) (by kernel_rfl) (by kernel_rfl) (fun _ _ _ h => h) (Or.inl ⟨by rfl, ?_⟩) (by assumption) ?_; rotate_left 1; (· (intro w0 hSw; (try dsimp only at hSw); go_simp; (try with_reducible rfl)))) | (refine wpAnyH_take (i := 1) (oi := ⟨_, _, _, _, _, _⟩) (v := undef) rfl (by kernel_rfl) (by kernel_rfl) (by kernel_rfl) (fun _ _ _ h => h) (Or.inr ⟨by rfl, rfl⟩) (by assumption) ?_)); (try simp only [Act.put, List.setIfInBounds_toArray, List.set_cons_zero, List.set_cons_succ])
    (first | (refine wpAnyH_take (i := 2) (oi := ⟨_, _, _, _, _, _⟩) (v := ?_) rfl (by kernel_rfl) (by kernel_rfl) (by kernel_rfl) (fun _ _ _ h => h) (Or.inl ⟨by rfl, ?_⟩) (by assumption) ?_; rotate_left 1; (· (intro w0 hSw; (try dsimp only at hSw); go_simp; (try with_reducible rfl)))) | (refine wpAnyH_take (i := 2) (oi := ⟨_, _, _, _, _, _⟩) (v := undef) rfl (by kernel_rfl) (by kernel_rfl) (by kernel_rfl) (fun _ _ _ h => h) (Or.inr ⟨by rfl, rfl⟩) (by assumption) ?_)); (try simp only [Act.put, List.setIfInBounds_toArray, List.set_cons_zero, List.set_cons_succ])
    (first | (refine wpAnyH_take (i := 3) (oi := ⟨_, _, _, _, _, _⟩) (v := ?_) rfl (by kernel_rfl) (by kernel_rfl) (by kernel_rfl) (fun _ _ _ h => h) (Or.inl ⟨by rfl, ?_⟩) (by assumption) ?_; rotate_left 1; (· (intro w0 hSw; (try dsimp only at hSw); go_simp; (try with_reducible rfl)))) | (refine wpAnyH_take (i := 3) (oi := ⟨_, _, _, _, _, _⟩) (v := undef) rfl (by kernel_rfl) (by kernel_rfl) (by kernel_rfl) (fun _ _ _ h => h) (Or.inr ⟨by rfl, rfl⟩) (by assumption) ?_)); (try simp only [Act.put, List.setIfInBounds_toArray, List.set_cons_zero, List.set_cons_succ])
    (first | (refine wpAnyH_take (i := 4) (oi := ⟨_, _, _, _, _, _⟩) (v := ?_) rfl (by kernel_rfl) (by kernel_rfl) (by kernel_rfl) (fun _ _ _ h => h) (Or.inl ⟨by rfl, ?_⟩) (by assumption) ?_; rotate_left 1; (· (intro w0 hSw; (try dsimp only at hSw); go_simp; (try with_reducible rfl)))) | (refine wpAnyH_take (i := 4) (oi := ⟨_, _, _, _, _, _⟩) (v := undef) rfl (by kernel_rfl) (by kernel_rfl) (by kernel_rfl) (fun _ _ _ h => h) (Or.inr ⟨by rfl, rfl⟩) (by assumption) ?_)); (try simp only [Act.put, List.setIfInBounds_toArray, List.set_cons_zero, List.set_cons_succ])
    (first | (refine wpAnyH_take (i := 5) (oi := ⟨_, _, _, _, _, _⟩) (v := ?_) rfl (by kernel_rfl) (by kernel_rfl) (by kernel_rfl) (fun _ _ _ h => h) (Or.inl ⟨by rfl, ?_⟩) (by assumption) ?_; rotate_left 1; (· (intro w0 hSw; (try dsimp only at hSw); go_simp; (try with_reducible rfl)))) | (refine wpAnyH_take (i := 5) (oi := ⟨_, _, _, _, _, _⟩) (v := undef) rfl (by kernel_rfl) (by kernel_rfl) (by kernel_rfl) (fun _ _ _ h => h) (Or.inr ⟨by rfl, rfl⟩) (by assumption) ?_)); (try simp only [Act.put, List.setIfInBounds_toArray, List.set_cons_zero, List.set_cons_succ])
    (first | (refine wpAnyH_take (i := 6) (oi := ⟨_, _, _, _, _, _⟩) (v := ?_) rfl (by kernel_rfl) (by kernel_rfl) (by kernel_rfl) (fun _ _ _ h => h) (Or.inl ⟨by rfl, ?_⟩) (by assumption) ?_; rotate_left 1; (· (intro w0 hSw; (try dsimp only at hSw); go_simp; (try with_reducible rfl)))) | (refine wpAnyH_take (i := 6) (oi := ⟨_, _, _, _, _, _⟩) (v := undef) rfl (by kernel_rfl) (by kernel_rfl) (by kernel_rfl) (fun _ _ _ h => h) (Or.inr ⟨by rfl, rfl⟩) (by assumption) ?_)); (try simp only [Act.put, List.setIfInBounds_toArray, List.set_cons_zero, List.set_cons_succ])
    (first | (refine wpAnyH_take (i := 7) (oi := ⟨_, _, _, _, _, _⟩) (v := ?_) rfl (by kernel_rfl) (by kernel_rfl) (by kernel_rfl) (fun _ _ _ h => h) (Or.inl ⟨by rfl, ?_⟩) (by assumption) ?_; rotate_left 1; (· (intro w0 hSw; (try dsimp only at hSw); go_simp; (try with_reducible rfl)))) | (refine wpAnyH_take (i := 7) (oi := ⟨_, _, _, _, _, _⟩) (v := undef) rfl (by kernel_rfl) (by kernel_rfl) (by kernel_rfl) (fun _ _ _ h => h) (Or.inr ⟨by rfl, rfl⟩) (by assumption) ?_)); (try simp only [Act.put, List.setIfInBounds_toArray, List.set_cons_zero, List.set_cons_succ])
    (first | (refine wpAnyH_take (i := 8) (oi := ⟨_, _, _, _, _, _⟩) (v := ?_) rfl (by kernel_rfl) (by kernel_rfl) (by kernel_rfl) (fun _ _ _ h => h) (Or.inl ⟨by rfl, ?_⟩) (by assumption) ?_; rotate_left 1; (· (intro w0 hSw; (try dsimp only at hSw); go_simp; (try with_reducible rfl)))) | (refine wpAnyH_take (i := 8) (oi := ⟨_, _, _, _, _, _⟩) (v := undef) rfl (by kernel_rfl) (by kernel_rfl) (by kernel_rfl) (fun _ _ _ h => h) (Or.inr ⟨by rfl, rfl⟩) (by assumption) ?_)); (try simp only [Act.put, List.setIfInBounds_toArray, List.set_cons_zero, List.set_cons_succ])
    (first | (refine wpAnyH_take (i := 10) (oi := ⟨_, _, _, _, _, _⟩) (v := ?_) rfl (by kernel_rfl) (by kernel_rfl) (by kernel_rfl) (fun _ _ _ h => h) (Or.inl ⟨by rfl, ?_⟩) (by assumption) ?_; rotate_left 1; (· (intro w0 hSw; (try dsimp only at hSw); go_simp; (try with_reducible rfl)))) | (refine wpAnyH_take (i := 10) (oi := ⟨_, _, _, _, _, _⟩) (v := undef) rfl (by kernel_rfl) (by kernel_rfl) (by kernel_rfl) (fun _ _ _ h => h) (Or.inr ⟨by rfl, rfl⟩) (by assumption) ?_)); (try simp only [Act.put, List.setIfInBounds_toArray, List.set_cons_zero, List.set_cons_succ])
    refine wpAnyH_ready (rs := [9, 11]) (by kernel_rfl) (by simp) ?_
    refine AllReadyH.cons (o := ⟨_, _, _, _, _, _⟩) rfl (fun KK hK => ?_) ?_
    · go_simp
      go_at_call 113; refine (HCLIP.out _).mono ?_; rintro e w' ⟨rfl, hw'⟩; replace hw' := hw'.symm; subst hw'
      (try go_wp2_with fail)
      refine hK.out _ _ ?_ (fun hHeld => ?_)
      · assumption
      clear hK KK
      (try simp only [Act.put, List.setIfInBounds_toArray, List.set_cons_zero, List.set_cons_succ])
      refine wpAnyH_ready (rs := [11]) (by kernel_rfl) (by simp) ?_
      refine AllReadyH.cons (o := ⟨_, _, _, _, _, _⟩) rfl (fun KK hK => ?_) AllReadyH.nil
      go_simp
      refine hK.out _ _ ?_ (fun hHeld => ?_)
      · exact grown_below (by assumption) (Below.allocS (Below.refl _ _) _)
      clear hK KK
      (try simp only [Act.put, List.setIfInBounds_toArray, List.set_cons_zero, List.set_cons_succ])
      refine wpAnyH_ready (rs := [12]) (by kernel_rfl) (by simp) ?_
      refine AllReadyH.cons (o := ⟨_, _, _, _, _, _⟩) rfl (fun KK hK => ?_) AllReadyH.nil
      refine step_append_ok rfl (.tmp 46) (.tmp 48) 26 rfl _ _ rfl rfl HAPP.out ?_
      rintro v5 W5 ⟨hown5, hb5⟩
      obtain ⟨A5, c5, rfl, k5, m5⟩ := row_form hown5
      obtain ⟨g5, rfl⟩ := own_addr hown5 (by omega)
      have hlo5 := hown5.lt g5 rfl
      have HO5 := Lib.hid hown5
      have HK5 := Lib.hid (And.intro k5 m5)
      have hbV5 : Below V1.heap.size V1 W5 := Below.low (Below.allocS (Below.drew (Below.refl _ _)) _) hb5 (by simp)
      refine hK.out _ _ ?_ (fun hHeld => ?_)
      · exact grown_below (by assumption) hb5
      clear hK KK
      (try simp only [Act.put, List.setIfInBounds_toArray, List.set_cons_zero, List.set_cons_succ])
      clear hown5 hb5 k5 m5
      have HS5 := Lib.hid (HSV.out.step hbV5)
      (first | (refine wpAnyH_take (i := 13) (oi := ⟨_, _, _, _, _, _⟩) (v := ?_) rfl (by kernel_rfl) (by kernel_rfl) (by kernel_rfl) (fun _ _ _ h => h) (Or.inl ⟨by rfl, ?_⟩) (by assumption) ?_; rotate_left 1; (· (intro w0 hSw; (try dsimp only at hSw); go_simp; (try with_reducible rfl)))) | (refine wpAnyH_take (i := 13) (oi := ⟨_, _, _, _, _, _⟩) (v := undef) rfl (by kernel_rfl) (by kernel_rfl) (by kernel_rfl) (fun _ _ _ h => h) (Or.inr ⟨by rfl, rfl⟩) (by assumption) ?_)); (try simp only [Act.put, List.setIfInBounds_toArray, List.set_cons_zero, List.set_cons_succ])
      refine wpAnyH_ready (rs := [14]) (by kernel_rfl) (by simp) ?_
      refine AllReadyH.cons (o := ⟨_, _, _, _, _, _⟩) rfl (fun KK hK => ?_) AllReadyH.nil
      refine step_storeF rfl (.tmp 37) (.tmp 38) (.tmp 50) 87 rfl W5 3 91 (Maps.int_keyed Try.underlying3) Try.underlying87 Bm (cntK K n) (hF K) rfl HS5.out.mp (by have := cntK_le K n; unfold maxLen; omega) (.int .i64 T) (.agg #[.int .i64 (hh.v + V), .int .i64 first, .slice (some ⟨g5, 0, none⟩) (xl + 1) c5]) _ rfl rfl HKT.out ?_
      intro W6 hM6 hg6
      refine hK.out _ _ ?_ (fun hHeld => ?_)
      · exact grown_trans (by assumption) hg6
      clear hK KK
      (try simp only [Act.put, List.setIfInBounds_toArray, List.set_cons_zero, List.set_cons_succ])
      refine wpAnyH_done (by kernel_rfl) ?_ _
      have HX : Hid (SlAt W5 60 ⟨some ⟨g5, 0, none⟩, c5, hh.s.xs ++ [k]⟩) := Lib.hid (by
        have ho := HO5.out
        have hx := HXL.out
        have hkk := HK5.out
        refine ⟨?_, fun j hj => ?_, ?_, ?_⟩
        · show RdL W5 W5.heap.size inE 1 (some ⟨g5, 0, none⟩) ((hh.s.xs ++ [k]).map Int.ofNat)
          rw [List.map_append]
          exact RdL.of_own (enc := inE) (fun _ => rfl) ho (by rw [List.length_append, List.length_map, ← hx]; rfl)
        · rcases List.mem_append.1 hj with h | h
          · exact HWS.out.i j h
          · simp at h; omega
        · simp; omega
        · simp; omega)
      have HS6 := Lib.hid (HS5.out.put (W' := W6) (x := ⟨hh.v + V, first, ⟨some ⟨g5, 0, none⟩, c5, hh.s.xs ++ [k]⟩⟩) HTN.out HKT2.out HX.out (fun e => by cases e) (fun b o e => by cases e; have h5 := hlo5; simp at h5; omega) (by have := hbV5.size; omega) (by
        have e : hbV ⟨hh.v + V, first, ⟨some ⟨g5, 0, none⟩, c5, hh.s.xs ++ [k]⟩⟩ = .agg #[.int .i64 (hh.v + V), .int .i64 first, .slice (some ⟨g5, 0, none⟩) (xl + 1) c5] := by
          unfold hbV
          simp only [List.length_append, HXL.out]
          rfl
        rw [e]; exact hM6) hg6)
      have HS7 := Lib.hid (HS6.out.step (Below.allocS (Below.refl _ _) (.cells #[.int .i64 T] 3)))
      have HPU := Lib.hid (queue_push HS7.out.q (by show Qr.length + 1 ≤ 1000; omega) (by have := HS7.out.q.ge; have := HS7.out.q.lt; omega) T W6.heap.size (by simp [go_sem]))
      have HPU2 : Hid (∃ v' w', (Builtin.append_ #[26, 26] 26 #[.slice (some ⟨g, off, none⟩) (Qr.length + 1) cq, .slice (some ⟨W6.heap.size, 0, none⟩) 1 1]).run Try.prog (W6.alloc (.cells #[.int .i64 T] 3)) = .ok v' w' ∧ ∃ g' off' cap', v' = .slice (some ⟨g', off', none⟩) (Qr.length + 1 + 1) cap' ∧ QAt w' (w.heap.size + 3) g' off' (F :: Qr ++ [T]) cap' ∧ (W6.alloc (.cells #[.int .i64 T] 3)).grownBy w' (some g) ∧ (g' = g ∨ (W6.alloc (.cells #[.int .i64 T] 3)).heap.size ≤ g')) := Lib.hid (by
        obtain ⟨g', off', cap', w', h1, h2, h3, h4⟩ := HPU.out
        exact ⟨_, _, h1, g', off', cap', rfl, h2, h3, h4⟩)
      have e6 := HS6.out.b6
      have f66 := HS6.out.f6
      have hgq := HS6.out.gq
      have y6 : qb < W6.heap.size := cell?_lt e6
      rw [hql] at e6
      clear HPU hM6 hg6
      go_wp2_with (at_builtin; refine wpList_app rfl (.tmp 51) (.tmp 53) 26 rfl _ _ rfl rfl HPU2.out ?_; rintro v7 W7 ⟨g', off', cap', rfl, hq7, hg7, hgg7⟩; have e7 := grown_cell hg7 (HS7.out.b6) (by simp; omega); have f7 : W7.frozen? ⟨qb, 0, none⟩ = false := (World.frozen?_of_block (a := ⟨qb, 0, none⟩) (hg7.block _ (by simp; omega) (by simp; omega))).trans HS7.out.f6; have HQ7 := Lib.hid hq7; have HG7 := Lib.hid hg7; have HGG := Lib.hid hgg7; clear hq7 hg7 hgg7)
      have HS8 := Lib.hid (HS7.out.push HQ7.out HG7.out HGG.out (by simp; omega))
      go_end0
      exact ⟨⟨_, rfl⟩, _, g', off', cap', _, HS8.out, (HTR.out _ _).2 (.inr ⟨by first | trivial | rfl, HKT2.out, hh, ⟨some ⟨g5, 0, none⟩, c5, hh.s.xs ++ [k]⟩, HHK.out, rfl, rfl, rfl⟩)⟩
    · refine AllReadyH.cons (o := ⟨_, _, _, _, _, _⟩) rfl (fun KK hK => ?_) AllReadyH.nil
      go_simp
      refine hK.out _ _ ?_ (fun hHeld => ?_)
      · exact grown_below (by assumption) (Below.allocS (Below.refl _ _) _)
      clear hK KK
      (try simp only [Act.put, List.setIfInBounds_toArray, List.set_cons_zero, List.set_cons_succ])
      refine wpAnyH_ready (rs := [9]) (by kernel_rfl) (by simp) ?_
      refine AllReadyH.cons (o := ⟨_, _, _, _, _, _⟩) rfl (fun KK hK => ?_) AllReadyH.nil
      go_simp
      go_at_call 113; refine (HCLIP.out _).mono ?_; rintro e w' ⟨rfl, hw'⟩; replace hw' := hw'.symm; subst hw'
      (try go_wp2_with fail)
      refine hK.out _ _ ?_ (fun hHeld => ?_)
      · assumption
      clear hK KK
      (try simp only [Act.put, List.setIfInBounds_toArray, List.set_cons_zero, List.set_cons_succ])
      refine wpAnyH_ready (rs := [12]) (by kernel_rfl) (by simp) ?_
      refine AllReadyH.cons (o := ⟨_, _, _, _, _, _⟩) rfl (fun KK hK => ?_) AllReadyH.nil
      refine step_append_ok rfl (.tmp 46) (.tmp 48) 26 rfl _ _ rfl rfl HAPP.out ?_
      rintro v5 W5 ⟨hown5, hb5⟩
      obtain ⟨A5, c5, rfl, k5, m5⟩ := row_form hown5
      obtain ⟨g5, rfl⟩ := own_addr hown5 (by omega)
      have hlo5 := hown5.lt g5 rfl
      have HO5 := Lib.hid hown5
      have HK5 := Lib.hid (And.intro k5 m5)
      have hbV5 : Below V1.heap.size V1 W5 := Below.low (Below.allocS (Below.drew (Below.refl _ _)) _) hb5 (by simp)
      refine hK.out _ _ ?_ (fun hHeld => ?_)
      · exact grown_below (by assumption) hb5
      clear hK KK
      (try simp only [Act.put, List.setIfInBounds_toArray, List.set_cons_zero, List.set_cons_succ])
      clear hown5 hb5 k5 m5
      have HS5 := Lib.hid (HSV.out.step hbV5)
      (first | (refine wpAnyH_take (i := 13) (oi := ⟨_, _, _, _, _, _⟩) (v := ?_) rfl (by kernel_rfl) (by kernel_rfl) (by kernel_rfl) (fun _ _ _ h => h) (Or.inl ⟨by rfl, ?_⟩) (by assumption) ?_; rotate_left 1; (· (intro w0 hSw; (try dsimp only at hSw); go_simp; (try with_reducible rfl)))) | (refine wpAnyH_take (i := 13) (oi := ⟨_, _, _, _, _, _⟩) (v := undef) rfl (by kernel_rfl) (by kernel_rfl) (by kernel_rfl) (fun _ _ _ h => h) (Or.inr ⟨by rfl, rfl⟩) (by assumption) ?_)); (try simp only [Act.put, List.setIfInBounds_toArray, List.set_cons_zero, List.set_cons_succ])
      refine wpAnyH_ready (rs := [14]) (by kernel_rfl) (by simp) ?_
      refine AllReadyH.cons (o := ⟨_, _, _, _, _, _⟩) rfl (fun KK hK => ?_) AllReadyH.nil
      refine step_storeF rfl (.tmp 37) (.tmp 38) (.tmp 50) 87 rfl W5 3 91 (Maps.int_keyed Try.underlying3) Try.underlying87 Bm (cntK K n) (hF K) rfl HS5.out.mp (by have := cntK_le K n; unfold maxLen; omega) (.int .i64 T) (.agg #[.int .i64 (hh.v + V), .int .i64 first, .slice (some ⟨g5, 0, none⟩) (xl + 1) c5]) _ rfl rfl HKT.out ?_
      intro W6 hM6 hg6
      refine hK.out _ _ ?_ (fun hHeld => ?_)
      · exact grown_trans (by assumption) hg6
      clear hK KK
      (try simp only [Act.put, List.setIfInBounds_toArray, List.set_cons_zero, List.set_cons_succ])
      refine wpAnyH_done (by kernel_rfl) ?_ _
      have HX : Hid (SlAt W5 60 ⟨some ⟨g5, 0, none⟩, c5, hh.s.xs ++ [k]⟩) := Lib.hid (by
        have ho := HO5.out
        have hx := HXL.out
        have hkk := HK5.out
        refine ⟨?_, fun j hj => ?_, ?_, ?_⟩
        · show RdL W5 W5.heap.size inE 1 (some ⟨g5, 0, none⟩) ((hh.s.xs ++ [k]).map Int.ofNat)
          rw [List.map_append]
          exact RdL.of_own (enc := inE) (fun _ => rfl) ho (by rw [List.length_append, List.length_map, ← hx]; rfl)
        · rcases List.mem_append.1 hj with h | h
          · exact HWS.out.i j h
          · simp at h; omega
        · simp; omega
        · simp; omega)
      have HS6 := Lib.hid (HS5.out.put (W' := W6) (x := ⟨hh.v + V, first, ⟨some ⟨g5, 0, none⟩, c5, hh.s.xs ++ [k]⟩⟩) HTN.out HKT2.out HX.out (fun e => by cases e) (fun b o e => by cases e; have h5 := hlo5; simp at h5; omega) (by have := hbV5.size; omega) (by
        have e : hbV ⟨hh.v + V, first, ⟨some ⟨g5, 0, none⟩, c5, hh.s.xs ++ [k]⟩⟩ = .agg #[.int .i64 (hh.v + V), .int .i64 first, .slice (some ⟨g5, 0, none⟩) (xl + 1) c5] := by
          unfold hbV
          simp only [List.length_append, HXL.out]
          rfl
        rw [e]; exact hM6) hg6)
      have HS7 := Lib.hid (HS6.out.step (Below.allocS (Below.refl _ _) (.cells #[.int .i64 T] 3)))
      have HPU := Lib.hid (queue_push HS7.out.q (by show Qr.length + 1 ≤ 1000; omega) (by have := HS7.out.q.ge; have := HS7.out.q.lt; omega) T W6.heap.size (by simp [go_sem]))
      have HPU2 : Hid (∃ v' w', (Builtin.append_ #[26, 26] 26 #[.slice (some ⟨g, off, none⟩) (Qr.length + 1) cq, .slice (some ⟨W6.heap.size, 0, none⟩) 1 1]).run Try.prog (W6.alloc (.cells #[.int .i64 T] 3)) = .ok v' w' ∧ ∃ g' off' cap', v' = .slice (some ⟨g', off', none⟩) (Qr.length + 1 + 1) cap' ∧ QAt w' (w.heap.size + 3) g' off' (F :: Qr ++ [T]) cap' ∧ (W6.alloc (.cells #[.int .i64 T] 3)).grownBy w' (some g) ∧ (g' = g ∨ (W6.alloc (.cells #[.int .i64 T] 3)).heap.size ≤ g')) := Lib.hid (by
        obtain ⟨g', off', cap', w', h1, h2, h3, h4⟩ := HPU.out
        exact ⟨_, _, h1, g', off', cap', rfl, h2, h3, h4⟩)
      have e6 := HS6.out.b6
      have f66 := HS6.out.f6
      have hgq := HS6.out.gq
      have y6 : qb < W6.heap.size := cell?_lt e6
      rw [hql] at e6
      clear HPU hM6 hg6
      go_wp2_with (at_builtin; refine wpList_app rfl (.tmp 51) (.tmp 53) 26 rfl _ _ rfl rfl HPU2.out ?_; rintro v7 W7 ⟨g', off', cap', rfl, hq7, hg7, hgg7⟩; have e7 := grown_cell hg7 (HS7.out.b6) (by simp; omega); have f7 : W7.frozen? ⟨qb, 0, none⟩ = false := (World.frozen?_of_block (a := ⟨qb, 0, none⟩) (hg7.block _ (by simp; omega) (by simp; omega))).trans HS7.out.f6; have HQ7 := Lib.hid hq7; have HG7 := Lib.hid hg7; have HGG := Lib.hid hgg7; clear hq7 hg7 hgg7)
      have HS8 := Lib.hid (HS7.out.push HQ7.out HG7.out HGG.out (by simp; omega))
      go_end0
      exact ⟨⟨_, rfl⟩, _, g', off', cap', _, HS8.out, (HTR.out _ _).2 (.inr ⟨by first | trivial | rfl, HKT2.out, hh, ⟨some ⟨g5, 0, none⟩, c5, hh.s.xs ++ [k]⟩, HHK.out, rfl, rfl, rfl⟩)⟩
end Go.Proofs.Ytomgaiokmdcjmaa
