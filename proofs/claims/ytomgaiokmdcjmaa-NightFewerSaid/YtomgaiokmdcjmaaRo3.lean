/-
  A rota's state in memory; freed. No conditions.
-/
import Derived.Test.YtomgaiokmdcjmaaRo1
import Derived.Test.YtomgaiokmdcjmaaRo2
import Derived.Test.YtomgaiokmdcjmaaRow2
import Derived.BigQuiet
namespace Go.Proofs.Ytomgaiokmdcjmaa
open Go.RowKit Go.Deep
set_option linter.unusedVariables false
set_option linter.unusedSimpArgs false
/-- The numbers of nights, as a value. -/
def nsV (f : Nat → Nat) : Value := .agg #[.int .i64 (f 0), .int .i64 (f 1), .int .i64 (f 2), .int .i64 (f 3), .int .i64 (f 4), .int .i64 (f 5), .int .i64 (f 6), .int .i64 (f 7)]
/-- A rota's state, as a value. -/
def stV (n l : Nat) (f : Nat → Nat) : Value := .agg #[.int .i64 n, .int .i64 l, .int .i64 (f 0), .int .i64 (f 1), .int .i64 (f 2), .int .i64 (f 3), .int .i64 (f 4), .int .i64 (f 5), .int .i64 (f 6), .int .i64 (f 7)]
/-- A rota's state in memory. -/
structure StA (W : World) (b n l : Nat) (f : Nat → Nat) : Prop where
  c0 : W.cell? ⟨b, 0, none⟩ = some (.int .i64 n)
  c1 : W.cell? ⟨b, 1, none⟩ = some (.int .i64 l)
  cs : ∀ j, j < 8 → W.cell? ⟨b, 2 + j, none⟩ = some (.int .i64 (f j))
theorem StA.lt {W : World} {b n l : Nat} {f : Nat → Nat} (h : StA W b n l f) : b < W.heap.size := cell?_lt h.c0
theorem StA.of_block {W W' : World} {b n l : Nat} {f : Nat → Nat} (h : StA W b n l f) (hb : W'.heap[b]? = W.heap[b]?) : StA W' b n l f :=
  ⟨(World.cell?_of_block (a := ⟨b, 0, none⟩) hb).trans h.c0, (World.cell?_of_block (a := ⟨b, 1, none⟩) hb).trans h.c1, fun j hj => (World.cell?_of_block (a := ⟨b, 2 + j, none⟩) hb).trans (h.cs j hj)⟩
theorem StA.step {W W' : World} {b n l : Nat} {f : Nat → Nat} (h : StA W b n l f) (hb : Below W.heap.size W W') : StA W' b n l f := h.of_block (hb.block b h.lt)
/-- No cell of a state is frozen. -/
def StF (W : World) (b : Nat) : Prop := ∀ j, j < 10 → W.frozen? ⟨b, j, none⟩ = false
theorem StF.of_block {W W' : World} {b : Nat} (h : StF W b) (hb : W'.heap[b]? = W.heap[b]?) : StF W' b := fun j hj => (World.frozen?_of_block (a := ⟨b, j, none⟩) hb).trans (h j hj)
theorem StF.put {W : World} {b : Nat} (h : StF W b) (p : Addr) (v : Value) : StF (W.setCell p v) b := fun j hj => by rw [World.frozen?_setCell]; exact h j hj
theorem idx8 (f : Nat → Nat) (k : Nat) (hk : k < 8) (W : World) : (Instr.index 82 (.agg #[.int .i64 (f 0), .int .i64 (f 1), .int .i64 (f 2), .int .i64 (f 3), .int .i64 (f 4), .int .i64 (f 5), .int .i64 (f 6), .int .i64 (f 7)]) (.int .i64 k)).run Try.prog W = .ok (.int .i64 (f k)) W := by
  have h : k = 0 ∨ k = 1 ∨ k = 2 ∨ k = 3 ∨ k = 4 ∨ k = 5 ∨ k = 6 ∨ k = 7 := by omega
  rcases h with rfl | rfl | rfl | rfl | rfl | rfl | rfl | rfl <;> (refine Eq.trans ?_ rfl; kernel_rfl)
/-- A cell of a state is written: what the numbers are then. -/
theorem ns_put {W : World} {b : Nat} {f g : Nat → Nat} {k : Nat} {v : Nat} (hk : k < 8) (h : ∀ j, j < 8 → W.cell? ⟨b, 2 + j, none⟩ = some (.int .i64 (f j))) (hg : ∀ j, j < 8 → g j = if j = k then v else f j) :
    ∀ j, j < 8 → (W.setCell ⟨b, 2 + k, none⟩ (.int .i64 v)).cell? ⟨b, 2 + j, none⟩ = some (.int .i64 (g j)) := by
  intro j hj
  rw [hg j hj]
  by_cases hjk : j = k
  · subst hjk; rw [if_pos rfl]; exact World.cell?_setCell_same _ _ _ (h j hj)
  · rw [if_neg hjk, World.cell?_setCell_other _ _ _ _ (by intro e; injection e with e1 e2; omega)]; exact h j hj
theorem grown_after {a b c : World} {r : Option Nat} (h : Below a.heap.size a b) (k : b.grownBy c r) : a.grownBy c r :=
  ⟨k.os.trans h.os, k.tape.trans h.tape, k.output.trans h.output, Nat.le_trans h.size k.size, fun i hi hr => (k.block i (Nat.lt_of_lt_of_le hi h.size) hr).trans (h.block i hi)⟩
theorem put_grown {a b : World} {p : Addr} {n : Nat} (h : a.grownBy b (some n)) (v : Value) (hp : p.block = n) : a.grownBy (b.setCell p v) (some n) :=
  ⟨h.os, h.tape, h.output, by simpa [World.setCell] using h.size, fun i hi hr => (Below.heap_setCell _ _ _ _ (by intro e; exact hr (by rw [e, hp]))).trans (h.block i hi hr)⟩
theorem grown_step {a b c : World} {r : Option Nat} (h : a.grownBy b r) (k : Below b.heap.size b c) : a.grownBy c r :=
  ⟨k.os.trans h.os, k.tape.trans h.tape, k.output.trans h.output, Nat.le_trans h.size k.size, fun i hi hr => (k.block i (Nat.lt_of_lt_of_le hi h.size)).trans (h.block i hi hr)⟩
theorem fr_put {U V W0 : World} {b n l k v : Nat} {f1 f2 : Nat → Nat} (hst : StA U b n l f1) (hsf : StF U b) (hgr : W0.grownBy U (some b)) (hk : k < 8) (hg : ∀ j, j < 8 → f2 j = if j = k then v else f1 j) (hb : Below U.heap.size U V) :
    StA (V.setCell ⟨b, 2 + k, none⟩ (.int .i64 v)) b n l f2 ∧ StF (V.setCell ⟨b, 2 + k, none⟩ (.int .i64 v)) b ∧ W0.grownBy (V.setCell ⟨b, 2 + k, none⟩ (.int .i64 v)) (some b) := by
  have h2 := hst.step hb
  exact ⟨⟨(World.cell?_setCell_other _ _ _ _ (by intro e; injection e with e1 e2; omega)).trans h2.c0, (World.cell?_setCell_other _ _ _ _ (by intro e; injection e with e1 e2; omega)).trans h2.c1, ns_put hk h2.cs hg⟩,
    (hsf.of_block (hb.block b hst.lt)).put _ _, put_grown (grown_step hgr hb) _ rfl⟩
theorem fr_keep {U V W0 : World} {b n l : Nat} {f1 f2 : Nat → Nat} (hst : StA U b n l f1) (hsf : StF U b) (hgr : W0.grownBy U (some b)) (hg : ∀ j, j < 8 → f2 j = f1 j) (hb : Below U.heap.size U V) : StA V b n l f2 ∧ StF V b ∧ W0.grownBy V (some b) := by
  have h2 := hst.step hb
  exact ⟨⟨h2.c0, h2.c1, fun j hj => by rw [hg j hj]; exact h2.cs j hj⟩, hsf.of_block (hb.block b hst.lt), grown_step hgr hb⟩
set_option maxHeartbeats 2000000 in
set_option maxRecDepth 100000 in
theorem freed_c (N : Nat) (hN : N ≤ 12) (A : Option Addr) (cap : Nat) (o m : Nat) (hm : m ≤ 12) (b n l : Nat) (f : Nat → Nat) (hn : n ≤ N) (hf : ∀ j, j < 8 → f j ≤ 100) (w : World) (hs : StA w b n l f) (hfr : StF w b) :
    Calls Try.prog 115 #[.agg #[.slice A N cap, .int .i64 o, .int .i64 m], .pointer (some ⟨b, 0, none⟩)] w fun e w' => (∃ v, e = .returned v) ∧ StA w' b n l (freeF N n m f) ∧ w.grownBy w' (some b) := by
  have HS := Lib.hid hs
  have HFR := Lib.hid hfr
  have HF := Lib.hid hf
  have c0 := hs.c0
  have e0 : w.cell? ⟨b, 2, none⟩ = some (.int .i64 (f 0)) := hs.cs 0 (by omega)
  have e1 : w.cell? ⟨b, 3, none⟩ = some (.int .i64 (f 1)) := hs.cs 1 (by omega)
  have e2 : w.cell? ⟨b, 4, none⟩ = some (.int .i64 (f 2)) := hs.cs 2 (by omega)
  have e3 : w.cell? ⟨b, 5, none⟩ = some (.int .i64 (f 3)) := hs.cs 3 (by omega)
  have e4 : w.cell? ⟨b, 6, none⟩ = some (.int .i64 (f 4)) := hs.cs 4 (by omega)
  have e5 : w.cell? ⟨b, 7, none⟩ = some (.int .i64 (f 5)) := hs.cs 5 (by omega)
  have e6 : w.cell? ⟨b, 8, none⟩ = some (.int .i64 (f 6)) := hs.cs 6 (by omega)
  have e7 : w.cell? ⟨b, 9, none⟩ = some (.int .i64 (f 7)) := hs.cs 7 (by omega)
  have yb := hs.lt
  clear hs hfr hf
  go_enter Try.func115, Try.ntmps115
  go_wp2
  clear e0 e1 e2 e3 e4 e5 e6 e7 c0
  obtain ⟨W0, hW0⟩ : ∃ W0, W0 = w.alloc (.cells #[.slice A N cap, .int .i64 o, .int .i64 m] 80) := ⟨_, rfl⟩
  have z0 : W0.heap.size = w.heap.size + 1 := by rw [hW0]; simp
  have b0 : Below w.heap.size w W0 := by rw [hW0]; exact Below.allocS (Below.refl _ _) _
  have k0 : W0.cell? ⟨w.heap.size, 0, none⟩ = some (.slice A N cap) := by rw [hW0]; simp [go_sem]
  have k2 : W0.cell? ⟨w.heap.size, 2, none⟩ = some (.int .i64 m) := by rw [hW0]; simp [go_sem]
  rw [← hW0]
  clear hW0
  have HG : Hid (∀ j, j < 8 → freeF N n m f j = if f j + (N - n + 1) / 2 ≤ m then 0 else f j) := Lib.hid (fun j hj => rfl)
  obtain ⟨g, hg⟩ : ∃ g, g = freeF N n m f := ⟨_, rfl⟩
  have HGE := Lib.hid hg
  rw [← hg] at HG
  clear hg
  have HI8 := Lib.hid (idx8 f)
  go_loopw [10] (fun i wr => ∃ k : Nat, k ≤ 8 ∧ i = .int .i64 k ∧ StA wr b n l (fun j => if j < k then g j else f j) ∧ StF wr b ∧ W0.grownBy wr (some b)) (fun i _ => 8 - (intOf i).toNat)
  case atStart =>
    have hbb := b0.block b yb
    exact ⟨0, Nat.zero_le _, rfl, HS.out.of_block hbb, HFR.out.of_block hbb, ⟨rfl, rfl, rfl, Nat.le_refl _, fun i _ _ => rfl⟩⟩
  case round =>
    obtain ⟨k, hk, rfl, hst, hsf, hgr⟩ := hrel
    rename World => U
    have HST := Lib.hid hst
    have HSF := Lib.hid hsf
    have HGR := Lib.hid hgr
    have yU := hgr.size
    have bU := (hgr.block w.heap.size (by omega) (by intro e; injection e; omega))
    have k0' := (World.cell?_of_block (a := ⟨w.heap.size, 0, none⟩) bU).trans k0
    have k2' := (World.cell?_of_block (a := ⟨w.heap.size, 2, none⟩) bU).trans k2
    have c0 := hst.c0
    have ybU := hst.lt
    have ywU : w.heap.size < U.heap.size := by omega
    clear bU hst hsf hgr
    by_cases hlt : k < 8
    case neg =>
      obtain rfl : k = 8 := by omega
      go_wp2
      go_end0
      exact ⟨⟨_, rfl⟩, ⟨HST.out.c0, HST.out.c1, fun j hj => by have := HST.out.cs j hj; rw [this, if_pos hj, HGE.out]⟩, grown_after b0 HGR.out⟩
    have v1 : decide ((k : Int) < 8) = true := decide_eq_true (by omega)
    have v2 : decide (k < 8) = true := decide_eq_true (by omega)
    have v3 : IntKind.i64.wrap ((k : Int) + 1) = (k : Int) + 1 := IntWalk.i64_in _ (by omega)
    have hix := HI8.out k hlt
    have hfk := HF.out k hlt
    have HGK := Lib.hid (HG.out k hlt)
    have ck := HST.out.cs k hlt
    rw [if_neg (Nat.lt_irrefl k)] at ck
    have fk := HSF.out (2 + k) (by omega)
    obtain ⟨q, hq⟩ : ∃ q : Nat, q = (N - n + 1) / 2 := ⟨_, rfl⟩
    rw [← hq] at HGK
    have s1 : IntKind.i64.wrap ((N : Int) - (n : Int)) = (N : Int) - (n : Int) := IntWalk.i64_in _ (by omega)
    have s2 : IntKind.i64.wrap ((N : Int) - (n : Int) + 1) = (N : Int) - (n : Int) + 1 := IntWalk.i64_in _ (by omega)
    have s3 : Int.tdiv ((N : Int) - (n : Int) + 1) 2 = (q : Int) := by rw [Int.tdiv_eq_ediv_of_nonneg (by omega)]; omega
    have s4 : IntKind.i64.wrap (q : Int) = (q : Int) := IntWalk.i64_in _ (by omega)
    have s5 : IntKind.i64.wrap ((f k : Int) + (q : Int)) = (f k : Int) + (q : Int) := IntWalk.i64_in _ (by omega)
    have HQ := Lib.hid hq
    clear hq
    by_cases hc : f k + q ≤ m
    · have d1 : decide ((f k : Int) + (q : Int) ≤ (m : Int)) = true := decide_eq_true (by omega)
      have hg0 : g k = 0 := by rw [HGK.out, if_pos hc]
      have HG0 := Lib.hid hg0
      clear hc hg0 HGK
      go_wp2_with fail
      go_quiet (fail)
      go_wp2
      go_roundw
      case rel =>
        exact ⟨k + 1, by omega, by go_num, fr_put (v := 0) HST.out HSF.out HGR.out hlt (fun j hj => by
          by_cases h2 : j = k
          · subst h2; rw [if_pos (by omega), if_pos rfl, HG0.out]
          · rw [if_neg h2]
            by_cases h1 : j < k
            · rw [if_pos h1, if_pos (by omega)]
            · rw [if_neg h1, if_neg (by omega)]) (by (repeat (first | (with_reducible exact Below.refl _ _) | (with_reducible assumption) | (with_reducible refine Below.drew ?_) | (with_reducible refine Below.allocS ?_ _) | (with_reducible refine Below.setCell ?_ ?_ _) | (with_reducible refine Below.step ?_ (by assumption)) | (with_reducible refine Below.drewN' ?_ _))); (try any_goals (first | (with_reducible assumption) | (simp; done) | (simp; omega) | omega)))⟩
      case measure => simp [intOf]; omega
    · have d1 : decide ((f k : Int) + (q : Int) ≤ (m : Int)) = false := decide_eq_false (by omega)
      have hg0 : g k = f k := by rw [HGK.out, if_neg hc]
      have HG0 := Lib.hid hg0
      clear hc hg0 HGK
      go_wp2_with fail
      go_quiet (fail)
      go_wp2
      go_roundw
      case rel =>
        exact ⟨k + 1, by omega, by go_num, fr_keep HST.out HSF.out HGR.out (fun j hj => by
          by_cases h1 : j < k
          · rw [if_pos h1, if_pos (by omega)]
          · rw [if_neg h1]
            by_cases h2 : j = k
            · subst h2; rw [if_pos (by omega), HG0.out]
            · rw [if_neg (by omega)]) (by (repeat (first | (with_reducible exact Below.refl _ _) | (with_reducible assumption) | (with_reducible refine Below.drew ?_) | (with_reducible refine Below.allocS ?_ _) | (with_reducible refine Below.setCell ?_ ?_ _) | (with_reducible refine Below.step ?_ (by assumption)) | (with_reducible refine Below.drewN' ?_ _))); (try any_goals (first | (with_reducible assumption) | (simp; done) | (simp; omega) | omega)))⟩
      case measure => simp [intOf]; omega
theorem st_new (W : World) (n l : Nat) (f : Nat → Nat) (T : TypeId) : StA (W.alloc (.cells #[.int .i64 n, .int .i64 l, .int .i64 (f 0), .int .i64 (f 1), .int .i64 (f 2), .int .i64 (f 3), .int .i64 (f 4), .int .i64 (f 5), .int .i64 (f 6), .int .i64 (f 7)] T)) W.heap.size n l f ∧ StF (W.alloc (.cells #[.int .i64 n, .int .i64 l, .int .i64 (f 0), .int .i64 (f 1), .int .i64 (f 2), .int .i64 (f 3), .int .i64 (f 4), .int .i64 (f 5), .int .i64 (f 6), .int .i64 (f 7)] T)) W.heap.size := by
  have hb := World.alloc_heap_new W (.cells #[.int .i64 n, .int .i64 l, .int .i64 (f 0), .int .i64 (f 1), .int .i64 (f 2), .int .i64 (f 3), .int .i64 (f 4), .int .i64 (f 5), .int .i64 (f 6), .int .i64 (f 7)] T)
  refine ⟨?_, fun j hj => World.frozen?_alloc_new W _ _ _⟩
  generalize W.alloc (.cells #[.int .i64 n, .int .i64 l, .int .i64 (f 0), .int .i64 (f 1), .int .i64 (f 2), .int .i64 (f 3), .int .i64 (f 4), .int .i64 (f 5), .int .i64 (f 6), .int .i64 (f 7)] T) = V at *
  refine ⟨by simp [World.cell?, hb], by simp [World.cell?, hb], fun j hj => ?_⟩
  have h : j = 0 ∨ j = 1 ∨ j = 2 ∨ j = 3 ∨ j = 4 ∨ j = 5 ∨ j = 6 ∨ j = 7 := by omega
  rcases h with rfl | rfl | rfl | rfl | rfl | rfl | rfl | rfl <;> simp [World.cell?, hb]
end Go.Proofs.Ytomgaiokmdcjmaa
