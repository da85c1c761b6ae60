/-
  Differences of numbers that stand so far apart, as an iterator.
-/
import Derived.Test.YtagbokhmcidokaaRa1
import Derived.Test.YtagbokhmcidokaaRgS
import Derived.Test.YtagbokhmcidokaaQw
import Derived.IntWalk
namespace Go.Proofs.Ytagbokhmcidokaa
open Go.RowKit Go.Shelf
attribute [local go_sem] Oper.semAt_some
set_option linter.unusedVariables false
set_option linter.unusedSimpArgs false
/-- The differences from the i-th number on. -/
def difF (l : List Int) (ap : Nat) : Nat → Nat → List Int
  | 0, _ => []
  | f + 1, i => if i < l.length then (l.getD i 0 - l.getD (i - ap) 0) :: difF l ap f (i + ap) else []
def dif (l : List Int) (ap : Nat) : List Int := difF l ap l.length ap
theorem difF_end {l : List Int} {ap f i : Nat} (h : l.length ≤ i) : difF l ap f i = [] := by
  cases f with
  | zero => rfl
  | succ f => unfold difF; rw [if_neg (by omega)]
theorem difF_go {l : List Int} {ap f i : Nat} (h : i < l.length) (hf : l.length ≤ i + f) : ∃ g, l.length ≤ i + 1 + g ∧ difF l ap f i = (l.getD i 0 - l.getD (i - ap) 0) :: difF l ap g (i + ap) := by
  cases f with
  | zero => omega
  | succ f =>
    refine ⟨f, by omega, ?_⟩
    conv => lhs; unfold difF
    rw [if_pos h]
theorem differences_c (l : List Int) (A : Option Addr) (n cap : Nat) (ap : Nat) (w : World) : Calls Try.prog 48 #[.slice A n cap, .int .i64 ap] w fun e w' => e = .returned (.func (.func 92) #[] #[.pointer (some ⟨w.heap.size + 1, 0, none⟩), .pointer (some ⟨w.heap.size, 0, none⟩)]) ∧ (w.alloc (.cells #[.slice A n cap] 24)).alloc (.cells #[.int .i64 ap] 3) = w' := by
  go_enter Try.func48, Try.ntmps48
  go_wp2
  go_ret
  exact ⟨rfl, rfl⟩
def Mil (l : List Int) : Prop := ∀ i, -1000000000000 ≤ l.getD i 0 ∧ l.getD i 0 ≤ 1000000000000
set_option maxHeartbeats 2000000 in
set_option maxRecDepth 100000 in
theorem dif_seq (l : List Int) (cap ap : Nat) (hap : 1 ≤ ap ∧ ap ≤ 1000) (hl : l.length ≤ 100000) (hm : Mil l) (b off b1 b2 : Nat) (K : Nat → Prop) (hK : K b) (hK1 : K b1) (hK2 : K b2) (w : World) (hb : b < w.heap.size)
    (hc : ∀ i, i < l.length → w.cell? ⟨b, off + i, none⟩ = some (.int .i64 (l.getD i 0))) (c1 : w.cell? ⟨b1, 0, none⟩ = some (.int .i64 ap)) (c2 : w.cell? ⟨b2, 0, none⟩ = some (.slice (some ⟨b, off, none⟩) l.length cap)) :
    SeqS Try.prog 92 #[.pointer (some ⟨b1, 0, none⟩), .pointer (some ⟨b2, 0, none⟩)] (fun x : Int => #[.int .i64 x]) (fun xs => xs = dif l ap) (fun pre => pre <+: dif l ap) K (fun _ => False) w := by
  intro nn l0 J Jx W hW hJ hJx hJo hY hj0
  refine callsIn_of_wp Try.func92 rfl trivial ?_ rfl
  simp only [Try.ntmps92, List.size_toArray, List.length_cons, List.length_nil, Nat.reduceAdd, Nat.reduceSub, Array.replicate_succ, Array.replicate_zero, List.push_toArray, List.append_toArray, List.nil_append, List.cons_append]
  have k1 := keep_cell hW c1
  have k2 := keep_cell hW c2
  have kb : b < W.heap.size := by have := hW.size; omega
  have kc : ∀ i, i < l.length → W.cell? ⟨b, off + i, none⟩ = some (.int .i64 (l.getD i 0)) := fun i h => keep_cell hW (hc i h)
  have HC := Lib.hid kc
  have HY := Lib.hid hY
  have HJ := Lib.hid hJ
  have HM := Lib.hid hm
  clear hY hJ hJx hJo hc c1 c2 kc hm
  gi_wp2
  gi_loopw [4] (fun i wr => ∃ (pre : List Int) (k f : Nat), i = .int .i64 k ∧ ap ≤ k ∧ k ≤ 200000 ∧ wr.cell? ⟨b1, 0, none⟩ = some (.int .i64 ap) ∧ wr.cell? ⟨b2, 0, none⟩ = some (.slice (some ⟨b, off, none⟩) l.length cap) ∧ KT K W wr ∧ l.length ≤ k + f ∧ dif l ap = pre ++ difF l ap f k ∧ J pre wr) (fun i _ => 200000 - (intOf i).toNat)
  case atStart => exact ⟨[], ap, l.length, rfl, Nat.le_refl _, by omega, k1, k2, KT.refl _ _, by omega, rfl, hj0⟩
  case round =>
    obtain ⟨pre, k, f, rfl, hak, hk2, d1, d2, hkt, hf, hst, hj⟩ := hrel
    have HS := Lib.hid hst
    clear hst k1 k2
    by_cases hlt : k < l.length
    · obtain ⟨g, hg, hdf⟩ := difF_go (ap := ap) hlt hf
      have HS2 := Lib.hid (HS.out.trans (by rw [hdf]))
      have e1 : wr.cell? ⟨b, off + k, none⟩ = some (.int .i64 (l.getD k 0)) := (World.cell?_of_block (a := ⟨b, off + k, none⟩) (hkt.block b kb hK)).trans (HC.out k hlt)
      have e2 : wr.cell? ⟨b, off + (k - ap), none⟩ = some (.int .i64 (l.getD (k - ap) 0)) := (World.cell?_of_block (a := ⟨b, off + (k - ap), none⟩) (hkt.block b kb hK)).trans (HC.out (k - ap) (by omega))
      have m1 := HM.out k
      have m2 := HM.out (k - ap)
      clear hdf HS
      generalize l.getD k 0 = x at *
      generalize l.getD (k - ap) 0 = y at *
      have hs1 : IntKind.i64.wrap ((k : Int) - (ap : Int)) = ((k - ap : Nat) : Int) := by
        have h : IntKind.i64.wrap ((k : Int) - (ap : Int)) = (k : Int) - (ap : Int) := IntWalk.i64_in _ (by omega)
        rw [h]; omega
      have hs2 : IntKind.i64.wrap (x - y) = x - y := IntWalk.i64_in _ (by omega)
      have hs3 : IntKind.i64.wrap ((k : Int) + (ap : Int)) = ((k + ap : Nat) : Int) := by
        have h : IntKind.i64.wrap ((k : Int) + (ap : Int)) = (k : Int) + (ap : Int) := IntWalk.i64_in _ (by omega)
        rw [h]; omega
      have u1 : (0 : Int) ≤ (k : Int) := by omega
      have u2 : (k : Int) < (l.length : Int) := by omega
      have u3 : ((k - ap : Nat) : Int) < (l.length : Int) := by omega
      have yb : b < wr.heap.size := cell?_lt e1
      have yb1 : b1 < wr.heap.size := cell?_lt d1
      have yb2 : b2 < wr.heap.size := cell?_lt d2
      gi_wp2
      refine wide_below_tail 12 (by kernel_rfl) (by kernel_rfl) (by kernel_rfl) ?_; simp only [List.take_succ_cons, List.take_zero, List.drop_succ_cons, List.drop_zero]
      (first | go_big_quiet_skip | (go_big_quiet_want; refine quiet_val (v := ?_) ?_ ?_; rotate_left 1; (· (intro Wq hWq; obtain ⟨hWc, hWf⟩ := bcell hWq; go_simp; (try with_reducible rfl))); go_big_quiet_on; (try simp only [Act.put, List.setIfInBounds_toArray, List.set_cons_zero, List.set_cons_succ])))
      (first | go_big_quiet_skip | (go_big_quiet_want; refine quiet_val (v := ?_) ?_ ?_; rotate_left 1; (· (intro Wq hWq; obtain ⟨hWc, hWf⟩ := bcell hWq; go_simp; (try with_reducible rfl))); go_big_quiet_on; (try simp only [Act.put, List.setIfInBounds_toArray, List.set_cons_zero, List.set_cons_succ])))
      (first | go_big_quiet_skip | (go_big_quiet_want; refine quiet_val (v := ?_) ?_ ?_; rotate_left 1; (· (intro Wq hWq; obtain ⟨hWc, hWf⟩ := bcell hWq; go_simp; (try with_reducible rfl))); go_big_quiet_on; (try simp only [Act.put, List.setIfInBounds_toArray, List.set_cons_zero, List.set_cons_succ])))
      (first | go_big_quiet_skip | (go_big_quiet_want; refine quiet_val (v := ?_) ?_ ?_; rotate_left 1; (· (intro Wq hWq; obtain ⟨hWc, hWf⟩ := bcell hWq; go_simp; (try with_reducible rfl))); go_big_quiet_on; (try simp only [Act.put, List.setIfInBounds_toArray, List.set_cons_zero, List.set_cons_succ])))
      (first | go_big_quiet_skip | (go_big_quiet_want; refine quiet_val (v := ?_) ?_ ?_; rotate_left 1; (· (intro Wq hWq; obtain ⟨hWc, hWf⟩ := bcell hWq; go_simp; (try with_reducible rfl))); go_big_quiet_on; (try simp only [Act.put, List.setIfInBounds_toArray, List.set_cons_zero, List.set_cons_succ])))
      (first | go_big_quiet_skip | (go_big_quiet_want; refine quiet_val (v := ?_) ?_ ?_; rotate_left 1; (· (intro Wq hWq; obtain ⟨hWc, hWf⟩ := bcell hWq; go_simp; (try with_reducible rfl))); go_big_quiet_on; (try simp only [Act.put, List.setIfInBounds_toArray, List.set_cons_zero, List.set_cons_succ])))
      (first | go_big_quiet_skip | (go_big_quiet_want; refine quiet_val (v := ?_) ?_ ?_; rotate_left 1; (· (intro Wq hWq; obtain ⟨hWc, hWf⟩ := bcell hWq; go_simp; (try with_reducible rfl))); go_big_quiet_on; (try simp only [Act.put, List.setIfInBounds_toArray, List.set_cons_zero, List.set_cons_succ])))
      (first | go_big_quiet_skip | (go_big_quiet_want; refine quiet_val (v := ?_) ?_ ?_; rotate_left 1; (· (intro Wq hWq; obtain ⟨hWc, hWf⟩ := bcell hWq; go_simp; (try with_reducible rfl))); go_big_quiet_on; (try simp only [Act.put, List.setIfInBounds_toArray, List.set_cons_zero, List.set_cons_succ])))
      (first | go_big_quiet_skip | (go_big_quiet_want; refine quiet_val (v := ?_) ?_ ?_; rotate_left 1; (· (intro Wq hWq; obtain ⟨hWc, hWf⟩ := bcell hWq; go_simp; (try with_reducible rfl))); go_big_quiet_on; (try simp only [Act.put, List.setIfInBounds_toArray, List.set_cons_zero, List.set_cons_succ])))
      (first | go_big_quiet_skip | (go_big_quiet_want; refine quiet_val (v := ?_) ?_ ?_; rotate_left 1; (· (intro Wq hWq; obtain ⟨hWc, hWf⟩ := bcell hWq; go_simp; (try with_reducible rfl))); go_big_quiet_on; (try simp only [Act.put, List.setIfInBounds_toArray, List.set_cons_zero, List.set_cons_succ])))
      (first | go_big_quiet_skip | (go_big_quiet_want; refine quiet_val (v := ?_) ?_ ?_; rotate_left 1; (· (intro Wq hWq; obtain ⟨hWc, hWf⟩ := bcell hWq; go_simp; (try with_reducible rfl))); go_big_quiet_on; (try simp only [Act.put, List.setIfInBounds_toArray, List.set_cons_zero, List.set_cons_succ])))
      (first | go_big_quiet_skip | (go_big_quiet_want; refine quiet_val (v := ?_) ?_ ?_; rotate_left 1; (· (intro Wq hWq; obtain ⟨hWc, hWf⟩ := bcell hWq; go_simp; (try with_reducible rfl))); go_big_quiet_on; (try simp only [Act.put, List.setIfInBounds_toArray, List.set_cons_zero, List.set_cons_succ])))
      intro V hV
      have KV : KT K W V := hkt.step hV
      have f1 : V.cell? ⟨b1, 0, none⟩ = some (.int .i64 ap) := keep_cell hV d1
      have f2 : V.cell? ⟨b2, 0, none⟩ = some (.slice (some ⟨b, off, none⟩) l.length cap) := keep_cell hV d2
      have v1 : b1 < V.heap.size := cell?_lt f1
      have v2 : b2 < V.heap.size := cell?_lt f2
      obtain ⟨fn, tmps, assign, body, hy, hR⟩ := HY.out pre (x - y) V (HJ.out _ _ _ hj hV) ⟨difF l ap g (k + ap), by rw [HS2.out]; simp⟩
      (try dsimp only at hy)
      have HR := Lib.hid hR
      clear hR
      gi_wp2
      refine HR.out.mono ?_
      rintro e W3 (⟨rfl, hJ3, hk3⟩ | ⟨rfl, hJx3⟩)
      · have g1 : W3.cell? ⟨b1, 0, none⟩ = some (.int .i64 ap) := (World.cell?_of_block (a := ⟨b1, 0, none⟩) (hk3.block b1 v1 hK1)).trans f1
        have g2 : W3.cell? ⟨b2, 0, none⟩ = some (.slice (some ⟨b, off, none⟩) l.length cap) := (World.cell?_of_block (a := ⟨b2, 0, none⟩) (hk3.block b2 v2 hK2)).trans f2
        gi_wp2
        go_roundw
        case rel => exact ⟨pre ++ [x - y], k + ap, g, rfl, by omega, by omega, g1, g2, KV.trans hk3, by omega, by rw [HS2.out]; simp, hJ3⟩
        case measure => simp [intOf]; omega
      · gi_wp2
        refine bodyPost_ret (results_none rfl _ _ _) rfl ?_
        exact ⟨⟨_, rfl⟩, .inr ⟨_, ⟨difF l ap g (k + ap), by rw [HS2.out]; simp⟩, hJx3⟩⟩
    · have hd : decide ((k : Int) < (l.length : Int)) = false := decide_eq_false (by omega)
      have he := difF_end (ap := ap) (f := f) (show l.length ≤ k by omega)
      rw [he, List.append_nil] at HS
      gi_wp2
      go_end0
      exact ⟨⟨_, rfl⟩, .inl ⟨pre, HS.out.symm, hj⟩⟩
end Go.Proofs.Ytagbokhmcidokaa
