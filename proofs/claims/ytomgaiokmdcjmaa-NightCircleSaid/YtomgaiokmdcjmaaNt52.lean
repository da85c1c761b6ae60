/-
  slices.Backward and slices.Clone of numbers. No conditions.
-/
import Derived.Test.YtomgaiokmdcjmaaRgC
import Derived.Test.YtomgaiokmdcjmaaNt36
namespace Go.Proofs.Ytomgaiokmdcjmaa
open Go.RowKit Go.Shelf
attribute [local go_sem] Oper.semAt_some
set_option linter.unusedVariables false
set_option linter.unusedSimpArgs false
/-- What Backward hands on. -/
def bkw (l : List Int) : Nat → List (Nat × Int)
  | 0 => []
  | k + 1 => (k, l.getD k 0) :: bkw l k
theorem bkw_len (l : List Int) : ∀ k, (bkw l k).length = k
  | 0 => rfl
  | k + 1 => by rw [bkw, List.length_cons, bkw_len l k]
theorem bkw_snd (l : List Int) : ∀ k, k ≤ l.length → (bkw l k).map Prod.snd = (l.take k).reverse
  | 0, _ => by simp [bkw]
  | k + 1, h => by
    rw [bkw, List.map_cons, bkw_snd l k (by omega), List.take_add_one, List.reverse_append, List.getElem?_eq_getElem (by omega)]
    simp [List.getD_eq_getElem?_getD, List.getElem?_eq_getElem (show k < l.length by omega)]
theorem bkw_mem {l : List Int} {n : Nat} (hn : n ≤ l.length) {p : Nat × Int} (h : p ∈ bkw l n) : p.2 ∈ l := by
  have : p.2 ∈ (bkw l n).map Prod.snd := List.mem_map_of_mem h
  rw [bkw_snd l n hn, List.mem_reverse] at this
  exact List.mem_of_mem_take this
theorem Backward_c (A : Option Addr) (n cap : Nat) (w : World) : Calls Try.prog 95 #[.slice A n cap] w fun e w' => e = .returned (.func (.func 116) #[] #[.pointer (some ⟨w.heap.size, 0, none⟩)]) ∧ w' = w.alloc (.cells #[.slice A n cap] 26) := by
  go_enter Try.func95, Try.ntmps95
  go_wp2
  go_ret
  exact ⟨rfl, rfl⟩
set_option maxHeartbeats 1000000 in
theorem Backward_stops (l : List Int) (n : Nat) (hn : l.length = n) (hl : n ≤ 1000000) (A : Option Addr) (cap : Nat) (lo hi bl : Nat) (w : World) (hbl' : bl < w.heap.size) (hbk : bl < lo ∨ hi ≤ bl) (hAk : ∀ b off, A = some ⟨b, off, none⟩ → b < lo ∨ hi ≤ b) (cl : w.cell? ⟨bl, 0, none⟩ = some (.slice A n cap)) (hr : RdL w w.heap.size inE 1 A l) :
    SeqC Try.prog 116 #[.pointer (some ⟨bl, 0, none⟩)] (fun p : Nat × Int => #[.int .i64 p.1, .int .i64 p.2]) (fun xs => xs = bkw l n) (fun pre => pre <+: bkw l n) n lo hi w := by
  intro nn l0 J Jx W hW hJ hJx hY hj0
  refine callsIn_of_wp Try.func116 rfl trivial ?_ rfl
  simp only [Try.ntmps116, List.size_toArray, List.length_cons, List.length_nil, Nat.reduceAdd, Nat.reduceSub, Array.replicate_succ, Array.replicate_zero, List.push_toArray, List.append_toArray, List.nil_append, List.cons_append]
  have hsW := hW.size
  have HC : Hid (∀ X, KC lo hi W.heap.size W X → X.cell? ⟨bl, 0, none⟩ = some (.slice A n cap)) := Lib.hid (fun X hX => (World.cell?_of_block (a := ⟨bl, 0, none⟩) (hX.block bl (by omega) hbk)).trans ((hW.cell (p := ⟨bl, 0, none⟩) hbl').trans cl))
  have HE : Hid (∀ X, KC lo hi W.heap.size W X → ∀ j, j < n → ∃ b off, A = some ⟨b, off, none⟩ ∧ b < w.heap.size ∧ X.cell? ⟨b, off + j, none⟩ = some (.int .i64 (l.getD j 0))) := Lib.hid (fun X hX j hj => by
    obtain ⟨b, off, e, hlt, hc⟩ := hr (by omega)
    have hj' : j < l.length := by omega
    have := hc j hj' 0 (.int .i64 (l.getD j 0)) (by rw [List.getD_eq_getElem?_getD, List.getElem?_eq_getElem hj']; rfl)
    rw [Nat.mul_one, Nat.add_zero] at this
    exact ⟨b, off, e, hlt, (World.cell?_of_block (a := ⟨b, _, none⟩) (hX.block b (by omega) (hAk b off e))).trans ((hW.cell (p := ⟨b, _, none⟩) hlt).trans this)⟩)
  have k0 := HC.out W (KC.refl _ _ _ _)
  have v0 : IntKind.i64.wrap ((n : Int) - 1) = (n : Int) - 1 := IntWalk.i64_in _ (by omega)
  clear cl hr hn hbk hAk
  gi_wp2
  gi_loopw [3] (fun i wr => ∃ (k : Nat) (pre : List (Nat × Int)), k ≤ n ∧ i = .int .i64 ((k : Int) - 1) ∧ pre.length = n - k ∧ J pre wr ∧ bkw l n = pre ++ bkw l k ∧ KC lo hi W.heap.size W wr) (fun i _ => (intOf i + 1).toNat)
  case atStart => exact ⟨n, [], Nat.le_refl _, rfl, by simp, hj0, rfl, KC.refl _ _ _ _⟩
  case round =>
    obtain ⟨k, pre, hk, rfl, hp, hj, hst, hkc⟩ := hrel
    have HS := Lib.hid hst
    have HK := Lib.hid hkc
    clear hst hkc k0
    cases k with
    | succ k =>
      obtain ⟨b, off, rfl, hb0, c1⟩ := HE.out wr HK.out k (by omega)
      have c0 := HC.out wr HK.out
      have e0 : (((k + 1 : Nat) : Int) - 1) = (k : Int) := by omega
      have d1 : decide ((k : Int) ≥ 0) = true := decide_eq_true (by omega)
      have z1 : (k : Int) < (n : Int) := by omega
      have v1 : IntKind.i64.wrap ((k : Int) - 1) = (k : Int) - 1 := IntWalk.i64_in _ (by omega)
      rw [e0]
      have yb : b < wr.heap.size := cell?_lt c1
      have yl : bl < wr.heap.size := cell?_lt c0
      obtain ⟨fn, tmps, assign, body, hy, hR⟩ := hY pre (k, l.getD k 0) _ hj (by omega) ⟨bkw l k, by rw [HS.out, bkw]; simp⟩
      dsimp only at hy
      generalize hx : l.getD k 0 = x at *
      have HX := Lib.hid hx
      clear hx
      gi_wp2
      refine hR.mono ?_
      rintro e W3 (⟨rfl, hJ3, hk3⟩ | ⟨rfl, hJx3⟩)
      · gi_wp2
        go_roundw
        case rel => exact ⟨k, pre ++ [(k, x)], by omega, rfl, by rw [List.length_append, List.length_cons, List.length_nil]; omega, hJ3, by rw [HS.out, bkw, HX.out]; simp, HK.out.trans hk3⟩
        case measure => simp [intOf]
      · gi_wp2
        refine bodyPost_ret (results_none rfl _ _ _) rfl ?_
        exact ⟨⟨_, rfl⟩, .inr ⟨_, ⟨bkw l k, by rw [HS.out, bkw, HX.out]; simp⟩, hJx3⟩⟩
    | zero =>
      have d1 : decide (((0 : Nat) : Int) - 1 ≥ 0) = false := decide_eq_false (by omega)
      gi_wp2
      go_end0
      exact ⟨⟨_, rfl⟩, .inl ⟨pre, by rw [HS.out]; simp [bkw], hj⟩⟩
end Go.Proofs.Ytomgaiokmdcjmaa
