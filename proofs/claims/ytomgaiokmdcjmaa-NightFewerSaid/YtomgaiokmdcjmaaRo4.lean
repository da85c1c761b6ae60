/-
  next, as an iterator. No conditions.
-/
import Derived.Test.YtomgaiokmdcjmaaRo3
import Derived.Test.YtomgaiokmdcjmaaRange2
import Derived.Test.YtomgaiokmdcjmaaQt
import Derived.Sort.CutIn
namespace Go.Proofs.Ytomgaiokmdcjmaa
open Go.RowKit Go.Deep Go.Shelf
set_option linter.unusedVariables false
set_option linter.unusedSimpArgs false
set_option maxRecDepth 100000 in
theorem and_one (k : Nat) (hk : k < 256) : bits .and .i64 (k : Int) 1 = ((k % 2 : Nat) : Int) := by
  have h : ∀ k : Fin 256, bits .and .i64 ((k.val : Nat) : Int) 1 = ((k.val % 2 : Nat) : Int) := by decide
  exact h ⟨k, hk⟩
theorem next_c (A : Option Addr) (N cap o m n l : Nat) (f : Nat → Nat) (w : World) :
    Calls Try.prog 90 #[.agg #[.slice A N cap, .int .i64 o, .int .i64 m], .agg #[.int .i64 n, .int .i64 l, .int .i64 (f 0), .int .i64 (f 1), .int .i64 (f 2), .int .i64 (f 3), .int .i64 (f 4), .int .i64 (f 5), .int .i64 (f 6), .int .i64 (f 7)]] w fun e w' => e = .returned (.func (.func 114) #[] #[.pointer (some ⟨w.heap.size, 0, none⟩), .pointer (some ⟨w.heap.size + 1, 0, none⟩)]) ∧ w' = (w.alloc (.cells #[.slice A N cap, .int .i64 o, .int .i64 m] 80)).alloc (.cells #[.int .i64 n, .int .i64 l, .int .i64 (f 0), .int .i64 (f 1), .int .i64 (f 2), .int .i64 (f 3), .int .i64 (f 4), .int .i64 (f 5), .int .i64 (f 6), .int .i64 (f 7)] 84) := by
  go_enter Try.func90, Try.ntmps90
  go_wp2
  go_ret
  exact ⟨rfl, rfl⟩
/-- What the iterator hands on. -/
def nxL (K : Crw) (n l : Nat) (f : Nat → Nat) (k : Nat) : List Nat := (List.range k).filter (K.may n l f)
theorem nxL_succ (K : Crw) (n l : Nat) (f : Nat → Nat) (k : Nat) : nxL K n l f (k + 1) = nxL K n l f k ++ (if K.may n l f k then [k] else []) := by
  unfold nxL; rw [List.range_succ, List.filter_append]
  congr 1
  by_cases h : K.may n l f k = true
  · rw [List.filter_cons_of_pos h, if_pos h]; rfl
  · rw [List.filter_cons_of_neg h, if_neg h]; rfl
theorem nxL_len (K : Crw) (n l : Nat) (f : Nat → Nat) (k : Nat) : (nxL K n l f k).length ≤ k := by
  have := List.length_filter_le (K.may n l f) (List.range k)
  rwa [List.length_range] at this
theorem nxL_pre (K : Crw) (n l : Nat) (f : Nat → Nat) {k m : Nat} (h : k ≤ m) : nxL K n l f k <+: nxL K n l f m := by
  induction m with
  | zero => obtain rfl : k = 0 := by omega
            exact List.prefix_refl _
  | succ m ih =>
    rcases Nat.lt_or_ge m k with h1 | h1
    · obtain rfl : k = m + 1 := by omega
      exact List.prefix_refl _
    · rw [nxL_succ]; exact (ih h1).trans (List.prefix_append _ _)
set_option maxHeartbeats 4000000 in
set_option maxRecDepth 100000 in
theorem next_stops (K : Crw) (N : Nat) (hN : K.can.length = N) (hN2 : N ≤ 12) (ho1 : K.obs ≤ 8) (hm : K.most ≤ 12) (hcb : ∀ x ∈ K.can, x < 256) (A : Option Addr) (cap n l : Nat) (f : Nat → Nat) (hn : n < N) (hf : ∀ j, j < 8 → f j ≤ 20)
    (Kp : Nat → Prop) (bc bs : Nat) (hbc : Kp bc) (hbs : Kp bs) (w : World) (hA : RdL w w.heap.size inE 1 A (K.can.map Int.ofNat)) (hAk : ∀ b off, A = some ⟨b, off, none⟩ → Kp b)
    (c0 : w.cell? ⟨bc, 0, none⟩ = some (.slice A N cap)) (c1 : w.cell? ⟨bc, 1, none⟩ = some (.int .i64 K.obs)) (c2 : w.cell? ⟨bc, 2, none⟩ = some (.int .i64 K.most)) (hs : StA w bs n l f) :
    SeqT Try.prog 114 #[.pointer (some ⟨bc, 0, none⟩), .pointer (some ⟨bs, 0, none⟩)] (fun o : Nat => #[.int .i64 o, .agg #[.int .i64 ((n + 1 : Nat)), .int .i64 o, .int .i64 (K.nx n f o 0), .int .i64 (K.nx n f o 1), .int .i64 (K.nx n f o 2), .int .i64 (K.nx n f o 3), .int .i64 (K.nx n f o 4), .int .i64 (K.nx n f o 5), .int .i64 (K.nx n f o 6), .int .i64 (K.nx n f o 7)]])
      (fun xs => xs = nxL K n l f K.obs) (fun pre => pre <+: nxL K n l f K.obs) (fun o => o < K.obs ∧ K.may n l f o = true) 8 Kp w := by
  intro nn l0 J Jx W hW hJ hJx hY hj0
  have HC : Hid (∀ X, KT Kp W X → X.cell? ⟨bc, 0, none⟩ = some (.slice A N cap) ∧ X.cell? ⟨bc, 1, none⟩ = some (.int .i64 K.obs) ∧ X.cell? ⟨bc, 2, none⟩ = some (.int .i64 K.most)) := Lib.hid (fun X hX => by
    have hlt : bc < w.heap.size := cell?_lt c0
    have e := (hX.block bc (by have := hW.size; omega) hbc).trans (hW.block bc hlt)
    exact ⟨(World.cell?_of_block (a := ⟨bc, 0, none⟩) e).trans c0, (World.cell?_of_block (a := ⟨bc, 1, none⟩) e).trans c1, (World.cell?_of_block (a := ⟨bc, 2, none⟩) e).trans c2⟩)
  have HSt : Hid (∀ X, KT Kp W X → StA X bs n l f) := Lib.hid (fun X hX => hs.of_block ((hX.block bs (by have := hW.size; have := hs.lt; omega) hbs).trans (hW.block bs hs.lt)))
  have HE : Hid (∀ X, KT Kp W X → ∃ b off, A = some ⟨b, off, none⟩ ∧ X.cell? ⟨b, off + n, none⟩ = some (.int .i64 (K.can.getD n 0 : Nat))) := Lib.hid (fun X hX => by
    have hnl : n < (K.can.map Int.ofNat).length := by rw [List.length_map]; omega
    obtain ⟨b, off, e, hlt, hc⟩ := hA (by omega)
    have hx : (K.can.map Int.ofNat)[n] = Int.ofNat (K.can.getD n 0) := by rw [List.getElem_map, List.getD_eq_getElem?_getD, List.getElem?_eq_getElem (by rw [hN]; exact hn)]; rfl
    have := hc n hnl 0 (.int .i64 (K.can.getD n 0 : Nat)) (by rw [hx]; rfl)
    rw [Nat.mul_one, Nat.add_zero] at this
    have e2 := (hX.block b (by have := hW.size; omega) (hAk b off e)).trans (hW.block b hlt)
    exact ⟨b, off, e, (World.cell?_of_block (a := ⟨b, _, none⟩) e2).trans this⟩)
  have hx256 : K.can.getD n 0 < 256 := by
    rw [List.getD_eq_getElem?_getD, List.getElem?_eq_getElem (by rw [hN]; exact hn)]
    exact hcb _ (List.getElem_mem _)
  have HMAY : Hid (∀ o, K.may n l f o = (bitB (K.can.getD n 0) o && (decide (o ≠ l) && decide (f o ≠ K.most)))) := Lib.hid (fun o => rfl)
  have HF := Lib.hid hf
  have HY := Lib.hid hY
  have HSU := Lib.hid (nxL_succ K n l f)
  have HLE := Lib.hid (nxL_len K n l f)
  have HPR := Lib.hid (fun (k m : Nat) (h : k ≤ m) => nxL_pre K n l f h)
  have HNX : Hid (∀ o, K.nx n f o = freeF N (n + 1) K.most (incF f o)) := Lib.hid (fun o => by unfold Crw.nx; rw [hN])
  obtain ⟨ob, hob⟩ : ∃ ob, ob = K.obs := ⟨_, rfl⟩
  obtain ⟨ms, hms⟩ : ∃ ms, ms = K.most := ⟨_, rfl⟩
  rw [← hob] at ho1
  rw [← hms] at hm
  have HOB := Lib.hid hob
  have HMS := Lib.hid hms
  rw [← hob] at HC
  rw [← hms] at HC
  clear hA hAk c0 c1 c2 hs hf hcb hY hN hob hms
  refine callsIn_of_wp Try.func114 rfl trivial ?_ rfl
  simp only [Try.ntmps114, List.size_toArray, List.length_cons, List.length_nil, Nat.reduceAdd, Nat.reduceSub, Array.replicate_succ, Array.replicate_zero, List.push_toArray, List.append_toArray, List.nil_append, List.cons_append]
  obtain ⟨k0, k1, k2⟩ := HC.out W (KT.refl _ _)
  gi_wp2
  gi_loopw [8] (fun i wr => ∃ k : Nat, k ≤ ob ∧ i = .int .i64 k ∧ J (nxL K n l f k) wr ∧ KT Kp W wr) (fun i _ => ob - (intOf i).toNat)
  case atStart => exact ⟨0, Nat.zero_le _, rfl, hj0, KT.refl _ _⟩
  case round =>
    rename World => U
    obtain ⟨k, hk, rfl, hj, hkt⟩ := hrel
    have HJ := Lib.hid hj
    have HK := Lib.hid hkt
    clear hj hkt k0 k1 k2
    by_cases hlt : k < ob
    case neg =>
      obtain rfl : ob = k := by omega
      have v1 : decide ((ob : Int) < (ob : Int)) = false := decide_eq_false (by omega)
      gi_wp2
      go_end0
      exact ⟨⟨_, rfl⟩, .inl ⟨_, rfl, by rw [← HOB.out]; exact HJ.out⟩⟩
    have v1 : decide ((k : Int) < (ob : Int)) = true := decide_eq_true (by omega)
    have v3 : IntKind.i64.wrap ((k : Int) + 1) = (k : Int) + 1 := IntWalk.i64_in _ (by omega)
    have k8 : k < 8 := by omega
    have k8i : (k : Int) < 8 := by omega
    obtain ⟨k0, k1, k2⟩ := HC.out U HK.out
    have hst := HSt.out U HK.out
    obtain ⟨b, off, rfl, hcx⟩ := HE.out U HK.out
    have c0 := hst.c0
    have c1 := hst.c1
    have ck := hst.cs k k8
    have yc : bc < U.heap.size := cell?_lt k0
    have ys : bs < U.heap.size := cell?_lt c0
    have yb : b < U.heap.size := cell?_lt hcx
    have z1 : (n : Int) < (N : Int) := by omega
    generalize hxx : K.can.getD n 0 = x at *
    obtain ⟨y, hy⟩ : ∃ y, y = x / 2 ^ k := ⟨_, rfl⟩
    have hsh : (x : Int) / 2 ^ k = (y : Int) := by rw [hy]; simp
    have hand := and_one y (by rw [hy]; exact Nat.lt_of_le_of_lt (Nat.div_le_self _ _) hx256)
    have HM := Lib.hid (HMAY.out k)
    have HBI : Hid (bitB x k = decide (y % 2 = 1)) := Lib.hid (by unfold bitB; rw [hy])
    clear hst hy hxx
    rcases Nat.mod_two_eq_zero_or_one y with h2 | h2
    case inl =>
      have hand0 : bits .and .i64 (y : Int) 1 = 0 := by rw [hand, h2]; rfl
      have hmy : K.may n l f k = false := by rw [HM.out, HBI.out, h2]; rfl
      have HN2 : Hid (nxL K n l f (k + 1) = nxL K n l f k) := Lib.hid (by rw [HSU.out, hmy]; simp)
      clear h2 HM HBI hmy hand
      gi_wp2_with fail
      refine wpIn_wide.2 ?_
      refine region_below (by kernel_rfl) (by kernel_rfl) ?_
      (first | go_big_quiet_skip | (go_big_quiet_want; refine quiet_val (v := ?_) ?_ ?_; rotate_left 1; (· (intro Wq hWq; obtain ⟨hWc, hWf⟩ := bcell hWq; go_simp; (try with_reducible rfl))); go_big_quiet_on; (try simp only [Act.put, List.setIfInBounds_toArray, List.set_cons_zero, List.set_cons_succ])))
      (first | go_big_quiet_skip | (go_big_quiet_want; refine quiet_val (v := ?_) ?_ ?_; rotate_left 1; (· (intro Wq hWq; obtain ⟨hWc, hWf⟩ := bcell hWq; go_simp; (try with_reducible rfl))); go_big_quiet_on; (try simp only [Act.put, List.setIfInBounds_toArray, List.set_cons_zero, List.set_cons_succ])))
      (first | go_big_quiet_skip | (go_big_quiet_want; refine quiet_val (v := ?_) ?_ ?_; rotate_left 1; (· (intro Wq hWq; obtain ⟨hWc, hWf⟩ := bcell hWq; go_simp; (try with_reducible rfl))); go_big_quiet_on; (try simp only [Act.put, List.setIfInBounds_toArray, List.set_cons_zero, List.set_cons_succ])))
      (first | go_big_quiet_skip | (go_big_quiet_want; refine quiet_val (v := ?_) ?_ ?_; rotate_left 1; (· (intro Wq hWq; obtain ⟨hWc, hWf⟩ := bcell hWq; go_simp; (try with_reducible rfl))); go_big_quiet_on; (try simp only [Act.put, List.setIfInBounds_toArray, List.set_cons_zero, List.set_cons_succ])))
      (first | go_big_quiet_skip | (go_big_quiet_want; refine quiet_val (v := ?_) ?_ ?_; rotate_left 1; (· (intro Wq hWq; obtain ⟨hWc, hWf⟩ := bcell hWq; go_simp; (try with_reducible rfl))); go_big_quiet_on; (try simp only [Act.put, List.setIfInBounds_toArray, List.set_cons_zero, List.set_cons_succ])))
      (first | go_big_quiet_skip | (go_big_quiet_want; refine quiet_val (v := ?_) ?_ ?_; rotate_left 1; (· (intro Wq hWq; obtain ⟨hWc, hWf⟩ := bcell hWq; go_simp; (try with_reducible rfl))); go_big_quiet_on; (try simp only [Act.put, List.setIfInBounds_toArray, List.set_cons_zero, List.set_cons_succ])))
      (first | go_big_quiet_skip | (go_big_quiet_want; refine quiet_val (v := ?_) ?_ ?_; rotate_left 1; (· (intro Wq hWq; obtain ⟨hWc, hWf⟩ := bcell hWq; go_simp; (try with_reducible rfl))); go_big_quiet_on; (try simp only [Act.put, List.setIfInBounds_toArray, List.set_cons_zero, List.set_cons_succ])))
      (first | go_big_quiet_skip | (go_big_quiet_want; refine quiet_val (v := ?_) ?_ ?_; rotate_left 1; (· (intro Wq hWq; obtain ⟨hWc, hWf⟩ := bcell hWq; go_simp; (try with_reducible rfl))); go_big_quiet_on; (try simp only [Act.put, List.setIfInBounds_toArray, List.set_cons_zero, List.set_cons_succ])))
      (first | go_big_quiet_skip | (go_big_quiet_want; refine quiet_val (v := ?_) ?_ ?_; rotate_left 1; (· (intro Wq hWq; obtain ⟨hWc, hWf⟩ := bcell hWq; go_simp; (try with_reducible rfl))); go_big_quiet_on; (try simp only [Act.put, List.setIfInBounds_toArray, List.set_cons_zero, List.set_cons_succ])))
      (first | go_big_quiet_skip | (go_big_quiet_want; refine quiet_val (v := ?_) ?_ ?_; rotate_left 1; (· (intro Wq hWq; obtain ⟨hWc, hWf⟩ := bcell hWq; go_simp; (try with_reducible rfl))); go_big_quiet_on; (try simp only [Act.put, List.setIfInBounds_toArray, List.set_cons_zero, List.set_cons_succ])))
      (first | go_big_quiet_skip | (go_big_quiet_want; refine quiet_val (v := ?_) ?_ ?_; rotate_left 1; (· (intro Wq hWq; obtain ⟨hWc, hWf⟩ := bcell hWq; go_simp; (try with_reducible rfl))); go_big_quiet_on; (try simp only [Act.put, List.setIfInBounds_toArray, List.set_cons_zero, List.set_cons_succ])))
      (first | go_big_quiet_skip | (go_big_quiet_want; refine quiet_val (v := ?_) ?_ ?_; rotate_left 1; (· (intro Wq hWq; obtain ⟨hWc, hWf⟩ := bcell hWq; go_simp; (try with_reducible rfl))); go_big_quiet_on; (try simp only [Act.put, List.setIfInBounds_toArray, List.set_cons_zero, List.set_cons_succ])))
      (first | go_big_quiet_skip | (go_big_quiet_want; refine quiet_val (v := ?_) ?_ ?_; rotate_left 1; (· (intro Wq hWq; obtain ⟨hWc, hWf⟩ := bcell hWq; go_simp; (try with_reducible rfl))); go_big_quiet_on; (try simp only [Act.put, List.setIfInBounds_toArray, List.set_cons_zero, List.set_cons_succ])))
      (first | go_big_quiet_skip | (go_big_quiet_want; refine quiet_val (v := ?_) ?_ ?_; rotate_left 1; (· (intro Wq hWq; obtain ⟨hWc, hWf⟩ := bcell hWq; go_simp; (try with_reducible rfl))); go_big_quiet_on; (try simp only [Act.put, List.setIfInBounds_toArray, List.set_cons_zero, List.set_cons_succ])))
      (first | go_big_quiet_skip | (go_big_quiet_want; refine quiet_val (v := ?_) ?_ ?_; rotate_left 1; (· (intro Wq hWq; obtain ⟨hWc, hWf⟩ := bcell hWq; go_simp; (try with_reducible rfl))); go_big_quiet_on; (try simp only [Act.put, List.setIfInBounds_toArray, List.set_cons_zero, List.set_cons_succ])))
      (first | go_big_quiet_skip | (go_big_quiet_want; refine quiet_val (v := ?_) ?_ ?_; rotate_left 1; (· (intro Wq hWq; obtain ⟨hWc, hWf⟩ := bcell hWq; go_simp; (try with_reducible rfl))); go_big_quiet_on; (try simp only [Act.put, List.setIfInBounds_toArray, List.set_cons_zero, List.set_cons_succ])))
      (first | go_big_quiet_skip | (go_big_quiet_want; refine quiet_val (v := ?_) ?_ ?_; rotate_left 1; (· (intro Wq hWq; obtain ⟨hWc, hWf⟩ := bcell hWq; go_simp; (try with_reducible rfl))); go_big_quiet_on; (try simp only [Act.put, List.setIfInBounds_toArray, List.set_cons_zero, List.set_cons_succ])))
      (first | go_big_quiet_skip | (go_big_quiet_want; refine quiet_val (v := ?_) ?_ ?_; rotate_left 1; (· (intro Wq hWq; obtain ⟨hWc, hWf⟩ := bcell hWq; go_simp; (try with_reducible rfl))); go_big_quiet_on; (try simp only [Act.put, List.setIfInBounds_toArray, List.set_cons_zero, List.set_cons_succ])))
      (first | go_big_quiet_skip | (go_big_quiet_want; refine quiet_val (v := ?_) ?_ ?_; rotate_left 1; (· (intro Wq hWq; obtain ⟨hWc, hWf⟩ := bcell hWq; go_simp; (try with_reducible rfl))); go_big_quiet_on; (try simp only [Act.put, List.setIfInBounds_toArray, List.set_cons_zero, List.set_cons_succ])))
      (first | go_big_quiet_skip | (go_big_quiet_want; refine quiet_val (v := ?_) ?_ ?_; rotate_left 1; (· (intro Wq hWq; obtain ⟨hWc, hWf⟩ := bcell hWq; go_simp; (try with_reducible rfl))); go_big_quiet_on; (try simp only [Act.put, List.setIfInBounds_toArray, List.set_cons_zero, List.set_cons_succ])))
      (first | go_big_quiet_skip | (go_big_quiet_want; refine quiet_val (v := ?_) ?_ ?_; rotate_left 1; (· (intro Wq hWq; obtain ⟨hWc, hWf⟩ := bcell hWq; go_simp; (try with_reducible rfl))); go_big_quiet_on; (try simp only [Act.put, List.setIfInBounds_toArray, List.set_cons_zero, List.set_cons_succ])))
      (first | go_big_quiet_skip | (go_big_quiet_want; refine quiet_val (v := ?_) ?_ ?_; rotate_left 1; (· (intro Wq hWq; obtain ⟨hWc, hWf⟩ := bcell hWq; go_simp; (try with_reducible rfl))); go_big_quiet_on; (try simp only [Act.put, List.setIfInBounds_toArray, List.set_cons_zero, List.set_cons_succ])))
      (first | go_big_quiet_skip | (go_big_quiet_want; refine quiet_val (v := ?_) ?_ ?_; rotate_left 1; (· (intro Wq hWq; obtain ⟨hWc, hWf⟩ := bcell hWq; go_simp; (try with_reducible rfl))); go_big_quiet_on; (try simp only [Act.put, List.setIfInBounds_toArray, List.set_cons_zero, List.set_cons_succ])))
      (first | go_big_quiet_skip | (go_big_quiet_want; refine quiet_val (v := ?_) ?_ ?_; rotate_left 1; (· (intro Wq hWq; obtain ⟨hWc, hWf⟩ := bcell hWq; go_simp; (try with_reducible rfl))); go_big_quiet_on; (try simp only [Act.put, List.setIfInBounds_toArray, List.set_cons_zero, List.set_cons_succ])))
      (first | go_big_quiet_skip | (go_big_quiet_want; refine quiet_val (v := ?_) ?_ ?_; rotate_left 1; (· (intro Wq hWq; obtain ⟨hWc, hWf⟩ := bcell hWq; go_simp; (try with_reducible rfl))); go_big_quiet_on; (try simp only [Act.put, List.setIfInBounds_toArray, List.set_cons_zero, List.set_cons_succ])))
      refine wpQuiet_nil ?_; intro W1 hb1
      gi_wp2
      go_roundw
      case rel => exact ⟨k + 1, by omega, by go_num, by rw [HN2.out]; exact hJ _ _ _ HJ.out hb1, HK.out.step hb1⟩
      case measure => simp [intOf]; omega
    have hand1 : bits .and .i64 (y : Int) 1 = 1 := by rw [hand, h2]; rfl
    have hbk : bitB x k = true := by rw [HBI.out, h2]; rfl
    rw [hbk] at HM
    clear h2 HBI hand hbk
    by_cases hkl : k = l
    case pos =>
      have g2 : ((k : Int) == (l : Int)) = true := by simp [hkl]
      have hmy : K.may n l f k = false := by rw [HM.out, decide_eq_false (fun h => h hkl)]; simp
      have HN2 : Hid (nxL K n l f (k + 1) = nxL K n l f k) := Lib.hid (by rw [HSU.out, hmy]; simp)
      clear HM hmy hkl
      gi_wp2_with fail
      refine wpIn_wide.2 ?_
      refine region_below (by kernel_rfl) (by kernel_rfl) ?_
      (first | go_big_quiet_skip | (go_big_quiet_want; refine quiet_val (v := ?_) ?_ ?_; rotate_left 1; (· (intro Wq hWq; obtain ⟨hWc, hWf⟩ := bcell hWq; go_simp; (try with_reducible rfl))); go_big_quiet_on; (try simp only [Act.put, List.setIfInBounds_toArray, List.set_cons_zero, List.set_cons_succ])))
      (first | go_big_quiet_skip | (go_big_quiet_want; refine quiet_val (v := ?_) ?_ ?_; rotate_left 1; (· (intro Wq hWq; obtain ⟨hWc, hWf⟩ := bcell hWq; go_simp; (try with_reducible rfl))); go_big_quiet_on; (try simp only [Act.put, List.setIfInBounds_toArray, List.set_cons_zero, List.set_cons_succ])))
      (first | go_big_quiet_skip | (go_big_quiet_want; refine quiet_val (v := ?_) ?_ ?_; rotate_left 1; (· (intro Wq hWq; obtain ⟨hWc, hWf⟩ := bcell hWq; go_simp; (try with_reducible rfl))); go_big_quiet_on; (try simp only [Act.put, List.setIfInBounds_toArray, List.set_cons_zero, List.set_cons_succ])))
      (first | go_big_quiet_skip | (go_big_quiet_want; refine quiet_val (v := ?_) ?_ ?_; rotate_left 1; (· (intro Wq hWq; obtain ⟨hWc, hWf⟩ := bcell hWq; go_simp; (try with_reducible rfl))); go_big_quiet_on; (try simp only [Act.put, List.setIfInBounds_toArray, List.set_cons_zero, List.set_cons_succ])))
      (first | go_big_quiet_skip | (go_big_quiet_want; refine quiet_val (v := ?_) ?_ ?_; rotate_left 1; (· (intro Wq hWq; obtain ⟨hWc, hWf⟩ := bcell hWq; go_simp; (try with_reducible rfl))); go_big_quiet_on; (try simp only [Act.put, List.setIfInBounds_toArray, List.set_cons_zero, List.set_cons_succ])))
      (first | go_big_quiet_skip | (go_big_quiet_want; refine quiet_val (v := ?_) ?_ ?_; rotate_left 1; (· (intro Wq hWq; obtain ⟨hWc, hWf⟩ := bcell hWq; go_simp; (try with_reducible rfl))); go_big_quiet_on; (try simp only [Act.put, List.setIfInBounds_toArray, List.set_cons_zero, List.set_cons_succ])))
      (first | go_big_quiet_skip | (go_big_quiet_want; refine quiet_val (v := ?_) ?_ ?_; rotate_left 1; (· (intro Wq hWq; obtain ⟨hWc, hWf⟩ := bcell hWq; go_simp; (try with_reducible rfl))); go_big_quiet_on; (try simp only [Act.put, List.setIfInBounds_toArray, List.set_cons_zero, List.set_cons_succ])))
      (first | go_big_quiet_skip | (go_big_quiet_want; refine quiet_val (v := ?_) ?_ ?_; rotate_left 1; (· (intro Wq hWq; obtain ⟨hWc, hWf⟩ := bcell hWq; go_simp; (try with_reducible rfl))); go_big_quiet_on; (try simp only [Act.put, List.setIfInBounds_toArray, List.set_cons_zero, List.set_cons_succ])))
      (first | go_big_quiet_skip | (go_big_quiet_want; refine quiet_val (v := ?_) ?_ ?_; rotate_left 1; (· (intro Wq hWq; obtain ⟨hWc, hWf⟩ := bcell hWq; go_simp; (try with_reducible rfl))); go_big_quiet_on; (try simp only [Act.put, List.setIfInBounds_toArray, List.set_cons_zero, List.set_cons_succ])))
      (first | go_big_quiet_skip | (go_big_quiet_want; refine quiet_val (v := ?_) ?_ ?_; rotate_left 1; (· (intro Wq hWq; obtain ⟨hWc, hWf⟩ := bcell hWq; go_simp; (try with_reducible rfl))); go_big_quiet_on; (try simp only [Act.put, List.setIfInBounds_toArray, List.set_cons_zero, List.set_cons_succ])))
      (first | go_big_quiet_skip | (go_big_quiet_want; refine quiet_val (v := ?_) ?_ ?_; rotate_left 1; (· (intro Wq hWq; obtain ⟨hWc, hWf⟩ := bcell hWq; go_simp; (try with_reducible rfl))); go_big_quiet_on; (try simp only [Act.put, List.setIfInBounds_toArray, List.set_cons_zero, List.set_cons_succ])))
      (first | go_big_quiet_skip | (go_big_quiet_want; refine quiet_val (v := ?_) ?_ ?_; rotate_left 1; (· (intro Wq hWq; obtain ⟨hWc, hWf⟩ := bcell hWq; go_simp; (try with_reducible rfl))); go_big_quiet_on; (try simp only [Act.put, List.setIfInBounds_toArray, List.set_cons_zero, List.set_cons_succ])))
      (first | go_big_quiet_skip | (go_big_quiet_want; refine quiet_val (v := ?_) ?_ ?_; rotate_left 1; (· (intro Wq hWq; obtain ⟨hWc, hWf⟩ := bcell hWq; go_simp; (try with_reducible rfl))); go_big_quiet_on; (try simp only [Act.put, List.setIfInBounds_toArray, List.set_cons_zero, List.set_cons_succ])))
      (first | go_big_quiet_skip | (go_big_quiet_want; refine quiet_val (v := ?_) ?_ ?_; rotate_left 1; (· (intro Wq hWq; obtain ⟨hWc, hWf⟩ := bcell hWq; go_simp; (try with_reducible rfl))); go_big_quiet_on; (try simp only [Act.put, List.setIfInBounds_toArray, List.set_cons_zero, List.set_cons_succ])))
      (first | go_big_quiet_skip | (go_big_quiet_want; refine quiet_val (v := ?_) ?_ ?_; rotate_left 1; (· (intro Wq hWq; obtain ⟨hWc, hWf⟩ := bcell hWq; go_simp; (try with_reducible rfl))); go_big_quiet_on; (try simp only [Act.put, List.setIfInBounds_toArray, List.set_cons_zero, List.set_cons_succ])))
      (first | go_big_quiet_skip | (go_big_quiet_want; refine quiet_val (v := ?_) ?_ ?_; rotate_left 1; (· (intro Wq hWq; obtain ⟨hWc, hWf⟩ := bcell hWq; go_simp; (try with_reducible rfl))); go_big_quiet_on; (try simp only [Act.put, List.setIfInBounds_toArray, List.set_cons_zero, List.set_cons_succ])))
      (first | go_big_quiet_skip | (go_big_quiet_want; refine quiet_val (v := ?_) ?_ ?_; rotate_left 1; (· (intro Wq hWq; obtain ⟨hWc, hWf⟩ := bcell hWq; go_simp; (try with_reducible rfl))); go_big_quiet_on; (try simp only [Act.put, List.setIfInBounds_toArray, List.set_cons_zero, List.set_cons_succ])))
      (first | go_big_quiet_skip | (go_big_quiet_want; refine quiet_val (v := ?_) ?_ ?_; rotate_left 1; (· (intro Wq hWq; obtain ⟨hWc, hWf⟩ := bcell hWq; go_simp; (try with_reducible rfl))); go_big_quiet_on; (try simp only [Act.put, List.setIfInBounds_toArray, List.set_cons_zero, List.set_cons_succ])))
      (first | go_big_quiet_skip | (go_big_quiet_want; refine quiet_val (v := ?_) ?_ ?_; rotate_left 1; (· (intro Wq hWq; obtain ⟨hWc, hWf⟩ := bcell hWq; go_simp; (try with_reducible rfl))); go_big_quiet_on; (try simp only [Act.put, List.setIfInBounds_toArray, List.set_cons_zero, List.set_cons_succ])))
      (first | go_big_quiet_skip | (go_big_quiet_want; refine quiet_val (v := ?_) ?_ ?_; rotate_left 1; (· (intro Wq hWq; obtain ⟨hWc, hWf⟩ := bcell hWq; go_simp; (try with_reducible rfl))); go_big_quiet_on; (try simp only [Act.put, List.setIfInBounds_toArray, List.set_cons_zero, List.set_cons_succ])))
      (first | go_big_quiet_skip | (go_big_quiet_want; refine quiet_val (v := ?_) ?_ ?_; rotate_left 1; (· (intro Wq hWq; obtain ⟨hWc, hWf⟩ := bcell hWq; go_simp; (try with_reducible rfl))); go_big_quiet_on; (try simp only [Act.put, List.setIfInBounds_toArray, List.set_cons_zero, List.set_cons_succ])))
      (first | go_big_quiet_skip | (go_big_quiet_want; refine quiet_val (v := ?_) ?_ ?_; rotate_left 1; (· (intro Wq hWq; obtain ⟨hWc, hWf⟩ := bcell hWq; go_simp; (try with_reducible rfl))); go_big_quiet_on; (try simp only [Act.put, List.setIfInBounds_toArray, List.set_cons_zero, List.set_cons_succ])))
      (first | go_big_quiet_skip | (go_big_quiet_want; refine quiet_val (v := ?_) ?_ ?_; rotate_left 1; (· (intro Wq hWq; obtain ⟨hWc, hWf⟩ := bcell hWq; go_simp; (try with_reducible rfl))); go_big_quiet_on; (try simp only [Act.put, List.setIfInBounds_toArray, List.set_cons_zero, List.set_cons_succ])))
      (first | go_big_quiet_skip | (go_big_quiet_want; refine quiet_val (v := ?_) ?_ ?_; rotate_left 1; (· (intro Wq hWq; obtain ⟨hWc, hWf⟩ := bcell hWq; go_simp; (try with_reducible rfl))); go_big_quiet_on; (try simp only [Act.put, List.setIfInBounds_toArray, List.set_cons_zero, List.set_cons_succ])))
      (first | go_big_quiet_skip | (go_big_quiet_want; refine quiet_val (v := ?_) ?_ ?_; rotate_left 1; (· (intro Wq hWq; obtain ⟨hWc, hWf⟩ := bcell hWq; go_simp; (try with_reducible rfl))); go_big_quiet_on; (try simp only [Act.put, List.setIfInBounds_toArray, List.set_cons_zero, List.set_cons_succ])))
      refine wpQuiet_nil ?_; intro W1 hb1
      gi_wp2
      go_roundw
      case rel => exact ⟨k + 1, by omega, by go_num, by rw [HN2.out]; exact hJ _ _ _ HJ.out hb1, HK.out.step hb1⟩
      case measure => simp [intOf]; omega
    have g2 : ((k : Int) == (l : Int)) = false := by simp; omega
    by_cases hkm : f k = ms
    case pos =>
      have g3 : ((f k : Int) == (ms : Int)) = true := by simp [hkm]
      have hmy : K.may n l f k = false := by rw [HM.out, decide_eq_false (show ¬ f k ≠ K.most from fun h => h (hkm.trans HMS.out))]; simp
      have HN2 : Hid (nxL K n l f (k + 1) = nxL K n l f k) := Lib.hid (by rw [HSU.out, hmy]; simp)
      clear HM hmy hkm hkl
      gi_wp2_with fail
      refine wpIn_wide.2 ?_
      refine region_below (by kernel_rfl) (by kernel_rfl) ?_
      (first | go_big_quiet_skip | (go_big_quiet_want; refine quiet_val (v := ?_) ?_ ?_; rotate_left 1; (· (intro Wq hWq; obtain ⟨hWc, hWf⟩ := bcell hWq; go_simp; (try with_reducible rfl))); go_big_quiet_on; (try simp only [Act.put, List.setIfInBounds_toArray, List.set_cons_zero, List.set_cons_succ])))
      (first | go_big_quiet_skip | (go_big_quiet_want; refine quiet_val (v := ?_) ?_ ?_; rotate_left 1; (· (intro Wq hWq; obtain ⟨hWc, hWf⟩ := bcell hWq; go_simp; (try with_reducible rfl))); go_big_quiet_on; (try simp only [Act.put, List.setIfInBounds_toArray, List.set_cons_zero, List.set_cons_succ])))
      (first | go_big_quiet_skip | (go_big_quiet_want; refine quiet_val (v := ?_) ?_ ?_; rotate_left 1; (· (intro Wq hWq; obtain ⟨hWc, hWf⟩ := bcell hWq; go_simp; (try with_reducible rfl))); go_big_quiet_on; (try simp only [Act.put, List.setIfInBounds_toArray, List.set_cons_zero, List.set_cons_succ])))
      (first | go_big_quiet_skip | (go_big_quiet_want; refine quiet_val (v := ?_) ?_ ?_; rotate_left 1; (· (intro Wq hWq; obtain ⟨hWc, hWf⟩ := bcell hWq; go_simp; (try with_reducible rfl))); go_big_quiet_on; (try simp only [Act.put, List.setIfInBounds_toArray, List.set_cons_zero, List.set_cons_succ])))
      (first | go_big_quiet_skip | (go_big_quiet_want; refine quiet_val (v := ?_) ?_ ?_; rotate_left 1; (· (intro Wq hWq; obtain ⟨hWc, hWf⟩ := bcell hWq; go_simp; (try with_reducible rfl))); go_big_quiet_on; (try simp only [Act.put, List.setIfInBounds_toArray, List.set_cons_zero, List.set_cons_succ])))
      (first | go_big_quiet_skip | (go_big_quiet_want; refine quiet_val (v := ?_) ?_ ?_; rotate_left 1; (· (intro Wq hWq; obtain ⟨hWc, hWf⟩ := bcell hWq; go_simp; (try with_reducible rfl))); go_big_quiet_on; (try simp only [Act.put, List.setIfInBounds_toArray, List.set_cons_zero, List.set_cons_succ])))
      (first | go_big_quiet_skip | (go_big_quiet_want; refine quiet_val (v := ?_) ?_ ?_; rotate_left 1; (· (intro Wq hWq; obtain ⟨hWc, hWf⟩ := bcell hWq; go_simp; (try with_reducible rfl))); go_big_quiet_on; (try simp only [Act.put, List.setIfInBounds_toArray, List.set_cons_zero, List.set_cons_succ])))
      (first | go_big_quiet_skip | (go_big_quiet_want; refine quiet_val (v := ?_) ?_ ?_; rotate_left 1; (· (intro Wq hWq; obtain ⟨hWc, hWf⟩ := bcell hWq; go_simp; (try with_reducible rfl))); go_big_quiet_on; (try simp only [Act.put, List.setIfInBounds_toArray, List.set_cons_zero, List.set_cons_succ])))
      (first | go_big_quiet_skip | (go_big_quiet_want; refine quiet_val (v := ?_) ?_ ?_; rotate_left 1; (· (intro Wq hWq; obtain ⟨hWc, hWf⟩ := bcell hWq; go_simp; (try with_reducible rfl))); go_big_quiet_on; (try simp only [Act.put, List.setIfInBounds_toArray, List.set_cons_zero, List.set_cons_succ])))
      (first | go_big_quiet_skip | (go_big_quiet_want; refine quiet_val (v := ?_) ?_ ?_; rotate_left 1; (· (intro Wq hWq; obtain ⟨hWc, hWf⟩ := bcell hWq; go_simp; (try with_reducible rfl))); go_big_quiet_on; (try simp only [Act.put, List.setIfInBounds_toArray, List.set_cons_zero, List.set_cons_succ])))
      (first | go_big_quiet_skip | (go_big_quiet_want; refine quiet_val (v := ?_) ?_ ?_; rotate_left 1; (· (intro Wq hWq; obtain ⟨hWc, hWf⟩ := bcell hWq; go_simp; (try with_reducible rfl))); go_big_quiet_on; (try simp only [Act.put, List.setIfInBounds_toArray, List.set_cons_zero, List.set_cons_succ])))
      (first | go_big_quiet_skip | (go_big_quiet_want; refine quiet_val (v := ?_) ?_ ?_; rotate_left 1; (· (intro Wq hWq; obtain ⟨hWc, hWf⟩ := bcell hWq; go_simp; (try with_reducible rfl))); go_big_quiet_on; (try simp only [Act.put, List.setIfInBounds_toArray, List.set_cons_zero, List.set_cons_succ])))
      (first | go_big_quiet_skip | (go_big_quiet_want; refine quiet_val (v := ?_) ?_ ?_; rotate_left 1; (· (intro Wq hWq; obtain ⟨hWc, hWf⟩ := bcell hWq; go_simp; (try with_reducible rfl))); go_big_quiet_on; (try simp only [Act.put, List.setIfInBounds_toArray, List.set_cons_zero, List.set_cons_succ])))
      (first | go_big_quiet_skip | (go_big_quiet_want; refine quiet_val (v := ?_) ?_ ?_; rotate_left 1; (· (intro Wq hWq; obtain ⟨hWc, hWf⟩ := bcell hWq; go_simp; (try with_reducible rfl))); go_big_quiet_on; (try simp only [Act.put, List.setIfInBounds_toArray, List.set_cons_zero, List.set_cons_succ])))
      (first | go_big_quiet_skip | (go_big_quiet_want; refine quiet_val (v := ?_) ?_ ?_; rotate_left 1; (· (intro Wq hWq; obtain ⟨hWc, hWf⟩ := bcell hWq; go_simp; (try with_reducible rfl))); go_big_quiet_on; (try simp only [Act.put, List.setIfInBounds_toArray, List.set_cons_zero, List.set_cons_succ])))
      (first | go_big_quiet_skip | (go_big_quiet_want; refine quiet_val (v := ?_) ?_ ?_; rotate_left 1; (· (intro Wq hWq; obtain ⟨hWc, hWf⟩ := bcell hWq; go_simp; (try with_reducible rfl))); go_big_quiet_on; (try simp only [Act.put, List.setIfInBounds_toArray, List.set_cons_zero, List.set_cons_succ])))
      (first | go_big_quiet_skip | (go_big_quiet_want; refine quiet_val (v := ?_) ?_ ?_; rotate_left 1; (· (intro Wq hWq; obtain ⟨hWc, hWf⟩ := bcell hWq; go_simp; (try with_reducible rfl))); go_big_quiet_on; (try simp only [Act.put, List.setIfInBounds_toArray, List.set_cons_zero, List.set_cons_succ])))
      (first | go_big_quiet_skip | (go_big_quiet_want; refine quiet_val (v := ?_) ?_ ?_; rotate_left 1; (· (intro Wq hWq; obtain ⟨hWc, hWf⟩ := bcell hWq; go_simp; (try with_reducible rfl))); go_big_quiet_on; (try simp only [Act.put, List.setIfInBounds_toArray, List.set_cons_zero, List.set_cons_succ])))
      (first | go_big_quiet_skip | (go_big_quiet_want; refine quiet_val (v := ?_) ?_ ?_; rotate_left 1; (· (intro Wq hWq; obtain ⟨hWc, hWf⟩ := bcell hWq; go_simp; (try with_reducible rfl))); go_big_quiet_on; (try simp only [Act.put, List.setIfInBounds_toArray, List.set_cons_zero, List.set_cons_succ])))
      (first | go_big_quiet_skip | (go_big_quiet_want; refine quiet_val (v := ?_) ?_ ?_; rotate_left 1; (· (intro Wq hWq; obtain ⟨hWc, hWf⟩ := bcell hWq; go_simp; (try with_reducible rfl))); go_big_quiet_on; (try simp only [Act.put, List.setIfInBounds_toArray, List.set_cons_zero, List.set_cons_succ])))
      (first | go_big_quiet_skip | (go_big_quiet_want; refine quiet_val (v := ?_) ?_ ?_; rotate_left 1; (· (intro Wq hWq; obtain ⟨hWc, hWf⟩ := bcell hWq; go_simp; (try with_reducible rfl))); go_big_quiet_on; (try simp only [Act.put, List.setIfInBounds_toArray, List.set_cons_zero, List.set_cons_succ])))
      (first | go_big_quiet_skip | (go_big_quiet_want; refine quiet_val (v := ?_) ?_ ?_; rotate_left 1; (· (intro Wq hWq; obtain ⟨hWc, hWf⟩ := bcell hWq; go_simp; (try with_reducible rfl))); go_big_quiet_on; (try simp only [Act.put, List.setIfInBounds_toArray, List.set_cons_zero, List.set_cons_succ])))
      (first | go_big_quiet_skip | (go_big_quiet_want; refine quiet_val (v := ?_) ?_ ?_; rotate_left 1; (· (intro Wq hWq; obtain ⟨hWc, hWf⟩ := bcell hWq; go_simp; (try with_reducible rfl))); go_big_quiet_on; (try simp only [Act.put, List.setIfInBounds_toArray, List.set_cons_zero, List.set_cons_succ])))
      (first | go_big_quiet_skip | (go_big_quiet_want; refine quiet_val (v := ?_) ?_ ?_; rotate_left 1; (· (intro Wq hWq; obtain ⟨hWc, hWf⟩ := bcell hWq; go_simp; (try with_reducible rfl))); go_big_quiet_on; (try simp only [Act.put, List.setIfInBounds_toArray, List.set_cons_zero, List.set_cons_succ])))
      (first | go_big_quiet_skip | (go_big_quiet_want; refine quiet_val (v := ?_) ?_ ?_; rotate_left 1; (· (intro Wq hWq; obtain ⟨hWc, hWf⟩ := bcell hWq; go_simp; (try with_reducible rfl))); go_big_quiet_on; (try simp only [Act.put, List.setIfInBounds_toArray, List.set_cons_zero, List.set_cons_succ])))
      refine wpQuiet_nil ?_; intro W1 hb1
      gi_wp2
      go_roundw
      case rel => exact ⟨k + 1, by omega, by go_num, by rw [HN2.out]; exact hJ _ _ _ HJ.out hb1, HK.out.step hb1⟩
      case measure => simp [intOf]; omega
    have g3 : ((f k : Int) == (ms : Int)) = false := by simp; omega
    have hmy : K.may n l f k = true := by rw [HM.out, decide_eq_true hkl, decide_eq_true (show f k ≠ K.most from fun h => hkm (h.trans HMS.out.symm))]; rfl
    have HN2 : Hid (nxL K n l f (k + 1) = nxL K n l f k ++ [k]) := Lib.hid (by rw [HSU.out, hmy]; simp)
    have HMY := Lib.hid hmy
    have hst := HSt.out U HK.out
    have HF8 := Lib.hid (show f k ≤ 20 from HF.out k k8)
    clear HM hmy hkl hkm
    gi_wp2_with fail
    refine wpIn_wide.2 ?_
    refine region_below (by kernel_rfl) (by kernel_rfl) ?_
    (first | go_big_quiet_skip | (go_big_quiet_want; refine quiet_val (v := ?_) ?_ ?_; rotate_left 1; (· (intro Wq hWq; obtain ⟨hWc, hWf⟩ := bcell hWq; go_simp; (try with_reducible rfl))); go_big_quiet_on; (try simp only [Act.put, List.setIfInBounds_toArray, List.set_cons_zero, List.set_cons_succ])))
    (first | go_big_quiet_skip | (go_big_quiet_want; refine quiet_val (v := ?_) ?_ ?_; rotate_left 1; (· (intro Wq hWq; obtain ⟨hWc, hWf⟩ := bcell hWq; go_simp; (try with_reducible rfl))); go_big_quiet_on; (try simp only [Act.put, List.setIfInBounds_toArray, List.set_cons_zero, List.set_cons_succ])))
    (first | go_big_quiet_skip | (go_big_quiet_want; refine quiet_val (v := ?_) ?_ ?_; rotate_left 1; (· (intro Wq hWq; obtain ⟨hWc, hWf⟩ := bcell hWq; go_simp; (try with_reducible rfl))); go_big_quiet_on; (try simp only [Act.put, List.setIfInBounds_toArray, List.set_cons_zero, List.set_cons_succ])))
    (first | go_big_quiet_skip | (go_big_quiet_want; refine quiet_val (v := ?_) ?_ ?_; rotate_left 1; (· (intro Wq hWq; obtain ⟨hWc, hWf⟩ := bcell hWq; go_simp; (try with_reducible rfl))); go_big_quiet_on; (try simp only [Act.put, List.setIfInBounds_toArray, List.set_cons_zero, List.set_cons_succ])))
    (first | go_big_quiet_skip | (go_big_quiet_want; refine quiet_val (v := ?_) ?_ ?_; rotate_left 1; (· (intro Wq hWq; obtain ⟨hWc, hWf⟩ := bcell hWq; go_simp; (try with_reducible rfl))); go_big_quiet_on; (try simp only [Act.put, List.setIfInBounds_toArray, List.set_cons_zero, List.set_cons_succ])))
    (first | go_big_quiet_skip | (go_big_quiet_want; refine quiet_val (v := ?_) ?_ ?_; rotate_left 1; (· (intro Wq hWq; obtain ⟨hWc, hWf⟩ := bcell hWq; go_simp; (try with_reducible rfl))); go_big_quiet_on; (try simp only [Act.put, List.setIfInBounds_toArray, List.set_cons_zero, List.set_cons_succ])))
    (first | go_big_quiet_skip | (go_big_quiet_want; refine quiet_val (v := ?_) ?_ ?_; rotate_left 1; (· (intro Wq hWq; obtain ⟨hWc, hWf⟩ := bcell hWq; go_simp; (try with_reducible rfl))); go_big_quiet_on; (try simp only [Act.put, List.setIfInBounds_toArray, List.set_cons_zero, List.set_cons_succ])))
    (first | go_big_quiet_skip | (go_big_quiet_want; refine quiet_val (v := ?_) ?_ ?_; rotate_left 1; (· (intro Wq hWq; obtain ⟨hWc, hWf⟩ := bcell hWq; go_simp; (try with_reducible rfl))); go_big_quiet_on; (try simp only [Act.put, List.setIfInBounds_toArray, List.set_cons_zero, List.set_cons_succ])))
    (first | go_big_quiet_skip | (go_big_quiet_want; refine quiet_val (v := ?_) ?_ ?_; rotate_left 1; (· (intro Wq hWq; obtain ⟨hWc, hWf⟩ := bcell hWq; go_simp; (try with_reducible rfl))); go_big_quiet_on; (try simp only [Act.put, List.setIfInBounds_toArray, List.set_cons_zero, List.set_cons_succ])))
    (first | go_big_quiet_skip | (go_big_quiet_want; refine quiet_val (v := ?_) ?_ ?_; rotate_left 1; (· (intro Wq hWq; obtain ⟨hWc, hWf⟩ := bcell hWq; go_simp; (try with_reducible rfl))); go_big_quiet_on; (try simp only [Act.put, List.setIfInBounds_toArray, List.set_cons_zero, List.set_cons_succ])))
    (first | go_big_quiet_skip | (go_big_quiet_want; refine quiet_val (v := ?_) ?_ ?_; rotate_left 1; (· (intro Wq hWq; obtain ⟨hWc, hWf⟩ := bcell hWq; go_simp; (try with_reducible rfl))); go_big_quiet_on; (try simp only [Act.put, List.setIfInBounds_toArray, List.set_cons_zero, List.set_cons_succ])))
    (first | go_big_quiet_skip | (go_big_quiet_want; refine quiet_val (v := ?_) ?_ ?_; rotate_left 1; (· (intro Wq hWq; obtain ⟨hWc, hWf⟩ := bcell hWq; go_simp; (try with_reducible rfl))); go_big_quiet_on; (try simp only [Act.put, List.setIfInBounds_toArray, List.set_cons_zero, List.set_cons_succ])))
    (first | go_big_quiet_skip | (go_big_quiet_want; refine quiet_val (v := ?_) ?_ ?_; rotate_left 1; (· (intro Wq hWq; obtain ⟨hWc, hWf⟩ := bcell hWq; go_simp; (try with_reducible rfl))); go_big_quiet_on; (try simp only [Act.put, List.setIfInBounds_toArray, List.set_cons_zero, List.set_cons_succ])))
    (first | go_big_quiet_skip | (go_big_quiet_want; refine quiet_val (v := ?_) ?_ ?_; rotate_left 1; (· (intro Wq hWq; obtain ⟨hWc, hWf⟩ := bcell hWq; go_simp; (try with_reducible rfl))); go_big_quiet_on; (try simp only [Act.put, List.setIfInBounds_toArray, List.set_cons_zero, List.set_cons_succ])))
    (first | go_big_quiet_skip | (go_big_quiet_want; refine quiet_val (v := ?_) ?_ ?_; rotate_left 1; (· (intro Wq hWq; obtain ⟨hWc, hWf⟩ := bcell hWq; go_simp; (try with_reducible rfl))); go_big_quiet_on; (try simp only [Act.put, List.setIfInBounds_toArray, List.set_cons_zero, List.set_cons_succ])))
    (first | go_big_quiet_skip | (go_big_quiet_want; refine quiet_val (v := ?_) ?_ ?_; rotate_left 1; (· (intro Wq hWq; obtain ⟨hWc, hWf⟩ := bcell hWq; go_simp; (try with_reducible rfl))); go_big_quiet_on; (try simp only [Act.put, List.setIfInBounds_toArray, List.set_cons_zero, List.set_cons_succ])))
    (first | go_big_quiet_skip | (go_big_quiet_want; refine quiet_val (v := ?_) ?_ ?_; rotate_left 1; (· (intro Wq hWq; obtain ⟨hWc, hWf⟩ := bcell hWq; go_simp; (try with_reducible rfl))); go_big_quiet_on; (try simp only [Act.put, List.setIfInBounds_toArray, List.set_cons_zero, List.set_cons_succ])))
    (first | go_big_quiet_skip | (go_big_quiet_want; refine quiet_val (v := ?_) ?_ ?_; rotate_left 1; (· (intro Wq hWq; obtain ⟨hWc, hWf⟩ := bcell hWq; go_simp; (try with_reducible rfl))); go_big_quiet_on; (try simp only [Act.put, List.setIfInBounds_toArray, List.set_cons_zero, List.set_cons_succ])))
    (first | go_big_quiet_skip | (go_big_quiet_want; refine quiet_val (v := ?_) ?_ ?_; rotate_left 1; (· (intro Wq hWq; obtain ⟨hWc, hWf⟩ := bcell hWq; go_simp; (try with_reducible rfl))); go_big_quiet_on; (try simp only [Act.put, List.setIfInBounds_toArray, List.set_cons_zero, List.set_cons_succ])))
    (first | go_big_quiet_skip | (go_big_quiet_want; refine quiet_val (v := ?_) ?_ ?_; rotate_left 1; (· (intro Wq hWq; obtain ⟨hWc, hWf⟩ := bcell hWq; go_simp; (try with_reducible rfl))); go_big_quiet_on; (try simp only [Act.put, List.setIfInBounds_toArray, List.set_cons_zero, List.set_cons_succ])))
    (first | go_big_quiet_skip | (go_big_quiet_want; refine quiet_val (v := ?_) ?_ ?_; rotate_left 1; (· (intro Wq hWq; obtain ⟨hWc, hWf⟩ := bcell hWq; go_simp; (try with_reducible rfl))); go_big_quiet_on; (try simp only [Act.put, List.setIfInBounds_toArray, List.set_cons_zero, List.set_cons_succ])))
    (first | go_big_quiet_skip | (go_big_quiet_want; refine quiet_val (v := ?_) ?_ ?_; rotate_left 1; (· (intro Wq hWq; obtain ⟨hWc, hWf⟩ := bcell hWq; go_simp; (try with_reducible rfl))); go_big_quiet_on; (try simp only [Act.put, List.setIfInBounds_toArray, List.set_cons_zero, List.set_cons_succ])))
    (first | go_big_quiet_skip | (go_big_quiet_want; refine quiet_val (v := ?_) ?_ ?_; rotate_left 1; (· (intro Wq hWq; obtain ⟨hWc, hWf⟩ := bcell hWq; go_simp; (try with_reducible rfl))); go_big_quiet_on; (try simp only [Act.put, List.setIfInBounds_toArray, List.set_cons_zero, List.set_cons_succ])))
    (first | go_big_quiet_skip | (go_big_quiet_want; refine quiet_val (v := ?_) ?_ ?_; rotate_left 1; (· (intro Wq hWq; obtain ⟨hWc, hWf⟩ := bcell hWq; go_simp; (try with_reducible rfl))); go_big_quiet_on; (try simp only [Act.put, List.setIfInBounds_toArray, List.set_cons_zero, List.set_cons_succ])))
    (first | go_big_quiet_skip | (go_big_quiet_want; refine quiet_val (v := ?_) ?_ ?_; rotate_left 1; (· (intro Wq hWq; obtain ⟨hWc, hWf⟩ := bcell hWq; go_simp; (try with_reducible rfl))); go_big_quiet_on; (try simp only [Act.put, List.setIfInBounds_toArray, List.set_cons_zero, List.set_cons_succ])))
    refine wpQuiet_nil ?_; intro W1 hb1
    have hst1 := hst.step hb1
    clear hst k0 k1 k2 c0 c1 ck hcx
    obtain ⟨k0, k1, k2⟩ := HC.out W1 (HK.out.step hb1)
    have c0 := hst1.c0
    have c1 := hst1.c1
    have e0 : W1.cell? ⟨bs, 2, none⟩ = some (.int .i64 (f 0)) := hst1.cs 0 (by omega)
    have e1 : W1.cell? ⟨bs, 3, none⟩ = some (.int .i64 (f 1)) := hst1.cs 1 (by omega)
    have e2 : W1.cell? ⟨bs, 4, none⟩ = some (.int .i64 (f 2)) := hst1.cs 2 (by omega)
    have e3 : W1.cell? ⟨bs, 5, none⟩ = some (.int .i64 (f 3)) := hst1.cs 3 (by omega)
    have e4 : W1.cell? ⟨bs, 6, none⟩ = some (.int .i64 (f 4)) := hst1.cs 4 (by omega)
    have e5 : W1.cell? ⟨bs, 7, none⟩ = some (.int .i64 (f 5)) := hst1.cs 5 (by omega)
    have e6 : W1.cell? ⟨bs, 8, none⟩ = some (.int .i64 (f 6)) := hst1.cs 6 (by omega)
    have e7 : W1.cell? ⟨bs, 9, none⟩ = some (.int .i64 (f 7)) := hst1.cs 7 (by omega)
    have yc1 : bc < W1.heap.size := cell?_lt k0
    have ys1 : bs < W1.heap.size := cell?_lt c0
    obtain ⟨n1, hn1⟩ : ∃ n1, n1 = n + 1 := ⟨_, rfl⟩
    have v4 : IntKind.i64.wrap ((n : Int) + 1) = (n1 : Int) := by rw [hn1]; exact IntWalk.i64_in _ (by omega)
    have HN1 := Lib.hid hn1
    clear hst1 hn1 hsh g2 g3 hand1 yc ys yb hx256
    gi_upto_region 6 with fail
    obtain ⟨W5, hW5⟩ : ∃ W5, W5 = W1.alloc (.cells #[.int .i64 n1, .int .i64 k, .int .i64 (f 0), .int .i64 (f 1), .int .i64 (f 2), .int .i64 (f 3), .int .i64 (f 4), .int .i64 (f 5), .int .i64 (f 6), .int .i64 (f 7)] 84) := ⟨_, rfl⟩
    obtain ⟨b5, hb5⟩ : ∃ b5, b5 = W1.heap.size := ⟨_, rfl⟩
    obtain ⟨h5s, h5f⟩ := st_new W1 n1 k f 84
    rw [← hW5, ← hb5] at h5s h5f
    rw [← hW5, ← hb5]
    have b15 : Below W1.heap.size W1 W5 := by rw [hW5]; exact Below.allocS (Below.refl _ _) _
    have y5 : b5 < W5.heap.size := h5s.lt
    have k0' := keep_cell b15 k0
    have k1' := keep_cell b15 k1
    have k2' := keep_cell b15 k2
    have d5 := h5s.cs k k8
    have f5 := h5f (2 + k) (by omega)
    have v5 : IntKind.i64.wrap ((f k : Int) + 1) = ((f k + 1 : Nat) : Int) := IntWalk.i64_in _ (by have := HF8.out; omega)
    have hfr := fr_put (U := W5) (V := W5) (W0 := W5) (v := f k + 1) (f2 := incF f k) h5s h5f ⟨rfl, rfl, rfl, Nat.le_refl _, fun i _ _ => rfl⟩ k8 (fun j hj => by unfold incF; by_cases h : j = k <;> simp [h]) (Below.refl _ _)
    have hF21 : ∀ j, j < 8 → incF f k j ≤ 100 := fun j hj => by have := HF.out j hj; unfold incF; split <;> omega
    have HFD := Lib.hid (freed_c N hN2 (some ⟨b, off, none⟩) cap ob ms hm b5 n1 k (incF f k) (by rw [HN1.out]; exact hn) hF21 _ hfr.1 hfr.2.1)
    have HG6 := Lib.hid hfr.2.2
    have HB5 := Lib.hid hb5
    have hne1 : bc ≠ b5 := by omega
    have hne2 : b5 ≠ bc := by omega
    clear hb5 hfr hF21 h5s h5f hW5 e0 e1 e2 e3 e4 e5 e6 e7 c0 c1 k0 k1 k2
    generalize hfq : f k + 1 = fq at *
    clear hfq
    gi_wp2_with fail
    refine ⟨trivial, (callsIn_wide.2 HFD.out).mono ?_⟩
    rintro e w7 ⟨⟨v7, rfl⟩, h7s, h7g⟩
    have hu1 := hb1.size
    have hb7 : Below U.heap.size U w7 := by
      have h15 : Below U.heap.size U W5 := Below.step hb1 b15
      have hb5' := HB5.out
      have g56 := h15.grown HG6.out (by have := b15.size; omega) (fun k hk => by injection hk; omega)
      exact g56.grown h7g (by have := b15.size; have := HG6.out.size; omega) (fun k hk => by injection hk; omega)
    have hnx := HNX.out k
    rw [← HMS.out, ← HN1.out] at hnx
    rw [← hnx] at h7s
    obtain ⟨fn, tmps, assign, body, hy, hR⟩ := HY.out (nxL K n l f k) k w7 (hJ _ _ _ HJ.out hb7) (by have := HLE.out k; omega) ⟨by rw [← HOB.out]; exact hlt, HMY.out⟩
    (try dsimp only at hy)
    rw [← HN1.out] at hy
    generalize K.nx n f k = g at *
    have c0 := h7s.c0
    have c1 := h7s.c1
    have e0 : w7.cell? ⟨b5, 2, none⟩ = some (.int .i64 (g 0)) := h7s.cs 0 (by omega)
    have e1 : w7.cell? ⟨b5, 3, none⟩ = some (.int .i64 (g 1)) := h7s.cs 1 (by omega)
    have e2 : w7.cell? ⟨b5, 4, none⟩ = some (.int .i64 (g 2)) := h7s.cs 2 (by omega)
    have e3 : w7.cell? ⟨b5, 5, none⟩ = some (.int .i64 (g 3)) := h7s.cs 3 (by omega)
    have e4 : w7.cell? ⟨b5, 6, none⟩ = some (.int .i64 (g 4)) := h7s.cs 4 (by omega)
    have e5 : w7.cell? ⟨b5, 7, none⟩ = some (.int .i64 (g 5)) := h7s.cs 5 (by omega)
    have e6 : w7.cell? ⟨b5, 8, none⟩ = some (.int .i64 (g 6)) := h7s.cs 6 (by omega)
    have e7 : w7.cell? ⟨b5, 9, none⟩ = some (.int .i64 (g 7)) := h7s.cs 7 (by omega)
    have HB7 := Lib.hid hb7
    clear HFD HG6 h7s h7g hb7 hnx k0' k1' k2' d5 f5 v5
    gi_wp2
    refine hR.mono ?_
    rintro e W8 (⟨rfl, hJ8, hk8⟩ | ⟨rfl, hJx8⟩)
    · gi_wp2
      go_roundw
      case rel => exact ⟨k + 1, by omega, by go_num, by rw [HN2.out]; exact hJ8, (HK.out.step HB7.out).trans hk8⟩
      case measure => simp [intOf]; omega
    · gi_wp2
      refine bodyPost_ret (results_none rfl _ _ _) rfl ?_
      exact ⟨⟨_, rfl⟩, .inr ⟨_, by rw [← HN2.out]; exact HPR.out _ _ (by rw [← HOB.out]; omega), hJx8⟩⟩
end Go.Proofs.Ytomgaiokmdcjmaa
