/-
  The iterator over the places of a box's grid, of gun.
-/
import Derived.Test.YtgiplkfdallmkaaV5
import Derived.Test.YtgiplkfdallmkaaRange2
namespace Go.Proofs.Ytgiplkfdallmkaa
open Go.RowKit Go.Shelf
attribute [local go_sem] Oper.semAt_some
set_option linter.unusedVariables false
set_option linter.unusedSimpArgs false
theorem grid_c (a b c d st : Int) (w : World) : Calls Try.prog 79 #[.agg #[.int .i64 a, .int .i64 b], .agg #[.int .i64 c, .int .i64 d], .int .i64 st] w fun e w' => e = .returned (.func (.func 92) #[] #[.pointer (some ⟨w.heap.size, 0, none⟩), .pointer (some ⟨w.heap.size + 1, 0, none⟩), .pointer (some ⟨w.heap.size + 1 + 1, 0, none⟩)]) ∧ w' = ((w.alloc (.cells #[.int .i64 a, .int .i64 b] 25)).alloc (.cells #[.int .i64 c, .int .i64 d] 25)).alloc (.cells #[.int .i64 st] 3) := by
  go_enter Try.func79, Try.ntmps79
  go_wp2
  go_ret
  exact ⟨rfl, rfl⟩
/-- How many steps go from a to c. -/
def nX (a c st : Int) : Nat := ((c - a) / st + 1).toNat
theorem nX_iff {a c st : Int} (h1 : 1 ≤ st) (h : a ≤ c) (i : Nat) : i < nX a c st ↔ a + st * (i : Int) ≤ c := by
  unfold nX
  have h2 : 0 ≤ (c - a) / st := Int.ediv_nonneg (by omega) (by omega)
  have h3 : (i : Int) ≤ (c - a) / st ↔ (i : Int) * st ≤ c - a := Int.le_ediv_iff_mul_le (by omega)
  rw [Int.mul_comm] at h3
  omega
def rowPts (a st y : Int) : Nat → List (Int × Int)
  | 0 => []
  | k + 1 => rowPts a st y k ++ [(a + st * (k : Int), y)]
def gridPts (a b st : Int) (nx : Nat) : Nat → List (Int × Int)
  | 0 => []
  | k + 1 => gridPts a b st nx k ++ rowPts a st (b + st * (k : Int)) nx
theorem rowPts_succ (a st y : Int) (k : Nat) : rowPts a st y (k + 1) = rowPts a st y k ++ [(a + st * (k : Int), y)] := rfl
theorem gridPts_succ (a b st : Int) (nx k : Nat) : gridPts a b st nx (k + 1) = gridPts a b st nx k ++ rowPts a st (b + st * (k : Int)) nx := rfl
theorem rowPts_len (a st y : Int) : ∀ k, (rowPts a st y k).length = k
  | 0 => rfl
  | k + 1 => by rw [rowPts_succ, List.length_append, rowPts_len a st y k]; rfl
theorem gridPts_len (a b st : Int) (nx : Nat) : ∀ k, (gridPts a b st nx k).length = k * nx
  | 0 => by simp [gridPts]
  | k + 1 => by rw [gridPts_succ, List.length_append, gridPts_len a b st nx k, rowPts_len, Nat.add_mul, Nat.one_mul]
theorem grid_lt {j i nx ny : Nat} (hj : j < ny) (hi : i < nx) : j * nx + i < nx * ny := by
  have h1 : (j + 1) * nx ≤ ny * nx := Nat.mul_le_mul_right _ hj
  rw [Nat.add_mul, Nat.one_mul] at h1
  rw [Nat.mul_comm nx ny]
  omega
theorem KT.cell {K : Nat → Prop} {W W' : World} (h : KT K W W') {b o : Nat} (hb : b < W.heap.size) (hK : K b) : W'.cell? ⟨b, o, none⟩ = W.cell? ⟨b, o, none⟩ := World.cell?_of_block (a := ⟨b, o, none⟩) (h.block b hb hK)
set_option maxHeartbeats 1000000 in
theorem grid_stops (a b c d st : Int) (hb : IsBox a b c d) (s1 : 1 ≤ st) (s2 : st ≤ 10000) (K : Nat → Prop) (bl bh bs : Nat) (kl : K bl) (kh : K bh) (ks : K bs) (w : World) (hl : bl < w.heap.size) (hh : bh < w.heap.size) (hs : bs < w.heap.size)
    (c0 : w.cell? ⟨bl, 0, none⟩ = some (.int .i64 a)) (c1 : w.cell? ⟨bl, 1, none⟩ = some (.int .i64 b)) (c2 : w.cell? ⟨bh, 0, none⟩ = some (.int .i64 c)) (c3 : w.cell? ⟨bh, 1, none⟩ = some (.int .i64 d)) (c4 : w.cell? ⟨bs, 0, none⟩ = some (.int .i64 st)) :
    SeqT Try.prog 92 #[.pointer (some ⟨bl, 0, none⟩), .pointer (some ⟨bh, 0, none⟩), .pointer (some ⟨bs, 0, none⟩)] (fun p : Int × Int => #[.agg #[.int .i64 p.1, .int .i64 p.2]]) (fun xs => xs = gridPts a b st (nX a c st) (nX b d st)) (fun _ => True) (fun p => (a ≤ p.1 ∧ p.1 ≤ c) ∧ b ≤ p.2 ∧ p.2 ≤ d) (nX a c st * nX b d st) K w := by
  intro n l0 J Jx W hW hJ hJx hY hj0
  obtain ⟨⟨a1, a2⟩, b1, b2⟩ := place_true hb.lo
  obtain ⟨⟨e1, e2⟩, d1, d2⟩ := place_true hb.hi
  have HX := Lib.hid (nX_iff s1 hb.x)
  have HY := Lib.hid (nX_iff s1 hb.y)
  have hxx := hb.x
  have hyy := hb.y
  clear hb
  generalize nX a c st = nx at *
  generalize nX b d st = ny at *
  have hl' := Nat.lt_of_lt_of_le hl hW.size
  have hh' := Nat.lt_of_lt_of_le hh hW.size
  have hs' := Nat.lt_of_lt_of_le hs hW.size
  have k0 := (hW.cell (p := ⟨bl, 0, none⟩) hl).trans c0
  have k1 := (hW.cell (p := ⟨bl, 1, none⟩) hl).trans c1
  have k2 := (hW.cell (p := ⟨bh, 0, none⟩) hh).trans c2
  have k3 := (hW.cell (p := ⟨bh, 1, none⟩) hh).trans c3
  have k4 := (hW.cell (p := ⟨bs, 0, none⟩) hs).trans c4
  clear c0 c1 c2 c3 c4
  have HK : ∀ Z, KT K W Z → Z.cell? ⟨bl, 0, none⟩ = some (.int .i64 a) ∧ Z.cell? ⟨bl, 1, none⟩ = some (.int .i64 b) ∧ Z.cell? ⟨bh, 0, none⟩ = some (.int .i64 c) ∧ Z.cell? ⟨bh, 1, none⟩ = some (.int .i64 d) ∧ Z.cell? ⟨bs, 0, none⟩ = some (.int .i64 st) := fun Z h =>
    ⟨(h.cell hl' kl).trans k0, (h.cell hl' kl).trans k1, (h.cell hh' kh).trans k2, (h.cell hh' kh).trans k3, (h.cell hs' ks).trans k4⟩
  have HC := Lib.hid HK
  clear HK
  refine callsIn_of_wp Try.func92 rfl trivial ?_ rfl
  simp only [Try.ntmps92, List.size_toArray, List.length_cons, List.length_nil, Nat.reduceAdd, Nat.reduceSub, Array.replicate_succ, Array.replicate_zero, List.push_toArray, List.append_toArray, List.nil_append, List.cons_append]
  gi_wp2
  clear k0 k1 k2 k3 k4
  gi_loopw [5] (fun u wr => ∃ (j : Nat) (y : Int), y = b + st * (j : Int) ∧ b ≤ y ∧ j ≤ ny ∧ u = .int .i64 y ∧ KT K W wr ∧ J (gridPts a b st nx j) wr) (fun u _ => (d + 1 - intOf u).toNat)
  case atStart => exact ⟨0, b, by simp, by omega, by omega, rfl, KT.refl _ _, by simpa [gridPts] using hj0⟩
  case round =>
    obtain ⟨j, y, hy, hby, hjn, rfl, hkt, hj⟩ := hrel
    obtain ⟨z0, z1, z2, z3, z4⟩ := HC.out _ hkt
    have HE := Lib.hid hy
    clear hy
    by_cases hyd : y ≤ d
    · have hjlt : j < ny := (HY.out j).2 (by rw [← HE.out]; exact hyd)
      gi_wp2
      clear z0 z1 z2 z3 z4
      gi_loopw [6] (fun u wr => ∃ (i : Nat) (x : Int), x = a + st * (i : Int) ∧ a ≤ x ∧ i ≤ nx ∧ u = .int .i64 x ∧ KT K W wr ∧ J (gridPts a b st nx j ++ rowPts a st y i) wr) (fun u _ => (c + 1 - intOf u).toNat)
      case atStart => exact ⟨0, a, by simp, by omega, by omega, rfl, hkt, by simpa [rowPts] using hj⟩
      case round =>
        obtain ⟨i, x, hx, hax, hin, rfl, hkt2, hj2⟩ := hrel
        obtain ⟨z0, z1, z2, z3, z4⟩ := HC.out _ hkt2
        have HF := Lib.hid hx
        clear hx
        by_cases hxc : x ≤ c
        · have hilt : i < nx := (HX.out i).2 (by rw [← HF.out]; exact hxc)
          have hlen : (gridPts a b st nx j ++ rowPts a st y i).length < nx * ny := by rw [List.length_append, gridPts_len, rowPts_len]; exact grid_lt hjlt hilt
          obtain ⟨fn, tmps, assign, body, hyl, hR⟩ := hY _ (x, y) _ hj2 hlen ⟨⟨hax, hxc⟩, hby, hyd⟩
          dsimp only at hyl
          gi_wp2
          refine hR.mono ?_
          rintro e W3 (⟨rfl, hJ3, hk3⟩ | ⟨rfl, hJx3⟩)
          · have hkt3 := hkt2.trans hk3
            obtain ⟨z0, z1, z2, z3, z4⟩ := HC.out _ hkt3
            have hw := IntWalk.i64_in (x + st) (by omega)
            gi_wp2
            go_roundw
            case rel => exact ⟨i + 1, x + st, by rw [HF.out]; simp [Int.mul_add]; omega, by omega, by omega, by go_num, hkt3, by rw [rowPts_succ, ← HF.out, ← List.append_assoc]; exact hJ3⟩
            case measure => simp [intOf]; omega
          · gi_wp2
            refine bodyPost_ret (results_none rfl _ _ _) rfl ?_
            exact ⟨⟨_, rfl⟩, .inr ⟨_, trivial, hJx3⟩⟩
        · obtain rfl : i = nx := by
            have := (HX.out i).1
            rcases Nat.lt_or_ge i nx with h | h
            · exact absurd (HF.out ▸ this h) hxc
            · omega
          have hw := IntWalk.i64_in (y + st) (by omega)
          gi_wp2
          go_roundw
          case rel => exact ⟨j + 1, y + st, by rw [HE.out]; simp [Int.mul_add]; omega, by omega, by omega, by go_num, hkt2, by rw [gridPts_succ, ← HE.out]; exact hj2⟩
          case measure => simp [intOf]; omega
    · obtain rfl : j = ny := by
        have := (HY.out j).1
        rcases Nat.lt_or_ge j ny with h | h
        · exact absurd (HE.out ▸ this h) hyd
        · omega
      gi_wp2
      go_end0
      exact ⟨⟨_, rfl⟩, .inl hj⟩
end Go.Proofs.Ytgiplkfdallmkaa
