/-
  Bundle K6: Q20, Q21, Qa, Q22, Q23. Printed by bundle.py.
-/
import Derived.Test.YtbcabckokmjelaaK3
import Derived.Shelf.Bits.Mul64
import Derived.Laws.Externs
import Derived.Test.YtbcabckokmjelaaQ17
import Derived.Test.YtbcabckokmjelaaQt
import Derived.Deep.DeepCutAuto
namespace Go.Proofs.Ytbcabckokmjelaa
open Go.RowKit Go.Lib
set_option linter.unusedVariables false
set_option linter.unusedSimpArgs false
set_option maxHeartbeats 1000000 in
theorem Mul64_c (x y : Nat) (hx : x < 18446744073709551616) (hy : y < 18446744073709551616) (w : World) :
    Calls Try.prog 118 #[.int .u64 x, .int .u64 y] w fun e w' => e = .returned (.tuple #[.int .u64 ((x * y / 18446744073709551616 : Nat) : Int), .int .u64 ((x * y % 18446744073709551616 : Nat) : Int)]) ∧ w' = w := by
  obtain ⟨bd, bt, bw, hhi⟩ := Lib.mul64_hi x y hx hy
  have ba := Lib.half_mul_le (a := x / 4294967296) (b := y / 4294967296) (by omega) (by omega)
  have bb := Lib.half_mul_le (a := x / 4294967296) (b := y % 4294967296) (by omega) (by omega)
  have bc := Lib.half_mul_le (a := x % 4294967296) (b := y / 4294967296) (by omega) (by omega)
  have ba' : x / 4294967296 * (y / 4294967296) < 18446744073709551616 := by omega
  have bb' : x / 4294967296 * (y % 4294967296) < 18446744073709551616 := by omega
  have bc' : x % 4294967296 * (y / 4294967296) < 18446744073709551616 := by omega
  have bh1 : x / 4294967296 * (y / 4294967296) + (x / 4294967296 * (y % 4294967296) + x % 4294967296 * (y % 4294967296) / 4294967296) / 4294967296 < 18446744073709551616 := by omega
  have bh : x / 4294967296 * (y / 4294967296) + (x / 4294967296 * (y % 4294967296) + x % 4294967296 * (y % 4294967296) / 4294967296) / 4294967296 + ((x / 4294967296 * (y % 4294967296) + x % 4294967296 * (y % 4294967296) / 4294967296) % 4294967296 + x % 4294967296 * (y / 4294967296)) / 4294967296 < 18446744073709551616 := by omega
  go_enter Try.func118, Try.ntmps118
  go_wp2
  simp only [Mul64.maskN x hx, Mul64.maskN y hy, Mul64.divN, Mul64.mulN, Mul64.addN, Mul64.wrapN _ bd, Mul64.wrapN _ bb', Mul64.wrapN _ bt, Mul64.maskN _ bt, Mul64.wrapN _ bc', Mul64.wrapN _ bw, Mul64.wrapN _ ba', Mul64.wrapN _ bh1, Mul64.wrapN _ bh, Mul64.wrapM (x * y)]
  rw [hhi]
  go_ret2
  exact ⟨rfl, rfl⟩
/-- The entry of the model, run. -/
def subEntry : Array Value → Sem Value := fun args => do
  let (x, y, b) ← Extern.MathBitsCarry.three "Sub64" args
  pure (Extern.MathBitsCarry.pair ((x + Extern.MathBitsCarry.m64 - y - b) % Extern.MathBitsCarry.m64) (if x < y + b then 1 else 0))
theorem run_sub (x y b : Nat) (hb : b ≤ 1) (w : World) :
    (subEntry #[.int .u64 x, .int .u64 y, .int .u64 b]).run Try.prog w =
      .ok (.tuple #[.int .u64 (((x + 18446744073709551616 - y - b) % 18446744073709551616 : Nat) : Int), .int .u64 ((if x < y + b then 1 else 0 : Nat) : Int)]) w := by
  have : b = 0 ∨ b = 1 := by omega
  rcases this with rfl | rfl <;> rfl
theorem Sub64N (x y b : Nat) (hb : b ≤ 1) (w : World) :
    (callFunc 119 #[.int .u64 x, .int .u64 y, .int .u64 b]).run Try.prog w =
      .ok (.value (.tuple #[.int .u64 (((x + 18446744073709551616 - y - b) % 18446744073709551616 : Nat) : Int), .int .u64 ((if x < y + b then 1 else 0 : Nat) : Int)])) w := by
  rw [run_callFunc_extern Try.func119 (by kernel_rfl) (by kernel_rfl) (by kernel_rfl) (e := subEntry) (by kernel_rfl), run_sub x y b hb]
  rfl
def bor (x y : Int) : Int := if x < y then 1 else 0
theorem bor_cases (x y : Int) : bor x y = 0 ∨ bor x y = 1 := by unfold bor; split <;> simp
theorem Sub64_c (x y b : Int) (hx : 0 ≤ x) (hy : 0 ≤ y) (hy' : y < 18446744073709551616) (hb0 : 0 ≤ b) (hb : b ≤ 1) (w : World) : (callFunc 119 #[.int .u64 x, .int .u64 y, .int .u64 b]).run Try.prog w =
    .ok (.value (.tuple #[.int .u64 ((x - y - b) % 18446744073709551616), .int .u64 (bor x (y + b))])) w := by
  obtain ⟨x, rfl⟩ := Int.eq_ofNat_of_zero_le hx
  obtain ⟨y, rfl⟩ := Int.eq_ofNat_of_zero_le hy
  obtain ⟨b, rfl⟩ := Int.eq_ofNat_of_zero_le hb0
  have e1 : (((x + 18446744073709551616 - y - b) % 18446744073709551616 : Nat) : Int) = ((x : Int) - y - b) % 18446744073709551616 := by omega
  have e2 : ((if x < y + b then 1 else 0 : Nat) : Int) = bor x (y + b) := by unfold bor; split <;> split <;> omega
  rw [← e1, ← e2]
  exact Sub64N x y b (by omega) w
theorem Sub64_0 (x y : Int) (hx : 0 ≤ x) (hy : 0 ≤ y) (hy' : y < 18446744073709551616) (w : World) : (callFunc 119 #[.int .u64 x, .int .u64 y, .int .u64 0]).run Try.prog w =
    .ok (.value (.tuple #[.int .u64 ((x - y) % 18446744073709551616), .int .u64 (bor x y)])) w := by
  simpa using Sub64_c x y 0 hx hy hy' (Int.le_refl 0) (by decide) w
/-- A number of 128 bits. -/
def wH (v : Int) : Int := v / 18446744073709551616
def wL (v : Int) : Int := v % 18446744073709551616
def wV (v : Int) : Value := .agg #[.int .i64 (wH v), .int .u64 (wL v)]
/-- .. as far as we go. -/
def Wd (v : Int) : Prop := -1000000000000000000000000000000000000 ≤ v ∧ v ≤ 1000000000000000000000000000000000000
theorem wL_bd (v : Int) : 0 ≤ wL v ∧ wL v < 18446744073709551616 := by unfold wL; omega
theorem load_wd (w : World) (b : Nat) (v0 v1 : Value) (c0 : w.cell? ⟨b, 0, none⟩ = some v0) (c1 : w.cell? ⟨b, 1, none⟩ = some v1) : (loadVar 134 ⟨b, 0, none⟩).run Try.prog w = .ok (.agg #[v0, v1]) w := by
  simp [go_sem, *]
theorem wH_sub {a b : Int} : (wH a % 18446744073709551616 - wH b % 18446744073709551616 - bor (wL a) (wL b)) % 18446744073709551616 = wH (a - b) % 18446744073709551616 := by
  unfold wH wL bor
  split <;> omega
theorem wL_sub {a b : Int} : (wL a - wL b) % 18446744073709551616 = wL (a - b) := by unfold wL; omega
theorem wrap_u64 (v : Int) : IntKind.u64.wrap v = v % 18446744073709551616 := IntKind.wrap_u64 v
theorem wrap_hi {v : Int} (h : Wd v) : IntKind.i64.wrap (wH v % 18446744073709551616) = wH v := by
  unfold Wd at h
  have h1 : -9223372036854775808 ≤ wH v ∧ wH v ≤ 9223372036854775807 := by unfold wH; omega
  rw [IntKind.wrap_i64]; omega
set_option maxRecDepth 100000 in
set_option maxHeartbeats 1000000 in
theorem minus_c (a b : Int) (h : Wd (a - b)) (w : World) : Calls Try.prog 106 #[wV a, wV b] w fun e w' => e = .returned (wV (a - b)) ∧ Below w.heap.size w w' := by
  have la := wL_bd a
  have lb := wL_bd b
  have hb := bor_cases (wL a) (wL b)
  have e1 := wH_sub (a := a) (b := b)
  have e2 := wL_sub (a := a) (b := b)
  have e3 := wrap_hi h
  have k0 : 0 ≤ wH a % 18446744073709551616 := by omega
  have k1 : 0 ≤ wH b % 18446744073709551616 := by omega
  have k2 : wH b % 18446744073709551616 < 18446744073709551616 := by omega
  have k3 : 0 ≤ bor (wL a) (wL b) := by omega
  have k4 : bor (wL a) (wL b) ≤ 1 := by omega
  clear h hb
  unfold wV
  generalize wL (a - b) = Ld at *
  generalize wH (a - b) = Hd at *
  obtain ⟨la0, la1⟩ := la
  obtain ⟨lb0, lb1⟩ := lb
  go_enter Try.func106, Try.ntmps106
  go_wp2_with (first | simp only [Sub64_0 (wL a) (wL b) la0 lb0 lb1] | simp only [wrap_u64, Sub64_c (wH a % 18446744073709551616) (wH b % 18446744073709551616) (bor (wL a) (wL b)) k0 k1 k2 k3 k4])
  (try simp only [Exit.inBlock, Exit.then])
  refine bodyPost_ret (res_two rfl _ _ (w.heap.size + 1 + 1) _ _ rfl (load_wd _ _ (.int .i64 Hd) (.int .u64 Ld) (by simp [go_sem, *]) (by simp [go_sem, *]))) rfl ?_
  exact ⟨rfl, by (repeat (first | (with_reducible exact Below.refl _ _) | (with_reducible assumption) | (with_reducible refine Below.drew ?_) | (with_reducible refine Below.allocS ?_ _) | (with_reducible refine Below.setCell ?_ ?_ _) | (with_reducible refine Below.step ?_ (by assumption)) | (with_reducible refine Below.drewN' ?_ _))); (try any_goals (first | (with_reducible assumption) | (simp; done) | (simp; omega) | omega))⟩
theorem below_c (a : Int) (w : World) : Calls Try.prog 107 #[wV a] w fun e w' => e = .returned (.bool (decide (a < 0))) ∧ Below w.heap.size w w' := by
  have e : decide (a < 0) = decide (wH a < 0) := by congr 1; unfold wH; exact propext ⟨fun h => by omega, fun h => by omega⟩
  rw [e]
  unfold wV
  go_enter Try.func107, Try.ntmps107
  go_wp2
  go_ret
  exact ⟨rfl, by (repeat (first | (with_reducible exact Below.refl _ _) | (with_reducible assumption) | (with_reducible refine Below.drew ?_) | (with_reducible refine Below.allocS ?_ _) | (with_reducible refine Below.setCell ?_ ?_ _) | (with_reducible refine Below.step ?_ (by assumption)) | (with_reducible refine Below.drewN' ?_ _))); (try any_goals (first | (with_reducible assumption) | (simp; done) | (simp; omega) | omega))⟩
end Go.Proofs.Ytbcabckokmjelaa
namespace Go.Proofs.Ytbcabckokmjelaa
open Go.RowKit Go.Lib
set_option linter.unusedVariables false
set_option linter.unusedSimpArgs false
def P18 (a : Int) : Prop := -1000000000000000000 ≤ a ∧ a ≤ 1000000000000000000
theorem mg_nat (a : Int) : ((a.natAbs : Nat) : Int) = mg a := by unfold mg; split <;> omega
theorem wd_mul {a b : Int} (ha : P18 a) (hb : P18 b) : Wd (a * b) := by
  unfold P18 at *
  unfold Wd
  have h1 : a.natAbs * b.natAbs ≤ 1000000000000000000 * 1000000000000000000 := Nat.mul_le_mul (by omega) (by omega)
  have h2 := Int.natAbs_mul a b
  omega
theorem mg_mul (a b : Int) : mg (a * b) = mg a * mg b := by
  rw [← mg_nat, ← mg_nat, ← mg_nat, Int.natAbs_mul, Int.natCast_mul]
theorem wd_mg {v : Int} (h : Wd v) : Wd (mg v) ∧ 0 ≤ mg v := by unfold Wd at *; unfold mg; split <;> omega
theorem Mul64_mg (a b : Int) (ha : P18 a) (hb : P18 b) (w : World) :
    Calls Try.prog 118 #[.int .u64 (mg a), .int .u64 (mg b)] w fun e w' => e = .returned (.tuple #[.int .u64 (wH (mg (a * b))), .int .u64 (wL (mg (a * b)))]) ∧ w' = w := by
  unfold P18 at *
  have := Mul64_c a.natAbs b.natAbs (by omega) (by omega) w
  rw [mg_nat, mg_nat] at this
  refine this.mono ?_
  rintro e w' ⟨rfl, rfl⟩
  refine ⟨?_, rfl⟩
  rw [mg_mul, ← mg_nat, ← mg_nat]
  unfold wH wL
  rw [← Int.natCast_mul]
  rfl
theorem wrap_mg {a : Int} (h : P18 a) : IntKind.u64.wrap (mg a) = mg a := by
  unfold P18 at h
  rw [wrap_u64]
  have : 0 ≤ mg a ∧ mg a ≤ 1000000000000000000 := by unfold mg; split <;> omega
  omega
theorem wrap_wH {v : Int} (h : Wd v) : IntKind.i64.wrap (wH v) = wH v := by
  unfold Wd at h
  have h1 : -9223372036854775808 ≤ wH v ∧ wH v ≤ 9223372036854775807 := by unfold wH; omega
  rw [IntKind.wrap_i64]; omega
set_option maxRecDepth 100000 in
set_option maxHeartbeats 1000000 in
theorem product_c (a b : Int) (ha : P18 a) (hb : P18 b) (w : World) : Calls Try.prog 105 #[.int .i64 a, .int .i64 b] w fun e w' => e = .returned (wV (a * b)) ∧ Below w.heap.size w w' := by
  have H1 := Lib.hid (fun W => Mul64_mg a b ha hb W)
  have hw := wd_mul ha hb
  have h2 := wd_mg hw
  have HM : Hid (∀ W, Calls Try.prog 106 #[.agg #[.int .i64 0, .int .u64 0], wV (mg (a * b))] W fun e w' => e = .returned (wV (0 - mg (a * b))) ∧ Below W.heap.size W w') :=
    Lib.hid (fun W => minus_c 0 (mg (a * b)) (by have := h2.1; unfold Wd at *; omega) W)
  have u3 := wrap_mg ha
  have u4 := wrap_mg hb
  have u5 := wrap_wH h2.1
  have n1 : IntKind.i64.wrap (-a) = -a := IntWalk.i64_in _ (by unfold P18 at ha; omega)
  have n2 : IntKind.i64.wrap (-b) = -b := IntWalk.i64_in _ (by unfold P18 at hb; omega)
  clear ha hb hw h2
  rcases Int.lt_or_le a 0 with h | h <;> rcases Int.lt_or_le b 0 with k | k
  · have q := Int.mul_pos_of_neg_of_neg h k
    have e : wV (a * b) = wV (mg (a * b)) := by congr 1; unfold mg; split <;> omega
    rw [e]
    clear e q
    have ea : mg a = -a := by unfold mg; rw [if_pos h]
    have ta : a < -a := by omega
    have eb : mg b = -b := by unfold mg; rw [if_pos k]
    have tb : b < -b := by omega
    unfold wV at *
    generalize wH (0 - mg (a * b)) = h3 at *
    generalize wL (0 - mg (a * b)) = l3 at *
    generalize wH (mg (a * b)) = h2 at *
    generalize wL (mg (a * b)) = l2 at *
    rw [ea] at H1 u3
    rw [eb] at H1 u4
    clear ea eb
    go_enter Try.func105, Try.ntmps105
    go_wp2_with (first | (go_at_call 118; (with_reducible refine (H1.out _).mono ?_); rintro e w' ⟨rfl, rfl⟩))
    (try simp only [Exit.inBlock, Exit.then])
    refine bodyPost_ret (res_two rfl _ _ (w.heap.size) _ _ rfl (load_wd _ _ (.int .i64 h2) (.int .u64 l2) (by simp [go_sem, *]) (by simp [go_sem, *]))) rfl ?_
    exact ⟨rfl, by (repeat (first | (with_reducible exact Below.refl _ _) | (with_reducible assumption) | (with_reducible refine Below.drew ?_) | (with_reducible refine Below.allocS ?_ _) | (with_reducible refine Below.setCell ?_ ?_ _) | (with_reducible refine Below.step ?_ (by assumption)) | (with_reducible refine Below.drewN' ?_ _))); (try any_goals (first | (with_reducible assumption) | (simp; done) | (simp; omega) | omega))⟩
  · have q := Int.mul_nonpos_of_nonpos_of_nonneg (Int.le_of_lt h) k
    have e : wV (a * b) = wV (0 - mg (a * b)) := by congr 1; unfold mg; split <;> omega
    rw [e]
    clear e q
    have ea : mg a = -a := by unfold mg; rw [if_pos h]
    have ta : a < -a := by omega
    have eb : mg b = b := by unfold mg; rw [if_neg (by omega)]
    have tb : ¬ b < -b := by omega
    have k' : decide (b < 0) = false := decide_eq_false (by omega)
    clear k
    unfold wV at *
    generalize wH (0 - mg (a * b)) = h3 at *
    generalize wL (0 - mg (a * b)) = l3 at *
    generalize wH (mg (a * b)) = h2 at *
    generalize wL (mg (a * b)) = l2 at *
    rw [ea] at H1 u3
    rw [eb] at H1 u4
    clear ea eb
    go_enter Try.func105, Try.ntmps105
    go_wp2_with (first | (go_at_call 118; (with_reducible refine (H1.out _).mono ?_); rintro e w' ⟨rfl, rfl⟩))
    refine (HM.out _).mono ?_
    rintro e w2 ⟨rfl, hb2⟩
    have x0 : w2.cell? ⟨w.heap.size, 0, none⟩ = some (.int .i64 0) := keep_cell hb2 (by simp [go_sem])
    have x1 : w2.cell? ⟨w.heap.size, 1, none⟩ = some (.int .u64 0) := keep_cell hb2 (by simp [go_sem])
    have f0 : w2.frozen? ⟨w.heap.size, 0, none⟩ = false := keep_frozen hb2 (by simp <;> omega) (by simp [go_sem])
    have f1 : w2.frozen? ⟨w.heap.size, 1, none⟩ = false := keep_frozen hb2 (by simp <;> omega) (by simp [go_sem])
    go_wp2
    (try simp only [Exit.inBlock, Exit.then])
    refine bodyPost_ret (res_two rfl _ _ (w.heap.size) _ _ rfl (load_wd _ _ (.int .i64 h3) (.int .u64 l3) (by simp [go_sem, *]) (by simp [go_sem, *]))) rfl ?_
    exact ⟨rfl, by (repeat (first | (with_reducible exact Below.refl _ _) | (with_reducible assumption) | (with_reducible refine Below.drew ?_) | (with_reducible refine Below.allocS ?_ _) | (with_reducible refine Below.setCell ?_ ?_ _) | (with_reducible refine Below.step ?_ (by assumption)) | (with_reducible refine Below.drewN' ?_ _))); (try any_goals (first | (with_reducible assumption) | (simp; done) | (simp; omega) | omega))⟩
  · have q := Int.mul_nonpos_of_nonneg_of_nonpos h (Int.le_of_lt k)
    have e : wV (a * b) = wV (0 - mg (a * b)) := by congr 1; unfold mg; split <;> omega
    rw [e]
    clear e q
    have ea : mg a = a := by unfold mg; rw [if_neg (by omega)]
    have ta : ¬ a < -a := by omega
    have eb : mg b = -b := by unfold mg; rw [if_pos k]
    have tb : b < -b := by omega
    have h' : decide (a < 0) = false := decide_eq_false (by omega)
    clear h
    unfold wV at *
    generalize wH (0 - mg (a * b)) = h3 at *
    generalize wL (0 - mg (a * b)) = l3 at *
    generalize wH (mg (a * b)) = h2 at *
    generalize wL (mg (a * b)) = l2 at *
    rw [ea] at H1 u3
    rw [eb] at H1 u4
    clear ea eb
    go_enter Try.func105, Try.ntmps105
    go_wp2_with (first | (go_at_call 118; (with_reducible refine (H1.out _).mono ?_); rintro e w' ⟨rfl, rfl⟩))
    refine (HM.out _).mono ?_
    rintro e w2 ⟨rfl, hb2⟩
    have x0 : w2.cell? ⟨w.heap.size, 0, none⟩ = some (.int .i64 0) := keep_cell hb2 (by simp [go_sem])
    have x1 : w2.cell? ⟨w.heap.size, 1, none⟩ = some (.int .u64 0) := keep_cell hb2 (by simp [go_sem])
    have f0 : w2.frozen? ⟨w.heap.size, 0, none⟩ = false := keep_frozen hb2 (by simp <;> omega) (by simp [go_sem])
    have f1 : w2.frozen? ⟨w.heap.size, 1, none⟩ = false := keep_frozen hb2 (by simp <;> omega) (by simp [go_sem])
    go_wp2
    (try simp only [Exit.inBlock, Exit.then])
    refine bodyPost_ret (res_two rfl _ _ (w.heap.size) _ _ rfl (load_wd _ _ (.int .i64 h3) (.int .u64 l3) (by simp [go_sem, *]) (by simp [go_sem, *]))) rfl ?_
    exact ⟨rfl, by (repeat (first | (with_reducible exact Below.refl _ _) | (with_reducible assumption) | (with_reducible refine Below.drew ?_) | (with_reducible refine Below.allocS ?_ _) | (with_reducible refine Below.setCell ?_ ?_ _) | (with_reducible refine Below.step ?_ (by assumption)) | (with_reducible refine Below.drewN' ?_ _))); (try any_goals (first | (with_reducible assumption) | (simp; done) | (simp; omega) | omega))⟩
  · have q := Int.mul_nonneg h k
    have e : wV (a * b) = wV (mg (a * b)) := by congr 1; unfold mg; split <;> omega
    rw [e]
    clear e q
    have ea : mg a = a := by unfold mg; rw [if_neg (by omega)]
    have ta : ¬ a < -a := by omega
    have eb : mg b = b := by unfold mg; rw [if_neg (by omega)]
    have tb : ¬ b < -b := by omega
    have h' : decide (a < 0) = false := decide_eq_false (by omega)
    clear h
    have k' : decide (b < 0) = false := decide_eq_false (by omega)
    clear k
    unfold wV at *
    generalize wH (0 - mg (a * b)) = h3 at *
    generalize wL (0 - mg (a * b)) = l3 at *
    generalize wH (mg (a * b)) = h2 at *
    generalize wL (mg (a * b)) = l2 at *
    rw [ea] at H1 u3
    rw [eb] at H1 u4
    clear ea eb
    go_enter Try.func105, Try.ntmps105
    go_wp2_with (first | (go_at_call 118; (with_reducible refine (H1.out _).mono ?_); rintro e w' ⟨rfl, rfl⟩))
    (try simp only [Exit.inBlock, Exit.then])
    refine bodyPost_ret (res_two rfl _ _ (w.heap.size) _ _ rfl (load_wd _ _ (.int .i64 h2) (.int .u64 l2) (by simp [go_sem, *]) (by simp [go_sem, *]))) rfl ?_
    exact ⟨rfl, by (repeat (first | (with_reducible exact Below.refl _ _) | (with_reducible assumption) | (with_reducible refine Below.drew ?_) | (with_reducible refine Below.allocS ?_ _) | (with_reducible refine Below.setCell ?_ ?_ _) | (with_reducible refine Below.step ?_ (by assumption)) | (with_reducible refine Below.drewN' ?_ _))); (try any_goals (first | (with_reducible assumption) | (simp; done) | (simp; omega) | omega))⟩
end Go.Proofs.Ytbcabckokmjelaa
namespace Go.Proofs.Ytbcabckokmjelaa
open Go.RowKit
set_option linter.unusedVariables false
section
variable {P : Program} {ops : Array Oper} {md : Region.Mode} {C : World → Prop}
/-- In every world of the class the operation yields this one value, and only makes memory. -/
def YR (P : Program) (C : World → Prop) (o : Oper) (v : Value) (a : Act) : Prop := ∀ W, C W → o.quietAt P a (fun W' => Below W.heap.size W W') W v
def rOp (P : Program) (ops : Array Oper) (C : World → Prop) (i : Nat) (K : Act → Prop) (a : Act) : Prop :=
  ∃ o v, ops[i]? = some o ∧ o.guard = none ∧ YR P C o v a ∧ K (a.put o.dst v)
def wpQR (P : Program) (C : World → Prop) (Q : Act → Prop) : List Oper → Act → Prop
  | [], a => Q a
  | o :: rest, a => o.guard = none ∧ ∃ v, YR P C o v a ∧ wpQR P C Q rest (a.put o.dst v)
theorem rOp_mono {i : Nat} {a : Act} {K K' : Act → Prop} (h : ∀ a, K a → K' a) (hh : rOp P ops C i K a) : rOp P ops C i K' a := by
  obtain ⟨o, v, h1, h2, h3, h4⟩ := hh
  exact ⟨o, v, h1, h2, h3, h _ h4⟩
theorem YR.of_same {o : Oper} {v : Value} {a a' : Act} (hy : YR P C o v a) (he : execOp a'.eval o = execOp a.eval o) : YR P C o v a' := by
  intro W hW
  have := hy W hW
  unfold Oper.quietAt at *
  rwa [he]
theorem rOp_put {j : Nat} {oi oj : Oper} {v : Value} (hj : ops[j]? = some oj) (hap : oi.apart ops oj = true)
    (hsi : ∀ cs b, oi.op ≠ .select cs b) (hsj : ∀ cs b, oj.op ≠ .select cs b) {K : Act → Prop} {a : Act}
    (hy : YR P C oi v a) (h : rOp P ops C j K (a.put oi.dst v)) : rOp P ops C j (fun a' => YR P C oi v a' ∧ K (a'.put oi.dst v)) a := by
  obtain ⟨h1, h2, h3⟩ := Oper.apart_spec hap
  obtain ⟨o, u, k1, k2, k3, k4⟩ := h
  obtain rfl : o = oj := Option.some.inj (k1.symm.trans hj)
  exact ⟨o, u, k1, k2, k3.of_same (execOp_put o hsj a oi.dst v h1).symm, hy.of_same (execOp_put oi hsi a o.dst u h3), by rw [← Act.put_comm a v u h2]; exact k4⟩
def headR (P : Program) (md : Region.Mode) (ops : Array Oper) (C : World → Prop) (n : Nat) (L : Array Bool → Act → Prop) : Nat → Array Bool → Act → Prop
  | 0, listed, a => L listed a
  | f + 1, listed, a => Region.ready md ops listed ≠ [] ∧ ∀ i ∈ Region.ready md ops listed, i < n ∧ rOp P ops C i (headR P md ops C n L f (listed.setIfInBounds i true)) a
theorem headR_first {n i : Nat} {oi : Oper} {v : Value} {L : Array Bool → Act → Prop} (hi : ops[i]? = some oi) (hgi : oi.guard = none) (hsel : ∀ (j : Nat) (o : Oper) cs b, ops[j]? = some o → o.op ≠ .select cs b)
    (hs : Region.sinkB md ops n = true) (hc : Region.chainB md ops n = true) (hn : n < ops.size) (hin : i < n) (hdone : ∀ listed a, L listed a → ∀ j ∈ Region.ready md ops listed, n ≤ j) (f : Nat) :
    ∀ (listed : Array Bool) (a : Act), HeadInv md ops n listed →
      (∀ j oj, ops[j]? = some oj → j ≠ i → listed.getD j true = false → (∀ e ∈ oj.after, Region.binds md e = true → e.on ≠ i) → oi.apart ops oj = true) →
      i ∈ Region.ready md ops listed → YR P C oi v a → headR P md ops C n L f (listed.setIfInBounds i true) (a.put oi.dst v) → headR P md ops C n L (f + 1) listed a := by
  induction f with
  | zero =>
    intro listed a inv hfree hr hy H
    refine ⟨fun h => (by rw [h] at hr; cases hr), fun j hj => ?_⟩
    have hjn : j < n := by
      rcases Nat.lt_or_ge j n with h | h
      · exact h
      · exact absurd hj (tail_waits hs hc hn inv _ i rfl hin (mem_ready.1 hr).1 j h)
    by_cases hji : j = i
    · exact ⟨hjn, by rw [hji]; exact ⟨oi, v, hi, hgi, hy, H⟩⟩
    · have := hdone _ _ H j (ready_mono hj hji)
      omega
  | succ f ih =>
    intro listed a inv hfree hr hy H
    refine ⟨fun h => (by rw [h] at hr; cases hr), fun j hj => ?_⟩
    have hjn : j < n := by
      rcases Nat.lt_or_ge j n with h | h
      · exact h
      · exact absurd hj (tail_waits hs hc hn inv _ i rfl hin (mem_ready.1 hr).1 j h)
    refine ⟨hjn, ?_⟩
    by_cases hji : j = i
    · rw [hji]; exact ⟨oi, v, hi, hgi, hy, H⟩
    obtain ⟨hjun, oj, hoj, hall⟩ := mem_ready.1 hj
    have hno := not_yet (oj := oj) hr hall
    have h2 := rOp_put hoj (hfree j oj hoj hji hjun hno) (fun cs b => hsel i oi cs b hi) (fun cs b => hsel j oj cs b hoj) hy (H.2 j (ready_mono hj hji)).2
    refine rOp_mono (fun a' h3 => ih (listed.setIfInBounds j true) a' (inv.set hj hjn) ?_ (ready_mono hr (Ne.symm hji)) h3.1 ?_) h2
    · intro k ok hk hki hun hno'
      refine hfree k ok hk hki ?_ hno'
      by_cases hjk : j = k
      · rw [← hjk]; exact hjun
      · rwa [getD_set_ne true hjk] at hun
    · rw [Array.setIfInBounds_comm _ _ hji]; exact h3.2
/-- The head in the order of the text, from k to m; behind it the tail from n. -/
def lexHeadN (md : Region.Mode) (ops : Array Oper) (g n : Nat) : Nat → Nat → Array Bool → Bool
  | 0, k, listed => Region.seqB md ops g n listed
  | f + 1, k, listed => (Region.ready md ops listed).contains k && Region.free md ops listed k && lexHeadN md ops g n f (k + 1) (listed.setIfInBounds k true)
theorem headR_lex {n g : Nat} {Lq : Act → Prop} (hsel : Region.noSelect ops = true) (hs : Region.sinkB md ops n = true) (hc : Region.chainB md ops n = true) (hn : n < ops.size) :
    ∀ (l : List Oper) (k : Nat) (listed : Array Bool) (a : Act), (∀ j, j < l.length → l[j]? = ops[k + j]?) → k + l.length < n → HeadInv md ops n listed →
    lexHeadN md ops g n l.length k listed = true → wpQR P C Lq l a → headR P md ops C n (fun listed' a' => Region.seqB md ops g n listed' = true ∧ Lq a') l.length listed a := by
  intro l
  induction l with
  | nil =>
    intro k listed a _ hk _ hB h
    exact ⟨by simpa [lexHeadN] using hB, h⟩
  | cons o l ih =>
    intro k listed a hl hk inv hB h
    have h0 : ops[k]? = some o := by simpa using (hl 0 (by simp)).symm
    simp only [List.length_cons, lexHeadN, Bool.and_eq_true] at hB
    obtain ⟨⟨hr, hf⟩, hB'⟩ := hB
    have hlen : k + 1 + l.length < n := by simp only [List.length_cons] at hk; omega
    have hr' : k ∈ Region.ready md ops listed := by simpa using hr
    obtain ⟨hg, v, hy, hK⟩ := h
    refine headR_first h0 hg (Region.noSelect_spec hsel) hs hc hn (by omega) (fun listed' a' hL => seqB_ready hL.1) l.length listed a inv (Region.free_spec h0 hf) hr' hy (ih (k + 1) _ _ (fun j hj => ?_) hlen (inv.set hr' (by omega)) hB' hK)
    have := hl (j + 1) (by simp; omega)
    simpa [Nat.add_assoc, Nat.add_comm 1 j] using this
theorem wp_of_YR {o : Oper} {v : Value} {a : Act} {W : World} {K' : Act → World → Prop} {Q' : Exit → Act → World → Prop} (hy : YR P C o v a) (hCs : ∀ W W', C W → Below W.heap.size W W' → C W') (hW : C W)
    (hK : ∀ W', Below W.heap.size W W' → K' (a.put o.dst v) W') : o.wp P a W K' Q' := by
  refine Oper.wp_of_quiet (C := fun W' => Below W.heap.size W W') (K := fun a' => a' = a.put o.dst v) (Below.refl _ _) (fun a' w' hw' he => by rw [he]; exact hK w' hw') ⟨v, fun W2 h2 => ?_, rfl⟩
  have := hy W2 (hCs _ _ hW h2)
  unfold Oper.quietAt Oper.quietUpon at *
  split at this
  · exact this
  · exact this
  · exact ⟨this.1, this.2.mono fun e w'' he => ⟨he.1, Below.step h2 he.2⟩⟩
  · exact this
/-- Behind the allocation. -/
theorem any_after {n m g : Nat} {om : Oper} {p : Value} {L : Array Bool → Act → Prop} {Q' : Exit → Act → World → Prop} {D : World → Prop} (hsel : Region.noSelect ops = true) (hm : ops[m]? = some om)
    (hap : ∀ j oj, j < n → j ≠ m → ops[j]? = some oj → om.apart ops oj = true) (hCs : ∀ W W', C W → Below W.heap.size W W' → C W') (hDs : ∀ W W', D W → Below W.heap.size W W' → D W')
    (hL : ∀ listed a w, C w → D w → L listed a → wpAny P md ops Q' g listed (a.put om.dst p) w) :
    ∀ (f : Nat) (listed : Array Bool) (a : Act) (w : World), C w → D w → listed.getD m false = true → headR P md ops C n L f listed a → wpAny P md ops Q' (f + g) listed (a.put om.dst p) w := by
  intro f
  induction f with
  | zero => intro listed a w hw hd _ h; rw [Nat.zero_add]; exact hL _ _ _ hw hd h
  | succ f ih =>
    intro listed a w hw hd hlm h
    rw [show f + 1 + g = (f + g) + 1 by omega]
    refine ⟨fun h0 => absurd h0 h.1, fun i hi => ?_⟩
    obtain ⟨hin, o, v, k1, k2, k3, k4⟩ := h.2 i hi
    have him : i ≠ m := fun e => by
      have := (mem_ready.1 hi).1
      rw [e] at this
      have := getD_both this
      rw [hlm] at this; cases this
    obtain ⟨h1, h2, h3⟩ := Oper.apart_spec (hap i o hin him k1)
    have hy : YR P C o v (a.put om.dst p) := k3.of_same (execOp_put o (Region.noSelect_spec hsel i o · · k1) a om.dst p h1)
    unfold wpOp
    simp only [k1]
    rw [if_pos (by simp [Region.wanted, k2])]
    refine .inl (wp_of_YR hy hCs hw fun W' hb => ?_)
    rw [Act.put_comm a p v h2]
    exact ih _ _ _ (hCs _ _ hw hb) (hDs _ _ hd hb) (getD_set_true hlm) k4
/-- Ahead of it. -/
theorem any_before {n m g : Nat} {om : Oper} {ob : Obj} {L : Array Bool → Act → Prop} {Q' : Exit → Act → World → Prop} (hsel : Region.noSelect ops = true) (hs : Region.sinkB md ops n = true) (hc : Region.chainB md ops n = true) (hn : n < ops.size)
    (hm : ops[m]? = some om) (hmn : m < n) (hmg : om.guard = none)
    (hall : ∀ (a : Act) W, (execOp a.eval om).run P W = .ok (.value (.pointer (some ⟨W.heap.size, 0, none⟩))) (W.alloc ob))
    (hap : ∀ j oj, j < n → j ≠ m → ops[j]? = some oj → om.apart ops oj = true) (hCs : ∀ W W', C W → Below W.heap.size W W' → C W')
    (hdone : ∀ listed a, L listed a → ∀ j ∈ Region.ready md ops listed, n ≤ j)
    (hL : ∀ W1, C W1 → ∀ listed a w, C w → Below (W1.alloc ob).heap.size (W1.alloc ob) w → L listed a → wpAny P md ops Q' g listed (a.put om.dst (.pointer (some ⟨W1.heap.size, 0, none⟩))) w) :
    ∀ (f : Nat) (listed : Array Bool) (a : Act) (w : World), C w → HeadInv md ops n listed → m ∈ Region.ready md ops listed → headR P md ops C n L f (listed.setIfInBounds m true) a → wpAny P md ops Q' (f + g + 1) listed a w := by
  intro f
  induction f with
  | zero =>
    intro listed a w hw inv hr h
    refine ⟨fun h0 => (by rw [h0] at hr; cases hr), fun i hi => ?_⟩
    by_cases him : i = m
    · subst him
      unfold wpOp
      simp only [hm]
      rw [if_pos (by simp [Region.wanted, hmg])]
      refine .inl ?_
      unfold Oper.wp
      rw [hall]
      simp only [Oper.upon]
      have hb : Below w.heap.size w (w.alloc ob) := Below.allocS (Below.refl _ _) ob
      rw [Nat.zero_add]
      exact hL w hw _ _ _ (hCs _ _ hw hb) (Below.refl _ _) h
    · have h1 := hdone _ _ h i (ready_mono hi him)
      exact absurd hi (tail_waits hs hc hn inv _ m rfl hmn (mem_ready.1 hr).1 i h1)
  | succ f ih =>
    intro listed a w hw inv hr h
    refine ⟨fun h0 => (by rw [h0] at hr; cases hr), fun i hi => ?_⟩
    by_cases him : i = m
    · subst him
      unfold wpOp
      simp only [hm]
      rw [if_pos (by simp [Region.wanted, hmg])]
      refine .inl ?_
      unfold Oper.wp
      rw [hall]
      simp only [Oper.upon]
      have hb : Below w.heap.size w (w.alloc ob) := Below.allocS (Below.refl _ _) ob
      refine any_after (D := fun W => Below (w.alloc ob).heap.size (w.alloc ob) W) hsel hm hap hCs (fun W W' h1 h2 => Below.step h1 h2) (fun listed a W hC hD h => hL w hw _ _ _ hC hD h) (f + 1) _ _ _ (hCs _ _ hw hb) (Below.refl _ _) ?_ h
      have hun := (mem_ready.1 hr).1
      rcases Nat.lt_or_ge i listed.size with hlt | hge
      · simp [hlt]
      · simp [Array.getElem?_eq_none hge] at hun
    · obtain ⟨hin, o, v, k1, k2, k3, k4⟩ := h.2 i (ready_mono hi him)
      unfold wpOp
      simp only [k1]
      rw [if_pos (by simp [Region.wanted, k2])]
      refine .inl (wp_of_YR k3 hCs hw fun W' hb => ?_)
      have := ih (listed.setIfInBounds i true) _ W' (hCs _ _ hw hb) (inv.set hi hin) (ready_mono hr (Ne.symm him)) (by rw [Array.setIfInBounds_comm _ _ him]; exact k4)
      rwa [show f + 1 + g = f + g + 1 by omega]
def newB (md : Region.Mode) (ops : Array Oper) (n : Nat) : Bool :=
  Region.noSelect ops && decide (n + 1 < ops.size) && Region.sinkB md ops (n + 1) && Region.chainB md ops (n + 1) && (Region.ready md ops (Array.replicate ops.size false)).contains n &&
    ((List.range n).all fun j => match ops[n]?, ops[j]? with | some om, some oj => om.apart ops oj | _, _ => false) &&
    lexHeadN md ops (ops.size - (n + 1)) (n + 1) n 0 ((Array.replicate ops.size false).setIfInBounds n true)
/-- The law: operation n allocates, those before it are quiet, those behind it are forced. -/
theorem region_new {id : Nat} {Q : Exit → Act → World → Prop} {a : Act} {w : World} {l : List Oper} (n : Nat) {om : Oper} {ob : Obj} (hm : P.follows .mixedOrders = true) (hB : newB .any l.toArray n = true) (hom : l[n]? = some om) (hmg : om.guard = none)
    (hall : ∀ (a : Act) W, (execOp a.eval om).run P W = .ok (.value (.pointer (some ⟨W.heap.size, 0, none⟩))) (W.alloc ob))
    (h : wpQR P (fun W => Below w.heap.size w W) (fun a' => ∀ W1 W, Below w.heap.size w W1 → Below (W1.alloc ob).heap.size (W1.alloc ob) W → wpList P l.toArray Q (l.drop (n + 1)) (a'.put om.dst (.pointer (some ⟨W1.heap.size, 0, none⟩))) W) (l.take n) a) :
    (Code.region id l.toArray true).wp P Q a w := by
  simp only [newB, Bool.and_eq_true, decide_eq_true_eq] at hB
  obtain ⟨⟨⟨⟨⟨⟨hsel, hn⟩, hs⟩, hc⟩, hrd⟩, hapB⟩, hlex⟩ := hB
  have hnl : n + 1 < l.length := by simpa using hn
  have htl : (l.take n).length = n := by rw [List.length_take]; omega
  have hdl : (l.drop (n + 1)).length = l.toArray.size - (n + 1) := by simp
  have hrd' : n ∈ Region.ready .any l.toArray (Array.replicate l.toArray.size false) := by simpa using hrd
  have hom' : l.toArray[n]? = some om := by simpa using hom
  have inv0 : HeadInv .any l.toArray (n + 1) (Array.replicate l.toArray.size false) :=
    ⟨by simp, fun j oj _ hl => (by rw [getD_replicate_false] at hl; cases hl), fun t _ ht => getD_in (by simpa using ht) (getD_replicate_false _ _)⟩
  have hap : ∀ j oj, j < n + 1 → j ≠ n → l.toArray[j]? = some oj → om.apart l.toArray oj = true := by
    intro j oj h1 h2 h3
    have := List.all_eq_true.1 hapB j (List.mem_range.2 (by omega))
    rw [hom', h3] at this
    exact this
  have H := headR_lex (md := .any) (C := fun W => Below w.heap.size w W) (g := l.toArray.size - (n + 1)) hsel hs hc hn (l.take n) 0 _ a (fun j hj => by rw [htl] at hj; simp [hj]) (by rw [htl]; omega) (inv0.set hrd' (by omega)) (by rw [htl]; exact hlex) h
  refine wp_region_any hm ?_
  have := any_before (Q' := Q) (g := l.toArray.size - (n + 1)) (ob := ob) hsel hs hc hn hom' (by omega) hmg hall hap (fun W W' h1 h2 => Below.step h1 h2) (fun listed' a' hL => seqB_ready hL.1) (fun W1 hW1 listed' a' w' hw' hD hL => by
    have := wpAny_of_seq (md := .any) (Q' := Q) (l.drop (n + 1)) (n + 1) listed' _ w' (fun j => by simp [List.getElem?_drop]) (by rw [hdl]; exact hL.1) (hL.2 W1 w' hW1 hD)
    rwa [hdl] at this) _ _ a w.drew (Below.drew (Below.refl _ w)) inv0 hrd' H
  rw [htl, show n + (l.toArray.size - (n + 1)) + 1 = l.toArray.size by have : n + 1 < l.toArray.size := hn; omega] at this
  exact this
theorem qr_val {w : World} {Q : Act → Prop} {a : Act} {o : Oper} {rest : List Oper} {v : Value} (hg : o.guard = none) (hv : ∀ W, Below w.heap.size w W → (execOp a.eval o).run P W = .ok (.value v) W)
    (h : wpQR P (fun W => Below w.heap.size w W) Q rest (a.put o.dst v)) : wpQR P (fun W => Below w.heap.size w W) Q (o :: rest) a :=
  ⟨hg, v, fun W hW => by unfold Oper.quietAt; rw [hv W hW]; exact ⟨rfl, rfl⟩, h⟩
theorem qr_call {w : World} {Q : Act → Prop} {a : Act} {o : Oper} {rest : List Oper} {v : Value} {f : FuncId} {args : Array Value} (hg : o.guard = none) (hv : ∀ W, Below w.heap.size w W → (execOp a.eval o).run P W = .ok (.enter f args) W)
    (hc : ∀ W, Below w.heap.size w W → Calls P f args W fun e W' => e = .returned v ∧ Below W.heap.size W W')
    (h : wpQR P (fun W => Below w.heap.size w W) Q rest (a.put o.dst v)) : wpQR P (fun W => Below w.heap.size w W) Q (o :: rest) a :=
  ⟨hg, v, fun W hW => by unfold Oper.quietAt; rw [hv W hW]; exact ⟨rfl, hc W hW⟩, h⟩
theorem qr_nil {w : World} {Q : Act → Prop} {a : Act} (h : Q a) : wpQR P (fun W => Below w.heap.size w W) Q [] a := h
end
end Go.Proofs.Ytbcabckokmjelaa
namespace Go.Proofs.Ytbcabckokmjelaa
open Go.RowKit Go.Deep
set_option linter.unusedVariables false
set_option linter.unusedSimpArgs false
/-- What the code asks. -/
def hasB (s : Sp) (en ed an ad : Int) : Bool :=
  !decide (1000 * en * ad - 1000 * s.lo * (ed * ad) - (0 - s.s * an * ed) < 0) && !decide (1000 * s.hi * (ed * ad) - 1000 * en * ad - s.s * an * ed < 0)
theorem hasB_iff {s : Sp} {en ed an ad : Int} : hasB s en ed an ad = true ↔ 1000 * s.lo * (ed * ad) ≤ 1000 * en * ad + s.s * an * ed ∧ 1000 * en * ad + s.s * an * ed ≤ 1000 * s.hi * (ed * ad) := by
  unfold hasB
  simp only [Bool.and_eq_true, Bool.not_eq_true', decide_eq_false_iff_not]
  constructor
  · rintro ⟨h, k⟩; omega
  · rintro ⟨h, k⟩; omega
theorem mul_in {a b A B : Int} (hA : 0 ≤ A) (hB : 0 ≤ B) (ha : -A ≤ a ∧ a ≤ A) (hb : -B ≤ b ∧ b ≤ B) : -(A * B) ≤ a * b ∧ a * b ≤ A * B := by
  have h1 : a.natAbs * b.natAbs ≤ A.natAbs * B.natAbs := Nat.mul_le_mul (by omega) (by omega)
  have h2 := Int.natAbs_mul a b
  have h3 : ((A.natAbs * B.natAbs : Nat) : Int) = A * B := by
    rw [Int.natCast_mul, Int.natAbs_of_nonneg hA, Int.natAbs_of_nonneg hB]
  omega
set_option maxRecDepth 100000 in
set_option maxHeartbeats 4000000 in
theorem has_c (s : Sp) (en ed an ad : Int) (hs : SpOk s) (he : okRat en ed = true) (ha : okRat an ad = true) (w : World) :
    Calls Try.prog 83 #[.agg #[.int .i64 s.s, .int .i64 s.lo, .int .i64 s.hi], .agg #[.int .i64 en, .int .i64 ed], .agg #[.int .i64 an, .int .i64 ad]] w fun e w' => e = .returned (.bool (hasB s en ed an ad)) ∧ Below w.heap.size w w' := by
  obtain ⟨e1, e2, e3, e4, -⟩ := okRat_true he
  obtain ⟨a1, a2, a3, a4, -⟩ := okRat_true ha
  have hss := hs.s
  have hlo := hs.lo
  have hhi := hs.hi
  have b0 := mul_in (A := 10000) (B := 1000000000) (by decide) (by decide) (show -10000 ≤ s.s ∧ s.s ≤ 10000 from hss) (show -1000000000 ≤ an ∧ an ≤ 1000000000 from ⟨a3, a4⟩)
  have b1 := mul_in (A := 1000000000) (B := 1000000000) (by decide) (by decide) (show -1000000000 ≤ ed ∧ ed ≤ 1000000000 by omega) (show -1000000000 ≤ ad ∧ ad ≤ 1000000000 by omega)
  have c0 := mul_in (A := 10000000000000) (B := 1000000000) (by decide) (by decide) (show -10000000000000 ≤ s.s * an ∧ s.s * an ≤ 10000000000000 by omega) (show -1000000000 ≤ ed ∧ ed ≤ 1000000000 by omega)
  have c1 := mul_in (A := 1000000000000) (B := 1000000000) (by decide) (by decide) (show -1000000000000 ≤ 1000 * en ∧ 1000 * en ≤ 1000000000000 by omega) (show -1000000000 ≤ ad ∧ ad ≤ 1000000000 by omega)
  have c2 := mul_in (A := 100000000000) (B := 1000000000000000000) (by decide) (by decide) (show -100000000000 ≤ 1000 * s.lo ∧ 1000 * s.lo ≤ 100000000000 by omega) (show -1000000000000000000 ≤ ed * ad ∧ ed * ad ≤ 1000000000000000000 by omega)
  have c3 := mul_in (A := 100000000000) (B := 1000000000000000000) (by decide) (by decide) (show -100000000000 ≤ 1000 * s.hi ∧ 1000 * s.hi ≤ 100000000000 by omega) (show -1000000000000000000 ≤ ed * ad ∧ ed * ad ≤ 1000000000000000000 by omega)
  have P0 := Lib.hid (fun W => product_c (s.s * an) ed (by unfold P18; omega) (by unfold P18; omega) W)
  have P1 := Lib.hid (fun W => product_c (1000 * en) ad (by unfold P18; omega) (by unfold P18; omega) W)
  have P2 := Lib.hid (fun W => product_c (1000 * s.lo) (ed * ad) (by unfold P18; omega) (by unfold P18; omega) W)
  have P3 := Lib.hid (fun W => product_c (1000 * s.hi) (ed * ad) (by unfold P18; omega) (by unfold P18; omega) W)
  have w0 : IntKind.i64.wrap (s.s * an) = s.s * an := IntWalk.i64_in _ (by omega)
  have w1 : IntKind.i64.wrap (1000 * en) = 1000 * en := IntWalk.i64_in _ (by omega)
  have w2 : IntKind.i64.wrap (1000 * s.lo) = 1000 * s.lo := IntWalk.i64_in _ (by omega)
  have w3 : IntKind.i64.wrap (1000 * s.hi) = 1000 * s.hi := IntWalk.i64_in _ (by omega)
  have w4 : IntKind.i64.wrap (ed * ad) = ed * ad := IntWalk.i64_in _ (by omega)
  unfold hasB
  generalize s.s * an * ed = p0 at *
  generalize 1000 * en * ad = p1 at *
  generalize 1000 * s.lo * (ed * ad) = p2 at *
  generalize 1000 * s.hi * (ed * ad) = p3 at *
  have M1 := Lib.hid (fun W => minus_c p1 p2 (by unfold Wd; omega) W)
  have M2 := Lib.hid (fun W => minus_c p3 p1 (by unfold Wd; omega) W)
  have M3 : Hid (∀ W, Calls Try.prog 106 #[.agg #[.int .i64 0, .int .u64 0], wV p0] W fun e w' => e = .returned (wV (0 - p0)) ∧ Below W.heap.size W w') :=
    Lib.hid (fun W => minus_c 0 p0 (by unfold Wd; omega) W)
  have M4 := Lib.hid (fun W => minus_c (p1 - p2) (0 - p0) (by unfold Wd; omega) W)
  have M5 := Lib.hid (fun W => minus_c (p3 - p1) p0 (by unfold Wd; omega) W)
  have B4 := Lib.hid (fun W => below_c (p1 - p2 - (0 - p0)) W)
  have B5 := Lib.hid (fun W => below_c (p3 - p1 - p0) W)
  clear c0 c1 c2 c3 b0 b1 hss hlo hhi e1 e2 e3 e4 a1 a2 a3 a4 he ha hs
  generalize decide (p1 - p2 - (0 - p0) < 0) = X1 at *
  generalize decide (p3 - p1 - p0 < 0) = X2 at *
  unfold wV at *
  generalize wH (p1 - p2 - (0 - p0)) = h7 at *
  generalize wL (p1 - p2 - (0 - p0)) = l7 at *
  generalize wH (p3 - p1 - p0) = h8 at *
  generalize wL (p3 - p1 - p0) = l8 at *
  generalize wH (p1 - p2) = h4 at *
  generalize wL (p1 - p2) = l4 at *
  generalize wH (p3 - p1) = h5 at *
  generalize wL (p3 - p1) = l5 at *
  generalize wH (0 - p0) = h6 at *
  generalize wL (0 - p0) = l6 at *
  generalize wH p0 = h0 at *
  generalize wL p0 = l0 at *
  generalize wH p1 = h1 at *
  generalize wL p1 = l1 at *
  generalize wH p2 = h2 at *
  generalize wL p2 = l2 at *
  generalize wH p3 = h3 at *
  generalize wL p3 = l3 at *
  generalize s.s = ss at *
  generalize s.lo = lo at *
  generalize s.hi = hi at *
  go_enter Try.func83, Try.ntmps83
  go_wp2_with fail
  refine (P0.out _).mono ?_
  rintro e w1 ⟨rfl, hb1⟩
  have x1_0_0 : w1.cell? ⟨w.heap.size, 0, none⟩ = some (.int .i64 ss) := keep_cell hb1 (by simp [go_sem, *])
  have x1_0_1 : w1.cell? ⟨w.heap.size, 1, none⟩ = some (.int .i64 lo) := keep_cell hb1 (by simp [go_sem, *])
  have x1_0_2 : w1.cell? ⟨w.heap.size, 2, none⟩ = some (.int .i64 hi) := keep_cell hb1 (by simp [go_sem, *])
  have y1_0 : w.heap.size < w1.heap.size := cell?_lt x1_0_0
  have x1_1_0 : w1.cell? ⟨w.heap.size + 1, 0, none⟩ = some (.int .i64 en) := keep_cell hb1 (by simp [go_sem, *])
  have x1_1_1 : w1.cell? ⟨w.heap.size + 1, 1, none⟩ = some (.int .i64 ed) := keep_cell hb1 (by simp [go_sem, *])
  have y1_1 : w.heap.size + 1 < w1.heap.size := cell?_lt x1_1_0
  have x1_2_0 : w1.cell? ⟨w.heap.size + 1 + 1, 0, none⟩ = some (.int .i64 an) := keep_cell hb1 (by simp [go_sem, *])
  have x1_2_1 : w1.cell? ⟨w.heap.size + 1 + 1, 1, none⟩ = some (.int .i64 ad) := keep_cell hb1 (by simp [go_sem, *])
  have y1_2 : w.heap.size + 1 + 1 < w1.heap.size := cell?_lt x1_2_0
  have g1 : Below w.heap.size w w1 := by (repeat (first | exact Below.refl _ _ | refine Below.drew ?_ | refine Below.allocS ?_ _ | refine Below.step ?_ (by assumption) | refine Below.setCell ?_ (by simp <;> omega) _ | refine Below.drewN' ?_ _))
  clear hb1
  go_wp2_with fail
  refine region_new 33 (om := ⟨_, _, _, _, _, _⟩) (ob := .cells #[.int .i64 0, .int .u64 0, .int .i64 0, .int .u64 0] 137) (by kernel_rfl) (by kernel_rfl) rfl rfl (fun a W => by go_simp) ?_; simp only [List.take_succ_cons, List.take_zero, List.drop_succ_cons, List.drop_zero]
  (refine qr_val (v := ?_) rfl ?_ ?_; rotate_left 1; (· (intro Wq hWq; obtain ⟨hWc, hWf⟩ := bcell hWq; go_simp; (try with_reducible rfl))); (try simp only [Act.put, List.setIfInBounds_toArray, List.set_cons_zero, List.set_cons_succ]))
  (refine qr_val (v := ?_) rfl ?_ ?_; rotate_left 1; (· (intro Wq hWq; obtain ⟨hWc, hWf⟩ := bcell hWq; go_simp; (try with_reducible rfl))); (try simp only [Act.put, List.setIfInBounds_toArray, List.set_cons_zero, List.set_cons_succ]))
  (refine qr_val (v := ?_) rfl ?_ ?_; rotate_left 1; (· (intro Wq hWq; obtain ⟨hWc, hWf⟩ := bcell hWq; go_simp; (try with_reducible rfl))); (try simp only [Act.put, List.setIfInBounds_toArray, List.set_cons_zero, List.set_cons_succ]))
  (refine qr_val (v := ?_) rfl ?_ ?_; rotate_left 1; (· (intro Wq hWq; obtain ⟨hWc, hWf⟩ := bcell hWq; go_simp; (try with_reducible rfl))); (try simp only [Act.put, List.setIfInBounds_toArray, List.set_cons_zero, List.set_cons_succ]))
  (refine qr_val (v := ?_) rfl ?_ ?_; rotate_left 1; (· (intro Wq hWq; obtain ⟨hWc, hWf⟩ := bcell hWq; go_simp; (try with_reducible rfl))); (try simp only [Act.put, List.setIfInBounds_toArray, List.set_cons_zero, List.set_cons_succ]))
  refine qr_call (f := 105) (args := ?_) (v := ?_) rfl ?_ ?_ ?_; rotate_left 2
  · (intro Wq hWq; obtain ⟨hWc, hWf⟩ := bcell hWq; go_simp; (first | with_reducible rfl | exact ⟨rfl, rfl⟩))
  · (intro Wq hWq; exact P1.out Wq)
  (try simp only [Act.put, List.setIfInBounds_toArray, List.set_cons_zero, List.set_cons_succ])
  (refine qr_val (v := ?_) rfl ?_ ?_; rotate_left 1; (· (intro Wq hWq; obtain ⟨hWc, hWf⟩ := bcell hWq; go_simp; (try with_reducible rfl))); (try simp only [Act.put, List.setIfInBounds_toArray, List.set_cons_zero, List.set_cons_succ]))
  (refine qr_val (v := ?_) rfl ?_ ?_; rotate_left 1; (· (intro Wq hWq; obtain ⟨hWc, hWf⟩ := bcell hWq; go_simp; (try with_reducible rfl))); (try simp only [Act.put, List.setIfInBounds_toArray, List.set_cons_zero, List.set_cons_succ]))
  (refine qr_val (v := ?_) rfl ?_ ?_; rotate_left 1; (· (intro Wq hWq; obtain ⟨hWc, hWf⟩ := bcell hWq; go_simp; (try with_reducible rfl))); (try simp only [Act.put, List.setIfInBounds_toArray, List.set_cons_zero, List.set_cons_succ]))
  (refine qr_val (v := ?_) rfl ?_ ?_; rotate_left 1; (· (intro Wq hWq; obtain ⟨hWc, hWf⟩ := bcell hWq; go_simp; (try with_reducible rfl))); (try simp only [Act.put, List.setIfInBounds_toArray, List.set_cons_zero, List.set_cons_succ]))
  (refine qr_val (v := ?_) rfl ?_ ?_; rotate_left 1; (· (intro Wq hWq; obtain ⟨hWc, hWf⟩ := bcell hWq; go_simp; (try with_reducible rfl))); (try simp only [Act.put, List.setIfInBounds_toArray, List.set_cons_zero, List.set_cons_succ]))
  (refine qr_val (v := ?_) rfl ?_ ?_; rotate_left 1; (· (intro Wq hWq; obtain ⟨hWc, hWf⟩ := bcell hWq; go_simp; (try with_reducible rfl))); (try simp only [Act.put, List.setIfInBounds_toArray, List.set_cons_zero, List.set_cons_succ]))
  (refine qr_val (v := ?_) rfl ?_ ?_; rotate_left 1; (· (intro Wq hWq; obtain ⟨hWc, hWf⟩ := bcell hWq; go_simp; (try with_reducible rfl))); (try simp only [Act.put, List.setIfInBounds_toArray, List.set_cons_zero, List.set_cons_succ]))
  (refine qr_val (v := ?_) rfl ?_ ?_; rotate_left 1; (· (intro Wq hWq; obtain ⟨hWc, hWf⟩ := bcell hWq; go_simp; (try with_reducible rfl))); (try simp only [Act.put, List.setIfInBounds_toArray, List.set_cons_zero, List.set_cons_succ]))
  refine qr_call (f := 105) (args := ?_) (v := ?_) rfl ?_ ?_ ?_; rotate_left 2
  · (intro Wq hWq; obtain ⟨hWc, hWf⟩ := bcell hWq; go_simp; (first | with_reducible rfl | exact ⟨rfl, rfl⟩))
  · (intro Wq hWq; exact P2.out Wq)
  (try simp only [Act.put, List.setIfInBounds_toArray, List.set_cons_zero, List.set_cons_succ])
  refine qr_call (f := 106) (args := ?_) (v := ?_) rfl ?_ ?_ ?_; rotate_left 2
  · (intro Wq hWq; obtain ⟨hWc, hWf⟩ := bcell hWq; go_simp; (first | with_reducible rfl | exact ⟨rfl, rfl⟩))
  · (intro Wq hWq; exact M1.out Wq)
  (try simp only [Act.put, List.setIfInBounds_toArray, List.set_cons_zero, List.set_cons_succ])
  (refine qr_val (v := ?_) rfl ?_ ?_; rotate_left 1; (· (intro Wq hWq; obtain ⟨hWc, hWf⟩ := bcell hWq; go_simp; (try with_reducible rfl))); (try simp only [Act.put, List.setIfInBounds_toArray, List.set_cons_zero, List.set_cons_succ]))
  (refine qr_val (v := ?_) rfl ?_ ?_; rotate_left 1; (· (intro Wq hWq; obtain ⟨hWc, hWf⟩ := bcell hWq; go_simp; (try with_reducible rfl))); (try simp only [Act.put, List.setIfInBounds_toArray, List.set_cons_zero, List.set_cons_succ]))
  (refine qr_val (v := ?_) rfl ?_ ?_; rotate_left 1; (· (intro Wq hWq; obtain ⟨hWc, hWf⟩ := bcell hWq; go_simp; (try with_reducible rfl))); (try simp only [Act.put, List.setIfInBounds_toArray, List.set_cons_zero, List.set_cons_succ]))
  (refine qr_val (v := ?_) rfl ?_ ?_; rotate_left 1; (· (intro Wq hWq; obtain ⟨hWc, hWf⟩ := bcell hWq; go_simp; (try with_reducible rfl))); (try simp only [Act.put, List.setIfInBounds_toArray, List.set_cons_zero, List.set_cons_succ]))
  (refine qr_val (v := ?_) rfl ?_ ?_; rotate_left 1; (· (intro Wq hWq; obtain ⟨hWc, hWf⟩ := bcell hWq; go_simp; (try with_reducible rfl))); (try simp only [Act.put, List.setIfInBounds_toArray, List.set_cons_zero, List.set_cons_succ]))
  (refine qr_val (v := ?_) rfl ?_ ?_; rotate_left 1; (· (intro Wq hWq; obtain ⟨hWc, hWf⟩ := bcell hWq; go_simp; (try with_reducible rfl))); (try simp only [Act.put, List.setIfInBounds_toArray, List.set_cons_zero, List.set_cons_succ]))
  (refine qr_val (v := ?_) rfl ?_ ?_; rotate_left 1; (· (intro Wq hWq; obtain ⟨hWc, hWf⟩ := bcell hWq; go_simp; (try with_reducible rfl))); (try simp only [Act.put, List.setIfInBounds_toArray, List.set_cons_zero, List.set_cons_succ]))
  (refine qr_val (v := ?_) rfl ?_ ?_; rotate_left 1; (· (intro Wq hWq; obtain ⟨hWc, hWf⟩ := bcell hWq; go_simp; (try with_reducible rfl))); (try simp only [Act.put, List.setIfInBounds_toArray, List.set_cons_zero, List.set_cons_succ]))
  refine qr_call (f := 105) (args := ?_) (v := ?_) rfl ?_ ?_ ?_; rotate_left 2
  · (intro Wq hWq; obtain ⟨hWc, hWf⟩ := bcell hWq; go_simp; (first | with_reducible rfl | exact ⟨rfl, rfl⟩))
  · (intro Wq hWq; exact P3.out Wq)
  (try simp only [Act.put, List.setIfInBounds_toArray, List.set_cons_zero, List.set_cons_succ])
  (refine qr_val (v := ?_) rfl ?_ ?_; rotate_left 1; (· (intro Wq hWq; obtain ⟨hWc, hWf⟩ := bcell hWq; go_simp; (try with_reducible rfl))); (try simp only [Act.put, List.setIfInBounds_toArray, List.set_cons_zero, List.set_cons_succ]))
  (refine qr_val (v := ?_) rfl ?_ ?_; rotate_left 1; (· (intro Wq hWq; obtain ⟨hWc, hWf⟩ := bcell hWq; go_simp; (try with_reducible rfl))); (try simp only [Act.put, List.setIfInBounds_toArray, List.set_cons_zero, List.set_cons_succ]))
  (refine qr_val (v := ?_) rfl ?_ ?_; rotate_left 1; (· (intro Wq hWq; obtain ⟨hWc, hWf⟩ := bcell hWq; go_simp; (try with_reducible rfl))); (try simp only [Act.put, List.setIfInBounds_toArray, List.set_cons_zero, List.set_cons_succ]))
  (refine qr_val (v := ?_) rfl ?_ ?_; rotate_left 1; (· (intro Wq hWq; obtain ⟨hWc, hWf⟩ := bcell hWq; go_simp; (try with_reducible rfl))); (try simp only [Act.put, List.setIfInBounds_toArray, List.set_cons_zero, List.set_cons_succ]))
  (refine qr_val (v := ?_) rfl ?_ ?_; rotate_left 1; (· (intro Wq hWq; obtain ⟨hWc, hWf⟩ := bcell hWq; go_simp; (try with_reducible rfl))); (try simp only [Act.put, List.setIfInBounds_toArray, List.set_cons_zero, List.set_cons_succ]))
  refine qr_call (f := 105) (args := ?_) (v := ?_) rfl ?_ ?_ ?_; rotate_left 2
  · (intro Wq hWq; obtain ⟨hWc, hWf⟩ := bcell hWq; go_simp; (first | with_reducible rfl | exact ⟨rfl, rfl⟩))
  · (intro Wq hWq; exact P1.out Wq)
  (try simp only [Act.put, List.setIfInBounds_toArray, List.set_cons_zero, List.set_cons_succ])
  refine qr_call (f := 106) (args := ?_) (v := ?_) rfl ?_ ?_ ?_; rotate_left 2
  · (intro Wq hWq; obtain ⟨hWc, hWf⟩ := bcell hWq; go_simp; (first | with_reducible rfl | exact ⟨rfl, rfl⟩))
  · (intro Wq hWq; exact M2.out Wq)
  (try simp only [Act.put, List.setIfInBounds_toArray, List.set_cons_zero, List.set_cons_succ])
  (refine qr_val (v := ?_) rfl ?_ ?_; rotate_left 1; (· (intro Wq hWq; obtain ⟨hWc, hWf⟩ := bcell hWq; go_simp; (try with_reducible rfl))); (try simp only [Act.put, List.setIfInBounds_toArray, List.set_cons_zero, List.set_cons_succ]))
  refine qr_nil ?_; intro V1 V h1 h2
  have hV : Below (w1.alloc (.cells #[.int .i64 h0, .int .u64 l0] 134)).heap.size (w1.alloc (.cells #[.int .i64 h0, .int .u64 l0] 134)) V := Below.step (Below.allocS h1 _) h2
  have k0 : V.cell? ⟨w1.heap.size, 0, none⟩ = some (.int .i64 h0) := keep_cell hV (by simp [go_sem])
  have k1 : V.cell? ⟨w1.heap.size, 1, none⟩ = some (.int .u64 l0) := keep_cell hV (by simp [go_sem])
  have z0 : V.cell? ⟨V1.heap.size, 0, none⟩ = some (.int .i64 0) := keep_cell h2 (by simp [go_sem])
  have f0 : V.frozen? ⟨V1.heap.size, 0, none⟩ = false := keep_frozen h2 (by simp) (by simp [go_sem])
  have z1 : V.cell? ⟨V1.heap.size, 1, none⟩ = some (.int .u64 0) := keep_cell h2 (by simp [go_sem])
  have f1 : V.frozen? ⟨V1.heap.size, 1, none⟩ = false := keep_frozen h2 (by simp) (by simp [go_sem])
  have z2 : V.cell? ⟨V1.heap.size, 2, none⟩ = some (.int .i64 0) := keep_cell h2 (by simp [go_sem])
  have f2 : V.frozen? ⟨V1.heap.size, 2, none⟩ = false := keep_frozen h2 (by simp) (by simp [go_sem])
  have z3 : V.cell? ⟨V1.heap.size, 3, none⟩ = some (.int .u64 0) := keep_cell h2 (by simp [go_sem])
  have f3 : V.frozen? ⟨V1.heap.size, 3, none⟩ = false := keep_frozen h2 (by simp) (by simp [go_sem])
  have gV : Below w.heap.size w V := by
    refine Below.trans (Below.allocS g1 _) (hV.mono ?_)
    have := g1.size
    simp; omega
  have yV1 : w1.heap.size < V1.heap.size := by have := h1.size; simp at this; omega
  have yV2 : V1.heap.size < V.heap.size := cell?_lt z0
  have yV3 : w.heap.size ≤ w1.heap.size := g1.size
  clear hV h1 h2 g1
  go_wp2_with fail
  refine (M3.out _).mono ?_
  rintro e w3 ⟨rfl, hb3⟩
  have hq := hb3
  have q0 : w3.cell? ⟨w1.heap.size, 0, none⟩ = some (.int .i64 h0) := keep_cell hq (by simp [go_sem, *])
  have q1 : w3.cell? ⟨w1.heap.size, 1, none⟩ = some (.int .u64 l0) := keep_cell hq (by simp [go_sem, *])
  have q2 : w3.cell? ⟨V1.heap.size, 0, none⟩ = some (.int .i64 h4) := keep_cell hq (by simp [go_sem, *])
  have q3 : w3.cell? ⟨V1.heap.size, 1, none⟩ = some (.int .u64 l4) := keep_cell hq (by simp [go_sem, *])
  have q4 : w3.cell? ⟨V1.heap.size, 2, none⟩ = some (.int .i64 h5) := keep_cell hq (by simp [go_sem, *])
  have q5 : w3.cell? ⟨V1.heap.size, 3, none⟩ = some (.int .u64 l5) := keep_cell hq (by simp [go_sem, *])
  have g3 : Below w.heap.size w w3 := by (repeat (first | exact Below.refl _ _ | refine Below.drew ?_ | refine Below.allocS ?_ _ | refine Below.step ?_ (by assumption) | refine Below.setCell ?_ (by simp <;> omega) _ | refine Below.drewN' ?_ _))
  have y3 : V1.heap.size < w3.heap.size := cell?_lt q2
  have y3' : w1.heap.size < w3.heap.size := cell?_lt q0
  clear hb3 hq z0 z1 z2 z3 f0 f1 f2 f3 k0 k1 gV yV1 yV2
  go_wp2_with fail
  refine (M4.out _).mono ?_
  rintro e w4 ⟨rfl, hb4⟩
  have hr := hb4
  have r0 : w4.cell? ⟨w1.heap.size, 0, none⟩ = some (.int .i64 h0) := keep_cell hr (by simp [go_sem, *])
  have r1 : w4.cell? ⟨w1.heap.size, 1, none⟩ = some (.int .u64 l0) := keep_cell hr (by simp [go_sem, *])
  have r2 : w4.cell? ⟨V1.heap.size, 0, none⟩ = some (.int .i64 h4) := keep_cell hr (by simp [go_sem, *])
  have r3 : w4.cell? ⟨V1.heap.size, 1, none⟩ = some (.int .u64 l4) := keep_cell hr (by simp [go_sem, *])
  have r4 : w4.cell? ⟨V1.heap.size, 2, none⟩ = some (.int .i64 h5) := keep_cell hr (by simp [go_sem, *])
  have r5 : w4.cell? ⟨V1.heap.size, 3, none⟩ = some (.int .u64 l5) := keep_cell hr (by simp [go_sem, *])
  have g4 : Below w.heap.size w w4 := by (repeat (first | exact Below.refl _ _ | refine Below.drew ?_ | refine Below.allocS ?_ _ | refine Below.step ?_ (by assumption) | refine Below.setCell ?_ (by simp <;> omega) _ | refine Below.drewN' ?_ _))
  clear hb4 hr
  go_wp2_with fail
  refine (B4.out _).mono ?_
  rintro e w5 ⟨rfl, hb5⟩
  have hs := hb5
  have s0 : w5.cell? ⟨w1.heap.size, 0, none⟩ = some (.int .i64 h0) := keep_cell hs (by simp [go_sem, *])
  have s1 : w5.cell? ⟨w1.heap.size, 1, none⟩ = some (.int .u64 l0) := keep_cell hs (by simp [go_sem, *])
  have s2 : w5.cell? ⟨V1.heap.size, 0, none⟩ = some (.int .i64 h4) := keep_cell hs (by simp [go_sem, *])
  have s3 : w5.cell? ⟨V1.heap.size, 1, none⟩ = some (.int .u64 l4) := keep_cell hs (by simp [go_sem, *])
  have s4 : w5.cell? ⟨V1.heap.size, 2, none⟩ = some (.int .i64 h5) := keep_cell hs (by simp [go_sem, *])
  have s5 : w5.cell? ⟨V1.heap.size, 3, none⟩ = some (.int .u64 l5) := keep_cell hs (by simp [go_sem, *])
  have g5 : Below w.heap.size w w5 := by (repeat (first | exact Below.refl _ _ | refine Below.drew ?_ | refine Below.allocS ?_ _ | refine Below.step ?_ (by assumption) | refine Below.setCell ?_ (by simp <;> omega) _ | refine Below.drewN' ?_ _))
  clear hb5 hs
  cases X1
  · go_wp2_with fail
    refine (M5.out _).mono ?_
    rintro e w6 ⟨rfl, hb6⟩
    go_wp2_with fail
    refine (B5.out _).mono ?_
    rintro e w7 ⟨rfl, hb7⟩
    go_wp2
    go_ret
    exact ⟨by cases X2 <;> rfl, by (repeat (first | exact Below.refl _ _ | refine Below.drew ?_ | refine Below.allocS ?_ _ | refine Below.step ?_ (by assumption) | refine Below.setCell ?_ (by simp <;> omega) _ | refine Below.drewN' ?_ _))⟩
  · go_wp2
    go_ret
    exact ⟨rfl, by (repeat (first | exact Below.refl _ _ | refine Below.drew ?_ | refine Below.allocS ?_ _ | refine Below.step ?_ (by assumption) | refine Below.setCell ?_ (by simp <;> omega) _ | refine Below.drewN' ?_ _))⟩
end Go.Proofs.Ytbcabckokmjelaa
namespace Go.Proofs.Ytbcabckokmjelaa
open Go.RowKit
set_option linter.unusedVariables false
set_option linter.unusedSimpArgs false
set_option maxHeartbeats 1000000 in
theorem IndexFuncSp (l : List Sp) (A : Option Addr) (cap : Nat) (hl : l.length ≤ 9223372036854775807) (fv : Nat) (caps : Array Value) (p : Sp → Bool) (w : World) (hr : RdL w w.heap.size stE 3 A l)
    (hcall : ∀ (args : Array Value) (W : World), (callFunc fv args).run Try.prog W = .ok (.enter fv args) W)
    (hf : ∀ x ∈ l, ∀ W, Below w.heap.size w W → Calls Try.prog fv (#[.agg #[.int .i64 x.s, .int .i64 x.lo, .int .i64 x.hi]] ++ caps) W fun e W' => e = .returned (.bool (p x)) ∧ Below W.heap.size W W') :
    Calls Try.prog 104 #[.slice A l.length cap, .func (.func fv) #[] caps] w fun e w' => e = .returned (.int .i64 (idxOf p l 0)) ∧ Below w.heap.size w w' := by
  have HF := Lib.hid hf
  have HR := Lib.hid hr
  clear hf hr
  go_enter Try.func104, Try.ntmps104
  go_wp2
  go_loopw [5, 8] (fun u i wr => ∃ k : Nat, k ≤ l.length ∧ i = .int .i64 k ∧ Below w.heap.size w wr ∧ idxOf p l 0 = idxOf p (l.drop k) k) (fun u i _ => l.length - (intOf i).toNat)
  case atStart => exact ⟨0, Nat.zero_le _, rfl, Below.refl _ _, rfl⟩
  case round =>
    obtain ⟨k, hk, rfl, hbw, hx⟩ := hrel
    have HX := Lib.hid hx
    clear hx
    by_cases hlt : k < l.length
    · obtain ⟨b, off, rfl, hb0, hc⟩ := HR.out (by omega)
      have c0 := hc k hlt 0 _ rfl
      have c1 := hc k hlt 1 _ rfl
      have c2 := hc k hlt 2 _ rfl
      clear hc
      rw [← hbw.cell (p := ⟨b, _, none⟩) hb0] at c0 c1 c2
      simp at c0
      have hmem : l[k] ∈ l := List.getElem_mem hlt
      have hcc := Lib.hid (HF.out l[k] hmem wr hbw)
      have hd : l.drop k = l[k] :: l.drop (k + 1) := List.drop_eq_getElem_cons hlt
      have HD := Lib.hid hd
      clear hd
      cases hp : p l[k]
      · go_wp2_with fail
        refine hcc.out.mono ?_
        rintro e w1 ⟨rfl, hb⟩
        rw [hp]
        go_wp2
        go_roundw
        case rel => exact ⟨k + 1, by omega, by go_num, Below.step hbw hb, by rw [HX.out, HD.out, idxOf_false _ _ _ _ hp]⟩
        case measure => simp [intOf]; omega
      · go_wp2_with fail
        refine hcc.out.mono ?_
        rintro e w1 ⟨rfl, hb⟩
        rw [hp]
        go_wp2
        go_ret
        exact ⟨by rw [HX.out, HD.out, idxOf_true _ _ _ _ hp]; rfl, Below.step hbw hb⟩
    · obtain rfl : k = l.length := by omega
      go_wp2
      go_ret
      exact ⟨by rw [HX.out]; simp [idxOf], hbw⟩
theorem ContainsFuncSp (l : List Sp) (A : Option Addr) (cap : Nat) (hl : l.length ≤ 9223372036854775807) (fv : Nat) (caps : Array Value) (p : Sp → Bool) (w : World) (hr : RdL w w.heap.size stE 3 A l)
    (hcall : ∀ (args : Array Value) (W : World), (callFunc fv args).run Try.prog W = .ok (.enter fv args) W)
    (hf : ∀ x ∈ l, ∀ W, Below w.heap.size w W → Calls Try.prog fv (#[.agg #[.int .i64 x.s, .int .i64 x.lo, .int .i64 x.hi]] ++ caps) W fun e W' => e = .returned (.bool (p x)) ∧ Below W.heap.size W W') :
    Calls Try.prog 81 #[.slice A l.length cap, .func (.func fv) #[] caps] w fun e w' => e = .returned (.bool (l.any p)) ∧ Below w.heap.size w w' := by
  have HI := Lib.hid (IndexFuncSp l A cap hl fv caps p w hr hcall hf)
  have HE := Lib.hid (idxOf_any p l 0)
  clear hf hr hcall
  go_enter Try.func81, Try.ntmps81
  go_wp2_with (go_at_call 104; refine HI.out.mono ?_; rintro e w1 ⟨rfl, hb⟩)
  go_ret
  exact ⟨by rw [← HE.out]; rfl, hb⟩


theorem suits1_c (s : Sp) (en ed an ad : Int) (hs : SpOk s) (he : okRat en ed = true) (ha : okRat an ad = true) (P Q : Nat) (W : World) (c0 : W.cell? ⟨P, 0, none⟩ = some (.int .i64 en)) (c1 : W.cell? ⟨P, 1, none⟩ = some (.int .i64 ed)) (c2 : W.cell? ⟨Q, 0, none⟩ = some (.int .i64 an)) (c3 : W.cell? ⟨Q, 1, none⟩ = some (.int .i64 ad)) :
    Calls Try.prog 82 #[.agg #[.int .i64 s.s, .int .i64 s.lo, .int .i64 s.hi], .pointer (some ⟨P, 0, none⟩), .pointer (some ⟨Q, 0, none⟩)] W fun e w' => e = .returned (.bool (!hasB s en ed an ad)) ∧ Below W.heap.size W w' := by
  have H := Lib.hid (fun V => has_c s en ed an ad hs he ha V)
  generalize hasB s en ed an ad = B at *
  have y0 : P < W.heap.size := cell?_lt c0
  have y1 : Q < W.heap.size := cell?_lt c2
  clear hs he ha
  go_enter Try.func82, Try.ntmps82
  go_wp2_with fail
  refine (H.out _).mono ?_
  rintro e w1 ⟨rfl, hb1⟩
  go_wp2
  go_ret
  exact ⟨rfl, by (repeat (first | exact Below.refl _ _ | refine Below.drew ?_ | refine Below.allocS ?_ _ | refine Below.step ?_ (by assumption) | refine Below.setCell ?_ (by simp <;> omega) _ | refine Below.drewN' ?_ _))⟩
theorem call_suits1 (args : Array Value) (W : World) : (callFunc 82 args).run Try.prog W = .ok (.enter 82 args) W := by kernel_rfl
def suE (x : Tb) (l : List Tr) (en ed an ad : Int) : Int := if okRat en ed && okRat an ad then stErr x l else 1
def suB (x : Tb) (l : List Tr) (en ed an ad : Int) : Bool := okRat en ed && okRat an ad && (decide (stErr x l = 0) && (wdL x l).all fun s => hasB s en ed an ad)
set_option maxHeartbeats 2000000 in
theorem Suits_c (x : Tb) (l : List Tr) (en ed an ad : Int) (A : Option Addr) (cap : Nat) (w : World) (hx : TbAt w x) (hl : l.length ≤ cap) (hm : cap ≤ maxLen) (hr : RdL w w.heap.size trE 5 A l) (ht : ∀ t ∈ l, TrAt w t) :
    Calls Try.prog 46 #[.agg #[.slice x.A x.xs.length x.ca, .int .i64 x.e], .slice A l.length cap, .agg #[.int .i64 en, .int .i64 ed], .agg #[.int .i64 an, .int .i64 ad]] w fun e w' => e = .returned (.tuple #[.bool (suB x l en ed an ad), .int .i64 (suE x l en ed an ad)]) ∧ Below w.heap.size w w' := by
  have H1 := Lib.hid (fun W (hb : Below w.heap.size w W) => asked_c x l A cap W (hx.step hb) hl hm (hr.step hb) (fun t h => (ht t h).step hb))
  have V1 := Lib.hid (fun W => ValidRatio_c en ed W)
  have V2 := Lib.hid (fun W => ValidRatio_c an ad W)
  clear hx hl hm hr ht
  unfold suB suE
  cases he : okRat en ed
  · rw [he] at V1
    simp only [Bool.false_and]
    clear he H1
    go_enter Try.func46, Try.ntmps46
    go_wp2_with fail
    refine (V1.out _).mono ?_
    rintro e w1 ⟨rfl, hb1⟩
    have x1_0_0 : w1.cell? ⟨w.heap.size, 0, none⟩ = some (.slice x.A x.xs.length x.ca) := keep_cell hb1 (by simp [go_sem, *])
    have x1_0_1 : w1.cell? ⟨w.heap.size, 1, none⟩ = some (.int .i64 x.e) := keep_cell hb1 (by simp [go_sem, *])
    have y1_0 : w.heap.size < w1.heap.size := cell?_lt x1_0_0
    have x1_1_0 : w1.cell? ⟨w.heap.size + 1, 0, none⟩ = some (.int .i64 en) := keep_cell hb1 (by simp [go_sem, *])
    have x1_1_1 : w1.cell? ⟨w.heap.size + 1, 1, none⟩ = some (.int .i64 ed) := keep_cell hb1 (by simp [go_sem, *])
    have y1_1 : w.heap.size + 1 < w1.heap.size := cell?_lt x1_1_0
    have x1_2_0 : w1.cell? ⟨w.heap.size + 1 + 1, 0, none⟩ = some (.int .i64 an) := keep_cell hb1 (by simp [go_sem, *])
    have x1_2_1 : w1.cell? ⟨w.heap.size + 1 + 1, 1, none⟩ = some (.int .i64 ad) := keep_cell hb1 (by simp [go_sem, *])
    have y1_2 : w.heap.size + 1 + 1 < w1.heap.size := cell?_lt x1_2_0
    have g1 : Below w.heap.size w w1 := by (repeat (first | exact Below.refl _ _ | refine Below.drew ?_ | refine Below.allocS ?_ _ | refine Below.step ?_ (by assumption) | refine Below.setCell ?_ (by simp <;> omega) _ | refine Below.drewN' ?_ _))
    clear hb1
    go_wp2
    go_ret2
    exact ⟨rfl, by (repeat (first | exact Below.refl _ _ | refine Below.drew ?_ | refine Below.allocS ?_ _ | refine Below.step ?_ (by assumption) | refine Below.setCell ?_ (by simp <;> omega) _ | refine Below.drewN' ?_ _))⟩
  cases ha : okRat an ad
  · rw [he] at V1
    rw [ha] at V2
    simp only [Bool.and_false, Bool.false_and]
    clear he ha H1
    go_enter Try.func46, Try.ntmps46
    go_wp2_with fail
    refine (V1.out _).mono ?_
    rintro e w1 ⟨rfl, hb1⟩
    have x1_0_0 : w1.cell? ⟨w.heap.size, 0, none⟩ = some (.slice x.A x.xs.length x.ca) := keep_cell hb1 (by simp [go_sem, *])
    have x1_0_1 : w1.cell? ⟨w.heap.size, 1, none⟩ = some (.int .i64 x.e) := keep_cell hb1 (by simp [go_sem, *])
    have y1_0 : w.heap.size < w1.heap.size := cell?_lt x1_0_0
    have x1_1_0 : w1.cell? ⟨w.heap.size + 1, 0, none⟩ = some (.int .i64 en) := keep_cell hb1 (by simp [go_sem, *])
    have x1_1_1 : w1.cell? ⟨w.heap.size + 1, 1, none⟩ = some (.int .i64 ed) := keep_cell hb1 (by simp [go_sem, *])
    have y1_1 : w.heap.size + 1 < w1.heap.size := cell?_lt x1_1_0
    have x1_2_0 : w1.cell? ⟨w.heap.size + 1 + 1, 0, none⟩ = some (.int .i64 an) := keep_cell hb1 (by simp [go_sem, *])
    have x1_2_1 : w1.cell? ⟨w.heap.size + 1 + 1, 1, none⟩ = some (.int .i64 ad) := keep_cell hb1 (by simp [go_sem, *])
    have y1_2 : w.heap.size + 1 + 1 < w1.heap.size := cell?_lt x1_2_0
    have g1 : Below w.heap.size w w1 := by (repeat (first | exact Below.refl _ _ | refine Below.drew ?_ | refine Below.allocS ?_ _ | refine Below.step ?_ (by assumption) | refine Below.setCell ?_ (by simp <;> omega) _ | refine Below.drewN' ?_ _))
    clear hb1
    go_wp2_with fail
    refine (V2.out _).mono ?_
    rintro e w2 ⟨rfl, hb2⟩
    have x2_0_0 : w2.cell? ⟨w.heap.size, 0, none⟩ = some (.slice x.A x.xs.length x.ca) := keep_cell hb2 (by simp [go_sem, *])
    have x2_0_1 : w2.cell? ⟨w.heap.size, 1, none⟩ = some (.int .i64 x.e) := keep_cell hb2 (by simp [go_sem, *])
    have y2_0 : w.heap.size < w2.heap.size := cell?_lt x2_0_0
    have x2_1_0 : w2.cell? ⟨w.heap.size + 1, 0, none⟩ = some (.int .i64 en) := keep_cell hb2 (by simp [go_sem, *])
    have x2_1_1 : w2.cell? ⟨w.heap.size + 1, 1, none⟩ = some (.int .i64 ed) := keep_cell hb2 (by simp [go_sem, *])
    have y2_1 : w.heap.size + 1 < w2.heap.size := cell?_lt x2_1_0
    have x2_2_0 : w2.cell? ⟨w.heap.size + 1 + 1, 0, none⟩ = some (.int .i64 an) := keep_cell hb2 (by simp [go_sem, *])
    have x2_2_1 : w2.cell? ⟨w.heap.size + 1 + 1, 1, none⟩ = some (.int .i64 ad) := keep_cell hb2 (by simp [go_sem, *])
    have y2_2 : w.heap.size + 1 + 1 < w2.heap.size := cell?_lt x2_2_0
    have g2 : Below w.heap.size w w2 := by (repeat (first | exact Below.refl _ _ | refine Below.drew ?_ | refine Below.allocS ?_ _ | refine Below.step ?_ (by assumption) | refine Below.setCell ?_ (by simp <;> omega) _ | refine Below.drewN' ?_ _))
    clear hb2 g1 x1_0_0 x1_0_1 x1_1_0 x1_1_1 x1_2_0 x1_2_1 y1_0 y1_1 y1_2
    go_wp2
    go_ret2
    exact ⟨rfl, by (repeat (first | exact Below.refl _ _ | refine Below.drew ?_ | refine Below.allocS ?_ _ | refine Below.step ?_ (by assumption) | refine Below.setCell ?_ (by simp <;> omega) _ | refine Below.drewN' ?_ _))⟩
  have HE := Lib.hid he
  have HA := Lib.hid ha
  rw [he] at V1
  rw [ha] at V2
  simp only [Bool.true_and, if_true]
  clear he ha
  by_cases h0 : stErr x l = 0
  · have H1' : Hid (∀ W, Below w.heap.size w W → Calls Try.prog 60 #[.agg #[.slice x.A x.xs.length x.ca, .int .i64 x.e], .slice A l.length cap] W fun e w' => ∃ A' c', e = .returned (.tuple #[.slice A' l.length c', .int .i64 0]) ∧ RdL w' w'.heap.size stE 3 A' (wdL x l) ∧ Below W.heap.size W w') :=
      Lib.hid (fun W hb => (H1.out W hb).mono (by
        rintro e w' ⟨h | h, hb'⟩
        · obtain ⟨-, A', c', h1, h2⟩ := h; exact ⟨A', c', h1, h2, hb'⟩
        · exact absurd h0 h.1))
    have hok := (stErr_ok h0).1
    have hO := okAll_ok hok
    have hln := wdL_len x l
    have hl12 : l.length ≤ 12 := by have := hO.n; omega
    have HW : Hid (∀ (A' : Option Addr) c' W (P Q : Nat), RdL W W.heap.size stE 3 A' (wdL x l) → W.cell? ⟨P, 0, none⟩ = some (.int .i64 en) → W.cell? ⟨P, 1, none⟩ = some (.int .i64 ed) → W.cell? ⟨Q, 0, none⟩ = some (.int .i64 an) → W.cell? ⟨Q, 1, none⟩ = some (.int .i64 ad) →
        Calls Try.prog 81 #[.slice A' l.length c', .func (.func 82) #[] #[.pointer (some ⟨P, 0, none⟩), .pointer (some ⟨Q, 0, none⟩)]] W fun e w' => e = .returned (.bool ((wdL x l).any fun s => !hasB s en ed an ad)) ∧ Below W.heap.size W w') :=
      Lib.hid (fun A' c' W P Q hr c0 c1 c2 c3 => hln ▸ ContainsFuncSp (wdL x l) A' c' (by rw [hln]; omega) _ #[.pointer (some ⟨P, 0, none⟩), .pointer (some ⟨Q, 0, none⟩)] (fun s => !hasB s en ed an ad) W hr call_suits1
        (fun s hs V hb => by simpa using suits1_c s en ed an ad (wdL_ok hok s hs) HE.out HA.out P Q V (keep_cell hb c0) (keep_cell hb c1) (keep_cell hb c2) (keep_cell hb c3)))
    rw [h0, decide_eq_true rfl, Bool.true_and]
    rw [← any_not]
    clear H1 h0 hok hO hln hl12 HE HA
    generalize (wdL x l).any (fun s => !hasB s en ed an ad) = B at *
    go_enter Try.func46, Try.ntmps46
    go_wp2_with fail
    refine (V1.out _).mono ?_
    rintro e w1 ⟨rfl, hb1⟩
    have x1_0_0 : w1.cell? ⟨w.heap.size, 0, none⟩ = some (.slice x.A x.xs.length x.ca) := keep_cell hb1 (by simp [go_sem, *])
    have x1_0_1 : w1.cell? ⟨w.heap.size, 1, none⟩ = some (.int .i64 x.e) := keep_cell hb1 (by simp [go_sem, *])
    have y1_0 : w.heap.size < w1.heap.size := cell?_lt x1_0_0
    have x1_1_0 : w1.cell? ⟨w.heap.size + 1, 0, none⟩ = some (.int .i64 en) := keep_cell hb1 (by simp [go_sem, *])
    have x1_1_1 : w1.cell? ⟨w.heap.size + 1, 1, none⟩ = some (.int .i64 ed) := keep_cell hb1 (by simp [go_sem, *])
    have y1_1 : w.heap.size + 1 < w1.heap.size := cell?_lt x1_1_0
    have x1_2_0 : w1.cell? ⟨w.heap.size + 1 + 1, 0, none⟩ = some (.int .i64 an) := keep_cell hb1 (by simp [go_sem, *])
    have x1_2_1 : w1.cell? ⟨w.heap.size + 1 + 1, 1, none⟩ = some (.int .i64 ad) := keep_cell hb1 (by simp [go_sem, *])
    have y1_2 : w.heap.size + 1 + 1 < w1.heap.size := cell?_lt x1_2_0
    have g1 : Below w.heap.size w w1 := by (repeat (first | exact Below.refl _ _ | refine Below.drew ?_ | refine Below.allocS ?_ _ | refine Below.step ?_ (by assumption) | refine Below.setCell ?_ (by simp <;> omega) _ | refine Below.drewN' ?_ _))
    clear hb1
    go_wp2_with fail
    refine (V2.out _).mono ?_
    rintro e w2 ⟨rfl, hb2⟩
    have x2_0_0 : w2.cell? ⟨w.heap.size, 0, none⟩ = some (.slice x.A x.xs.length x.ca) := keep_cell hb2 (by simp [go_sem, *])
    have x2_0_1 : w2.cell? ⟨w.heap.size, 1, none⟩ = some (.int .i64 x.e) := keep_cell hb2 (by simp [go_sem, *])
    have y2_0 : w.heap.size < w2.heap.size := cell?_lt x2_0_0
    have x2_1_0 : w2.cell? ⟨w.heap.size + 1, 0, none⟩ = some (.int .i64 en) := keep_cell hb2 (by simp [go_sem, *])
    have x2_1_1 : w2.cell? ⟨w.heap.size + 1, 1, none⟩ = some (.int .i64 ed) := keep_cell hb2 (by simp [go_sem, *])
    have y2_1 : w.heap.size + 1 < w2.heap.size := cell?_lt x2_1_0
    have x2_2_0 : w2.cell? ⟨w.heap.size + 1 + 1, 0, none⟩ = some (.int .i64 an) := keep_cell hb2 (by simp [go_sem, *])
    have x2_2_1 : w2.cell? ⟨w.heap.size + 1 + 1, 1, none⟩ = some (.int .i64 ad) := keep_cell hb2 (by simp [go_sem, *])
    have y2_2 : w.heap.size + 1 + 1 < w2.heap.size := cell?_lt x2_2_0
    have g2 : Below w.heap.size w w2 := by (repeat (first | exact Below.refl _ _ | refine Below.drew ?_ | refine Below.allocS ?_ _ | refine Below.step ?_ (by assumption) | refine Below.setCell ?_ (by simp <;> omega) _ | refine Below.drewN' ?_ _))
    clear hb2 g1 x1_0_0 x1_0_1 x1_1_0 x1_1_1 x1_2_0 x1_2_1 y1_0 y1_1 y1_2
    go_wp2_with fail
    refine (H1'.out _ (by (repeat (first | exact Below.refl _ _ | refine Below.drew ?_ | refine Below.allocS ?_ _ | refine Below.step ?_ (by assumption) | refine Below.setCell ?_ (by simp <;> omega) _ | refine Below.drewN' ?_ _)))).mono ?_
    rintro e w3 ⟨A1, c1, rfl, r1, hb3⟩
    have x3_0_0 : w3.cell? ⟨w.heap.size, 0, none⟩ = some (.slice x.A x.xs.length x.ca) := keep_cell hb3 (by simp [go_sem, *])
    have x3_0_1 : w3.cell? ⟨w.heap.size, 1, none⟩ = some (.int .i64 x.e) := keep_cell hb3 (by simp [go_sem, *])
    have y3_0 : w.heap.size < w3.heap.size := cell?_lt x3_0_0
    have x3_1_0 : w3.cell? ⟨w.heap.size + 1, 0, none⟩ = some (.int .i64 en) := keep_cell hb3 (by simp [go_sem, *])
    have x3_1_1 : w3.cell? ⟨w.heap.size + 1, 1, none⟩ = some (.int .i64 ed) := keep_cell hb3 (by simp [go_sem, *])
    have y3_1 : w.heap.size + 1 < w3.heap.size := cell?_lt x3_1_0
    have x3_2_0 : w3.cell? ⟨w.heap.size + 1 + 1, 0, none⟩ = some (.int .i64 an) := keep_cell hb3 (by simp [go_sem, *])
    have x3_2_1 : w3.cell? ⟨w.heap.size + 1 + 1, 1, none⟩ = some (.int .i64 ad) := keep_cell hb3 (by simp [go_sem, *])
    have y3_2 : w.heap.size + 1 + 1 < w3.heap.size := cell?_lt x3_2_0
    have g3 : Below w.heap.size w w3 := by (repeat (first | exact Below.refl _ _ | refine Below.drew ?_ | refine Below.allocS ?_ _ | refine Below.step ?_ (by assumption) | refine Below.setCell ?_ (by simp <;> omega) _ | refine Below.drewN' ?_ _))
    clear hb3 g2 x2_0_0 x2_0_1 x2_1_0 x2_1_1 x2_2_0 x2_2_1 y2_0 y2_1 y2_2
    go_wp2_with fail
    refine (HW.out A1 c1 _ (w.heap.size + 1) (w.heap.size + 1 + 1) r1 (by simp [go_sem, *]) (by simp [go_sem, *]) (by simp [go_sem, *]) (by simp [go_sem, *])).mono ?_
    rintro e w4 ⟨rfl, hb4⟩
    go_wp2
    go_ret2
    exact ⟨rfl, by (repeat (first | exact Below.refl _ _ | refine Below.drew ?_ | refine Below.allocS ?_ _ | refine Below.step ?_ (by assumption) | refine Below.setCell ?_ (by simp <;> omega) _ | refine Below.drewN' ?_ _))⟩
  · have H1' : Hid (∀ W, Below w.heap.size w W → Calls Try.prog 60 #[.agg #[.slice x.A x.xs.length x.ca, .int .i64 x.e], .slice A l.length cap] W fun e w' => e = .returned (.tuple #[.slice none 0 0, .int .i64 (stErr x l)]) ∧ Below W.heap.size W w') :=
      Lib.hid (fun W hb => (H1.out W hb).mono (by
        rintro e w' ⟨h | h, hb'⟩
        · exact absurd h.1 h0
        · exact ⟨h.2, hb'⟩))
    have hc := stErr_cases x l
    rw [decide_eq_false h0, Bool.false_and]
    clear H1 HE HA
    generalize stErr x l = E at *
    rcases hc with rfl | rfl | rfl
    · exact absurd rfl h0
    all_goals
      clear h0
      go_enter Try.func46, Try.ntmps46
      go_wp2_with fail
      refine (V1.out _).mono ?_
      rintro e w1 ⟨rfl, hb1⟩
      have x1_0_0 : w1.cell? ⟨w.heap.size, 0, none⟩ = some (.slice x.A x.xs.length x.ca) := keep_cell hb1 (by simp [go_sem, *])
      have x1_0_1 : w1.cell? ⟨w.heap.size, 1, none⟩ = some (.int .i64 x.e) := keep_cell hb1 (by simp [go_sem, *])
      have y1_0 : w.heap.size < w1.heap.size := cell?_lt x1_0_0
      have x1_1_0 : w1.cell? ⟨w.heap.size + 1, 0, none⟩ = some (.int .i64 en) := keep_cell hb1 (by simp [go_sem, *])
      have x1_1_1 : w1.cell? ⟨w.heap.size + 1, 1, none⟩ = some (.int .i64 ed) := keep_cell hb1 (by simp [go_sem, *])
      have y1_1 : w.heap.size + 1 < w1.heap.size := cell?_lt x1_1_0
      have x1_2_0 : w1.cell? ⟨w.heap.size + 1 + 1, 0, none⟩ = some (.int .i64 an) := keep_cell hb1 (by simp [go_sem, *])
      have x1_2_1 : w1.cell? ⟨w.heap.size + 1 + 1, 1, none⟩ = some (.int .i64 ad) := keep_cell hb1 (by simp [go_sem, *])
      have y1_2 : w.heap.size + 1 + 1 < w1.heap.size := cell?_lt x1_2_0
      have g1 : Below w.heap.size w w1 := by (repeat (first | exact Below.refl _ _ | refine Below.drew ?_ | refine Below.allocS ?_ _ | refine Below.step ?_ (by assumption) | refine Below.setCell ?_ (by simp <;> omega) _ | refine Below.drewN' ?_ _))
      clear hb1
      go_wp2_with fail
      refine (V2.out _).mono ?_
      rintro e w2 ⟨rfl, hb2⟩
      have x2_0_0 : w2.cell? ⟨w.heap.size, 0, none⟩ = some (.slice x.A x.xs.length x.ca) := keep_cell hb2 (by simp [go_sem, *])
      have x2_0_1 : w2.cell? ⟨w.heap.size, 1, none⟩ = some (.int .i64 x.e) := keep_cell hb2 (by simp [go_sem, *])
      have y2_0 : w.heap.size < w2.heap.size := cell?_lt x2_0_0
      have x2_1_0 : w2.cell? ⟨w.heap.size + 1, 0, none⟩ = some (.int .i64 en) := keep_cell hb2 (by simp [go_sem, *])
      have x2_1_1 : w2.cell? ⟨w.heap.size + 1, 1, none⟩ = some (.int .i64 ed) := keep_cell hb2 (by simp [go_sem, *])
      have y2_1 : w.heap.size + 1 < w2.heap.size := cell?_lt x2_1_0
      have x2_2_0 : w2.cell? ⟨w.heap.size + 1 + 1, 0, none⟩ = some (.int .i64 an) := keep_cell hb2 (by simp [go_sem, *])
      have x2_2_1 : w2.cell? ⟨w.heap.size + 1 + 1, 1, none⟩ = some (.int .i64 ad) := keep_cell hb2 (by simp [go_sem, *])
      have y2_2 : w.heap.size + 1 + 1 < w2.heap.size := cell?_lt x2_2_0
      have g2 : Below w.heap.size w w2 := by (repeat (first | exact Below.refl _ _ | refine Below.drew ?_ | refine Below.allocS ?_ _ | refine Below.step ?_ (by assumption) | refine Below.setCell ?_ (by simp <;> omega) _ | refine Below.drewN' ?_ _))
      clear hb2 g1 x1_0_0 x1_0_1 x1_1_0 x1_1_1 x1_2_0 x1_2_1 y1_0 y1_1 y1_2
      go_wp2_with fail
      refine (H1'.out _ (by (repeat (first | exact Below.refl _ _ | refine Below.drew ?_ | refine Below.allocS ?_ _ | refine Below.step ?_ (by assumption) | refine Below.setCell ?_ (by simp <;> omega) _ | refine Below.drewN' ?_ _)))).mono ?_
      rintro e w3 ⟨rfl, hb3⟩
      have x3_0_0 : w3.cell? ⟨w.heap.size, 0, none⟩ = some (.slice x.A x.xs.length x.ca) := keep_cell hb3 (by simp [go_sem, *])
      have x3_0_1 : w3.cell? ⟨w.heap.size, 1, none⟩ = some (.int .i64 x.e) := keep_cell hb3 (by simp [go_sem, *])
      have y3_0 : w.heap.size < w3.heap.size := cell?_lt x3_0_0
      have x3_1_0 : w3.cell? ⟨w.heap.size + 1, 0, none⟩ = some (.int .i64 en) := keep_cell hb3 (by simp [go_sem, *])
      have x3_1_1 : w3.cell? ⟨w.heap.size + 1, 1, none⟩ = some (.int .i64 ed) := keep_cell hb3 (by simp [go_sem, *])
      have y3_1 : w.heap.size + 1 < w3.heap.size := cell?_lt x3_1_0
      have x3_2_0 : w3.cell? ⟨w.heap.size + 1 + 1, 0, none⟩ = some (.int .i64 an) := keep_cell hb3 (by simp [go_sem, *])
      have x3_2_1 : w3.cell? ⟨w.heap.size + 1 + 1, 1, none⟩ = some (.int .i64 ad) := keep_cell hb3 (by simp [go_sem, *])
      have y3_2 : w.heap.size + 1 + 1 < w3.heap.size := cell?_lt x3_2_0
      have g3 : Below w.heap.size w w3 := by (repeat (first | exact Below.refl _ _ | refine Below.drew ?_ | refine Below.allocS ?_ _ | refine Below.step ?_ (by assumption) | refine Below.setCell ?_ (by simp <;> omega) _ | refine Below.drewN' ?_ _))
      clear hb3 g2 x2_0_0 x2_0_1 x2_1_0 x2_1_1 x2_2_0 x2_2_1 y2_0 y2_1 y2_2
      go_wp2
      go_ret2
      exact ⟨rfl, by (repeat (first | exact Below.refl _ _ | refine Below.drew ?_ | refine Below.allocS ?_ _ | refine Below.step ?_ (by assumption) | refine Below.setCell ?_ (by simp <;> omega) _ | refine Below.drewN' ?_ _))⟩
end Go.Proofs.Ytbcabckokmjelaa
