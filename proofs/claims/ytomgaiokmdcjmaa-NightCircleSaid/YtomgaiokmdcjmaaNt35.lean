/-
  beginning of night: the best list that begins with a clear chance. No conditions.
-/
import Derived.Test.YtomgaiokmdcjmaaNt34
import Derived.Test.YtomgaiokmdcjmaaNt33
namespace Go.Proofs.Ytomgaiokmdcjmaa
open Go.RowKit Go.Deep
set_option linter.unusedVariables false
set_option linter.unusedSimpArgs false
/-- What a list that begins with chance j is. -/
structure BegAt (W : World) (l : List Ch) (L : List Cl) (per : Int) (j : Nat) (s : SlL) : Prop where
  a : SlAt W l.length s
  x : s.xs = begL l L per j
  ne : s.xs ≠ []
  len : s.xs.length + j ≤ l.length
theorem BegAt.step {W W' : World} {l : List Ch} {L : List Cl} {per : Int} {j : Nat} {s : SlL} (h : BegAt W l L per j s) (hb : Below W.heap.size W W') : BegAt W' l L per j s := ⟨h.a.step hb, h.x, h.ne, h.len⟩
theorem BegAt.store {P : Program} {k : TypeId} {W W' : World} {B n : Nat} {f : Lit → Option Value} (h : MapF P k W B n f) {l : List Ch} {L : List Cl} {per : Int} {j : Nat} {s : SlL} (hs : BegAt W l L per j s) (hg : W.grownBy W' (some B)) : BegAt W' l L per j s :=
  ⟨hs.a.store h hs.ne hg, hs.x, hs.ne, hs.len⟩
theorem min_beg {W : World} {l : List Ch} {L : List Cl} {per : Int} {k : Nat} (hk : k < l.length) {ls : List SlL} (hat : ∀ s ∈ ls, SlAt W l.length s) (hm : ls.map (·.xs) = candB l L per (bTb l L per (l.length - 1 - k)) k l.length) (hne : ∀ s ∈ ls, s.xs ≠ [] ∧ s.xs.length + k ≤ l.length) : 1 ≤ ls.length ∧ BegAt W l L per k (minK l ls (ls.length - 1)) := by
  have hlen : ls.length = (candB l L per (bTb l L per (l.length - 1 - k)) k l.length).length := by rw [← hm, List.length_map]
  have h1 : 1 ≤ ls.length := by rw [hlen]; unfold candB; simp
  have hmem := minK_mem l ls (ls.length - 1) (by omega)
  refine ⟨h1, hat _ hmem, ?_, (hne _ hmem).1, (hne _ hmem).2⟩
  rw [minK_xs, hm, hlen, ← begL_eq l L per hk]
/-- The keys from k on. -/
def clF (l : List Ch) (L : List Cl) (k j : Nat) : Bool := decide (k ≤ j) && clB l L j
theorem clF_none (l : List Ch) (L : List Cl) (S : Nat → SlL) : eF (clF l L l.length) S l.length = fun _ => none := by
  funext kl
  unfold eF
  split
  · rw [if_neg]
    rintro ⟨h1, h2, h3⟩
    unfold clF at h3
    rw [decide_eq_false (by omega)] at h3
    cases h3
  · rfl
theorem clF_skip {l : List Ch} {L : List Cl} {k : Nat} (h : clB l L k = false) : clF l L k = clF l L (k + 1) := by
  funext j
  unfold clF
  by_cases hjk : j = k
  · subst hjk; rw [h]; simp
  · by_cases h1 : k ≤ j
    · rw [decide_eq_true h1, decide_eq_true (show k + 1 ≤ j by omega)]
    · rw [decide_eq_false h1, decide_eq_false (show ¬ k + 1 ≤ j by omega)]
theorem eFB_put {l : List Ch} {L : List Cl} (S : Nat → SlL) {k : Nat} (x : SlL) (hk : k < l.length) (h : clB l L k = true) : eF (clF l L k) (setS S k x) l.length = putF (eF (clF l L (k + 1)) S l.length) (.int .i64 (k : Int)) (slV x) := by
  funext kl
  unfold putF
  by_cases he : kl = .int .i64 (k : Int)
  · subst he
    rw [if_pos rfl, eF_get, if_pos ⟨hk, by unfold clF; rw [h, decide_eq_true (Nat.le_refl k)]; rfl⟩]
    unfold setS
    rw [if_pos rfl]
  · rw [if_neg he]
    unfold eF
    split
    · rename_i a
      have hne : ¬ (0 ≤ a ∧ a.toNat = k) := fun h => he (by rw [show a = (k : Int) by omega])
      by_cases ha : 0 ≤ a ∧ a.toNat < l.length ∧ clF l L k a.toNat = true
      · rw [if_pos ha, if_pos ⟨ha.1, ha.2.1, by
          have := ha.2.2
          unfold clF at this ⊢
          simp only [Bool.and_eq_true, decide_eq_true_eq] at this ⊢
          exact ⟨by omega, this.2⟩⟩]
        unfold setS
        rw [if_neg (fun e => hne ⟨ha.1, e⟩)]
      · rw [if_neg ha, if_neg (fun hb => ha ⟨hb.1, hb.2.1, by
          have := hb.2.2
          unfold clF at this ⊢
          simp only [Bool.and_eq_true, decide_eq_true_eq] at this ⊢
          exact ⟨by omega, this.2⟩⟩)]
    · rfl
/-- A list more. -/
theorem grow_beg {Z W6 : World} {base g sl ln k j g6 c6 c7 : Nat} {A7 : Option Addr} {l : List Ch} {L : List Cl} {per : Int} {ls : List SlL} {s : SlL} {bz : Nat} (hc : CandAt Z base g (.slice A7 ln c7) l.length ls) (he : BegAt Z l L per j s) (hb : Below Z.heap.size Z W6)
    (ho : W6.ownsRow Z.heap.size 3 1 (.slice (some ⟨g6, 0, none⟩) (sl + 1) c6) (sl + 1) (((k :: s.xs).map Int.ofNat).flatMap inE)) (hk : sl + 1 ≤ c6 ∧ c6 ≤ maxLen) (hsl : sl = s.xs.length) (hi : k < l.length) (hn : l.length ≤ 20) (hg : g < bz) (hz : bz ≤ Z.heap.size)
    (hlo : Z.heap.size ≤ g6 ∧ g6 < W6.heap.size) (hl : ls.length ≤ 1000) :
    ∃ v' w', (Builtin.append_ #[96, 96] 96 #[.slice A7 ln c7, .slice (some ⟨W6.heap.size, 0, none⟩) 1 1]).run Try.prog (W6.alloc (.cells #[.slice (some ⟨g6, 0, none⟩) (sl + 1) c6] 26)) = .ok v' w' ∧
      ((∃ g', CandAt w' base g' v' l.length (ls ++ [⟨some ⟨g6, 0, none⟩, c6, k :: s.xs⟩])) ∧ Below base (W6.alloc (.cells #[.slice (some ⟨g6, 0, none⟩) (sl + 1) c6] 26)) w') := by
  have hle := he.len
  have hx : SlAt W6 l.length ⟨some ⟨g6, 0, none⟩, c6, k :: s.xs⟩ := by
    refine ⟨RdL.of_own (enc := inE) (fun _ => rfl) ho (by rw [List.length_map, List.length_cons, hsl]), fun i hi' => ?_, ?_, ?_⟩
    · rcases List.mem_cons.1 hi' with h | h
      · omega
      · exact he.a.i i h
    · simp; omega
    · simp; omega
  have := cand_app (hc.step hb) hl ⟨some ⟨g6, 0, none⟩, c6, k :: s.xs⟩ hx g6 0 rfl hlo.2 (by omega)
  have hv : slV ⟨some ⟨g6, 0, none⟩, c6, k :: s.xs⟩ = .slice (some ⟨g6, 0, none⟩) (sl + 1) c6 := by unfold slV; simp only; rw [List.length_cons, hsl]
  rw [hv] at this
  exact this
theorem app_front (k : Nat) (xs : List Nat) (m : Nat) (hm : m = xs.length) (hl : m ≤ 1000) (V : World) (A : Option Addr) (cap : Nat) (hr : RdL V V.heap.size inE 1 A (xs.map Int.ofNat)) (hz : A ≠ none) :
    ∃ v' w', (Builtin.append_ #[26, 26] 26 #[.slice (some ⟨V.heap.size, 0, none⟩) 1 1, .slice A m cap]).run Try.prog (V.alloc (.cells #[.int .i64 k] 3)) = .ok v' w' ∧ (w'.ownsRow V.heap.size 3 1 v' (m + 1) (((k :: xs).map Int.ofNat).flatMap inE) ∧ Below V.heap.size V w') := by
  have hb : Below V.heap.size V (V.alloc (.cells #[.int .i64 k] 3)) := Below.allocS (Below.refl _ _) _
  obtain ⟨v', w', hrun, r1, r2, -⟩ := app_spread appI [(k : Int)] (xs.map Int.ofNat) 1 m rfl (by rw [List.length_map]; exact hm.symm) (by omega) (V.alloc (.cells #[.int .i64 k] 3)) V.heap.size (.slice (some ⟨V.heap.size, 0, none⟩) 1 1)
    (World.ownsRow_lit (base := V.heap.size) V #[.int .i64 k] 1 (Nat.le_refl _) (by unfold maxLen; omega) rfl) (by simp) A cap (hr.step hb) (fun e => absurd e hz)
  refine ⟨v', w', hrun, ?_, Below.grown hb r2 (by simp) (fun j e => by cases e; exact Nat.le_refl _)⟩
  rw [Nat.add_comm 1 m] at r1
  exact r1
set_option maxHeartbeats 8000000 in
set_option maxRecDepth 100000 in
theorem beginning_c (l : List Ch) (A : Option Addr) (cap : Nat) (L : List Cl) (B : Option Addr) (cb : Nat) (per : Int) (w : World) (h : InAt w l A cap L B cb) (hp : PlanOk l per) (i : Nat) (hi : i < l.length) (hci : clB l L i = true) :
    Calls Try.prog 89 #[.agg #[.slice A l.length cap, .slice B L.length cb, .int .i64 per], .int .i64 i] w fun e w' => (∃ s : SlL, e = .returned (.slice s.A s.xs.length s.c) ∧ BegAt w' l L per i s) ∧ Below w.heap.size w w' := by
  have HIN := Lib.hid h
  have HP := Lib.hid hp
  have hn20 := hp.n
  obtain ⟨n, hn⟩ : ∃ n, n = l.length := ⟨_, rfl⟩
  have HN := Lib.hid hn
  rw [← hn] at hn20 hi ⊢
  obtain ⟨m, hm⟩ : ∃ m, m = L.length := ⟨_, rfl⟩
  rw [← hm]
  have HCV := Lib.hid (fun c W (hb : Below w.heap.size w W) => covered_c c L B cb (by have := h.hL; omega) W (h.hR.step hb))
  rw [← hm] at HCV
  have HCI := Lib.hid hci
  obtain ⟨b, off, rfl, hb0, hch⟩ := ch_cells h.hr (by omega)
  have HCH := Lib.hid hch
  clear h hp hn hm hci hch
  have hmm := @run_makeMap Try.prog
  have u0 : IntKind.i64.wrap ((n : Int) - 1) = (n : Int) - 1 := IntWalk.i64_in _ (by omega)
  go_enter Try.func89, Try.ntmps89
  go_wp2
  go_loopw [6] (fun K wr => ∃ (kk : Nat) (x : Int) (S : Nat → SlL), i ≤ kk ∧ kk ≤ n ∧ K = .int .i64 x ∧ x = (kk : Int) - 1 ∧ MapF Try.prog 3 wr (w.heap.size + 1) (n - kk) (eF (clF l L kk) S n) ∧ (∀ j, kk ≤ j → j < n → clB l L j = true → BegAt wr l L per j (S j)) ∧
    wr.cell? ⟨w.heap.size, 0, none⟩ = some (.slice (some ⟨b, off, none⟩) n cap) ∧ wr.cell? ⟨w.heap.size, 1, none⟩ = some (.slice B m cb) ∧ wr.cell? ⟨w.heap.size, 2, none⟩ = some (.int .i64 per) ∧ Below w.heap.size w wr) (fun K _ => (intOf K + 1 - i).toNat)
  case atStart =>
    exact ⟨n, _, fun _ => sl0, Nat.le_of_lt hi, Nat.le_refl _, rfl, rfl, by
      rw [HN.out, clF_none]
      have h0 := MapF.made (w.alloc (.cells #[.slice (some ⟨b, off, none⟩) l.length cap, .slice B m cb, .int .i64 per] 63)) Try.prog 3
      rw [show (w.alloc (.cells #[.slice (some ⟨b, off, none⟩) l.length cap, .slice B m cb, .int .i64 per] 63)).heap.size = w.heap.size + 1 by simp] at h0
      exact h0.mono (Nat.zero_le _), fun j h1 h2 => absurd h1 (by omega), by simp [go_sem], by simp [go_sem], by simp [go_sem], by (repeat (first | (with_reducible exact Below.refl _ _) | (with_reducible assumption) | (with_reducible refine Below.drew ?_) | (with_reducible refine Below.allocS ?_ _) | (with_reducible refine Below.setCell ?_ ?_ _) | (with_reducible refine Below.step ?_ (by assumption)) | (with_reducible refine Below.drewN' ?_ _))); (try any_goals (first | (with_reducible assumption) | (simp; done) | (simp; omega) | omega))⟩
  case round =>
    rename World => U
    obtain ⟨kk, x, S, hik, hkn, rfl, hx, hmap, hS, x0, x1, x2, hbw⟩ := hrel
    have HMP := Lib.hid hmap
    have HS := Lib.hid hS
    have yM := hmap.lt
    have yX : w.heap.size < U.heap.size := cell?_lt x0
    clear hmap hS hmm u0
    by_cases hlt : i < kk
    · obtain ⟨k, rfl⟩ : ∃ k, kk = k + 1 := ⟨kk - 1, by omega⟩
      obtain rfl : x = (k : Int) := by omega
      have hk : k < n := by omega
      have hkl : k < l.length := by rw [← HN.out]; exact hk
      obtain ⟨q0, q1, q2, q3, q4⟩ := HCH.out U hbw k hkl
      have yb : b < U.heap.size := cell?_lt q1
      have HCL := Lib.hid (show clB l L k = !covB (l.getD k ch0) L from rfl)
      have HCC := Lib.hid (HCV.out (l.getD k ch0))
      have HFO0 := Lib.hid (fun j (hj : j < n) W => follows_c (l.getD k ch0) (l.getD j ch0) per (HP.out.t _ (mem_getD hkl)) (HP.out.t _ (mem_getD (by rw [← HN.out]; exact hj))) HP.out.p (HP.out.b _ (mem_getD hkl)) W)
      have HPF := Lib.hid (fun j (hj : k < j) => (show preF l L per k j = (clB l L j && folC (l.getD k ch0) (l.getD j ch0) per) by unfold preF; rw [decide_eq_true hj]; rfl))
      have z1 : (0 : Int) ≤ (k : Int) := by omega
      have z2 : (k : Int) < (n : Int) := by omega
      have u1 : decide ((k : Int) ≥ (i : Int)) = true := decide_eq_true (by omega)
      have u2 : decide ((i : Int) ≤ (k : Int)) = true := decide_eq_true (by omega)
      have u2' : decide (i ≤ k) = true := decide_eq_true (by omega)
      have u3 : IntKind.i64.wrap ((k : Int) - 1) = (k : Int) - 1 := IntWalk.i64_in _ (by omega)
      have u4 : IntKind.i64.wrap ((k : Int) + 1) = (k : Int) + 1 := IntWalk.i64_in _ (by omega)
      have HIK := Lib.hid (show i ≤ k by omega)
      obtain ⟨c, hc⟩ : ∃ c, c = l.getD k ch0 := ⟨_, rfl⟩
      have HCE := Lib.hid hc
      rw [← hc] at q0 q1 q2 q3 q4 HCL HCC HFO0 HPF
      clear hc
      obtain ⟨cv, hcv⟩ : ∃ cv, cv = covB c L := ⟨_, rfl⟩
      rw [← hcv] at HCL HCC
      clear hcv hx hlt hik
      cases cv
      case true =>
        have HSK := Lib.hid (clF_skip HCL.out)
        go_wp2_with fail
        refine region_below (by kernel_rfl) (by kernel_rfl) ?_
        (first | go_big_quiet_skip | (go_big_quiet_want; refine quiet_val (v := ?_) ?_ ?_; rotate_left 1; (· (intro Wq hWq; obtain ⟨hWc, hWf⟩ := bcell hWq; go_simp; (try with_reducible rfl))); go_big_quiet_on; (try simp only [Act.put, List.setIfInBounds_toArray, List.set_cons_zero, List.set_cons_succ])))
        (first | go_big_quiet_skip | (go_big_quiet_want; refine quiet_val (v := ?_) ?_ ?_; rotate_left 1; (· (intro Wq hWq; obtain ⟨hWc, hWf⟩ := bcell hWq; go_simp; (try with_reducible rfl))); go_big_quiet_on; (try simp only [Act.put, List.setIfInBounds_toArray, List.set_cons_zero, List.set_cons_succ])))
        (first | go_big_quiet_skip | (go_big_quiet_want; refine quiet_val (v := ?_) ?_ ?_; rotate_left 1; (· (intro Wq hWq; obtain ⟨hWc, hWf⟩ := bcell hWq; go_simp; (try with_reducible rfl))); go_big_quiet_on; (try simp only [Act.put, List.setIfInBounds_toArray, List.set_cons_zero, List.set_cons_succ])))
        (first | go_big_quiet_skip | (go_big_quiet_want; refine quiet_val (v := ?_) ?_ ?_; rotate_left 1; (· (intro Wq hWq; obtain ⟨hWc, hWf⟩ := bcell hWq; go_simp; (try with_reducible rfl))); go_big_quiet_on; (try simp only [Act.put, List.setIfInBounds_toArray, List.set_cons_zero, List.set_cons_succ])))
        (first | go_big_quiet_skip | (go_big_quiet_want; refine quiet_val (v := ?_) ?_ ?_; rotate_left 1; (· (intro Wq hWq; obtain ⟨hWc, hWf⟩ := bcell hWq; go_simp; (try with_reducible rfl))); go_big_quiet_on; (try simp only [Act.put, List.setIfInBounds_toArray, List.set_cons_zero, List.set_cons_succ])))
        (first | go_big_quiet_skip | (go_big_quiet_want; refine quiet_val (v := ?_) ?_ ?_; rotate_left 1; (· (intro Wq hWq; obtain ⟨hWc, hWf⟩ := bcell hWq; go_simp; (try with_reducible rfl))); go_big_quiet_on; (try simp only [Act.put, List.setIfInBounds_toArray, List.set_cons_zero, List.set_cons_succ])))
        (first | go_big_quiet_skip | (go_big_quiet_want; refine quiet_val (v := ?_) ?_ ?_; rotate_left 1; (· (intro Wq hWq; obtain ⟨hWc, hWf⟩ := bcell hWq; go_simp; (try with_reducible rfl))); go_big_quiet_on; (try simp only [Act.put, List.setIfInBounds_toArray, List.set_cons_zero, List.set_cons_succ])))
        go_big_quiet_want; refine quiet_callB (f := 59) (args := ?_) (v := ?_) ?_ ?_ ?_; rotate_left 2
        · (intro Wq hWq; obtain ⟨hWc, hWf⟩ := bcell hWq; go_simp; (first | with_reducible rfl | exact ⟨rfl, rfl⟩))
        · (intro Wq hWq; exact HCC.out _ (Below.step hbw hWq))
        go_big_quiet_on; (try simp only [Act.put, List.setIfInBounds_toArray, List.set_cons_zero, List.set_cons_succ])
        refine wpQuiet_nil ?_; intro V hbV
        have f0 := keep_cell hbV x0
        have f1 := keep_cell hbV x1
        have f2 := keep_cell hbV x2
        have HMV := Lib.hid (HMP.out.step hbV)
        have HSV := Lib.hid (fun j h1 h2 hc => (HS.out j h1 h2 hc).step hbV)
        have hbwV := Below.step hbw hbV
        clear q0 q1 q2 q3 q4 x0 x1 x2
        go_wp2
        go_roundw
        case rel => exact ⟨k, (k : Int) - 1, S, HIK.out, by omega, rfl, rfl, by rw [HSK.out]; exact HMV.out.mono (by omega), fun j h1 h2 hc => (by
          rcases Nat.eq_or_lt_of_le h1 with h | h
          · subst h; rw [HCL.out] at hc; cases hc
          · exact HSV.out j h h2 hc), f0, f1, f2, hbwV⟩
        case measure => simp [intOf]; have := HIK.out; omega
      go_wp2_with fail
      refine region_below (by kernel_rfl) (by kernel_rfl) ?_
      (first | go_big_quiet_skip | (go_big_quiet_want; refine quiet_val (v := ?_) ?_ ?_; rotate_left 1; (· (intro Wq hWq; obtain ⟨hWc, hWf⟩ := bcell hWq; go_simp; (try with_reducible rfl))); go_big_quiet_on; (try simp only [Act.put, List.setIfInBounds_toArray, List.set_cons_zero, List.set_cons_succ])))
      (first | go_big_quiet_skip | (go_big_quiet_want; refine quiet_val (v := ?_) ?_ ?_; rotate_left 1; (· (intro Wq hWq; obtain ⟨hWc, hWf⟩ := bcell hWq; go_simp; (try with_reducible rfl))); go_big_quiet_on; (try simp only [Act.put, List.setIfInBounds_toArray, List.set_cons_zero, List.set_cons_succ])))
      (first | go_big_quiet_skip | (go_big_quiet_want; refine quiet_val (v := ?_) ?_ ?_; rotate_left 1; (· (intro Wq hWq; obtain ⟨hWc, hWf⟩ := bcell hWq; go_simp; (try with_reducible rfl))); go_big_quiet_on; (try simp only [Act.put, List.setIfInBounds_toArray, List.set_cons_zero, List.set_cons_succ])))
      (first | go_big_quiet_skip | (go_big_quiet_want; refine quiet_val (v := ?_) ?_ ?_; rotate_left 1; (· (intro Wq hWq; obtain ⟨hWc, hWf⟩ := bcell hWq; go_simp; (try with_reducible rfl))); go_big_quiet_on; (try simp only [Act.put, List.setIfInBounds_toArray, List.set_cons_zero, List.set_cons_succ])))
      (first | go_big_quiet_skip | (go_big_quiet_want; refine quiet_val (v := ?_) ?_ ?_; rotate_left 1; (· (intro Wq hWq; obtain ⟨hWc, hWf⟩ := bcell hWq; go_simp; (try with_reducible rfl))); go_big_quiet_on; (try simp only [Act.put, List.setIfInBounds_toArray, List.set_cons_zero, List.set_cons_succ])))
      (first | go_big_quiet_skip | (go_big_quiet_want; refine quiet_val (v := ?_) ?_ ?_; rotate_left 1; (· (intro Wq hWq; obtain ⟨hWc, hWf⟩ := bcell hWq; go_simp; (try with_reducible rfl))); go_big_quiet_on; (try simp only [Act.put, List.setIfInBounds_toArray, List.set_cons_zero, List.set_cons_succ])))
      (first | go_big_quiet_skip | (go_big_quiet_want; refine quiet_val (v := ?_) ?_ ?_; rotate_left 1; (· (intro Wq hWq; obtain ⟨hWc, hWf⟩ := bcell hWq; go_simp; (try with_reducible rfl))); go_big_quiet_on; (try simp only [Act.put, List.setIfInBounds_toArray, List.set_cons_zero, List.set_cons_succ])))
      go_big_quiet_want; refine quiet_callB (f := 59) (args := ?_) (v := ?_) ?_ ?_ ?_; rotate_left 2
      · (intro Wq hWq; obtain ⟨hWc, hWf⟩ := bcell hWq; go_simp; (first | with_reducible rfl | exact ⟨rfl, rfl⟩))
      · (intro Wq hWq; exact HCC.out _ (Below.step hbw hWq))
      go_big_quiet_on; (try simp only [Act.put, List.setIfInBounds_toArray, List.set_cons_zero, List.set_cons_succ])
      refine wpQuiet_nil ?_; intro V hbV
      have f0 := keep_cell hbV x0
      have f1 := keep_cell hbV x1
      have f2 := keep_cell hbV x2
      have HMV := Lib.hid (HMP.out.step hbV)
      have HSV := Lib.hid (fun j h1 h2 hc => (HS.out j h1 h2 hc).step hbV)
      have hbwV := Below.step hbw hbV
      have hsUV := hbV.size
      have hsV := hbwV.size
      clear q0 q1 q2 q3 q4 x0 x1 x2 hbV
      have HX0 : Hid (SlAt (V.alloc (.cells #[.int .i64 k] 3)) l.length ⟨some ⟨V.heap.size, 0, none⟩, 1, [k]⟩) := Lib.hid ⟨RdL.new V 3 inE 1 [(k : Int)] (fun _ => rfl), fun j hj => by simp at hj; omega, by simp, by simp [maxLen]⟩
      have HC0 := Lib.hid (CandAt.one (V.alloc (.cells #[.int .i64 k] 3)) V.heap.size l.length ⟨some ⟨V.heap.size, 0, none⟩, 1, [k]⟩ HX0.out V.heap.size 0 rfl (by simp) (by simp))
      go_wp2_with fail
      go_loopw [7, 8] (fun u j' wr => ∃ (j : Nat) (ls : List SlL) (g A7 : _) (c7 : Nat), k < j ∧ j ≤ n ∧ j' = .int .i64 j ∧ u = .slice A7 ls.length c7 ∧ CandAt wr V.heap.size g (.slice A7 ls.length c7) l.length ls ∧ ls.map (·.xs) = candB l L per (bTb l L per (l.length - 1 - k)) k j ∧ ls.length ≤ j + 1 ∧ (∀ s ∈ ls, s.xs ≠ [] ∧ s.xs.length + k ≤ l.length) ∧ Below V.heap.size V wr) (fun _ j' _ => n - (intOf j').toNat)
      case atStart =>
        have h0 := HC0.out
        rw [show (V.alloc (.cells #[.int .i64 k] 3)).heap.size = V.heap.size + 1 by simp] at h0
        exact ⟨k + 1, [⟨some ⟨V.heap.size, 0, none⟩, 1, [k]⟩], _, _, 1, Nat.lt_succ_self _, hk, by go_num, rfl, h0, (candB_start l L per _ k).symm, by simp, fun s hs => by simp at hs; subst hs; simp; omega, by (repeat (first | (with_reducible exact Below.refl _ _) | (with_reducible assumption) | (with_reducible refine Below.drew ?_) | (with_reducible refine Below.allocS ?_ _) | (with_reducible refine Below.setCell ?_ ?_ _) | (with_reducible refine Below.step ?_ (by assumption)) | (with_reducible refine Below.drewN' ?_ _))); (try any_goals (first | (with_reducible assumption) | (simp; done) | (simp; omega) | omega))⟩
      case round =>
        rename World => X
        obtain ⟨j, ls, g, A7, c7, hkj, hjn, rfl, rfl, hcand, hmapx, hlen, hne, hbX⟩ := hrel
        have HCA := Lib.hid hcand
        have HMX := Lib.hid hmapx
        have HNE := Lib.hid hne
        have HMAP := Lib.hid (HMV.out.step hbX)
        have HSX := Lib.hid (fun j h1 h2 hc => (HSV.out j h1 h2 hc).step hbX)
        have hbwX : Below w.heap.size w X := Below.low hbwV hbX hsV
        have k0 := keep_cell hbX f0
        have k1 := keep_cell hbX f1
        have k2 := keep_cell hbX f2
        have yk : w.heap.size < X.heap.size := cell?_lt k0
        clear hcand hmapx hne
        obtain ⟨ln, hln⟩ : ∃ ln, ln = ls.length := ⟨_, rfl⟩
        have HLN := Lib.hid hln
        rw [← hln] at hlen HCA ⊢
        clear hln
        by_cases hjl : j < n
        · have u6 : decide ((j : Int) < (n : Int)) = true := decide_eq_true (by omega)
          have u6' : decide (j < n) = true := decide_eq_true hjl
          have u7 : IntKind.i64.wrap ((j : Int) + 1) = (j : Int) + 1 := IntWalk.i64_in _ (by omega)
          have HKK := Lib.hid (Maps.keyOf_int_mk (P := Try.prog) Try.underlying3 (wf_small (k := j) (by omega)))
          have hlk := HMAP.out.look_ok (Maps.int_keyed Try.underlying3) Try.underlying99 (zero_slice X) HKK.out
          rw [eF_get] at hlk
          have HCF := Lib.hid (show clF l L (k + 1) j = clB l L j by unfold clF; rw [decide_eq_true (show k + 1 ≤ j by omega)]; rfl)
          rw [HCF.out] at hlk
          have HCS := Lib.hid (candB_succ l L per (bTb l L per (l.length - 1 - k)) k j)
          have HPJ := Lib.hid (HPF.out j hkj)
          obtain ⟨ck, hck⟩ : ∃ ck, ck = clB l L j := ⟨_, rfl⟩
          rw [← hck] at hlk HPJ
          have HCK := Lib.hid hck
          have HSK := Lib.hid (fun h : clB l L j = true => HSX.out j hkj hjl h)
          cases ck
          · rw [if_neg (by simp)] at hlk
            have hlk2 : (Instr.lookup 99 (.map (some (w.heap.size + 1))) (.int .i64 j) true).run Try.prog X = .ok (.tuple #[.slice none 0 0, .bool false]) X := hlk
            have HNX := Lib.hid (show ls.map (·.xs) = candB l L per (bTb l L per (l.length - 1 - k)) k (j + 1) by
              rw [HCS.out, if_neg (by rw [HPJ.out]; simp)]; exact HMX.out)
            clear hlk hck
            go_wp2_with fail
            refine region_below (by kernel_rfl) (by kernel_rfl) ?_
            (first | go_big_quiet_skip | (go_big_quiet_want; refine quiet_val (v := ?_) ?_ ?_; rotate_left 1; (· (intro Wq hWq; obtain ⟨hWc, hWf⟩ := bcell hWq; go_simp; (try with_reducible rfl))); go_big_quiet_on; (try simp only [Act.put, List.setIfInBounds_toArray, List.set_cons_zero, List.set_cons_succ])))
            (first | go_big_quiet_skip | (go_big_quiet_want; refine quiet_val (v := ?_) ?_ ?_; rotate_left 1; (· (intro Wq hWq; obtain ⟨hWc, hWf⟩ := bcell hWq; go_simp; (try with_reducible rfl))); go_big_quiet_on; (try simp only [Act.put, List.setIfInBounds_toArray, List.set_cons_zero, List.set_cons_succ])))
            (first | go_big_quiet_skip | (go_big_quiet_want; refine quiet_val (v := ?_) ?_ ?_; rotate_left 1; (· (intro Wq hWq; obtain ⟨hWc, hWf⟩ := bcell hWq; go_simp; (try with_reducible rfl))); go_big_quiet_on; (try simp only [Act.put, List.setIfInBounds_toArray, List.set_cons_zero, List.set_cons_succ])))
            (first | go_big_quiet_skip | (go_big_quiet_want; refine quiet_val (v := ?_) ?_ ?_; rotate_left 1; (· (intro Wq hWq; obtain ⟨hWc, hWf⟩ := bcell hWq; go_simp; (try with_reducible rfl))); go_big_quiet_on; (try simp only [Act.put, List.setIfInBounds_toArray, List.set_cons_zero, List.set_cons_succ])))
            (first | go_big_quiet_skip | (go_big_quiet_want; refine quiet_val (v := ?_) ?_ ?_; rotate_left 1; (· (intro Wq hWq; obtain ⟨hWc, hWf⟩ := bcell hWq; go_simp; (try with_reducible rfl))); go_big_quiet_on; (try simp only [Act.put, List.setIfInBounds_toArray, List.set_cons_zero, List.set_cons_succ])))
            (first | go_big_quiet_skip | (go_big_quiet_want; refine quiet_val (v := ?_) ?_ ?_; rotate_left 1; (· (intro Wq hWq; obtain ⟨hWc, hWf⟩ := bcell hWq; go_simp; (try with_reducible rfl))); go_big_quiet_on; (try simp only [Act.put, List.setIfInBounds_toArray, List.set_cons_zero, List.set_cons_succ])))
            (first | go_big_quiet_skip | (go_big_quiet_want; refine quiet_val (v := ?_) ?_ ?_; rotate_left 1; (· (intro Wq hWq; obtain ⟨hWc, hWf⟩ := bcell hWq; go_simp; (try with_reducible rfl))); go_big_quiet_on; (try simp only [Act.put, List.setIfInBounds_toArray, List.set_cons_zero, List.set_cons_succ])))
            (first | go_big_quiet_skip | (go_big_quiet_want; refine quiet_val (v := ?_) ?_ ?_; rotate_left 1; (· (intro Wq hWq; obtain ⟨hWc, hWf⟩ := bcell hWq; go_simp; (try with_reducible rfl))); go_big_quiet_on; (try simp only [Act.put, List.setIfInBounds_toArray, List.set_cons_zero, List.set_cons_succ])))
            (first | go_big_quiet_skip | (go_big_quiet_want; refine quiet_val (v := ?_) ?_ ?_; rotate_left 1; (· (intro Wq hWq; obtain ⟨hWc, hWf⟩ := bcell hWq; go_simp; (try with_reducible rfl))); go_big_quiet_on; (try simp only [Act.put, List.setIfInBounds_toArray, List.set_cons_zero, List.set_cons_succ])))
            (first | go_big_quiet_skip | (go_big_quiet_want; refine quiet_val (v := ?_) ?_ ?_; rotate_left 1; (· (intro Wq hWq; obtain ⟨hWc, hWf⟩ := bcell hWq; go_simp; (try with_reducible rfl))); go_big_quiet_on; (try simp only [Act.put, List.setIfInBounds_toArray, List.set_cons_zero, List.set_cons_succ])))
            (first | go_big_quiet_skip | (go_big_quiet_want; refine quiet_val (v := ?_) ?_ ?_; rotate_left 1; (· (intro Wq hWq; obtain ⟨hWc, hWf⟩ := bcell hWq; go_simp; (try with_reducible rfl))); go_big_quiet_on; (try simp only [Act.put, List.setIfInBounds_toArray, List.set_cons_zero, List.set_cons_succ])))
            (first | go_big_quiet_skip | (go_big_quiet_want; refine quiet_val (v := ?_) ?_ ?_; rotate_left 1; (· (intro Wq hWq; obtain ⟨hWc, hWf⟩ := bcell hWq; go_simp; (try with_reducible rfl))); go_big_quiet_on; (try simp only [Act.put, List.setIfInBounds_toArray, List.set_cons_zero, List.set_cons_succ])))
            (first | go_big_quiet_skip | (go_big_quiet_want; refine quiet_val (v := ?_) ?_ ?_; rotate_left 1; (· (intro Wq hWq; obtain ⟨hWc, hWf⟩ := bcell hWq; go_simp; (try with_reducible rfl))); go_big_quiet_on; (try simp only [Act.put, List.setIfInBounds_toArray, List.set_cons_zero, List.set_cons_succ])))
            (first | go_big_quiet_skip | (go_big_quiet_want; refine quiet_val (v := ?_) ?_ ?_; rotate_left 1; (· (intro Wq hWq; obtain ⟨hWc, hWf⟩ := bcell hWq; go_simp; (try with_reducible rfl))); go_big_quiet_on; (try simp only [Act.put, List.setIfInBounds_toArray, List.set_cons_zero, List.set_cons_succ])))
            (first | go_big_quiet_skip | (go_big_quiet_want; refine quiet_val (v := ?_) ?_ ?_; rotate_left 1; (· (intro Wq hWq; obtain ⟨hWc, hWf⟩ := bcell hWq; go_simp; (try with_reducible rfl))); go_big_quiet_on; (try simp only [Act.put, List.setIfInBounds_toArray, List.set_cons_zero, List.set_cons_succ])))
            (first | go_big_quiet_skip | (go_big_quiet_want; refine quiet_val (v := ?_) ?_ ?_; rotate_left 1; (· (intro Wq hWq; obtain ⟨hWc, hWf⟩ := bcell hWq; go_simp; (try with_reducible rfl))); go_big_quiet_on; (try simp only [Act.put, List.setIfInBounds_toArray, List.set_cons_zero, List.set_cons_succ])))
            refine wpQuiet_nil ?_; intro Z hbd
            have HCD := Lib.hid (HCA.out.step hbd)
            have hbVd : Below V.heap.size V Z := Below.step hbX hbd
            clear hlk2
            go_wp2
            go_roundw
            case rel => exact ⟨j + 1, ls, g, A7, c7, by omega, by omega, by go_num, by rw [HLN.out], by rw [← HLN.out]; exact HCD.out, HNX.out, by rw [← HLN.out]; omega, HNE.out, hbVd⟩
            case measure => simp [intOf]; omega
          · rw [if_pos ⟨hjl, rfl⟩] at hlk
            have HEK := Lib.hid (HSK.out hck.symm)
            clear hck
            obtain ⟨s, hs⟩ : ∃ s, s = S j := ⟨_, rfl⟩
            rw [← hs] at hlk HEK
            obtain ⟨sl, hsl⟩ : ∃ sl, sl = s.xs.length := ⟨_, rfl⟩
            have HSL := Lib.hid hsl
            have hlk2 : (Instr.lookup 99 (.map (some (w.heap.size + 1))) (.int .i64 j) true).run Try.prog X = .ok (.tuple #[.slice s.A sl s.c, .bool true]) X := by rw [hsl]; exact hlk
            clear hlk hs hsl
            obtain ⟨r0, r1, r2, r3, r4⟩ := HCH.out X hbwX j (by rw [← HN.out]; exact hjl)
            obtain ⟨t0, t1, t2, t3, t4⟩ := HCH.out X hbwX k hkl
            rw [← HCE.out] at t0 t1 t2 t3 t4
            have yr : b < X.heap.size := cell?_lt r1
            have HFO := Lib.hid (HFO0.out j hjl)
            rw [Bool.true_and] at HPJ
            obtain ⟨fB, hfB⟩ : ∃ fB, fB = folC c (l.getD j ch0) per := ⟨_, rfl⟩
            rw [← hfB] at HFO HPJ
            clear hfB
            generalize l.getD j ch0 = d at *
            have z3 : (0 : Int) ≤ (j : Int) := by omega
            have z4 : (j : Int) < (n : Int) := by omega
            cases fB
            · have HNX := Lib.hid (show ls.map (·.xs) = candB l L per (bTb l L per (l.length - 1 - k)) k (j + 1) by
                rw [HCS.out, if_neg (by rw [HPJ.out]; simp)]; exact HMX.out)
              go_wp2_with fail
              refine region_below (by kernel_rfl) (by kernel_rfl) ?_
              (first | go_big_quiet_skip | (go_big_quiet_want; refine quiet_val (v := ?_) ?_ ?_; rotate_left 1; (· (intro Wq hWq; obtain ⟨hWc, hWf⟩ := bcell hWq; go_simp; (try with_reducible rfl))); go_big_quiet_on; (try simp only [Act.put, List.setIfInBounds_toArray, List.set_cons_zero, List.set_cons_succ])))
              (first | go_big_quiet_skip | (go_big_quiet_want; refine quiet_val (v := ?_) ?_ ?_; rotate_left 1; (· (intro Wq hWq; obtain ⟨hWc, hWf⟩ := bcell hWq; go_simp; (try with_reducible rfl))); go_big_quiet_on; (try simp only [Act.put, List.setIfInBounds_toArray, List.set_cons_zero, List.set_cons_succ])))
              (first | go_big_quiet_skip | (go_big_quiet_want; refine quiet_val (v := ?_) ?_ ?_; rotate_left 1; (· (intro Wq hWq; obtain ⟨hWc, hWf⟩ := bcell hWq; go_simp; (try with_reducible rfl))); go_big_quiet_on; (try simp only [Act.put, List.setIfInBounds_toArray, List.set_cons_zero, List.set_cons_succ])))
              (first | go_big_quiet_skip | (go_big_quiet_want; refine quiet_val (v := ?_) ?_ ?_; rotate_left 1; (· (intro Wq hWq; obtain ⟨hWc, hWf⟩ := bcell hWq; go_simp; (try with_reducible rfl))); go_big_quiet_on; (try simp only [Act.put, List.setIfInBounds_toArray, List.set_cons_zero, List.set_cons_succ])))
              (first | go_big_quiet_skip | (go_big_quiet_want; refine quiet_val (v := ?_) ?_ ?_; rotate_left 1; (· (intro Wq hWq; obtain ⟨hWc, hWf⟩ := bcell hWq; go_simp; (try with_reducible rfl))); go_big_quiet_on; (try simp only [Act.put, List.setIfInBounds_toArray, List.set_cons_zero, List.set_cons_succ])))
              (first | go_big_quiet_skip | (go_big_quiet_want; refine quiet_val (v := ?_) ?_ ?_; rotate_left 1; (· (intro Wq hWq; obtain ⟨hWc, hWf⟩ := bcell hWq; go_simp; (try with_reducible rfl))); go_big_quiet_on; (try simp only [Act.put, List.setIfInBounds_toArray, List.set_cons_zero, List.set_cons_succ])))
              (first | go_big_quiet_skip | (go_big_quiet_want; refine quiet_val (v := ?_) ?_ ?_; rotate_left 1; (· (intro Wq hWq; obtain ⟨hWc, hWf⟩ := bcell hWq; go_simp; (try with_reducible rfl))); go_big_quiet_on; (try simp only [Act.put, List.setIfInBounds_toArray, List.set_cons_zero, List.set_cons_succ])))
              (first | go_big_quiet_skip | (go_big_quiet_want; refine quiet_val (v := ?_) ?_ ?_; rotate_left 1; (· (intro Wq hWq; obtain ⟨hWc, hWf⟩ := bcell hWq; go_simp; (try with_reducible rfl))); go_big_quiet_on; (try simp only [Act.put, List.setIfInBounds_toArray, List.set_cons_zero, List.set_cons_succ])))
              (first | go_big_quiet_skip | (go_big_quiet_want; refine quiet_val (v := ?_) ?_ ?_; rotate_left 1; (· (intro Wq hWq; obtain ⟨hWc, hWf⟩ := bcell hWq; go_simp; (try with_reducible rfl))); go_big_quiet_on; (try simp only [Act.put, List.setIfInBounds_toArray, List.set_cons_zero, List.set_cons_succ])))
              (first | go_big_quiet_skip | (go_big_quiet_want; refine quiet_val (v := ?_) ?_ ?_; rotate_left 1; (· (intro Wq hWq; obtain ⟨hWc, hWf⟩ := bcell hWq; go_simp; (try with_reducible rfl))); go_big_quiet_on; (try simp only [Act.put, List.setIfInBounds_toArray, List.set_cons_zero, List.set_cons_succ])))
              (first | go_big_quiet_skip | (go_big_quiet_want; refine quiet_val (v := ?_) ?_ ?_; rotate_left 1; (· (intro Wq hWq; obtain ⟨hWc, hWf⟩ := bcell hWq; go_simp; (try with_reducible rfl))); go_big_quiet_on; (try simp only [Act.put, List.setIfInBounds_toArray, List.set_cons_zero, List.set_cons_succ])))
              (first | go_big_quiet_skip | (go_big_quiet_want; refine quiet_val (v := ?_) ?_ ?_; rotate_left 1; (· (intro Wq hWq; obtain ⟨hWc, hWf⟩ := bcell hWq; go_simp; (try with_reducible rfl))); go_big_quiet_on; (try simp only [Act.put, List.setIfInBounds_toArray, List.set_cons_zero, List.set_cons_succ])))
              (first | go_big_quiet_skip | (go_big_quiet_want; refine quiet_val (v := ?_) ?_ ?_; rotate_left 1; (· (intro Wq hWq; obtain ⟨hWc, hWf⟩ := bcell hWq; go_simp; (try with_reducible rfl))); go_big_quiet_on; (try simp only [Act.put, List.setIfInBounds_toArray, List.set_cons_zero, List.set_cons_succ])))
              (first | go_big_quiet_skip | (go_big_quiet_want; refine quiet_val (v := ?_) ?_ ?_; rotate_left 1; (· (intro Wq hWq; obtain ⟨hWc, hWf⟩ := bcell hWq; go_simp; (try with_reducible rfl))); go_big_quiet_on; (try simp only [Act.put, List.setIfInBounds_toArray, List.set_cons_zero, List.set_cons_succ])))
              go_big_quiet_want; refine quiet_callB (f := 62) (args := ?_) (v := ?_) ?_ ?_ ?_; rotate_left 2
              · (intro Wq hWq; obtain ⟨hWc, hWf⟩ := bcell hWq; go_simp; (first | with_reducible rfl | exact ⟨rfl, rfl⟩))
              · (intro Wq hWq; exact HFO.out _)
              go_big_quiet_on; (try simp only [Act.put, List.setIfInBounds_toArray, List.set_cons_zero, List.set_cons_succ])
              (first | go_big_quiet_skip | (go_big_quiet_want; refine quiet_val (v := ?_) ?_ ?_; rotate_left 1; (· (intro Wq hWq; obtain ⟨hWc, hWf⟩ := bcell hWq; go_simp; (try with_reducible rfl))); go_big_quiet_on; (try simp only [Act.put, List.setIfInBounds_toArray, List.set_cons_zero, List.set_cons_succ])))
              refine wpQuiet_nil ?_; intro Z hbd
              have HCD := Lib.hid (HCA.out.step hbd)
              have hbVd : Below V.heap.size V Z := Below.step hbX hbd
              clear hlk2 r0 r1 r2 r3 r4 t0 t1 t2 t3 t4
              go_wp2
              go_roundw
              case rel => exact ⟨j + 1, ls, g, A7, c7, by omega, by omega, by go_num, by rw [HLN.out], by rw [← HLN.out]; exact HCD.out, HNX.out, by rw [← HLN.out]; omega, HNE.out, hbVd⟩
              case measure => simp [intOf]; omega
            · go_wp2_with fail
              refine region_below (by kernel_rfl) (by kernel_rfl) ?_
              (first | go_big_quiet_skip | (go_big_quiet_want; refine quiet_val (v := ?_) ?_ ?_; rotate_left 1; (· (intro Wq hWq; obtain ⟨hWc, hWf⟩ := bcell hWq; go_simp; (try with_reducible rfl))); go_big_quiet_on; (try simp only [Act.put, List.setIfInBounds_toArray, List.set_cons_zero, List.set_cons_succ])))
              (first | go_big_quiet_skip | (go_big_quiet_want; refine quiet_val (v := ?_) ?_ ?_; rotate_left 1; (· (intro Wq hWq; obtain ⟨hWc, hWf⟩ := bcell hWq; go_simp; (try with_reducible rfl))); go_big_quiet_on; (try simp only [Act.put, List.setIfInBounds_toArray, List.set_cons_zero, List.set_cons_succ])))
              (first | go_big_quiet_skip | (go_big_quiet_want; refine quiet_val (v := ?_) ?_ ?_; rotate_left 1; (· (intro Wq hWq; obtain ⟨hWc, hWf⟩ := bcell hWq; go_simp; (try with_reducible rfl))); go_big_quiet_on; (try simp only [Act.put, List.setIfInBounds_toArray, List.set_cons_zero, List.set_cons_succ])))
              (first | go_big_quiet_skip | (go_big_quiet_want; refine quiet_val (v := ?_) ?_ ?_; rotate_left 1; (· (intro Wq hWq; obtain ⟨hWc, hWf⟩ := bcell hWq; go_simp; (try with_reducible rfl))); go_big_quiet_on; (try simp only [Act.put, List.setIfInBounds_toArray, List.set_cons_zero, List.set_cons_succ])))
              (first | go_big_quiet_skip | (go_big_quiet_want; refine quiet_val (v := ?_) ?_ ?_; rotate_left 1; (· (intro Wq hWq; obtain ⟨hWc, hWf⟩ := bcell hWq; go_simp; (try with_reducible rfl))); go_big_quiet_on; (try simp only [Act.put, List.setIfInBounds_toArray, List.set_cons_zero, List.set_cons_succ])))
              (first | go_big_quiet_skip | (go_big_quiet_want; refine quiet_val (v := ?_) ?_ ?_; rotate_left 1; (· (intro Wq hWq; obtain ⟨hWc, hWf⟩ := bcell hWq; go_simp; (try with_reducible rfl))); go_big_quiet_on; (try simp only [Act.put, List.setIfInBounds_toArray, List.set_cons_zero, List.set_cons_succ])))
              (first | go_big_quiet_skip | (go_big_quiet_want; refine quiet_val (v := ?_) ?_ ?_; rotate_left 1; (· (intro Wq hWq; obtain ⟨hWc, hWf⟩ := bcell hWq; go_simp; (try with_reducible rfl))); go_big_quiet_on; (try simp only [Act.put, List.setIfInBounds_toArray, List.set_cons_zero, List.set_cons_succ])))
              (first | go_big_quiet_skip | (go_big_quiet_want; refine quiet_val (v := ?_) ?_ ?_; rotate_left 1; (· (intro Wq hWq; obtain ⟨hWc, hWf⟩ := bcell hWq; go_simp; (try with_reducible rfl))); go_big_quiet_on; (try simp only [Act.put, List.setIfInBounds_toArray, List.set_cons_zero, List.set_cons_succ])))
              (first | go_big_quiet_skip | (go_big_quiet_want; refine quiet_val (v := ?_) ?_ ?_; rotate_left 1; (· (intro Wq hWq; obtain ⟨hWc, hWf⟩ := bcell hWq; go_simp; (try with_reducible rfl))); go_big_quiet_on; (try simp only [Act.put, List.setIfInBounds_toArray, List.set_cons_zero, List.set_cons_succ])))
              (first | go_big_quiet_skip | (go_big_quiet_want; refine quiet_val (v := ?_) ?_ ?_; rotate_left 1; (· (intro Wq hWq; obtain ⟨hWc, hWf⟩ := bcell hWq; go_simp; (try with_reducible rfl))); go_big_quiet_on; (try simp only [Act.put, List.setIfInBounds_toArray, List.set_cons_zero, List.set_cons_succ])))
              (first | go_big_quiet_skip | (go_big_quiet_want; refine quiet_val (v := ?_) ?_ ?_; rotate_left 1; (· (intro Wq hWq; obtain ⟨hWc, hWf⟩ := bcell hWq; go_simp; (try with_reducible rfl))); go_big_quiet_on; (try simp only [Act.put, List.setIfInBounds_toArray, List.set_cons_zero, List.set_cons_succ])))
              (first | go_big_quiet_skip | (go_big_quiet_want; refine quiet_val (v := ?_) ?_ ?_; rotate_left 1; (· (intro Wq hWq; obtain ⟨hWc, hWf⟩ := bcell hWq; go_simp; (try with_reducible rfl))); go_big_quiet_on; (try simp only [Act.put, List.setIfInBounds_toArray, List.set_cons_zero, List.set_cons_succ])))
              (first | go_big_quiet_skip | (go_big_quiet_want; refine quiet_val (v := ?_) ?_ ?_; rotate_left 1; (· (intro Wq hWq; obtain ⟨hWc, hWf⟩ := bcell hWq; go_simp; (try with_reducible rfl))); go_big_quiet_on; (try simp only [Act.put, List.setIfInBounds_toArray, List.set_cons_zero, List.set_cons_succ])))
              (first | go_big_quiet_skip | (go_big_quiet_want; refine quiet_val (v := ?_) ?_ ?_; rotate_left 1; (· (intro Wq hWq; obtain ⟨hWc, hWf⟩ := bcell hWq; go_simp; (try with_reducible rfl))); go_big_quiet_on; (try simp only [Act.put, List.setIfInBounds_toArray, List.set_cons_zero, List.set_cons_succ])))
              go_big_quiet_want; refine quiet_callB (f := 62) (args := ?_) (v := ?_) ?_ ?_ ?_; rotate_left 2
              · (intro Wq hWq; obtain ⟨hWc, hWf⟩ := bcell hWq; go_simp; (first | with_reducible rfl | exact ⟨rfl, rfl⟩))
              · (intro Wq hWq; exact HFO.out _)
              go_big_quiet_on; (try simp only [Act.put, List.setIfInBounds_toArray, List.set_cons_zero, List.set_cons_succ])
              (first | go_big_quiet_skip | (go_big_quiet_want; refine quiet_val (v := ?_) ?_ ?_; rotate_left 1; (· (intro Wq hWq; obtain ⟨hWc, hWf⟩ := bcell hWq; go_simp; (try with_reducible rfl))); go_big_quiet_on; (try simp only [Act.put, List.setIfInBounds_toArray, List.set_cons_zero, List.set_cons_succ])))
              refine wpQuiet_nil ?_; intro Z hbd
              clear hlk2 r0 r1 r2 r3 r4 t0 t1 t2 t3 t4
              have HCZ := Lib.hid (HCA.out.step hbd)
              have HEZ := Lib.hid (HEK.out.step hbd)
              have hgX := HCA.out.lt
              have hsXZ := hbd.size
              have hbVZ : Below V.heap.size V Z := Below.step hbX hbd
              have hAne : s.A ≠ none := fun hA => HEZ.out.ne (List.eq_nil_of_length_eq_zero (by have := HEZ.out.a.r.none_len hA; rwa [List.length_map] at this))
              have HAP1 := Lib.hid (app_front k s.xs sl HSL.out (by rw [HSL.out]; exact HEZ.out.a.l) Z s.A s.c HEZ.out.a.r hAne)
              have HGR := Lib.hid (fun (W6 : World) (g6 c6 : Nat) hb ho hk hlo => grow_beg (W6 := W6) (g6 := g6) (c6 := c6) (k := k) HCZ.out HEZ.out hb ho hk HSL.out hkl (by rw [← HN.out]; exact hn20) hgX hsXZ hlo (by rw [← HLN.out]; omega))
              clear hAne
              go_wp2_with (first
                | (at_builtin; refine wpList_app rfl (.tmp 65) (.tmp 66) 26 rfl _ _ rfl rfl HAP1.out ?_; rintro v6 W6 ⟨hown6, hbZ6⟩; obtain ⟨A6, c6, rfl, k6, m6⟩ := row_form hown6; have hA6 := own_addr hown6 (by omega); obtain ⟨g6, rfl⟩ := hA6; have HO6 := Lib.hid hown6; have HK6 := Lib.hid (And.intro k6 m6); have hlo6 := hown6.lt g6 rfl; have HAP2 := Lib.hid (HGR.out W6 g6 c6 hbZ6 HO6.out HK6.out hlo6); clear hown6 k6 m6)
                | (at_builtin; refine wpList_app rfl (.tmp 63) (.tmp 68) 96 rfl _ _ rfl rfl HAP2.out ?_; rintro v7 W7 ⟨⟨g7, hc7⟩, hb7⟩; obtain ⟨A8, c8, rfl, -, -⟩ := row_form hc7.own; have HC7 := Lib.hid hc7; clear hc7))
              have hbV7 : Below V.heap.size V W7 := Below.low (Below.allocS (Below.step hbVZ hbZ6) _) hb7 (Nat.le_refl _)
              have HNX := Lib.hid (show (ls ++ [(⟨some ⟨g6, 0, none⟩, c6, k :: s.xs⟩ : SlL)]).map (·.xs) = candB l L per (bTb l L per (l.length - 1 - k)) k (j + 1) by
                rw [HCS.out, if_pos HPJ.out, List.map_append, HMX.out, bT_beg l L per hkj (by rw [← HN.out]; exact hjl), ← HEZ.out.x]; rfl)
              have HNE7 : Hid (∀ z ∈ ls ++ [(⟨some ⟨g6, 0, none⟩, c6, k :: s.xs⟩ : SlL)], z.xs ≠ [] ∧ z.xs.length + k ≤ l.length) := Lib.hid fun z hz => by
                rcases List.mem_append.1 hz with hz | hz
                · exact HNE.out z hz
                · simp at hz; subst hz
                  have := HEZ.out.len
                  exact ⟨by simp, by simp; omega⟩
              clear hb7 hlo6
              go_roundw
              case rel => exact ⟨j + 1, ls ++ [⟨some ⟨g6, 0, none⟩, c6, k :: s.xs⟩], g7, A8, c8, by omega, by omega, by go_num, by simp, HC7.out, HNX.out, by rw [List.length_append, ← HLN.out]; simp; omega, HNE7.out, hbV7⟩
              case measure => simp [intOf]; omega
        · obtain rfl : j = n := by omega
          have u6 : decide ((j : Int) < (j : Int)) = false := decide_eq_false (by omega)
          have hme := min_beg hkl (fun s hs => (HCA.out.at' s hs).1) (by rw [← HN.out] at HMX ⊢; exact HMX.out) HNE.out
          have HME := Lib.hid hme.2
          have hl1 : 1 ≤ ln := by rw [HLN.out]; exact hme.1
          have HMF : Hid (Calls Try.prog 96 #[.slice A7 ln c7, .func (.func 97) #[.agg #[.slice (some ⟨b, off, none⟩) j cap]] #[]] X fun e w' => e = .returned (.slice (minK l ls (ls.length - 1)).A (minK l ls (ls.length - 1)).xs.length (minK l ls (ls.length - 1)).c) ∧ Below X.heap.size X w') := by
            have := MinFunc_c l (some ⟨b, off, none⟩) cap HP.out.v (by rw [← HN.out]; omega) ls ln HLN.out.symm hl1 (by omega) A7 c7 X (HIN.out.hr.step hbwX) (RdL.of_own (enc := slE) (fun _ => rfl) (by have := HCA.out.own; rw [← HLN.out] at this; exact this) HLN.out.symm) (fun s hs => (HCA.out.at' s hs).1)
            rw [← HN.out] at this
            rw [← HLN.out]
            exact Lib.hid this
          have HKI := Lib.hid (Maps.keyOf_int_mk (P := Try.prog) Try.underlying3 (wf_small (k := k) (by omega)))
          generalize minK l ls (ls.length - 1) = x at *
          clear hme
          go_wp2_with fail
          refine HMF.out.mono ?_
          rintro e Y ⟨rfl, hbY⟩
          have HMY := Lib.hid (HMAP.out.step hbY)
          have HSY := Lib.hid (fun j h1 h2 hc => (HSX.out j h1 h2 hc).step hbY)
          have HXY := Lib.hid (HME.out.step hbY)
          have hbwY : Below w.heap.size w Y := Below.low hbwX hbY (by have := hbwX.size; omega)
          have y0 := keep_cell hbY k0
          have y1 := keep_cell hbY k1
          have y2 := keep_cell hbY k2
          clear k0 k1 k2 f0 f1 f2 hbY
          obtain ⟨xl, hxl⟩ : ∃ xl, xl = x.xs.length := ⟨_, rfl⟩
          have HXL := Lib.hid hxl
          rw [← hxl]
          clear hxl
          go_wp2_with (at_mapUpdate; refine wpList_storeF rfl (.tmp 70) (.tmp 71) (.tmp 77) 99 rfl _ 3 26 (Maps.int_keyed Try.underlying3) Try.underlying99 (w.heap.size + 1) (j - (k + 1)) _ rfl HMY.out (by unfold maxLen; omega) _ _ _ rfl rfl HKI.out ?_; intro W9 hM9 hg9)
          have HPUT := Lib.hid (eFB_put S x hkl HCL.out)
          rw [← HN.out] at HPUT
          have HM9 : Hid (MapF Try.prog 3 W9 (w.heap.size + 1) (j - k) (eF (clF l L k) (setS S k x) j)) := Lib.hid (by rw [HPUT.out]; unfold slV; rw [← HXL.out]; exact hM9.mono (by omega))
          have hb9 : Below w.heap.size w W9 := Below.grown hbwY hg9 (by have := hbwY.size; omega) (fun j e => by cases e; omega)
          have z0 := grown_cell hg9 y0 (by simp)
          have z1' := grown_cell hg9 y1 (by simp)
          have z2' := grown_cell hg9 y2 (by simp)
          have HS9 : Hid (∀ t, k ≤ t → t < j → clB l L t = true → BegAt W9 l L per t (setS S k x t)) := Lib.hid fun t h1 h2 hc => by
            unfold setS
            by_cases htk : t = k
            · subst htk; rw [if_pos rfl]; exact HXY.out.store HMY.out hg9
            · rw [if_neg htk]; exact (HSY.out t (by omega) h2 hc).store HMY.out hg9
          clear hM9 hg9
          go_roundw
          case rel => exact ⟨k, (k : Int) - 1, setS S k x, HIK.out, by omega, rfl, rfl, HM9.out, HS9.out, z0, z1', z2', hb9⟩
          case measure => simp [intOf]; have := HIK.out; omega
    · obtain rfl : kk = i := by omega
      have u1 : decide (x ≥ (kk : Int)) = false := decide_eq_false (by omega)
      have u2 : decide ((kk : Int) ≤ x) = false := decide_eq_false (by omega)
      have HKI := Lib.hid (Maps.keyOf_int_mk (P := Try.prog) Try.underlying3 (wf_small (k := kk) (by omega)))
      have hlk := HMP.out.look (Maps.int_keyed Try.underlying3) Try.underlying99 (zero_slice U) HKI.out
      have HB := Lib.hid (HS.out kk (Nat.le_refl _) hi HCI.out)
      rw [eF_get, if_pos ⟨hi, by unfold clF; rw [HCI.out, decide_eq_true (Nat.le_refl _)]; rfl⟩] at hlk
      generalize S kk = s at *
      have hlk2 : (Instr.lookup 99 (.map (some (w.heap.size + 1))) (.int .i64 kk) false).run Try.prog U = .ok (.slice s.A s.xs.length s.c) U := hlk
      clear hlk hx hlt HS HMP
      generalize hsl : s.xs.length = sl at *
      go_wp2
      go_ret
      exact ⟨⟨s, by rw [hsl]; rfl, HB.out⟩, hbw⟩
end Go.Proofs.Ytomgaiokmdcjmaa
