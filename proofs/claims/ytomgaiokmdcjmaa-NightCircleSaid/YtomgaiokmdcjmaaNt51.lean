/-
  A list that closes: plain law; Closes of the reference. No conditions.
-/
import Derived.Test.YtomgaiokmdcjmaaKN2
import Derived.BigQuiet
namespace Go.Proofs.Ytomgaiokmdcjmaa
open Go.RowKit Go.Deep
set_option linter.unusedVariables false
set_option linter.unusedSimpArgs false
/-- A chain of numbers, from a to b, and its sum. -/
inductive Chn (l : List Sg) : Nat → List Nat → Nat → Int → Prop
  | nil {a : Nat} : Chn l a [] a 0
  | cons {k b : Nat} {c : List Nat} {s : Int} : k < 2 * l.length → Chn l (toN l k) c b s → Chn l (frN l k) (k :: c) b (tkV l k + s)
theorem Chn.append {l : List Sg} {a b e : Nat} {c d : List Nat} {s t : Int} (h : Chn l a c b s) (k : Chn l b d e t) : Chn l a (c ++ d) e (s + t) := by
  induction h with
  | nil => rw [Int.zero_add]; exact k
  | cons h1 h2 ih => rw [List.cons_append, Int.add_assoc]; exact Chn.cons h1 (ih k)
theorem Chn.one {l : List Sg} {k : Nat} (h : k < 2 * l.length) : Chn l (frN l k) [k] (toN l k) (tkV l k) := by
  have := Chn.cons (s := 0) h Chn.nil
  rwa [Int.add_zero] at this
theorem Pth.chn {l : List Sg} {f o : Nat} {w : List Nat} {v : Int} (h : Pth l f o w v) : Chn l f w o v := by
  induction h with
  | nil => exact Chn.nil
  | snoc h1 h2 h3 ih => subst h3; exact ih.append (Chn.one h2)
theorem Pth.back {l : List Sg} {f o : Nat} {w : List Nat} {v : Int} (h : Pth l f o w v) : Chn l o (w.reverse.map bk) f (-v) := by
  induction h with
  | nil => exact Chn.nil
  | @snoc m w v k h1 h2 h3 ih =>
    subst h3
    have e := bk_fr l k
    have e2 := (bk_tk l k).2.2
    have := Chn.cons (bk_lt h2) (by rw [e.2]; exact ih)
    rw [e.1, e2] at this
    rw [List.reverse_append, List.map_append, show -(v + tkV l k) = -tkV l k + -v by omega]
    exact this
/-- The list of Circle. -/
def cirL (x y : List Nat) (k : Nat) : List Nat := x ++ [k] ++ y.reverse.map bk
theorem circle_closes {l : List Sg} {f a b : Nat} {x y : List Nat} {v u : Int} {k : Nat} (hx : Pth l f (frN l k) x v) (hy : Pth l f (toN l k) y u) (hk : k < 2 * l.length) : Chn l f (cirL x y k) f (v + tkV l k - u) := by
  have := (hx.chn.append (Chn.one hk)).append hy.back
  exact this
theorem Chn.head {l : List Sg} {a b k : Nat} {c : List Nat} {s : Int} (h : Chn l a (k :: c) b s) : k < 2 * l.length ∧ frN l k = a ∧ Chn l (toN l k) c b (s - tkV l k) := by
  cases h with
  | cons h1 h2 => exact ⟨h1, rfl, by rwa [show ∀ t : Int, tkV l k + t - tkV l k = t by intro t; omega]⟩
theorem Chn.empty {l : List Sg} {a b : Nat} {s : Int} (h : Chn l a [] b s) : b = a ∧ s = 0 := by
  cases h; exact ⟨rfl, rfl⟩
set_option maxHeartbeats 4000000 in
set_option maxRecDepth 100000 in
theorem Closes_c (l : List Sg) (n : Nat) (hd : VdP n l) (A : Option Addr) (cap : Nat) (C : List Nat) (B : Option Addr) (cb : Nat) (a : Nat) (s : Int) (hC : Chn l a C a s) (hs : s ≠ 0) (h1 : 1 ≤ C.length) (h100 : C.length ≤ 100) (w : World) (hA : RdL w w.heap.size sgE 5 A l) (hB : RdL w w.heap.size inE 1 B (C.map Int.ofNat)) :
    Calls Try.prog 52 #[.slice A l.length cap, .slice B C.length cb] w fun e w' => e = .returned (.bool true) ∧ Below w.heap.size w w' := by
  have HD := Lib.hid hd
  have HR := Lib.hid hA
  have h30 := hd.len
  have hn8 := hd.n8
  have HC := Lib.hid hC
  have HS := Lib.hid hs
  have HCL : Hid (∀ W, Below w.heap.size w W → ∀ j, j < C.length → ∃ b off, B = some ⟨b, off, none⟩ ∧ b < w.heap.size ∧ W.cell? ⟨b, off + j, none⟩ = some (.int .i64 (C.getD j 0 : Nat))) := Lib.hid (fun W hb j hj => by
    obtain ⟨b, off, e, hlt, hc⟩ := hB (by rw [List.length_map]; omega)
    have := hc j (by rw [List.length_map]; exact hj) 0 (.int .i64 (C.getD j 0 : Nat)) (by rw [List.getElem_map, List.getD_eq_getElem?_getD, List.getElem?_eq_getElem hj]; rfl)
    rw [Nat.mul_one, Nat.add_zero] at this
    exact ⟨b, off, e, hlt, (hb.cell (p := ⟨b, _, none⟩) hlt).trans this⟩)
  obtain ⟨m, hm⟩ : ∃ m, m = l.length := ⟨_, rfl⟩
  have HM := Lib.hid hm
  rw [← hm] at h30 ⊢
  obtain ⟨N, hN⟩ : ∃ N, N = C.length := ⟨_, rfl⟩
  have HN := Lib.hid hN
  rw [← hN] at h1 h100 HCL ⊢
  clear hd hA hB hm hN hC hs
  have d1 : decide ((N : Int) < 1) = false := decide_eq_false (by omega)
  have d2 : decide ((N : Int) > 100) = false := decide_eq_false (by omega)
  have d3 : decide (100 < (N : Int)) = false := decide_eq_false (by omega)
  go_enter Try.func52, Try.ntmps52
  go_wp2
  go_loopw [24, 5, 6, 7] (fun i s5 s6 s7 wr => ∃ (k : Nat) (sm : Int) (fi at' : Int), k ≤ N ∧ i = .int .i64 k ∧ s5 = .int .i64 sm ∧ s6 = .int .i64 fi ∧ s7 = .int .i64 at' ∧ (-1000000 * (k : Int) ≤ sm ∧ sm ≤ 1000000 * (k : Int)) ∧ (k = 0 → fi = -1 ∧ at' = -1) ∧ (1 ≤ k → fi = (a : Int)) ∧ (∃ t : Nat, (1 ≤ k → at' = (t : Int)) ∧ (k = 0 → t = a) ∧ Chn l t (C.drop k) a (s - sm)) ∧ Below w.heap.size w wr) (fun i _ _ _ _ => N - (intOf i).toNat)
  case atStart => exact ⟨0, 0, -1, -1, Nat.zero_le _, rfl, rfl, rfl, rfl, by omega, fun _ => ⟨rfl, rfl⟩, fun h => absurd h (by omega), ⟨a, fun h => absurd h (by omega), fun _ => rfl, by rw [Int.sub_zero]; exact HC.out⟩, Below.refl _ _⟩
  case round =>
    rename World => U
    obtain ⟨k, sm, fi, at', hk, rfl, rfl, rfl, rfl, hsm, hz, hf, ⟨t, ht1, ht0, hch⟩, hbu⟩ := hrel
    have HCH := Lib.hid hch
    have yU := hbu.size
    clear hch
    by_cases hlt : k < N
    case neg =>
      obtain rfl : N = k := by omega
      have hfi := hf h1
      have hat := ht1 h1
      subst hfi hat
      have he : a = t ∧ s - sm = 0 := by
        have := HCH.out
        rw [List.drop_of_length_le (by rw [← HN.out]; exact Nat.le_refl _)] at this
        exact this.empty
      obtain ⟨rfl, he2⟩ := he
      have v1 : decide ((N : Int) < (N : Int)) = false := decide_eq_false (by omega)
      have v2 : (sm != 0) = true := by have := HS.out; simp; omega
      have v4 : ((a : Int) == (a : Int)) = true := by simp
      clear hz hf ht1 ht0 he2
      go_wp2
      go_ret
      exact ⟨rfl, hbu⟩
    have hltC : k < C.length := by rw [← HN.out]; exact hlt
    have v1 : decide ((k : Int) < (N : Int)) = true := decide_eq_true (by omega)
    have v3 : IntKind.i64.wrap ((k : Int) + 1) = (k : Int) + 1 := IntWalk.i64_in _ (by omega)
    obtain ⟨b2, off2, rfl, hb2, cc⟩ := HCL.out U hbu k hlt
    have hdr := HCH.out
    rw [List.drop_eq_getElem_cons hltC] at hdr
    have hg : C[k] = C.getD k 0 := by rw [List.getD_eq_getElem?_getD, List.getElem?_eq_getElem hltC]; rfl
    rw [hg] at hdr
    obtain ⟨p1, p2, p3⟩ := hdr.head
    generalize C.getD k 0 = q at *
    have bd := tk_bd HD.out p1
    have hq : q / 2 < l.length := by omega
    obtain ⟨b, off, rfl, hb0, hcl⟩ := sg_cells HR.out (by omega)
    obtain ⟨q0, q1, q2, q3, q4⟩ := hcl U hbu _ hq
    have HF : Hid ((if q % 2 = 0 then (l.getD (q / 2) sg0).b else (l.getD (q / 2) sg0).a) = (frN l q : Int)) := Lib.hid bd.1
    have HT : Hid ((if q % 2 = 0 then (l.getD (q / 2) sg0).a else (l.getD (q / 2) sg0).b) = (toN l q : Int)) := Lib.hid bd.2.1
    have HV : Hid ((if q % 2 = 0 then (l.getD (q / 2) sg0).lo else -(l.getD (q / 2) sg0).lo) = tkV l q) := Lib.hid rfl
    have hlo := HD.out.lo _ hq
    have bd5 := bd.2.2.2.2.1
    have bd6 := bd.2.2.2.2.2
    rw [← HM.out] at hq p1
    clear hcl bd hg hdr
    have e1 : Int.tdiv (q : Int) 2 = ((q / 2 : Nat) : Int) := by rw [Int.tdiv_eq_ediv_of_nonneg (by omega)]; omega
    have e2 : Int.tmod (q : Int) 2 = ((q % 2 : Nat) : Int) := by rw [Int.tmod_eq_emod_of_nonneg (by omega)]; omega
    have e3 : IntKind.i64.wrap ((q / 2 : Nat) : Int) = ((q / 2 : Nat) : Int) := IntWalk.i64_in _ (by omega)
    have z0 : decide ((q : Int) < 0) = false := decide_eq_false (by omega)
    have z1 : decide (((q / 2 : Nat) : Int) ≥ (m : Int)) = false := decide_eq_false (by omega)
    have z2 : decide ((m : Int) ≤ ((q / 2 : Nat) : Int)) = false := decide_eq_false (by omega)
    have z3 : (0 : Int) ≤ ((q / 2 : Nat) : Int) := by omega
    have z4 : ((q / 2 : Nat) : Int) < (m : Int) := by omega
    have yb : b < U.heap.size := by omega
    have yb2 : b2 < U.heap.size := by omega
    generalize l.getD (q / 2) sg0 = S at *
    have p2' : (frN l q : Int) = (t : Int) := by rw [p2]
    rw [p2'] at HF
    have HP3 := Lib.hid (show Chn l (toN l q) (C.drop (k + 1)) a (s - (sm + tkV l q)) by rw [show s - (sm + tkV l q) = s - sm - tkV l q by omega]; exact p3)
    generalize toN l q = T at *
    generalize tkV l q = V at *
    have v6 : IntKind.i64.wrap (sm + V) = sm + V := IntWalk.i64_in _ (by omega)
    have v7 : ((t : Int) != (t : Int)) = false := by simp
    have hkt : (k = 0 ∧ fi = -1 ∧ at' = -1 ∧ t = a) ∨ (1 ≤ k ∧ fi = (a : Int) ∧ at' = (t : Int)) := by
      rcases Nat.eq_zero_or_pos k with h | h
      · exact .inl ⟨h, (hz h).1, (hz h).2, ht0 h⟩
      · exact .inr ⟨h, hf h, ht1 h⟩
    clear hz hf ht1 ht0 p2' p2 p3 HCH
    obtain ⟨r, hr⟩ : ∃ r, r = q % 2 := ⟨_, rfl⟩
    rw [← hr] at HF HT HV e2
    have hr2 : r < 2 := by omega
    clear hr p1
    generalize q / 2 = j at *
    by_cases h0 : r = 0
    · subst h0
      have f1 : S.b = (t : Int) := HF.out
      have f2 : S.a = (T : Int) := HT.out
      have f3 : S.lo = V := HV.out
      rw [f2] at q1
      rw [f1] at q2
      rw [f3] at q3
      clear HF HT HV f1 f2 f3 hr2
      rcases hkt with ⟨rfl, rfl, rfl, rfl⟩ | ⟨hk1, rfl, rfl⟩
      · have cc' : U.cell? ⟨b2, off2, none⟩ = some (.int .i64 (q : Int)) := cc
        go_wp2_with fail
        go_quiet (fail)
        go_wp2
        go_roundw
        case rel => exact ⟨1, sm + V, (t : Int), (T : Int), by omega, rfl, rfl, rfl, rfl, by omega, fun h => absurd h (by omega), fun _ => rfl, ⟨T, fun _ => rfl, fun h => absurd h (by omega), HP3.out⟩, by (repeat (first | (with_reducible exact Below.refl _ _) | (with_reducible assumption) | (with_reducible refine Below.drew ?_) | (with_reducible refine Below.allocS ?_ _) | (with_reducible refine Below.setCell ?_ ?_ _) | (with_reducible refine Below.step ?_ (by assumption)) | (with_reducible refine Below.drewN' ?_ _))); (try any_goals (first | (with_reducible assumption) | (simp; done) | (simp; omega) | omega))⟩
        case measure => simp [intOf]; omega
      · have v8 : decide ((a : Int) < 0) = false := decide_eq_false (by omega)
        go_wp2_with fail
        go_quiet (fail)
        go_wp2
        go_roundw
        case rel => exact ⟨k + 1, sm + V, (a : Int), (T : Int), by omega, by go_num, rfl, rfl, rfl, by omega, fun h => absurd h (by omega), fun _ => rfl, ⟨T, fun _ => rfl, fun h => absurd h (by omega), HP3.out⟩, by (repeat (first | (with_reducible exact Below.refl _ _) | (with_reducible assumption) | (with_reducible refine Below.drew ?_) | (with_reducible refine Below.allocS ?_ _) | (with_reducible refine Below.setCell ?_ ?_ _) | (with_reducible refine Below.step ?_ (by assumption)) | (with_reducible refine Below.drewN' ?_ _))); (try any_goals (first | (with_reducible assumption) | (simp; done) | (simp; omega) | omega))⟩
        case measure => simp [intOf]; omega
    · obtain rfl : r = 1 := by omega
      have f1 : S.a = (t : Int) := HF.out
      have f2 : S.b = (T : Int) := HT.out
      have f3 : -S.lo = V := HV.out
      have v9 : IntKind.i64.wrap (-S.lo) = V := by rw [f3]; exact IntWalk.i64_in _ (by omega)
      rw [f1] at q1
      rw [f2] at q2
      clear HF HT HV f1 f2 f3 hr2 h0
      rcases hkt with ⟨rfl, rfl, rfl, rfl⟩ | ⟨hk1, rfl, rfl⟩
      · have cc' : U.cell? ⟨b2, off2, none⟩ = some (.int .i64 (q : Int)) := cc
        go_wp2_with fail
        go_quiet (fail)
        go_wp2_with fail
        go_quiet (fail)
        go_wp2
        go_roundw
        case rel => exact ⟨1, sm + V, (t : Int), (T : Int), by omega, rfl, rfl, rfl, rfl, by omega, fun h => absurd h (by omega), fun _ => rfl, ⟨T, fun _ => rfl, fun h => absurd h (by omega), HP3.out⟩, by (repeat (first | (with_reducible exact Below.refl _ _) | (with_reducible assumption) | (with_reducible refine Below.drew ?_) | (with_reducible refine Below.allocS ?_ _) | (with_reducible refine Below.setCell ?_ ?_ _) | (with_reducible refine Below.step ?_ (by assumption)) | (with_reducible refine Below.drewN' ?_ _))); (try any_goals (first | (with_reducible assumption) | (simp; done) | (simp; omega) | omega))⟩
        case measure => simp [intOf]; omega
      · have v8 : decide ((a : Int) < 0) = false := decide_eq_false (by omega)
        go_wp2_with fail
        go_quiet (fail)
        go_wp2_with fail
        go_quiet (fail)
        go_wp2
        go_roundw
        case rel => exact ⟨k + 1, sm + V, (a : Int), (T : Int), by omega, by go_num, rfl, rfl, rfl, by omega, fun h => absurd h (by omega), fun _ => rfl, ⟨T, fun _ => rfl, fun h => absurd h (by omega), HP3.out⟩, by (repeat (first | (with_reducible exact Below.refl _ _) | (with_reducible assumption) | (with_reducible refine Below.drew ?_) | (with_reducible refine Below.allocS ?_ _) | (with_reducible refine Below.setCell ?_ ?_ _) | (with_reducible refine Below.step ?_ (by assumption)) | (with_reducible refine Below.drewN' ?_ _))); (try any_goals (first | (with_reducible assumption) | (simp; done) | (simp; omega) | omega))⟩
        case measure => simp [intOf]; omega
end Go.Proofs.Ytomgaiokmdcjmaa
