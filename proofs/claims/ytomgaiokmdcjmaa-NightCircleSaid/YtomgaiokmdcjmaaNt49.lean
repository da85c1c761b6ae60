/-
  spread of the reference, walked. No conditions.
-/
import Derived.Test.YtomgaiokmdcjmaaKN2
import Derived.BigRegion
import Derived.BigQuiet
namespace Go.Proofs.Ytomgaiokmdcjmaa
open Go.RowKit Go.Deep
set_option linter.unusedVariables false
set_option linter.unusedSimpArgs false
set_option maxHeartbeats 8000000 in
set_option maxRecDepth 100000 in
theorem rspread_c (l : List Sg) (A : Option Addr) (cap n : Nat) (hd : VdP n l) (w : World) (hA : RdL w w.heap.size sgE 5 A l) :
    Calls Try.prog 82 #[.int .i64 n, .slice A l.length cap] w fun e w' => (∃ H G K ok, e = .returned (.tuple #[.slice (some ⟨H, 0, none⟩) n n, .slice (some ⟨G, 0, none⟩) n n, .bool ok]) ∧ ArN w' w.heap.size H n (valK K) ∧ ArN w' w.heap.size G n (gN K) ∧ HAll l n K ∧ (ok = true ↔ Sat l (valK K))) ∧ Below w.heap.size w w' := by
  have HD := Lib.hid hd
  have HR := Lib.hid hA
  have hn8 := hd.n8
  have hn1 := hd.n1
  have h30 := hd.len
  have hmk := make_int n (by omega)
  have HTM := Lib.hid (two_made w n)
  obtain ⟨m, hm⟩ : ∃ m, m = l.length := ⟨_, rfl⟩
  have HM := Lib.hid hm
  rw [← hm] at h30 ⊢
  clear hm hd hA
  have HR0 : Hid (RO l n 0 (fun _ => none)) := Lib.hid ⟨⟨⟨fun o h hc => (by cases hc)⟩, fun k hk hc => absurd rfl hc, fun k hk h h' hc => (by cases hc)⟩, fun o ho => absurd ho (Nat.not_lt_zero _), fun o h hc => (by cases hc), fun h => absurd h (by omega)⟩
  go_enter Try.func82, Try.ntmps82
  go_wp2_with fail
  go_cut [4, 5] (fun s4 s5 W => ∃ H G : Nat, s4 = .slice (some ⟨H, 0, none⟩) n n ∧ s5 = .slice (some ⟨G, 0, none⟩) n n ∧ H ≠ G ∧ ArN W w.heap.size H n (fun _ => 0) ∧ ArN W w.heap.size G n (fun _ => 0) ∧ Below w.heap.size w W)
  case first =>
    go_region
    all_goals (go_wp2_with fail; go_meet)
    all_goals first | exact ⟨w.heap.size, w.heap.size + 1, rfl, rfl, by omega, HTM.out.1.step (Below.drew (Below.refl _ _)), HTM.out.2.step (Below.drew (Below.refl _ _)), by (repeat (first | (with_reducible exact Below.refl _ _) | (with_reducible assumption) | (with_reducible refine Below.drew ?_) | (with_reducible refine Below.allocS ?_ _) | (with_reducible refine Below.setCell ?_ ?_ _) | (with_reducible refine Below.step ?_ (by assumption)) | (with_reducible refine Below.drewN' ?_ _))); (try any_goals (first | (with_reducible assumption) | (simp; done) | (simp; omega) | omega))⟩ | exact ⟨w.heap.size + 1, w.heap.size, rfl, rfl, by omega, HTM.out.2.step (Below.drew (Below.refl _ _)), HTM.out.1.step (Below.drew (Below.refl _ _)), by (repeat (first | (with_reducible exact Below.refl _ _) | (with_reducible assumption) | (with_reducible refine Below.drew ?_) | (with_reducible refine Below.allocS ?_ _) | (with_reducible refine Below.setCell ?_ ?_ _) | (with_reducible refine Below.step ?_ (by assumption)) | (with_reducible refine Below.drewN' ?_ _))); (try any_goals (first | (with_reducible assumption) | (simp; done) | (simp; omega) | omega))⟩
  obtain ⟨Hs, Gs, rfl, rfl, hne, ah, ag, hb⟩ := hcut
  have hne' : Gs ≠ Hs := fun e => hne e.symm
  have HAH := Lib.hid ah
  have HAG := Lib.hid ag
  have yh0 : w.heap.size ≤ Hs := ah.ge
  have yg0 : w.heap.size ≤ Gs := ag.ge
  clear ah ag hmk HTM
  go_wp2_with fail
  go_loopw [20] (fun i wr => ∃ k : Nat, k ≤ n ∧ i = .int .i64 k ∧ ArN wr w.heap.size Hs n (fun _ => 0) ∧ ArN wr w.heap.size Gs n (fun j => if j < k then -1 else 0) ∧ Below w.heap.size w wr) (fun i _ => n - (intOf i).toNat)
  case atStart => exact ⟨0, Nat.zero_le _, rfl, HAH.out, HAG.out, hb⟩
  case round =>
    rename World => U
    obtain ⟨k, hk, rfl, ah, ag, hbw⟩ := hrel
    have HAH1 := Lib.hid ah
    have HAG1 := Lib.hid ag
    have yg : Gs < U.heap.size := ag.lt
    clear HAH HAG
    by_cases hlt : k < n
    · have c0 := ag.c k hlt
      have f0 := ag.fz k hlt
      have HP : Hid (ArN (U.setCell ⟨Gs, k, none⟩ (.int .i64 (-1))) w.heap.size Gs n (fun j => if j < k + 1 then -1 else 0)) := Lib.hid (ag.put (fun j hj => by by_cases e : j = k; (subst e; simp); (by_cases e2 : j < k; (rw [if_pos (by omega), if_neg e, if_pos e2]); (rw [if_neg (by omega), if_neg e, if_neg e2]))))
      have HO := Lib.hid (ah.other (v := .int .i64 (-1)) (o := k) hne')
      have u1 : decide ((k : Int) < (n : Int)) = true := decide_eq_true (by omega)
      have u3 : IntKind.i64.wrap ((k : Int) + 1) = (k : Int) + 1 := IntWalk.i64_in _ (by omega)
      clear ah ag
      go_wp2
      go_roundw
      case rel => exact ⟨k + 1, by omega, by go_num, HO.out, HP.out, by (repeat (first | (with_reducible exact Below.refl _ _) | (with_reducible assumption) | (with_reducible refine Below.drew ?_) | (with_reducible refine Below.allocS ?_ _) | (with_reducible refine Below.setCell ?_ ?_ _) | (with_reducible refine Below.step ?_ (by assumption)) | (with_reducible refine Below.drewN' ?_ _))); (try any_goals (first | (with_reducible assumption) | (simp; done) | (simp; omega) | omega))⟩
      case measure => simp [intOf]; omega
    obtain rfl : k = n := by omega
    have u1 : decide ((k : Int) < (k : Int)) = false := decide_eq_false (by omega)
    have HAH := Lib.hid (show ArN U w.heap.size Hs k (valK (fun _ => none)) from HAH1.out)
    have HAG := Lib.hid (show ArN U w.heap.size Gs k (gN (fun _ => none)) from ⟨ag.ge, ag.lt, fun j hj => by have := ag.c j hj; simp only [if_pos hj] at this; exact this, ag.fz⟩)
    clear ah ag HAH1 HAG1 hk hb hlt
    go_wp2_with fail
    go_loopw [28] (fun i wr => ∃ (f : Nat) (K : Nat → Option Hb), f ≤ k ∧ i = .int .i64 f ∧ ArN wr w.heap.size Hs k (valK K) ∧ ArN wr w.heap.size Gs k (gN K) ∧ RO l k f K ∧ Below w.heap.size w wr) (fun i _ => k - (intOf i).toNat)
    case atStart => exact ⟨0, fun _ => none, Nat.zero_le _, rfl, HAH.out, HAG.out, HR0.out, hbw⟩
    case round =>
      rename World => V
      obtain ⟨f, K0, hf, rfl, ah, ag, hro, hbv⟩ := hrel
      have HAH0 := Lib.hid ah
      have HAG0 := Lib.hid ag
      have HRO := Lib.hid hro
      have yv := hbv.size
      have yg : Gs < V.heap.size := ag.lt
      have yh : Hs < V.heap.size := ah.lt
      clear HAH HAG HR0 hbw yg
      clear hro
      have yg : Gs < V.heap.size := ag.lt
      by_cases hfl : f < k
      case neg =>
        obtain rfl : k = f := by omega
        have u2 : decide ((k : Int) < (k : Int)) = false := u1
        have HALL := Lib.hid (HRO.out.hall hn1)
        clear ah ag
        go_wp2_with fail
        go_loopw [117, 6] (fun i s6 wx => ∃ (j : Nat) (ok : Bool), j ≤ m ∧ i = .int .i64 j ∧ s6 = .bool ok ∧ (ok = true ↔ ∀ j', j' < j → valK K0 (l.getD j' sg0).a.toNat - valK K0 (l.getD j' sg0).b.toNat = (l.getD j' sg0).lo) ∧ ArN wx w.heap.size Hs k (valK K0) ∧ ArN wx w.heap.size Gs k (gN K0) ∧ Below w.heap.size w wx) (fun i _ _ => m - (intOf i).toNat)
        case atStart => exact ⟨0, true, Nat.zero_le _, rfl, rfl, ⟨fun _ j hj => absurd hj (Nat.not_lt_zero _), fun _ => rfl⟩, HAH0.out, HAG0.out, hbv⟩
        case round =>
          rename World => X
          obtain ⟨j, ok, hj, rfl, rfl, hok, ah, ag, hbx⟩ := hrel
          have HOK := Lib.hid hok
          have HAH1 := Lib.hid ah
          have HAG1 := Lib.hid ag
          have yh1 : Hs < X.heap.size := ah.lt
          clear hok ag
          by_cases hlt : j < m
          case neg =>
            obtain rfl : j = m := by omega
            have v1 : decide ((j : Int) < (j : Int)) = false := decide_eq_false (by omega)
            clear ah
            go_wp2
            refine bodyPost_ret (v := .tuple #[.slice (some ⟨Hs, 0, none⟩) k k, .slice (some ⟨Gs, 0, none⟩) k k, .bool ok]) (by simp [results, Try.results82, go_sem, *] <;> (repeat' apply And.intro) <;> rfl) rfl ⟨⟨Hs, Gs, K0, ok, rfl, HAH1.out, HAG1.out, HALL.out, HOK.out.trans ⟨fun h => Sat.even (fun i hi => h i (by rw [HM.out]; exact hi)), fun h i hi => h.at (by rw [← HM.out]; exact hi)⟩⟩, hbx⟩
          have v1 : decide ((j : Int) < (m : Int)) = true := decide_eq_true (by omega)
          have v3 : IntKind.i64.wrap ((j : Int) + 1) = (j : Int) + 1 := IntWalk.i64_in _ (by omega)
          have hjl : j < l.length := by rw [← HM.out]; exact hlt
          have ea := HD.out.a j hjl
          have eb := HD.out.b j hjl
          have el := HD.out.lo j hjl
          obtain ⟨b, off, rfl, hb0, hch⟩ := sg_cells HR.out (by omega)
          obtain ⟨q0, q1, q2, q3, q4⟩ := hch X hbx j hjl
          have yb : b < X.heap.size := cell?_lt q0
          have HS : Hid (ok = true ∧ valK K0 (l.getD j sg0).a.toNat - valK K0 (l.getD j sg0).b.toNat = (l.getD j sg0).lo ↔ ∀ j', j' < j + 1 → valK K0 (l.getD j' sg0).a.toNat - valK K0 (l.getD j' sg0).b.toNat = (l.getD j' sg0).lo) := Lib.hid ⟨fun h j' hj' => by (rcases Nat.lt_succ_iff_lt_or_eq.1 hj' with h' | rfl; exact HOK.out.1 h.1 j' h'; exact h.2), fun h => ⟨HOK.out.2 (fun j' hj' => h j' (by omega)), h j (by omega)⟩⟩
          have hva : ∀ o, -100000000 ≤ valK K0 o ∧ valK K0 o ≤ 100000000 := fun o => by
            unfold valK
            cases hc : K0 o with
            | none => simp
            | some h => exact (HRO.out.ok.inv.bd HD.out o h hc).1
          generalize l.getD j sg0 = s at *
          clear hch hjl HOK
          obtain ⟨a, hsa⟩ : ∃ a : Nat, a = s.a.toNat := ⟨_, rfl⟩
          obtain ⟨b2, hsb⟩ : ∃ b2 : Nat, b2 = s.b.toNat := ⟨_, rfl⟩
          rw [← hsa, ← hsb] at HS
          have r1 : s.a = (a : Int) := by omega
          have r2 : s.b = (b2 : Int) := by omega
          have r3 : a < k := by omega
          have r4 : b2 < k := by omega
          rw [r1] at q1
          rw [r2] at q2
          have ca := ah.c a r3
          have cb := ah.c b2 r4
          have ba := hva a
          have bb := hva b2
          clear hsa hsb r1 r2 ea eb ah hva
          generalize valK K0 a = va at *
          generalize valK K0 b2 = vb at *
          have v4 : IntKind.i64.wrap (va - vb) = va - vb := IntWalk.i64_in _ (by omega)
          cases ok
          case false =>
            have HX := Lib.hid (show (false = true ↔ _) from ⟨fun h => (by cases h), fun h => (HS.out.2 h).1⟩)
            clear HS
            go_wp2_with fail
            go_quiet (fail)
            go_wp2
            go_roundw
            case rel => exact ⟨j + 1, false, by omega, by go_num, rfl, HX.out, HAH1.out.step (by (repeat (first | (with_reducible exact Below.refl _ _) | (with_reducible assumption) | (with_reducible refine Below.drew ?_) | (with_reducible refine Below.allocS ?_ _) | (with_reducible refine Below.setCell ?_ ?_ _) | (with_reducible refine Below.step ?_ (by assumption)) | (with_reducible refine Below.drewN' ?_ _))); (try any_goals (first | (with_reducible assumption) | (simp; done) | (simp; omega) | omega))), HAG1.out.step (by (repeat (first | (with_reducible exact Below.refl _ _) | (with_reducible assumption) | (with_reducible refine Below.drew ?_) | (with_reducible refine Below.allocS ?_ _) | (with_reducible refine Below.setCell ?_ ?_ _) | (with_reducible refine Below.step ?_ (by assumption)) | (with_reducible refine Below.drewN' ?_ _))); (try any_goals (first | (with_reducible assumption) | (simp; done) | (simp; omega) | omega))), by (repeat (first | (with_reducible exact Below.refl _ _) | (with_reducible assumption) | (with_reducible refine Below.drew ?_) | (with_reducible refine Below.allocS ?_ _) | (with_reducible refine Below.setCell ?_ ?_ _) | (with_reducible refine Below.step ?_ (by assumption)) | (with_reducible refine Below.drewN' ?_ _))); (try any_goals (first | (with_reducible assumption) | (simp; done) | (simp; omega) | omega))⟩
            case measure => simp [intOf]; omega
          obtain ⟨q, hq⟩ : ∃ q : Bool, q = (va - vb == s.lo) := ⟨_, rfl⟩
          have HX := Lib.hid (show (q = true ↔ _) from ⟨fun h => HS.out.1 ⟨rfl, (by rw [hq] at h; simpa using h)⟩, fun h => (by rw [hq]; simpa using (HS.out.2 h).2)⟩)
          have hq' : (va - vb == s.lo) = q := hq.symm
          clear HS hq
          go_wp2_with fail
          go_quiet (fail)
          go_wp2
          go_roundw
          case rel => exact ⟨j + 1, q, by omega, by go_num, rfl, HX.out, HAH1.out.step (by (repeat (first | (with_reducible exact Below.refl _ _) | (with_reducible assumption) | (with_reducible refine Below.drew ?_) | (with_reducible refine Below.allocS ?_ _) | (with_reducible refine Below.setCell ?_ ?_ _) | (with_reducible refine Below.step ?_ (by assumption)) | (with_reducible refine Below.drewN' ?_ _))); (try any_goals (first | (with_reducible assumption) | (simp; done) | (simp; omega) | omega))), HAG1.out.step (by (repeat (first | (with_reducible exact Below.refl _ _) | (with_reducible assumption) | (with_reducible refine Below.drew ?_) | (with_reducible refine Below.allocS ?_ _) | (with_reducible refine Below.setCell ?_ ?_ _) | (with_reducible refine Below.step ?_ (by assumption)) | (with_reducible refine Below.drewN' ?_ _))); (try any_goals (first | (with_reducible assumption) | (simp; done) | (simp; omega) | omega))), by (repeat (first | (with_reducible exact Below.refl _ _) | (with_reducible assumption) | (with_reducible refine Below.drew ?_) | (with_reducible refine Below.allocS ?_ _) | (with_reducible refine Below.setCell ?_ ?_ _) | (with_reducible refine Below.step ?_ (by assumption)) | (with_reducible refine Below.drewN' ?_ _))); (try any_goals (first | (with_reducible assumption) | (simp; done) | (simp; omega) | omega))⟩
          case measure => simp [intOf]; omega
      have u4 : decide ((f : Int) < (k : Int)) = true := decide_eq_true (by omega)
      have u5 : IntKind.i64.wrap ((f : Int) + 1) = (f : Int) + 1 := IntWalk.i64_in _ (by omega)
      have c0 := ag.c f hfl
      have f0 := ag.fz f hfl
      cases hkf : K0 f with
      | none =>
        rw [gN_none hkf] at c0
        obtain ⟨K1, hK1⟩ : ∃ K1, K1 = upd K0 f ⟨0, f, sl0⟩ := ⟨_, rfl⟩
        have HFX := Lib.hid (Fx.new1 HRO.out hfl hkf)
        have HAG1 := Lib.hid (show ArN (V.setCell ⟨Gs, f, none⟩ (.int .i64 f)) w.heap.size Gs k (gN (upd K0 f ⟨0, f, sl0⟩)) from ag.put (fun j hj => gN_upd _ _ _ _))
        have HAH1 := Lib.hid (show ArN (V.setCell ⟨Gs, f, none⟩ (.int .i64 f)) w.heap.size Hs k (valK (upd K0 f ⟨0, f, sl0⟩)) from ⟨(ah.other (v := .int .i64 f) (o := f) hne').ge, (ah.other (v := .int .i64 f) (o := f) hne').lt, fun j hj => (by
          rw [valK_upd]
          by_cases e : j = f
          · rw [e] at hj ⊢
            have := (ah.other (v := .int .i64 f) (o := f) hne').c f hj
            unfold valK at this
            rw [hkf] at this
            rw [if_pos rfl]; exact this
          · rw [if_neg e]; exact (ah.other (v := .int .i64 f) (o := f) hne').c j hj), (ah.other (v := .int .i64 f) (o := f) hne').fz⟩)
        have H1K := Lib.hid (show K1 f ≠ none ∧ (f = 0 → K1 0 = some ⟨0, 0, sl0⟩) from ⟨by rw [hK1, upd_same]; simp, fun e => by rw [hK1]; subst e; exact upd_same _ _ _⟩)
        rw [← hK1] at HFX HAG1 HAH1
        clear ah ag hK1 hkf
        go_wp2_with fail
        go_loopg [9] (k + 2) (fun gk s9 wr => ∃ (ch : Bool) (K : Nat → Option Hb), s9 = .bool ch ∧ k - cntK K k ≤ gk ∧ (ch = true → k - cntK K k + 1 ≤ gk) ∧ ArN wr w.heap.size Hs k (valK K) ∧ ArN wr w.heap.size Gs k (gN K) ∧ Fx l k f K0 K1 K ∧ (ch = false → ∀ j, j < l.length → QJ l f K j) ∧ Below w.heap.size w wr)
        case atStart => exact ⟨true, K1, rfl, by omega, fun _ => by omega, HAH1.out, HAG1.out, HFX.out, fun h => (by cases h), by (repeat (first | (with_reducible exact Below.refl _ _) | (with_reducible assumption) | (with_reducible refine Below.drew ?_) | (with_reducible refine Below.allocS ?_ _) | (with_reducible refine Below.setCell ?_ ?_ _) | (with_reducible refine Below.step ?_ (by assumption)) | (with_reducible refine Below.drewN' ?_ _))); (try any_goals (first | (with_reducible assumption) | (simp; done) | (simp; omega) | omega))⟩
        case round =>
          obtain ⟨ch, K, rfl, g1, g2, ah, ag, hfx, hqu, hbr⟩ := hrel
          have HG1 := Lib.hid g1
          have HG2 := Lib.hid g2
          have HAH2 := Lib.hid ah
          have HAG2 := Lib.hid ag
          have HFX2 := Lib.hid hfx
          have HQU := Lib.hid hqu
          have yw : Hs < wr.heap.size := ah.lt
          have yw2 : Gs < wr.heap.size := ag.lt
          clear g1 g2 ah ag hfx hqu HAH1 HAG1 HFX
          cases ch
          case false =>
            have HRN := Lib.hid (Fx.done HD.out HFX2.out HRO.out H1K.out.1 H1K.out.2 (HQU.out rfl))
            go_wp2
            go_roundw
            case rel => exact ⟨f + 1, K, by omega, by go_num, HAH2.out, HAG2.out, HRN.out, by (repeat (first | (with_reducible exact Below.refl _ _) | (with_reducible assumption) | (with_reducible refine Below.drew ?_) | (with_reducible refine Below.allocS ?_ _) | (with_reducible refine Below.setCell ?_ ?_ _) | (with_reducible refine Below.step ?_ (by assumption)) | (with_reducible refine Below.drewN' ?_ _))); (try any_goals (first | (with_reducible assumption) | (simp; done) | (simp; omega) | omega))⟩
            case measure => simp [intOf]; omega
          have HGK := Lib.hid (HG2.out rfl)
          clear HG1 HG2 HQU
          go_wp2_with fail
          go_loopw [43, 9] (fun i s9 wx => ∃ (j : Nat) (ch : Bool) (K' : Nat → Option Hb), j ≤ m ∧ i = .int .i64 j ∧ s9 = .bool ch ∧ (ch = true → cntK K k + 1 ≤ cntK K' k) ∧ (ch = false → K' = K ∧ ∀ j', j' < j → QJ l f K j') ∧ cntK K k ≤ cntK K' k ∧ ArN wx w.heap.size Hs k (valK K') ∧ ArN wx w.heap.size Gs k (gN K') ∧ Fx l k f K0 K1 K' ∧ Below w.heap.size w wx) (fun i _ _ => m - (intOf i).toNat)
          case atStart => exact ⟨0, false, K, Nat.zero_le _, rfl, rfl, fun h => (by cases h), fun _ => ⟨rfl, fun j hj => absurd hj (Nat.not_lt_zero _)⟩, Nat.le_refl _, HAH2.out, HAG2.out, HFX2.out, by (repeat (first | (with_reducible exact Below.refl _ _) | (with_reducible assumption) | (with_reducible refine Below.drew ?_) | (with_reducible refine Below.allocS ?_ _) | (with_reducible refine Below.setCell ?_ ?_ _) | (with_reducible refine Below.step ?_ (by assumption)) | (with_reducible refine Below.drewN' ?_ _))); (try any_goals (first | (with_reducible assumption) | (simp; done) | (simp; omega) | omega))⟩
          case round =>
            rename World => X
            obtain ⟨j, ch, K', hj, rfl, rfl, g1, g2, g3, ah, ag, hfx, hbx⟩ := hrel
            have HC1 := Lib.hid g1
            have HC2 := Lib.hid g2
            have HC3 := Lib.hid g3
            have HAH3 := Lib.hid ah
            have HAG3 := Lib.hid ag
            have HFX3 := Lib.hid hfx
            have yh1 : Hs < X.heap.size := ah.lt
            have yg1 : Gs < X.heap.size := ag.lt
            clear g1 g2 g3 hfx HAH2 HAG2 HFX2
            by_cases hlt : j < m
            case neg =>
              obtain rfl : j = m := by omega
              have v1 : decide ((j : Int) < (j : Int)) = false := decide_eq_false (by omega)
              clear ah ag
              go_wp2
              go_roundg (gk - 1)
              case rel =>
                have h1 := HGK.out
                have h2 := HC3.out
                have h3 := cntK_le K' k
                refine ⟨ch, K', rfl, by omega, fun hc => (by have := HC1.out hc; omega), HAH3.out, HAG3.out, HFX3.out, fun hc j' hj' => ?_, hbx⟩
                obtain ⟨e, h⟩ := HC2.out hc
                rw [e]
                exact h j' (by rw [HM.out]; exact hj')
              case measure => have := HGK.out; omega
            have v1 : decide ((j : Int) < (m : Int)) = true := decide_eq_true (by omega)
            have v3 : IntKind.i64.wrap ((j : Int) + 1) = (j : Int) + 1 := IntWalk.i64_in _ (by omega)
            have hjl : j < l.length := by rw [← HM.out]; exact hlt
            obtain ⟨e1, e2, l1, l2, l3, l4⟩ := tk_bd HD.out (k := 2 * j) (by omega)
            obtain ⟨o1, o2, o3⟩ := odd_tk l j
            have ea : (l.getD j sg0).a = (toN l (2 * j) : Int) := by rw [← e2]; unfold tkT; rw [if_pos (by omega), show 2 * j / 2 = j by omega]
            have eb : (l.getD j sg0).b = (frN l (2 * j) : Int) := by rw [← e1]; unfold tkF; rw [if_pos (by omega), show 2 * j / 2 = j by omega]
            have el : (l.getD j sg0).lo = tkV l (2 * j) := by unfold tkV; rw [if_pos (by omega), show 2 * j / 2 = j by omega]
            obtain ⟨b, off, rfl, hb0, hch⟩ := sg_cells HR.out (by omega)
            obtain ⟨q0, q1, q2, q3, q4⟩ := hch X hbx j hjl
            have yb : b < X.heap.size := cell?_lt q0
            rw [ea] at q1
            rw [eb] at q2
            rw [el] at q3
            have ST1 := Lib.hid (fun (x : Hb) (hx : K' (toN l (2 * j)) = some x) (hxf : x.f = f) (h2 : K' (frN l (2 * j)) = none) => Fx.step (x := x) HD.out (by omega) HFX3.out (k := 2 * j + 1) (by omega) (by rw [o1]; exact hx) hxf (by rw [o2]; exact h2))
            have ST2 := Lib.hid (fun (x : Hb) (hx : K' (frN l (2 * j)) = some x) (hxf : x.f = f) (h2 : K' (toN l (2 * j)) = none) => Fx.step (x := x) HD.out (by omega) HFX3.out (k := 2 * j) (by omega) hx hxf h2)
            rw [o2, o3] at ST1
            have HQ : Hid (QJ l f K' j ↔ ¬ (gN K' (toN l (2 * j)) = (f : Int) ∧ gN K' (frN l (2 * j)) < 0) ∧ ¬ (gN K' (frN l (2 * j)) = (f : Int) ∧ gN K' (toN l (2 * j)) < 0)) := Lib.hid Iff.rfl
            have ba : -100000000 ≤ valK K' (toN l (2 * j)) ∧ valK K' (toN l (2 * j)) ≤ 100000000 := by
              unfold valK
              cases hc : K' (toN l (2 * j)) with
              | none => simp
              | some h => exact (HFX3.out.inv.bd HD.out _ h hc).1
            have bb : -100000000 ≤ valK K' (frN l (2 * j)) ∧ valK K' (frN l (2 * j)) ≤ 100000000 := by
              unfold valK
              cases hc : K' (frN l (2 * j)) with
              | none => simp
              | some h => exact (HFX3.out.inv.bd HD.out _ h hc).1
            generalize toN l (2 * j) = a at *
            generalize frN l (2 * j) = b2 at *
            generalize tkV l (2 * j) = lo at *
            have ca := ah.c a l2
            have cb := ah.c b2 l1
            have ga := ag.c a l2
            have gb := ag.c b2 l1
            have fa := ah.fz a l2
            have fb := ah.fz b2 l1
            have pa := ag.fz a l2
            have pb := ag.fz b2 l1
            have v4 : IntKind.i64.wrap (valK K' a - lo) = valK K' a - lo := IntWalk.i64_in _ (by omega)
            have v5 : IntKind.i64.wrap (valK K' b2 + lo) = valK K' b2 + lo := IntWalk.i64_in _ (by omega)
            generalize (l.getD j sg0).t = s0 at *
            generalize (l.getD j sg0).hi = h0 at *
            clear hch hjl e1 e2 ea eb el o1 o2 o3 ah ag
            by_cases t1 : gN K' a = (f : Int)
            case pos =>
              by_cases t2 : gN K' b2 < 0
              case pos =>
                obtain ⟨x, hx, hxf⟩ := gN_eq.1 t1
                obtain ⟨hf3, hcn⟩ := ST1.out x hx hxf (gN_neg.1 t2)
                try rw [show x.v + -lo = x.v - lo by omega] at hf3 hcn
                have hxv : valK K' a = x.v := by unfold valK; rw [hx]
                have HN1 := Lib.hid (two_put (W := (X.alloc (.cells #[.int .i64 s0, .int .i64 a, .int .i64 b2, .int .i64 lo, .int .i64 h0] 54))) (HAH3.out.step (Below.allocS (Below.refl _ _) _)) (HAG3.out.step (Below.allocS (Below.refl _ _) _)) hne b2 ⟨x.v - lo, f, ⟨none, 0, x.s.xs ++ [2 * j + 1]⟩⟩)
                have HF3 := Lib.hid hf3
                have HCN := Lib.hid hcn
                rw [t1] at ga
                rw [gN_none (gN_neg.1 t2)] at gb
                have HNV := Lib.hid hxv
                rw [show x.v = valK K' a from hxv.symm] at HN1 HF3 HCN
                clear hf3 hcn hxv hx t1 t2 ST1 ST2 HQ HAH3 HAG3 HFX3
                have h1 : (X.alloc (.cells #[.int .i64 s0, .int .i64 a, .int .i64 b2, .int .i64 lo, .int .i64 h0] 54)).cell? ⟨X.heap.size, 1, none⟩ = some (.int .i64 a) := by simp [go_sem]
                have h2 : (X.alloc (.cells #[.int .i64 s0, .int .i64 a, .int .i64 b2, .int .i64 lo, .int .i64 h0] 54)).cell? ⟨X.heap.size, 2, none⟩ = some (.int .i64 b2) := by simp [go_sem]
                have h3 : (X.alloc (.cells #[.int .i64 s0, .int .i64 a, .int .i64 b2, .int .i64 lo, .int .i64 h0] 54)).cell? ⟨X.heap.size, 3, none⟩ = some (.int .i64 lo) := by simp [go_sem]
                have ya : X.heap.size < (X.alloc (.cells #[.int .i64 s0, .int .i64 a, .int .i64 b2, .int .i64 lo, .int .i64 h0] 54)).heap.size := by simp
                have yag : Gs < (X.alloc (.cells #[.int .i64 s0, .int .i64 a, .int .i64 b2, .int .i64 lo, .int .i64 h0] 54)).heap.size := by simp; omega
                have yah : Hs < (X.alloc (.cells #[.int .i64 s0, .int .i64 a, .int .i64 b2, .int .i64 lo, .int .i64 h0] 54)).heap.size := by simp; omega
                have ga' : (X.alloc (.cells #[.int .i64 s0, .int .i64 a, .int .i64 b2, .int .i64 lo, .int .i64 h0] 54)).cell? ⟨Gs, a, none⟩ = some (.int .i64 f) := keep_cell (Below.allocS (Below.refl _ _) _) ga
                have gb' : (X.alloc (.cells #[.int .i64 s0, .int .i64 a, .int .i64 b2, .int .i64 lo, .int .i64 h0] 54)).cell? ⟨Gs, b2, none⟩ = some (.int .i64 (-1)) := keep_cell (Below.allocS (Below.refl _ _) _) gb
                have ca' : (X.alloc (.cells #[.int .i64 s0, .int .i64 a, .int .i64 b2, .int .i64 lo, .int .i64 h0] 54)).cell? ⟨Hs, a, none⟩ = some (.int .i64 (valK K' a)) := keep_cell (Below.allocS (Below.refl _ _) _) ca
                have cb' : (X.alloc (.cells #[.int .i64 s0, .int .i64 a, .int .i64 b2, .int .i64 lo, .int .i64 h0] 54)).cell? ⟨Hs, b2, none⟩ = some (.int .i64 (valK K' b2)) := keep_cell (Below.allocS (Below.refl _ _) _) cb
                have fb' : (X.alloc (.cells #[.int .i64 s0, .int .i64 a, .int .i64 b2, .int .i64 lo, .int .i64 h0] 54)).frozen? ⟨Hs, b2, none⟩ = false := keep_frozen (Below.allocS (Below.refl _ _) _) yh1 fb
                have pb' : (X.alloc (.cells #[.int .i64 s0, .int .i64 a, .int .i64 b2, .int .i64 lo, .int .i64 h0] 54)).frozen? ⟨Gs, b2, none⟩ = false := keep_frozen (Below.allocS (Below.refl _ _) _) yg1 pb
                have hbx' : Below w.heap.size w (X.alloc (.cells #[.int .i64 s0, .int .i64 a, .int .i64 b2, .int .i64 lo, .int .i64 h0] 54)) := by (repeat (first | (with_reducible exact Below.refl _ _) | (with_reducible assumption) | (with_reducible refine Below.drew ?_) | (with_reducible refine Below.allocS ?_ _) | (with_reducible refine Below.setCell ?_ ?_ _) | (with_reducible refine Below.step ?_ (by assumption)) | (with_reducible refine Below.drewN' ?_ _))); (try any_goals (first | (with_reducible assumption) | (simp; done) | (simp; omega) | omega))
                go_wp2_with fail
                generalize (X.alloc (.cells #[.int .i64 s0, .int .i64 a, .int .i64 b2, .int .i64 lo, .int .i64 h0] 54)) = W1 at *
                go_region
                all_goals
                  go_wp2
                  go_roundw
                  case rel =>
                    refine ⟨j + 1, true, _, by omega, by go_num, rfl, fun _ => ?_, fun h => (by cases h), ?_, ?_, ?_, HF3.out, by (repeat (first | (with_reducible exact Below.refl _ _) | (with_reducible assumption) | (with_reducible refine Below.drew ?_) | (with_reducible refine Below.allocS ?_ _) | (with_reducible refine Below.setCell ?_ ?_ _) | (with_reducible refine Below.step ?_ (by assumption)) | (with_reducible refine Below.drewN' ?_ _))); (try any_goals (first | (with_reducible assumption) | (simp; done) | (simp; omega) | omega))⟩
                    · have h1 := HCN.out; have h2 := HC3.out; omega
                    · have h1 := HCN.out; have h2 := HC3.out; omega
                    · first | exact HN1.out.1.1.step (Below.drew (Below.refl _ _)) | exact HN1.out.2.1.step (Below.drew (Below.refl _ _))
                    · first | exact HN1.out.1.2.step (Below.drew (Below.refl _ _)) | exact HN1.out.2.2.step (Below.drew (Below.refl _ _))
                  case measure => simp [intOf]; omega
              have s2 := t2
              rw [t1] at ga HQ
              have d2 : decide (gN K' b2 < 0) = false := decide_eq_false t2
              have d3 : decide ((f : Int) < 0) = false := decide_eq_false (by omega)
              have HQJ := Lib.hid (show ¬ ((f : Int) = (f : Int) ∧ gN K' b2 < 0) ∧ ¬ (gN K' b2 = (f : Int) ∧ (f : Int) < 0) from ⟨fun h => t2 h.2, fun h => by omega⟩)
              clear s2 t1 t2 ST1 ST2
              generalize gN K' b2 = gvb at *
              by_cases t3 : gvb = (f : Int)
              case pos =>
                subst t3
                go_wp2
                go_roundw
                case rel => exact ⟨j + 1, ch, K', by omega, by go_num, rfl, HC1.out, fun h => ⟨(HC2.out h).1, fun j' hj' => (by rcases Nat.lt_succ_iff_lt_or_eq.1 hj' with h' | rfl; exact (HC2.out h).2 j' h'; rw [← (HC2.out h).1]; exact HQ.out.2 HQJ.out)⟩, HC3.out, HAH3.out.step (by (repeat (first | (with_reducible exact Below.refl _ _) | (with_reducible assumption) | (with_reducible refine Below.drew ?_) | (with_reducible refine Below.allocS ?_ _) | (with_reducible refine Below.setCell ?_ ?_ _) | (with_reducible refine Below.step ?_ (by assumption)) | (with_reducible refine Below.drewN' ?_ _))); (try any_goals (first | (with_reducible assumption) | (simp; done) | (simp; omega) | omega))), HAG3.out.step (by (repeat (first | (with_reducible exact Below.refl _ _) | (with_reducible assumption) | (with_reducible refine Below.drew ?_) | (with_reducible refine Below.allocS ?_ _) | (with_reducible refine Below.setCell ?_ ?_ _) | (with_reducible refine Below.step ?_ (by assumption)) | (with_reducible refine Below.drewN' ?_ _))); (try any_goals (first | (with_reducible assumption) | (simp; done) | (simp; omega) | omega))), HFX3.out, by (repeat (first | (with_reducible exact Below.refl _ _) | (with_reducible assumption) | (with_reducible refine Below.drew ?_) | (with_reducible refine Below.allocS ?_ _) | (with_reducible refine Below.setCell ?_ ?_ _) | (with_reducible refine Below.step ?_ (by assumption)) | (with_reducible refine Below.drewN' ?_ _))); (try any_goals (first | (with_reducible assumption) | (simp; done) | (simp; omega) | omega))⟩
                case measure => simp [intOf]; omega
              have d4 : (gvb == (f : Int)) = false := by simp [t3]
              clear t3
              go_wp2
              go_roundw
              case rel => exact ⟨j + 1, ch, K', by omega, by go_num, rfl, HC1.out, fun h => ⟨(HC2.out h).1, fun j' hj' => (by rcases Nat.lt_succ_iff_lt_or_eq.1 hj' with h' | rfl; exact (HC2.out h).2 j' h'; rw [← (HC2.out h).1]; exact HQ.out.2 HQJ.out)⟩, HC3.out, HAH3.out.step (by (repeat (first | (with_reducible exact Below.refl _ _) | (with_reducible assumption) | (with_reducible refine Below.drew ?_) | (with_reducible refine Below.allocS ?_ _) | (with_reducible refine Below.setCell ?_ ?_ _) | (with_reducible refine Below.step ?_ (by assumption)) | (with_reducible refine Below.drewN' ?_ _))); (try any_goals (first | (with_reducible assumption) | (simp; done) | (simp; omega) | omega))), HAG3.out.step (by (repeat (first | (with_reducible exact Below.refl _ _) | (with_reducible assumption) | (with_reducible refine Below.drew ?_) | (with_reducible refine Below.allocS ?_ _) | (with_reducible refine Below.setCell ?_ ?_ _) | (with_reducible refine Below.step ?_ (by assumption)) | (with_reducible refine Below.drewN' ?_ _))); (try any_goals (first | (with_reducible assumption) | (simp; done) | (simp; omega) | omega))), HFX3.out, by (repeat (first | (with_reducible exact Below.refl _ _) | (with_reducible assumption) | (with_reducible refine Below.drew ?_) | (with_reducible refine Below.allocS ?_ _) | (with_reducible refine Below.setCell ?_ ?_ _) | (with_reducible refine Below.step ?_ (by assumption)) | (with_reducible refine Below.drewN' ?_ _))); (try any_goals (first | (with_reducible assumption) | (simp; done) | (simp; omega) | omega))⟩
              case measure => simp [intOf]; omega
            have d1 : (gN K' a == (f : Int)) = false := by simp [t1]
            by_cases t3 : gN K' b2 = (f : Int)
            case pos =>
              by_cases t4 : gN K' a < 0
              case pos =>
                obtain ⟨x, hx, hxf⟩ := gN_eq.1 t3
                obtain ⟨hf3, hcn⟩ := ST2.out x hx hxf (gN_neg.1 t4)
                try rw [show x.v + -lo = x.v - lo by omega] at hf3 hcn
                have hxv : valK K' b2 = x.v := by unfold valK; rw [hx]
                have HN1 := Lib.hid (two_put (W := (X.alloc (.cells #[.int .i64 s0, .int .i64 a, .int .i64 b2, .int .i64 lo, .int .i64 h0] 54))) (HAH3.out.step (Below.allocS (Below.refl _ _) _)) (HAG3.out.step (Below.allocS (Below.refl _ _) _)) hne a ⟨x.v + lo, f, ⟨none, 0, x.s.xs ++ [2 * j]⟩⟩)
                have HF3 := Lib.hid hf3
                have HCN := Lib.hid hcn
                rw [t3] at gb
                rw [gN_none (gN_neg.1 t4)] at ga
                have HNV := Lib.hid hxv
                rw [show x.v = valK K' b2 from hxv.symm] at HN1 HF3 HCN
                clear hf3 hcn hxv hx t1 d1 t3 t4 ST1 ST2 HQ HAH3 HAG3 HFX3
                have h1 : (X.alloc (.cells #[.int .i64 s0, .int .i64 a, .int .i64 b2, .int .i64 lo, .int .i64 h0] 54)).cell? ⟨X.heap.size, 1, none⟩ = some (.int .i64 a) := by simp [go_sem]
                have h2 : (X.alloc (.cells #[.int .i64 s0, .int .i64 a, .int .i64 b2, .int .i64 lo, .int .i64 h0] 54)).cell? ⟨X.heap.size, 2, none⟩ = some (.int .i64 b2) := by simp [go_sem]
                have h3 : (X.alloc (.cells #[.int .i64 s0, .int .i64 a, .int .i64 b2, .int .i64 lo, .int .i64 h0] 54)).cell? ⟨X.heap.size, 3, none⟩ = some (.int .i64 lo) := by simp [go_sem]
                have ya : X.heap.size < (X.alloc (.cells #[.int .i64 s0, .int .i64 a, .int .i64 b2, .int .i64 lo, .int .i64 h0] 54)).heap.size := by simp
                have yag : Gs < (X.alloc (.cells #[.int .i64 s0, .int .i64 a, .int .i64 b2, .int .i64 lo, .int .i64 h0] 54)).heap.size := by simp; omega
                have yah : Hs < (X.alloc (.cells #[.int .i64 s0, .int .i64 a, .int .i64 b2, .int .i64 lo, .int .i64 h0] 54)).heap.size := by simp; omega
                have ga' : (X.alloc (.cells #[.int .i64 s0, .int .i64 a, .int .i64 b2, .int .i64 lo, .int .i64 h0] 54)).cell? ⟨Gs, a, none⟩ = some (.int .i64 (-1)) := keep_cell (Below.allocS (Below.refl _ _) _) ga
                have gb' : (X.alloc (.cells #[.int .i64 s0, .int .i64 a, .int .i64 b2, .int .i64 lo, .int .i64 h0] 54)).cell? ⟨Gs, b2, none⟩ = some (.int .i64 f) := keep_cell (Below.allocS (Below.refl _ _) _) gb
                have ca' : (X.alloc (.cells #[.int .i64 s0, .int .i64 a, .int .i64 b2, .int .i64 lo, .int .i64 h0] 54)).cell? ⟨Hs, a, none⟩ = some (.int .i64 (valK K' a)) := keep_cell (Below.allocS (Below.refl _ _) _) ca
                have cb' : (X.alloc (.cells #[.int .i64 s0, .int .i64 a, .int .i64 b2, .int .i64 lo, .int .i64 h0] 54)).cell? ⟨Hs, b2, none⟩ = some (.int .i64 (valK K' b2)) := keep_cell (Below.allocS (Below.refl _ _) _) cb
                have fb' : (X.alloc (.cells #[.int .i64 s0, .int .i64 a, .int .i64 b2, .int .i64 lo, .int .i64 h0] 54)).frozen? ⟨Hs, a, none⟩ = false := keep_frozen (Below.allocS (Below.refl _ _) _) yh1 fa
                have pb' : (X.alloc (.cells #[.int .i64 s0, .int .i64 a, .int .i64 b2, .int .i64 lo, .int .i64 h0] 54)).frozen? ⟨Gs, a, none⟩ = false := keep_frozen (Below.allocS (Below.refl _ _) _) yg1 pa
                have hbx' : Below w.heap.size w (X.alloc (.cells #[.int .i64 s0, .int .i64 a, .int .i64 b2, .int .i64 lo, .int .i64 h0] 54)) := by (repeat (first | (with_reducible exact Below.refl _ _) | (with_reducible assumption) | (with_reducible refine Below.drew ?_) | (with_reducible refine Below.allocS ?_ _) | (with_reducible refine Below.setCell ?_ ?_ _) | (with_reducible refine Below.step ?_ (by assumption)) | (with_reducible refine Below.drewN' ?_ _))); (try any_goals (first | (with_reducible assumption) | (simp; done) | (simp; omega) | omega))
                go_wp2_with fail
                generalize (X.alloc (.cells #[.int .i64 s0, .int .i64 a, .int .i64 b2, .int .i64 lo, .int .i64 h0] 54)) = W1 at *
                go_region
                all_goals
                  go_wp2
                  go_roundw
                  case rel =>
                    refine ⟨j + 1, true, _, by omega, by go_num, rfl, fun _ => ?_, fun h => (by cases h), ?_, ?_, ?_, HF3.out, by (repeat (first | (with_reducible exact Below.refl _ _) | (with_reducible assumption) | (with_reducible refine Below.drew ?_) | (with_reducible refine Below.allocS ?_ _) | (with_reducible refine Below.setCell ?_ ?_ _) | (with_reducible refine Below.step ?_ (by assumption)) | (with_reducible refine Below.drewN' ?_ _))); (try any_goals (first | (with_reducible assumption) | (simp; done) | (simp; omega) | omega))⟩
                    · have h1 := HCN.out; have h2 := HC3.out; omega
                    · have h1 := HCN.out; have h2 := HC3.out; omega
                    · first | exact HN1.out.1.1.step (Below.drew (Below.refl _ _)) | exact HN1.out.2.1.step (Below.drew (Below.refl _ _))
                    · first | exact HN1.out.1.2.step (Below.drew (Below.refl _ _)) | exact HN1.out.2.2.step (Below.drew (Below.refl _ _))
                  case measure => simp [intOf]; omega
              rw [t3] at gb HQ
              have d2 : decide (gN K' a < 0) = false := decide_eq_false t4
              have HQJ := Lib.hid (show ¬ (gN K' a = (f : Int) ∧ (f : Int) < 0) ∧ ¬ ((f : Int) = (f : Int) ∧ gN K' a < 0) from ⟨fun h => by omega, fun h => t4 h.2⟩)
              clear t1 t3 t4 ST1 ST2
              generalize gN K' a = gva at *
              go_wp2
              go_roundw
              case rel => exact ⟨j + 1, ch, K', by omega, by go_num, rfl, HC1.out, fun h => ⟨(HC2.out h).1, fun j' hj' => (by rcases Nat.lt_succ_iff_lt_or_eq.1 hj' with h' | rfl; exact (HC2.out h).2 j' h'; rw [← (HC2.out h).1]; exact HQ.out.2 HQJ.out)⟩, HC3.out, HAH3.out.step (by (repeat (first | (with_reducible exact Below.refl _ _) | (with_reducible assumption) | (with_reducible refine Below.drew ?_) | (with_reducible refine Below.allocS ?_ _) | (with_reducible refine Below.setCell ?_ ?_ _) | (with_reducible refine Below.step ?_ (by assumption)) | (with_reducible refine Below.drewN' ?_ _))); (try any_goals (first | (with_reducible assumption) | (simp; done) | (simp; omega) | omega))), HAG3.out.step (by (repeat (first | (with_reducible exact Below.refl _ _) | (with_reducible assumption) | (with_reducible refine Below.drew ?_) | (with_reducible refine Below.allocS ?_ _) | (with_reducible refine Below.setCell ?_ ?_ _) | (with_reducible refine Below.step ?_ (by assumption)) | (with_reducible refine Below.drewN' ?_ _))); (try any_goals (first | (with_reducible assumption) | (simp; done) | (simp; omega) | omega))), HFX3.out, by (repeat (first | (with_reducible exact Below.refl _ _) | (with_reducible assumption) | (with_reducible refine Below.drew ?_) | (with_reducible refine Below.allocS ?_ _) | (with_reducible refine Below.setCell ?_ ?_ _) | (with_reducible refine Below.step ?_ (by assumption)) | (with_reducible refine Below.drewN' ?_ _))); (try any_goals (first | (with_reducible assumption) | (simp; done) | (simp; omega) | omega))⟩
              case measure => simp [intOf]; omega
            have d2 : (gN K' b2 == (f : Int)) = false := by simp [t3]
            have HQJ := Lib.hid (show ¬ (gN K' a = (f : Int) ∧ gN K' b2 < 0) ∧ ¬ (gN K' b2 = (f : Int) ∧ gN K' a < 0) from ⟨fun h => t1 h.1, fun h => t3 h.1⟩)
            clear t1 t3 ST1 ST2
            generalize gN K' a = gva at *
            generalize gN K' b2 = gvb at *
            go_wp2
            go_roundw
            case rel => exact ⟨j + 1, ch, K', by omega, by go_num, rfl, HC1.out, fun h => ⟨(HC2.out h).1, fun j' hj' => (by rcases Nat.lt_succ_iff_lt_or_eq.1 hj' with h' | rfl; exact (HC2.out h).2 j' h'; rw [← (HC2.out h).1]; exact HQ.out.2 HQJ.out)⟩, HC3.out, HAH3.out.step (by (repeat (first | (with_reducible exact Below.refl _ _) | (with_reducible assumption) | (with_reducible refine Below.drew ?_) | (with_reducible refine Below.allocS ?_ _) | (with_reducible refine Below.setCell ?_ ?_ _) | (with_reducible refine Below.step ?_ (by assumption)) | (with_reducible refine Below.drewN' ?_ _))); (try any_goals (first | (with_reducible assumption) | (simp; done) | (simp; omega) | omega))), HAG3.out.step (by (repeat (first | (with_reducible exact Below.refl _ _) | (with_reducible assumption) | (with_reducible refine Below.drew ?_) | (with_reducible refine Below.allocS ?_ _) | (with_reducible refine Below.setCell ?_ ?_ _) | (with_reducible refine Below.step ?_ (by assumption)) | (with_reducible refine Below.drewN' ?_ _))); (try any_goals (first | (with_reducible assumption) | (simp; done) | (simp; omega) | omega))), HFX3.out, by (repeat (first | (with_reducible exact Below.refl _ _) | (with_reducible assumption) | (with_reducible refine Below.drew ?_) | (with_reducible refine Below.allocS ?_ _) | (with_reducible refine Below.setCell ?_ ?_ _) | (with_reducible refine Below.step ?_ (by assumption)) | (with_reducible refine Below.drewN' ?_ _))); (try any_goals (first | (with_reducible assumption) | (simp; done) | (simp; omega) | omega))⟩
            case measure => simp [intOf]; omega
      | some x0 =>
        have hx0 := HRO.out.lt _ _ hkf
        rw [gN_some hkf] at c0
        have u6 : decide ((x0.f : Int) < 0) = false := decide_eq_false (by omega)
        obtain ⟨K1, hK1⟩ : ∃ K1, K1 = K0 := ⟨_, rfl⟩
        have HFX := Lib.hid (Fx.old HRO.out)
        have HAH1 := Lib.hid ah
        have HAG1 := Lib.hid ag
        have H1K : Hid (K1 f ≠ none ∧ (f = 0 → K1 0 = some ⟨0, 0, sl0⟩)) := Lib.hid ⟨by rw [hK1, hkf]; simp, fun e => by subst e; omega⟩
        rw [show Fx l k f K0 K0 K0 = Fx l k f K0 K1 K1 by rw [hK1], show valK K0 = valK K1 by rw [hK1]] at *
        rw [show gN K0 = gN K1 by rw [hK1]] at HAG1
        clear ah ag hK1 hkf
        go_wp2_with fail
        go_loopg [9] (k + 2) (fun gk s9 wr => ∃ (ch : Bool) (K : Nat → Option Hb), s9 = .bool ch ∧ k - cntK K k ≤ gk ∧ (ch = true → k - cntK K k + 1 ≤ gk) ∧ ArN wr w.heap.size Hs k (valK K) ∧ ArN wr w.heap.size Gs k (gN K) ∧ Fx l k f K0 K1 K ∧ (ch = false → ∀ j, j < l.length → QJ l f K j) ∧ Below w.heap.size w wr)
        case atStart => exact ⟨true, K1, rfl, by omega, fun _ => by omega, HAH1.out, HAG1.out, HFX.out, fun h => (by cases h), by (repeat (first | (with_reducible exact Below.refl _ _) | (with_reducible assumption) | (with_reducible refine Below.drew ?_) | (with_reducible refine Below.allocS ?_ _) | (with_reducible refine Below.setCell ?_ ?_ _) | (with_reducible refine Below.step ?_ (by assumption)) | (with_reducible refine Below.drewN' ?_ _))); (try any_goals (first | (with_reducible assumption) | (simp; done) | (simp; omega) | omega))⟩
        case round =>
          obtain ⟨ch, K, rfl, g1, g2, ah, ag, hfx, hqu, hbr⟩ := hrel
          have HG1 := Lib.hid g1
          have HG2 := Lib.hid g2
          have HAH2 := Lib.hid ah
          have HAG2 := Lib.hid ag
          have HFX2 := Lib.hid hfx
          have HQU := Lib.hid hqu
          have yw : Hs < wr.heap.size := ah.lt
          have yw2 : Gs < wr.heap.size := ag.lt
          clear g1 g2 ah ag hfx hqu HAH1 HAG1 HFX
          cases ch
          case false =>
            have HRN := Lib.hid (Fx.done HD.out HFX2.out HRO.out H1K.out.1 H1K.out.2 (HQU.out rfl))
            go_wp2
            go_roundw
            case rel => exact ⟨f + 1, K, by omega, by go_num, HAH2.out, HAG2.out, HRN.out, by (repeat (first | (with_reducible exact Below.refl _ _) | (with_reducible assumption) | (with_reducible refine Below.drew ?_) | (with_reducible refine Below.allocS ?_ _) | (with_reducible refine Below.setCell ?_ ?_ _) | (with_reducible refine Below.step ?_ (by assumption)) | (with_reducible refine Below.drewN' ?_ _))); (try any_goals (first | (with_reducible assumption) | (simp; done) | (simp; omega) | omega))⟩
            case measure => simp [intOf]; omega
          have HGK := Lib.hid (HG2.out rfl)
          clear HG1 HG2 HQU
          go_wp2_with fail
          go_loopw [43, 9] (fun i s9 wx => ∃ (j : Nat) (ch : Bool) (K' : Nat → Option Hb), j ≤ m ∧ i = .int .i64 j ∧ s9 = .bool ch ∧ (ch = true → cntK K k + 1 ≤ cntK K' k) ∧ (ch = false → K' = K ∧ ∀ j', j' < j → QJ l f K j') ∧ cntK K k ≤ cntK K' k ∧ ArN wx w.heap.size Hs k (valK K') ∧ ArN wx w.heap.size Gs k (gN K') ∧ Fx l k f K0 K1 K' ∧ Below w.heap.size w wx) (fun i _ _ => m - (intOf i).toNat)
          case atStart => exact ⟨0, false, K, Nat.zero_le _, rfl, rfl, fun h => (by cases h), fun _ => ⟨rfl, fun j hj => absurd hj (Nat.not_lt_zero _)⟩, Nat.le_refl _, HAH2.out, HAG2.out, HFX2.out, by (repeat (first | (with_reducible exact Below.refl _ _) | (with_reducible assumption) | (with_reducible refine Below.drew ?_) | (with_reducible refine Below.allocS ?_ _) | (with_reducible refine Below.setCell ?_ ?_ _) | (with_reducible refine Below.step ?_ (by assumption)) | (with_reducible refine Below.drewN' ?_ _))); (try any_goals (first | (with_reducible assumption) | (simp; done) | (simp; omega) | omega))⟩
          case round =>
            rename World => X
            obtain ⟨j, ch, K', hj, rfl, rfl, g1, g2, g3, ah, ag, hfx, hbx⟩ := hrel
            have HC1 := Lib.hid g1
            have HC2 := Lib.hid g2
            have HC3 := Lib.hid g3
            have HAH3 := Lib.hid ah
            have HAG3 := Lib.hid ag
            have HFX3 := Lib.hid hfx
            have yh1 : Hs < X.heap.size := ah.lt
            have yg1 : Gs < X.heap.size := ag.lt
            clear g1 g2 g3 hfx HAH2 HAG2 HFX2
            by_cases hlt : j < m
            case neg =>
              obtain rfl : j = m := by omega
              have v1 : decide ((j : Int) < (j : Int)) = false := decide_eq_false (by omega)
              clear ah ag
              go_wp2
              go_roundg (gk - 1)
              case rel =>
                have h1 := HGK.out
                have h2 := HC3.out
                have h3 := cntK_le K' k
                refine ⟨ch, K', rfl, by omega, fun hc => (by have := HC1.out hc; omega), HAH3.out, HAG3.out, HFX3.out, fun hc j' hj' => ?_, hbx⟩
                obtain ⟨e, h⟩ := HC2.out hc
                rw [e]
                exact h j' (by rw [HM.out]; exact hj')
              case measure => have := HGK.out; omega
            have v1 : decide ((j : Int) < (m : Int)) = true := decide_eq_true (by omega)
            have v3 : IntKind.i64.wrap ((j : Int) + 1) = (j : Int) + 1 := IntWalk.i64_in _ (by omega)
            have hjl : j < l.length := by rw [← HM.out]; exact hlt
            obtain ⟨e1, e2, l1, l2, l3, l4⟩ := tk_bd HD.out (k := 2 * j) (by omega)
            obtain ⟨o1, o2, o3⟩ := odd_tk l j
            have ea : (l.getD j sg0).a = (toN l (2 * j) : Int) := by rw [← e2]; unfold tkT; rw [if_pos (by omega), show 2 * j / 2 = j by omega]
            have eb : (l.getD j sg0).b = (frN l (2 * j) : Int) := by rw [← e1]; unfold tkF; rw [if_pos (by omega), show 2 * j / 2 = j by omega]
            have el : (l.getD j sg0).lo = tkV l (2 * j) := by unfold tkV; rw [if_pos (by omega), show 2 * j / 2 = j by omega]
            obtain ⟨b, off, rfl, hb0, hch⟩ := sg_cells HR.out (by omega)
            obtain ⟨q0, q1, q2, q3, q4⟩ := hch X hbx j hjl
            have yb : b < X.heap.size := cell?_lt q0
            rw [ea] at q1
            rw [eb] at q2
            rw [el] at q3
            have ST1 := Lib.hid (fun (x : Hb) (hx : K' (toN l (2 * j)) = some x) (hxf : x.f = f) (h2 : K' (frN l (2 * j)) = none) => Fx.step (x := x) HD.out (by omega) HFX3.out (k := 2 * j + 1) (by omega) (by rw [o1]; exact hx) hxf (by rw [o2]; exact h2))
            have ST2 := Lib.hid (fun (x : Hb) (hx : K' (frN l (2 * j)) = some x) (hxf : x.f = f) (h2 : K' (toN l (2 * j)) = none) => Fx.step (x := x) HD.out (by omega) HFX3.out (k := 2 * j) (by omega) hx hxf h2)
            rw [o2, o3] at ST1
            have HQ : Hid (QJ l f K' j ↔ ¬ (gN K' (toN l (2 * j)) = (f : Int) ∧ gN K' (frN l (2 * j)) < 0) ∧ ¬ (gN K' (frN l (2 * j)) = (f : Int) ∧ gN K' (toN l (2 * j)) < 0)) := Lib.hid Iff.rfl
            have ba : -100000000 ≤ valK K' (toN l (2 * j)) ∧ valK K' (toN l (2 * j)) ≤ 100000000 := by
              unfold valK
              cases hc : K' (toN l (2 * j)) with
              | none => simp
              | some h => exact (HFX3.out.inv.bd HD.out _ h hc).1
            have bb : -100000000 ≤ valK K' (frN l (2 * j)) ∧ valK K' (frN l (2 * j)) ≤ 100000000 := by
              unfold valK
              cases hc : K' (frN l (2 * j)) with
              | none => simp
              | some h => exact (HFX3.out.inv.bd HD.out _ h hc).1
            generalize toN l (2 * j) = a at *
            generalize frN l (2 * j) = b2 at *
            generalize tkV l (2 * j) = lo at *
            have ca := ah.c a l2
            have cb := ah.c b2 l1
            have ga := ag.c a l2
            have gb := ag.c b2 l1
            have fa := ah.fz a l2
            have fb := ah.fz b2 l1
            have pa := ag.fz a l2
            have pb := ag.fz b2 l1
            have v4 : IntKind.i64.wrap (valK K' a - lo) = valK K' a - lo := IntWalk.i64_in _ (by omega)
            have v5 : IntKind.i64.wrap (valK K' b2 + lo) = valK K' b2 + lo := IntWalk.i64_in _ (by omega)
            generalize (l.getD j sg0).t = s0 at *
            generalize (l.getD j sg0).hi = h0 at *
            clear hch hjl e1 e2 ea eb el o1 o2 o3 ah ag
            by_cases t1 : gN K' a = (f : Int)
            case pos =>
              by_cases t2 : gN K' b2 < 0
              case pos =>
                obtain ⟨x, hx, hxf⟩ := gN_eq.1 t1
                obtain ⟨hf3, hcn⟩ := ST1.out x hx hxf (gN_neg.1 t2)
                try rw [show x.v + -lo = x.v - lo by omega] at hf3 hcn
                have hxv : valK K' a = x.v := by unfold valK; rw [hx]
                have HN1 := Lib.hid (two_put (W := (X.alloc (.cells #[.int .i64 s0, .int .i64 a, .int .i64 b2, .int .i64 lo, .int .i64 h0] 54))) (HAH3.out.step (Below.allocS (Below.refl _ _) _)) (HAG3.out.step (Below.allocS (Below.refl _ _) _)) hne b2 ⟨x.v - lo, f, ⟨none, 0, x.s.xs ++ [2 * j + 1]⟩⟩)
                have HF3 := Lib.hid hf3
                have HCN := Lib.hid hcn
                rw [t1] at ga
                rw [gN_none (gN_neg.1 t2)] at gb
                have HNV := Lib.hid hxv
                rw [show x.v = valK K' a from hxv.symm] at HN1 HF3 HCN
                clear hf3 hcn hxv hx t1 t2 ST1 ST2 HQ HAH3 HAG3 HFX3
                have h1 : (X.alloc (.cells #[.int .i64 s0, .int .i64 a, .int .i64 b2, .int .i64 lo, .int .i64 h0] 54)).cell? ⟨X.heap.size, 1, none⟩ = some (.int .i64 a) := by simp [go_sem]
                have h2 : (X.alloc (.cells #[.int .i64 s0, .int .i64 a, .int .i64 b2, .int .i64 lo, .int .i64 h0] 54)).cell? ⟨X.heap.size, 2, none⟩ = some (.int .i64 b2) := by simp [go_sem]
                have h3 : (X.alloc (.cells #[.int .i64 s0, .int .i64 a, .int .i64 b2, .int .i64 lo, .int .i64 h0] 54)).cell? ⟨X.heap.size, 3, none⟩ = some (.int .i64 lo) := by simp [go_sem]
                have ya : X.heap.size < (X.alloc (.cells #[.int .i64 s0, .int .i64 a, .int .i64 b2, .int .i64 lo, .int .i64 h0] 54)).heap.size := by simp
                have yag : Gs < (X.alloc (.cells #[.int .i64 s0, .int .i64 a, .int .i64 b2, .int .i64 lo, .int .i64 h0] 54)).heap.size := by simp; omega
                have yah : Hs < (X.alloc (.cells #[.int .i64 s0, .int .i64 a, .int .i64 b2, .int .i64 lo, .int .i64 h0] 54)).heap.size := by simp; omega
                have ga' : (X.alloc (.cells #[.int .i64 s0, .int .i64 a, .int .i64 b2, .int .i64 lo, .int .i64 h0] 54)).cell? ⟨Gs, a, none⟩ = some (.int .i64 f) := keep_cell (Below.allocS (Below.refl _ _) _) ga
                have gb' : (X.alloc (.cells #[.int .i64 s0, .int .i64 a, .int .i64 b2, .int .i64 lo, .int .i64 h0] 54)).cell? ⟨Gs, b2, none⟩ = some (.int .i64 (-1)) := keep_cell (Below.allocS (Below.refl _ _) _) gb
                have ca' : (X.alloc (.cells #[.int .i64 s0, .int .i64 a, .int .i64 b2, .int .i64 lo, .int .i64 h0] 54)).cell? ⟨Hs, a, none⟩ = some (.int .i64 (valK K' a)) := keep_cell (Below.allocS (Below.refl _ _) _) ca
                have cb' : (X.alloc (.cells #[.int .i64 s0, .int .i64 a, .int .i64 b2, .int .i64 lo, .int .i64 h0] 54)).cell? ⟨Hs, b2, none⟩ = some (.int .i64 (valK K' b2)) := keep_cell (Below.allocS (Below.refl _ _) _) cb
                have fb' : (X.alloc (.cells #[.int .i64 s0, .int .i64 a, .int .i64 b2, .int .i64 lo, .int .i64 h0] 54)).frozen? ⟨Hs, b2, none⟩ = false := keep_frozen (Below.allocS (Below.refl _ _) _) yh1 fb
                have pb' : (X.alloc (.cells #[.int .i64 s0, .int .i64 a, .int .i64 b2, .int .i64 lo, .int .i64 h0] 54)).frozen? ⟨Gs, b2, none⟩ = false := keep_frozen (Below.allocS (Below.refl _ _) _) yg1 pb
                have hbx' : Below w.heap.size w (X.alloc (.cells #[.int .i64 s0, .int .i64 a, .int .i64 b2, .int .i64 lo, .int .i64 h0] 54)) := by (repeat (first | (with_reducible exact Below.refl _ _) | (with_reducible assumption) | (with_reducible refine Below.drew ?_) | (with_reducible refine Below.allocS ?_ _) | (with_reducible refine Below.setCell ?_ ?_ _) | (with_reducible refine Below.step ?_ (by assumption)) | (with_reducible refine Below.drewN' ?_ _))); (try any_goals (first | (with_reducible assumption) | (simp; done) | (simp; omega) | omega))
                go_wp2_with fail
                generalize (X.alloc (.cells #[.int .i64 s0, .int .i64 a, .int .i64 b2, .int .i64 lo, .int .i64 h0] 54)) = W1 at *
                go_region
                all_goals
                  go_wp2
                  go_roundw
                  case rel =>
                    refine ⟨j + 1, true, _, by omega, by go_num, rfl, fun _ => ?_, fun h => (by cases h), ?_, ?_, ?_, HF3.out, by (repeat (first | (with_reducible exact Below.refl _ _) | (with_reducible assumption) | (with_reducible refine Below.drew ?_) | (with_reducible refine Below.allocS ?_ _) | (with_reducible refine Below.setCell ?_ ?_ _) | (with_reducible refine Below.step ?_ (by assumption)) | (with_reducible refine Below.drewN' ?_ _))); (try any_goals (first | (with_reducible assumption) | (simp; done) | (simp; omega) | omega))⟩
                    · have h1 := HCN.out; have h2 := HC3.out; omega
                    · have h1 := HCN.out; have h2 := HC3.out; omega
                    · first | exact HN1.out.1.1.step (Below.drew (Below.refl _ _)) | exact HN1.out.2.1.step (Below.drew (Below.refl _ _))
                    · first | exact HN1.out.1.2.step (Below.drew (Below.refl _ _)) | exact HN1.out.2.2.step (Below.drew (Below.refl _ _))
                  case measure => simp [intOf]; omega
              have s2 := t2
              rw [t1] at ga HQ
              have d2 : decide (gN K' b2 < 0) = false := decide_eq_false t2
              have d3 : decide ((f : Int) < 0) = false := decide_eq_false (by omega)
              have HQJ := Lib.hid (show ¬ ((f : Int) = (f : Int) ∧ gN K' b2 < 0) ∧ ¬ (gN K' b2 = (f : Int) ∧ (f : Int) < 0) from ⟨fun h => t2 h.2, fun h => by omega⟩)
              clear s2 t1 t2 ST1 ST2
              generalize gN K' b2 = gvb at *
              by_cases t3 : gvb = (f : Int)
              case pos =>
                subst t3
                go_wp2
                go_roundw
                case rel => exact ⟨j + 1, ch, K', by omega, by go_num, rfl, HC1.out, fun h => ⟨(HC2.out h).1, fun j' hj' => (by rcases Nat.lt_succ_iff_lt_or_eq.1 hj' with h' | rfl; exact (HC2.out h).2 j' h'; rw [← (HC2.out h).1]; exact HQ.out.2 HQJ.out)⟩, HC3.out, HAH3.out.step (by (repeat (first | (with_reducible exact Below.refl _ _) | (with_reducible assumption) | (with_reducible refine Below.drew ?_) | (with_reducible refine Below.allocS ?_ _) | (with_reducible refine Below.setCell ?_ ?_ _) | (with_reducible refine Below.step ?_ (by assumption)) | (with_reducible refine Below.drewN' ?_ _))); (try any_goals (first | (with_reducible assumption) | (simp; done) | (simp; omega) | omega))), HAG3.out.step (by (repeat (first | (with_reducible exact Below.refl _ _) | (with_reducible assumption) | (with_reducible refine Below.drew ?_) | (with_reducible refine Below.allocS ?_ _) | (with_reducible refine Below.setCell ?_ ?_ _) | (with_reducible refine Below.step ?_ (by assumption)) | (with_reducible refine Below.drewN' ?_ _))); (try any_goals (first | (with_reducible assumption) | (simp; done) | (simp; omega) | omega))), HFX3.out, by (repeat (first | (with_reducible exact Below.refl _ _) | (with_reducible assumption) | (with_reducible refine Below.drew ?_) | (with_reducible refine Below.allocS ?_ _) | (with_reducible refine Below.setCell ?_ ?_ _) | (with_reducible refine Below.step ?_ (by assumption)) | (with_reducible refine Below.drewN' ?_ _))); (try any_goals (first | (with_reducible assumption) | (simp; done) | (simp; omega) | omega))⟩
                case measure => simp [intOf]; omega
              have d4 : (gvb == (f : Int)) = false := by simp [t3]
              clear t3
              go_wp2
              go_roundw
              case rel => exact ⟨j + 1, ch, K', by omega, by go_num, rfl, HC1.out, fun h => ⟨(HC2.out h).1, fun j' hj' => (by rcases Nat.lt_succ_iff_lt_or_eq.1 hj' with h' | rfl; exact (HC2.out h).2 j' h'; rw [← (HC2.out h).1]; exact HQ.out.2 HQJ.out)⟩, HC3.out, HAH3.out.step (by (repeat (first | (with_reducible exact Below.refl _ _) | (with_reducible assumption) | (with_reducible refine Below.drew ?_) | (with_reducible refine Below.allocS ?_ _) | (with_reducible refine Below.setCell ?_ ?_ _) | (with_reducible refine Below.step ?_ (by assumption)) | (with_reducible refine Below.drewN' ?_ _))); (try any_goals (first | (with_reducible assumption) | (simp; done) | (simp; omega) | omega))), HAG3.out.step (by (repeat (first | (with_reducible exact Below.refl _ _) | (with_reducible assumption) | (with_reducible refine Below.drew ?_) | (with_reducible refine Below.allocS ?_ _) | (with_reducible refine Below.setCell ?_ ?_ _) | (with_reducible refine Below.step ?_ (by assumption)) | (with_reducible refine Below.drewN' ?_ _))); (try any_goals (first | (with_reducible assumption) | (simp; done) | (simp; omega) | omega))), HFX3.out, by (repeat (first | (with_reducible exact Below.refl _ _) | (with_reducible assumption) | (with_reducible refine Below.drew ?_) | (with_reducible refine Below.allocS ?_ _) | (with_reducible refine Below.setCell ?_ ?_ _) | (with_reducible refine Below.step ?_ (by assumption)) | (with_reducible refine Below.drewN' ?_ _))); (try any_goals (first | (with_reducible assumption) | (simp; done) | (simp; omega) | omega))⟩
              case measure => simp [intOf]; omega
            have d1 : (gN K' a == (f : Int)) = false := by simp [t1]
            by_cases t3 : gN K' b2 = (f : Int)
            case pos =>
              by_cases t4 : gN K' a < 0
              case pos =>
                obtain ⟨x, hx, hxf⟩ := gN_eq.1 t3
                obtain ⟨hf3, hcn⟩ := ST2.out x hx hxf (gN_neg.1 t4)
                try rw [show x.v + -lo = x.v - lo by omega] at hf3 hcn
                have hxv : valK K' b2 = x.v := by unfold valK; rw [hx]
                have HN1 := Lib.hid (two_put (W := (X.alloc (.cells #[.int .i64 s0, .int .i64 a, .int .i64 b2, .int .i64 lo, .int .i64 h0] 54))) (HAH3.out.step (Below.allocS (Below.refl _ _) _)) (HAG3.out.step (Below.allocS (Below.refl _ _) _)) hne a ⟨x.v + lo, f, ⟨none, 0, x.s.xs ++ [2 * j]⟩⟩)
                have HF3 := Lib.hid hf3
                have HCN := Lib.hid hcn
                rw [t3] at gb
                rw [gN_none (gN_neg.1 t4)] at ga
                have HNV := Lib.hid hxv
                rw [show x.v = valK K' b2 from hxv.symm] at HN1 HF3 HCN
                clear hf3 hcn hxv hx t1 d1 t3 t4 ST1 ST2 HQ HAH3 HAG3 HFX3
                have h1 : (X.alloc (.cells #[.int .i64 s0, .int .i64 a, .int .i64 b2, .int .i64 lo, .int .i64 h0] 54)).cell? ⟨X.heap.size, 1, none⟩ = some (.int .i64 a) := by simp [go_sem]
                have h2 : (X.alloc (.cells #[.int .i64 s0, .int .i64 a, .int .i64 b2, .int .i64 lo, .int .i64 h0] 54)).cell? ⟨X.heap.size, 2, none⟩ = some (.int .i64 b2) := by simp [go_sem]
                have h3 : (X.alloc (.cells #[.int .i64 s0, .int .i64 a, .int .i64 b2, .int .i64 lo, .int .i64 h0] 54)).cell? ⟨X.heap.size, 3, none⟩ = some (.int .i64 lo) := by simp [go_sem]
                have ya : X.heap.size < (X.alloc (.cells #[.int .i64 s0, .int .i64 a, .int .i64 b2, .int .i64 lo, .int .i64 h0] 54)).heap.size := by simp
                have yag : Gs < (X.alloc (.cells #[.int .i64 s0, .int .i64 a, .int .i64 b2, .int .i64 lo, .int .i64 h0] 54)).heap.size := by simp; omega
                have yah : Hs < (X.alloc (.cells #[.int .i64 s0, .int .i64 a, .int .i64 b2, .int .i64 lo, .int .i64 h0] 54)).heap.size := by simp; omega
                have ga' : (X.alloc (.cells #[.int .i64 s0, .int .i64 a, .int .i64 b2, .int .i64 lo, .int .i64 h0] 54)).cell? ⟨Gs, a, none⟩ = some (.int .i64 (-1)) := keep_cell (Below.allocS (Below.refl _ _) _) ga
                have gb' : (X.alloc (.cells #[.int .i64 s0, .int .i64 a, .int .i64 b2, .int .i64 lo, .int .i64 h0] 54)).cell? ⟨Gs, b2, none⟩ = some (.int .i64 f) := keep_cell (Below.allocS (Below.refl _ _) _) gb
                have ca' : (X.alloc (.cells #[.int .i64 s0, .int .i64 a, .int .i64 b2, .int .i64 lo, .int .i64 h0] 54)).cell? ⟨Hs, a, none⟩ = some (.int .i64 (valK K' a)) := keep_cell (Below.allocS (Below.refl _ _) _) ca
                have cb' : (X.alloc (.cells #[.int .i64 s0, .int .i64 a, .int .i64 b2, .int .i64 lo, .int .i64 h0] 54)).cell? ⟨Hs, b2, none⟩ = some (.int .i64 (valK K' b2)) := keep_cell (Below.allocS (Below.refl _ _) _) cb
                have fb' : (X.alloc (.cells #[.int .i64 s0, .int .i64 a, .int .i64 b2, .int .i64 lo, .int .i64 h0] 54)).frozen? ⟨Hs, a, none⟩ = false := keep_frozen (Below.allocS (Below.refl _ _) _) yh1 fa
                have pb' : (X.alloc (.cells #[.int .i64 s0, .int .i64 a, .int .i64 b2, .int .i64 lo, .int .i64 h0] 54)).frozen? ⟨Gs, a, none⟩ = false := keep_frozen (Below.allocS (Below.refl _ _) _) yg1 pa
                have hbx' : Below w.heap.size w (X.alloc (.cells #[.int .i64 s0, .int .i64 a, .int .i64 b2, .int .i64 lo, .int .i64 h0] 54)) := by (repeat (first | (with_reducible exact Below.refl _ _) | (with_reducible assumption) | (with_reducible refine Below.drew ?_) | (with_reducible refine Below.allocS ?_ _) | (with_reducible refine Below.setCell ?_ ?_ _) | (with_reducible refine Below.step ?_ (by assumption)) | (with_reducible refine Below.drewN' ?_ _))); (try any_goals (first | (with_reducible assumption) | (simp; done) | (simp; omega) | omega))
                go_wp2_with fail
                generalize (X.alloc (.cells #[.int .i64 s0, .int .i64 a, .int .i64 b2, .int .i64 lo, .int .i64 h0] 54)) = W1 at *
                go_region
                all_goals
                  go_wp2
                  go_roundw
                  case rel =>
                    refine ⟨j + 1, true, _, by omega, by go_num, rfl, fun _ => ?_, fun h => (by cases h), ?_, ?_, ?_, HF3.out, by (repeat (first | (with_reducible exact Below.refl _ _) | (with_reducible assumption) | (with_reducible refine Below.drew ?_) | (with_reducible refine Below.allocS ?_ _) | (with_reducible refine Below.setCell ?_ ?_ _) | (with_reducible refine Below.step ?_ (by assumption)) | (with_reducible refine Below.drewN' ?_ _))); (try any_goals (first | (with_reducible assumption) | (simp; done) | (simp; omega) | omega))⟩
                    · have h1 := HCN.out; have h2 := HC3.out; omega
                    · have h1 := HCN.out; have h2 := HC3.out; omega
                    · first | exact HN1.out.1.1.step (Below.drew (Below.refl _ _)) | exact HN1.out.2.1.step (Below.drew (Below.refl _ _))
                    · first | exact HN1.out.1.2.step (Below.drew (Below.refl _ _)) | exact HN1.out.2.2.step (Below.drew (Below.refl _ _))
                  case measure => simp [intOf]; omega
              rw [t3] at gb HQ
              have d2 : decide (gN K' a < 0) = false := decide_eq_false t4
              have HQJ := Lib.hid (show ¬ (gN K' a = (f : Int) ∧ (f : Int) < 0) ∧ ¬ ((f : Int) = (f : Int) ∧ gN K' a < 0) from ⟨fun h => by omega, fun h => t4 h.2⟩)
              clear t1 t3 t4 ST1 ST2
              generalize gN K' a = gva at *
              go_wp2
              go_roundw
              case rel => exact ⟨j + 1, ch, K', by omega, by go_num, rfl, HC1.out, fun h => ⟨(HC2.out h).1, fun j' hj' => (by rcases Nat.lt_succ_iff_lt_or_eq.1 hj' with h' | rfl; exact (HC2.out h).2 j' h'; rw [← (HC2.out h).1]; exact HQ.out.2 HQJ.out)⟩, HC3.out, HAH3.out.step (by (repeat (first | (with_reducible exact Below.refl _ _) | (with_reducible assumption) | (with_reducible refine Below.drew ?_) | (with_reducible refine Below.allocS ?_ _) | (with_reducible refine Below.setCell ?_ ?_ _) | (with_reducible refine Below.step ?_ (by assumption)) | (with_reducible refine Below.drewN' ?_ _))); (try any_goals (first | (with_reducible assumption) | (simp; done) | (simp; omega) | omega))), HAG3.out.step (by (repeat (first | (with_reducible exact Below.refl _ _) | (with_reducible assumption) | (with_reducible refine Below.drew ?_) | (with_reducible refine Below.allocS ?_ _) | (with_reducible refine Below.setCell ?_ ?_ _) | (with_reducible refine Below.step ?_ (by assumption)) | (with_reducible refine Below.drewN' ?_ _))); (try any_goals (first | (with_reducible assumption) | (simp; done) | (simp; omega) | omega))), HFX3.out, by (repeat (first | (with_reducible exact Below.refl _ _) | (with_reducible assumption) | (with_reducible refine Below.drew ?_) | (with_reducible refine Below.allocS ?_ _) | (with_reducible refine Below.setCell ?_ ?_ _) | (with_reducible refine Below.step ?_ (by assumption)) | (with_reducible refine Below.drewN' ?_ _))); (try any_goals (first | (with_reducible assumption) | (simp; done) | (simp; omega) | omega))⟩
              case measure => simp [intOf]; omega
            have d2 : (gN K' b2 == (f : Int)) = false := by simp [t3]
            have HQJ := Lib.hid (show ¬ (gN K' a = (f : Int) ∧ gN K' b2 < 0) ∧ ¬ (gN K' b2 = (f : Int) ∧ gN K' a < 0) from ⟨fun h => t1 h.1, fun h => t3 h.1⟩)
            clear t1 t3 ST1 ST2
            generalize gN K' a = gva at *
            generalize gN K' b2 = gvb at *
            go_wp2
            go_roundw
            case rel => exact ⟨j + 1, ch, K', by omega, by go_num, rfl, HC1.out, fun h => ⟨(HC2.out h).1, fun j' hj' => (by rcases Nat.lt_succ_iff_lt_or_eq.1 hj' with h' | rfl; exact (HC2.out h).2 j' h'; rw [← (HC2.out h).1]; exact HQ.out.2 HQJ.out)⟩, HC3.out, HAH3.out.step (by (repeat (first | (with_reducible exact Below.refl _ _) | (with_reducible assumption) | (with_reducible refine Below.drew ?_) | (with_reducible refine Below.allocS ?_ _) | (with_reducible refine Below.setCell ?_ ?_ _) | (with_reducible refine Below.step ?_ (by assumption)) | (with_reducible refine Below.drewN' ?_ _))); (try any_goals (first | (with_reducible assumption) | (simp; done) | (simp; omega) | omega))), HAG3.out.step (by (repeat (first | (with_reducible exact Below.refl _ _) | (with_reducible assumption) | (with_reducible refine Below.drew ?_) | (with_reducible refine Below.allocS ?_ _) | (with_reducible refine Below.setCell ?_ ?_ _) | (with_reducible refine Below.step ?_ (by assumption)) | (with_reducible refine Below.drewN' ?_ _))); (try any_goals (first | (with_reducible assumption) | (simp; done) | (simp; omega) | omega))), HFX3.out, by (repeat (first | (with_reducible exact Below.refl _ _) | (with_reducible assumption) | (with_reducible refine Below.drew ?_) | (with_reducible refine Below.allocS ?_ _) | (with_reducible refine Below.setCell ?_ ?_ _) | (with_reducible refine Below.step ?_ (by assumption)) | (with_reducible refine Below.drewN' ?_ _))); (try any_goals (first | (with_reducible assumption) | (simp; done) | (simp; omega) | omega))⟩
            case measure => simp [intOf]; omega
end Go.Proofs.Ytomgaiokmdcjmaa
