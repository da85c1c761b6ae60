/-
  Format of the reference.
-/
import Derived.Test.YtimbdnngeoccdaaGreatDoorTb4
namespace Go.Proofs.YtimbdnngeoccdaaGreatDoor
open Go.RowKit Go.Deep
set_option linter.unusedVariables false
set_option linter.unusedSimpArgs false
theorem space_str : (⟨#[32]⟩ : ByteArray) = str [32] := rfl
theorem newline_str : (⟨#[10]⟩ : ByteArray) = str [10] := rfl
theorem line_str (x : Ev) : str (Lib.itoa x.at') ++ str [32] ++ str (Lib.itoa x.kind) ++ str [32] ++ str (Lib.itoa x.n) ++ str [10] = str (lineE x) := by
  simp only [str_append]
  unfold lineE bodyE
  simp
set_option maxHeartbeats 1000000 in
theorem rFormat_c (l : List Ev) (n : Nat) (hn : l.length = n) (A : Option Addr) (cap : Nat) (hl : n ≤ 9223372036854775807) (w : World) (hr : RdL w w.heap.size evE 3 A l) (hE : Env w) :
    Calls Tryz.prog 10 #[.slice A n cap] w fun e w' => e = .returned (.string (str (fmtE l))) ∧ Below w.heap.size w w' := by
  subst hn
  have HR := Lib.hid hr
  have HE := Lib.hid (fun W (hb : Below w.heap.size w W) => hE.step hb)
  have HO := Lib.hid (ordered_c l _ rfl A cap hl w hr)
  clear hr hE
  cases ho : ordB l
  · have hf : fmtE l = [] := by unfold fmtE; rw [ho]; rfl
    rw [hf]
    rw [ho] at HO
    clear hf ho HR
    go_enter Tryz.func10, Tryz.ntmps10
    go_wp2_with fail
    refine (HO.out).mono ?_
    rintro e w1 ⟨rfl, hb1⟩
    have g1 : Below w.heap.size w w1 := by (repeat (first | exact Below.refl _ _ | refine Below.drew ?_ | refine Below.allocS ?_ _ | refine Below.step ?_ (by assumption) | refine Below.setCell ?_ (by simp <;> omega) _ | refine Below.drewN' ?_ _))
    clear hb1
    go_wp2
    go_ret
    exact ⟨rfl, by (repeat (first | (with_reducible exact Below.refl _ _) | (with_reducible assumption) | (with_reducible refine Below.drew ?_) | (with_reducible refine Below.allocS ?_ _) | (with_reducible refine Below.setCell ?_ ?_ _) | (with_reducible refine Below.step ?_ (by assumption)) | (with_reducible refine Below.drewN' ?_ _))); (try any_goals (first | (with_reducible assumption) | (simp; done) | (simp; omega) | omega))⟩
  · have hf : fmtE l = textE l := by unfold fmtE; rw [ho]; rfl
    rw [hf]
    rw [ho] at HO
    have HF := Lib.hid (fun x hx => ordB_fine ho (x := x) hx)
    have HZ := Lib.hid (fun k => show (str (textE (l.take k))).size ≤ 6100 by
      have h1 := (textE_len (l.take k) (fun x hx => HF.out x (List.mem_of_mem_take hx))).1
      have h2 : (l.take k).length ≤ l.length := by rw [List.length_take]; omega
      have h3 := (ordB_iff.1 ho).1
      rw [size_str]; omega)
    clear hf ho
    go_enter Tryz.func10, Tryz.ntmps10
    go_wp2_with fail
    refine (HO.out).mono ?_
    rintro e w1 ⟨rfl, hb1⟩
    have g1 : Below w.heap.size w w1 := by (repeat (first | exact Below.refl _ _ | refine Below.drew ?_ | refine Below.allocS ?_ _ | refine Below.step ?_ (by assumption) | refine Below.setCell ?_ (by simp <;> omega) _ | refine Below.drewN' ?_ _))
    clear hb1
    go_wp2
    go_loopw [3, 11] (fun o i wr => ∃ k : Nat, k ≤ l.length ∧ i = .int .i64 k ∧ o = .string (str (textE (l.take k))) ∧ Below w.heap.size w wr) (fun _ i _ => l.length - (intOf i).toNat)
    case atStart => exact ⟨0, Nat.zero_le _, rfl, by simp [textE, str], by (repeat (first | (with_reducible exact Below.refl _ _) | (with_reducible assumption) | (with_reducible refine Below.drew ?_) | (with_reducible refine Below.allocS ?_ _) | (with_reducible refine Below.setCell ?_ ?_ _) | (with_reducible refine Below.step ?_ (by assumption)) | (with_reducible refine Below.drewN' ?_ _))); (try any_goals (first | (with_reducible assumption) | (simp; done) | (simp; omega) | omega))⟩
    case round =>
      obtain ⟨k, hk, rfl, rfl, hbw⟩ := hrel
      by_cases hlt : k < l.length
      · obtain ⟨b, off, rfl, hb0, hc⟩ := HR.out (by omega)
        have c0 := (hbw.cell (p := ⟨b, _, none⟩) hb0).trans (hc k hlt 0 _ rfl)
        have c1 := (hbw.cell (p := ⟨b, _, none⟩) hb0).trans (hc k hlt 1 _ rfl)
        have c2 := (hbw.cell (p := ⟨b, _, none⟩) hb0).trans (hc k hlt 2 _ rfl)
        simp at c0
        have u1 : (0 : Int) ≤ (k : Int) := by omega
        have u2 : (k : Int) < (l.length : Int) := by omega
        have hx := fineB_true (HF.out l[k] (List.getElem_mem hlt))
        have HT := Lib.hid (show str (textE (l.take k)) ++ str (lineE l[k]) = str (textE (l.take (k + 1))) by rw [str_append, ← textE_snoc, take_snoc l k hlt])
        have HI := Lib.hid (fun n (h0 : -9223372036854775808 ≤ n) (h1 : n ≤ 9223372036854775807) W (hb : Below w.heap.size w W) => itoa_c n h0 h1 W (HE.out W hb))
        clear hc
        have so : (str (textE (l.take k))).size ≤ 6100 := HZ.out k
        generalize str (textE (l.take k)) = o at *
        generalize l[k] = x at *
        have s1 : (str (Lib.itoa x.at')).size ≤ 22 := by rw [size_str]; have := itoa_len 18 x.at' (by omega); omega
        have s2 : (str (Lib.itoa x.kind)).size ≤ 22 := by rw [size_str]; have := itoa_len 18 x.kind (by omega); omega
        have s3 : (str (Lib.itoa x.n)).size ≤ 22 := by rw [size_str]; have := itoa_len 18 x.n (by omega); omega
        have I1 := Lib.hid (fun W hb => HI.out x.at' (by omega) (by omega) W hb)
        have I2 := Lib.hid (fun W hb => HI.out x.kind (by omega) (by omega) W hb)
        have I3 := Lib.hid (fun W hb => HI.out x.n (by omega) (by omega) W hb)
        rw [← line_str x] at HT
        clear HI hx
        generalize str (Lib.itoa x.at') = p1 at *
        generalize str (Lib.itoa x.kind) = p2 at *
        generalize str (Lib.itoa x.n) = p3 at *
        have n1 : ¬ 9223372036854775807 < p1.size + 1 := by omega
        have n2 : ¬ 9223372036854775807 < p1.size + 1 + p2.size := by omega
        have n3 : ¬ 9223372036854775807 < p1.size + 1 + p2.size + 1 := by omega
        have n4 : ¬ 9223372036854775807 < p1.size + 1 + p2.size + 1 + p3.size := by omega
        have n5 : ¬ 9223372036854775807 < p1.size + 1 + p2.size + 1 + p3.size + 1 := by omega
        have n6 : ¬ 9223372036854775807 < o.size + (p1.size + 1 + p2.size + 1 + p3.size + 1) := by omega
        go_wp2_with fail
        refine region_below (by kernel_rfl) (by kernel_rfl) ?_
        (first | go_big_quiet_skip | (go_big_quiet_want; refine quiet_val (v := ?_) ?_ ?_; rotate_left 1; (· (intro Wq hWq; obtain ⟨hWc, hWf⟩ := bcell hWq; go_simp; (try with_reducible rfl))); go_big_quiet_on; (try simp only [Act.put, List.setIfInBounds_toArray, List.set_cons_zero, List.set_cons_succ])))
        (first | go_big_quiet_skip | (go_big_quiet_want; refine quiet_val (v := ?_) ?_ ?_; rotate_left 1; (· (intro Wq hWq; obtain ⟨hWc, hWf⟩ := bcell hWq; go_simp; (try with_reducible rfl))); go_big_quiet_on; (try simp only [Act.put, List.setIfInBounds_toArray, List.set_cons_zero, List.set_cons_succ])))
        (first | go_big_quiet_skip | (go_big_quiet_want; refine quiet_val (v := ?_) ?_ ?_; rotate_left 1; (· (intro Wq hWq; obtain ⟨hWc, hWf⟩ := bcell hWq; go_simp; (try with_reducible rfl))); go_big_quiet_on; (try simp only [Act.put, List.setIfInBounds_toArray, List.set_cons_zero, List.set_cons_succ])))
        go_big_quiet_want; refine quiet_callB (f := 32) (args := ?_) (v := ?_) ?_ ?_ ?_; rotate_left 2
        · (intro Wq hWq; obtain ⟨hWc, hWf⟩ := bcell hWq; go_simp; (first | with_reducible rfl | exact ⟨rfl, rfl⟩))
        · (intro Wq hWq; exact I1.out Wq (by (repeat (first | (with_reducible exact Below.refl _ _) | (with_reducible assumption) | (with_reducible refine Below.drew ?_) | (with_reducible refine Below.allocS ?_ _) | (with_reducible refine Below.setCell ?_ ?_ _) | (with_reducible refine Below.step ?_ (by assumption)) | (with_reducible refine Below.drewN' ?_ _))); (try any_goals (first | (with_reducible assumption) | (simp; done) | (simp; omega) | omega))))
        go_big_quiet_on; (try simp only [Act.put, List.setIfInBounds_toArray, List.set_cons_zero, List.set_cons_succ])
        (first | go_big_quiet_skip | (go_big_quiet_want; refine quiet_val (v := ?_) ?_ ?_; rotate_left 1; (· (intro Wq hWq; obtain ⟨hWc, hWf⟩ := bcell hWq; go_simp; (try with_reducible rfl))); go_big_quiet_on; (try simp only [Act.put, List.setIfInBounds_toArray, List.set_cons_zero, List.set_cons_succ])))
        (first | go_big_quiet_skip | (go_big_quiet_want; refine quiet_val (v := ?_) ?_ ?_; rotate_left 1; (· (intro Wq hWq; obtain ⟨hWc, hWf⟩ := bcell hWq; go_simp; (try with_reducible rfl))); go_big_quiet_on; (try simp only [Act.put, List.setIfInBounds_toArray, List.set_cons_zero, List.set_cons_succ])))
        (first | go_big_quiet_skip | (go_big_quiet_want; refine quiet_val (v := ?_) ?_ ?_; rotate_left 1; (· (intro Wq hWq; obtain ⟨hWc, hWf⟩ := bcell hWq; go_simp; (try with_reducible rfl))); go_big_quiet_on; (try simp only [Act.put, List.setIfInBounds_toArray, List.set_cons_zero, List.set_cons_succ])))
        go_big_quiet_want; refine quiet_callB (f := 32) (args := ?_) (v := ?_) ?_ ?_ ?_; rotate_left 2
        · (intro Wq hWq; obtain ⟨hWc, hWf⟩ := bcell hWq; go_simp; (first | with_reducible rfl | exact ⟨rfl, rfl⟩))
        · (intro Wq hWq; exact I2.out Wq (by (repeat (first | (with_reducible exact Below.refl _ _) | (with_reducible assumption) | (with_reducible refine Below.drew ?_) | (with_reducible refine Below.allocS ?_ _) | (with_reducible refine Below.setCell ?_ ?_ _) | (with_reducible refine Below.step ?_ (by assumption)) | (with_reducible refine Below.drewN' ?_ _))); (try any_goals (first | (with_reducible assumption) | (simp; done) | (simp; omega) | omega))))
        go_big_quiet_on; (try simp only [Act.put, List.setIfInBounds_toArray, List.set_cons_zero, List.set_cons_succ])
        (first | go_big_quiet_skip | (go_big_quiet_want; refine quiet_val (v := ?_) ?_ ?_; rotate_left 1; (· (intro Wq hWq; obtain ⟨hWc, hWf⟩ := bcell hWq; go_simp; (try with_reducible rfl))); go_big_quiet_on; (try simp only [Act.put, List.setIfInBounds_toArray, List.set_cons_zero, List.set_cons_succ])))
        (first | go_big_quiet_skip | (go_big_quiet_want; refine quiet_val (v := ?_) ?_ ?_; rotate_left 1; (· (intro Wq hWq; obtain ⟨hWc, hWf⟩ := bcell hWq; go_simp; (try with_reducible rfl))); go_big_quiet_on; (try simp only [Act.put, List.setIfInBounds_toArray, List.set_cons_zero, List.set_cons_succ])))
        (first | go_big_quiet_skip | (go_big_quiet_want; refine quiet_val (v := ?_) ?_ ?_; rotate_left 1; (· (intro Wq hWq; obtain ⟨hWc, hWf⟩ := bcell hWq; go_simp; (try with_reducible rfl))); go_big_quiet_on; (try simp only [Act.put, List.setIfInBounds_toArray, List.set_cons_zero, List.set_cons_succ])))
        (first | go_big_quiet_skip | (go_big_quiet_want; refine quiet_val (v := ?_) ?_ ?_; rotate_left 1; (· (intro Wq hWq; obtain ⟨hWc, hWf⟩ := bcell hWq; go_simp; (try with_reducible rfl))); go_big_quiet_on; (try simp only [Act.put, List.setIfInBounds_toArray, List.set_cons_zero, List.set_cons_succ])))
        go_big_quiet_want; refine quiet_callB (f := 32) (args := ?_) (v := ?_) ?_ ?_ ?_; rotate_left 2
        · (intro Wq hWq; obtain ⟨hWc, hWf⟩ := bcell hWq; go_simp; (first | with_reducible rfl | exact ⟨rfl, rfl⟩))
        · (intro Wq hWq; exact I3.out Wq (by (repeat (first | (with_reducible exact Below.refl _ _) | (with_reducible assumption) | (with_reducible refine Below.drew ?_) | (with_reducible refine Below.allocS ?_ _) | (with_reducible refine Below.setCell ?_ ?_ _) | (with_reducible refine Below.step ?_ (by assumption)) | (with_reducible refine Below.drewN' ?_ _))); (try any_goals (first | (with_reducible assumption) | (simp; done) | (simp; omega) | omega))))
        go_big_quiet_on; (try simp only [Act.put, List.setIfInBounds_toArray, List.set_cons_zero, List.set_cons_succ])
        (first | go_big_quiet_skip | (go_big_quiet_want; refine quiet_val (v := ?_) ?_ ?_; rotate_left 1; (· (intro Wq hWq; obtain ⟨hWc, hWf⟩ := bcell hWq; go_simp; (try with_reducible rfl))); go_big_quiet_on; (try simp only [Act.put, List.setIfInBounds_toArray, List.set_cons_zero, List.set_cons_succ])))
        (first | go_big_quiet_skip | (go_big_quiet_want; refine quiet_val (v := ?_) ?_ ?_; rotate_left 1; (· (intro Wq hWq; obtain ⟨hWc, hWf⟩ := bcell hWq; go_simp; (try with_reducible rfl))); go_big_quiet_on; (try simp only [Act.put, List.setIfInBounds_toArray, List.set_cons_zero, List.set_cons_succ])))
        (first | go_big_quiet_skip | (go_big_quiet_want; refine quiet_val (v := ?_) ?_ ?_; rotate_left 1; (· (intro Wq hWq; obtain ⟨hWc, hWf⟩ := bcell hWq; go_simp; (try with_reducible rfl))); go_big_quiet_on; (try simp only [Act.put, List.setIfInBounds_toArray, List.set_cons_zero, List.set_cons_succ])))
        (first | go_big_quiet_skip | (go_big_quiet_want; refine quiet_val (v := ?_) ?_ ?_; rotate_left 1; (· (intro Wq hWq; obtain ⟨hWc, hWf⟩ := bcell hWq; go_simp; (try with_reducible rfl))); go_big_quiet_on; (try simp only [Act.put, List.setIfInBounds_toArray, List.set_cons_zero, List.set_cons_succ])))
        refine wpQuiet_nil ?_; intro V hbV
        go_wp2
        go_roundw
        case rel => exact ⟨k + 1, by omega, by go_num, by rw [← HT.out]; rfl, by (repeat (first | (with_reducible exact Below.refl _ _) | (with_reducible assumption) | (with_reducible refine Below.drew ?_) | (with_reducible refine Below.allocS ?_ _) | (with_reducible refine Below.setCell ?_ ?_ _) | (with_reducible refine Below.step ?_ (by assumption)) | (with_reducible refine Below.drewN' ?_ _))); (try any_goals (first | (with_reducible assumption) | (simp; done) | (simp; omega) | omega))⟩
        case measure => simp [intOf]; omega
      · obtain rfl : k = l.length := by omega
        have ht : l.take l.length = l := List.take_length
        go_wp2
        go_ret
        exact ⟨by rw [ht]; rfl, by (repeat (first | (with_reducible exact Below.refl _ _) | (with_reducible assumption) | (with_reducible refine Below.drew ?_) | (with_reducible refine Below.allocS ?_ _) | (with_reducible refine Below.setCell ?_ ?_ _) | (with_reducible refine Below.step ?_ (by assumption)) | (with_reducible refine Below.drewN' ?_ _))); (try any_goals (first | (with_reducible assumption) | (simp; done) | (simp; omega) | omega))⟩
end Go.Proofs.YtimbdnngeoccdaaGreatDoor
