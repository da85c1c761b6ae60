/-
  Parse of the reference.
-/
import Derived.Test.YtimbdnngeoccdaaGreatDoorTb6
import Derived.Test.YtimbdnngeoccdaaGreatDoorNt0
import Derived.Laws.OwnMore
import Derived.Deep.RegionHeld3
namespace Go.Proofs.YtimbdnngeoccdaaGreatDoor
open Go.RowKit Go.Deep
set_option linter.unusedVariables false
set_option linter.unusedSimpArgs false
theorem appEv : AppE 22 44 evE 3 where
  ht := Tryz.underlying22
  info := app_info (z := .agg #[.int .i64 0, .int .i64 0, .int .i64 0]) (bytes := 24) (by kernel_rfl) rfl (by decide)
  pos := by decide
  len := fun x => rfl
  one := fun x u hu => by
    simp [evE] at hu
    rcases hu with rfl | rfl | rfl <;> rfl
/-- An append that keeps all blocks but its own. -/
theorem app_keep {α : Type} {t e : TypeId} {enc : α → List Value} {sz : Nat} (H : AppE t e enc sz) (l : List α) (x : α) (n : Nat) (hn : l.length = n) (hl : n ≤ 100000) (W : World) (base g : Nat) (v : Value)
    (hrow : W.ownsRow base e sz v n (l.flatMap enc)) (hb : base ≤ W.heap.size) (hc : ∀ j u, (enc x)[j]? = some u → W.cell? ⟨g, j, none⟩ = some u) :
    ∃ v' w', (Builtin.append_ #[t, t] t #[v, .slice (some ⟨g, 0, none⟩) 1 1]).run Tryz.prog W = .ok v' w' ∧ (w'.ownsRow base e sz v' (n + 1) ((l ++ [x]).flatMap enc) ∧ Below base W w' ∧ W.grownBy w' v.ownBlock) := by
  obtain ⟨i, z, bytes, h1, h2, h3, h4, h5, h6⟩ := H.info
  obtain ⟨v', w', hrun, r1, r2, -⟩ := run_append_own (P := Tryz.prog) W base t t e i z sz bytes H.ht h1 h2 h3 h4 h5 H.pos v n (l.flatMap enc) hrow ⟨g, 0, none⟩ 1 1 (enc x) (by rw [H.len]; omega) (fun j u hu => by rw [add_none]; exact hc j u hu) (H.one x) (by unfold maxLen; omega)
    (by have := Nat.mul_le_mul (show n + 1 ≤ 100001 by omega) h6; omega) hb
  refine ⟨v', w', hrun, row_snoc (enc := enc) (y := x) r1 rfl, ?_, r2⟩
  exact Below.grow (Below.refl base W) hrow r2 rfl hb
theorem grown_cell {W w' : World} {r : Option Nat} {b o : Nat} {u : Value} (h : W.grownBy w' r) (hne : r ≠ some b) (hc : W.cell? ⟨b, o, none⟩ = some u) : w'.cell? ⟨b, o, none⟩ = some u :=
  (World.cell?_of_block (a := ⟨b, o, none⟩) (h.block b (cell?_lt hc) (Ne.symm hne))).trans hc
theorem row_ne {W : World} {base sz n b : Nat} {e : TypeId} {v : Value} {xs : List Value} (h : W.ownsRow base e sz v n xs) (hb : W.heap.size ≤ b) : v.ownBlock ≠ some b := fun e => by
  have := (h.lt b e).2; omega
theorem extract_app {t h r : List UInt8} {c : UInt8} (e : t = h ++ c :: r) : (str t).extract 0 h.length = str h := by
  subst e
  rw [extract_str]; simp
theorem pieces_mem_len (c : UInt8) : ∀ l : List UInt8, ∀ x ∈ pieces c l, x.length ≤ l.length
  | [], x, h => by simp [pieces] at h; subst h; simp
  | b :: l, x, h => by
    have ih := pieces_mem_len c l
    unfold pieces at h
    by_cases hb : b = c
    · rw [if_pos hb] at h
      rcases List.mem_cons.1 h with rfl | h
      · simp
      · have := ih x h; rw [List.length_cons]; omega
    · rw [if_neg hb] at h
      cases hp : pieces c l with
      | nil => rw [hp] at h; simp at h; subst h; simp
      | cons a t =>
        rw [hp] at h ih
        rcases List.mem_cons.1 h with rfl | h
        · have := ih a (List.mem_cons_self ..); rw [List.length_cons, List.length_cons]; omega
        · have := ih x (List.mem_cons_of_mem _ h); rw [List.length_cons]; omega
theorem decE_other {t : List UInt8} (h : (pieces 32 t).length ≠ 3) : decE t = ⟨0, 0, 0⟩ := by
  unfold decE
  split
  · rename_i e; rw [e] at h; exact absurd rfl h
  · rfl
theorem extract_app1 {t h r : List UInt8} {c : UInt8} (e : t = h ++ c :: r) : (str t).extract 0 (h.length + 1) = str (h ++ [c]) := by
  subst e
  have e2 : h ++ c :: r = (h ++ [c]) ++ r := by simp
  rw [extract_str, e2, List.drop_zero, Nat.sub_zero, List.take_left' (by simp)]
theorem extract_app2 {t h r : List UInt8} {c : UInt8} (e : t = h ++ c :: r) : (str t).extract (h.length + 1) t.length = str r := by
  subst e
  have e2 : h ++ c :: r = (h ++ [c]) ++ r := by simp
  rw [extract_str, e2, List.drop_left' (by simp), List.take_of_length_le (by simp; omega)]
theorem t_mem {t h r : List UInt8} {c : UInt8} (e : t = h ++ c :: r) : c ∈ t := by subst e; simp
def sLen : Value → Nat
  | .string b => b.size
  | _ => 0
theorem atoi_l (l : List UInt8) (hp : l.length ≤ 70000) (w : World) (he : Env w) : Calls Tryz.prog 26 #[.string (str l)] w fun e w' => ∃ E, e = .returned (.tuple #[.int .i64 (atoiN l), E]) ∧ Below w.heap.size w w' := by
  refine (atoi_c (str l) (by rw [size_str]; omega) w he).mono ?_
  rintro e w' ⟨E, ⟨rfl, -⟩, hb⟩
  exact ⟨E, by rw [str_data], hb⟩
theorem split_l (l : List UInt8) (hs : l.length ≤ 70000) (w : World) (he : Env w) : Calls Tryz.prog 25 #[.string (str l), .string ⟨#[32]⟩] w fun e w' =>
    ∃ b, e = .returned (.slice (some ⟨b, 0, none⟩) (pieces 32 l).length (pieces 32 l).length) ∧ WordsAt w' b (pieces 32 l) ∧ w.heap.size ≤ b ∧ b < w'.heap.size ∧ Below w.heap.size w w' := by
  refine (split_c (str l) 32 (by rw [size_str]; omega) w he).mono ?_
  rintro e w' ⟨b, ⟨rfl, h2, rfl, h3⟩, hb⟩
  rw [str_data] at *
  exact ⟨_, rfl, h2, Nat.le_refl _, by omega, hb⟩
theorem indexByte_l (l : List UInt8) (w : World) : Calls Tryz.prog 28 #[.string (str l), .int .u8 10] w fun e w' => e = .returned (.int .i64 (Lib.indexByte l 10)) ∧ w = w' := by
  refine (Tryz.strings_IndexByte (str l) 10 w).mono ?_
  rintro e w' ⟨rfl, rfl⟩
  exact ⟨by rw [str_data]; rfl, rfl⟩
/-- What is handed back: the events, the line, the error. -/
def Parsed (w : World) (R : List Ev × Int × Int) (e : Ending) (w' : World) : Prop :=
  ∃ A cap, e = .returned (.tuple #[.slice A R.1.length cap, .int .i64 R.2.1, .int .i64 R.2.2]) ∧ (RdL w' w'.heap.size evE 3 A R.1 ∧ R.1.length ≤ 100) ∧ Below w.heap.size w w'
theorem Parsed.err {w w' : World} {n e : Int} (hb : Below w.heap.size w w') : Parsed w ([], n, e) (.returned (.tuple #[.slice none 0 0, .int .i64 n, .int .i64 e])) w' := ⟨none, 0, rfl, ⟨RdL.nil, Nat.zero_le _⟩, hb⟩
theorem Parsed.ok {w W : World} {R : List Ev × Int × Int} {pre : List Ev} {A : Option Addr} {cap : Nat} (h : (pre, (0 : Int), (0 : Int)) = R) (hrow : W.ownsRow w.heap.size 44 3 (.slice A pre.length cap) pre.length (pre.flatMap evE)) (hl : pre.length ≤ 100) (hb : Below w.heap.size w W) :
    Parsed w R (.returned (.tuple #[.slice A pre.length cap, .int .i64 0, .int .i64 0])) W := by
  subst h
  exact ⟨A, cap, rfl, ⟨RdL.of_own (fun _ => rfl) hrow rfl, hl⟩, hb⟩
def parseR (s : List UInt8) : List Ev × Int × Int := if s.length ≤ 65536 then parseE s.length [] s else ([], 0, 3)
theorem str_nil_ne {l : List UInt8} (h : l ≠ []) : str l ≠ ByteArray.empty := fun e => h (str_inj e)
theorem parseE_nil (k : Nat) (l : List Ev) : parseE k l [] = (l, 0, 0) := by cases k <;> simp [parseE]
theorem parseE_ok {k : Nat} {l : List Ev} {t : List UInt8} (ht : t ≠ []) (hk : t.length ≤ k) (h : okE l t = true) : ∃ k', (restL t).length ≤ k' ∧ parseE k l t = parseE k' (l ++ [decE (headL t)]) (restL t) := by
  cases k with
  | zero => exact absurd (List.length_eq_zero_iff.1 (by omega)) ht
  | succ k =>
    have := rest_len ht
    refine ⟨k, by omega, ?_⟩
    conv => lhs; unfold parseE
    rw [if_neg ht, if_pos h]
theorem parseE_bad {k : Nat} {l : List Ev} {t : List UInt8} (ht : t ≠ []) (hk : t.length ≤ k) (h : okE l t = false) : parseE k l t = ([], (l.length : Int), 2) := by
  cases k with
  | zero => exact absurd (List.length_eq_zero_iff.1 (by omega)) ht
  | succ k =>
    unfold parseE
    rw [if_neg ht, if_neg (by rw [h]; decide)]
set_option maxHeartbeats 2000000 in
set_option maxRecDepth 100000 in
theorem rParse_c (s : List UInt8) (hs : s.length ≤ 9223372036854775807) (w : World) (hE : Env w) :
    Calls Tryz.prog 8 #[.string (str s)] w (Parsed w (parseR s)) := by
  by_cases hlen : s.length ≤ 65536
  case neg =>
    have e1 : parseR s = ([], 0, 3) := by unfold parseR; rw [if_neg hlen]
    have hsz : (str s).size = s.length := size_str s
    rw [e1]
    have hd : decide (((str s).size : Int) > 65536) = true := decide_eq_true (by omega)
    clear e1 hE
    generalize str s = S at *
    go_enter Tryz.func8, Tryz.ntmps8
    go_wp2
    refine bodyPost_ret (v := .tuple #[.slice none 0 0, .int .i64 0, .int .i64 3]) (by simp [results, Tryz.results8, go_sem, *] <;> (repeat' apply And.intro) <;> rfl) rfl ?_
    exact Parsed.err (by (repeat (first | (with_reducible exact Below.refl _ _) | (with_reducible assumption) | (with_reducible refine Below.drew ?_) | (with_reducible refine Below.allocS ?_ _) | (with_reducible refine Below.setCell ?_ ?_ _) | (with_reducible refine Below.step ?_ (by assumption)) | (with_reducible refine Below.drewN' ?_ _))); (try any_goals (first | (with_reducible assumption) | (simp; done) | (simp; omega) | omega)))
  have e1 : parseR s = parseE s.length [] s := by unfold parseR; rw [if_pos hlen]
  rw [e1]
  obtain ⟨R, hR⟩ : ∃ R, parseE s.length [] s = R := ⟨_, rfl⟩
  rw [hR]
  have hsz : (str s).size = s.length := size_str s
  have hd : decide (((str s).size : Int) > 65536) = false := decide_eq_false (by omega)
  have HE := Lib.hid (fun W (hb : Below w.heap.size w W) => hE.step hb)
  have HR := Lib.hid hR
  clear e1 hR hE
  go_enter Tryz.func8, Tryz.ntmps8
  go_wp2
  clear hsz hd
  go_loopw [0, 2, 5] (fun sv lv nv wr => ∃ (pre : List Ev) (t : List UInt8) (k : Nat), sv = .string (str t) ∧ nv = .int .i64 (pre.length : Nat) ∧ wr.ownsRow w.heap.size 44 3 lv pre.length (pre.flatMap evE) ∧ pre.length ≤ 100 ∧ t.length ≤ k ∧ t.length ≤ 65536 ∧ parseE k pre t = R ∧ Below w.heap.size w wr) (fun sv _ _ _ => sLen sv)
  case atStart => exact ⟨[], s, s.length, rfl, rfl, World.ownsRow_nil _ _ _ _, by decide, Nat.le_refl _, hlen, HR.out, by (repeat (first | (with_reducible exact Below.refl _ _) | (with_reducible assumption) | (with_reducible refine Below.drew ?_) | (with_reducible refine Below.allocS ?_ _) | (with_reducible refine Below.setCell ?_ ?_ _) | (with_reducible refine Below.step ?_ (by assumption)) | (with_reducible refine Below.drewN' ?_ _))); (try any_goals (first | (with_reducible assumption) | (simp; done) | (simp; omega) | omega))⟩
  case round =>
    obtain ⟨pre, t, k, rfl, rfl, hrow, hpl, htk, ht6, hpe, hbw⟩ := hrel
    clear HR
    have HO := Lib.hid hrow
    have HP := Lib.hid hpe
    obtain ⟨A, cap, rfl, -, -⟩ := row_form hrow
    clear hrow hpe
    by_cases ht : t = []
    · subst ht
      have HP2 := Lib.hid ((parseE_nil k pre).symm.trans HP.out)
      have hem : (str []).toList.isEmpty = true := by rw [ByteArray.toList_eq]; rfl
      clear HP
      go_wp2
      refine bodyPost_ret (v := .tuple #[.slice A pre.length cap, .int .i64 0, .int .i64 0]) (by simp [results, Tryz.results8, go_sem, *] <;> (repeat' apply And.intro) <;> rfl) rfl ?_
      exact Parsed.ok HP2.out HO.out hpl hbw
    have hem : (str t).toList.isEmpty = false := by
      rw [ByteArray.toList_eq, str_data]
      cases t with
      | nil => exact absurd rfl ht
      | cons a b => rfl
    rcases head_cases t with ⟨h10, hh, hrr, hix⟩ | ⟨h10, htt, hix⟩
    · have HB := Lib.hid (HP.out.symm.trans (parseE_bad ht htk (okE_not fun h => h10 h.1)))
      have HI := Lib.hid (fun W => indexByte_l t W)
      rw [hix] at HI
      clear HP hh hrr hix h10
      go_wp2_with fail
      refine (HI.out _).mono ?_
      rintro e w1 ⟨rfl, rfl⟩
      go_wp2
      refine bodyPost_ret (v := .tuple #[.slice none 0 0, .int .i64 (pre.length : Nat), .int .i64 2]) (by simp [results, Tryz.results8, go_sem, *] <;> (repeat' apply And.intro) <;> rfl) rfl ?_
      exact HB.out ▸ Parsed.err hbw
    have HI := Lib.hid (fun W => indexByte_l t W)
    rw [hix] at HI
    by_cases h60 : (headL t).length ≤ 60
    case neg =>
      have HB := Lib.hid (HP.out.symm.trans (parseE_bad ht htk (okE_long (by omega))))
      generalize (headL t).length = n at *
      have hd1 : decide ((n : Int) < 0) = false := decide_eq_false (by omega)
      have hd2 : decide ((60 : Int) < (n : Int)) = true := decide_eq_true (by omega)
      have hd3 : decide (60 < n) = true := decide_eq_true (by omega)
      clear HP hix h10 htt
      go_wp2_with fail
      refine (HI.out _).mono ?_
      rintro e w1 ⟨rfl, rfl⟩
      go_wp2
      refine bodyPost_ret (v := .tuple #[.slice none 0 0, .int .i64 (pre.length : Nat), .int .i64 2]) (by simp [results, Tryz.results8, go_sem, *] <;> (repeat' apply And.intro) <;> rfl) rfl ?_
      exact HB.out ▸ Parsed.err hbw
    have hex : (str t).extract 0 (headL t).length = str (headL t) := extract_app htt
    have hez : (str t).size = t.length := size_str t
    have hle : (headL t).length + 1 ≤ t.length := by
      conv => rhs; rw [htt]
      rw [List.length_append, List.length_cons]; omega
    have HH := Lib.hid htt
    have H10 := Lib.hid h10
    have HSp := Lib.hid (fun W hb => split_l (headL t) (by omega) W (HE.out W hb))
    clear htt h10 hix
    generalize hH : headL t = H at *
    have HHe := Lib.hid hH
    clear hH
    have hd1 : decide ((H.length : Int) < 0) = false := decide_eq_false (by omega)
    have hd2 : decide ((60 : Int) < (H.length : Int)) = false := decide_eq_false (by omega)
    have hd3 : decide (60 < H.length) = false := decide_eq_false (by omega)
    go_wp2_with fail
    refine (HI.out _).mono ?_
    rintro e w1 ⟨rfl, rfl⟩
    have hlw : Below wr.heap.size wr (wr.alloc (.cells #[.int .i64 0, .int .i64 0, .int .i64 0] 44)) := Below.allocS (Below.refl _ _) _
    have hwr := hbw.size
    go_wp2_with fail
    refine (HSp.out _ (by (repeat (first | exact Below.refl _ _ | refine Below.drew ?_ | refine Below.allocS ?_ _ | refine Below.step ?_ (by assumption) | refine Below.setCell ?_ (by simp <;> omega) _ | refine Below.drewN' ?_ _)))).mono ?_
    rintro e w1 ⟨b1, rfl, hwd, hb1, hblw1, hbel1⟩
    have x0w1 : w1.cell? ⟨wr.heap.size, 0, none⟩ = some (.int .i64 0) := keep_cell hbel1 (by simp [go_sem])
    have x1w1 : w1.cell? ⟨wr.heap.size, 1, none⟩ = some (.int .i64 0) := keep_cell hbel1 (by simp [go_sem])
    have x2w1 : w1.cell? ⟨wr.heap.size, 2, none⟩ = some (.int .i64 0) := keep_cell hbel1 (by simp [go_sem])
    have f0w1 : w1.frozen? ⟨wr.heap.size, 0, none⟩ = false := keep_frozen hbel1 (by simp) (by simp [go_sem])
    have f1w1 : w1.frozen? ⟨wr.heap.size, 1, none⟩ = false := keep_frozen hbel1 (by simp) (by simp [go_sem])
    have f2w1 : w1.frozen? ⟨wr.heap.size, 2, none⟩ = false := keep_frozen hbel1 (by simp) (by simp [go_sem])
    have hne : b1 ≠ wr.heap.size := by simp at hb1; omega
    have hne' : wr.heap.size ≠ b1 := Ne.symm hne
    have hbrw1 : Below wr.heap.size wr w1 := Below.step hlw hbel1
    have hxlw1 : wr.heap.size < w1.heap.size := cell?_lt x0w1
    have HW := Lib.hid hwd
    clear hwd hb1 hbel1 HSp
    generalize hm : (pieces 32 H).length = m at *
    have HM := Lib.hid hm
    clear hm
    go_upto_if 31 with fail
    go_cut [] (fun W => W.cell? ⟨wr.heap.size, 0, none⟩ = some (.int .i64 (decE H).at') ∧ W.cell? ⟨wr.heap.size, 1, none⟩ = some (.int .i64 (decE H).kind) ∧ W.cell? ⟨wr.heap.size, 2, none⟩ = some (.int .i64 (decE H).n) ∧ Below wr.heap.size wr W)
    case first =>
      by_cases h3 : m = 3
      case neg =>
        have h3' : ((m : Int) == 3) = false := by rw [beq_eq_false_iff_ne]; omega
        have HD := Lib.hid (decE_other (t := H) (by rw [HM.out]; exact h3))
        clear HW HM h3
        go_wp2
        go_meet
        exact ⟨by rw [HD.out]; exact x0w1, by rw [HD.out]; exact x1w1, by rw [HD.out]; exact x2w1, hbrw1⟩
      obtain ⟨p, q, r, hpq⟩ : ∃ p q r, pieces 32 H = [p, q, r] := by
        match pieces 32 H, HM.out.trans h3 with
        | [p, q, r], _ => exact ⟨p, q, r, rfl⟩
      have hpl3 := pieces_mem_len 32 H
      rw [hpq] at hpl3
      have HD := Lib.hid (show decE H = ⟨atoiN p, atoiN q, atoiN r⟩ by unfold decE; rw [hpq])
      have HA1 := Lib.hid (fun W hb => atoi_l p (by have := hpl3 p (by simp); omega) W (HE.out W hb))
      have HA2 := Lib.hid (fun W hb => atoi_l q (by have := hpl3 q (by simp); omega) W (HE.out W hb))
      have HA3 := Lib.hid (fun W hb => atoi_l r (by have := hpl3 r (by simp); omega) W (HE.out W hb))
      rw [hpq] at HW
      have d0w1 : w1.cell? ⟨b1, 0, none⟩ = some (.string (str p)) := HW.out 0 p rfl
      have d1w1 : w1.cell? ⟨b1, 1, none⟩ = some (.string (str q)) := HW.out 1 q rfl
      have d2w1 : w1.cell? ⟨b1, 2, none⟩ = some (.string (str r)) := HW.out 2 r rfl
      subst h3
      clear hpq hpl3 HW HM
      go_wp2_with fail
      refine (HA1.out _ (by (repeat (first | exact Below.refl _ _ | refine Below.drew ?_ | refine Below.allocS ?_ _ | refine Below.step ?_ (by assumption) | refine Below.setCell ?_ (by simp <;> omega) _ | refine Below.drewN' ?_ _)))).mono ?_
      rintro e w2 ⟨E1, rfl, hbw2⟩
      have d0w2 : w2.cell? ⟨b1, 0, none⟩ = some (.string (str p)) := keep_cell hbw2 (by simp [go_sem, *])
      have d1w2 : w2.cell? ⟨b1, 1, none⟩ = some (.string (str q)) := keep_cell hbw2 (by simp [go_sem, *])
      have d2w2 : w2.cell? ⟨b1, 2, none⟩ = some (.string (str r)) := keep_cell hbw2 (by simp [go_sem, *])
      have x0w2 : w2.cell? ⟨wr.heap.size, 0, none⟩ = some (.int .i64 0) := keep_cell hbw2 (by simp [go_sem, *])
      have x1w2 : w2.cell? ⟨wr.heap.size, 1, none⟩ = some (.int .i64 0) := keep_cell hbw2 (by simp [go_sem, *])
      have x2w2 : w2.cell? ⟨wr.heap.size, 2, none⟩ = some (.int .i64 0) := keep_cell hbw2 (by simp [go_sem, *])
      have f0w2 : w2.frozen? ⟨wr.heap.size, 0, none⟩ = false := keep_frozen hbw2 (by first | omega | (simp; omega)) (by simp [go_sem, *])
      have f1w2 : w2.frozen? ⟨wr.heap.size, 1, none⟩ = false := keep_frozen hbw2 (by first | omega | (simp; omega)) (by simp [go_sem, *])
      have f2w2 : w2.frozen? ⟨wr.heap.size, 2, none⟩ = false := keep_frozen hbw2 (by first | omega | (simp; omega)) (by simp [go_sem, *])
      have hxlw2 : wr.heap.size < w2.heap.size := cell?_lt x0w2
      have hblw2 : b1 < w2.heap.size := cell?_lt d0w2
      have hbrw2 : Below wr.heap.size wr w2 := by (repeat (first | exact Below.refl _ _ | refine Below.drew ?_ | refine Below.allocS ?_ _ | refine Below.step ?_ (by assumption) | refine Below.setCell ?_ (by simp <;> omega) _ | refine Below.drewN' ?_ _))
      clear hbw2 d0w1 d1w1 d2w1 x0w1 x1w1 x2w1 f0w1 f1w1 f2w1 hbrw1 hxlw1 hblw1
      go_wp2_with fail
      refine (HA2.out _ (by (repeat (first | exact Below.refl _ _ | refine Below.drew ?_ | refine Below.allocS ?_ _ | refine Below.step ?_ (by assumption) | refine Below.setCell ?_ (by simp <;> omega) _ | refine Below.drewN' ?_ _)))).mono ?_
      rintro e w3 ⟨E2, rfl, hbw3⟩
      have d0w3 : w3.cell? ⟨b1, 0, none⟩ = some (.string (str p)) := keep_cell hbw3 (by simp [go_sem, *])
      have d1w3 : w3.cell? ⟨b1, 1, none⟩ = some (.string (str q)) := keep_cell hbw3 (by simp [go_sem, *])
      have d2w3 : w3.cell? ⟨b1, 2, none⟩ = some (.string (str r)) := keep_cell hbw3 (by simp [go_sem, *])
      have x0w3 : w3.cell? ⟨wr.heap.size, 0, none⟩ = some (.int .i64 (atoiN p)) := keep_cell hbw3 (by simp [go_sem, *])
      have x1w3 : w3.cell? ⟨wr.heap.size, 1, none⟩ = some (.int .i64 0) := keep_cell hbw3 (by simp [go_sem, *])
      have x2w3 : w3.cell? ⟨wr.heap.size, 2, none⟩ = some (.int .i64 0) := keep_cell hbw3 (by simp [go_sem, *])
      have f0w3 : w3.frozen? ⟨wr.heap.size, 0, none⟩ = false := keep_frozen hbw3 (by first | omega | (simp; omega)) (by simp [go_sem, *])
      have f1w3 : w3.frozen? ⟨wr.heap.size, 1, none⟩ = false := keep_frozen hbw3 (by first | omega | (simp; omega)) (by simp [go_sem, *])
      have f2w3 : w3.frozen? ⟨wr.heap.size, 2, none⟩ = false := keep_frozen hbw3 (by first | omega | (simp; omega)) (by simp [go_sem, *])
      have hxlw3 : wr.heap.size < w3.heap.size := cell?_lt x0w3
      have hblw3 : b1 < w3.heap.size := cell?_lt d0w3
      have hbrw3 : Below wr.heap.size wr w3 := by (repeat (first | exact Below.refl _ _ | refine Below.drew ?_ | refine Below.allocS ?_ _ | refine Below.step ?_ (by assumption) | refine Below.setCell ?_ (by simp <;> omega) _ | refine Below.drewN' ?_ _))
      clear hbw3 d0w2 d1w2 d2w2 x0w2 x1w2 x2w2 f0w2 f1w2 f2w2 hbrw2 hxlw2 hblw2
      go_wp2_with fail
      refine (HA3.out _ (by (repeat (first | exact Below.refl _ _ | refine Below.drew ?_ | refine Below.allocS ?_ _ | refine Below.step ?_ (by assumption) | refine Below.setCell ?_ (by simp <;> omega) _ | refine Below.drewN' ?_ _)))).mono ?_
      rintro e w4 ⟨E3, rfl, hbw4⟩
      have d0w4 : w4.cell? ⟨b1, 0, none⟩ = some (.string (str p)) := keep_cell hbw4 (by simp [go_sem, *])
      have d1w4 : w4.cell? ⟨b1, 1, none⟩ = some (.string (str q)) := keep_cell hbw4 (by simp [go_sem, *])
      have d2w4 : w4.cell? ⟨b1, 2, none⟩ = some (.string (str r)) := keep_cell hbw4 (by simp [go_sem, *])
      have x0w4 : w4.cell? ⟨wr.heap.size, 0, none⟩ = some (.int .i64 (atoiN p)) := keep_cell hbw4 (by simp [go_sem, *])
      have x1w4 : w4.cell? ⟨wr.heap.size, 1, none⟩ = some (.int .i64 (atoiN q)) := keep_cell hbw4 (by simp [go_sem, *])
      have x2w4 : w4.cell? ⟨wr.heap.size, 2, none⟩ = some (.int .i64 0) := keep_cell hbw4 (by simp [go_sem, *])
      have f0w4 : w4.frozen? ⟨wr.heap.size, 0, none⟩ = false := keep_frozen hbw4 (by first | omega | (simp; omega)) (by simp [go_sem, *])
      have f1w4 : w4.frozen? ⟨wr.heap.size, 1, none⟩ = false := keep_frozen hbw4 (by first | omega | (simp; omega)) (by simp [go_sem, *])
      have f2w4 : w4.frozen? ⟨wr.heap.size, 2, none⟩ = false := keep_frozen hbw4 (by first | omega | (simp; omega)) (by simp [go_sem, *])
      have hxlw4 : wr.heap.size < w4.heap.size := cell?_lt x0w4
      have hblw4 : b1 < w4.heap.size := cell?_lt d0w4
      have hbrw4 : Below wr.heap.size wr w4 := by (repeat (first | exact Below.refl _ _ | refine Below.drew ?_ | refine Below.allocS ?_ _ | refine Below.step ?_ (by assumption) | refine Below.setCell ?_ (by simp <;> omega) _ | refine Below.drewN' ?_ _))
      clear hbw4 d0w3 d1w3 d2w3 x0w3 x1w3 x2w3 f0w3 f1w3 f2w3 hbrw3 hxlw3 hblw3
      go_wp2
      go_meet
      exact ⟨by rw [HD.out]; simp [go_sem, *], by rw [HD.out]; simp [go_sem, *], by rw [HD.out]; simp [go_sem, *], by (repeat (first | exact Below.refl _ _ | refine Below.drew ?_ | refine Below.allocS ?_ _ | refine Below.step ?_ (by assumption) | refine Below.setCell ?_ (by simp <;> omega) _ | refine Below.drewN' ?_ _))⟩
    case rest =>
      obtain ⟨x0, x1, x2, hbr⟩ := hcut
      clear x0w1 x1w1 x2w1 f0w1 f1w1 f2w1 hbrw1 hxlw1 hblw1 HW HM hlw
      generalize hX : decE H = X at *
      have HX := Lib.hid hX
      clear hX
      have hrow := ownsRow_keep HO.out hbr
      have hnb := row_ne HO.out (Nat.le_refl wr.heap.size)
      have hcs := hbr.size
      have hxl : wr.heap.size < wc.heap.size := cell?_lt x0
      have HAPP := Lib.hid (app_keep appEv pre X pre.length rfl (by omega) (wc.alloc (.cells #[.int .i64 X.at', .int .i64 X.kind, .int .i64 X.n] 44)) w.heap.size wc.heap.size _ (hrow.alloc _) (by simp; omega) (fun j u hu => by
        have := new_cells wc wc.heap.size (evE X) 44 rfl j u hu
        rwa [add_none] at this))
      have hbA : Below wc.heap.size wc (wc.alloc (.cells #[.int .i64 X.at', .int .i64 X.kind, .int .i64 X.n] 44)) := Below.allocS (Below.refl _ _) _
      have HBW := Lib.hid (Below.step (Below.step hbw hbr) hbA)
      have HN := Lib.hid hnb
      clear hrow hnb
      go_wp2_with (at_builtin; refine wpList_app rfl (.tmp 56) (.tmp 58) 22 rfl _ _ rfl rfl HAPP.out ?_; rintro v5 w5 ⟨hown5, hbel5, hgr5⟩; obtain ⟨A5, c5, rfl, -, -⟩ := row_form hown5; have y0 := grown_cell hgr5 HN.out (keep_cell hbA x0); have y1 := grown_cell hgr5 HN.out (keep_cell hbA x1); have y2 := grown_cell hgr5 HN.out (keep_cell hbA x2); have HO5 := Lib.hid hown5; have hbw5 : Below w.heap.size w w5 := HBW.out.trans hbel5; clear hown5 hbel5 hgr5 HAPP HBW HN hbA x0 x1 x2 hbr)
      have RD : RdL w5 w5.heap.size evE 3 A5 (pre ++ [X]) := RdL.of_own (n := pre.length + 1) (cap := c5) (fun _ => rfl) HO5.out (by simp)
      have HOrd := Lib.hid (fun W hb => ordered_c (pre ++ [X]) (pre.length + 1) (by simp) A5 c5 (by omega) W (RD.step hb))
      clear RD
      cases ho : ordB (pre ++ [X])
      · have HB := Lib.hid (HP.out.symm.trans (parseE_bad ht htk (okE_ord (by rw [HHe.out, HX.out]; exact ho))))
        rw [ho] at HOrd
        clear ho HP
        go_wp2_with fail
        refine region_below (by kernel_rfl) (by kernel_rfl) ?_
        (first | go_big_quiet_skip | (go_big_quiet_want; refine quiet_val (v := ?_) ?_ ?_; rotate_left 1; (· (intro Wq hWq; obtain ⟨hWc, hWf⟩ := bcell hWq; go_simp; (try with_reducible rfl))); go_big_quiet_on; (try simp only [Act.put, List.setIfInBounds_toArray, List.set_cons_zero, List.set_cons_succ])))
        go_big_quiet_want; refine quiet_callB (f := 29) (args := ?_) (v := ?_) ?_ ?_ ?_; rotate_left 2
        · (intro Wq hWq; obtain ⟨hWc, hWf⟩ := bcell hWq; go_simp; (first | with_reducible rfl | exact ⟨rfl, rfl⟩))
        · (intro Wq hWq; exact HOrd.out Wq (by assumption))
        go_big_quiet_on; (try simp only [Act.put, List.setIfInBounds_toArray, List.set_cons_zero, List.set_cons_succ])
        (first | go_big_quiet_skip | (go_big_quiet_want; refine quiet_val (v := ?_) ?_ ?_; rotate_left 1; (· (intro Wq hWq; obtain ⟨hWc, hWf⟩ := bcell hWq; go_simp; (try with_reducible rfl))); go_big_quiet_on; (try simp only [Act.put, List.setIfInBounds_toArray, List.set_cons_zero, List.set_cons_succ])))
        (first | go_big_quiet_skip | (go_big_quiet_want; refine quiet_val (v := ?_) ?_ ?_; rotate_left 1; (· (intro Wq hWq; obtain ⟨hWc, hWf⟩ := bcell hWq; go_simp; (try with_reducible rfl))); go_big_quiet_on; (try simp only [Act.put, List.setIfInBounds_toArray, List.set_cons_zero, List.set_cons_succ])))
        (first | go_big_quiet_skip | (go_big_quiet_want; refine quiet_val (v := ?_) ?_ ?_; rotate_left 1; (· (intro Wq hWq; obtain ⟨hWc, hWf⟩ := bcell hWq; go_simp; (try with_reducible rfl))); go_big_quiet_on; (try simp only [Act.put, List.setIfInBounds_toArray, List.set_cons_zero, List.set_cons_succ])))
        (first | go_big_quiet_skip | (go_big_quiet_want; refine quiet_val (v := ?_) ?_ ?_; rotate_left 1; (· (intro Wq hWq; obtain ⟨hWc, hWf⟩ := bcell hWq; go_simp; (try with_reducible rfl))); go_big_quiet_on; (try simp only [Act.put, List.setIfInBounds_toArray, List.set_cons_zero, List.set_cons_succ])))
        (first | go_big_quiet_skip | (go_big_quiet_want; refine quiet_val (v := ?_) ?_ ?_; rotate_left 1; (· (intro Wq hWq; obtain ⟨hWc, hWf⟩ := bcell hWq; go_simp; (try with_reducible rfl))); go_big_quiet_on; (try simp only [Act.put, List.setIfInBounds_toArray, List.set_cons_zero, List.set_cons_succ])))
        (first | go_big_quiet_skip | (go_big_quiet_want; refine quiet_val (v := ?_) ?_ ?_; rotate_left 1; (· (intro Wq hWq; obtain ⟨hWc, hWf⟩ := bcell hWq; go_simp; (try with_reducible rfl))); go_big_quiet_on; (try simp only [Act.put, List.setIfInBounds_toArray, List.set_cons_zero, List.set_cons_succ])))
        (first | go_big_quiet_skip | (go_big_quiet_want; refine quiet_val (v := ?_) ?_ ?_; rotate_left 1; (· (intro Wq hWq; obtain ⟨hWc, hWf⟩ := bcell hWq; go_simp; (try with_reducible rfl))); go_big_quiet_on; (try simp only [Act.put, List.setIfInBounds_toArray, List.set_cons_zero, List.set_cons_succ])))
        (first | go_big_quiet_skip | (go_big_quiet_want; refine quiet_val (v := ?_) ?_ ?_; rotate_left 1; (· (intro Wq hWq; obtain ⟨hWc, hWf⟩ := bcell hWq; go_simp; (try with_reducible rfl))); go_big_quiet_on; (try simp only [Act.put, List.setIfInBounds_toArray, List.set_cons_zero, List.set_cons_succ])))
        (first | go_big_quiet_skip | (go_big_quiet_want; refine quiet_val (v := ?_) ?_ ?_; rotate_left 1; (· (intro Wq hWq; obtain ⟨hWc, hWf⟩ := bcell hWq; go_simp; (try with_reducible rfl))); go_big_quiet_on; (try simp only [Act.put, List.setIfInBounds_toArray, List.set_cons_zero, List.set_cons_succ])))
        (first | go_big_quiet_skip | (go_big_quiet_want; refine quiet_val (v := ?_) ?_ ?_; rotate_left 1; (· (intro Wq hWq; obtain ⟨hWc, hWf⟩ := bcell hWq; go_simp; (try with_reducible rfl))); go_big_quiet_on; (try simp only [Act.put, List.setIfInBounds_toArray, List.set_cons_zero, List.set_cons_succ])))
        (first | go_big_quiet_skip | (go_big_quiet_want; refine quiet_val (v := ?_) ?_ ?_; rotate_left 1; (· (intro Wq hWq; obtain ⟨hWc, hWf⟩ := bcell hWq; go_simp; (try with_reducible rfl))); go_big_quiet_on; (try simp only [Act.put, List.setIfInBounds_toArray, List.set_cons_zero, List.set_cons_succ])))
        refine wpQuiet_nil ?_; intro V hbV
        go_wp2
        refine bodyPost_ret (v := .tuple #[.slice none 0 0, .int .i64 (pre.length : Nat), .int .i64 2]) (by simp [results, Tryz.results8, go_sem, *] <;> (repeat' apply And.intro) <;> rfl) rfl ?_
        exact HB.out ▸ Parsed.err (by (repeat (first | exact Below.refl _ _ | refine Below.drew ?_ | refine Below.allocS ?_ _ | refine Below.step ?_ (by assumption) | refine Below.setCell ?_ (by simp <;> omega) _ | refine Below.drewN' ?_ _)))
      have hfx := snoc_fine ho
      have h100 : pre.length + 1 ≤ 100 := by have := (ordB_iff.1 ho).1; simpa using this
      have hfm : fmtE [X] = lineE X := by unfold fmtE; rw [ordB_one, if_pos hfx, textE_one]
      have HFm := Lib.hid (fun W (hb : Below w.heap.size w W) A c hr => rFormat_c [X] 1 rfl A c (by omega) W hr (HE.out W hb))
      rw [hfm] at HFm
      rw [ho] at HOrd
      have HOk := Lib.hid ho
      clear ho hfm hfx
      have hsum : IntKind.i64.wrap ((H.length : Int) + 1) = ((H.length + 1 : Nat) : Int) := by
        have h : IntKind.i64.wrap ((H.length : Int) + 1) = (H.length : Int) + 1 := IntWalk.i64_in _ (by omega)
        rw [h]; omega
      have hn1 : (0 : Int) ≤ (H.length : Int) + 1 := by omega
      have hn2 : (H.length : Int) + 1 ≤ (t.length : Int) := by omega
      have hex2 : (str t).extract 0 (H.length + 1) = str (H ++ [10]) := extract_app1 HH.out
      cases hq : ((str (lineE X)).toList == (str (H ++ [10])).toList)
      · have hno : lineE X ≠ H ++ [10] := fun e => by rw [e] at hq; simp at hq
        have HB := Lib.hid (HP.out.symm.trans (parseE_bad ht htk (okE_other (by rw [HHe.out, HX.out]; exact hno))))
        clear hno HP
        go_wp2_with fail
        refine wp_region_held_drew (S := (fun W => W.cell? ⟨wr.heap.size, 0, none⟩ = some (.int .i64 X.at') ∧ W.cell? ⟨wr.heap.size, 1, none⟩ = some (.int .i64 X.kind) ∧ W.cell? ⟨wr.heap.size, 2, none⟩ = some (.int .i64 X.n) ∧ Below w5.heap.size w5 W)) (by kernel_rfl) ?_ (fun hHeld => ?_); (· exact ⟨y0, y1, y2, Below.drew (Below.refl _ _)⟩)
        (first | (refine wpAnyH_take (i := 0) (oi := ⟨_, _, _, _, _, _⟩) (v := ?_) rfl (by kernel_rfl) (by kernel_rfl) (by kernel_rfl) (fun _ _ _ h => h) (Or.inl ⟨by rfl, ?_⟩) (by assumption) ?_; rotate_left 1; (· (intro w0 hSw; (try dsimp only at hSw); go_simp; (try with_reducible rfl)))) | (refine wpAnyH_take (i := 0) (oi := ⟨_, _, _, _, _, _⟩) (v := undef) rfl (by kernel_rfl) (by kernel_rfl) (by kernel_rfl) (fun _ _ _ h => h) (Or.inr ⟨by rfl, rfl⟩) (by assumption) ?_)); (try simp only [Act.put, List.setIfInBounds_toArray, List.set_cons_zero, List.set_cons_succ])
        refine wpAnyH_ready (rs := [1]) (by kernel_rfl) (by simp) ?_
        refine AllReadyH.cons (o := ⟨_, _, _, _, _, _⟩) rfl (fun K hK => ?_) AllReadyH.nil
        go_simp
        go_at_call 29; refine (HOrd.out _ hHeld.2.2.2).mono ?_; rintro e wo ⟨rfl, hbo⟩
        (try go_wp2_with fail)
        refine hK.out _ _ ?_ (fun hHeld => ?_)
        · exact And.imp (keep_cell hbo) (And.imp (keep_cell hbo) (And.imp (keep_cell hbo) (fun h => Below.step h hbo))) (by assumption)
        clear hK K
        (try simp only [Act.put, List.setIfInBounds_toArray, List.set_cons_zero, List.set_cons_succ])
        (first | (refine wpAnyH_take (i := 2) (oi := ⟨_, _, _, _, _, _⟩) (v := ?_) rfl (by kernel_rfl) (by kernel_rfl) (by kernel_rfl) (fun _ _ _ h => h) (Or.inl ⟨by rfl, ?_⟩) (by assumption) ?_; rotate_left 1; (· (intro w0 hSw; (try dsimp only at hSw); go_simp; (try with_reducible rfl)))) | (refine wpAnyH_take (i := 2) (oi := ⟨_, _, _, _, _, _⟩) (v := undef) rfl (by kernel_rfl) (by kernel_rfl) (by kernel_rfl) (fun _ _ _ h => h) (Or.inr ⟨by rfl, rfl⟩) (by assumption) ?_)); (try simp only [Act.put, List.setIfInBounds_toArray, List.set_cons_zero, List.set_cons_succ])
        (first | (refine wpAnyH_take (i := 3) (oi := ⟨_, _, _, _, _, _⟩) (v := ?_) rfl (by kernel_rfl) (by kernel_rfl) (by kernel_rfl) (fun _ _ _ h => h) (Or.inl ⟨by rfl, ?_⟩) (by assumption) ?_; rotate_left 1; (· (intro w0 hSw; (try dsimp only at hSw); go_simp; (try with_reducible rfl)))) | (refine wpAnyH_take (i := 3) (oi := ⟨_, _, _, _, _, _⟩) (v := undef) rfl (by kernel_rfl) (by kernel_rfl) (by kernel_rfl) (fun _ _ _ h => h) (Or.inr ⟨by rfl, rfl⟩) (by assumption) ?_)); (try simp only [Act.put, List.setIfInBounds_toArray, List.set_cons_zero, List.set_cons_succ])
        (first | (refine wpAnyH_take (i := 4) (oi := ⟨_, _, _, _, _, _⟩) (v := ?_) rfl (by kernel_rfl) (by kernel_rfl) (by kernel_rfl) (fun _ _ _ h => h) (Or.inl ⟨by rfl, ?_⟩) (by assumption) ?_; rotate_left 1; (· (intro w0 hSw; (try dsimp only at hSw); go_simp; (try with_reducible rfl)))) | (refine wpAnyH_take (i := 4) (oi := ⟨_, _, _, _, _, _⟩) (v := undef) rfl (by kernel_rfl) (by kernel_rfl) (by kernel_rfl) (fun _ _ _ h => h) (Or.inr ⟨by rfl, rfl⟩) (by assumption) ?_)); (try simp only [Act.put, List.setIfInBounds_toArray, List.set_cons_zero, List.set_cons_succ])
        (first | (refine wpAnyH_take (i := 7) (oi := ⟨_, _, _, _, _, _⟩) (v := ?_) rfl (by kernel_rfl) (by kernel_rfl) (by kernel_rfl) (fun _ _ _ h => h) (Or.inl ⟨by rfl, ?_⟩) (by assumption) ?_; rotate_left 1; (· (intro w0 hSw; (try dsimp only at hSw); go_simp; (try with_reducible rfl)))) | (refine wpAnyH_take (i := 7) (oi := ⟨_, _, _, _, _, _⟩) (v := undef) rfl (by kernel_rfl) (by kernel_rfl) (by kernel_rfl) (fun _ _ _ h => h) (Or.inr ⟨by rfl, rfl⟩) (by assumption) ?_)); (try simp only [Act.put, List.setIfInBounds_toArray, List.set_cons_zero, List.set_cons_succ])
        (first | (refine wpAnyH_take (i := 8) (oi := ⟨_, _, _, _, _, _⟩) (v := ?_) rfl (by kernel_rfl) (by kernel_rfl) (by kernel_rfl) (fun _ _ _ h => h) (Or.inl ⟨by rfl, ?_⟩) (by assumption) ?_; rotate_left 1; (· (intro w0 hSw; (try dsimp only at hSw); go_simp; (try with_reducible rfl)))) | (refine wpAnyH_take (i := 8) (oi := ⟨_, _, _, _, _, _⟩) (v := undef) rfl (by kernel_rfl) (by kernel_rfl) (by kernel_rfl) (fun _ _ _ h => h) (Or.inr ⟨by rfl, rfl⟩) (by assumption) ?_)); (try simp only [Act.put, List.setIfInBounds_toArray, List.set_cons_zero, List.set_cons_succ])
        (first | (refine wpAnyH_take (i := 9) (oi := ⟨_, _, _, _, _, _⟩) (v := ?_) rfl (by kernel_rfl) (by kernel_rfl) (by kernel_rfl) (fun _ _ _ h => h) (Or.inl ⟨by rfl, ?_⟩) (by assumption) ?_; rotate_left 1; (· (intro w0 hSw; (try dsimp only at hSw); go_simp; (try with_reducible rfl)))) | (refine wpAnyH_take (i := 9) (oi := ⟨_, _, _, _, _, _⟩) (v := undef) rfl (by kernel_rfl) (by kernel_rfl) (by kernel_rfl) (fun _ _ _ h => h) (Or.inr ⟨by rfl, rfl⟩) (by assumption) ?_)); (try simp only [Act.put, List.setIfInBounds_toArray, List.set_cons_zero, List.set_cons_succ])
        (first | (refine wpAnyH_take (i := 10) (oi := ⟨_, _, _, _, _, _⟩) (v := ?_) rfl (by kernel_rfl) (by kernel_rfl) (by kernel_rfl) (fun _ _ _ h => h) (Or.inl ⟨by rfl, ?_⟩) (by assumption) ?_; rotate_left 1; (· (intro w0 hSw; (try dsimp only at hSw); go_simp; (try with_reducible rfl)))) | (refine wpAnyH_take (i := 10) (oi := ⟨_, _, _, _, _, _⟩) (v := undef) rfl (by kernel_rfl) (by kernel_rfl) (by kernel_rfl) (fun _ _ _ h => h) (Or.inr ⟨by rfl, rfl⟩) (by assumption) ?_)); (try simp only [Act.put, List.setIfInBounds_toArray, List.set_cons_zero, List.set_cons_succ])
        refine wpAnyH_ready (rs := [5]) (by kernel_rfl) (by simp) ?_
        refine AllReadyH.cons (o := ⟨_, _, _, _, _, _⟩) rfl (fun K hK => ?_) AllReadyH.nil
        go_simp
        have hba := Below.allocS (Below.refl _ wo) (.cells #[.int .i64 X.at', .int .i64 X.kind, .int .i64 X.n] 44)
        refine hK.out _ _ ?_ (fun hHeld => ?_)
        · exact And.imp (keep_cell hba) (And.imp (keep_cell hba) (And.imp (keep_cell hba) (fun h => Below.step h hba))) (by assumption)
        clear hK K
        (try simp only [Act.put, List.setIfInBounds_toArray, List.set_cons_zero, List.set_cons_succ])
        have RN : RdL (wo.alloc (.cells #[.int .i64 X.at', .int .i64 X.kind, .int .i64 X.n] 44)) (wo.alloc (.cells #[.int .i64 X.at', .int .i64 X.kind, .int .i64 X.n] 44)).heap.size evE 3 (some ⟨wo.heap.size, 0, none⟩) [X] := RdL.new _ _ evE 3 [X] (fun _ => rfl)
        have HQ := Lib.hid (HFm.out _ (Below.step hbw5 hHeld.2.2.2) _ 1 RN)
        clear RN
        refine wpAnyH_ready (rs := [6]) (by kernel_rfl) (by simp) ?_
        refine AllReadyH.cons (o := ⟨_, _, _, _, _, _⟩) rfl (fun K hK => ?_) AllReadyH.nil
        go_simp
        go_at_call 10; refine (HQ.out).mono ?_; rintro e wf ⟨rfl, hbf⟩
        (try go_wp2_with fail)
        refine hK.out _ _ ?_ (fun hHeld => ?_)
        · exact And.imp (keep_cell hbf) (And.imp (keep_cell hbf) (And.imp (keep_cell hbf) (fun h => Below.step h hbf))) (by assumption)
        clear hK K
        (try simp only [Act.put, List.setIfInBounds_toArray, List.set_cons_zero, List.set_cons_succ])
        (first | (refine wpAnyH_take (i := 11) (oi := ⟨_, _, _, _, _, _⟩) (v := ?_) rfl (by kernel_rfl) (by kernel_rfl) (by kernel_rfl) (fun _ _ _ h => h) (Or.inl ⟨by rfl, ?_⟩) (by assumption) ?_; rotate_left 1; (· (intro w0 hSw; (try dsimp only at hSw); go_simp; (try with_reducible rfl)))) | (refine wpAnyH_take (i := 11) (oi := ⟨_, _, _, _, _, _⟩) (v := undef) rfl (by kernel_rfl) (by kernel_rfl) (by kernel_rfl) (fun _ _ _ h => h) (Or.inr ⟨by rfl, rfl⟩) (by assumption) ?_)); (try simp only [Act.put, List.setIfInBounds_toArray, List.set_cons_zero, List.set_cons_succ])
        (first | (refine wpAnyH_take (i := 12) (oi := ⟨_, _, _, _, _, _⟩) (v := ?_) rfl (by kernel_rfl) (by kernel_rfl) (by kernel_rfl) (fun _ _ _ h => h) (Or.inl ⟨by rfl, ?_⟩) (by assumption) ?_; rotate_left 1; (· (intro w0 hSw; (try dsimp only at hSw); go_simp; (try with_reducible rfl)))) | (refine wpAnyH_take (i := 12) (oi := ⟨_, _, _, _, _, _⟩) (v := undef) rfl (by kernel_rfl) (by kernel_rfl) (by kernel_rfl) (fun _ _ _ h => h) (Or.inr ⟨by rfl, rfl⟩) (by assumption) ?_)); (try simp only [Act.put, List.setIfInBounds_toArray, List.set_cons_zero, List.set_cons_succ])
        refine wpAnyH_done (by kernel_rfl) ?_ _
        have hbz := hHeld.2.2.2
        go_wp2
        refine bodyPost_ret (v := .tuple #[.slice none 0 0, .int .i64 (pre.length : Nat), .int .i64 2]) (by simp [results, Tryz.results8, go_sem, *] <;> (repeat' apply And.intro) <;> rfl) rfl ?_
        exact HB.out ▸ Parsed.err (by (repeat (first | exact Below.refl _ _ | refine Below.drew ?_ | refine Below.allocS ?_ _ | refine Below.step ?_ (by assumption) | refine Below.setCell ?_ (by simp <;> omega) _ | refine Below.drewN' ?_ _)))
      · have hyes : lineE X = H ++ [10] := by
          have h1 := eq_of_beq hq
          rw [ByteArray.toList_eq, ByteArray.toList_eq, str_data, str_data] at h1
          exact h1
        obtain ⟨k', hk', hpe⟩ := parseE_ok ht htk (okE_same (t_mem HH.out) (by rw [HHe.out, HX.out]; exact hyes) (by rw [HHe.out, HX.out]; exact HOk.out))
        rw [HHe.out, HX.out] at hpe
        have HPe := Lib.hid (hpe.symm.trans HP.out)
        have hrl := rest_len ht
        clear hyes hpe HP
        go_wp2_with fail
        refine wp_region_held_drew (S := (fun W => W.cell? ⟨wr.heap.size, 0, none⟩ = some (.int .i64 X.at') ∧ W.cell? ⟨wr.heap.size, 1, none⟩ = some (.int .i64 X.kind) ∧ W.cell? ⟨wr.heap.size, 2, none⟩ = some (.int .i64 X.n) ∧ Below w5.heap.size w5 W)) (by kernel_rfl) ?_ (fun hHeld => ?_); (· exact ⟨y0, y1, y2, Below.drew (Below.refl _ _)⟩)
        (first | (refine wpAnyH_take (i := 0) (oi := ⟨_, _, _, _, _, _⟩) (v := ?_) rfl (by kernel_rfl) (by kernel_rfl) (by kernel_rfl) (fun _ _ _ h => h) (Or.inl ⟨by rfl, ?_⟩) (by assumption) ?_; rotate_left 1; (· (intro w0 hSw; (try dsimp only at hSw); go_simp; (try with_reducible rfl)))) | (refine wpAnyH_take (i := 0) (oi := ⟨_, _, _, _, _, _⟩) (v := undef) rfl (by kernel_rfl) (by kernel_rfl) (by kernel_rfl) (fun _ _ _ h => h) (Or.inr ⟨by rfl, rfl⟩) (by assumption) ?_)); (try simp only [Act.put, List.setIfInBounds_toArray, List.set_cons_zero, List.set_cons_succ])
        refine wpAnyH_ready (rs := [1]) (by kernel_rfl) (by simp) ?_
        refine AllReadyH.cons (o := ⟨_, _, _, _, _, _⟩) rfl (fun K hK => ?_) AllReadyH.nil
        go_simp
        go_at_call 29; refine (HOrd.out _ hHeld.2.2.2).mono ?_; rintro e wo ⟨rfl, hbo⟩
        (try go_wp2_with fail)
        refine hK.out _ _ ?_ (fun hHeld => ?_)
        · exact And.imp (keep_cell hbo) (And.imp (keep_cell hbo) (And.imp (keep_cell hbo) (fun h => Below.step h hbo))) (by assumption)
        clear hK K
        (try simp only [Act.put, List.setIfInBounds_toArray, List.set_cons_zero, List.set_cons_succ])
        (first | (refine wpAnyH_take (i := 2) (oi := ⟨_, _, _, _, _, _⟩) (v := ?_) rfl (by kernel_rfl) (by kernel_rfl) (by kernel_rfl) (fun _ _ _ h => h) (Or.inl ⟨by rfl, ?_⟩) (by assumption) ?_; rotate_left 1; (· (intro w0 hSw; (try dsimp only at hSw); go_simp; (try with_reducible rfl)))) | (refine wpAnyH_take (i := 2) (oi := ⟨_, _, _, _, _, _⟩) (v := undef) rfl (by kernel_rfl) (by kernel_rfl) (by kernel_rfl) (fun _ _ _ h => h) (Or.inr ⟨by rfl, rfl⟩) (by assumption) ?_)); (try simp only [Act.put, List.setIfInBounds_toArray, List.set_cons_zero, List.set_cons_succ])
        (first | (refine wpAnyH_take (i := 3) (oi := ⟨_, _, _, _, _, _⟩) (v := ?_) rfl (by kernel_rfl) (by kernel_rfl) (by kernel_rfl) (fun _ _ _ h => h) (Or.inl ⟨by rfl, ?_⟩) (by assumption) ?_; rotate_left 1; (· (intro w0 hSw; (try dsimp only at hSw); go_simp; (try with_reducible rfl)))) | (refine wpAnyH_take (i := 3) (oi := ⟨_, _, _, _, _, _⟩) (v := undef) rfl (by kernel_rfl) (by kernel_rfl) (by kernel_rfl) (fun _ _ _ h => h) (Or.inr ⟨by rfl, rfl⟩) (by assumption) ?_)); (try simp only [Act.put, List.setIfInBounds_toArray, List.set_cons_zero, List.set_cons_succ])
        (first | (refine wpAnyH_take (i := 4) (oi := ⟨_, _, _, _, _, _⟩) (v := ?_) rfl (by kernel_rfl) (by kernel_rfl) (by kernel_rfl) (fun _ _ _ h => h) (Or.inl ⟨by rfl, ?_⟩) (by assumption) ?_; rotate_left 1; (· (intro w0 hSw; (try dsimp only at hSw); go_simp; (try with_reducible rfl)))) | (refine wpAnyH_take (i := 4) (oi := ⟨_, _, _, _, _, _⟩) (v := undef) rfl (by kernel_rfl) (by kernel_rfl) (by kernel_rfl) (fun _ _ _ h => h) (Or.inr ⟨by rfl, rfl⟩) (by assumption) ?_)); (try simp only [Act.put, List.setIfInBounds_toArray, List.set_cons_zero, List.set_cons_succ])
        (first | (refine wpAnyH_take (i := 7) (oi := ⟨_, _, _, _, _, _⟩) (v := ?_) rfl (by kernel_rfl) (by kernel_rfl) (by kernel_rfl) (fun _ _ _ h => h) (Or.inl ⟨by rfl, ?_⟩) (by assumption) ?_; rotate_left 1; (· (intro w0 hSw; (try dsimp only at hSw); go_simp; (try with_reducible rfl)))) | (refine wpAnyH_take (i := 7) (oi := ⟨_, _, _, _, _, _⟩) (v := undef) rfl (by kernel_rfl) (by kernel_rfl) (by kernel_rfl) (fun _ _ _ h => h) (Or.inr ⟨by rfl, rfl⟩) (by assumption) ?_)); (try simp only [Act.put, List.setIfInBounds_toArray, List.set_cons_zero, List.set_cons_succ])
        (first | (refine wpAnyH_take (i := 8) (oi := ⟨_, _, _, _, _, _⟩) (v := ?_) rfl (by kernel_rfl) (by kernel_rfl) (by kernel_rfl) (fun _ _ _ h => h) (Or.inl ⟨by rfl, ?_⟩) (by assumption) ?_; rotate_left 1; (· (intro w0 hSw; (try dsimp only at hSw); go_simp; (try with_reducible rfl)))) | (refine wpAnyH_take (i := 8) (oi := ⟨_, _, _, _, _, _⟩) (v := undef) rfl (by kernel_rfl) (by kernel_rfl) (by kernel_rfl) (fun _ _ _ h => h) (Or.inr ⟨by rfl, rfl⟩) (by assumption) ?_)); (try simp only [Act.put, List.setIfInBounds_toArray, List.set_cons_zero, List.set_cons_succ])
        (first | (refine wpAnyH_take (i := 9) (oi := ⟨_, _, _, _, _, _⟩) (v := ?_) rfl (by kernel_rfl) (by kernel_rfl) (by kernel_rfl) (fun _ _ _ h => h) (Or.inl ⟨by rfl, ?_⟩) (by assumption) ?_; rotate_left 1; (· (intro w0 hSw; (try dsimp only at hSw); go_simp; (try with_reducible rfl)))) | (refine wpAnyH_take (i := 9) (oi := ⟨_, _, _, _, _, _⟩) (v := undef) rfl (by kernel_rfl) (by kernel_rfl) (by kernel_rfl) (fun _ _ _ h => h) (Or.inr ⟨by rfl, rfl⟩) (by assumption) ?_)); (try simp only [Act.put, List.setIfInBounds_toArray, List.set_cons_zero, List.set_cons_succ])
        (first | (refine wpAnyH_take (i := 10) (oi := ⟨_, _, _, _, _, _⟩) (v := ?_) rfl (by kernel_rfl) (by kernel_rfl) (by kernel_rfl) (fun _ _ _ h => h) (Or.inl ⟨by rfl, ?_⟩) (by assumption) ?_; rotate_left 1; (· (intro w0 hSw; (try dsimp only at hSw); go_simp; (try with_reducible rfl)))) | (refine wpAnyH_take (i := 10) (oi := ⟨_, _, _, _, _, _⟩) (v := undef) rfl (by kernel_rfl) (by kernel_rfl) (by kernel_rfl) (fun _ _ _ h => h) (Or.inr ⟨by rfl, rfl⟩) (by assumption) ?_)); (try simp only [Act.put, List.setIfInBounds_toArray, List.set_cons_zero, List.set_cons_succ])
        refine wpAnyH_ready (rs := [5]) (by kernel_rfl) (by simp) ?_
        refine AllReadyH.cons (o := ⟨_, _, _, _, _, _⟩) rfl (fun K hK => ?_) AllReadyH.nil
        go_simp
        have hba := Below.allocS (Below.refl _ wo) (.cells #[.int .i64 X.at', .int .i64 X.kind, .int .i64 X.n] 44)
        refine hK.out _ _ ?_ (fun hHeld => ?_)
        · exact And.imp (keep_cell hba) (And.imp (keep_cell hba) (And.imp (keep_cell hba) (fun h => Below.step h hba))) (by assumption)
        clear hK K
        (try simp only [Act.put, List.setIfInBounds_toArray, List.set_cons_zero, List.set_cons_succ])
        have RN : RdL (wo.alloc (.cells #[.int .i64 X.at', .int .i64 X.kind, .int .i64 X.n] 44)) (wo.alloc (.cells #[.int .i64 X.at', .int .i64 X.kind, .int .i64 X.n] 44)).heap.size evE 3 (some ⟨wo.heap.size, 0, none⟩) [X] := RdL.new _ _ evE 3 [X] (fun _ => rfl)
        have HQ := Lib.hid (HFm.out _ (Below.step hbw5 hHeld.2.2.2) _ 1 RN)
        clear RN
        refine wpAnyH_ready (rs := [6]) (by kernel_rfl) (by simp) ?_
        refine AllReadyH.cons (o := ⟨_, _, _, _, _, _⟩) rfl (fun K hK => ?_) AllReadyH.nil
        go_simp
        go_at_call 10; refine (HQ.out).mono ?_; rintro e wf ⟨rfl, hbf⟩
        (try go_wp2_with fail)
        refine hK.out _ _ ?_ (fun hHeld => ?_)
        · exact And.imp (keep_cell hbf) (And.imp (keep_cell hbf) (And.imp (keep_cell hbf) (fun h => Below.step h hbf))) (by assumption)
        clear hK K
        (try simp only [Act.put, List.setIfInBounds_toArray, List.set_cons_zero, List.set_cons_succ])
        (first | (refine wpAnyH_take (i := 11) (oi := ⟨_, _, _, _, _, _⟩) (v := ?_) rfl (by kernel_rfl) (by kernel_rfl) (by kernel_rfl) (fun _ _ _ h => h) (Or.inl ⟨by rfl, ?_⟩) (by assumption) ?_; rotate_left 1; (· (intro w0 hSw; (try dsimp only at hSw); go_simp; (try with_reducible rfl)))) | (refine wpAnyH_take (i := 11) (oi := ⟨_, _, _, _, _, _⟩) (v := undef) rfl (by kernel_rfl) (by kernel_rfl) (by kernel_rfl) (fun _ _ _ h => h) (Or.inr ⟨by rfl, rfl⟩) (by assumption) ?_)); (try simp only [Act.put, List.setIfInBounds_toArray, List.set_cons_zero, List.set_cons_succ])
        (first | (refine wpAnyH_take (i := 12) (oi := ⟨_, _, _, _, _, _⟩) (v := ?_) rfl (by kernel_rfl) (by kernel_rfl) (by kernel_rfl) (fun _ _ _ h => h) (Or.inl ⟨by rfl, ?_⟩) (by assumption) ?_; rotate_left 1; (· (intro w0 hSw; (try dsimp only at hSw); go_simp; (try with_reducible rfl)))) | (refine wpAnyH_take (i := 12) (oi := ⟨_, _, _, _, _, _⟩) (v := undef) rfl (by kernel_rfl) (by kernel_rfl) (by kernel_rfl) (fun _ _ _ h => h) (Or.inr ⟨by rfl, rfl⟩) (by assumption) ?_)); (try simp only [Act.put, List.setIfInBounds_toArray, List.set_cons_zero, List.set_cons_succ])
        refine wpAnyH_done (by kernel_rfl) ?_ _
        have hbz := hHeld.2.2.2
        have hrw := ownsRow_keep HO5.out hbz
        have HR2 := Lib.hid hrw
        clear hrw
        have hex3 : (str t).extract (H.length + 1) t.length = str (restL t) := extract_app2 HH.out
        go_wp2
        go_roundw
        case rel => exact ⟨pre ++ [X], restL t, k', rfl, by simp, by simpa using HR2.out, by simpa using h100, hk', by omega, HPe.out, by (repeat (first | exact Below.refl _ _ | refine Below.drew ?_ | refine Below.allocS ?_ _ | refine Below.step ?_ (by assumption) | refine Below.setCell ?_ (by simp <;> omega) _ | refine Below.drewN' ?_ _))⟩
        case measure => simp [sLen, size_str]; omega
end Go.Proofs.YtimbdnngeoccdaaGreatDoor
