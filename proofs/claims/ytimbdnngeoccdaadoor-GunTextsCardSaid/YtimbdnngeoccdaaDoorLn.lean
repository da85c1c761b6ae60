/-
  strings.Lines: the lines of a text, and what its iterator hands on.
-/
import Derived.Test.YtimbdnngeoccdaaDoorRgS
import Derived.Test.YtimbdnngeoccdaaDoorTb2
import Derived.Test.YtimbdnngeoccdaaDoorQt
import Derived.IntWalk
namespace Go.Proofs.YtimbdnngeoccdaaDoor
open Go.RowKit Go.Shelf
attribute [local go_sem] Oper.semAt_some
set_option linter.unusedVariables false
set_option linter.unusedSimpArgs false
/-- The lines of a text, each with its end. -/
def lns : List UInt8 → List (List UInt8)
  | [] => []
  | b :: l => if b = 10 then [10] :: lns l else match lns l with
    | [] => [[b]]
    | x :: t => (b :: x) :: t
theorem lns_app (r : List UInt8) : ∀ a : List UInt8, (10 : UInt8) ∉ a → lns (a ++ 10 :: r) = (a ++ [10]) :: lns r
  | [], _ => by simp [lns]
  | b :: a, h => by
    have h1 : b ≠ 10 := fun e => h (e ▸ List.mem_cons_self ..)
    rw [List.cons_append]
    conv => lhs; unfold lns
    rw [if_neg h1, lns_app r a (fun e => h (List.mem_cons_of_mem _ e))]
    rfl
theorem lns_one : ∀ a : List UInt8, a ≠ [] → (10 : UInt8) ∉ a → lns a = [a]
  | [], h, _ => absurd rfl h
  | [b], _, h => by
    have h1 : b ≠ 10 := fun e => h (e ▸ List.mem_cons_self ..)
    simp [lns, h1]
  | b :: c :: a, _, h => by
    have h1 : b ≠ 10 := fun e => h (e ▸ List.mem_cons_self ..)
    conv => lhs; unfold lns
    rw [if_neg h1, lns_one (c :: a) (by simp) (fun e => h (List.mem_cons_of_mem _ e))]
/-- What Lines makes: the closure, with the text in a cell. -/
theorem Lines_c (s : List UInt8) (w : World) : Calls Tryd.prog 21 #[.string (str s)] w fun e w' => e = .returned (.func (.func 47) #[] #[.pointer (some ⟨w.heap.size, 0, none⟩)]) ∧ w' = w.alloc (.cells #[.string (str s)] 9) := by
  go_enter Tryd.func21, Tryd.ntmps21
  go_wp2
  go_ret
  exact ⟨rfl, rfl⟩
theorem indexB_l (l : List UInt8) (w : World) : Calls Tryd.prog 27 #[.string (str l), .int .u8 10] w fun e w' => e = .returned (.int .i64 (Lib.indexByte l 10)) ∧ w = w' := by
  refine (Tryd.strings_IndexByte (str l) 10 w).mono ?_
  rintro e w' ⟨rfl, rfl⟩
  exact ⟨by rw [str_data]; rfl, rfl⟩
def strLen : Value → Nat
  | .string b => b.size
  | _ => 0
def cellLen (w : World) (b : Nat) : Nat := match w.cell? ⟨b, 0, none⟩ with
  | some (.string s) => s.size
  | _ => 0
theorem ex_app {t h r : List UInt8} {c : UInt8} (e : t = h ++ c :: r) : (str t).extract 0 (h.length + 1) = str (h ++ [c]) ∧ (str t).extract (h.length + 1) t.length = str r := by
  subst e
  have e2 : h ++ c :: r = (h ++ [c]) ++ r := by simp
  refine ⟨?_, ?_⟩
  · rw [extract_str, e2, List.drop_zero, Nat.sub_zero, List.take_left' (by simp)]
  · rw [extract_str, e2, List.drop_left' (by simp), List.take_of_length_le (by simp; omega)]
set_option maxHeartbeats 2000000 in
set_option maxRecDepth 100000 in
theorem Lines_seq (s : List UInt8) (hs : s.length ≤ 100000) (b : Nat) (K : Nat → Prop) (hK : K b) (w : World) (c0 : w.cell? ⟨b, 0, none⟩ = some (.string (str s))) (f0 : w.frozen? ⟨b, 0, none⟩ = false) :
    SeqS Tryd.prog 47 #[.pointer (some ⟨b, 0, none⟩)] (fun x : List UInt8 => #[.string (str x)]) (fun xs => xs = lns s) (fun pre => pre <+: lns s) K (fun k => k = b) w := by
  intro nn l0 J Jx W hW hJ hJx hJo hY hj0
  refine callsIn_of_wp Tryd.func47 rfl trivial ?_ rfl
  simp only [Tryd.ntmps47, List.size_toArray, List.length_cons, List.length_nil, Nat.reduceAdd, Nat.reduceSub, Array.replicate_succ, Array.replicate_zero, List.push_toArray, List.append_toArray, List.nil_append, List.cons_append]
  have k0 := keep_cell hW c0
  have g0 := keep_frozen hW (cell?_lt c0) f0
  have HY := Lib.hid hY
  have HJ := Lib.hid hJ
  have HJo := Lib.hid hJo
  clear hY hJ hJx hJo c0 f0 hW
  gi_wp2
  gi_loopw [] (fun wr => ∃ (pre : List (List UInt8)) (t : List UInt8), wr.cell? ⟨b, 0, none⟩ = some (.string (str t)) ∧ wr.frozen? ⟨b, 0, none⟩ = false ∧ t.length ≤ 100000 ∧ lns s = pre ++ lns t ∧ J pre wr) (fun wr => cellLen wr b)
  case atStart => exact ⟨[], s, k0, g0, hs, rfl, hj0⟩
  case round =>
    obtain ⟨pre, t, c1, f1, ht, hst, hj⟩ := hrel
    have HS := Lib.hid hst
    clear hst k0 g0
    have yb : b < wr.heap.size := cell?_lt c1
    have hsz : (str t).size = t.length := size_str t
    by_cases ht0 : t = []
    · subst ht0
      have hz : decide (((str []).size : Int) > 0) = false := rfl
      gi_wp2
      go_end0
      exact ⟨⟨_, rfl⟩, .inl ⟨pre, by rw [HS.out]; simp [lns], hj⟩⟩
    have hpos : 0 < t.length := List.length_pos_iff.2 ht0
    have hd : decide ((0 : Int) < (t.length : Int)) = true := decide_eq_true (by omega)
    have hd' : decide (0 < t.length) = true := decide_eq_true hpos
    rcases find_byte 10 t with ⟨hix, hno⟩ | ⟨a, r, hta, hno, hix⟩
    · have HI := Lib.hid (fun W => indexB_l t W)
      rw [hix] at HI
      have hl1 : lns t = [t] := lns_one t ht0 hno
      obtain ⟨fn, tmps, assign, body, hy, hR⟩ := HY.out pre t (wr.setCell ⟨b, 0, none⟩ (.string { data := #[] })) (HJo.out _ _ ⟨b, 0, none⟩ _ rfl hj) ⟨[], by rw [HS.out, hl1]; simp⟩
      (try dsimp only at hy)
      have HR := Lib.hid hR
      clear hR
      have HS2 := Lib.hid (HS.out.trans (by rw [hl1]))
      clear hl1 HS hix hno
      gi_wp2_with fail
      refine ⟨trivial, (callsIn_wide.2 (HI.out _)).mono ?_⟩
      rintro e w1 ⟨rfl, rfl⟩
      gi_wp2
      refine HR.out.mono ?_
      rintro e W3 (⟨rfl, hJ3, hk3⟩ | ⟨rfl, hJx3⟩)
      · have c3 : W3.cell? ⟨b, 0, none⟩ = some (.string (str [])) := (World.cell?_of_block (a := ⟨b, 0, none⟩) (hk3.block b (by simpa using yb) hK)).trans (by simp [go_sem, *]; rfl)
        have f3 : W3.frozen? ⟨b, 0, none⟩ = false := (World.frozen?_of_block (a := ⟨b, 0, none⟩) (hk3.block b (by simpa using yb) hK)).trans (by simp [go_sem, *])
        gi_wp2
        go_roundw
        case rel => exact ⟨pre ++ [t], [], c3, f3, by simp, by rw [HS2.out]; simp [lns], hJ3⟩
        case measure => simp [cellLen, c3, c1, hsz, size_str]; exact hpos
      · gi_wp2
        refine bodyPost_ret (results_none rfl _ _ _) rfl ?_
        exact ⟨⟨_, rfl⟩, .inr ⟨_, ⟨[], by rw [HS2.out]; simp⟩, hJx3⟩⟩
    · have HI := Lib.hid (fun W => indexB_l t W)
      rw [hix] at HI
      have hl1 : lns t = (a ++ [10]) :: lns r := by rw [hta]; exact lns_app r a hno
      obtain ⟨hx1, hx2⟩ := ex_app hta
      have hlen : a.length + 1 + r.length = t.length := by rw [hta]; simp; omega
      have HS2 := Lib.hid (HS.out.trans (by rw [hl1]))
      have hd1 : decide ((0 : Int) ≤ (a.length : Int)) = true := decide_eq_true (by omega)
      have hn1 : (0 : Int) ≤ (a.length : Int) + 1 := by omega
      have hn2 : (a.length : Int) + 1 ≤ (t.length : Int) := by omega
      have hsum : IntKind.i64.wrap ((a.length : Int) + 1) = (a.length : Int) + 1 := IntWalk.i64_in _ (by omega)
      clear hl1 HS hix hno hta
      gi_wp2_with fail
      refine ⟨trivial, (callsIn_wide.2 (HI.out _)).mono ?_⟩
      rintro e w1 ⟨rfl, rfl⟩
      gi_wp2
      refine wpIn_wide.2 ?_
      refine region_below_tail 9 (by kernel_rfl) (by kernel_rfl) ?_; simp only [List.take_succ_cons, List.take_zero, List.drop_succ_cons, List.drop_zero]
      (first | go_big_quiet_skip | (go_big_quiet_want; refine quiet_val (v := ?_) ?_ ?_; rotate_left 1; (· (intro Wq hWq; obtain ⟨hWc, hWf⟩ := bcell hWq; go_simp; (try with_reducible rfl))); go_big_quiet_on; (try simp only [Act.put, List.setIfInBounds_toArray, List.set_cons_zero, List.set_cons_succ])))
      (first | go_big_quiet_skip | (go_big_quiet_want; refine quiet_val (v := ?_) ?_ ?_; rotate_left 1; (· (intro Wq hWq; obtain ⟨hWc, hWf⟩ := bcell hWq; go_simp; (try with_reducible rfl))); go_big_quiet_on; (try simp only [Act.put, List.setIfInBounds_toArray, List.set_cons_zero, List.set_cons_succ])))
      (first | go_big_quiet_skip | (go_big_quiet_want; refine quiet_val (v := ?_) ?_ ?_; rotate_left 1; (· (intro Wq hWq; obtain ⟨hWc, hWf⟩ := bcell hWq; go_simp; (try with_reducible rfl))); go_big_quiet_on; (try simp only [Act.put, List.setIfInBounds_toArray, List.set_cons_zero, List.set_cons_succ])))
      (first | go_big_quiet_skip | (go_big_quiet_want; refine quiet_val (v := ?_) ?_ ?_; rotate_left 1; (· (intro Wq hWq; obtain ⟨hWc, hWf⟩ := bcell hWq; go_simp; (try with_reducible rfl))); go_big_quiet_on; (try simp only [Act.put, List.setIfInBounds_toArray, List.set_cons_zero, List.set_cons_succ])))
      (first | go_big_quiet_skip | (go_big_quiet_want; refine quiet_val (v := ?_) ?_ ?_; rotate_left 1; (· (intro Wq hWq; obtain ⟨hWc, hWf⟩ := bcell hWq; go_simp; (try with_reducible rfl))); go_big_quiet_on; (try simp only [Act.put, List.setIfInBounds_toArray, List.set_cons_zero, List.set_cons_succ])))
      (first | go_big_quiet_skip | (go_big_quiet_want; refine quiet_val (v := ?_) ?_ ?_; rotate_left 1; (· (intro Wq hWq; obtain ⟨hWc, hWf⟩ := bcell hWq; go_simp; (try with_reducible rfl))); go_big_quiet_on; (try simp only [Act.put, List.setIfInBounds_toArray, List.set_cons_zero, List.set_cons_succ])))
      (first | go_big_quiet_skip | (go_big_quiet_want; refine quiet_val (v := ?_) ?_ ?_; rotate_left 1; (· (intro Wq hWq; obtain ⟨hWc, hWf⟩ := bcell hWq; go_simp; (try with_reducible rfl))); go_big_quiet_on; (try simp only [Act.put, List.setIfInBounds_toArray, List.set_cons_zero, List.set_cons_succ])))
      (first | go_big_quiet_skip | (go_big_quiet_want; refine quiet_val (v := ?_) ?_ ?_; rotate_left 1; (· (intro Wq hWq; obtain ⟨hWc, hWf⟩ := bcell hWq; go_simp; (try with_reducible rfl))); go_big_quiet_on; (try simp only [Act.put, List.setIfInBounds_toArray, List.set_cons_zero, List.set_cons_succ])))
      (first | go_big_quiet_skip | (go_big_quiet_want; refine quiet_val (v := ?_) ?_ ?_; rotate_left 1; (· (intro Wq hWq; obtain ⟨hWc, hWf⟩ := bcell hWq; go_simp; (try with_reducible rfl))); go_big_quiet_on; (try simp only [Act.put, List.setIfInBounds_toArray, List.set_cons_zero, List.set_cons_succ])))
      intro V hV
      have cV : V.cell? ⟨b, 0, none⟩ = some (.string (str t)) := keep_cell hV c1
      have fV : V.frozen? ⟨b, 0, none⟩ = false := keep_frozen hV yb f1
      have vb : b < V.heap.size := cell?_lt cV
      obtain ⟨fn, tmps, assign, body, hy, hR⟩ := HY.out pre (a ++ [10]) (V.setCell ⟨b, 0, none⟩ (.string (str r))) (HJo.out _ _ ⟨b, 0, none⟩ _ rfl (HJ.out _ _ _ hj hV)) ⟨lns r, by rw [HS2.out]; simp⟩
      (try dsimp only at hy)
      have HR := Lib.hid hR
      clear hR
      go_wp2
      gi_wp2
      refine HR.out.mono ?_
      rintro e W3 (⟨rfl, hJ3, hk3⟩ | ⟨rfl, hJx3⟩)
      · have c3 : W3.cell? ⟨b, 0, none⟩ = some (.string (str r)) := (World.cell?_of_block (a := ⟨b, 0, none⟩) (hk3.block b (by simpa using vb) hK)).trans (by simp [go_sem, *])
        have f3 : W3.frozen? ⟨b, 0, none⟩ = false := (World.frozen?_of_block (a := ⟨b, 0, none⟩) (hk3.block b (by simpa using vb) hK)).trans (by simp [go_sem, *])
        gi_wp2
        go_roundw
        case rel => exact ⟨pre ++ [a ++ [10]], r, c3, f3, by omega, by rw [HS2.out]; simp, hJ3⟩
        case measure => simp [cellLen, c3, c1, hsz, size_str]; omega
      · gi_wp2
        refine bodyPost_ret (results_none rfl _ _ _) rfl ?_
        exact ⟨⟨_, rfl⟩, .inr ⟨_, ⟨lns r, by rw [HS2.out]; simp⟩, hJx3⟩⟩
end Go.Proofs.YtimbdnngeoccdaaDoor
