/-
  strings.SplitSeq at a blank: the closure, and what its iterator hands on.
-/
import Derived.Test.YtimbdnngeoccdaaDoorRgN
import Derived.Test.YtimbdnngeoccdaaDoorLn
import Derived.Test.YtimbdnngeoccdaaDoorTx3
namespace Go.Proofs.YtimbdnngeoccdaaDoor
open Go.RowKit Go.Shelf
attribute [local go_sem] Oper.semAt_some
set_option linter.unusedVariables false
set_option linter.unusedSimpArgs false
theorem splitSeq_c (s : List UInt8) (w : World) : Calls Tryd.prog 63 #[.string (str s), .string ⟨#[32]⟩, .int .i64 0] w fun e w' => e = .returned (.func (.func 90) #[] #[.pointer (some ⟨w.heap.size + 1, 0, none⟩), .pointer (some ⟨w.heap.size, 0, none⟩), .pointer (some ⟨w.heap.size + 1 + 1, 0, none⟩)]) ∧ ((w.alloc (.cells #[.string (str s)] 9)).alloc (.cells #[.string ⟨#[32]⟩] 9)).alloc (.cells #[.int .i64 0] 3) = w' := by
  go_enter Tryd.func63, Tryd.ntmps63
  go_wp2
  go_ret
  exact ⟨rfl, rfl⟩
theorem SplitSeq_c (s : List UInt8) (w : World) : Calls Tryd.prog 36 #[.string (str s), .string ⟨#[32]⟩] w fun e w' => e = .returned (.func (.func 90) #[] #[.pointer (some ⟨w.heap.size + 1, 0, none⟩), .pointer (some ⟨w.heap.size, 0, none⟩), .pointer (some ⟨w.heap.size + 1 + 1, 0, none⟩)]) ∧ ((w.alloc (.cells #[.string (str s)] 9)).alloc (.cells #[.string ⟨#[32]⟩] 9)).alloc (.cells #[.int .i64 0] 3) = w' := by
  have H := Lib.hid (splitSeq_c s w)
  go_enter Tryd.func36, Tryd.ntmps36
  go_wp2_with fail
  refine (H.out).mono ?_
  rintro e w1 ⟨rfl, rfl⟩
  go_wp2
  go_ret
  exact ⟨rfl, rfl⟩
theorem index_l (l : List UInt8) (hl : l.length ≤ 100000) (m : Int) (W : World) (hm : W.cell? ⟨2, 0, none⟩ = some (.int .i64 m)) :
    Calls Tryd.prog 75 #[.string (str l), .string ⟨#[32]⟩] W fun e w' => e = .returned (.int .i64 (Lib.indexByte l 32)) ∧ W = w' := by
  refine (Tryd.strings_Index (str l) ⟨#[32]⟩ m W (by rw [size_str]; omega) hm).mono ?_
  rintro e w' ⟨rfl, rfl⟩
  refine ⟨?_, rfl⟩
  rw [str_data]
  show Ending.returned (.int .i64 (Lib.index l [32])) = _
  rw [index_byte]
set_option maxHeartbeats 2000000 in
set_option maxRecDepth 100000 in
theorem Split_seq (s : List UInt8) (hs : s.length ≤ 100000) (b b2 b3 : Nat) (K : Nat → Prop) (hK : K b) (hK2 : K b2) (hK3 : K b3) (hK4 : K 2) (hb2 : b ≠ b2) (hb3 : b ≠ b3) (hb4 : b ≠ 2) (w : World) (c0 : w.cell? ⟨b, 0, none⟩ = some (.string (str s))) (f0 : w.frozen? ⟨b, 0, none⟩ = false)
    (c2 : w.cell? ⟨b2, 0, none⟩ = some (.string ⟨#[32]⟩)) (c3 : w.cell? ⟨b3, 0, none⟩ = some (.int .i64 0)) (m : Int) (c4 : w.cell? ⟨2, 0, none⟩ = some (.int .i64 m)) :
    SeqS Tryd.prog 90 #[.pointer (some ⟨b2, 0, none⟩), .pointer (some ⟨b, 0, none⟩), .pointer (some ⟨b3, 0, none⟩)] (fun x : List UInt8 => #[.string (str x)]) (fun xs => xs = pieces 32 s) (fun pre => pre <+: pieces 32 s) K (fun k => k = b) w := by
  intro nn l0 J Jx W hW hJ hJx hJo hY hj0
  refine callsIn_of_wp Tryd.func90 rfl trivial ?_ rfl
  simp only [Tryd.ntmps90, List.size_toArray, List.length_cons, List.length_nil, Nat.reduceAdd, Nat.reduceSub, Array.replicate_succ, Array.replicate_zero, List.push_toArray, List.append_toArray, List.nil_append, List.cons_append]
  have k0 := keep_cell hW c0
  have g0 := keep_frozen hW (cell?_lt c0) f0
  have k2 := keep_cell hW c2
  have k3 := keep_cell hW c3
  have k4 := keep_cell hW c4
  have HY := Lib.hid hY
  have HJ := Lib.hid hJ
  have HJo := Lib.hid hJo
  clear hY hJ hJx hJo c0 f0 c2 c3 c4 hW
  gi_wp2
  gi_loopw [] (fun wr => ∃ (pre : List (List UInt8)) (t : List UInt8), wr.cell? ⟨b, 0, none⟩ = some (.string (str t)) ∧ wr.frozen? ⟨b, 0, none⟩ = false ∧ wr.cell? ⟨b2, 0, none⟩ = some (.string ⟨#[32]⟩) ∧ wr.cell? ⟨b3, 0, none⟩ = some (.int .i64 0) ∧ wr.cell? ⟨2, 0, none⟩ = some (.int .i64 m) ∧ t.length ≤ 100000 ∧ pieces 32 s = pre ++ pieces 32 t ∧ J pre wr) (fun wr => cellLen wr b)
  case atStart => exact ⟨[], s, k0, g0, k2, k3, k4, hs, rfl, hj0⟩
  case round =>
    obtain ⟨pre, t, c1, f1, c2, c3, c4, ht, hst, hj⟩ := hrel
    have HS := Lib.hid hst
    clear hst k0 g0 k2 k3 k4
    have yb : b < wr.heap.size := cell?_lt c1
    have yb2 : b2 < wr.heap.size := cell?_lt c2
    have yb3 : b3 < wr.heap.size := cell?_lt c3
    have yb4 : 2 < wr.heap.size := cell?_lt c4
    have hsz : (str t).size = t.length := size_str t
    rcases find_byte 32 t with ⟨hix, hno⟩ | ⟨a, r, hta, hno, hix⟩
    · have HI := Lib.hid (index_l t ht m wr c4)
      rw [hix] at HI
      have hl1 : pieces 32 t = [t] := pieces_none 32 t hno
      obtain ⟨fn, tmps, assign, body, hy, hR⟩ := HY.out pre t wr hj ⟨[], by rw [HS.out, hl1]; simp⟩
      (try dsimp only at hy)
      have HR := Lib.hid hR
      clear hR
      have HS2 := Lib.hid (HS.out.trans (by rw [hl1]))
      clear hl1 HS hix hno
      gi_wp2_with fail
      refine ⟨trivial, (callsIn_wide.2 (HI.out)).mono ?_⟩
      rintro e w1 ⟨rfl, rfl⟩
      gi_wp2
      refine HR.out.mono ?_
      rintro e W3 (⟨rfl, hJ3, hk3⟩ | ⟨rfl, hJx3⟩)
      · gi_wp2
        go_end0
        exact ⟨⟨_, rfl⟩, .inl ⟨_, HS2.out.symm, hJ3⟩⟩
      · gi_wp2
        go_end0
        exact ⟨⟨_, rfl⟩, .inr ⟨_, ⟨[], by rw [HS2.out]; simp⟩, hJx3⟩⟩
    · have HI := Lib.hid (index_l t ht m wr c4)
      rw [hix] at HI
      have hl1 : pieces 32 t = a :: pieces 32 r := by rw [hta]; exact pieces_app 32 r a hno
      have hx1 : (str t).extract 0 a.length = str a := extract_app hta
      have hx2 : (str t).extract (a.length + 1) t.length = str r := extract_app2 hta
      have hlen : a.length + 1 + r.length = t.length := by rw [hta]; simp; omega
      have HS2 := Lib.hid (HS.out.trans (by rw [hl1]))
      have hd1 : decide ((a.length : Int) < 0) = false := decide_eq_false (by omega)
      have hn1 : (0 : Int) ≤ (a.length : Int) + 1 := by omega
      have hn2 : (a.length : Int) + 1 ≤ (t.length : Int) := by omega
      have hn3 : (0 : Int) ≤ (a.length : Int) := by omega
      have hn4 : (a.length : Int) ≤ (t.length : Int) := by omega
      have hsum : IntKind.i64.wrap ((a.length : Int) + 1) = (a.length : Int) + 1 := IntWalk.i64_in _ (by omega)
      have hsum0 : IntKind.i64.wrap ((a.length : Int)) = (a.length : Int) := IntWalk.i64_in _ (by omega)
      obtain ⟨fn, tmps, assign, body, hy, hR⟩ := HY.out pre a wr hj ⟨pieces 32 r, by rw [HS2.out]; simp⟩
      (try dsimp only at hy)
      have HR := Lib.hid hR
      clear hR hl1 HS hix hno hta
      gi_wp2_with fail
      refine ⟨trivial, (callsIn_wide.2 (HI.out)).mono ?_⟩
      rintro e w1 ⟨rfl, rfl⟩
      gi_wp2
      refine HR.out.mono ?_
      rintro e W3 (⟨rfl, hJ3, hk3⟩ | ⟨rfl, hJx3⟩)
      · have d1 : W3.cell? ⟨b, 0, none⟩ = some (.string (str t)) := (World.cell?_of_block (a := ⟨b, 0, none⟩) (hk3.block b yb hK)).trans c1
        have e1 : W3.frozen? ⟨b, 0, none⟩ = false := (World.frozen?_of_block (a := ⟨b, 0, none⟩) (hk3.block b yb hK)).trans f1
        have d2 : W3.cell? ⟨b2, 0, none⟩ = some (.string ⟨#[32]⟩) := (World.cell?_of_block (a := ⟨b2, 0, none⟩) (hk3.block b2 yb2 hK2)).trans c2
        have d3 : W3.cell? ⟨b3, 0, none⟩ = some (.int .i64 0) := (World.cell?_of_block (a := ⟨b3, 0, none⟩) (hk3.block b3 yb3 hK3)).trans c3
        have d4 : W3.cell? ⟨2, 0, none⟩ = some (.int .i64 m) := (World.cell?_of_block (a := ⟨2, 0, none⟩) (hk3.block _ yb4 hK4)).trans c4
        have HJ3 := Lib.hid (HJo.out _ _ ⟨b, 0, none⟩ (.string (str r)) rfl hJ3)
        have hb2' := Ne.symm hb2
        have hb3' := Ne.symm hb3
        have hb4' := Ne.symm hb4
        clear hJ3 hk3
        gi_wp2
        go_roundw
        case rel => exact ⟨pre ++ [a], r, by simp [go_sem, *], by simp [go_sem, *], by simp [go_sem, *], by simp [go_sem, *], by simp [go_sem, *], by omega, by rw [HS2.out]; simp, HJ3.out⟩
        case measure =>
          have e5 : (W3.setCell ⟨b, 0, none⟩ (.string (str r))).cell? ⟨b, 0, none⟩ = some (.string (str r)) := by simp [go_sem, *]
          simp [cellLen, e5, c1, hsz, size_str]; omega
      · gi_wp2
        refine bodyPost_ret (results_none rfl _ _ _) rfl ?_
        exact ⟨⟨_, rfl⟩, .inr ⟨_, ⟨pieces 32 r, by rw [HS2.out]; simp⟩, hJx3⟩⟩
end Go.Proofs.YtimbdnngeoccdaaDoor
