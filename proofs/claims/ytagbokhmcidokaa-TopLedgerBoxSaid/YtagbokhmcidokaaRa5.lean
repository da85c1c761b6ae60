/-
  Weekly rates; the numbers of a list as an iterator.
-/
import Derived.Test.YtagbokhmcidokaaRa4
namespace Go.Proofs.Ytagbokhmcidokaa
open Go.RowKit Go.Deep Go.Shelf
attribute [local go_sem] Oper.semAt_some
set_option linter.unusedVariables false
set_option linter.unusedSimpArgs false
set_option maxHeartbeats 2000000 in
set_option maxRecDepth 100000 in
theorem Weekly_c (l : List Int) (A : Option Addr) (cap : Nat) (hok : okErr l = true) (hpos : (dif l 7).length ≠ 0) (w : World) (hr : RdL w w.heap.size inE 1 A l) :
    Calls Try.prog 83 #[.agg #[.string ⟨#[97]⟩, .slice A l.length cap]] w (Daily w (dif l 7)) := by
  obtain ⟨h1, h2, -⟩ := okErr_parts hok
  have HV := Lib.hid (fun W (hb : Below w.heap.size w W) => ValidBox_c l A cap (by omega) W (hr.step hb))
  rw [hok] at HV
  obtain ⟨b, off, rfl, hb, hc⟩ := rd_cells hr (by omega)
  have HD := Lib.hid (fun W => differences_c l (some ⟨b, off, none⟩) l.length cap 7 W)
  have HC := Lib.hid (fun (W : World) (b1 b2 : Nat) (hbW : Below w.heap.size w W) c1 c2 => CollectDif_c l cap 7 (by omega) (by omega) (okErr_mil hok) b off b1 b2 W (by have := hbW.size; omega) (fun i hi => keep_cell hbW (hc i hi)) c1 c2)
  clear hok hr hc
  generalize dif l 7 = D at *
  generalize l.length = m at *
  go_enter Try.func83, Try.ntmps83
  go_wp2_with fail
  refine (HV.out _ (by (repeat (first | (with_reducible exact Below.refl _ _) | (with_reducible assumption) | (with_reducible refine Below.drew ?_) | (with_reducible refine Below.allocS ?_ _) | (with_reducible refine Below.setCell ?_ ?_ _) | (with_reducible refine Below.step ?_ (by assumption)) | (with_reducible refine Below.drewN' ?_ _))); (try any_goals (first | (with_reducible assumption) | (simp; done) | (simp; omega) | omega)))).mono ?_
  rintro e w1 ⟨rfl, hb1⟩
  have d1 : w1.cell? ⟨w.heap.size, 1, none⟩ = some (.slice (some ⟨b, off, none⟩) m cap) := keep_cell hb1 (by simp [go_sem])
  have hbw : Below w.heap.size w w1 := Below.step (by (repeat (first | (with_reducible exact Below.refl _ _) | (with_reducible assumption) | (with_reducible refine Below.drew ?_) | (with_reducible refine Below.allocS ?_ _) | (with_reducible refine Below.setCell ?_ ?_ _) | (with_reducible refine Below.step ?_ (by assumption)) | (with_reducible refine Below.drewN' ?_ _))); (try any_goals (first | (with_reducible assumption) | (simp; done) | (simp; omega) | omega))) hb1
  clear hb1
  go_wp2_with fail
  refine (HD.out _).mono ?_
  rintro e w2 ⟨rfl, rfl⟩
  have HC2 := Lib.hid (HC.out ((w1.alloc (.cells #[.slice (some ⟨b, off, none⟩) m cap] 24)).alloc (.cells #[.int .i64 7] 3)) (w1.heap.size + 1) w1.heap.size (by (repeat (first | (with_reducible exact Below.refl _ _) | (with_reducible assumption) | (with_reducible refine Below.drew ?_) | (with_reducible refine Below.allocS ?_ _) | (with_reducible refine Below.setCell ?_ ?_ _) | (with_reducible refine Below.step ?_ (by assumption)) | (with_reducible refine Below.drewN' ?_ _))); (try any_goals (first | (with_reducible assumption) | (simp; done) | (simp; omega) | omega))) (by simp [go_sem]) (by simp [go_sem]))
  have hb2 : Below w1.heap.size w1 ((w1.alloc (.cells #[.slice (some ⟨b, off, none⟩) m cap] 24)).alloc (.cells #[.int .i64 7] 3)) := by (repeat (first | (with_reducible exact Below.refl _ _) | (with_reducible assumption) | (with_reducible refine Below.drew ?_) | (with_reducible refine Below.allocS ?_ _) | (with_reducible refine Below.setCell ?_ ?_ _) | (with_reducible refine Below.step ?_ (by assumption)) | (with_reducible refine Below.drewN' ?_ _))); (try any_goals (first | (with_reducible assumption) | (simp; done) | (simp; omega) | omega))
  generalize ((w1.alloc (.cells #[.slice (some ⟨b, off, none⟩) m cap] 24)).alloc (.cells #[.int .i64 7] 3)) = w3 at *
  go_wp2_with fail
  refine (HC2.out).mono ?_
  rintro e w4 ⟨A4, c4, rfl, h4, hb4⟩
  have hz : ((D.length : Int) == 0) = false := by rw [beq_eq_false_iff_ne]; omega
  go_wp2
  refine bodyPost_ret (v := .tuple #[.slice A4 D.length c4, .int .i64 0]) (by simp [results, Try.results83, go_sem, *] <;> (repeat' apply And.intro) <;> rfl) rfl ⟨A4, c4, rfl, h4, Below.step (Below.step hbw hb2) hb4⟩
theorem Values_c (A : Option Addr) (n cap : Nat) (w : World) : Calls Try.prog 85 #[.slice A n cap] w fun e w' => e = .returned (.func (.func 125) #[] #[.pointer (some ⟨w.heap.size, 0, none⟩)]) ∧ w.alloc (.cells #[.slice A n cap] 24) = w' := by
  go_enter Try.func85, Try.ntmps85
  go_wp2
  go_ret
  exact ⟨rfl, rfl⟩
set_option maxHeartbeats 2000000 in
set_option maxRecDepth 100000 in
theorem values_seq (l : List Int) (cap : Nat) (hl : l.length ≤ 100000) (b off b1 : Nat) (K : Nat → Prop) (hK : K b) (w : World) (hb : b < w.heap.size)
    (hc : ∀ i, i < l.length → w.cell? ⟨b, off + i, none⟩ = some (.int .i64 (l.getD i 0))) (c1 : w.cell? ⟨b1, 0, none⟩ = some (.slice (some ⟨b, off, none⟩) l.length cap)) :
    SeqS Try.prog 125 #[.pointer (some ⟨b1, 0, none⟩)] (fun x : Int => #[.int .i64 x]) (fun xs => xs = l) (fun pre => pre <+: l) K (fun _ => False) w := by
  intro nn l0 J Jx W hW hJ hJx hJo hY hj0
  refine callsIn_of_wp Try.func125 rfl trivial ?_ rfl
  simp only [Try.ntmps125, List.size_toArray, List.length_cons, List.length_nil, Nat.reduceAdd, Nat.reduceSub, Array.replicate_succ, Array.replicate_zero, List.push_toArray, List.append_toArray, List.nil_append, List.cons_append]
  have k1 := keep_cell hW c1
  have kb : b < W.heap.size := by have := hW.size; omega
  have kc : ∀ i, i < l.length → W.cell? ⟨b, off + i, none⟩ = some (.int .i64 (l.getD i 0)) := fun i h => keep_cell hW (hc i h)
  have HC := Lib.hid kc
  have HY := Lib.hid hY
  clear hY hJ hJx hJo hc c1 kc
  gi_wp2
  gi_loopw [7] (fun i wr => ∃ (k : Nat), i = .int .i64 k ∧ k ≤ l.length ∧ KT K W wr ∧ J (l.take k) wr) (fun i _ => 200000 - (intOf i).toNat)
  case atStart => exact ⟨0, rfl, Nat.zero_le _, KT.refl _ _, hj0⟩
  case round =>
    obtain ⟨k, rfl, hk, hkt, hj⟩ := hrel
    by_cases hlt : k < l.length
    · have hst : l.take (k + 1) = l.take k ++ [l.getD k 0] := by
        rw [List.take_add_one, List.getElem?_eq_getElem hlt, List.getD_eq_getElem?_getD, List.getElem?_eq_getElem hlt]; rfl
      have HS := Lib.hid hst
      have e1 : wr.cell? ⟨b, off + k, none⟩ = some (.int .i64 (l.getD k 0)) := (World.cell?_of_block (a := ⟨b, off + k, none⟩) (hkt.block b kb hK)).trans (HC.out k hlt)
      obtain ⟨fn, tmps, assign, body, hy, hR⟩ := HY.out (l.take k) (l.getD k 0) wr hj (by rw [← hst]; exact List.take_prefix _ _)
      (try dsimp only at hy)
      have HR := Lib.hid hR
      clear hR hst
      generalize l.getD k 0 = x at *
      have u1 : (0 : Int) ≤ (k : Int) := by omega
      have u2 : (k : Int) < (l.length : Int) := by omega
      gi_wp2
      refine HR.out.mono ?_
      rintro e W3 (⟨rfl, hJ3, hk3⟩ | ⟨rfl, hJx3⟩)
      · gi_wp2
        go_roundw
        case rel => exact ⟨k + 1, by go_num, hlt, hkt.trans hk3, by rw [HS.out]; exact hJ3⟩
        case measure => simp [intOf]; omega
      · gi_wp2
        refine bodyPost_ret (results_none rfl _ _ _) rfl ?_
        exact ⟨⟨_, rfl⟩, .inr ⟨_, by rw [← HS.out]; exact List.take_prefix _ _, hJx3⟩⟩
    · obtain rfl : k = l.length := by omega
      rw [List.take_length] at hj
      gi_wp2
      go_end0
      exact ⟨⟨_, rfl⟩, .inl ⟨_, rfl, hj⟩⟩
end Go.Proofs.Ytagbokhmcidokaa
