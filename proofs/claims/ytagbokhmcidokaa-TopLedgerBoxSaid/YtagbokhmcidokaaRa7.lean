/-
  ends of values.
-/
import Derived.Test.YtagbokhmcidokaaRa6
import Derived.Test.YtagbokhmcidokaaQk
import Derived.TacticsInMore
namespace Go.Proofs.Ytagbokhmcidokaa
open Go.RowKit Go.Deep Go.Shelf
attribute [local go_sem] Oper.semAt_some
set_option linter.unusedVariables false
set_option linter.unusedSimpArgs false
theorem ends_end {R : Ending → World → Prop} {u v t0 t1 : Value} {Z : World} {b2 b3 : Nat} {tl : List Value} (D : Nat) (w : World) (hK : Z.heap[D]? = some (.deferred (some []))) (h2 : Z.cell? ⟨b2, 0, none⟩ = some u) (h3 : Z.cell? ⟨b3, 0, none⟩ = some v)
    (hR : R (.returned (.tuple #[u, v])) (Z.putObj D (.deferred none))) :
    bodyPostM Fence.wide 10 Try.prog Try.f84 R .ret { tmps := (t0 :: t1 :: .pointer (some ⟨b2, 0, none⟩) :: .pointer (some ⟨b3, 0, none⟩) :: tl).toArray, defers := [{ target := .collected D, args := #[] }] } Z := by
  have n2 : b2 ≠ D := fun h => by subst h; simp [World.cell?, hK] at h2
  have n3 : b3 ≠ D := fun h => by subst h; simp [World.cell?, hK] at h3
  have k2 : (Z.putObj D (.deferred none)).cell? ⟨b2, 0, none⟩ = some u := (World.cell?_of_block (a := ⟨b2, 0, none⟩) (World.putObj_heap_other n2)).trans h2
  have k3 : (Z.putObj D (.deferred none)).cell? ⟨b3, 0, none⟩ = some v := (World.cell?_of_block (a := ⟨b3, 0, none⟩) (World.putObj_heap_other n3)).trans h3
  refine ⟨by simp, .inl ⟨_, _, rfl, run_takeDeferred hK, ?_⟩⟩
  refine ⟨_, ?_, hR⟩
  simp [results, Try.results84, go_sem, k2, k3]
set_option maxHeartbeats 2000000 in
set_option maxRecDepth 100000 in
theorem ends_c (l : List Int) (cap : Nat) (hl : l.length ≤ 100000) (b off b1 : Nat) (p : Int × Int) (hes : es l = some p) (w : World) (hb : b < w.heap.size)
    (hc : ∀ i, i < l.length → w.cell? ⟨b, off + i, none⟩ = some (.int .i64 (l.getD i 0))) (c1 : w.cell? ⟨b1, 0, none⟩ = some (.slice (some ⟨b, off, none⟩) l.length cap)) :
    Calls Try.prog 84 #[.func (.func 125) #[] #[.pointer (some ⟨b1, 0, none⟩)]] w fun e w' => e = .returned (.tuple #[.int .i64 p.1, .int .i64 p.2]) ∧ Below w.heap.size w w' := by
  have y1 : b1 < w.heap.size := cell?_lt c1
  refine (callsIn_wide (n := 10)).1 ?_
  refine callsIn_of_wp_marks Try.func84 rfl trivial ?_ rfl
  simp only [Try.ntmps84, List.size_toArray, List.length_cons, List.length_nil, Nat.reduceAdd, Nat.reduceSub, Array.replicate_succ, Array.replicate_zero, List.push_toArray, List.append_toArray, List.nil_append, List.cons_append]
  refine wpIn_wide.2 ?_
  go_wp2
  obtain ⟨W0, hW0⟩ : ∃ W0, (((w.alloc (.cells #[.int .i64 0] 3)).alloc (.cells #[.int .i64 0] 3)).alloc (.cells #[.bool true] 4)) = W0 := ⟨_, rfl⟩
  rw [hW0]
  have sz : W0.heap.size = w.heap.size + 3 := by rw [← hW0]; simp
  have b0 : Below w.heap.size w W0 := by rw [← hW0]; (repeat (first | exact Below.refl _ _ | refine Below.drew ?_ | refine Below.allocS ?_ _ | refine Below.step ?_ (by assumption) | refine Below.setCell ?_ (by simp <;> omega) _ | refine Below.drewN' ?_ _))
  have i0 : EnJ w [] W0 := ⟨0, 0, true, ⟨by rw [← hW0]; simp [go_sem], by rw [← hW0]; simp [go_sem]⟩, ⟨by rw [← hW0]; simp [go_sem], by rw [← hW0]; simp [go_sem]⟩, ⟨by rw [← hW0]; simp [go_sem], by rw [← hW0]; simp [go_sem]⟩, rfl, b0⟩
  have HI0 := Lib.hid i0
  have HQ := Lib.hid (values_seq l cap hl b off b1 (fun k => k = b ∨ k = W0.heap.size ∨ k = W0.heap.size + 1) (.inl rfl) W0 (by omega) (fun i h => keep_cell b0 (hc i h)) (keep_cell b0 c1))
  clear hW0 i0 hc c1
  refine (wpIn_wide (n := 10)).1 ?_
  refine range_s (n := 8) (gf := 125) (lb := #[.pointer (some ⟨b1, 0, none⟩)]) rfl (enters_of Try.func125 (by kernel_rfl) rfl)
    HQ.out (fun b hb => hb.elim) (Below.refl _ _) (.inr (.inl rfl)) (.inr (.inr rfl)) (fun _ => rfl)
    (EnJ w) (fun _ _ _ => False) (fun s A A' h hb => h.keep hb) (fun c s A A' h hb => h) (fun s A o h => h.put (by omega) o) (fun c s A o h => h) (fun s A p u hp h => hp.elim) HI0.out
    (fun x a' X => a' = { tmps := #[.func (.func 125) #[] #[.pointer (some ⟨b1, 0, none⟩)], undef, .pointer (some ⟨w.heap.size, 0, none⟩), .pointer (some ⟨w.heap.size + 1, 0, none⟩), .pointer (some ⟨w.heap.size + 1 + 1, 0, none⟩), .int .i64 x, .func (.func 125) #[] #[.pointer (some ⟨b1, 0, none⟩)], .int .i64 x, undef, undef, undef, undef, undef, undef, undef, undef, undef, undef, undef], defers := [] })
    (fun x a' X q r o h hk => h)
    ?assign ?body ?done ?stop
  case assign =>
    intro l0 pre x X K hi hs hK
    gi_wp2
    exact hK _ _ (KT.refl _ _) hi rfl
  case body =>
    rintro l0 pre x a' W rfl ⟨r0, hr0⟩ ⟨lo, hi, fb, ⟨a1, a2⟩, ⟨b1', b2'⟩, ⟨c1', c2'⟩, hm, hbw⟩ rfl hSp
    have hmo : Try.prog.follows Departure.mixedOrders = true := by kernel_rfl
    have hW : W0.heap.size + 2 ≤ W.heap.size := by have := (Array.getElem?_eq_some_iff.1 hr0).1; omega
    have KTw : KT (fun k => k = b ∨ k = W0.heap.size ∨ k = W0.heap.size + 1) W W := KT.refl _ _
    have hkn : ∀ k, (k = w.heap.size ∨ k = w.heap.size + 1 ∨ k = w.heap.size + 1 + 1) → ¬ (k = b ∨ k = W0.heap.size ∨ k = W0.heap.size + 1) := fun k hk hk' => by omega
    clear hr0 hSp HI0 HQ
    cases he : es pre with
    | some q =>
      rw [he] at hm
      obtain ⟨rfl, rfl, rfl⟩ := hm
      have hes2 : es (pre ++ [x]) = some (if x < q.1 then x else q.1, if q.2 < x then x else q.2) := by rw [es_snoc, he]; rfl
      have HE2 := Lib.hid hes2
      clear he hes2
      gi_wp2
      refine round_any (by kernel_rfl) (by kernel_rfl) ?_
      -- TREE
      refine wpAnyIn_take (i := 1) (v := ?_) rfl rfl (by kernel_rfl) (by kernel_rfl) (by kernel_rfl) (fun _ _ _ h => h) ⟨Or.inl ⟨by rfl, ?_⟩, fun _ => rfl⟩ ?_; rotate_left 1
      · (intro wW; go_simp; (try with_reducible rfl))
      (try simp only [Act.put, List.setIfInBounds_toArray, List.set_cons_zero, List.set_cons_succ])
      refine wpAnyIn_take (i := 4) (v := ?_) rfl rfl (by kernel_rfl) (by kernel_rfl) (by kernel_rfl) (fun _ _ _ h => h) ⟨Or.inl ⟨by rfl, ?_⟩, fun _ => rfl⟩ ?_; rotate_left 1
      · (intro wW; go_simp; (try with_reducible rfl))
      (try simp only [Act.put, List.setIfInBounds_toArray, List.set_cons_zero, List.set_cons_succ])
      refine wpAnyIn_ready (rs := [0, 3]) (by kernel_rfl) (by simp) ?_
      refine (AllReadyIn.cons rfl (fun KK hKK => ?_) (AllReadyIn.cons rfl (fun KK hKK => ?_) AllReadyIn.nil))
      · go_simp
        refine hKK _ _ ?_; clear hKK KK
        refine wpAnyIn_take (i := 2) (v := ?_) rfl rfl (by kernel_rfl) (by kernel_rfl) (by kernel_rfl) (fun _ _ _ h => h) ⟨Or.inl ⟨by rfl, ?_⟩, fun _ => rfl⟩ ?_; rotate_left 1
        · (intro wW; go_simp; (try with_reducible rfl))
        (try simp only [Act.put, List.setIfInBounds_toArray, List.set_cons_zero, List.set_cons_succ])
        refine wpAnyIn_ready (rs := [3, 6]) (by kernel_rfl) (by simp) ?_
        refine (AllReadyIn.cons rfl (fun KK hKK => ?_) (AllReadyIn.cons rfl (fun KK hKK => ?_) AllReadyIn.nil))
        · go_simp
          refine hKK _ _ ?_; clear hKK KK
          refine wpAnyIn_take (i := 5) (v := ?_) rfl rfl (by kernel_rfl) (by kernel_rfl) (by kernel_rfl) (fun _ _ _ h => h) ⟨Or.inl ⟨by rfl, ?_⟩, fun _ => rfl⟩ ?_; rotate_left 1
          · (intro wW; go_simp; (try with_reducible rfl))
          (try simp only [Act.put, List.setIfInBounds_toArray, List.set_cons_zero, List.set_cons_succ])
          refine wpAnyIn_ready (rs := [6]) (by kernel_rfl) (by simp) ?_
          refine (AllReadyIn.cons rfl (fun KK hKK => ?_) AllReadyIn.nil)
          · go_simp
            refine hKK _ _ ?_; clear hKK KK
            refine wpAnyIn_ready (rs := [7]) (by kernel_rfl) (by simp) ?_
            refine (AllReadyIn.cons rfl (fun KK hKK => ?_) AllReadyIn.nil)
            · go_simp
              refine hKK _ _ ?_; clear hKK KK
              refine wpAnyIn_done (by kernel_rfl) ?_ _
              (try generalize (if x < q.1 then x else q.1) = lo' at *)
              (try generalize (if q.2 < x then x else q.2) = hi' at *)
              gi_wp2
              refine en_end HE2.out ?_ ?_ (by simp [go_sem, *]) (by simp [go_sem, *]) (by simp [go_sem, *]) (by simp [go_sem, *]) (by simp [go_sem, *]) (by simp [go_sem, *])
              · exact (by (repeat (first | exact KTw | exact KTw5 | refine KT.drew1 ?_ | refine KT.setCell ?_ (hkn _ (by simp)) _)))
              · (repeat (first | exact hbw | exact hbw5 | refine Below.drew ?_ | refine Below.setCell ?_ (by simp <;> omega) _))
        · go_simp
          refine hKK _ _ ?_; clear hKK KK
          refine wpAnyIn_ready (rs := [3]) (by kernel_rfl) (by simp) ?_
          refine (AllReadyIn.cons rfl (fun KK hKK => ?_) AllReadyIn.nil)
          · go_simp
            refine hKK _ _ ?_; clear hKK KK
            refine wpAnyIn_take (i := 5) (v := ?_) rfl rfl (by kernel_rfl) (by kernel_rfl) (by kernel_rfl) (fun _ _ _ h => h) ⟨Or.inl ⟨by rfl, ?_⟩, fun _ => rfl⟩ ?_; rotate_left 1
            · (intro wW; go_simp; (try with_reducible rfl))
            (try simp only [Act.put, List.setIfInBounds_toArray, List.set_cons_zero, List.set_cons_succ])
            refine wpAnyIn_ready (rs := [7]) (by kernel_rfl) (by simp) ?_
            refine (AllReadyIn.cons rfl (fun KK hKK => ?_) AllReadyIn.nil)
            · go_simp
              refine hKK _ _ ?_; clear hKK KK
              refine wpAnyIn_done (by kernel_rfl) ?_ _
              (try generalize (if x < q.1 then x else q.1) = lo' at *)
              (try generalize (if q.2 < x then x else q.2) = hi' at *)
              gi_wp2
              refine en_end HE2.out ?_ ?_ (by simp [go_sem, *]) (by simp [go_sem, *]) (by simp [go_sem, *]) (by simp [go_sem, *]) (by simp [go_sem, *]) (by simp [go_sem, *])
              · exact (by (repeat (first | exact KTw | exact KTw5 | refine KT.drew1 ?_ | refine KT.setCell ?_ (hkn _ (by simp)) _)))
              · (repeat (first | exact hbw | exact hbw5 | refine Below.drew ?_ | refine Below.setCell ?_ (by simp <;> omega) _))
      · go_simp
        refine hKK _ _ ?_; clear hKK KK
        refine wpAnyIn_take (i := 5) (v := ?_) rfl rfl (by kernel_rfl) (by kernel_rfl) (by kernel_rfl) (fun _ _ _ h => h) ⟨Or.inl ⟨by rfl, ?_⟩, fun _ => rfl⟩ ?_; rotate_left 1
        · (intro wW; go_simp; (try with_reducible rfl))
        (try simp only [Act.put, List.setIfInBounds_toArray, List.set_cons_zero, List.set_cons_succ])
        refine wpAnyIn_ready (rs := [0]) (by kernel_rfl) (by simp) ?_
        refine (AllReadyIn.cons rfl (fun KK hKK => ?_) AllReadyIn.nil)
        · go_simp
          refine hKK _ _ ?_; clear hKK KK
          refine wpAnyIn_take (i := 2) (v := ?_) rfl rfl (by kernel_rfl) (by kernel_rfl) (by kernel_rfl) (fun _ _ _ h => h) ⟨Or.inl ⟨by rfl, ?_⟩, fun _ => rfl⟩ ?_; rotate_left 1
          · (intro wW; go_simp; (try with_reducible rfl))
          (try simp only [Act.put, List.setIfInBounds_toArray, List.set_cons_zero, List.set_cons_succ])
          refine wpAnyIn_ready (rs := [6]) (by kernel_rfl) (by simp) ?_
          refine (AllReadyIn.cons rfl (fun KK hKK => ?_) AllReadyIn.nil)
          · go_simp
            refine hKK _ _ ?_; clear hKK KK
            refine wpAnyIn_ready (rs := [7]) (by kernel_rfl) (by simp) ?_
            refine (AllReadyIn.cons rfl (fun KK hKK => ?_) AllReadyIn.nil)
            · go_simp
              refine hKK _ _ ?_; clear hKK KK
              refine wpAnyIn_done (by kernel_rfl) ?_ _
              (try generalize (if x < q.1 then x else q.1) = lo' at *)
              (try generalize (if q.2 < x then x else q.2) = hi' at *)
              gi_wp2
              refine en_end HE2.out ?_ ?_ (by simp [go_sem, *]) (by simp [go_sem, *]) (by simp [go_sem, *]) (by simp [go_sem, *]) (by simp [go_sem, *]) (by simp [go_sem, *])
              · exact (by (repeat (first | exact KTw | exact KTw5 | refine KT.drew1 ?_ | refine KT.setCell ?_ (hkn _ (by simp)) _)))
              · (repeat (first | exact hbw | exact hbw5 | refine Below.drew ?_ | refine Below.setCell ?_ (by simp <;> omega) _))
      -- END TREE
    | none =>
      rw [he] at hm
      subst hm
      have hes2 : es (pre ++ [x]) = some (x, x) := by rw [es_snoc, he]; rfl
      have HE2 := Lib.hid hes2
      clear he hes2
      gi_wp2
      obtain ⟨V5, hV5⟩ : ∃ V5, ((W.setCell ⟨w.heap.size, 0, none⟩ (.int .i64 x)).setCell ⟨w.heap.size + 1, 0, none⟩ (.int .i64 x)).setCell ⟨w.heap.size + 1 + 1, 0, none⟩ (.bool false) = V5 := ⟨_, rfl⟩
      rw [hV5]
      have HV5 := Lib.hid hV5
      clear hV5
      have q1 : V5.cell? ⟨w.heap.size, 0, none⟩ = some (.int .i64 x) := by rw [← HV5.out]; simp [go_sem, *]
      have q2 : V5.frozen? ⟨w.heap.size, 0, none⟩ = false := by rw [← HV5.out]; simp [go_sem, *]
      have q3 : V5.cell? ⟨w.heap.size + 1, 0, none⟩ = some (.int .i64 x) := by rw [← HV5.out]; simp [go_sem, *]
      have q4 : V5.frozen? ⟨w.heap.size + 1, 0, none⟩ = false := by rw [← HV5.out]; simp [go_sem, *]
      have q5 : V5.cell? ⟨w.heap.size + 1 + 1, 0, none⟩ = some (.bool false) := by rw [← HV5.out]; simp [go_sem, *]
      have q6 : V5.frozen? ⟨w.heap.size + 1 + 1, 0, none⟩ = false := by rw [← HV5.out]; simp [go_sem, *]
      have hbw5 : Below w.heap.size w V5 := by rw [← HV5.out]; (repeat (first | exact hbw | refine Below.setCell ?_ (by simp <;> omega) _))
      have KTw5 : KT (fun k => k = b ∨ k = W0.heap.size ∨ k = W0.heap.size + 1) W V5 := by rw [← HV5.out]; (repeat (first | exact KTw | refine KT.setCell ?_ (hkn _ (by simp)) _))
      clear HV5 a1 a2 b1' b2' c1' c2' hbw KTw
      refine round_any (by kernel_rfl) (by kernel_rfl) ?_
      -- TREF
      refine wpAnyIn_take (i := 1) (v := ?_) rfl rfl (by kernel_rfl) (by kernel_rfl) (by kernel_rfl) (fun _ _ _ h => h) ⟨Or.inl ⟨by rfl, ?_⟩, fun _ => rfl⟩ ?_; rotate_left 1
      · (intro wW; go_simp; (try with_reducible rfl))
      (try simp only [Act.put, List.setIfInBounds_toArray, List.set_cons_zero, List.set_cons_succ])
      refine wpAnyIn_take (i := 4) (v := ?_) rfl rfl (by kernel_rfl) (by kernel_rfl) (by kernel_rfl) (fun _ _ _ h => h) ⟨Or.inl ⟨by rfl, ?_⟩, fun _ => rfl⟩ ?_; rotate_left 1
      · (intro wW; go_simp; (try with_reducible rfl))
      (try simp only [Act.put, List.setIfInBounds_toArray, List.set_cons_zero, List.set_cons_succ])
      refine wpAnyIn_ready (rs := [0, 3]) (by kernel_rfl) (by simp) ?_
      refine (AllReadyIn.cons rfl (fun KK hKK => ?_) (AllReadyIn.cons rfl (fun KK hKK => ?_) AllReadyIn.nil))
      · go_simp
        refine hKK _ _ ?_; clear hKK KK
        refine wpAnyIn_take (i := 2) (v := ?_) rfl rfl (by kernel_rfl) (by kernel_rfl) (by kernel_rfl) (fun _ _ _ h => h) ⟨Or.inl ⟨by rfl, ?_⟩, fun _ => rfl⟩ ?_; rotate_left 1
        · (intro wW; go_simp; (try with_reducible rfl))
        (try simp only [Act.put, List.setIfInBounds_toArray, List.set_cons_zero, List.set_cons_succ])
        refine wpAnyIn_ready (rs := [3, 6]) (by kernel_rfl) (by simp) ?_
        refine (AllReadyIn.cons rfl (fun KK hKK => ?_) (AllReadyIn.cons rfl (fun KK hKK => ?_) AllReadyIn.nil))
        · go_simp
          refine hKK _ _ ?_; clear hKK KK
          refine wpAnyIn_take (i := 5) (v := ?_) rfl rfl (by kernel_rfl) (by kernel_rfl) (by kernel_rfl) (fun _ _ _ h => h) ⟨Or.inl ⟨by rfl, ?_⟩, fun _ => rfl⟩ ?_; rotate_left 1
          · (intro wW; go_simp; (try with_reducible rfl))
          (try simp only [Act.put, List.setIfInBounds_toArray, List.set_cons_zero, List.set_cons_succ])
          refine wpAnyIn_ready (rs := [6]) (by kernel_rfl) (by simp) ?_
          refine (AllReadyIn.cons rfl (fun KK hKK => ?_) AllReadyIn.nil)
          · go_simp
            refine hKK _ _ ?_; clear hKK KK
            refine wpAnyIn_ready (rs := [7]) (by kernel_rfl) (by simp) ?_
            refine (AllReadyIn.cons rfl (fun KK hKK => ?_) AllReadyIn.nil)
            · go_simp
              refine hKK _ _ ?_; clear hKK KK
              refine wpAnyIn_done (by kernel_rfl) ?_ _
              (try generalize (if x < q.1 then x else q.1) = lo' at *)
              (try generalize (if q.2 < x then x else q.2) = hi' at *)
              gi_wp2
              refine en_end HE2.out ?_ ?_ (by simp [go_sem, *]) (by simp [go_sem, *]) (by simp [go_sem, *]) (by simp [go_sem, *]) (by simp [go_sem, *]) (by simp [go_sem, *])
              · exact (by (repeat (first | exact KTw | exact KTw5 | refine KT.drew1 ?_ | refine KT.setCell ?_ (hkn _ (by simp)) _)))
              · (repeat (first | exact hbw | exact hbw5 | refine Below.drew ?_ | refine Below.setCell ?_ (by simp <;> omega) _))
        · go_simp
          refine hKK _ _ ?_; clear hKK KK
          refine wpAnyIn_ready (rs := [3]) (by kernel_rfl) (by simp) ?_
          refine (AllReadyIn.cons rfl (fun KK hKK => ?_) AllReadyIn.nil)
          · go_simp
            refine hKK _ _ ?_; clear hKK KK
            refine wpAnyIn_take (i := 5) (v := ?_) rfl rfl (by kernel_rfl) (by kernel_rfl) (by kernel_rfl) (fun _ _ _ h => h) ⟨Or.inl ⟨by rfl, ?_⟩, fun _ => rfl⟩ ?_; rotate_left 1
            · (intro wW; go_simp; (try with_reducible rfl))
            (try simp only [Act.put, List.setIfInBounds_toArray, List.set_cons_zero, List.set_cons_succ])
            refine wpAnyIn_ready (rs := [7]) (by kernel_rfl) (by simp) ?_
            refine (AllReadyIn.cons rfl (fun KK hKK => ?_) AllReadyIn.nil)
            · go_simp
              refine hKK _ _ ?_; clear hKK KK
              refine wpAnyIn_done (by kernel_rfl) ?_ _
              (try generalize (if x < q.1 then x else q.1) = lo' at *)
              (try generalize (if q.2 < x then x else q.2) = hi' at *)
              gi_wp2
              refine en_end HE2.out ?_ ?_ (by simp [go_sem, *]) (by simp [go_sem, *]) (by simp [go_sem, *]) (by simp [go_sem, *]) (by simp [go_sem, *]) (by simp [go_sem, *])
              · exact (by (repeat (first | exact KTw | exact KTw5 | refine KT.drew1 ?_ | refine KT.setCell ?_ (hkn _ (by simp)) _)))
              · (repeat (first | exact hbw | exact hbw5 | refine Below.drew ?_ | refine Below.setCell ?_ (by simp <;> omega) _))
      · go_simp
        refine hKK _ _ ?_; clear hKK KK
        refine wpAnyIn_take (i := 5) (v := ?_) rfl rfl (by kernel_rfl) (by kernel_rfl) (by kernel_rfl) (fun _ _ _ h => h) ⟨Or.inl ⟨by rfl, ?_⟩, fun _ => rfl⟩ ?_; rotate_left 1
        · (intro wW; go_simp; (try with_reducible rfl))
        (try simp only [Act.put, List.setIfInBounds_toArray, List.set_cons_zero, List.set_cons_succ])
        refine wpAnyIn_ready (rs := [0]) (by kernel_rfl) (by simp) ?_
        refine (AllReadyIn.cons rfl (fun KK hKK => ?_) AllReadyIn.nil)
        · go_simp
          refine hKK _ _ ?_; clear hKK KK
          refine wpAnyIn_take (i := 2) (v := ?_) rfl rfl (by kernel_rfl) (by kernel_rfl) (by kernel_rfl) (fun _ _ _ h => h) ⟨Or.inl ⟨by rfl, ?_⟩, fun _ => rfl⟩ ?_; rotate_left 1
          · (intro wW; go_simp; (try with_reducible rfl))
          (try simp only [Act.put, List.setIfInBounds_toArray, List.set_cons_zero, List.set_cons_succ])
          refine wpAnyIn_ready (rs := [6]) (by kernel_rfl) (by simp) ?_
          refine (AllReadyIn.cons rfl (fun KK hKK => ?_) AllReadyIn.nil)
          · go_simp
            refine hKK _ _ ?_; clear hKK KK
            refine wpAnyIn_ready (rs := [7]) (by kernel_rfl) (by simp) ?_
            refine (AllReadyIn.cons rfl (fun KK hKK => ?_) AllReadyIn.nil)
            · go_simp
              refine hKK _ _ ?_; clear hKK KK
              refine wpAnyIn_done (by kernel_rfl) ?_ _
              (try generalize (if x < q.1 then x else q.1) = lo' at *)
              (try generalize (if q.2 < x then x else q.2) = hi' at *)
              gi_wp2
              refine en_end HE2.out ?_ ?_ (by simp [go_sem, *]) (by simp [go_sem, *]) (by simp [go_sem, *]) (by simp [go_sem, *]) (by simp [go_sem, *]) (by simp [go_sem, *])
              · exact (by (repeat (first | exact KTw | exact KTw5 | refine KT.drew1 ?_ | refine KT.setCell ?_ (hkn _ (by simp)) _)))
              · (repeat (first | exact hbw | exact hbw5 | refine Below.drew ?_ | refine Below.setCell ?_ (by simp <;> omega) _))
      -- END TREF
  case done =>
    rintro D xs X hD rfl ⟨lo, hi, fb, ⟨a1, a2⟩, ⟨b1', b2'⟩, ⟨c1', c2'⟩, hm, hbw⟩ hK
    rw [hes] at hm
    obtain ⟨rfl, rfl, rfl⟩ := hm
    have HK := Lib.hid hK
    clear hK HI0 HQ hes
    gi_wp2
    go_wp2
    go_region
    go_wp2
    have hnD : ∀ b' u, X.cell? ⟨b', 0, none⟩ = some u → D ≠ b' := fun b' u h e => by subst e; simp [World.cell?, HK.out] at h
    refine ends_end D w ?_ ?_ ?_ ⟨rfl, ?_⟩
    · exact (Below.heap_setCell _ _ _ _ (hnD _ _ b1')).trans ((Below.heap_setCell _ _ _ _ (hnD _ _ a1)).trans HK.out)
    · simp [go_sem, *]
    · simp [go_sem, *]
    · exact (Below.drew (Below.setCell (Below.setCell hbw (by simp) _) (by simp) _)).trans (below_put _ (by omega) _)
  case stop => rintro D c pre X hD hS h hK; exact h.elim
end Go.Proofs.Ytagbokhmcidokaa
