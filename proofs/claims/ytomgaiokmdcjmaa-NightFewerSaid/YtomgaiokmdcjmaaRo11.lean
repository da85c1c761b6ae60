/-
  IsRota of night. No conditions.
-/
import Derived.Test.YtomgaiokmdcjmaaRo10
import Derived.Deep.LoopGhost
namespace Go.Proofs.Ytomgaiokmdcjmaa
open Go.RowKit Go.Deep Go.Shelf
attribute [local go_sem] Oper.semAt_some
set_option linter.unusedVariables false
set_option linter.unusedSimpArgs false
/-- Marks of loops over iterators that have ended. -/
def Mrk (base : Nat) (W : World) (ds : List Deferred) : Prop := ∃ Ds : List Nat, ds = Ds.map (fun D => { target := .collected D, args := #[] }) ∧ Ds.Nodup ∧ ∀ D ∈ Ds, base ≤ D ∧ W.heap[D]? = some (.deferred (some []))
theorem Mrk.nil (base : Nat) (W : World) : Mrk base W [] := ⟨[], rfl, List.nodup_nil, fun D h => by cases h⟩
theorem Mrk.step {base : Nat} {W W' : World} {ds : List Deferred} (h : Mrk base W ds) (hb : Below W.heap.size W W') : Mrk base W' ds := by
  obtain ⟨Ds, h1, h2, h3⟩ := h
  exact ⟨Ds, h1, h2, fun D hD => ⟨(h3 D hD).1, (hb.block D (Array.getElem?_eq_some_iff.1 (h3 D hD).2).1).trans (h3 D hD).2⟩⟩
theorem Mrk.cells {base : Nat} {W W' : World} {ds : List Deferred} {b : Nat} (h : Mrk base W ds) (hg : W.grownBy W' (some b)) (hb : W.heap[b]? ≠ some (.deferred (some []))) : Mrk base W' ds := by
  obtain ⟨Ds, h1, h2, h3⟩ := h
  exact ⟨Ds, h1, h2, fun D hD => ⟨(h3 D hD).1, (hg.block D (Array.getElem?_eq_some_iff.1 (h3 D hD).2).1 (by intro e; injection e with e; subst e; exact hb (h3 _ hD).2)).trans (h3 D hD).2⟩⟩
theorem Mrk.put {base : Nat} {W : World} {ds : List Deferred} {p : Nat} {o : Obj} (h : Mrk base W ds) (hp : ∀ D, { target := .collected D, args := #[] } ∈ ds → D ≠ p) : Mrk base (W.putObj p o) ds := by
  obtain ⟨Ds, h1, h2, h3⟩ := h
  exact ⟨Ds, h1, h2, fun D hD => ⟨(h3 D hD).1, (World.putObj_heap_other (hp D (by rw [h1]; exact List.mem_map.2 ⟨D, hD, rfl⟩))).trans (h3 D hD).2⟩⟩
theorem Mrk.cons {base D : Nat} {W : World} {ds : List Deferred} (h : Mrk base W ds) (hD : W.heap[D]? = some (.deferred (some []))) (hb : base ≤ D) (hn : ∀ D', { target := .collected D', args := #[] } ∈ ds → D' ≠ D) : Mrk base W ({ target := .collected D, args := #[] } :: ds) := by
  obtain ⟨Ds, h1, h2, h3⟩ := h
  refine ⟨D :: Ds, by rw [h1]; rfl, List.nodup_cons.2 ⟨fun hm => hn D (by rw [h1]; exact List.mem_map.2 ⟨D, hm, rfl⟩) rfl, h2⟩, fun D' hD' => ?_⟩
  rcases List.mem_cons.1 hD' with rfl | h
  · exact ⟨hb, hD⟩
  · exact h3 D' h
/-- A function ends behind such loops. -/
theorem leaves_marks {F : Fence} {n : Nat} {P : Program} {fn : Func} {tmps : Array Value} {R : Ending → World → Prop} {base : Nat} : ∀ (Ds : List Nat) (Z : World), Ds.Nodup → (∀ D ∈ Ds, base ≤ D ∧ Z.heap[D]? = some (.deferred (some []))) →
    (∀ Z', (∀ k, k ∉ Ds → Z'.heap[k]? = Z.heap[k]?) → (Below base Z Z') → ∃ v, (results fn tmps).run P Z' = .ok v Z' ∧ R (.returned v) Z') → LeavesInM F n P fn tmps R (Ds.map (fun D => { target := .collected D, args := #[] })) .returning Z
  | [], Z, _, _, h => h Z (fun _ _ => rfl) (Below.refl _ _)
  | D :: Ds, Z, hn, hd, h => by
    have hn := List.nodup_cons.1 hn
    have hD := hd D (by simp)
    refine ⟨by simp, .inl ⟨_, _, rfl, run_takeDeferred hD.2, ?_⟩⟩
    have ho : ∀ k, k ≠ D → (Z.putObj D (Obj.deferred none)).heap[k]? = Z.heap[k]? := fun k hk => World.putObj_heap_other (by omega)
    refine leaves_marks (base := base) Ds _ hn.2 (fun D' hD' => ⟨(hd D' (by simp [hD'])).1, (ho D' (by rintro rfl; exact hn.1 hD')).trans (hd D' (by simp [hD'])).2⟩) (fun Z' hz hb => h Z' (fun k hk => ?_) ?_)
    · rw [hz k (fun hm => hk (by simp [hm])), ho k (by rintro rfl; exact hk (by simp))]
    · exact (below_put Z hD.1 _).trans hb
theorem bodyPostM_marks {F : Fence} {n : Nat} {P : Program} {fn : Func} {R : Ending → World → Prop} {tmps : Array Value} {ds : List Deferred} {Z : World} {base : Nat} (hm : Mrk base Z ds)
    (h : ∀ Z' : World, (∀ k : Nat, Z.heap[k]? ≠ some (Obj.deferred (some [])) → Z'.heap[k]? = Z.heap[k]?) → (Below base Z Z') → ∃ v, (results fn tmps).run P Z' = .ok v Z' ∧ R (.returned v) Z') : bodyPostM F n P fn R .ret { tmps := tmps, defers := ds } Z := by
  obtain ⟨Ds, rfl, h2, h3⟩ := hm
  exact leaves_marks Ds Z h2 h3 (fun Z' hz hb => h Z' (fun k hk => hz k (fun hd => hk (h3 k hd).2)) hb)
theorem Mrk.lt {base : Nat} {W W' : World} {ds : List Deferred} (h : Mrk base W ds) (hb : Below W.heap.size W W') : ∀ D, { target := .collected D, args := #[] } ∈ ds → D < W'.heap.size := by
  obtain ⟨Ds, rfl, h2, h3⟩ := h
  intro D hD
  obtain ⟨D', hD', e⟩ := List.mem_map.1 hD
  injection e with e1 e2; injection e1 with e1; subst e1
  have := (Array.getElem?_eq_some_iff.1 (h3 _ hD').2).1
  have := hb.size
  omega
/-- What holds between two rounds, while the wanted one is not found. -/
structure IsI (w : World) (A : Option Addr) (n cap : Nat) (o m : Int) (k l : Nat) (f : Nat → Nat) (x : Int) (p9 p10 p12 p13 : Nat) (ds : List Deferred) (pre : List Nat) (W : World) : Prop where
  q0 : W.cell? ⟨p9, 0, none⟩ = some (.slice A n cap)
  q1 : W.cell? ⟨p9, 1, none⟩ = some (.int .i64 o)
  q2 : W.cell? ⟨p9, 2, none⟩ = some (.int .i64 m)
  st : StA W p10 k l f
  sf : StF W p10
  c12 : W.cell? ⟨p12, 0, none⟩ = some (.int .i64 x)
  c13 : W.cell? ⟨p13, 0, none⟩ = some (.bool false)
  f13 : W.frozen? ⟨p13, 0, none⟩ = false
  mrk : Mrk w.heap.size W ds
  bl : Below w.heap.size w W
  no : ∀ q ∈ pre, (q : Int) ≠ x
theorem IsI.keep {w W W' : World} {A : Option Addr} {n cap : Nat} {o m : Int} {k l : Nat} {f : Nat → Nat} {x : Int} {p9 p10 p12 p13 : Nat} {ds : List Deferred} {pre : List Nat} (h : IsI w A n cap o m k l f x p9 p10 p12 p13 ds pre W) (hb : Below W.heap.size W W') : IsI w A n cap o m k l f x p9 p10 p12 p13 ds pre W' :=
  ⟨keep_cell hb h.q0, keep_cell hb h.q1, keep_cell hb h.q2, h.st.step hb, h.sf.of_block (hb.block p10 h.st.lt), keep_cell hb h.c12, keep_cell hb h.c13, keep_frozen hb (cell?_lt h.c13) h.f13, h.mrk.step hb, Below.step h.bl hb, h.no⟩
theorem IsI.put {w W : World} {A : Option Addr} {n cap : Nat} {o m : Int} {k l : Nat} {f : Nat → Nat} {x : Int} {p9 p10 p12 p13 p : Nat} {ds : List Deferred} {pre : List Nat} {q : Obj} (h : IsI w A n cap o m k l f x p9 p10 p12 p13 ds pre W) (hw : w.heap.size ≤ p) (hp : p ≠ p9 ∧ p ≠ p10 ∧ p ≠ p12 ∧ p ≠ p13) (hd : ∀ D, { target := .collected D, args := #[] } ∈ ds → D ≠ p) : IsI w A n cap o m k l f x p9 p10 p12 p13 ds pre (W.putObj p q) := by
  have e : ∀ k, k ≠ p → (W.putObj p q).heap[k]? = W.heap[k]? := fun k hk => World.putObj_heap_other (by omega)
  exact ⟨(World.cell?_of_block (a := ⟨p9, 0, none⟩) (e p9 (by omega))).trans h.q0, (World.cell?_of_block (a := ⟨p9, 1, none⟩) (e p9 (by omega))).trans h.q1, (World.cell?_of_block (a := ⟨p9, 2, none⟩) (e p9 (by omega))).trans h.q2, h.st.of_block (e p10 (by omega)), h.sf.of_block (e p10 (by omega)),
    (World.cell?_of_block (a := ⟨p12, 0, none⟩) (e p12 (by omega))).trans h.c12, (World.cell?_of_block (a := ⟨p13, 0, none⟩) (e p13 (by omega))).trans h.c13, (World.frozen?_of_block (a := ⟨p13, 0, none⟩) (e p13 (by omega))).trans h.f13, h.mrk.put hd, h.bl.trans (below_put W hw q), h.no⟩
/-- What holds when it is found. -/
structure IsX (K : Crw) (w : World) (A : Option Addr) (n cap : Nat) (o m : Int) (k l : Nat) (f : Nat → Nat) (x : Int) (p9 p10 p13 : Nat) (ds : List Deferred) (W : World) : Prop where
  q0 : W.cell? ⟨p9, 0, none⟩ = some (.slice A n cap)
  q1 : W.cell? ⟨p9, 1, none⟩ = some (.int .i64 o)
  q2 : W.cell? ⟨p9, 2, none⟩ = some (.int .i64 m)
  st : ∃ y : Nat, StA W p10 (k + 1) y (K.nx k f y) ∧ (y : Int) = x ∧ y < K.obs ∧ K.may k l f y = true
  sf : StF W p10
  c13 : W.cell? ⟨p13, 0, none⟩ = some (.bool true)
  mrk : Mrk w.heap.size W ds
  bl : Below w.heap.size w W
theorem IsX.keep {K : Crw} {w W W' : World} {A : Option Addr} {n cap : Nat} {o m : Int} {k l : Nat} {f : Nat → Nat} {x : Int} {p9 p10 p13 : Nat} {ds : List Deferred} (h : IsX K w A n cap o m k l f x p9 p10 p13 ds W) (hb : Below W.heap.size W W') : IsX K w A n cap o m k l f x p9 p10 p13 ds W' := by
  obtain ⟨y, h1, h2⟩ := h.st
  exact ⟨keep_cell hb h.q0, keep_cell hb h.q1, keep_cell hb h.q2, ⟨y, h1.step hb, h2⟩, h.sf.of_block (hb.block p10 h1.lt), keep_cell hb h.c13, h.mrk.step hb, Below.step h.bl hb⟩
theorem IsX.put {K : Crw} {w W : World} {A : Option Addr} {n cap : Nat} {o m : Int} {k l : Nat} {f : Nat → Nat} {x : Int} {p9 p10 p13 p : Nat} {ds : List Deferred} {q : Obj} (h : IsX K w A n cap o m k l f x p9 p10 p13 ds W) (hw : w.heap.size ≤ p) (hp : p ≠ p9 ∧ p ≠ p10 ∧ p ≠ p13) (hd : ∀ D, { target := .collected D, args := #[] } ∈ ds → D ≠ p) : IsX K w A n cap o m k l f x p9 p10 p13 ds (W.putObj p q) := by
  have e : ∀ k, k ≠ p → (W.putObj p q).heap[k]? = W.heap[k]? := fun k hk => World.putObj_heap_other (by omega)
  obtain ⟨y, h1, h2⟩ := h.st
  exact ⟨(World.cell?_of_block (a := ⟨p9, 0, none⟩) (e p9 (by omega))).trans h.q0, (World.cell?_of_block (a := ⟨p9, 1, none⟩) (e p9 (by omega))).trans h.q1, (World.cell?_of_block (a := ⟨p9, 2, none⟩) (e p9 (by omega))).trans h.q2, ⟨y, h1.of_block (e p10 (by omega)), h2⟩, h.sf.of_block (e p10 (by omega)),
    (World.cell?_of_block (a := ⟨p13, 0, none⟩) (e p13 (by omega))).trans h.c13, h.mrk.put hd, h.bl.trans (below_put W hw q)⟩
/-- A state is written over. -/
theorem st_write (X : World) (b n l : Nat) (f : Nat → Nat) (h : StA X b n l f) (hf : StF X b) (k1 : Nat) (x : Int) (g : Nat → Nat) (W' : World) (hW : W' = ((((((((((X.setCell ⟨b, 0, none⟩ (.int .i64 k1)).setCell ⟨b, 1, none⟩ (.int .i64 x)).setCell ⟨b, 2, none⟩ (.int .i64 (g 0))).setCell ⟨b, 3, none⟩ (.int .i64 (g 1))).setCell ⟨b, 4, none⟩ (.int .i64 (g 2))).setCell ⟨b, 5, none⟩ (.int .i64 (g 3))).setCell ⟨b, 6, none⟩ (.int .i64 (g 4))).setCell ⟨b, 7, none⟩ (.int .i64 (g 5))).setCell ⟨b, 8, none⟩ (.int .i64 (g 6))).setCell ⟨b, 9, none⟩ (.int .i64 (g 7)))) :
    (W'.cell? ⟨b, 0, none⟩ = some (.int .i64 k1) ∧ W'.cell? ⟨b, 1, none⟩ = some (.int .i64 x) ∧ ∀ j, j < 8 → W'.cell? ⟨b, 2 + j, none⟩ = some (.int .i64 (g j))) ∧ StF W' b ∧ X.grownBy W' (some b) := by
  have s0 := h.c0
  have s1 := h.c1
  have e0 : X.cell? ⟨b, 2, none⟩ = some (.int .i64 (f 0)) := h.cs 0 (by omega)
  have e1 : X.cell? ⟨b, 3, none⟩ = some (.int .i64 (f 1)) := h.cs 1 (by omega)
  have e2 : X.cell? ⟨b, 4, none⟩ = some (.int .i64 (f 2)) := h.cs 2 (by omega)
  have e3 : X.cell? ⟨b, 5, none⟩ = some (.int .i64 (f 3)) := h.cs 3 (by omega)
  have e4 : X.cell? ⟨b, 6, none⟩ = some (.int .i64 (f 4)) := h.cs 4 (by omega)
  have e5 : X.cell? ⟨b, 7, none⟩ = some (.int .i64 (f 5)) := h.cs 5 (by omega)
  have e6 : X.cell? ⟨b, 8, none⟩ = some (.int .i64 (f 6)) := h.cs 6 (by omega)
  have e7 : X.cell? ⟨b, 9, none⟩ = some (.int .i64 (f 7)) := h.cs 7 (by omega)
  refine ⟨⟨by rw [hW]; simp [go_sem, *], by rw [hW]; simp [go_sem, *], fun j hj => ?_⟩, ?_, ?_⟩
  · have hj' : j = 0 ∨ j = 1 ∨ j = 2 ∨ j = 3 ∨ j = 4 ∨ j = 5 ∨ j = 6 ∨ j = 7 := by omega
    rcases hj' with rfl | rfl | rfl | rfl | rfl | rfl | rfl | rfl <;> (rw [hW]; simp [go_sem, *])
  · rw [hW]
    intro j hj
    simp only [World.frozen?_setCell]
    exact hf j hj
  · rw [hW]
    iterate 10 (with_reducible refine put_grown ?_ _ (by rfl))
    exact ⟨rfl, rfl, rfl, Nat.le_refl _, fun i _ _ => rfl⟩
theorem not_def {W : World} {b o : Nat} {v : Value} (h : W.cell? ⟨b, o, none⟩ = some v) : W.heap[b]? ≠ some (.deferred (some [])) := by
  intro e
  simp [World.cell?, e] at h
theorem next_cI (A : Option Addr) (N cap : Nat) (o m : Int) (n l : Nat) (f : Nat → Nat) (w : World) :
    Calls Try.prog 90 #[.agg #[.slice A N cap, .int .i64 o, .int .i64 m], .agg #[.int .i64 n, .int .i64 l, .int .i64 (f 0), .int .i64 (f 1), .int .i64 (f 2), .int .i64 (f 3), .int .i64 (f 4), .int .i64 (f 5), .int .i64 (f 6), .int .i64 (f 7)]] w fun e w' => e = .returned (.func (.func 114) #[] #[.pointer (some ⟨w.heap.size, 0, none⟩), .pointer (some ⟨w.heap.size + 1, 0, none⟩)]) ∧ w' = (w.alloc (.cells #[.slice A N cap, .int .i64 o, .int .i64 m] 80)).alloc (.cells #[.int .i64 n, .int .i64 l, .int .i64 (f 0), .int .i64 (f 1), .int .i64 (f 2), .int .i64 (f 3), .int .i64 (f 4), .int .i64 (f 5), .int .i64 (f 6), .int .i64 (f 7)] 84) := by
  go_enter Try.func90, Try.ntmps90
  go_wp2
  go_ret
  exact ⟨rfl, rfl⟩
set_option maxHeartbeats 8000000 in
set_option maxRecDepth 100000 in
theorem IsRota_c (xs : List Int) (n : Nat) (hn : xs.length = n) (hl : n ≤ 1000000) (A : Option Addr) (cap : Nat) (o m : Int) (t : List Int) (tl : Nat) (htl : t.length = tl) (htl2 : tl ≤ 1000000) (B : Option Addr) (cb : Nat) (w : World) (hr : RdL w w.heap.size inE 1 A xs) (hB : RdL w w.heap.size inE 1 B t) :
    Calls Try.prog 48 #[.slice A n cap, .int .i64 o, .int .i64 m, .slice B tl cb] w fun e w' => e = .returned (.bool (isRB xs o m t)) ∧ Below w.heap.size w w' := by
  have HQ := Lib.hid (fun W (hb : Below w.heap.size w W) => casked_c xs n hn hl A cap o m W (hr.step hb))
  have HIS : Hid (isRB xs o m t = (askB xs o m && (decide (tl = n) && isRI (crw xs o m) [] t))) := Lib.hid (by unfold isRB; rw [htl, hn])
  cases h : askB xs o m with
  | false =>
    rw [askQ_no h] at HQ
    rw [HIS.out, h]
    clear hr hn hB htl HIS
    refine (callsIn_wide (n := 5)).1 ?_
    refine callsIn_of_wp_marks Try.func48 rfl trivial ?_ rfl
    simp only [Try.ntmps48, List.size_toArray, List.length_cons, List.length_nil, Nat.reduceAdd, Nat.reduceSub, Array.replicate_succ, Array.replicate_zero, List.push_toArray, List.append_toArray, List.nil_append, List.cons_append]
    refine wpIn_wide.2 ?_
    go_wp2_with fail
    refine (HQ.out _ (by (repeat (first | (with_reducible exact Below.refl _ _) | (with_reducible assumption) | (with_reducible refine Below.drew ?_) | (with_reducible refine Below.allocS ?_ _) | (with_reducible refine Below.setCell ?_ ?_ _) | (with_reducible refine Below.step ?_ (by assumption)) | (with_reducible refine Below.drewN' ?_ _))); (try any_goals (first | (with_reducible assumption) | (simp; done) | (simp; omega) | omega)))).mono ?_
    rintro e w1 ⟨rfl, hb1⟩
    have x1_0_0 : w1.cell? ⟨w.heap.size, 0, none⟩ = some (.slice A n cap) := keep_cell hb1 (by simp [go_sem, *])
    have x1_0_1 : w1.cell? ⟨w.heap.size, 1, none⟩ = some (.int .i64 o) := keep_cell hb1 (by simp [go_sem, *])
    have x1_0_2 : w1.cell? ⟨w.heap.size, 2, none⟩ = some (.int .i64 m) := keep_cell hb1 (by simp [go_sem, *])
    have y1_0 : w.heap.size < w1.heap.size := cell?_lt x1_0_0
    have g1 : Below w.heap.size w w1 := by (repeat (first | exact Below.refl _ _ | refine Below.drew ?_ | refine Below.allocS ?_ _ | refine Below.step ?_ (by assumption) | refine Below.setCell ?_ (by simp <;> omega) _ | refine Below.drewN' ?_ _))
    clear hb1
    go_wp2
    (try simp only [Exit.inBlock, Exit.then])
    refine bodyPostM_end (results_tmp rfl _ _ _) rfl ?_
    exact ⟨rfl, by (repeat (first | exact Below.refl _ _ | refine Below.drew ?_ | refine Below.allocS ?_ _ | refine Below.step ?_ (by assumption) | refine Below.setCell ?_ (by simp <;> omega) _ | refine Below.drewN' ?_ _))⟩
  | true =>
    rw [askQ_yes h] at HQ
    rw [h] at HIS
    obtain ⟨h1, h2, h3, h4, h5, h6, h7, h8⟩ := crw_ok h
    by_cases htn : tl = n
    case neg =>
      have d1 : ((tl : Int) != (n : Int)) = true := by simp; omega
      rw [HIS.out, decide_eq_false htn]
      clear hr hn hB htl HIS htn h6 h8 h7
      refine (callsIn_wide (n := 5)).1 ?_
      refine callsIn_of_wp_marks Try.func48 rfl trivial ?_ rfl
      simp only [Try.ntmps48, List.size_toArray, List.length_cons, List.length_nil, Nat.reduceAdd, Nat.reduceSub, Array.replicate_succ, Array.replicate_zero, List.push_toArray, List.append_toArray, List.nil_append, List.cons_append]
      refine wpIn_wide.2 ?_
      go_wp2_with fail
      refine (HQ.out _ (by (repeat (first | (with_reducible exact Below.refl _ _) | (with_reducible assumption) | (with_reducible refine Below.drew ?_) | (with_reducible refine Below.allocS ?_ _) | (with_reducible refine Below.setCell ?_ ?_ _) | (with_reducible refine Below.step ?_ (by assumption)) | (with_reducible refine Below.drewN' ?_ _))); (try any_goals (first | (with_reducible assumption) | (simp; done) | (simp; omega) | omega)))).mono ?_
      rintro e w1 ⟨rfl, hb1⟩
      have x1_0_0 : w1.cell? ⟨w.heap.size, 0, none⟩ = some (.slice A n cap) := keep_cell hb1 (by simp [go_sem, *])
      have x1_0_1 : w1.cell? ⟨w.heap.size, 1, none⟩ = some (.int .i64 o) := keep_cell hb1 (by simp [go_sem, *])
      have x1_0_2 : w1.cell? ⟨w.heap.size, 2, none⟩ = some (.int .i64 m) := keep_cell hb1 (by simp [go_sem, *])
      have y1_0 : w.heap.size < w1.heap.size := cell?_lt x1_0_0
      have g1 : Below w.heap.size w w1 := by (repeat (first | exact Below.refl _ _ | refine Below.drew ?_ | refine Below.allocS ?_ _ | refine Below.step ?_ (by assumption) | refine Below.setCell ?_ (by simp <;> omega) _ | refine Below.drewN' ?_ _))
      clear hb1
      go_wp2
      (try simp only [Exit.inBlock, Exit.then])
      refine bodyPostM_end (results_tmp rfl _ _ _) rfl ?_
      exact ⟨rfl, by (repeat (first | exact Below.refl _ _ | refine Below.drew ?_ | refine Below.allocS ?_ _ | refine Below.step ?_ (by assumption) | refine Below.setCell ?_ (by simp <;> omega) _ | refine Below.drewN' ?_ _))⟩
    have d1 : ((tl : Int) != (n : Int)) = false := by simp [htn]
    rw [decide_eq_true htn] at HIS
    have htn' : tl ≤ n := by omega
    obtain ⟨K, hK⟩ : ∃ K, K = crw xs o m := ⟨_, rfl⟩
    rw [← hK] at HIS h4 h5 h6 h7 h8
    have hob8 : K.obs ≤ 8 := by omega
    have hm12 : K.most ≤ 12 := by omega
    have hA : RdL w w.heap.size inE 1 A (K.can.map Int.ofNat) := by rw [h6]; exact hr
    have HA := Lib.hid hA
    have HCB := Lib.hid h8
    have HNN : Hid (K.can.length = n) := Lib.hid (h7.trans hn)
    have HB := Lib.hid hB
    have HTL := Lib.hid htl
    have HO := Lib.hid h4
    have HM := Lib.hid h5
    obtain ⟨R, hR⟩ : ∃ R, R = isRB xs o m t := ⟨_, rfl⟩
    have HR : Hid (R = isRI K [] t) := Lib.hid (by rw [hR, HIS.out]; rfl)
    rw [← hR]
    have hn12 : n ≤ 12 := by omega
    clear hr hn hB htl HIS htn h6 h8 h7 hK hR h4 h5 hA h1
    refine (callsIn_wide (n := 5)).1 ?_
    refine callsIn_of_wp_marks Try.func48 rfl trivial ?_ rfl
    simp only [Try.ntmps48, List.size_toArray, List.length_cons, List.length_nil, Nat.reduceAdd, Nat.reduceSub, Array.replicate_succ, Array.replicate_zero, List.push_toArray, List.append_toArray, List.nil_append, List.cons_append]
    refine wpIn_wide.2 ?_
    go_wp2_with fail
    refine (HQ.out _ (by (repeat (first | (with_reducible exact Below.refl _ _) | (with_reducible assumption) | (with_reducible refine Below.drew ?_) | (with_reducible refine Below.allocS ?_ _) | (with_reducible refine Below.setCell ?_ ?_ _) | (with_reducible refine Below.step ?_ (by assumption)) | (with_reducible refine Below.drewN' ?_ _))); (try any_goals (first | (with_reducible assumption) | (simp; done) | (simp; omega) | omega)))).mono ?_
    rintro e w1 ⟨rfl, hb1⟩
    have x1_0_0 : w1.cell? ⟨w.heap.size, 0, none⟩ = some (.slice A n cap) := keep_cell hb1 (by simp [go_sem, *])
    have x1_0_1 : w1.cell? ⟨w.heap.size, 1, none⟩ = some (.int .i64 o) := keep_cell hb1 (by simp [go_sem, *])
    have x1_0_2 : w1.cell? ⟨w.heap.size, 2, none⟩ = some (.int .i64 m) := keep_cell hb1 (by simp [go_sem, *])
    have y1_0 : w.heap.size < w1.heap.size := cell?_lt x1_0_0
    have g1 : Below w.heap.size w w1 := by (repeat (first | exact Below.refl _ _ | refine Below.drew ?_ | refine Below.allocS ?_ _ | refine Below.step ?_ (by assumption) | refine Below.setCell ?_ (by simp <;> omega) _ | refine Below.drewN' ?_ _))
    clear hb1
    clear HQ
    go_wp2_with fail
    refine (begin_c _).mono ?_
    rintro e w2 ⟨rfl, hb2⟩
    have x2_0_0 : w2.cell? ⟨w.heap.size, 0, none⟩ = some (.slice A n cap) := keep_cell hb2 (by simp [go_sem, *])
    have x2_0_1 : w2.cell? ⟨w.heap.size, 1, none⟩ = some (.int .i64 o) := keep_cell hb2 (by simp [go_sem, *])
    have x2_0_2 : w2.cell? ⟨w.heap.size, 2, none⟩ = some (.int .i64 m) := keep_cell hb2 (by simp [go_sem, *])
    have y2_0 : w.heap.size < w2.heap.size := cell?_lt x2_0_0
    have g2 : Below w.heap.size w w2 := by (repeat (first | exact Below.refl _ _ | refine Below.drew ?_ | refine Below.allocS ?_ _ | refine Below.step ?_ (by assumption) | refine Below.setCell ?_ (by simp <;> omega) _ | refine Below.drewN' ?_ _))
    clear hb2 g1 x1_0_0 x1_0_1 x1_0_2 y1_0
    go_wp2
    obtain ⟨W3, hW3⟩ : ∃ W3, W3 = w2.alloc (.cells #[.int .i64 0, .int .i64 8, .int .i64 0, .int .i64 0, .int .i64 0, .int .i64 0, .int .i64 0, .int .i64 0, .int .i64 0, .int .i64 0] 84) := ⟨_, rfl⟩
    have hst0 := st_new w2 0 8 (fun _ => 0) 84
    have hst : StA W3 w2.heap.size 0 8 (fun _ => 0) ∧ StF W3 w2.heap.size := by rw [hW3]; exact hst0
    have b23 : Below w2.heap.size w2 W3 := by rw [hW3]; exact Below.allocS (Below.refl _ _) _
    have bw3 : Below w.heap.size w W3 := Below.step (by (repeat (first | exact Below.refl _ _ | refine Below.drew ?_ | refine Below.allocS ?_ _ | refine Below.step ?_ (by assumption) | refine Below.setCell ?_ (by simp <;> omega) _ | refine Below.drewN' ?_ _))) b23
    have k0 : W3.cell? ⟨w.heap.size, 0, none⟩ = some (.slice A n cap) := keep_cell b23 (by simp [go_sem, *])
    have k1 : W3.cell? ⟨w.heap.size, 1, none⟩ = some (.int .i64 o) := keep_cell b23 (by simp [go_sem, *])
    have k2 : W3.cell? ⟨w.heap.size, 2, none⟩ = some (.int .i64 m) := keep_cell b23 (by simp [go_sem, *])
    have y9 : w.heap.size < w2.heap.size := y2_0
    rw [← hW3]
    obtain ⟨p9, hp9⟩ : ∃ p9, p9 = w.heap.size := ⟨_, rfl⟩
    obtain ⟨p10, hp10⟩ : ∃ p10, p10 = w2.heap.size := ⟨_, rfl⟩
    rw [← hp9] at k0 k1 k2 y9
    rw [← hp10] at hst y9
    rw [← hp9, ← hp10]
    have HST := Lib.hid hst
    have HBW := Lib.hid bw3
    have HK := Lib.hid (And.intro k0 (And.intro k1 k2))
    have HP9 := Lib.hid hp9
    have HP910 := Lib.hid y9
    clear g2 hst0 hst b23 bw3 k0 k1 k2 hW3 hp10 hp9
    refine wp_loop_ghost_k (fun k' a' W => ∃ (u12 u13 u34 u35 u36 u37 u38 u39 u46 u47 u48 : Value) (ds : List Deferred) (k l : Nat) (f : Nat → Nat),
      (k + k' = tl ∧ ((t.take k).map Int.toNat).map Int.ofNat = t.take k ∧ isRI K [] t = isRI K ((t.take k).map Int.toNat) (t.drop k) ∧ Rel K ((t.take k).map Int.toNat) l f ∧ l ≤ 8 ∧ W.cell? ⟨p9, 0, none⟩ = some (.slice A n cap) ∧ W.cell? ⟨p9, 1, none⟩ = some (.int .i64 o) ∧ W.cell? ⟨p9, 2, none⟩ = some (.int .i64 m) ∧ StA W p10 k l f ∧ StF W p10 ∧ Mrk w.heap.size W ds ∧ Below w.heap.size w W) ∧
      a' = { tmps := #[.slice A n cap, .int .i64 o, .int .i64 m, .slice B tl cb, undef, undef, undef, undef, .bool false, .pointer (some ⟨p9, 0, none⟩), .pointer (some ⟨p10, 0, none⟩), undef, u12, u13, undef, undef, .slice A n cap, .int .i64 o, .int .i64 m, .agg #[.slice A n cap, .int .i64 o, .int .i64 m], .agg #[.slice A n cap, .int .i64 o, .int .i64 m], .int .i64 0, .bool false, .bool false, .slice B tl cb, .int .i64 tl, .slice A n cap, .int .i64 n, .bool false, .bool false, .agg #[.int .i64 0, .int .i64 8, .int .i64 0, .int .i64 0, .int .i64 0, .int .i64 0, .int .i64 0, .int .i64 0, .int .i64 0, .int .i64 0], .slice B tl cb, .int .i64 tl, .int .i64 k, u34, u35, u36, u37, u38, u39, undef, undef, undef, undef, undef, undef, u46, u47, u48], defers := ds }) tl ?atStart ?round
    case atStart =>
      exact ⟨_, _, _, _, _, _, _, _, _, _, _, [], 0, 8, fun _ => 0, ⟨by omega, rfl, rfl, Rel.start K, by omega, HK.out.1, HK.out.2.1, HK.out.2.2, HST.out.1, HST.out.2, Mrk.nil _ _, HBW.out⟩, rfl⟩
    case round =>
      intro gk a' W hinv
      obtain ⟨u12, u13, u34, u35, u36, u37, u38, u39, u46, u47, u48, ds, k, l, f, ⟨hgk, hmp, his, hrel, hl8, k0, k1, k2, hst, hsf, hmk, hbw⟩, rfl⟩ := hinv
      intro J Kc hJ hKc
      have HMP := Lib.hid hmp
      have HI := Lib.hid his
      have HREL := Lib.hid hrel
      have HST2 := Lib.hid hst
      have HSF := Lib.hid hsf
      have HMK := Lib.hid hmk
      have HBU := Lib.hid hbw
      have ybw := hbw.size
      clear hmp his hrel hmk hsf HK HST HBW
      by_cases hlt : k < tl
      case neg =>
        obtain rfl : tl = k := by omega
        have v1 : decide ((tl : Int) < (tl : Int)) = false := decide_eq_false (by omega)
        obtain rfl : R = true := by rw [HR.out, HI.out, List.drop_of_length_le (by rw [HTL.out]; exact Nat.le_refl _)]; rfl
        clear hst hJ hKc
        go_wp2
        (try simp only [Exit.inBlock, Exit.then])
        refine bodyPostM_marks HMK.out (fun Z' hz hb => ⟨.bool true, by simp [results, Try.results48, go_sem], rfl, HBU.out.trans hb⟩)
      have v1 : decide ((k : Int) < (tl : Int)) = true := decide_eq_true (by omega)
      have v3 : IntKind.i64.wrap ((k : Int) + 1) = (k : Int) + 1 := IntWalk.i64_in _ (by omega)
      have hkt : k < t.length := by rw [HTL.out]; exact hlt
      obtain ⟨b, off, rfl, hb0, hcc⟩ := int_cell HB.out hbw (k := k) hkt
      have c0 := hcc k hkt
      have yb : b < W.heap.size := cell?_lt c0
      have z4 : (k : Int) < (tl : Int) := by omega
      have HDR : Hid (t.drop k = atI t k :: t.drop (k + 1)) := Lib.hid (by rw [List.drop_eq_getElem_cons hkt]; unfold atI; rw [List.getD_eq_getElem?_getD, List.getElem?_eq_getElem hkt]; rfl)
      have HTK : Hid (t.take (k + 1) = t.take k ++ [atI t k]) := Lib.hid (by rw [List.take_add_one, List.getElem?_eq_getElem hkt]; unfold atI; rw [List.getD_eq_getElem?_getD, List.getElem?_eq_getElem hkt]; rfl)
      generalize atI t k = x at *
      clear hcc hkt
      have hHI := HI.out
      rw [HDR.out] at hHI
      have HI3 : Hid (R = ((decide (0 ≤ x) && decide (x < (K.obs : Int))) && (fitB K ((t.take k).map Int.toNat) x.toNat && isRI K ((t.take k).map Int.toNat ++ [x.toNat]) (t.drop (k + 1))))) := Lib.hid (HR.out.trans hHI)
      clear hHI HDR
      have e0 : W.cell? ⟨p10, 2, none⟩ = some (.int .i64 (f 0)) := hst.cs 0 (by omega)
      have e1 : W.cell? ⟨p10, 3, none⟩ = some (.int .i64 (f 1)) := hst.cs 1 (by omega)
      have e2 : W.cell? ⟨p10, 4, none⟩ = some (.int .i64 (f 2)) := hst.cs 2 (by omega)
      have e3 : W.cell? ⟨p10, 5, none⟩ = some (.int .i64 (f 3)) := hst.cs 3 (by omega)
      have e4 : W.cell? ⟨p10, 6, none⟩ = some (.int .i64 (f 4)) := hst.cs 4 (by omega)
      have e5 : W.cell? ⟨p10, 7, none⟩ = some (.int .i64 (f 5)) := hst.cs 5 (by omega)
      have e6 : W.cell? ⟨p10, 8, none⟩ = some (.int .i64 (f 6)) := hst.cs 6 (by omega)
      have e7 : W.cell? ⟨p10, 9, none⟩ = some (.int .i64 (f 7)) := hst.cs 7 (by omega)
      have s0 := hst.c0
      have s1 := hst.c1
      have y10 : p10 < W.heap.size := hst.lt
      have y9' : p9 < W.heap.size := cell?_lt k0
      clear hst
      have HP10 := Lib.hid (show w.heap.size ≤ p10 by have := HP9.out; omega)
      go_wp2_with fail
      refine (next_cI _ _ _ _ _ _ _ _ _).mono ?_
      rintro e w5 ⟨rfl, hw5⟩
      subst hw5
      go_wp2_with fail
      obtain ⟨W4, hW4⟩ : ∃ W4, W4 = (W.alloc (.cells #[.int .i64 x] 3)).alloc (.cells #[.bool false] 4) := ⟨_, rfl⟩
      obtain ⟨W5, hW5⟩ : ∃ W5, W5 = (W4.alloc (.cells #[.slice A n cap, .int .i64 o, .int .i64 m] 80)).alloc (.cells #[.int .i64 k, .int .i64 l, .int .i64 (f 0), .int .i64 (f 1), .int .i64 (f 2), .int .i64 (f 3), .int .i64 (f 4), .int .i64 (f 5), .int .i64 (f 6), .int .i64 (f 7)] 84) := ⟨_, rfl⟩
      have b4 : Below W.heap.size W W4 := by rw [hW4]; (repeat (first | (with_reducible exact Below.refl _ _) | (with_reducible assumption) | (with_reducible refine Below.drew ?_) | (with_reducible refine Below.allocS ?_ _) | (with_reducible refine Below.setCell ?_ ?_ _) | (with_reducible refine Below.step ?_ (by assumption)) | (with_reducible refine Below.drewN' ?_ _))); (try any_goals (first | (with_reducible assumption) | (simp; done) | (simp; omega) | omega))
      have b5 : Below W4.heap.size W4 W5 := by rw [hW5]; (repeat (first | (with_reducible exact Below.refl _ _) | (with_reducible assumption) | (with_reducible refine Below.drew ?_) | (with_reducible refine Below.allocS ?_ _) | (with_reducible refine Below.setCell ?_ ?_ _) | (with_reducible refine Below.step ?_ (by assumption)) | (with_reducible refine Below.drewN' ?_ _))); (try any_goals (first | (with_reducible assumption) | (simp; done) | (simp; omega) | omega))
      have z4' : W4.heap.size = W.heap.size + 2 := by rw [hW4]; simp
      have z5 : W5.heap.size = W.heap.size + 4 := by rw [hW5]; simp [z4']
      have hst5 : StA W5 (W.heap.size + 3) k l f := by
        rw [hW5]
        have := (st_new (W4.alloc (.cells #[.slice A n cap, .int .i64 o, .int .i64 m] 80)) k l f 84).1
        rw [World.size_alloc, z4'] at this
        exact this
      have r0 : W5.cell? ⟨W.heap.size + 2, 0, none⟩ = some (.slice A n cap) := by rw [hW5, ← z4']; simp [go_sem]
      have r1 : W5.cell? ⟨W.heap.size + 2, 1, none⟩ = some (.int .i64 o) := by rw [hW5, ← z4']; simp [go_sem]
      have r2 : W5.cell? ⟨W.heap.size + 2, 2, none⟩ = some (.int .i64 m) := by rw [hW5, ← z4']; simp [go_sem]
      have n12 : W5.cell? ⟨W.heap.size, 0, none⟩ = some (.int .i64 x) := keep_cell b5 (by rw [hW4]; simp [go_sem])
      have n13 : W5.cell? ⟨W.heap.size + 1, 0, none⟩ = some (.bool false) := keep_cell b5 (by rw [hW4]; simp [go_sem])
      have nf : W5.frozen? ⟨W.heap.size + 1, 0, none⟩ = false := keep_frozen b5 (by omega) (by rw [hW4, show W.heap.size + 1 = (W.alloc (.cells #[.int .i64 x] 3)).heap.size by simp]; exact World.frozen?_alloc_new _ _ _ _)
      have bW5 : Below W.heap.size W W5 := Below.step b4 b5
      have bw5 : Below w.heap.size w W5 := Below.step HBU.out bW5
      rw [← hW4, ← hW5]
      obtain ⟨ps, hps⟩ : ∃ ps, ps = W.heap.size + 1 + 1 + 1 := ⟨_, rfl⟩
      obtain ⟨pc, hpc⟩ : ∃ pc, pc = W.heap.size + 1 + 1 := ⟨_, rfl⟩
      obtain ⟨p13, hp13⟩ : ∃ p13, p13 = W.heap.size + 1 := ⟨_, rfl⟩
      obtain ⟨p12, hp12⟩ : ∃ p12, p12 = W.heap.size := ⟨_, rfl⟩
      have hpsz : W.heap.size = p12 := hp12.symm
      rw [← hps, ← hpc, ← hp13, ← hp12]
      have i0 : IsI w A n cap o m k l f x p9 p10 p12 p13 ds [] W5 := ⟨keep_cell bW5 k0, keep_cell bW5 k1, keep_cell bW5 k2, HST2.out.step bW5, HSF.out.of_block (bW5.block p10 y10), by rw [hp12]; exact n12, by rw [hp13]; exact n13, by rw [hp13]; exact nf, HMK.out.step bW5, bw5, fun q hq => by cases hq⟩
      have hMD : ∀ D', { target := .collected D', args := #[] } ∈ ds → D' < W5.heap.size := fun D' hD' => HMK.out.lt bW5 D' hD'
      have hA5 : RdL W5 W5.heap.size inE 1 A (K.can.map Int.ofNat) := HA.out.step bw5
      have hkn : k < n := by omega
      have hlk : ((t.take k).map Int.toNat).length = k := by rw [List.length_map, List.length_take, HTL.out]; omega
      have hseq := next_stops K n HNN.out hn12 hob8 hm12 HCB.out A cap k l f hkn (fun j hj => by have := (HREL.out.at' j hj).1; have := count_len ((t.take k).map Int.toNat) j; omega)
        (fun q => q ≠ p10 ∧ q ≠ p13) pc ps ⟨by omega, by omega⟩ ⟨by omega, by omega⟩ W5 hA5 (fun b off e => by
          obtain ⟨b', off', e', hlt, -⟩ := HA.out (by rw [List.length_map, HNN.out]; omega)
          rw [e] at e'; injection e' with e'; injection e' with e1 e2; have := HP10.out; exact ⟨by omega, by omega⟩) (by rw [hpc]; exact r0) (by rw [HO.out, hpc]; exact r1) (by rw [HM.out, hpc]; exact r2) (by rw [hps]; exact hst5)
      obtain ⟨k1', hk1⟩ : ∃ k1', k1' = k + 1 := ⟨_, rfl⟩
      rw [← hk1] at hseq
      have HK1 := Lib.hid hk1
      have HLK := Lib.hid hlk
      have HSEQ := Lib.hid hseq
      have HI0 := Lib.hid i0
      have HMD := Lib.hid hMD
      have HPP := Lib.hid (show p12 = W.heap.size ∧ p13 = W.heap.size + 1 ∧ W5.heap.size = W.heap.size + 4 ∧ p9 < W.heap.size ∧ p10 < W.heap.size by omega)
      clear hlk hW4 hW5 i0 hMD hA5 hseq hk1 r0 r1 r2 n12 n13 nf hst5 hps hpc hp12 hp13 hpsz e0 e1 e2 e3 e4 e5 e6 e7 s0 s1 k0 k1 k2 y9' y10 c0 yb z4' z5 bW5 bw5 b4 b5
      refine (wpIn_wide (n := 5)).1 ?_
      refine range_set (n := 3) (gf := 114) (lb := #[.pointer (some ⟨pc, 0, none⟩), .pointer (some ⟨ps, 0, none⟩)]) rfl (enters_of Try.func114 (by kernel_rfl) rfl)
        HSEQ.out (Below.refl _ _) ⟨by have := HPP.out; omega, by have := HPP.out; omega⟩ ⟨by have := HPP.out; omega, by have := HPP.out; omega⟩ (fun _ => rfl)
        (IsI w A n cap o m k l f x p9 p10 p12 p13 ds) (fun c pre X => c = .exit 2 ∧ IsX K w A n cap o m k l f x p9 p10 p13 ds X) (fun _ A' B h hb => h.keep hb) (fun c _ A' B h hb => ⟨h.1, h.2.keep hb⟩) (fun _ A' q h => h.put (by have := HPP.out; omega) (by have := HPP.out; omega) (fun D' hD' => by have := HMD.out D' hD'; omega)) (fun c _ A' q h => ⟨h.1, h.2.put (by have := HPP.out; omega) (by have := HPP.out; omega) (fun D' hD' => by have := HMD.out D' hD'; omega)⟩) HI0.out
        (fun y a' X => ∃ By, X.heap[By]? = some (Obj.cells #[.int .i64 k1', .int .i64 y, .int .i64 (K.nx k f y 0), .int .i64 (K.nx k f y 1), .int .i64 (K.nx k f y 2), .int .i64 (K.nx k f y 3), .int .i64 (K.nx k f y 4), .int .i64 (K.nx k f y 5), .int .i64 (K.nx k f y 6), .int .i64 (K.nx k f y 7)] 84 (0, 0)) ∧ a' = { tmps := #[.slice A n cap, .int .i64 o, .int .i64 m, .slice (some ⟨b, off, none⟩) tl cb, undef, undef, undef, undef, .bool false, .pointer (some ⟨p9, 0, none⟩), .pointer (some ⟨p10, 0, none⟩), undef, .pointer (some ⟨p12, 0, none⟩), .pointer (some ⟨p13, 0, none⟩), .int .i64 y, .pointer (some ⟨By, 0, none⟩), .slice A n cap, .int .i64 o, .int .i64 m, .agg #[.slice A n cap, .int .i64 o, .int .i64 m], .agg #[.slice A n cap, .int .i64 o, .int .i64 m], .int .i64 0, .bool false, .bool false, .slice (some ⟨b, off, none⟩) tl cb, .int .i64 tl, .slice A n cap, .int .i64 n, .bool false, .bool false, .agg #[.int .i64 0, .int .i64 8, .int .i64 0, .int .i64 0, .int .i64 0, .int .i64 0, .int .i64 0, .int .i64 0, .int .i64 0, .int .i64 0], .slice (some ⟨b, off, none⟩) tl cb, .int .i64 tl, .int .i64 k, .bool true, .pointer (some ⟨b, off + k, none⟩), .int .i64 x, .agg #[.slice A n cap, .int .i64 o, .int .i64 m], .agg #[.int .i64 k, .int .i64 l, .int .i64 (f 0), .int .i64 (f 1), .int .i64 (f 2), .int .i64 (f 3), .int .i64 (f 4), .int .i64 (f 5), .int .i64 (f 6), .int .i64 (f 7)], .func (.func 114) #[] #[.pointer (some ⟨pc, 0, none⟩), .pointer (some ⟨ps, 0, none⟩)], .int .i64 y, .agg #[.int .i64 k1', .int .i64 y, .int .i64 (K.nx k f y 0), .int .i64 (K.nx k f y 1), .int .i64 (K.nx k f y 2), .int .i64 (K.nx k f y 3), .int .i64 (K.nx k f y 4), .int .i64 (K.nx k f y 5), .int .i64 (K.nx k f y 6), .int .i64 (K.nx k f y 7)], undef, undef, undef, undef, u46, u47, u48], defers := [] })
        (fun y a' X q r o h hk => by
          obtain ⟨By, h1, h2⟩ := h
          refine ⟨By, ?_, h2⟩
          rw [World.putObj_heap_other (by rintro rfl; rw [h1] at hk; cases hk)]; exact h1)
        ?assign ?body ?done ?stop
      case assign =>
        intro l0 pre y X K' hi hs hK'
        gi_wp2
        exact hK' _ _ ((KT.refl _ _).alloc _) (hi.keep ((Below.refl X.heap.size X).alloc (Nat.le_refl _) _)) ⟨X.heap.size, World.alloc_heap_new _ _, rfl⟩
      case body =>
        rintro l0 pre y a' X hl ⟨rr, hrr⟩ hI ⟨By, hBy, rfl⟩ hlen ⟨ho1, hmay⟩
        have HIX := Lib.hid hI
        have q12 := hI.c12
        have q13 := hI.c13
        have fq13 := hI.f13
        by_cases hyx : (y : Int) = x
        case neg =>
          have g1 : ((y : Int) == x) = false := by simp [hyx]
          clear hBy hI hrr
          gi_wp2
          refine And.intro (KT.refl _ _) ?_
          obtain ⟨h1, h2, h3, h4, h5, h6, h7, h8, h9, h10, h11⟩ := HIX.out
          exact ⟨h1, h2, h3, h4, h5, h6, h7, h8, h9, h10, fun q hq => by
            rcases List.mem_append.1 hq with hq | hq
            · exact h11 q hq
            · simp at hq; subst hq; exact hyx⟩
        case pos =>
          have g1 : ((y : Int) == x) = true := by simp [hyx]
          have d0 : X.cell? ⟨By, 0, none⟩ = some (.int .i64 k1') := by simp [World.cell?, hBy]
          have d1 : X.cell? ⟨By, 1, none⟩ = some (.int .i64 y) := by simp [World.cell?, hBy]
          have d2 : X.cell? ⟨By, 2, none⟩ = some (.int .i64 (K.nx k f y 0)) := by simp [World.cell?, hBy]
          have d3 : X.cell? ⟨By, 3, none⟩ = some (.int .i64 (K.nx k f y 1)) := by simp [World.cell?, hBy]
          have d4 : X.cell? ⟨By, 4, none⟩ = some (.int .i64 (K.nx k f y 2)) := by simp [World.cell?, hBy]
          have d5 : X.cell? ⟨By, 5, none⟩ = some (.int .i64 (K.nx k f y 3)) := by simp [World.cell?, hBy]
          have d6 : X.cell? ⟨By, 6, none⟩ = some (.int .i64 (K.nx k f y 4)) := by simp [World.cell?, hBy]
          have d7 : X.cell? ⟨By, 7, none⟩ = some (.int .i64 (K.nx k f y 5)) := by simp [World.cell?, hBy]
          have d8 : X.cell? ⟨By, 8, none⟩ = some (.int .i64 (K.nx k f y 6)) := by simp [World.cell?, hBy]
          have d9 : X.cell? ⟨By, 9, none⟩ = some (.int .i64 (K.nx k f y 7)) := by simp [World.cell?, hBy]
          have hst := hI.st
          have s0 := hst.c0
          have s1 := hst.c1
          have e0 : X.cell? ⟨p10, 2, none⟩ = some (.int .i64 (f 0)) := hst.cs 0 (by omega)
          have e1 : X.cell? ⟨p10, 3, none⟩ = some (.int .i64 (f 1)) := hst.cs 1 (by omega)
          have e2 : X.cell? ⟨p10, 4, none⟩ = some (.int .i64 (f 2)) := hst.cs 2 (by omega)
          have e3 : X.cell? ⟨p10, 5, none⟩ = some (.int .i64 (f 3)) := hst.cs 3 (by omega)
          have e4 : X.cell? ⟨p10, 6, none⟩ = some (.int .i64 (f 4)) := hst.cs 4 (by omega)
          have e5 : X.cell? ⟨p10, 7, none⟩ = some (.int .i64 (f 5)) := hst.cs 5 (by omega)
          have e6 : X.cell? ⟨p10, 8, none⟩ = some (.int .i64 (f 6)) := hst.cs 6 (by omega)
          have e7 : X.cell? ⟨p10, 9, none⟩ = some (.int .i64 (f 7)) := hst.cs 7 (by omega)
          have ff0 : X.frozen? ⟨p10, 0, none⟩ = false := hI.sf 0 (by omega)
          have ff1 : X.frozen? ⟨p10, 1, none⟩ = false := hI.sf 1 (by omega)
          have ff2 : X.frozen? ⟨p10, 2, none⟩ = false := hI.sf 2 (by omega)
          have ff3 : X.frozen? ⟨p10, 3, none⟩ = false := hI.sf 3 (by omega)
          have ff4 : X.frozen? ⟨p10, 4, none⟩ = false := hI.sf 4 (by omega)
          have ff5 : X.frozen? ⟨p10, 5, none⟩ = false := hI.sf 5 (by omega)
          have ff6 : X.frozen? ⟨p10, 6, none⟩ = false := hI.sf 6 (by omega)
          have ff7 : X.frozen? ⟨p10, 7, none⟩ = false := hI.sf 7 (by omega)
          have ff8 : X.frozen? ⟨p10, 8, none⟩ = false := hI.sf 8 (by omega)
          have ff9 : X.frozen? ⟨p10, 9, none⟩ = false := hI.sf 9 (by omega)
          have hpne : p13 ≠ p10 := by have := HPP.out; omega
          have hpne2 : p10 ≠ p13 := by have := HPP.out; omega
          have HBY := Lib.hid hBy
          clear hBy hI hrr hst
          gi_wp2
          obtain ⟨X2, hX2⟩ : ∃ X2, X2 = ((((((((((X.setCell ⟨p10, 0, none⟩ (.int .i64 k1')).setCell ⟨p10, 1, none⟩ (.int .i64 x)).setCell ⟨p10, 2, none⟩ (.int .i64 (K.nx k f y 0))).setCell ⟨p10, 3, none⟩ (.int .i64 (K.nx k f y 1))).setCell ⟨p10, 4, none⟩ (.int .i64 (K.nx k f y 2))).setCell ⟨p10, 5, none⟩ (.int .i64 (K.nx k f y 3))).setCell ⟨p10, 6, none⟩ (.int .i64 (K.nx k f y 4))).setCell ⟨p10, 7, none⟩ (.int .i64 (K.nx k f y 5))).setCell ⟨p10, 8, none⟩ (.int .i64 (K.nx k f y 6))).setCell ⟨p10, 9, none⟩ (.int .i64 (K.nx k f y 7))) := ⟨_, rfl⟩
          have hw2 := st_write X p10 k l f HIX.out.st HIX.out.sf k1' x (K.nx k f y) X2 hX2
          rw [← hX2]
          clear hX2
          obtain ⟨⟨w0, w1', ws⟩, wf, wg⟩ := hw2
          have hI := HIX.out
          have hne := HPP.out
          have hp9 : p9 ≠ p10 := by have := HP910.out; omega
          have bl9 := wg.block p9 (cell?_lt hI.q0) (by intro e; injection e with e; exact hp9 e)
          have bl13 := wg.block p13 (cell?_lt hI.c13) (by intro e; injection e with e; omega)
          have g13 : X2.cell? ⟨p13, 0, none⟩ = some (.bool false) := (World.cell?_of_block (a := ⟨p13, 0, none⟩) bl13).trans hI.c13
          have hg3 : X2.grownBy (X2.setCell ⟨p13, 0, none⟩ (.bool true)) (some p13) := put_grown ⟨rfl, rfl, rfl, Nat.le_refl _, fun i _ _ => rfl⟩ _ rfl
          have hlt2 := wg.size
          have bl9' := hg3.block p9 (Nat.lt_of_lt_of_le (cell?_lt hI.q0) hlt2) (by intro e; injection e with e; omega)
          have bl10' := hg3.block p10 (cell?_lt w0) (by intro e; injection e with e; omega)
          have e9 := bl9'.trans bl9
          refine And.intro (KT.grown (KT.grown (KT.refl _ _) wg (fun k hk hk' => by injection hk with hk; exact hk'.1 hk.symm)) hg3 (fun k hk hk' => by injection hk with hk; exact hk'.2 hk.symm)) ⟨rfl, ?_⟩
          have hbp10 : w.heap.size ≤ p10 := HP10.out
          have hst' : StA X2 p10 (k + 1) y (K.nx k f y) := ⟨by rw [← HK1.out]; exact w0, by rw [hyx]; exact w1', ws⟩
          exact ⟨(World.cell?_of_block (a := ⟨p9, 0, none⟩) e9).trans hI.q0, (World.cell?_of_block (a := ⟨p9, 1, none⟩) e9).trans hI.q1, (World.cell?_of_block (a := ⟨p9, 2, none⟩) e9).trans hI.q2, ⟨y, hst'.of_block bl10', hyx, ho1, hmay⟩, wf.of_block bl10', World.cell?_setCell_same _ _ _ g13,
            (hI.mrk.cells wg (not_def hI.st.c0)).cells hg3 (not_def g13), Below.grown (Below.grown hI.bl wg hI.bl.size (fun k hk => by injection hk with hk; omega)) hg3 (Nat.le_trans hI.bl.size hlt2) (fun k hk => by injection hk with hk; have := HBU.out.size; omega)⟩
      case done =>
        rintro D ys X hD rfl hI hK
        have HIX := Lib.hid hI
        have HK := Lib.hid hK
        have q13 := hI.c13
        have hnone : R = false := by
          rw [HI3.out]
          by_cases hx : (0 ≤ x ∧ x < (K.obs : Int))
          · obtain ⟨q, rfl⟩ : ∃ q : Nat, x = (q : Int) := ⟨x.toNat, by omega⟩
            cases hf : fitB K ((t.take k).map Int.toNat) q with
            | false => rw [Int.toNat_natCast, hf]; simp
            | true =>
              refine absurd rfl (hI.no q ?_)
              have hmay := HREL.out.may (by rw [HLK.out, HNN.out]; omega) (show q < 8 by omega)
              rw [HLK.out, hf] at hmay
              unfold nxL
              exact List.mem_filter.2 ⟨List.mem_range.2 (by omega), hmay⟩
          · have : (decide (0 ≤ x) && decide (x < (K.obs : Int))) = false := by
              rw [Bool.and_eq_false_iff, decide_eq_false_iff_not, decide_eq_false_iff_not]; omega
            rw [this]; rfl
        obtain rfl := hnone
        clear hI hK
        go_wp2
        (try simp only [Exit.inBlock, Exit.then])
        have hmk := HIX.out.mrk.cons HK.out (by have := HPP.out; have := HBU.out.size; omega) (fun D' hD' => by have := HMD.out D' hD'; omega)
        refine bodyPostM_marks hmk (fun Z' hz hb => ⟨.bool false, by simp [results, Try.results48, go_sem], rfl, HIX.out.bl.trans hb⟩)
      case stop =>
        rintro D c pre X hD hS ⟨rfl, hX⟩ hK
        have HX := Lib.hid hX
        have HK := Lib.hid hK
        have q13 := hX.c13
        obtain ⟨y, hst, hyx, hyo, hmay⟩ := hX.st
        have hfit : fitB K ((t.take k).map Int.toNat) y = true := by
          have := HREL.out.may (by rw [HLK.out, HNN.out]; omega) (show y < 8 by omega)
          rw [HLK.out, hmay] at this
          exact this.symm
        have hrel' := HREL.out.nx (by rw [HLK.out, HNN.out]; omega) (show y < 8 by omega) hfit
        rw [HLK.out] at hrel'
        have hmk := HX.out.mrk.cons HK.out (by have := HPP.out; have := HBU.out.size; omega) (fun D' hD' => by have := HMD.out D' hD'; omega)
        have htk : (t.take (k + 1)).map Int.toNat = (t.take k).map Int.toNat ++ [y] := by rw [HTK.out, List.map_append, ← hyx]; rfl
        have his' : isRI K [] t = isRI K ((t.take (k + 1)).map Int.toNat) (t.drop (k + 1)) := by
          rw [← HR.out, HI3.out, htk, ← hyx, decide_eq_true (show (0 : Int) ≤ (y : Int) by omega), decide_eq_true (show (y : Int) < (K.obs : Int) by omega), Int.toNat_natCast, hfit]; rfl
        have hmp' : ((t.take (k + 1)).map Int.toNat).map Int.ofNat = t.take (k + 1) := by rw [htk, List.map_append, HMP.out, HTK.out, ← hyx]; rfl
        rw [← htk] at hrel'
        have HFIN := Lib.hid (And.intro hmp' (And.intro his' (And.intro hrel' (And.intro hst hmk))))
        have hy8 : y ≤ 8 := by omega
        clear hX hK hst hyx hyo hmay hfit hrel' hmk htk his' hmp'
        refine wpIn_wide.2 ?_
        go_wp2
        refine Handed.intro (gk - 1) (by omega) (hJ _ _ _ ?_)
        exact ⟨_, _, _, _, _, _, _, _, _, _, _, _, k + 1, y, K.nx k f y, ⟨by omega, HFIN.out.1, HFIN.out.2.1, HFIN.out.2.2.1, hy8, HX.out.q0, HX.out.q1, HX.out.q2, HFIN.out.2.2.2.1, HX.out.sf, HFIN.out.2.2.2.2, HX.out.bl⟩, rfl⟩
end Go.Proofs.Ytomgaiokmdcjmaa
