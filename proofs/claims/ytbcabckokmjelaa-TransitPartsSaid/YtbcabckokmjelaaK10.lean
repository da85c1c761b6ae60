/-
  Bundle K10: Q40, Q41, Q42, Q43, Q44. Printed by bundle.py.
-/
import Derived.Test.YtbcabckokmjelaaK8
import Derived.Deep.RegionLaw
import Derived.Laws.OwnMore
import Derived.Lib.SliceRun
import Derived.Test.YtbcabckokmjelaaK9
import Derived.Test.YtbcabckokmjelaaA19
namespace Go.Proofs.Ytbcabckokmjelaa
open Go.RowKit Go.Deep
set_option linter.unusedVariables false
set_option linter.unusedSimpArgs false
/-- The cells of a row, laid out. -/
def Fl (W : World) (b off : Nat) (L : List Value) : Prop := ∀ (t : Nat) (u : Value), L[t]? = some u → W.cell? ⟨b, off + t, none⟩ = some u
theorem RdL.of_flat {α : Type} {W : World} {sz b off : Nat} {enc : α → List Value} {l : List α} (hsz : ∀ x, (enc x).length = sz) (h : Fl W b off (l.flatMap enc)) (hb : b < W.heap.size) : RdL W W.heap.size enc sz (some ⟨b, off, none⟩) l := by
  intro hl
  refine ⟨b, off, rfl, hb, fun i hi j v hj => ?_⟩
  have hjs : j < sz := by rw [← hsz l[i]]; exact (List.getElem?_eq_some_iff.1 hj).1
  rw [Nat.add_assoc]
  exact h _ _ (by rw [flat_at enc sz hsz l i j hi hjs]; exact hj)
theorem below_setC {B b : Nat} {a : World} (hb : B ≤ b) : ∀ (vs : List Value) (o : Nat) (w : World), Below B a w → Below B a (w.setCells b o vs)
  | [], _, _, h => h
  | v :: r, o, w, h => below_setC hb r (o + 1) _ (Below.setCell h hb v)
theorem app1S (l : List Sp) (n : Nat) (hn : l.length = n) (hl : n ≤ 1000) (b : Addr) (cap : Nat) (W : World) (g : Nat) (hrow : W.ownsRow g 99 3 (.slice (some ⟨g, 0, none⟩) 0 0) 0 []) (hb : g ≤ W.heap.size)
    (holds : ∀ j u, (l.flatMap stE)[j]? = some u → W.cell? (b.add j) = some u) :
    ∃ v' w', (Builtin.append_ #[75, 75] 75 #[.slice (some ⟨g, 0, none⟩) 0 0, .slice (some b) n cap]).run Try.prog W = .ok v' w' ∧ (w'.ownsRow g 99 3 v' n (l.flatMap stE) ∧ Below g W w') := by
  subst hn
  obtain ⟨i1, z, bytes, hj, hy0, hy1, hy2, hy3, hy4⟩ := appS.info
  obtain ⟨v', w', hrun, r1, r2, -⟩ := run_append_own (P := Try.prog) W g 75 75 99 i1 z 3 bytes appS.ht hj hy0 hy1 hy2 hy3 (by decide) _ 0 [] hrow b l.length cap (l.flatMap stE) (flat_len stE 3 (fun _ => rfl) l) holds (fun u hu => by
    obtain ⟨x, _, hx⟩ := List.mem_flatMap.1 hu
    exact appS.one x u hx) (by unfold maxLen; omega) (by have := Nat.mul_le_mul (show 0 + l.length ≤ 1000 by omega) hy4; omega) hb
  exact ⟨v', w', hrun, by simpa using r1, Below.grow (Below.refl g W) hrow r2 rfl hb⟩
set_option maxHeartbeats 1000000 in
set_option maxRecDepth 100000 in
theorem Clone_c (l : List Sp) (n : Nat) (hn : l.length = n) (hl : n ≤ 1000) (b off cap : Nat) (w : World) (hr : RdL w w.heap.size stE 3 (some ⟨b, off, none⟩) l) :
    Calls Try.prog 78 #[.slice (some ⟨b, off, none⟩) n cap] w fun e w' => (∃ A c, e = .returned (.slice A n c) ∧ w'.ownsRow w.heap.size 99 3 (.slice A n c) n (l.flatMap stE)) ∧ Below w.heap.size w w' := by
  have HA : Hid (∀ (W : World) (g : Nat), Below w.heap.size w W → W.ownsRow g 99 3 (.slice (some ⟨g, 0, none⟩) 0 0) 0 [] → g ≤ W.heap.size → ∃ v' w', (Builtin.append_ #[75, 75] 75 #[.slice (some ⟨g, 0, none⟩) 0 0, .slice (some ⟨b, off, none⟩) n cap]).run Try.prog W = .ok v' w' ∧ (w'.ownsRow g 99 3 v' n (l.flatMap stE) ∧ Below g W w')) :=
    Lib.hid (fun W g hb hrow hg => app1S l n hn hl ⟨b, off, none⟩ cap W g hrow hg (RdL.olds (enc := stE) (l := l) (sz := 3) (fun _ => rfl) (by decide) hr hb _ rfl))
  clear hr hn hl
  have qe : ∀ W, (binOp .eql 75 (.slice (some (⟨b, off, none⟩ : Addr)) n cap) (.slice none 0 0)).run Try.prog W = .ok (.bool false) W := fun W => Lib.run_eql_slice_nil W _ _ _ _ _ _ _ Try.underlying75
  go_enter Try.func78, Try.ntmps78
  go_wp2_with (at_builtin; refine wpList_app rfl (.tmp 5) (.tmp 6) 75 rfl _ _ rfl rfl (HA.out _ w.heap.size (by (repeat (first | (with_reducible exact Below.refl _ _) | (with_reducible assumption) | (with_reducible refine Below.drew ?_) | (with_reducible refine Below.allocS ?_ _) | (with_reducible refine Below.setCell ?_ ?_ _) | (with_reducible refine Below.step ?_ (by assumption)) | (with_reducible refine Below.drewN' ?_ _))); (try any_goals (first | (with_reducible assumption) | (simp; done) | (simp; omega) | omega))) (empty_row _ _ _) (by simp)) ?_; rintro v6 w6 ⟨hown6, hbel6⟩; obtain ⟨A6, c6, rfl, -, -⟩ := row_form hown6; have HO := Lib.hid hown6; have hB6 : Below w.heap.size w w6 := Below.low (by (repeat (first | (with_reducible exact Below.refl _ _) | (with_reducible assumption) | (with_reducible refine Below.drew ?_) | (with_reducible refine Below.allocS ?_ _) | (with_reducible refine Below.setCell ?_ ?_ _) | (with_reducible refine Below.step ?_ (by assumption)) | (with_reducible refine Below.drewN' ?_ _))); (try any_goals (first | (with_reducible assumption) | (simp; done) | (simp; omega) | omega))) hbel6 (Nat.le_refl _); clear hown6 hbel6)
  go_ret
  exact ⟨⟨A6, c6, rfl, HO.out⟩, hB6⟩
theorem clear1 (W : World) (ty : TypeId) (b o c : Nat) (hc : ∀ j, j < 3 → (W.cell? ⟨b, o + j, none⟩).isSome = true) (hf : ∀ j, j < 3 → W.frozen? ⟨b, o + j, none⟩ = false) :
    (Builtin.clear_ #[75] ty #[.slice (some ⟨b, o, none⟩) 1 c]).run Try.prog W = .ok (.tuple #[]) (W.setCells b o [.int .i64 0, .int .i64 0, .int .i64 0]) := by
  have hst := run_storeCells_cells (P := Try.prog) b o [.int .i64 0, .int .i64 0, .int .i64 0] 0 W (by simpa using hc) (by simpa using hf) (by intro v hv'; simp at hv'; subst hv'; rfl)
  simp only [Nat.add_zero] at hst
  have hv : (zeroValue 99).run Try.prog W = .ok (.agg #[.int .i64 0, .int .i64 0, .int .i64 0]) W := by kernel_rfl
  have hz : (Builtin.zeroCells (Value.agg #[.int .i64 0, .int .i64 0, .int .i64 0]).cells 1).toList = [.int .i64 0, .int .i64 0, .int .i64 0] := by kernel_rfl
  simp [Builtin.clear_, run_underlying (Try.underlying75), hv, hz, hst]
set_option maxHeartbeats 1000000 in
set_option maxRecDepth 100000 in
/-- Delete of one strip. -/
theorem Delete_c (l : List Sp) (n i : Nat) (hn : l.length = n) (hi : i < n) (b off cap : Nat) (hcap : n ≤ cap) (hm : cap ≤ maxLen) (w : World) (hF : Fl w b off (l.flatMap stE)) (hfz : ∀ j, w.frozen? ⟨b, j, none⟩ = false) :
    Calls Try.prog 77 #[.slice (some ⟨b, off, none⟩) n cap, .int .i64 i, .int .i64 ((i : Int) + 1)] w fun e w' => e = .returned (.slice (some ⟨b, off, none⟩) (n - 1) cap) ∧ Fl w' b off ((l.take i ++ l.drop (i + 1)).flatMap stE) ∧ ∀ B, B ≤ b → Below B w w' := by
  unfold maxLen at hm
  obtain ⟨p, hp⟩ : ∃ p, p = (l.take i).flatMap stE := ⟨_, rfl⟩
  obtain ⟨news, hnews⟩ : ∃ q, q = (l.drop (i + 1)).flatMap stE := ⟨_, rfl⟩
  have hil : i < l.length := by omega
  obtain ⟨q, hq⟩ : ∃ q, q = stE l[i] := ⟨_, rfl⟩
  have hq3 : q.length = 3 := by rw [hq]; rfl
  have hL : l.flatMap stE = p ++ (q ++ news) := by
    rw [hp, hnews, hq]
    conv => lhs; rw [← List.take_append_drop i l]
    rw [List.flatMap_append, List.drop_eq_getElem_cons hil, List.flatMap_cons]
  have hpl : p.length = i * 3 := by rw [hp, flat_len stE 3 (fun _ => rfl), List.length_take]; congr 1; omega
  have hql : news.length = (n - (i + 1)) * 3 := by rw [hnews, flat_len stE 3 (fun _ => rfl), List.length_drop, hn]
  have hsome : ∀ j, j < n * 3 → ∃ u, w.cell? ⟨b, off + j, none⟩ = some u := fun j hj => by
    have hlen : j < (l.flatMap stE).length := by rw [flat_len stE 3 (fun _ => rfl), hn]; exact hj
    exact ⟨_, hF j _ (List.getElem?_eq_getElem hlen)⟩
  have hone : ∀ u ∈ news, u.oneCell' = true := fun u hu => by
    rw [hnews] at hu
    obtain ⟨x, _, hx⟩ := List.mem_flatMap.1 hu
    exact appS.one x u hx
  rw [hL] at hF
  rw [List.flatMap_append, ← hp, ← hnews]
  clear hp hnews hL hn hq hil
  -- where the part behind lies
  have ⟨off', hX, hsrc⟩ : ∃ off', (if cap = i + 1 then some (⟨b, off, none⟩ : Addr) else some ⟨b, off + (i + 1) * 3, none⟩) = some ⟨b, off', none⟩ ∧ ∀ t u, news[t]? = some u → w.drew.cell? ((⟨b, off', none⟩ : Addr).add t) = some u := by
    by_cases hc : cap = i + 1
    · rw [if_pos hc]
      refine ⟨off, rfl, fun t u hu => ?_⟩
      have h0 : news.length = 0 := by rw [hql]; omega
      rw [List.length_eq_zero_iff.1 h0] at hu
      simp at hu
    · rw [if_neg hc]
      refine ⟨_, rfl, fun t u hu => ?_⟩
      rw [add_off]
      have := hF (p.length + (3 + t)) u (by rw [List.getElem?_append_right (by omega), List.getElem?_append_right (by omega), show p.length + (3 + t) - p.length - q.length = t by omega]; exact hu)
      rw [hpl] at this
      rw [show off + (i + 1) * 3 + t = off + (i * 3 + (3 + t)) by omega]
      exact this
  obtain ⟨W1, hW1⟩ : ∃ W1, W1 = w.drew.setCells b (off + i * 3) news := ⟨_, rfl⟩
  have s3 : ∀ t, t < news.length → (w.drew.cell? ⟨b, off + i * 3 + t, none⟩).isSome = true ∧ w.drew.frozen? ⟨b, off + i * 3 + t, none⟩ = false := fun t ht => by
    obtain ⟨u, hu⟩ := hsome (i * 3 + t) (by omega)
    refine ⟨?_, hfz _⟩
    rw [Nat.add_assoc]
    show (w.cell? _).isSome = true
    rw [hu]; rfl
  have c1 : ∀ j, (w.cell? ⟨b, off + j, none⟩).isSome = true → (W1.cell? ⟨b, off + j, none⟩).isSome = true := fun j hj => by
    rw [hW1]
    exact World.isSome_setCells b news _ _ _ hj
  have f1 : ∀ j, W1.frozen? ⟨b, j, none⟩ = false := fun j => by rw [hW1, World.frozen?_setCells]; exact hfz _
  have hcl : ∀ ty, (Builtin.clear_ #[75] ty #[.slice (some ⟨b, off + (n - 1) * 3, none⟩) 1 (cap - (n - 1))]).run Try.prog W1 = .ok (.tuple #[]) (W1.setCells b (off + (n - 1) * 3) [.int .i64 0, .int .i64 0, .int .i64 0]) := fun ty =>
    clear1 W1 ty b (off + (n - 1) * 3) (cap - (n - 1)) (fun j hj => by
      obtain ⟨u, hu⟩ := hsome ((n - 1) * 3 + j) (by omega)
      rw [Nat.add_assoc]
      exact c1 _ (by rw [hu]; rfl)) (fun j hj => f1 _)
  have HF : Hid (Fl (W1.setCells b (off + (n - 1) * 3) [.int .i64 0, .int .i64 0, .int .i64 0]) b off (p ++ news)) := by
    refine Lib.hid fun t u hu => ?_
    have htl : t < (p ++ news).length := (List.getElem?_eq_some_iff.1 hu).1
    rw [List.length_append, hpl, hql] at htl
    rw [World.cell?_setCells_out b _ _ _ _ (fun _ _ => .inl (by show off + t < off + (n - 1) * 3; omega)), hW1]
    by_cases ht : t < i * 3
    · rw [World.cell?_setCells_out b _ _ _ _ (fun _ _ => .inl (by show off + t < off + i * 3; omega))]
      exact hF t u (by rw [List.getElem?_append_left (by omega)] at hu ⊢; exact hu)
    · have hin : t - i * 3 < news.length := by omega
      have := World.cell?_setCells_in b news (off + i * 3) w.drew (fun j hj => (s3 j hj).1) (t - i * 3) hin
      rw [show off + i * 3 + (t - i * 3) = off + t by omega] at this
      rw [this]
      rw [List.getElem?_append_right (by omega), hpl, List.getElem?_eq_getElem hin] at hu
      exact hu
  have HB : Hid (∀ B, B ≤ b → Below B w (W1.setCells b (off + (n - 1) * 3) [.int .i64 0, .int .i64 0, .int .i64 0])) := Lib.hid fun B hB => by
    rw [hW1]
    exact below_setC hB _ _ _ (below_setC hB _ _ _ (Below.drew (Below.refl _ _)))
  have HW : Hid (W1 = w.drew.setCells b (off + i * 3) news) := Lib.hid hW1
  have HS := Lib.hid hsrc
  have H3 := Lib.hid s3
  have H1 := Lib.hid hone
  have HQ := Lib.hid hql
  have n1 : i + (n - (i + 1)) = n - 1 := by omega
  have n3 : ¬ cap = n - 1 := by omega
  have n4 : n - 1 ≤ cap := by omega
  have n5 : n - 1 ≤ n := by omega
  have n6 : ((n - 1 : Nat) : Int) ≤ (n : Int) := by omega
  have n7 : (0 : Int) ≤ ((n - 1 : Nat) : Int) := by omega
  have n2 : n - (n - 1) = 1 := by omega
  have hic : i ≤ cap := by omega
  have hic2 : i + 1 ≤ cap := by omega
  have e1 : ((i : Int) == (i : Int) + 1) = false := by simp; omega
  have e2 : decide ((i : Int) = (i : Int) + 1) = false := decide_eq_false (by omega)
  have l1 : (0 : Int) ≤ (i : Int) := by omega
  have l0 : (0 : Int) ≤ (i : Int) + 1 := by omega
  have l2 : (i : Int) ≤ (i : Int) + 1 := by omega
  have l3 : (i : Int) + 1 ≤ (n : Int) := by omega
  have l4 : (n : Int) ≤ (cap : Int) := by omega
  have l5 : (i : Int) ≤ (cap : Int) := by omega
  clear hF hfz hsome hsrc hone s3 c1 f1 hW1 hpl hql hq3 hi
  go_enter Try.func77, Try.ntmps77
  go_wp2_with fail
  obtain ⟨i1, z, bytes, hj, hy0, hy1, hy2, hy3, hy4⟩ := appS.info
  have J1 := Lib.hid hj
  have J2 := Lib.hid hy1
  clear hj hy0 hy1 hy2 hy3 hy4
  go_region_law (refine step_append_room rfl (.tmp 22) (.tmp 25) 75 rfl 99 i1 3 appS.ht J1.out J2.out b off i cap (by simp [Act.eval, Act.put]) ⟨b, off', none⟩ (n - (i + 1)) (cap - (i + 1)) news (by simp [Act.eval, Act.put]) HQ.out HS.out H1.out (by omega) H3.out ?_; rw [← HW.out])
  go_wp2_with fail
  go_ret
  exact ⟨rfl, HF.out, HB.out⟩
end Go.Proofs.Ytbcabckokmjelaa
namespace Go.Proofs.Ytbcabckokmjelaa
open Go.RowKit Go.Deep
set_option linter.unusedVariables false
set_option linter.unusedSimpArgs false
/-- Do all but one agree? -/
def agO (s : List Sp) (i : Nat) : Bool := agB (azR (s.take i ++ s.drop (i + 1)))
def OddR (x : Tb) (l : List Tr) (e : Ending) : Prop :=
  (stErr x l = 0 ∧ ((agB (azR (wdL x l)) = true ∧ e = .returned (.tuple #[.int .i64 0, .int .i64 9])) ∨ (agB (azR (wdL x l)) = false ∧
    ((∃ i : Nat, i < l.length ∧ (∀ j, j < i → agO (wdL x l) j = false) ∧ agO (wdL x l) i = true ∧ e = .returned (.tuple #[.int .i64 i, .int .i64 0])) ∨
    ((∀ j, j < l.length → agO (wdL x l) j = false) ∧ e = .returned (.tuple #[.int .i64 0, .int .i64 8])))))) ∨
  (stErr x l ≠ 0 ∧ e = .returned (.tuple #[.int .i64 0, .int .i64 (stErr x l)]))
set_option maxRecDepth 100000 in
set_option maxHeartbeats 2000000 in
theorem Odd_c (x : Tb) (l : List Tr) (A : Option Addr) (cap : Nat) (w : World) (hx : TbAt w x) (hl : l.length ≤ cap) (hm : cap ≤ maxLen) (hr : RdL w w.heap.size trE 5 A l) (ht : ∀ t ∈ l, TrAt w t) :
    Calls Try.prog 42 #[.agg #[.slice x.A x.xs.length x.ca, .int .i64 x.e], .slice A l.length cap] w fun e w' => OddR x l e ∧ Below w.heap.size w w' := by
  have H1 := Lib.hid (fun W (hb : Below w.heap.size w W) => asked_c x l A cap W (hx.step hb) hl hm (hr.step hb) (fun t h => (ht t h).step hb))
  clear hx hl hm hr ht
  by_cases h0 : stErr x l = 0
  · have H1' : Hid (∀ W, Below w.heap.size w W → Calls Try.prog 60 #[.agg #[.slice x.A x.xs.length x.ca, .int .i64 x.e], .slice A l.length cap] W fun e w' => ∃ A' c', e = .returned (.tuple #[.slice A' l.length c', .int .i64 0]) ∧ RdL w' w'.heap.size stE 3 A' (wdL x l) ∧ Below W.heap.size W w') :=
      Lib.hid (fun W hb => (H1.out W hb).mono (by
        rintro e w' ⟨h | h, hb'⟩
        · obtain ⟨-, A', c', h1, h2⟩ := h; exact ⟨A', c', h1, h2, hb'⟩
        · exact absurd h0 h.1))
    have hok := (stErr_ok h0).1
    have hO := okAll_ok hok
    have hn12 : l.length ≤ 12 := by have := hO.n; omega
    have hn1 : 1 ≤ l.length := by have := hO.n; omega
    have HLN := Lib.hid (wdL_len x l)
    have HA : Hid (∀ (A' : Option Addr) c' W, RdL W W.heap.size stE 3 A' (wdL x l) → Calls Try.prog 61 #[.slice A' l.length c'] W fun e w' => e = .returned (.bool (agB (azR (wdL x l)))) ∧ RdL w' w'.heap.size stE 3 A' (wdL x l) ∧ Below W.heap.size W w') :=
      Lib.hid (fun A' c' W hr => (agree_c (wdL x l) l.length (wdL_len x l) (by omega) (wdL_ok hok) A' c' W hr).mono fun e w' h => ⟨h.1, hr.step h.2, h.2⟩)
    have HO : Hid (∀ (k : Nat), k < l.length → ∀ (A' : Option Addr) c' W, RdL W W.heap.size stE 3 A' ((wdL x l).take k ++ (wdL x l).drop (k + 1)) → Calls Try.prog 61 #[.slice A' (l.length - 1) c'] W fun e w' => e = .returned (.bool (agO (wdL x l) k)) ∧ Below W.heap.size W w') :=
      Lib.hid (fun k hk A' c' W hr => agree_c _ (l.length - 1) (by rw [List.length_append, List.length_take, List.length_drop, wdL_len]; omega) (by omega) (fun s hs => wdL_ok hok s (by
        rcases List.mem_append.1 hs with h | h
        · exact List.mem_of_mem_take h
        · exact List.mem_of_mem_drop h)) A' c' W hr)
    have HH := Lib.hid h0
    clear H1 h0 hok hO
    unfold OddR
    generalize l.length = n at *
    generalize wdL x l = s at *
    have HAG := Lib.hid (show ∃ B, B = agB (azR s) from ⟨_, rfl⟩)
    obtain ⟨B, hB⟩ := HAG.out
    rw [← hB] at HA ⊢
    have HBB := Lib.hid hB
    clear hB HAG
    go_enter Try.func42, Try.ntmps42
    go_wp2_with fail
    refine (H1'.out _ (by (repeat (first | exact Below.refl _ _ | refine Below.drew ?_ | refine Below.allocS ?_ _ | refine Below.step ?_ (by assumption) | refine Below.setCell ?_ (by simp <;> omega) _ | refine Below.drewN' ?_ _)))).mono ?_
    rintro e w1 ⟨A1, c1, rfl, r1, hb1⟩
    have x1_0_0 : w1.cell? ⟨w.heap.size, 0, none⟩ = some (.slice x.A x.xs.length x.ca) := keep_cell hb1 (by simp [go_sem, *])
    have x1_0_1 : w1.cell? ⟨w.heap.size, 1, none⟩ = some (.int .i64 x.e) := keep_cell hb1 (by simp [go_sem, *])
    have y1_0 : w.heap.size < w1.heap.size := cell?_lt x1_0_0
    have g1 : Below w.heap.size w w1 := by (repeat (first | exact Below.refl _ _ | refine Below.drew ?_ | refine Below.allocS ?_ _ | refine Below.step ?_ (by assumption) | refine Below.setCell ?_ (by simp <;> omega) _ | refine Below.drewN' ?_ _))
    clear hb1
    have R1 := Lib.hid r1
    obtain ⟨b1, off1, rfl, -, -⟩ := r1 (by rw [HLN.out]; omega)
    clear r1
    go_wp2_with fail
    refine (HA.out _ c1 _ R1.out).mono ?_
    rintro e w2 ⟨rfl, r2, hb2⟩
    have R2 := Lib.hid r2
    clear r2
    have G2 : Below w.heap.size w w2 := Below.low g1 hb2 (by have := g1.size; omega)
    clear hb2
    cases B
    case true =>
      go_wp2
      go_ret2
      exact ⟨.inl ⟨HH.out, rfl⟩, G2⟩
    go_wp2
    go_loopw [24] (fun i wr => ∃ k : Nat, k ≤ n ∧ i = .int .i64 k ∧ (∀ j, j < k → agO s j = false) ∧ Below w2.heap.size w2 wr) (fun i _ => n - (intOf i).toNat)
    case atStart => exact ⟨0, Nat.zero_le _, rfl, fun j h => absurd h (Nat.not_lt_zero j), Below.refl _ _⟩
    case round =>
      rename World => V
      obtain ⟨k, hk, rfl, hno, hbV⟩ := hrel
      have HNO := Lib.hid hno
      have RV := Lib.hid (R2.out.step hbV)
      have hbw : Below w.heap.size w V := Below.low G2 hbV (by have := G2.size; omega)
      clear hno
      by_cases hlt : k < n
      · have u2 : decide ((k : Int) < (n : Int)) = true := decide_eq_true (by omega)
        have u3 : IntKind.i64.wrap ((k : Int) + 1) = (k : Int) + 1 := IntWalk.i64_in _ (by omega)
        have HKN := Lib.hid hlt
        have HF := Lib.hid (HO.out k hlt)
        go_wp2_with fail
        refine (Clone_c s n HLN.out (by omega) b1 off1 c1 V RV.out).mono ?_
        rintro e w3 ⟨⟨A3, c3, rfl, hown⟩, hb3⟩
        have ⟨g3, hv⟩ : ∃ g3, A3 = some ⟨g3, 0, none⟩ := by
          obtain ⟨g3, cap3, hv⟩ := Go.Joins.ownsRow_form hown (by omega)
          injection hv with hA3
          exact ⟨g3, hA3⟩
        subst hv
        have hlo := hown.lt g3 rfl
        have hFl : Fl w3 g3 0 (s.flatMap stE) := fun t u hu => by
          have := hown.cells (g := g3) rfl t u hu
          rw [add_none] at this
          rw [Nat.zero_add]; exact this
        have hfz := World.ownsRow.frozenAt hown
        have ⟨k3, m3⟩ : n ≤ c3 ∧ c3 ≤ maxLen := by
          obtain ⟨_, _, e, h1, h2⟩ := row_form hown
          injection e with _ _ e3
          subst e3
          exact ⟨h1, h2⟩
        have HDL := Lib.hid (Delete_c s n k HLN.out hlt g3 0 c3 k3 m3 w3 hFl hfz)
        have hg3 : g3 < w3.heap.size := hlo.2
        have hg4 : V.heap.size ≤ g3 := hlo.1
        clear hown hFl hfz hlo k3 m3
        go_wp2_with fail
        refine HDL.out.mono ?_
        rintro e w4 ⟨rfl, hF4, hb4⟩
        have hb5 : Below V.heap.size V w4 := Below.low hb3 (hb4 _ hg4) (Nat.le_refl _)
        have hs4 : g3 < w4.heap.size := by have := (hb4 _ hg4).size; omega
        have R4 := Lib.hid (RdL.of_flat (enc := stE) (sz := 3) (fun _ => rfl) hF4 hs4)
        clear hF4 hb4 HDL
        go_wp2_with fail
        refine (HF.out _ c3 _ R4.out).mono ?_
        rintro e w5 ⟨rfl, hb6⟩
        have hb7 : Below V.heap.size V w5 := Below.step hb5 hb6
        have hb8 : Below w2.heap.size w2 w5 := Below.step hbV hb7
        have hb9 : Below w.heap.size w w5 := Below.low hbw hb7 (by have := hbw.size; omega)
        have HAG := Lib.hid (show ∃ B, B = agO s k from ⟨_, rfl⟩)
        obtain ⟨B, hB⟩ := HAG.out
        rw [← hB]
        have HB := Lib.hid hB
        clear hB HAG HF
        cases B
        · go_wp2
          go_roundw
          case rel => exact ⟨k + 1, HKN.out, by go_num, fun j hj => (by rcases Nat.lt_succ_iff_lt_or_eq.1 hj with h | rfl; exact HNO.out j h; exact HB.out.symm), hb8⟩
          case measure => have := HKN.out; simp [intOf]; omega
        · go_wp2
          go_ret2
          exact ⟨.inl ⟨HH.out, .inl ⟨k, HKN.out, HNO.out, HB.out.symm, rfl⟩⟩, hb9⟩
      · obtain rfl : k = n := by omega
        have u2 : decide ((k : Int) < (k : Int)) = false := decide_eq_false (by omega)
        go_wp2
        go_ret2
        exact ⟨.inl ⟨HH.out, .inr ⟨HNO.out, rfl⟩⟩, hbw⟩
  · have H1' : Hid (∀ W, Below w.heap.size w W → Calls Try.prog 60 #[.agg #[.slice x.A x.xs.length x.ca, .int .i64 x.e], .slice A l.length cap] W fun e w' => e = .returned (.tuple #[.slice none 0 0, .int .i64 (stErr x l)]) ∧ Below W.heap.size W w') :=
      Lib.hid (fun W hb => (H1.out W hb).mono (by
        rintro e w' ⟨h | h, hb'⟩
        · exact absurd h.1 h0
        · exact ⟨h.2, hb'⟩))
    have hc := stErr_cases x l
    have HH := Lib.hid (show ∀ e, e = .returned (.tuple #[.int .i64 0, .int .i64 (stErr x l)]) → OddR x l e from fun e h => Or.inr ⟨h0, h⟩)
    clear H1
    generalize stErr x l = E at *
    rcases hc with rfl | rfl | rfl
    · exact absurd rfl h0
    all_goals
      clear h0
      go_enter Try.func42, Try.ntmps42
      go_wp2_with fail
      refine (H1'.out _ (by (repeat (first | exact Below.refl _ _ | refine Below.drew ?_ | refine Below.allocS ?_ _ | refine Below.step ?_ (by assumption) | refine Below.setCell ?_ (by simp <;> omega) _ | refine Below.drewN' ?_ _)))).mono ?_
      rintro e w1 ⟨rfl, hb1⟩
      have x1_0_0 : w1.cell? ⟨w.heap.size, 0, none⟩ = some (.slice x.A x.xs.length x.ca) := keep_cell hb1 (by simp [go_sem, *])
      have x1_0_1 : w1.cell? ⟨w.heap.size, 1, none⟩ = some (.int .i64 x.e) := keep_cell hb1 (by simp [go_sem, *])
      have y1_0 : w.heap.size < w1.heap.size := cell?_lt x1_0_0
      have g1 : Below w.heap.size w w1 := by (repeat (first | exact Below.refl _ _ | refine Below.drew ?_ | refine Below.allocS ?_ _ | refine Below.step ?_ (by assumption) | refine Below.setCell ?_ (by simp <;> omega) _ | refine Below.drewN' ?_ _))
      clear hb1
      go_wp2
      go_ret2
      exact ⟨HH.out _ rfl, by (repeat (first | exact Below.refl _ _ | refine Below.drew ?_ | refine Below.allocS ?_ _ | refine Below.step ?_ (by assumption) | refine Below.setCell ?_ (by simp <;> omega) _ | refine Below.drewN' ?_ _))⟩
end Go.Proofs.Ytbcabckokmjelaa
namespace Go.Proofs.Ytbcabckokmjelaa
open Go.RowKit Go.Deep
set_option linter.unusedVariables false
set_option linter.unusedSimpArgs false
def sn0 : Sn := ⟨0, 0⟩
theorem bits_and_i64 (a b : Nat) (ha : a < 1152921504606846976) (hb : b < 1152921504606846976) : bits .and .i64 (a : Int) (b : Int) = ((a &&& b : Nat) : Int) := by
  have hx : a &&& b < 2 ^ 60 := Nat.and_lt_two_pow _ (by omega)
  have h1 : (BitVec.ofInt 64 (a : Int)).toNat = a := by
    rw [BitVec.ofInt_natCast, BitVec.toNat_ofNat]; exact Nat.mod_eq_of_lt (by omega)
  have h2 : (BitVec.ofInt 64 (b : Int)).toNat = b := by
    rw [BitVec.ofInt_natCast, BitVec.toNat_ofNat]; exact Nat.mod_eq_of_lt (by omega)
  show IntKind.i64.wrap ((BitVec.ofInt 64 (a : Int) &&& BitVec.ofInt 64 (b : Int)).toNat : Int) = _
  rw [BitVec.toNat_and, h1, h2]
  exact IntWalk.i64_in _ (by omega)
theorem bit_andI (m k : Nat) (hm : m < 1152921504606846976) : bits .and .i64 ((m : Int) / 2 ^ k) 1 = if m.testBit k then 1 else 0 := by
  have e : ((m : Int) / 2 ^ k) = ((m / 2 ^ k : Nat) : Int) := by rw [Int.natCast_ediv, Int.natCast_pow]; rfl
  have hlt : m / 2 ^ k < 1152921504606846976 := Nat.lt_of_le_of_lt (Nat.div_le_self _ _) hm
  have h := bits_and_i64 (m / 2 ^ k) 1 hlt (by omega)
  rw [e]
  refine (show bits .and .i64 ((m / 2 ^ k : Nat) : Int) 1 = _ from h).trans ?_
  rw [Nat.and_one_is_mod, Nat.testBit_eq_decide_div_mod_eq]
  have h2 : m / 2 ^ k % 2 = 0 ∨ m / 2 ^ k % 2 = 1 := by omega
  rcases h2 with h2 | h2 <;> rw [h2] <;> rfl
set_option maxRecDepth 100000 in
set_option maxHeartbeats 1000000 in
theorem chosen_c (l : List Sn) (n : Nat) (hln : l.length = n) (hn : n ≤ 60) (m : Nat) (hm : m < 1152921504606846976) (A : Option Addr) (cap : Nat) (w : World) (hr : RdL w w.heap.size snE 2 A l) :
    Calls Try.prog 76 #[.slice A n cap, .int .i64 m] w fun e w' => ∃ A' c', e = .returned (.slice A' (pickK l sn0 m n).length c') ∧ RdL w' w'.heap.size snE 2 A' (pickK l sn0 m n) ∧ Below w.heap.size w w' := by
  have HR := Lib.hid hr
  have HN := Lib.hid hln
  clear hr hln
  go_enter Try.func76, Try.ntmps76
  go_wp2
  go_loopw [5, 10] (fun u i wr => ∃ (k : Nat) (v8 : Value), v8 = u ∧ k ≤ n ∧ i = .int .i64 k ∧ wr.ownsRow w.heap.size 106 2 v8 (pickK l sn0 m k).length ((pickK l sn0 m k).flatMap snE) ∧ Below w.heap.size w wr) (fun _ i _ => n - (intOf i).toNat)
  case atStart => exact ⟨0, _, rfl, Nat.zero_le _, rfl, World.ownsRow_nil _ _ _ _, Below.refl _ _⟩
  case round =>
    obtain ⟨k, v8, rfl, hk, rfl, hown, hbw⟩ := hrel
    obtain ⟨A8, c8, rfl, -, -⟩ := row_form hown
    have HO := Lib.hid hown
    clear hown
    have hsz := hbw.size
    by_cases hlt : k < n
    · have hltl : k < l.length := by rw [HN.out]; exact hlt
      obtain ⟨b, off, rfl, hb0, hc⟩ := HR.out (by omega)
      have c0 := (hbw.cell (p := ⟨b, _, none⟩) hb0).trans (hc k hltl 0 _ rfl)
      have c1 := (hbw.cell (p := ⟨b, _, none⟩) hb0).trans (hc k hltl 1 _ rfl)
      clear hc
      simp at c0
      have y0 : b < wr.heap.size := cell?_lt c0
      have hlen := pickK_len l sn0 m k
      obtain ⟨d, e1⟩ : ∃ s, s = l[k].d := ⟨_, rfl⟩
      obtain ⟨s, e2⟩ : ∃ s, s = l[k].s := ⟨_, rfl⟩
      rw [← e1] at c0
      rw [← e2] at c1
      have HP := Lib.hid (show pickK l sn0 m (k + 1) = if m.testBit k then pickK l sn0 m k ++ [l.getD k sn0] else pickK l sn0 m k from rfl)
      have HK := Lib.hid (show l.getD k sn0 = ⟨d, s⟩ by
        rw [List.getD_eq_getElem?_getD, List.getElem?_eq_getElem hltl, e1, e2]; rfl)
      clear e1 e2 hltl
      cases hb : m.testBit k
      · have b0 : bits .and .i64 ((m : Int) / 2 ^ k) 1 = 0 := by rw [bit_andI m k hm, hb]; rfl
        rw [hb] at HP
        clear hb
        go_wp2
        go_roundw
        case rel => exact ⟨k + 1, _, rfl, by omega, by go_num, by rw [HP.out]; exact HO.out.alloc _, by (repeat (first | (with_reducible exact Below.refl _ _) | (with_reducible assumption) | (with_reducible refine Below.drew ?_) | (with_reducible refine Below.allocS ?_ _) | (with_reducible refine Below.setCell ?_ ?_ _) | (with_reducible refine Below.step ?_ (by assumption)) | (with_reducible refine Below.drewN' ?_ _))); (try any_goals (first | (with_reducible assumption) | (simp; done) | (simp; omega) | omega))⟩
        case measure => simp [intOf]; omega
      · have b0 : bits .and .i64 ((m : Int) / 2 ^ k) 1 = 1 := by rw [bit_andI m k hm, hb]; rfl
        rw [hb] at HP
        clear hb
        have HAPP := Lib.hid (app_run appN (pickK l sn0 m k) (⟨d, s⟩ : Sn) (pickK l sn0 m k).length rfl (by omega) ((wr.alloc (.cells #[.int .i64 d, .int .i64 s] 106)).alloc (.cells #[.int .i64 d, .int .i64 s] 106)) w.heap.size (wr.heap.size + 1) _ ((HO.out.alloc _).alloc _) (by simp; omega) (two_cells (by simp [go_sem]) (by simp [go_sem])))
        have HL := Lib.hid (show (pickK l sn0 m k).length + 1 = (pickK l sn0 m (k + 1)).length by rw [HP.out, if_pos rfl]; simp)
        generalize (pickK l sn0 m k).length = len at *
        go_wp2_with (at_builtin; refine wpList_app rfl (.tmp 20) (.tmp 22) 82 rfl _ _ rfl rfl HAPP.out ?_; rintro v5 w5 ⟨hown5, hbel5⟩; obtain ⟨A5, c5, rfl, -, -⟩ := row_form hown5; have HO5 := Lib.hid hown5; clear hown5; have hB5 : Below w.heap.size w w5 := Below.low (Below.allocS (Below.allocS hbw _) _) hbel5 (Nat.le_refl _); clear hbel5)
        go_roundw
        case rel => exact ⟨k + 1, _, rfl, by omega, by go_num, by rw [← HL.out, HP.out, if_pos rfl, HK.out]; exact HO5.out, by first | exact hB5 | (repeat (first | (with_reducible exact Below.refl _ _) | (with_reducible assumption) | (with_reducible refine Below.drew ?_) | (with_reducible refine Below.allocS ?_ _) | (with_reducible refine Below.setCell ?_ ?_ _) | (with_reducible refine Below.step ?_ (by assumption)) | (with_reducible refine Below.drewN' ?_ _))); (try any_goals (first | (with_reducible assumption) | (simp; done) | (simp; omega) | omega))⟩
        case measure => simp [intOf]; omega
    · obtain rfl : k = n := by omega
      have HQ := Lib.hid (show ∃ len, len = (pickK l sn0 m k).length from ⟨_, rfl⟩)
      obtain ⟨len, hlen⟩ := HQ.out
      rw [← hlen] at HO ⊢
      have HLEN := Lib.hid hlen
      clear hlen HQ
      go_wp2
      go_ret
      exact ⟨A8, c8, by rw [← HLEN.out]; rfl, RdL.of_own (fun _ => rfl) HO.out HLEN.out.symm, hbw⟩
end Go.Proofs.Ytbcabckokmjelaa
namespace Go.Proofs.Ytbcabckokmjelaa
open Go.RowKit Go.Deep
set_option linter.unusedVariables false
set_option linter.unusedSimpArgs false
/-- The numbers whose bits are set. -/
def memL (m N : Nat) : List Nat := (List.range N).filter (fun i => m.testBit i)
theorem memL_succ (m k : Nat) : memL m (k + 1) = if m.testBit k then memL m k ++ [k] else memL m k := by
  unfold memL
  rw [List.range_succ, List.filter_append]
  cases h : m.testBit k <;> simp [h]
theorem memL_len (m : Nat) : ∀ k, (memL m k).length ≤ k
  | 0 => Nat.le_refl _
  | k + 1 => by have := memL_len m k; rw [memL_succ]; split <;> simp <;> omega
theorem memL_high {m k : Nat} (h : m < 2 ^ k) : ∀ d, memL m (k + d) = memL m k
  | 0 => rfl
  | d + 1 => by
    rw [← Nat.add_assoc, memL_succ, if_neg, memL_high h d]
    rw [Nat.testBit_lt_two_pow (Nat.lt_of_lt_of_le h (Nat.pow_le_pow_right (by omega) (by omega)))]; simp
theorem memL_eq {m k N : Nat} (h : m < 2 ^ k) (hk : k ≤ N) : memL m N = memL m k := by
  have := memL_high h (N - k)
  rwa [show k + (N - k) = N by omega] at this
set_option maxRecDepth 100000 in
set_option maxHeartbeats 1000000 in
theorem members_c (m N : Nat) (hN : N ≤ 60) (hm : m < 2 ^ N) (w : World) :
    Calls Try.prog 74 #[.int .i64 m] w fun e w' => (∃ A c, e = .returned (.slice A (memL m N).length c) ∧ RdL w' w'.heap.size inE 1 A ((memL m N).map Int.ofNat)) ∧ Below w.heap.size w w' := by
  have HM := Lib.hid hm
  have hm60 : m < 1152921504606846976 := Nat.lt_of_lt_of_le hm (Nat.pow_le_pow_right (by omega) hN)
  clear hm
  go_enter Try.func74, Try.ntmps74
  go_wp2
  go_loopw [3, 4] (fun u i wr => ∃ (k : Nat) (v8 : Value), v8 = u ∧ k ≤ N ∧ i = .int .i64 k ∧ wr.ownsRow w.heap.size 3 1 v8 (memL m k).length (((memL m k).map Int.ofNat).flatMap inE) ∧ Below w.heap.size w wr) (fun _ i _ => N - (intOf i).toNat)
  case atStart => exact ⟨0, _, rfl, Nat.zero_le _, rfl, World.ownsRow_nil _ _ _ _, Below.refl _ _⟩
  case round =>
    obtain ⟨k, v8, rfl, hk, rfl, hown, hbw⟩ := hrel
    obtain ⟨A8, c8, rfl, -, -⟩ := row_form hown
    have HO := Lib.hid hown
    clear hown
    have hsz := hbw.size
    have hq : ((m : Int) / 2 ^ k) = ((m / 2 ^ k : Nat) : Int) := by rw [Int.natCast_ediv, Int.natCast_pow]; rfl
    by_cases hlt : 0 < m / 2 ^ k
    · have hkN : k < N := by
        rcases Nat.lt_or_ge k N with h | h
        · exact h
        · have : m / 2 ^ k = 0 := Nat.div_eq_of_lt (Nat.lt_of_lt_of_le HM.out (Nat.pow_le_pow_right (by omega) h))
          omega
      have y1 : decide ((m : Int) / 2 ^ k > 0) = true := decide_eq_true (by rw [hq]; omega)
      have y2 : decide (0 < (m : Int) / 2 ^ k) = true := decide_eq_true (by rw [hq]; omega)
      have HP := Lib.hid (memL_succ m k)
      have hlen := memL_len m k
      have u3 : IntKind.i64.wrap ((k : Int) + 1) = (k : Int) + 1 := IntWalk.i64_in _ (by omega)
      clear hq hlt
      cases hb : m.testBit k
      · have b0 : bits .and .i64 ((m : Int) / 2 ^ k) 1 = 0 := by rw [bit_andI m k hm60, hb]; rfl
        rw [hb] at HP
        clear hb
        go_wp2
        go_roundw
        case rel => exact ⟨k + 1, _, rfl, by omega, by go_num, by rw [HP.out]; exact HO.out, by (repeat (first | (with_reducible exact Below.refl _ _) | (with_reducible assumption) | (with_reducible refine Below.drew ?_) | (with_reducible refine Below.allocS ?_ _) | (with_reducible refine Below.setCell ?_ ?_ _) | (with_reducible refine Below.step ?_ (by assumption)) | (with_reducible refine Below.drewN' ?_ _))); (try any_goals (first | (with_reducible assumption) | (simp; done) | (simp; omega) | omega))⟩
        case measure => simp [intOf]; omega
      · have b0 : bits .and .i64 ((m : Int) / 2 ^ k) 1 = 1 := by rw [bit_andI m k hm60, hb]; rfl
        rw [hb] at HP
        clear hb
        have HAPP := Lib.hid (app_run appI ((memL m k).map Int.ofNat) (k : Int) (memL m k).length (List.length_map ..) (by omega) (wr.alloc (.cells #[.int .i64 k] 3)) w.heap.size wr.heap.size _ (HO.out.alloc _) (by simp; omega) (one_cell (enc := inE) rfl (by simp [go_sem])))
        have HL := Lib.hid (show (memL m k).length + 1 = (memL m (k + 1)).length by rw [HP.out, if_pos rfl]; simp)
        generalize (memL m k).length = len at *
        go_wp2_with (at_builtin; refine wpList_app rfl (.tmp 16) (.tmp 18) 22 rfl _ _ rfl rfl HAPP.out ?_; rintro v5 w5 ⟨hown5, hbel5⟩; obtain ⟨A5, c5, rfl, -, -⟩ := row_form hown5; have HO5 := Lib.hid hown5; clear hown5; have hB5 : Below w.heap.size w w5 := Below.low (Below.allocS hbw _) hbel5 (Nat.le_refl _); clear hbel5)
        go_roundw
        case rel => exact ⟨k + 1, _, rfl, by omega, by go_num, by rw [← HL.out, HP.out, if_pos rfl, List.map_append]; exact HO5.out, by first | exact hB5 | (repeat (first | (with_reducible exact Below.refl _ _) | (with_reducible assumption) | (with_reducible refine Below.drew ?_) | (with_reducible refine Below.allocS ?_ _) | (with_reducible refine Below.setCell ?_ ?_ _) | (with_reducible refine Below.step ?_ (by assumption)) | (with_reducible refine Below.drewN' ?_ _))); (try any_goals (first | (with_reducible assumption) | (simp; done) | (simp; omega) | omega))⟩
        case measure => simp [intOf]; omega
    · have h0 : m / 2 ^ k = 0 := Nat.eq_zero_of_not_pos hlt
      have y1 : decide ((m : Int) / 2 ^ k > 0) = false := decide_eq_false (by rw [hq]; omega)
      have y2 : decide (0 < (m : Int) / 2 ^ k) = false := decide_eq_false (by rw [hq]; omega)
      have hmk : m < 2 ^ k := by
        rcases Nat.lt_or_ge m (2 ^ k) with h | h
        · exact h
        · exact absurd h0 (Nat.ne_of_gt (Nat.div_pos h (Nat.two_pow_pos k)))
      have HE := Lib.hid (memL_eq hmk hk)
      clear h0 hq hmk hlt
      have HQ := Lib.hid (show ∃ len, len = (memL m k).length from ⟨_, rfl⟩)
      obtain ⟨len, hlen⟩ := HQ.out
      rw [← hlen] at HO ⊢
      have HLEN := Lib.hid hlen
      clear hlen HQ
      go_wp2
      go_ret
      exact ⟨⟨A8, c8, by rw [HE.out, ← HLEN.out]; rfl, by rw [HE.out]; exact RdL.of_own (fun _ => rfl) HO.out (by rw [List.length_map]; exact HLEN.out.symm)⟩, hbw⟩
/-- One list comes before another. -/
def earl : List Nat → List Nat → Bool
  | a :: xs, b :: ys => if a = b then earl xs ys else decide (a < b)
  | [], _ :: _ => true
  | _, [] => false
set_option maxRecDepth 100000 in
set_option maxHeartbeats 1000000 in
theorem Earlier_c (l r : List Nat) (n m : Nat) (hn : l.length = n) (hm : r.length = m) (h1 : n ≤ 1000) (h2 : m ≤ 1000) (A B : Option Addr) (ca cb : Nat) (w : World) (ha : RdL w w.heap.size inE 1 A (l.map Int.ofNat)) (hb : RdL w w.heap.size inE 1 B (r.map Int.ofNat)) :
    Calls Try.prog 75 #[.slice A n ca, .slice B m cb] w fun e w' => e = .returned (.bool (earl l r)) ∧ Below w.heap.size w w' := by
  have HA := Lib.hid ha
  have HB := Lib.hid hb
  have HN := Lib.hid hn
  have HM := Lib.hid hm
  clear ha hb hn hm
  go_enter Try.func75, Try.ntmps75
  go_wp2
  go_loopw [5] (fun i wr => ∃ k : Nat, k ≤ n ∧ k ≤ m ∧ i = .int .i64 k ∧ earl l r = earl (l.drop k) (r.drop k) ∧ Below w.heap.size w wr) (fun i _ => n - (intOf i).toNat)
  case atStart => exact ⟨0, Nat.zero_le _, Nat.zero_le _, rfl, rfl, Below.refl _ _⟩
  case round =>
    obtain ⟨k, hk, hk2, rfl, he, hbw⟩ := hrel
    have HE := Lib.hid he
    clear he
    by_cases hlt : k < n
    · have y1 : decide ((k : Int) < (n : Int)) = true := decide_eq_true (by omega)
      by_cases hlt2 : k < m
      · have y2 : decide ((k : Int) < (m : Int)) = true := decide_eq_true (by omega)
        have hl1 : k < l.length := by rw [HN.out]; exact hlt
        have hl2 : k < r.length := by rw [HM.out]; exact hlt2
        obtain ⟨p, hp⟩ : ∃ p, p = l[k] := ⟨_, rfl⟩
        obtain ⟨q, hq⟩ : ∃ q, q = r[k] := ⟨_, rfl⟩
        have HD := Lib.hid (show earl (l.drop k) (r.drop k) = if p = q then earl (l.drop (k + 1)) (r.drop (k + 1)) else decide (p < q) by
          rw [List.drop_eq_getElem_cons hl1, List.drop_eq_getElem_cons hl2, ← hp, ← hq]; rfl)
        obtain ⟨b, off, rfl, hb0, hc⟩ := HA.out (by rw [List.length_map]; omega)
        obtain ⟨b', off', rfl, hb0', hc'⟩ := HB.out (by rw [List.length_map]; omega)
        have c0 := (hbw.cell (p := ⟨b, _, none⟩) hb0).trans (hc k (by rw [List.length_map]; exact hl1) 0 _ rfl)
        have d0 := (hbw.cell (p := ⟨b', _, none⟩) hb0').trans (hc' k (by rw [List.length_map]; exact hl2) 0 _ rfl)
        clear hc hc'
        have e0 : ‹World›.cell? ⟨b, off + k, none⟩ = some (.int .i64 p) := by rw [hp]; simpa using c0
        have f0 : ‹World›.cell? ⟨b', off' + k, none⟩ = some (.int .i64 q) := by rw [hq]; simpa using d0
        clear c0 d0 hp hq hl1 hl2
        have u1 : (0 : Int) ≤ (k : Int) := by omega
        have u3 : IntKind.i64.wrap ((k : Int) + 1) = (k : Int) + 1 := IntWalk.i64_in _ (by omega)
        by_cases hpq : p = q
        · subst hpq
          go_wp2_with fail
          go_quiet (fail)
          go_wp2
          go_roundw
          case rel => exact ⟨k + 1, by omega, by omega, by go_num, by rw [HE.out, HD.out]; simp, by (repeat (first | (with_reducible exact Below.refl _ _) | (with_reducible assumption) | (with_reducible refine Below.drew ?_) | (with_reducible refine Below.allocS ?_ _) | (with_reducible refine Below.setCell ?_ ?_ _) | (with_reducible refine Below.step ?_ (by assumption)) | (with_reducible refine Below.drewN' ?_ _))); (try any_goals (first | (with_reducible assumption) | (simp; done) | (simp; omega) | omega))⟩
          case measure => simp [intOf]; omega
        · have q1 : ((p : Int) != (q : Int)) = true := by simp; omega
          have q2 : ((p : Int) == (q : Int)) = false := by simp; omega
          have q3 : decide ((p : Int) = (q : Int)) = false := decide_eq_false (by omega)
          have HR := Lib.hid (show earl l r = decide (p < q) by rw [HE.out, HD.out, if_neg hpq])
          clear hpq
          go_wp2_with fail
          go_quiet (fail)
          go_wp2_with fail
          go_quiet (fail)
          go_wp2
          go_ret
          exact ⟨by rw [HR.out]; first | rfl | (simp; done) | (simp; omega), by (repeat (first | (with_reducible exact Below.refl _ _) | (with_reducible assumption) | (with_reducible refine Below.drew ?_) | (with_reducible refine Below.allocS ?_ _) | (with_reducible refine Below.setCell ?_ ?_ _) | (with_reducible refine Below.step ?_ (by assumption)) | (with_reducible refine Below.drewN' ?_ _))); (try any_goals (first | (with_reducible assumption) | (simp; done) | (simp; omega) | omega))⟩
      · obtain rfl : k = m := by omega
        have y2 : decide ((k : Int) < (k : Int)) = false := decide_eq_false (by omega)
        have HR := Lib.hid (show earl l r = false by
          rw [HE.out, List.drop_of_length_le (l := r) (by rw [HM.out]; exact Nat.le_refl _)]
          cases l.drop k <;> rfl)
        have y3 : decide ((n : Int) < (k : Int)) = false := decide_eq_false (by omega)
        go_wp2
        go_ret
        exact ⟨by rw [HR.out]; first | rfl | (simp; done) | (simp; omega), by (repeat (first | (with_reducible exact Below.refl _ _) | (with_reducible assumption) | (with_reducible refine Below.drew ?_) | (with_reducible refine Below.allocS ?_ _) | (with_reducible refine Below.setCell ?_ ?_ _) | (with_reducible refine Below.step ?_ (by assumption)) | (with_reducible refine Below.drewN' ?_ _))); (try any_goals (first | (with_reducible assumption) | (simp; done) | (simp; omega) | omega))⟩
    · obtain rfl : k = n := by omega
      have y1 : decide ((k : Int) < (k : Int)) = false := decide_eq_false (by omega)
      have HR := Lib.hid (show earl l r = decide (k < m) by
        rw [HE.out, List.drop_of_length_le (l := l) (by rw [HN.out]; exact Nat.le_refl _)]
        have hlen : (r.drop k).length = m - k := by rw [List.length_drop, HM.out]
        cases hd : r.drop k with
        | nil => rw [hd] at hlen; simp at hlen; unfold earl; symm; exact decide_eq_false (by omega)
        | cons a t => rw [hd] at hlen; simp at hlen; unfold earl; symm; exact decide_eq_true (by omega))
      go_wp2
      go_ret
      exact ⟨by rw [HR.out]; first | rfl | (simp; done) | (simp; omega), by (repeat (first | (with_reducible exact Below.refl _ _) | (with_reducible assumption) | (with_reducible refine Below.drew ?_) | (with_reducible refine Below.allocS ?_ _) | (with_reducible refine Below.setCell ?_ ?_ _) | (with_reducible refine Below.step ?_ (by assumption)) | (with_reducible refine Below.drewN' ?_ _))); (try any_goals (first | (with_reducible assumption) | (simp; done) | (simp; omega) | omega))⟩
end Go.Proofs.Ytbcabckokmjelaa
namespace Go.Proofs.Ytbcabckokmjelaa
open Go.RowKit Go.Deep
set_option linter.unusedVariables false
set_option linter.unusedSimpArgs false
/-- Do the strips of a set agree? -/
def agM (s : List Sp) (n m : Nat) : Bool := agB (azR (selL s sp0 (memL m n)))
theorem memL_lt {m n : Nat} : ∀ i ∈ memL m n, i < n := fun i hi => by
  unfold memL at hi
  exact List.mem_range.1 (List.mem_filter.1 hi).1
theorem mem_memL {m n i : Nat} : i ∈ memL m n ↔ i < n ∧ m.testBit i = true := by
  unfold memL
  rw [List.mem_filter, List.mem_range]
theorem pick_map {x : Tb} {l : List Tr} (e : Int) (m : Nat) : (pickK (snL x l) sn0 m l.length).map (snSp e) = selL ((stL x l).map (widen e)) sp0 (memL m l.length) := by
  rw [← snL_wid, pickK_filter]
  exact (sel_map (snSp e) (snL x l) sn0 sp0 (memL m l.length) (fun i hi => by unfold snL; rw [List.length_map]; exact memL_lt i hi)).symm
theorem pick_sn {x : Tb} {l : List Tr} (m : Nat) : ∀ s ∈ pickK (snL x l) sn0 m l.length, s ∈ snL x l := pickK_mem (by unfold snL; rw [List.length_map]; exact Nat.le_refl _)
/-- All but one. -/
theorem agM_odd {s : List Sp} {n i : Nat} (hn : s.length = n) (hi : i < n) : agM s n (2 ^ n - 1 - 2 ^ i) = agO s i := by
  have hp : 2 ^ i < 2 ^ n := Nat.pow_lt_pow_right (by omega) hi
  have hb : ∀ j, (2 ^ n - 1 - 2 ^ i).testBit j = (decide (j < n) && !(decide (i = j))) := fun j => by
    rw [show 2 ^ n - 1 - 2 ^ i = 2 ^ n - (2 ^ i + 1) by omega, Nat.testBit_two_pow_sub_succ hp, Nat.testBit_two_pow]
  have hm : ∀ t, t ∈ selL s sp0 (memL (2 ^ n - 1 - 2 ^ i) n) ↔ t ∈ s.take i ++ s.drop (i + 1) := fun t => by
    rw [mem_sel]
    constructor
    · rintro ⟨j, hj, rfl⟩
      obtain ⟨h1, h2⟩ := mem_memL.1 hj
      rw [hb] at h2
      have hne : i ≠ j := by simp at h2; exact h2.2
      have hjl : j < s.length := by omega
      rw [List.getD_eq_getElem?_getD, List.getElem?_eq_getElem hjl]
      rcases Nat.lt_or_gt_of_ne hne with h | h
      · refine List.mem_append_right _ (List.mem_iff_getElem?.2 ⟨j - (i + 1), ?_⟩)
        rw [List.getElem?_drop, show i + 1 + (j - (i + 1)) = j by omega, List.getElem?_eq_getElem hjl]; rfl
      · refine List.mem_append_left _ (List.mem_iff_getElem?.2 ⟨j, ?_⟩)
        rw [List.getElem?_take, if_pos h, List.getElem?_eq_getElem hjl]; rfl
    · intro ht
      rcases List.mem_append.1 ht with h | h
      · obtain ⟨j, hj⟩ := List.mem_iff_getElem?.1 h
        rw [List.getElem?_take] at hj
        split at hj
        · rename_i hji
          refine ⟨j, mem_memL.2 ⟨by omega, by rw [hb]; simp; omega⟩, ?_⟩
          rw [List.getD_eq_getElem?_getD, hj]; rfl
        · cases hj
      · obtain ⟨j, hj⟩ := List.mem_iff_getElem?.1 h
        rw [List.getElem?_drop] at hj
        have := (List.getElem?_eq_some_iff.1 hj).1
        refine ⟨i + 1 + j, mem_memL.2 ⟨by omega, by rw [hb]; simp; omega⟩, ?_⟩
        rw [List.getD_eq_getElem?_getD, hj]; rfl
  unfold agM agO
  cases h1 : agB (azR (selL s sp0 (memL (2 ^ n - 1 - 2 ^ i) n))) with
  | true => exact (az_mono (fun t ht => (hm t).2 ht) h1).symm
  | false =>
    cases h2 : agB (azR (s.take i ++ s.drop (i + 1))) with
    | false => rfl
    | true => rw [az_mono (fun t ht => (hm t).1 ht) h2] at h1; cases h1
set_option maxRecDepth 100000 in
set_option maxHeartbeats 2000000 in
theorem rTightest_c (x : Tb) (l : List Tr) (A : Option Addr) (cap : Nat) (w : World) (hx : TbAt w x) (hl : l.length ≤ cap) (hm : cap ≤ maxLen) (hr : RdL w w.heap.size trE 5 A l) (ht : ∀ t ∈ l, TrAt w t) :
    Calls Try.prog 44 #[.agg #[.slice x.A x.xs.length x.ca, .int .i64 x.e], .slice A l.length cap] w fun e w' => TightR x l e ∧ Below w.heap.size w w' := by
  have H1 := Lib.hid (fun W (hb : Below w.heap.size w W) => differences_c x l A cap W (hx.step hb) hl hm (hr.step hb) (fun t h => (ht t h).step hb))
  clear hx hl hm hr ht
  by_cases h0 : stErr x l = 0
  · have H1' : Hid (∀ W, Below w.heap.size w W → Calls Try.prog 66 #[.agg #[.slice x.A x.xs.length x.ca, .int .i64 x.e], .slice A l.length cap] W fun e w' => ∃ A' c', e = .returned (.tuple #[.slice A' l.length c', .int .i64 0]) ∧ RdL w' w'.heap.size snE 2 A' (snL x l) ∧ Below W.heap.size W w') :=
      Lib.hid (fun W hb => (H1.out W hb).mono (by
        rintro e w' ⟨h | h, hb'⟩
        · obtain ⟨-, A', c', h1, h2⟩ := h; exact ⟨A', c', h1, h2, hb'⟩
        · exact absurd h0 h.1))
    have hok := (stErr_ok h0).1
    have hO := okAll_ok hok
    have hn12 : l.length ≤ 12 := by have := hO.n; omega
    have hn1 : 1 ≤ l.length := by have := hO.n; omega
    have hln : (snL x l).length = l.length := by unfold snL; rw [List.length_map]
    have HA : Hid (∀ m : Int, 0 ≤ m → m ≤ 1000000 → ∀ (A' : Option Addr) (c' : Nat) (W : World), RdL W W.heap.size snE 2 A' (snL x l) → Calls Try.prog 67 #[.slice A' l.length c', .int .i64 m] W fun e w' => e = .returned (.bool (agW x l m)) ∧ RdL w' w'.heap.size snE 2 A' (snL x l) ∧ Below W.heap.size W w') :=
      Lib.hid (fun m h1 h2 A' c' W hr => by
        have := ragree_c (snL x l) l.length hln (by omega) (snL_ok hok) m ⟨h1, h2⟩ A' c' W hr
        rw [snL_wid] at this
        exact this.mono fun e w' h => ⟨h.1, hr.step h.2, h.2⟩)
    have HM : Hid (∀ m n : Int, m ≤ n → agW x l m = true → agW x l n = true) := Lib.hid (fun m n h => agW_mono h)
    have HH := Lib.hid h0
    clear H1 h0 hok hO hln
    unfold TightR
    generalize agW x l = ag at *
    generalize l.length = n at *
    generalize snL x l = s at *
    have HAG := Lib.hid (show ∃ B, B = ag 1000000 from ⟨_, rfl⟩)
    obtain ⟨B, hB⟩ := HAG.out
    have HA0 := Lib.hid (HA.out 1000000 (by omega) (by omega))
    rw [← hB] at HA0
    have HBB := Lib.hid hB
    clear hB HAG
    go_enter Try.func44, Try.ntmps44
    go_wp2_with fail
    refine (H1'.out _ (by (repeat (first | exact Below.refl _ _ | refine Below.drew ?_ | refine Below.allocS ?_ _ | refine Below.step ?_ (by assumption) | refine Below.setCell ?_ (by simp <;> omega) _ | refine Below.drewN' ?_ _)))).mono ?_
    rintro e w1 ⟨A1, c1, rfl, r1, hb1⟩
    have x1_0_0 : w1.cell? ⟨w.heap.size, 0, none⟩ = some (.slice x.A x.xs.length x.ca) := keep_cell hb1 (by simp [go_sem, *])
    have x1_0_1 : w1.cell? ⟨w.heap.size, 1, none⟩ = some (.int .i64 x.e) := keep_cell hb1 (by simp [go_sem, *])
    have y1_0 : w.heap.size < w1.heap.size := cell?_lt x1_0_0
    have g1 : Below w.heap.size w w1 := by (repeat (first | exact Below.refl _ _ | refine Below.drew ?_ | refine Below.allocS ?_ _ | refine Below.step ?_ (by assumption) | refine Below.setCell ?_ (by simp <;> omega) _ | refine Below.drewN' ?_ _))
    clear hb1
    have R1 := Lib.hid r1
    clear r1
    go_wp2_with fail
    refine (HA0.out A1 c1 _ R1.out).mono ?_
    rintro e w2 ⟨rfl, r2, hb2⟩
    have R2 := Lib.hid r2
    clear r2
    have G2 : Below w.heap.size w w2 := Below.low g1 hb2 (by have := g1.size; omega)
    clear hb2
    cases B
    · go_wp2
      go_ret2
      exact ⟨.inl ⟨HH.out, .inr ⟨fun j h1 h2 => (by cases hj : ag j with | false => rfl | true => exact absurd (HM.out j 1000000 h2 hj) (by rw [← HBB.out]; simp)), rfl⟩⟩, G2⟩
    go_wp2
    go_loopw [8, 9] (fun i j wr => ∃ a b : Int, i = .int .i64 a ∧ j = .int .i64 b ∧ -1 ≤ a ∧ a < b ∧ b ≤ 1000000 ∧ (0 ≤ a → ag a = false) ∧ ag b = true ∧ Below w2.heap.size w2 wr) (fun i j _ => (intOf j - intOf i).toNat)
    case atStart => exact ⟨-1, 1000000, rfl, rfl, by omega, by omega, by omega, fun h => by omega, HBB.out.symm, Below.refl _ _⟩
    case round =>
      rename World => V
      obtain ⟨a, b, rfl, rfl, ha, hab, hb, hlo, hhi, hbV⟩ := hrel
      have HLO := Lib.hid hlo
      have HHI := Lib.hid hhi
      have RV := Lib.hid (R2.out.step hbV)
      have hbw : Below w.heap.size w V := Below.low G2 hbV (by have := G2.size; omega)
      have u0 : IntKind.i64.wrap (b - a) = b - a := IntWalk.i64_in _ (by omega)
      clear hlo hhi
      by_cases hlt : 1 < b - a
      · have u1 : decide (b - a > 1) = true := decide_eq_true hlt
        have u1' : decide (1 < b - a) = true := decide_eq_true hlt
        have u2 : IntKind.i64.wrap (a + b) = a + b := IntWalk.i64_in _ (by omega)
        obtain ⟨m, hm⟩ : ∃ m, m = (a + b).tdiv 2 := ⟨_, rfl⟩
        have hm1 : a < m ∧ m < b := by rw [hm, Int.tdiv_eq_ediv_of_nonneg (by omega)]; omega
        have u3 : IntKind.i64.wrap ((a + b).tdiv 2) = m := by rw [← hm]; exact IntWalk.i64_in _ (by omega)
        have HB := Lib.hid (show 0 ≤ m ∧ m ≤ 1000000 by omega)
        clear hm hlt
        go_wp2_with fail
        refine (HA.out m HB.out.1 HB.out.2 A1 c1 _ RV.out).mono ?_
        rintro e w3 ⟨rfl, -, hb3⟩
        have hb4 : Below w2.heap.size w2 w3 := Below.step hbV hb3
        have HAG : Hid (∃ B, B = ag m) := Lib.hid ⟨_, rfl⟩
        obtain ⟨B, hB⟩ := HAG.out
        rw [← hB]
        have HB2 := Lib.hid hB
        clear hB HAG hb3
        cases B
        · go_wp2
          go_roundw
          case rel => exact ⟨m, b, rfl, rfl, by omega, by omega, hb, fun _ => HB2.out.symm, HHI.out, hb4⟩
          case measure => simp [intOf]; omega
        · go_wp2
          go_roundw
          case rel => exact ⟨a, m, rfl, rfl, by omega, by omega, by omega, HLO.out, HB2.out.symm, hb4⟩
          case measure => simp [intOf]; omega
      · have u1 : decide (b - a > 1) = false := decide_eq_false hlt
        have u1' : decide (1 < b - a) = false := decide_eq_false hlt
        have HE := Lib.hid hlt
        clear hlt
        go_wp2
        go_ret2
        exact ⟨.inl ⟨HH.out, .inl ⟨b, by omega, hb, HHI.out, fun j h1 h2 => (by
          have he := HE.out
          cases hj : ag j with
          | false => rfl
          | true => exact absurd (HM.out j a (by omega) hj) (by rw [HLO.out (by omega)]; simp)), rfl⟩⟩, hbw⟩
  · have H1' : Hid (∀ W, Below w.heap.size w W → Calls Try.prog 66 #[.agg #[.slice x.A x.xs.length x.ca, .int .i64 x.e], .slice A l.length cap] W fun e w' => e = .returned (.tuple #[.slice none 0 0, .int .i64 (stErr x l)]) ∧ Below W.heap.size W w') :=
      Lib.hid (fun W hb => (H1.out W hb).mono (by
        rintro e w' ⟨h | h, hb'⟩
        · exact absurd h.1 h0
        · exact ⟨h.2, hb'⟩))
    have hc := stErr_cases x l
    have HH := Lib.hid (show ∀ e, e = .returned (.tuple #[.int .i64 0, .int .i64 (stErr x l)]) → TightR x l e from fun e h => Or.inr ⟨h0, h⟩)
    clear H1
    generalize stErr x l = E at *
    rcases hc with rfl | rfl | rfl
    · exact absurd rfl h0
    all_goals
      clear h0
      go_enter Try.func44, Try.ntmps44
      go_wp2_with fail
      refine (H1'.out _ (by (repeat (first | exact Below.refl _ _ | refine Below.drew ?_ | refine Below.allocS ?_ _ | refine Below.step ?_ (by assumption) | refine Below.setCell ?_ (by simp <;> omega) _ | refine Below.drewN' ?_ _)))).mono ?_
      rintro e w1 ⟨rfl, hb1⟩
      have x1_0_0 : w1.cell? ⟨w.heap.size, 0, none⟩ = some (.slice x.A x.xs.length x.ca) := keep_cell hb1 (by simp [go_sem, *])
      have x1_0_1 : w1.cell? ⟨w.heap.size, 1, none⟩ = some (.int .i64 x.e) := keep_cell hb1 (by simp [go_sem, *])
      have y1_0 : w.heap.size < w1.heap.size := cell?_lt x1_0_0
      have g1 : Below w.heap.size w w1 := by (repeat (first | exact Below.refl _ _ | refine Below.drew ?_ | refine Below.allocS ?_ _ | refine Below.step ?_ (by assumption) | refine Below.setCell ?_ (by simp <;> omega) _ | refine Below.drewN' ?_ _))
      clear hb1
      go_wp2
      go_ret2
      exact ⟨HH.out _ rfl, by (repeat (first | exact Below.refl _ _ | refine Below.drew ?_ | refine Below.allocS ?_ _ | refine Below.step ?_ (by assumption) | refine Below.setCell ?_ (by simp <;> omega) _ | refine Below.drewN' ?_ _))⟩
set_option maxRecDepth 100000 in
set_option maxHeartbeats 2000000 in
theorem rOdd_c (x : Tb) (l : List Tr) (A : Option Addr) (cap : Nat) (w : World) (hx : TbAt w x) (hl : l.length ≤ cap) (hm : cap ≤ maxLen) (hr : RdL w w.heap.size trE 5 A l) (ht : ∀ t ∈ l, TrAt w t) :
    Calls Try.prog 43 #[.agg #[.slice x.A x.xs.length x.ca, .int .i64 x.e], .slice A l.length cap] w fun e w' => OddR x l e ∧ Below w.heap.size w w' := by
  have H1 := Lib.hid (fun W (hb : Below w.heap.size w W) => differences_c x l A cap W (hx.step hb) hl hm (hr.step hb) (fun t h => (ht t h).step hb))
  clear hx hl hm hr ht
  by_cases h0 : stErr x l = 0
  · have H1' : Hid (∀ W, Below w.heap.size w W → Calls Try.prog 66 #[.agg #[.slice x.A x.xs.length x.ca, .int .i64 x.e], .slice A l.length cap] W fun e w' => ∃ A' c', e = .returned (.tuple #[.slice A' l.length c', .int .i64 0]) ∧ RdL w' w'.heap.size snE 2 A' (snL x l) ∧ Below W.heap.size W w') :=
      Lib.hid (fun W hb => (H1.out W hb).mono (by
        rintro e w' ⟨h | h, hb'⟩
        · obtain ⟨-, A', c', h1, h2⟩ := h; exact ⟨A', c', h1, h2, hb'⟩
        · exact absurd h0 h.1))
    have hok := (stErr_ok h0).1
    have hO := okAll_ok hok
    have hn12 : l.length ≤ 12 := by have := hO.n; omega
    have hn1 : 1 ≤ l.length := by have := hO.n; omega
    have hln : (snL x l).length = l.length := by unfold snL; rw [List.length_map]
    have he := hO.e
    have HA : Hid (∀ (A' : Option Addr) c' W, RdL W W.heap.size snE 2 A' (snL x l) → Calls Try.prog 67 #[.slice A' l.length c', .int .i64 x.e] W fun e w' => e = .returned (.bool (agB (azR (wdL x l)))) ∧ RdL w' w'.heap.size snE 2 A' (snL x l) ∧ Below W.heap.size W w') :=
      Lib.hid (fun A' c' W hr => by
        have := ragree_c (snL x l) l.length hln (by omega) (snL_ok hok) x.e ⟨he.1, by omega⟩ A' c' W hr
        rw [snL_wid] at this
        exact this.mono fun e w' h => ⟨h.1, hr.step h.2, h.2⟩)
    have HO : Hid (∀ (k : Nat), k < l.length → ∀ (A' : Option Addr) c' W, RdL W W.heap.size snE 2 A' (pickK (snL x l) sn0 (2 ^ l.length - 1 - 2 ^ k) l.length) → Calls Try.prog 67 #[.slice A' (pickK (snL x l) sn0 (2 ^ l.length - 1 - 2 ^ k) l.length).length c', .int .i64 x.e] W fun e w' => e = .returned (.bool (agO (wdL x l) k)) ∧ Below W.heap.size W w') :=
      Lib.hid (fun k hk A' c' W hr => by
        have := ragree_c (pickK (snL x l) sn0 (2 ^ l.length - 1 - 2 ^ k) l.length) _ rfl (by have := pickK_len (snL x l) sn0 (2 ^ l.length - 1 - 2 ^ k) l.length; omega) (fun s hs => snL_ok hok s (pick_sn _ s hs)) x.e ⟨he.1, by omega⟩ A' c' W hr
        rw [pick_map] at this
        rw [← agM_odd (wdL_len x l) hk]
        exact this)
    have HC : Hid (∀ (k : Nat), k < l.length → ∀ (A' : Option Addr) c' W, RdL W W.heap.size snE 2 A' (snL x l) → Calls Try.prog 76 #[.slice A' l.length c', .int .i64 ((2 ^ l.length - 1 - 2 ^ k : Nat) : Int)] W fun e w' => ∃ A2 c2, e = .returned (.slice A2 (pickK (snL x l) sn0 (2 ^ l.length - 1 - 2 ^ k) l.length).length c2) ∧ RdL w' w'.heap.size snE 2 A2 (pickK (snL x l) sn0 (2 ^ l.length - 1 - 2 ^ k) l.length) ∧ Below W.heap.size W w') :=
      Lib.hid (fun k hk A' c' W hr => chosen_c (snL x l) l.length hln (by omega) _ (Nat.lt_of_le_of_lt (Nat.le_trans (Nat.sub_le _ _) (Nat.sub_le _ _)) (Nat.lt_of_le_of_lt (Nat.pow_le_pow_right (by omega) hn12) (by decide))) A' c' W hr)
    have HH := Lib.hid h0
    clear H1 h0 hok hO hln
    unfold OddR
    generalize l.length = n at *
    generalize wdL x l = s at *
    generalize snL x l = sn at *
    have HAG := Lib.hid (show ∃ B, B = agB (azR s) from ⟨_, rfl⟩)
    obtain ⟨B, hB⟩ := HAG.out
    rw [← hB] at HA ⊢
    have HBB := Lib.hid hB
    clear hB HAG he
    go_enter Try.func43, Try.ntmps43
    go_wp2_with fail
    refine (H1'.out _ (by (repeat (first | exact Below.refl _ _ | refine Below.drew ?_ | refine Below.allocS ?_ _ | refine Below.step ?_ (by assumption) | refine Below.setCell ?_ (by simp <;> omega) _ | refine Below.drewN' ?_ _)))).mono ?_
    rintro e w1 ⟨A1, c1, rfl, r1, hb1⟩
    have x1_0_0 : w1.cell? ⟨w.heap.size, 0, none⟩ = some (.slice x.A x.xs.length x.ca) := keep_cell hb1 (by simp [go_sem, *])
    have x1_0_1 : w1.cell? ⟨w.heap.size, 1, none⟩ = some (.int .i64 x.e) := keep_cell hb1 (by simp [go_sem, *])
    have y1_0 : w.heap.size < w1.heap.size := cell?_lt x1_0_0
    have g1 : Below w.heap.size w w1 := by (repeat (first | exact Below.refl _ _ | refine Below.drew ?_ | refine Below.allocS ?_ _ | refine Below.step ?_ (by assumption) | refine Below.setCell ?_ (by simp <;> omega) _ | refine Below.drewN' ?_ _))
    clear hb1
    have R1 := Lib.hid r1
    clear r1
    go_wp2_with fail
    refine (HA.out A1 c1 _ R1.out).mono ?_
    rintro e w2 ⟨rfl, r2, hb2⟩
    have R2 := Lib.hid r2
    clear r2
    have G2 : Below w.heap.size w w2 := Below.low g1 hb2 (by have := g1.size; omega)
    have cu1 : w2.cell? ⟨w.heap.size, 1, none⟩ = some (.int .i64 x.e) := keep_cell hb2 (by simp [go_sem, *])
    clear hb2
    cases B
    case true =>
      go_wp2
      go_ret2
      exact ⟨.inl ⟨HH.out, rfl⟩, G2⟩
    go_wp2
    go_loopw [24] (fun i wr => ∃ k : Nat, k ≤ n ∧ i = .int .i64 k ∧ (∀ j, j < k → agO s j = false) ∧ Below w2.heap.size w2 wr) (fun i _ => n - (intOf i).toNat)
    case atStart => exact ⟨0, Nat.zero_le _, rfl, fun j h => absurd h (Nat.not_lt_zero j), Below.refl _ _⟩
    case round =>
      rename World => V
      obtain ⟨k, hk, rfl, hno, hbV⟩ := hrel
      have HNO := Lib.hid hno
      have RV := Lib.hid (R2.out.step hbV)
      have hbw : Below w.heap.size w V := Below.low G2 hbV (by have := G2.size; omega)
      have cv1 : V.cell? ⟨w.heap.size, 1, none⟩ = some (.int .i64 x.e) := keep_cell hbV cu1
      clear hno
      by_cases hlt : k < n
      · have u2 : decide ((k : Int) < (n : Int)) = true := decide_eq_true (by omega)
        have u3 : IntKind.i64.wrap ((k : Int) + 1) = (k : Int) + 1 := IntWalk.i64_in _ (by omega)
        have HKN := Lib.hid hlt
        have HF := Lib.hid (HO.out k hlt)
        have HCC := Lib.hid (HC.out k hlt)
        have hp1 : 2 ^ k < 2 ^ n := Nat.pow_lt_pow_right (by omega) hlt
        have hp2 : 2 ^ n ≤ 2 ^ 12 := Nat.pow_le_pow_right (by omega) hn12
        have i1 : ((2 : Int) ^ n) = ((2 ^ n : Nat) : Int) := by rw [Int.natCast_pow]; rfl
        have i2 : ((2 : Int) ^ k) = ((2 ^ k : Nat) : Int) := by rw [Int.natCast_pow]; rfl
        obtain ⟨S, hS⟩ : ∃ S, S = 2 ^ n - 1 - 2 ^ k := ⟨_, rfl⟩
        obtain ⟨P, hP⟩ : ∃ P : Nat, P = 2 ^ n := ⟨_, rfl⟩
        obtain ⟨Q, hQ⟩ : ∃ Q : Nat, Q = 2 ^ k := ⟨_, rfl⟩
        rw [← hS] at HF HCC
        rw [← hP] at hp1 hp2 i1 hS
        rw [← hQ] at hp1 i2 hS
        have ww1 : IntKind.i64.wrap ((2 : Int) ^ n) = (P : Int) := by rw [i1]; exact IntWalk.i64_in _ (by omega)
        have ww2 : IntKind.i64.wrap ((P : Int) - 1) = (P : Int) - 1 := IntWalk.i64_in _ (by omega)
        have ww3 : IntKind.i64.wrap ((2 : Int) ^ k) = (Q : Int) := by rw [i2]; exact IntWalk.i64_in _ (by omega)
        have ww4 : IntKind.i64.wrap ((P : Int) - 1 - (Q : Int)) = (S : Int) := (IntWalk.i64_in _ (by omega)).trans (by omega)
        clear hP hQ hS i1 i2 hlt
        have p1 : ∀ W, Below V.heap.size V W → W.cell? ⟨w.heap.size, 1, none⟩ = some (.int .i64 x.e) := fun W hb => keep_cell hb cv1
        generalize pickK sn sn0 S n = pk at *
        obtain ⟨pn, hpn⟩ : ∃ pn, pn = pk.length := ⟨_, rfl⟩
        rw [← hpn] at HF HCC
        clear hpn
        have k1 : 0 ≤ (k : Int) := by omega
        have k2 : 0 ≤ (n : Int) := by omega
        go_wp2_with fail
        go_region_held3 (fun W => Below V.heap.size V W) (first | exact Below.step (by assumption) (by assumption) | (repeat (first | (with_reducible exact Below.refl _ _) | (with_reducible assumption) | (with_reducible refine Below.drew ?_) | (with_reducible refine Below.allocS ?_ _) | (with_reducible refine Below.setCell ?_ ?_ _) | (with_reducible refine Below.step ?_ (by assumption)) | (with_reducible refine Below.drewN' ?_ _))); (try any_goals (first | (with_reducible assumption) | (simp; done) | (simp; omega) | omega)))
          (first
            | (go_at_call 76; refine (HCC.out A1 c1 _ (RV.out.step (by first | assumption | (repeat (first | (with_reducible exact Below.refl _ _) | (with_reducible assumption) | (with_reducible refine Below.drew ?_) | (with_reducible refine Below.allocS ?_ _) | (with_reducible refine Below.setCell ?_ ?_ _) | (with_reducible refine Below.step ?_ (by assumption)) | (with_reducible refine Below.drewN' ?_ _))); (try any_goals (first | (with_reducible assumption) | (simp; done) | (simp; omega) | omega))))).mono ?_; rintro e wm ⟨A2, c2, rfl, r1, hbm⟩; have HR1 := Lib.hid r1; clear r1)
            | (go_at_call 67; refine (HF.out A2 c2 _ HR1.out).mono ?_; rintro e wn ⟨rfl, hbn⟩))
        have hb7 : Below V.heap.size V wn := by (repeat (first | exact Below.refl _ _ | refine Below.drew ?_ | refine Below.allocS ?_ _ | refine Below.step ?_ (by assumption) | refine Below.setCell ?_ (by simp <;> omega) _ | refine Below.drewN' ?_ _))
        have hb8 : Below w2.heap.size w2 wn := Below.step hbV hb7
        have hb9 : Below w.heap.size w wn := Below.low hbw hb7 (by have := hbw.size; omega)
        have HAG := Lib.hid (show ∃ B, B = agO s k from ⟨_, rfl⟩)
        obtain ⟨B, hB⟩ := HAG.out
        rw [← hB]
        have HB := Lib.hid hB
        clear hB HAG HF
        cases B
        · go_wp2
          go_roundw
          case rel => exact ⟨k + 1, HKN.out, by go_num, fun j hj => (by rcases Nat.lt_succ_iff_lt_or_eq.1 hj with h | rfl; exact HNO.out j h; exact HB.out.symm), hb8⟩
          case measure => have := HKN.out; simp [intOf]; omega
        · go_wp2
          go_ret2
          exact ⟨.inl ⟨HH.out, .inl ⟨k, HKN.out, HNO.out, HB.out.symm, rfl⟩⟩, hb9⟩
      · obtain rfl : k = n := by omega
        have u2 : decide ((k : Int) < (k : Int)) = false := decide_eq_false (by omega)
        go_wp2
        go_ret2
        exact ⟨.inl ⟨HH.out, .inr ⟨HNO.out, rfl⟩⟩, hbw⟩
  · have H1' : Hid (∀ W, Below w.heap.size w W → Calls Try.prog 66 #[.agg #[.slice x.A x.xs.length x.ca, .int .i64 x.e], .slice A l.length cap] W fun e w' => e = .returned (.tuple #[.slice none 0 0, .int .i64 (stErr x l)]) ∧ Below W.heap.size W w') :=
      Lib.hid (fun W hb => (H1.out W hb).mono (by
        rintro e w' ⟨h | h, hb'⟩
        · exact absurd h.1 h0
        · exact ⟨h.2, hb'⟩))
    have hc := stErr_cases x l
    have HH := Lib.hid (show ∀ e, e = .returned (.tuple #[.int .i64 0, .int .i64 (stErr x l)]) → OddR x l e from fun e h => Or.inr ⟨h0, h⟩)
    clear H1
    generalize stErr x l = E at *
    rcases hc with rfl | rfl | rfl
    · exact absurd rfl h0
    all_goals
      clear h0
      go_enter Try.func43, Try.ntmps43
      go_wp2_with fail
      refine (H1'.out _ (by (repeat (first | exact Below.refl _ _ | refine Below.drew ?_ | refine Below.allocS ?_ _ | refine Below.step ?_ (by assumption) | refine Below.setCell ?_ (by simp <;> omega) _ | refine Below.drewN' ?_ _)))).mono ?_
      rintro e w1 ⟨rfl, hb1⟩
      have x1_0_0 : w1.cell? ⟨w.heap.size, 0, none⟩ = some (.slice x.A x.xs.length x.ca) := keep_cell hb1 (by simp [go_sem, *])
      have x1_0_1 : w1.cell? ⟨w.heap.size, 1, none⟩ = some (.int .i64 x.e) := keep_cell hb1 (by simp [go_sem, *])
      have y1_0 : w.heap.size < w1.heap.size := cell?_lt x1_0_0
      have g1 : Below w.heap.size w w1 := by (repeat (first | exact Below.refl _ _ | refine Below.drew ?_ | refine Below.allocS ?_ _ | refine Below.step ?_ (by assumption) | refine Below.setCell ?_ (by simp <;> omega) _ | refine Below.drewN' ?_ _))
      clear hb1
      go_wp2
      go_ret2
      exact ⟨HH.out _ rfl, by (repeat (first | exact Below.refl _ _ | refine Below.drew ?_ | refine Below.allocS ?_ _ | refine Below.step ?_ (by assumption) | refine Below.setCell ?_ (by simp <;> omega) _ | refine Below.drewN' ?_ _))⟩
end Go.Proofs.Ytbcabckokmjelaa
