/-
  ending of night: the best list that ends with each clear chance. No conditions.
-/
import Derived.Test.YtimbdnngeoccdaaGreatDoorNt15
namespace Go.Proofs.YtimbdnngeoccdaaGreatDoor
open Go.RowKit Go.Deep
set_option linter.unusedVariables false
set_option linter.unusedSimpArgs false
theorem MapF.no_cell {P : Program} {k : TypeId} {W : World} {B n : Nat} {f : Lit → Option Value} (h : MapF P k W B n f) (o : Nat) : W.cell? ⟨B, o, none⟩ = none := by
  obtain ⟨D, ⟨es, clock, hb, -⟩, -⟩ := h
  simp [World.cell?, hb]
/-- A list that is there lies in no map. -/
theorem SlAt.ne_map {P : Program} {k : TypeId} {W : World} {B n m : Nat} {f : Lit → Option Value} (h : MapF P k W B n f) {s : SlL} (hs : SlAt W m s) (hne : s.xs ≠ []) : ∃ b off, s.A = some ⟨b, off, none⟩ ∧ b < W.heap.size ∧ b ≠ B := by
  have hl : 0 < (s.xs.map Int.ofNat).length := by
    rw [List.length_map]
    cases hx : s.xs with
    | nil => exact absurd hx hne
    | cons a t => simp
  obtain ⟨b, off, e, hlt, hc⟩ := hs.r hl
  refine ⟨b, off, e, hlt, fun he => ?_⟩
  have := hc 0 hl 0 _ rfl
  rw [he, h.no_cell] at this
  cases this
theorem SlAt.store {P : Program} {k : TypeId} {W W' : World} {B n m : Nat} {f : Lit → Option Value} (h : MapF P k W B n f) {s : SlL} (hs : SlAt W m s) (hne : s.xs ≠ []) (hg : W.grownBy W' (some B)) : SlAt W' m s := by
  obtain ⟨b, off, e, hlt, hb⟩ := hs.ne_map h hne
  refine ⟨?_, hs.i, hs.l, hs.c⟩
  have := hs.r
  rw [e] at this ⊢
  exact this.grown hg (by simp [hb])
def clB (l : List Ch) (L : List Cl) (j : Nat) : Bool := !covB (l.getD j ch0) L
/-- What a list that ends with chance j is. -/
structure EndAt (W : World) (l : List Ch) (L : List Cl) (per : Int) (j : Nat) (s : SlL) : Prop where
  a : SlAt W l.length s
  x : s.xs = (eT l L per (j + 1)).getD j []
  ne : s.xs ≠ []
  len : s.xs.length ≤ j + 1
theorem EndAt.step {W W' : World} {l : List Ch} {L : List Cl} {per : Int} {j : Nat} {s : SlL} (h : EndAt W l L per j s) (hb : Below W.heap.size W W') : EndAt W' l L per j s := ⟨h.a.step hb, h.x, h.ne, h.len⟩
theorem grown_cell {W W' : World} {row : Option Nat} (hg : W.grownBy W' row) {b o : Nat} {u : Value} (h : W.cell? ⟨b, o, none⟩ = some u) (hne : some b ≠ row) : W'.cell? ⟨b, o, none⟩ = some u :=
  (World.cell?_of_block (a := ⟨b, o, none⟩) (hg.block b (cell?_lt h) hne)).trans h
theorem EndAt.store {P : Program} {k : TypeId} {W W' : World} {B n : Nat} {f : Lit → Option Value} (h : MapF P k W B n f) {l : List Ch} {L : List Cl} {per : Int} {j : Nat} {s : SlL} (hs : EndAt W l L per j s) (hg : W.grownBy W' (some B)) : EndAt W' l L per j s :=
  ⟨hs.a.store h hs.ne hg, hs.x, hs.ne, hs.len⟩
theorem min_end {W : World} {l : List Ch} {L : List Cl} {per : Int} {i : Nat} {ls : List SlL} (hat : ∀ s ∈ ls, SlAt W l.length s) (hm : ls.map (·.xs) = cand l L per (eT l L per i) i i) (hne : ∀ s ∈ ls, s.xs ≠ [] ∧ s.xs.length ≤ i + 1) : 1 ≤ ls.length ∧ EndAt W l L per i (minK l ls (ls.length - 1)) := by
  have hlen : ls.length = (cand l L per (eT l L per i) i i).length := by rw [← hm, List.length_map]
  have h1 : 1 ≤ ls.length := by rw [hlen]; unfold cand; simp
  have hmem := minK_mem l ls (ls.length - 1) (by omega)
  refine ⟨h1, hat _ hmem, ?_, (hne _ hmem).1, (hne _ hmem).2⟩
  rw [minK_xs, hm, hlen]
  have e : eT l L per (i + 1) = eT l L per i ++ [minP l (cand l L per (eT l L per i) i i) ((cand l L per (eT l L per i) i i).length - 1)] := rfl
  rw [e, List.getD_eq_getElem?_getD, List.getElem?_append_right (by rw [eT_len]; exact Nat.le_refl _), eT_len, Nat.sub_self]
  first | rfl | skip
theorem wf_small {k : Nat} (h : k ≤ 1000) : (Lit.int .i64 (k : Int)).wf = true := by
  have := WalkArith.wf_i64 (n := (k : Int)) (by omega)
  exact this
theorem own_addr {W : World} {base sz n cap : Nat} {e : TypeId} {A : Option Addr} {xs : List Value} (h : W.ownsRow base e sz (.slice A n cap) n xs) (hn : 0 < n) : ∃ g, A = some ⟨g, 0, none⟩ := by
  obtain ⟨g, cap', hv⟩ := Go.Joins.ownsRow_form h hn
  injection hv with h1
  exact ⟨g, h1⟩
/-- A list more. -/
theorem grow_one {Z W6 : World} {base g sl ln i k g6 c6 c7 : Nat} {A7 : Option Addr} {l : List Ch} {L : List Cl} {per : Int} {ls : List SlL} {s : SlL} {bz : Nat} (hc : CandAt Z base g (.slice A7 ln c7) l.length ls) (he : EndAt Z l L per k s) (hb : Below Z.heap.size Z W6)
    (ho : W6.ownsRow (Z.alloc (.cells #[.int .i64 i] 3)).heap.size 3 1 (.slice (some ⟨g6, 0, none⟩) (sl + 1) c6) (sl + 1) ((s.xs.map Int.ofNat ++ [(i : Int)]).flatMap inE)) (hk : sl + 1 ≤ c6 ∧ c6 ≤ maxLen) (hsl : sl = s.xs.length) (hi : i < l.length) (hk20 : k ≤ 100) (hg : g < bz) (hz : bz ≤ Z.heap.size)
    (hlo : (Z.alloc (.cells #[.int .i64 i] 3)).heap.size ≤ g6 ∧ g6 < W6.heap.size) (hl : ls.length ≤ 1000) :
    ∃ v' w', (Builtin.append_ #[130, 130] 130 #[.slice A7 ln c7, .slice (some ⟨W6.heap.size, 0, none⟩) 1 1]).run Tryz.prog (W6.alloc (.cells #[.slice (some ⟨g6, 0, none⟩) (sl + 1) c6] 75)) = .ok v' w' ∧
      ((∃ g', CandAt w' base g' v' l.length (ls ++ [⟨some ⟨g6, 0, none⟩, c6, s.xs ++ [i]⟩])) ∧ Below base (W6.alloc (.cells #[.slice (some ⟨g6, 0, none⟩) (sl + 1) c6] 75)) w') := by
  have hle := he.len
  have hx : SlAt W6 l.length ⟨some ⟨g6, 0, none⟩, c6, s.xs ++ [i]⟩ := by
    refine ⟨?_, fun j hj => ?_, ?_, ?_⟩
    · show RdL W6 W6.heap.size inE 1 (some ⟨g6, 0, none⟩) ((s.xs ++ [i]).map Int.ofNat)
      rw [List.map_append]
      exact RdL.of_own (enc := inE) (fun _ => rfl) ho (by rw [List.length_append, List.length_map, hsl]; rfl)
    · rcases List.mem_append.1 hj with h | h
      · exact he.a.i j h
      · simp at h; omega
    · simp; omega
    · simp; omega
  have := cand_app (hc.step hb) hl ⟨some ⟨g6, 0, none⟩, c6, s.xs ++ [i]⟩ hx g6 0 rfl hlo.2 (by have := hlo.1; simp at this; omega)
  have hv : slV ⟨some ⟨g6, 0, none⟩, c6, s.xs ++ [i]⟩ = .slice (some ⟨g6, 0, none⟩) (sl + 1) c6 := by unfold slV; simp only; rw [List.length_append, hsl]; rfl
  rw [hv] at this
  exact this
structure PlanOk (l : List Ch) (per : Int) : Prop where
  v : VOk l
  t : ∀ x ∈ l, TOk x
  b : ∀ x ∈ l, 0 ≤ x.b ∧ x.b ≤ 86400000
  n : l.length ≤ 20
  p : 0 ≤ per ∧ per ≤ 10000
set_option maxHeartbeats 8000000 in
set_option maxRecDepth 100000 in
theorem ending_c (l : List Ch) (A : Option Addr) (cap : Nat) (L : List Cl) (B : Option Addr) (cb : Nat) (per : Int) (w : World) (h : InAt w l A cap L B cb) (hp : PlanOk l per) :
    Calls Tryz.prog 92 #[.agg #[.slice A l.length cap, .slice B L.length cb, .int .i64 per]] w fun e w' => (∃ Bm S, e = .returned (.map (some Bm)) ∧ MapF Tryz.prog 3 w' Bm l.length (eF (clB l L) S l.length) ∧ ∀ j, j < l.length → clB l L j = true → EndAt w' l L per j (S j)) ∧ Below w.heap.size w w' := by
  have HIN := Lib.hid h
  have HP := Lib.hid hp
  have hn20 := hp.n
  obtain ⟨n, hn⟩ : ∃ n, n = l.length := ⟨_, rfl⟩
  have HN := Lib.hid hn
  rw [← hn] at hn20 ⊢
  obtain ⟨m, hm⟩ : ∃ m, m = L.length := ⟨_, rfl⟩
  rw [← hm]
  have HCV := Lib.hid (fun c W (hb : Below w.heap.size w W) => covered_c c L B cb (by have := h.hL; omega) W (h.hR.step hb))
  rw [← hm] at HCV
  clear h hp hn hm
  have hmm := @run_makeMap Tryz.prog
  go_enter Tryz.func92, Tryz.ntmps92
  go_wp2
  go_loopw [19] (fun i wr => ∃ (k : Nat) (S : Nat → SlL), k ≤ n ∧ i = .int .i64 k ∧ MapF Tryz.prog 3 wr (w.heap.size + 1) k (eF (clB l L) S k) ∧ (∀ j, j < k → clB l L j = true → EndAt wr l L per j (S j)) ∧
    wr.cell? ⟨w.heap.size, 0, none⟩ = some (.slice A n cap) ∧ wr.cell? ⟨w.heap.size, 1, none⟩ = some (.slice B m cb) ∧ wr.cell? ⟨w.heap.size, 2, none⟩ = some (.int .i64 per) ∧ Below w.heap.size w wr) (fun i _ => n - (intOf i).toNat)
  case atStart =>
    exact ⟨0, fun _ => sl0, Nat.zero_le _, rfl, by
      rw [eF_zero]
      have h0 := MapF.made (w.alloc (.cells #[.slice A n cap, .slice B m cb, .int .i64 per] 103)) Tryz.prog 3
      rw [show (w.alloc (.cells #[.slice A n cap, .slice B m cb, .int .i64 per] 103)).heap.size = w.heap.size + 1 by simp] at h0
      exact h0, fun j hj => absurd hj (Nat.not_lt_zero j), by simp [go_sem], by simp [go_sem], by simp [go_sem], by (repeat (first | (with_reducible exact Below.refl _ _) | (with_reducible assumption) | (with_reducible refine Below.drew ?_) | (with_reducible refine Below.allocS ?_ _) | (with_reducible refine Below.setCell ?_ ?_ _) | (with_reducible refine Below.step ?_ (by assumption)) | (with_reducible refine Below.drewN' ?_ _))); (try any_goals (first | (with_reducible assumption) | (simp; done) | (simp; omega) | omega))⟩
  case round =>
    rename World => U
    obtain ⟨i, S, hi, rfl, hmap, hS, x0, x1, x2, hbw⟩ := hrel
    have HMP := Lib.hid hmap
    have HS := Lib.hid hS
    have yM := hmap.lt
    have yX := cell?_lt x0
    clear hmap hS hmm
    by_cases hlt : i < n
    · have hil : i < l.length := by rw [← HN.out]; exact hlt
      obtain ⟨b, off, rfl, hb0, hc⟩ := HIN.out.hr (by omega)
      have HC : Hid (∀ k (hk : k < l.length) jj v, (chE l[k])[jj]? = some v → w.cell? ⟨b, off + k * 5 + jj, none⟩ = some v) := Lib.hid (fun k hk jj v hv => hc k hk jj v hv)
      obtain ⟨c, hcd⟩ : ∃ c, c = l[i] := ⟨_, rfl⟩
      have hcell : ∀ jj v, (chE c)[jj]? = some v → U.cell? ⟨b, off + i * 5 + jj, none⟩ = some v := fun jj v hv => (hbw.cell (p := ⟨b, _, none⟩) hb0).trans (hc i hil jj v (by rw [hcd] at hv; exact hv))
      have q0 : U.cell? ⟨b, off + i * 5, none⟩ = some (.string c.nm) := by simpa using hcell 0 _ rfl
      have q1 : U.cell? ⟨b, off + i * 5 + 1, none⟩ = some (.int .i64 c.a) := hcell 1 _ rfl
      have q2 : U.cell? ⟨b, off + i * 5 + 2, none⟩ = some (.int .i64 c.b) := hcell 2 _ rfl
      have q3 : U.cell? ⟨b, off + i * 5 + 3, none⟩ = some (.int .i64 c.t) := hcell 3 _ rfl
      have q4 : U.cell? ⟨b, off + i * 5 + 4, none⟩ = some (.int .i64 c.v) := hcell 4 _ rfl
      have hgi : l.getD i ch0 = c := by rw [hcd, List.getD_eq_getElem?_getD, List.getElem?_eq_getElem hil]; rfl
      have hcm : c ∈ l := by rw [hcd]; exact List.getElem_mem hil
      have HGI := Lib.hid hgi
      have HCM := Lib.hid hcm
      have HCL := Lib.hid (show clB l L i = !covB c L by unfold clB; rw [hgi])
      have HCC := Lib.hid (HCV.out c)
      clear hcell hgi hcm hcd hc
      have u1 : decide ((i : Int) < (n : Int)) = true := decide_eq_true (by omega)
      have u3 : IntKind.i64.wrap ((i : Int) + 1) = (i : Int) + 1 := IntWalk.i64_in _ (by omega)
      obtain ⟨cv, hcv⟩ : ∃ cv, cv = covB c L := ⟨_, rfl⟩
      rw [← hcv] at HCL HCC
      clear hcv
      go_wp2_with fail
      refine (HCC.out _ (by (repeat (first | (with_reducible exact Below.refl _ _) | (with_reducible assumption) | (with_reducible refine Below.drew ?_) | (with_reducible refine Below.allocS ?_ _) | (with_reducible refine Below.setCell ?_ ?_ _) | (with_reducible refine Below.step ?_ (by assumption)) | (with_reducible refine Below.drewN' ?_ _))); (try any_goals (first | (with_reducible assumption) | (simp; done) | (simp; omega) | omega)))).mono ?_
      rintro e V ⟨rfl, hbv⟩
      have hbUV : Below U.heap.size U V := Below.low (by (repeat (first | (with_reducible exact Below.refl _ _) | (with_reducible assumption) | (with_reducible refine Below.drew ?_) | (with_reducible refine Below.allocS ?_ _) | (with_reducible refine Below.setCell ?_ ?_ _) | (with_reducible refine Below.step ?_ (by assumption)) | (with_reducible refine Below.drewN' ?_ _))); (try any_goals (first | (with_reducible assumption) | (simp; done) | (simp; omega) | omega))) hbv (by simp)
      have hsUV := hbUV.size
      have hsU := hbw.size
      have hbwV : Below w.heap.size w V := Below.low hbw hbUV hsU
      have e0 : V.cell? ⟨U.heap.size, 0, none⟩ = some (.string c.nm) := keep_cell hbv (by simp [go_sem])
      have e1 : V.cell? ⟨U.heap.size, 1, none⟩ = some (.int .i64 c.a) := keep_cell hbv (by simp [go_sem])
      have e2 : V.cell? ⟨U.heap.size, 2, none⟩ = some (.int .i64 c.b) := keep_cell hbv (by simp [go_sem])
      have e3 : V.cell? ⟨U.heap.size, 3, none⟩ = some (.int .i64 c.t) := keep_cell hbv (by simp [go_sem])
      have e4 : V.cell? ⟨U.heap.size, 4, none⟩ = some (.int .i64 c.v) := keep_cell hbv (by simp [go_sem])
      have f0 := keep_cell hbUV x0
      have f1 := keep_cell hbUV x1
      have f2 := keep_cell hbUV x2
      have HMV := Lib.hid (HMP.out.step hbUV)
      have HSV := Lib.hid (fun j hj hc => (HS.out j hj hc).step hbUV)
      have yU := cell?_lt e0
      clear hbv q0 q1 q2 q3 q4 x0 x1 x2
      cases cv
      case true =>
        have HSK := Lib.hid (eF_skip (cl := clB l L) S HCL.out)
        go_wp2
        go_roundw
        case rel => exact ⟨i + 1, S, by omega, by go_num, by rw [HSK.out]; exact HMV.out.mono (by omega), fun j hj hc => (by rcases Nat.lt_succ_iff_lt_or_eq.1 hj with h | rfl; exact HSV.out j h hc; rw [HCL.out] at hc; cases hc), f0, f1, f2, hbwV⟩
        case measure => simp [intOf]; omega
      have HX0 : Hid (SlAt (V.alloc (.cells #[.int .i64 i] 3)) l.length ⟨some ⟨V.heap.size, 0, none⟩, 1, [i]⟩) := Lib.hid ⟨RdL.new V 3 inE 1 [(i : Int)] (fun _ => rfl), fun j hj => by simp at hj; omega, by simp, by simp [maxLen]⟩
      have HC0 := Lib.hid (CandAt.one (V.alloc (.cells #[.int .i64 i] 3)) V.heap.size l.length ⟨some ⟨V.heap.size, 0, none⟩, 1, [i]⟩ HX0.out V.heap.size 0 rfl (by simp) (by simp))
      go_wp2_with fail
      go_loopw [7, 32] (fun u k' wr => ∃ (k : Nat) (ls : List SlL) (g A7 : _) (c7 : Nat), k ≤ i ∧ k' = .int .i64 k ∧ u = .slice A7 ls.length c7 ∧ CandAt wr V.heap.size g (.slice A7 ls.length c7) l.length ls ∧ ls.map (·.xs) = cand l L per (eT l L per i) i k ∧ ls.length ≤ k + 1 ∧ (∀ s ∈ ls, s.xs ≠ [] ∧ s.xs.length ≤ i + 1) ∧ Below V.heap.size V wr) (fun _ k' _ => i - (intOf k').toNat)
      case atStart =>
        have h0 := HC0.out
        rw [show (V.alloc (.cells #[.int .i64 i] 3)).heap.size = V.heap.size + 1 by simp] at h0
        exact ⟨0, [⟨some ⟨V.heap.size, 0, none⟩, 1, [i]⟩], _, _, 1, Nat.zero_le _, rfl, rfl, h0, rfl, by simp, fun s hs => by simp at hs; subst hs; simp, by (repeat (first | (with_reducible exact Below.refl _ _) | (with_reducible assumption) | (with_reducible refine Below.drew ?_) | (with_reducible refine Below.allocS ?_ _) | (with_reducible refine Below.setCell ?_ ?_ _) | (with_reducible refine Below.step ?_ (by assumption)) | (with_reducible refine Below.drewN' ?_ _))); (try any_goals (first | (with_reducible assumption) | (simp; done) | (simp; omega) | omega))⟩
      case round =>
        rename World => X
        obtain ⟨k, ls, g, A7, c7, hk, rfl, rfl, hcand, hmapx, hlen, hne, hbX⟩ := hrel
        have HCA := Lib.hid hcand
        have HMX := Lib.hid hmapx
        have HNE := Lib.hid hne
        have HMAP := Lib.hid (HMV.out.step hbX)
        have HSX := Lib.hid (fun j hj hc => (HSV.out j hj hc).step hbX)
        have hbUX : Below U.heap.size U X := Below.low hbUV hbX hsUV
        have hbwX : Below w.heap.size w X := Below.low hbwV hbX (by omega)
        have h0 := keep_cell hbX e0
        have h1 := keep_cell hbX e1
        have h2 := keep_cell hbX e2
        have h3 := keep_cell hbX e3
        have h4 := keep_cell hbX e4
        have k0 := keep_cell hbX f0
        have k1 := keep_cell hbX f1
        have k2 := keep_cell hbX f2
        clear hcand hmapx hne
        obtain ⟨ln, hln⟩ : ∃ ln, ln = ls.length := ⟨_, rfl⟩
        have HLN := Lib.hid hln
        rw [← hln] at hlen HCA ⊢
        clear hln
        by_cases hki : k < i
        · have u6 : decide ((k : Int) < (i : Int)) = true := decide_eq_true (by omega)
          have u7 : IntKind.i64.wrap ((k : Int) + 1) = (k : Int) + 1 := IntWalk.i64_in _ (by omega)
          have HKK := Lib.hid (Maps.keyOf_int_mk (P := Tryz.prog) Tryz.underlying3 (wf_small (k := k) (by omega)))
          have hlk := HMAP.out.look_ok (Maps.int_keyed Tryz.underlying3) Tryz.underlying131 (zero_slice X) HKK.out
          rw [eF_get] at hlk
          have HCS := Lib.hid (cand_succ l L per (eT l L per i) i k)
          obtain ⟨ck, hck⟩ : ∃ ck, ck = clB l L k := ⟨_, rfl⟩
          have HCK := Lib.hid hck
          have HSK := Lib.hid (fun h : clB l L k = true => HSX.out k hki h)
          have p0 : ∀ W, Below X.heap.size X W → W.cell? ⟨U.heap.size, 0, none⟩ = some (.string c.nm) := fun W hb => keep_cell hb h0
          have p1 : ∀ W, Below X.heap.size X W → W.cell? ⟨U.heap.size, 1, none⟩ = some (.int .i64 c.a) := fun W hb => keep_cell hb h1
          have p2 : ∀ W, Below X.heap.size X W → W.cell? ⟨U.heap.size, 2, none⟩ = some (.int .i64 c.b) := fun W hb => keep_cell hb h2
          have p3 : ∀ W, Below X.heap.size X W → W.cell? ⟨U.heap.size, 3, none⟩ = some (.int .i64 c.t) := fun W hb => keep_cell hb h3
          have p4 : ∀ W, Below X.heap.size X W → W.cell? ⟨U.heap.size, 4, none⟩ = some (.int .i64 c.v) := fun W hb => keep_cell hb h4
          have b0 : ∀ W, Below X.heap.size X W → W.cell? ⟨w.heap.size, 0, none⟩ = some (.slice (some ⟨b, off, none⟩) n cap) := fun W hb => keep_cell hb k0
          have b2 : ∀ W, Below X.heap.size X W → W.cell? ⟨w.heap.size, 2, none⟩ = some (.int .i64 per) := fun W hb => keep_cell hb k2
          cases ck
          · rw [if_neg (by rw [← hck]; simp)] at hlk
            have hlk2 : (Instr.lookup 131 (.map (some (w.heap.size + 1))) (.int .i64 k) true).run Tryz.prog X = .ok (.tuple #[.slice none 0 0, .bool false]) X := hlk
            have HNX := Lib.hid (show ls.map (·.xs) = cand l L per (eT l L per i) i (k + 1) by
              rw [HCS.out, if_neg (by unfold preB; have h := HCK.out; unfold clB at h; rw [← h]; simp)]; exact HMX.out)
            clear hlk hck
            go_wp2_with fail
            refine wp_region_held_drew (S := fun W => Below X.heap.size X W) (by kernel_rfl) ?_ (fun hHeld => ?_); (· (repeat (first | (with_reducible exact Below.refl _ _) | (with_reducible assumption) | (with_reducible refine Below.drew ?_) | (with_reducible refine Below.allocS ?_ _) | (with_reducible refine Below.setCell ?_ ?_ _) | (with_reducible refine Below.step ?_ (by assumption)) | (with_reducible refine Below.drewN' ?_ _))); (try any_goals (first | (with_reducible assumption) | (simp; done) | (simp; omega) | omega)))
            (first | (refine wpAnyH_take (i := 0) (oi := ⟨_, _, _, _, _, _⟩) (v := ?_) rfl (by kernel_rfl) (by kernel_rfl) (by kernel_rfl) (fun _ _ _ h => h) (Or.inl ⟨by rfl, ?_⟩) (by assumption) ?_; rotate_left 1; (· (intro w0 hSw; (try dsimp only at hSw); go_simp; (try with_reducible rfl)))) | (refine wpAnyH_take (i := 0) (oi := ⟨_, _, _, _, _, _⟩) (v := undef) rfl (by kernel_rfl) (by kernel_rfl) (by kernel_rfl) (fun _ _ _ h => h) (Or.inr ⟨by rfl, rfl⟩) (by assumption) ?_)); (try simp only [Act.put, List.setIfInBounds_toArray, List.set_cons_zero, List.set_cons_succ])
            (first | (refine wpAnyH_take (i := 1) (oi := ⟨_, _, _, _, _, _⟩) (v := ?_) rfl (by kernel_rfl) (by kernel_rfl) (by kernel_rfl) (fun _ _ _ h => h) (Or.inl ⟨by rfl, ?_⟩) (by assumption) ?_; rotate_left 1; (· (intro w0 hSw; (try dsimp only at hSw); go_simp; (try with_reducible rfl)))) | (refine wpAnyH_take (i := 1) (oi := ⟨_, _, _, _, _, _⟩) (v := undef) rfl (by kernel_rfl) (by kernel_rfl) (by kernel_rfl) (fun _ _ _ h => h) (Or.inr ⟨by rfl, rfl⟩) (by assumption) ?_)); (try simp only [Act.put, List.setIfInBounds_toArray, List.set_cons_zero, List.set_cons_succ])
            (first | (refine wpAnyH_take (i := 2) (oi := ⟨_, _, _, _, _, _⟩) (v := ?_) rfl (by kernel_rfl) (by kernel_rfl) (by kernel_rfl) (fun _ _ _ h => h) (Or.inl ⟨by rfl, ?_⟩) (by assumption) ?_; rotate_left 1; (· (intro w0 hSw; (try dsimp only at hSw); go_simp; (try with_reducible rfl)))) | (refine wpAnyH_take (i := 2) (oi := ⟨_, _, _, _, _, _⟩) (v := undef) rfl (by kernel_rfl) (by kernel_rfl) (by kernel_rfl) (fun _ _ _ h => h) (Or.inr ⟨by rfl, rfl⟩) (by assumption) ?_)); (try simp only [Act.put, List.setIfInBounds_toArray, List.set_cons_zero, List.set_cons_succ])
            (first | (refine wpAnyH_take (i := 3) (oi := ⟨_, _, _, _, _, _⟩) (v := ?_) rfl (by kernel_rfl) (by kernel_rfl) (by kernel_rfl) (fun _ _ _ h => h) (Or.inl ⟨by rfl, ?_⟩) (by assumption) ?_; rotate_left 1; (· (intro w0 hSw; (try dsimp only at hSw); go_simp; (try with_reducible rfl)))) | (refine wpAnyH_take (i := 3) (oi := ⟨_, _, _, _, _, _⟩) (v := undef) rfl (by kernel_rfl) (by kernel_rfl) (by kernel_rfl) (fun _ _ _ h => h) (Or.inr ⟨by rfl, rfl⟩) (by assumption) ?_)); (try simp only [Act.put, List.setIfInBounds_toArray, List.set_cons_zero, List.set_cons_succ])
            (first | (refine wpAnyH_take (i := 4) (oi := ⟨_, _, _, _, _, _⟩) (v := ?_) rfl (by kernel_rfl) (by kernel_rfl) (by kernel_rfl) (fun _ _ _ h => h) (Or.inl ⟨by rfl, ?_⟩) (by assumption) ?_; rotate_left 1; (· (intro w0 hSw; (try dsimp only at hSw); go_simp; (try with_reducible rfl)))) | (refine wpAnyH_take (i := 4) (oi := ⟨_, _, _, _, _, _⟩) (v := undef) rfl (by kernel_rfl) (by kernel_rfl) (by kernel_rfl) (fun _ _ _ h => h) (Or.inr ⟨by rfl, rfl⟩) (by assumption) ?_)); (try simp only [Act.put, List.setIfInBounds_toArray, List.set_cons_zero, List.set_cons_succ])
            (first | (refine wpAnyH_take (i := 5) (oi := ⟨_, _, _, _, _, _⟩) (v := ?_) rfl (by kernel_rfl) (by kernel_rfl) (by kernel_rfl) (fun _ _ _ h => h) (Or.inl ⟨by rfl, ?_⟩) (by assumption) ?_; rotate_left 1; (· (intro w0 hSw; (try dsimp only at hSw); go_simp; (try with_reducible rfl)))) | (refine wpAnyH_take (i := 5) (oi := ⟨_, _, _, _, _, _⟩) (v := undef) rfl (by kernel_rfl) (by kernel_rfl) (by kernel_rfl) (fun _ _ _ h => h) (Or.inr ⟨by rfl, rfl⟩) (by assumption) ?_)); (try simp only [Act.put, List.setIfInBounds_toArray, List.set_cons_zero, List.set_cons_succ])
            (first | (refine wpAnyH_take (i := 6) (oi := ⟨_, _, _, _, _, _⟩) (v := ?_) rfl (by kernel_rfl) (by kernel_rfl) (by kernel_rfl) (fun _ _ _ h => h) (Or.inl ⟨by rfl, ?_⟩) (by assumption) ?_; rotate_left 1; (· (intro w0 hSw; (try dsimp only at hSw); go_simp; (try with_reducible rfl)))) | (refine wpAnyH_take (i := 6) (oi := ⟨_, _, _, _, _, _⟩) (v := undef) rfl (by kernel_rfl) (by kernel_rfl) (by kernel_rfl) (fun _ _ _ h => h) (Or.inr ⟨by rfl, rfl⟩) (by assumption) ?_)); (try simp only [Act.put, List.setIfInBounds_toArray, List.set_cons_zero, List.set_cons_succ])
            (first | (refine wpAnyH_take (i := 7) (oi := ⟨_, _, _, _, _, _⟩) (v := ?_) rfl (by kernel_rfl) (by kernel_rfl) (by kernel_rfl) (fun _ _ _ h => h) (Or.inl ⟨by rfl, ?_⟩) (by assumption) ?_; rotate_left 1; (· (intro w0 hSw; (try dsimp only at hSw); go_simp; (try with_reducible rfl)))) | (refine wpAnyH_take (i := 7) (oi := ⟨_, _, _, _, _, _⟩) (v := undef) rfl (by kernel_rfl) (by kernel_rfl) (by kernel_rfl) (fun _ _ _ h => h) (Or.inr ⟨by rfl, rfl⟩) (by assumption) ?_)); (try simp only [Act.put, List.setIfInBounds_toArray, List.set_cons_zero, List.set_cons_succ])
            (first | (refine wpAnyH_take (i := 8) (oi := ⟨_, _, _, _, _, _⟩) (v := ?_) rfl (by kernel_rfl) (by kernel_rfl) (by kernel_rfl) (fun _ _ _ h => h) (Or.inl ⟨by rfl, ?_⟩) (by assumption) ?_; rotate_left 1; (· (intro w0 hSw; (try dsimp only at hSw); go_simp; (try with_reducible rfl)))) | (refine wpAnyH_take (i := 8) (oi := ⟨_, _, _, _, _, _⟩) (v := undef) rfl (by kernel_rfl) (by kernel_rfl) (by kernel_rfl) (fun _ _ _ h => h) (Or.inr ⟨by rfl, rfl⟩) (by assumption) ?_)); (try simp only [Act.put, List.setIfInBounds_toArray, List.set_cons_zero, List.set_cons_succ])
            (first | (refine wpAnyH_take (i := 9) (oi := ⟨_, _, _, _, _, _⟩) (v := ?_) rfl (by kernel_rfl) (by kernel_rfl) (by kernel_rfl) (fun _ _ _ h => h) (Or.inl ⟨by rfl, ?_⟩) (by assumption) ?_; rotate_left 1; (· (intro w0 hSw; (try dsimp only at hSw); go_simp; (try with_reducible rfl)))) | (refine wpAnyH_take (i := 9) (oi := ⟨_, _, _, _, _, _⟩) (v := undef) rfl (by kernel_rfl) (by kernel_rfl) (by kernel_rfl) (fun _ _ _ h => h) (Or.inr ⟨by rfl, rfl⟩) (by assumption) ?_)); (try simp only [Act.put, List.setIfInBounds_toArray, List.set_cons_zero, List.set_cons_succ])
            (first | (refine wpAnyH_take (i := 10) (oi := ⟨_, _, _, _, _, _⟩) (v := ?_) rfl (by kernel_rfl) (by kernel_rfl) (by kernel_rfl) (fun _ _ _ h => h) (Or.inl ⟨by rfl, ?_⟩) (by assumption) ?_; rotate_left 1; (· (intro w0 hSw; (try dsimp only at hSw); go_simp; (try with_reducible rfl)))) | (refine wpAnyH_take (i := 10) (oi := ⟨_, _, _, _, _, _⟩) (v := undef) rfl (by kernel_rfl) (by kernel_rfl) (by kernel_rfl) (fun _ _ _ h => h) (Or.inr ⟨by rfl, rfl⟩) (by assumption) ?_)); (try simp only [Act.put, List.setIfInBounds_toArray, List.set_cons_zero, List.set_cons_succ])
            (first | (refine wpAnyH_take (i := 11) (oi := ⟨_, _, _, _, _, _⟩) (v := ?_) rfl (by kernel_rfl) (by kernel_rfl) (by kernel_rfl) (fun _ _ _ h => h) (Or.inl ⟨by rfl, ?_⟩) (by assumption) ?_; rotate_left 1; (· (intro w0 hSw; (try dsimp only at hSw); go_simp; (try with_reducible rfl)))) | (refine wpAnyH_take (i := 11) (oi := ⟨_, _, _, _, _, _⟩) (v := undef) rfl (by kernel_rfl) (by kernel_rfl) (by kernel_rfl) (fun _ _ _ h => h) (Or.inr ⟨by rfl, rfl⟩) (by assumption) ?_)); (try simp only [Act.put, List.setIfInBounds_toArray, List.set_cons_zero, List.set_cons_succ])
            refine wpAnyH_done (by kernel_rfl) ?_ _
            have hbd : Below X.heap.size X X.drew := Below.drew (Below.refl _ _)
            have HCD := Lib.hid (HCA.out.step hbd)
            have hbVd : Below V.heap.size V X.drew := Below.drew hbX
            clear hlk2 p0 p1 p2 p3 p4 b0 b2
            go_wp2
            go_roundw
            case rel => exact ⟨k + 1, ls, g, A7, c7, by omega, by go_num, by rw [HLN.out], by rw [← HLN.out]; exact HCD.out, HNX.out, by rw [← HLN.out]; omega, HNE.out, hbVd⟩
            case measure => simp [intOf]; omega
          · rw [if_pos ⟨hki, hck.symm⟩] at hlk
            have HEK := Lib.hid (HSK.out hck.symm)
            clear hck
            obtain ⟨s, hs⟩ : ∃ s, s = S k := ⟨_, rfl⟩
            rw [← hs] at hlk HEK
            have HSS := Lib.hid hs
            obtain ⟨sl, hsl⟩ : ∃ sl, sl = s.xs.length := ⟨_, rfl⟩
            have HSL := Lib.hid hsl
            have hlk2 : (Instr.lookup 131 (.map (some (w.heap.size + 1))) (.int .i64 k) true).run Tryz.prog X = .ok (.tuple #[.slice s.A sl s.c, .bool true]) X := by rw [hsl]; exact hlk
            clear hlk hs hsl
            have hkl : k < l.length := by omega
            obtain ⟨d, hdd⟩ : ∃ d, d = l[k] := ⟨_, rfl⟩
            have hcell : ∀ jj v, (chE d)[jj]? = some v → ∀ W, Below X.heap.size X W → W.cell? ⟨b, off + k * 5 + jj, none⟩ = some v := fun jj v hv W hb => keep_cell hb ((hbwX.cell (p := ⟨b, _, none⟩) hb0).trans (HC.out k hkl jj v (by rw [hdd] at hv; exact hv)))
            have r0 : ∀ W, Below X.heap.size X W → W.cell? ⟨b, off + k * 5, none⟩ = some (.string d.nm) := by simpa using hcell 0 _ rfl
            have r1 : ∀ W, Below X.heap.size X W → W.cell? ⟨b, off + k * 5 + 1, none⟩ = some (.int .i64 d.a) := hcell 1 _ rfl
            have r2 : ∀ W, Below X.heap.size X W → W.cell? ⟨b, off + k * 5 + 2, none⟩ = some (.int .i64 d.b) := hcell 2 _ rfl
            have r3 : ∀ W, Below X.heap.size X W → W.cell? ⟨b, off + k * 5 + 3, none⟩ = some (.int .i64 d.t) := hcell 3 _ rfl
            have r4 : ∀ W, Below X.heap.size X W → W.cell? ⟨b, off + k * 5 + 4, none⟩ = some (.int .i64 d.v) := hcell 4 _ rfl
            have hdm : d ∈ l := by rw [hdd]; exact List.getElem_mem hkl
            have hgk : l.getD k ch0 = d := by rw [hdd, List.getD_eq_getElem?_getD, List.getElem?_eq_getElem hkl]; rfl
            have HFO := Lib.hid (fun W => follows_c d c per (HP.out.t d hdm) (HP.out.t c HCM.out) HP.out.p (HP.out.b d hdm) W)
            have HPB := Lib.hid (show preB l L per k i = folC d c per by unfold preB; have h := HCK.out; unfold clB at h; rw [← h, hgk, HGI.out]; rfl)
            obtain ⟨fB, hfB⟩ : ∃ fB, fB = folC d c per := ⟨_, rfl⟩
            rw [← hfB] at HFO HPB
            have z1 : (0 : Int) ≤ (k : Int) := by omega
            have z2 : (k : Int) < (n : Int) := by omega
            clear hfB hgk hdm hcell hdd hkl
            cases fB
            · have HNX := Lib.hid (show ls.map (·.xs) = cand l L per (eT l L per i) i (k + 1) by
                rw [HCS.out, if_neg (by rw [HPB.out]; simp)]; exact HMX.out)
              go_wp2_with fail
              refine wp_region_held_drew (S := fun W => Below X.heap.size X W) (by kernel_rfl) ?_ (fun hHeld => ?_); (· (repeat (first | (with_reducible exact Below.refl _ _) | (with_reducible assumption) | (with_reducible refine Below.drew ?_) | (with_reducible refine Below.allocS ?_ _) | (with_reducible refine Below.setCell ?_ ?_ _) | (with_reducible refine Below.step ?_ (by assumption)) | (with_reducible refine Below.drewN' ?_ _))); (try any_goals (first | (with_reducible assumption) | (simp; done) | (simp; omega) | omega)))
              (first | (refine wpAnyH_take (i := 0) (oi := ⟨_, _, _, _, _, _⟩) (v := ?_) rfl (by kernel_rfl) (by kernel_rfl) (by kernel_rfl) (fun _ _ _ h => h) (Or.inl ⟨by rfl, ?_⟩) (by assumption) ?_; rotate_left 1; (· (intro w0 hSw; (try dsimp only at hSw); go_simp; (try with_reducible rfl)))) | (refine wpAnyH_take (i := 0) (oi := ⟨_, _, _, _, _, _⟩) (v := undef) rfl (by kernel_rfl) (by kernel_rfl) (by kernel_rfl) (fun _ _ _ h => h) (Or.inr ⟨by rfl, rfl⟩) (by assumption) ?_)); (try simp only [Act.put, List.setIfInBounds_toArray, List.set_cons_zero, List.set_cons_succ])
              (first | (refine wpAnyH_take (i := 1) (oi := ⟨_, _, _, _, _, _⟩) (v := ?_) rfl (by kernel_rfl) (by kernel_rfl) (by kernel_rfl) (fun _ _ _ h => h) (Or.inl ⟨by rfl, ?_⟩) (by assumption) ?_; rotate_left 1; (· (intro w0 hSw; (try dsimp only at hSw); go_simp; (try with_reducible rfl)))) | (refine wpAnyH_take (i := 1) (oi := ⟨_, _, _, _, _, _⟩) (v := undef) rfl (by kernel_rfl) (by kernel_rfl) (by kernel_rfl) (fun _ _ _ h => h) (Or.inr ⟨by rfl, rfl⟩) (by assumption) ?_)); (try simp only [Act.put, List.setIfInBounds_toArray, List.set_cons_zero, List.set_cons_succ])
              (first | (refine wpAnyH_take (i := 2) (oi := ⟨_, _, _, _, _, _⟩) (v := ?_) rfl (by kernel_rfl) (by kernel_rfl) (by kernel_rfl) (fun _ _ _ h => h) (Or.inl ⟨by rfl, ?_⟩) (by assumption) ?_; rotate_left 1; (· (intro w0 hSw; (try dsimp only at hSw); go_simp; (try with_reducible rfl)))) | (refine wpAnyH_take (i := 2) (oi := ⟨_, _, _, _, _, _⟩) (v := undef) rfl (by kernel_rfl) (by kernel_rfl) (by kernel_rfl) (fun _ _ _ h => h) (Or.inr ⟨by rfl, rfl⟩) (by assumption) ?_)); (try simp only [Act.put, List.setIfInBounds_toArray, List.set_cons_zero, List.set_cons_succ])
              (first | (refine wpAnyH_take (i := 3) (oi := ⟨_, _, _, _, _, _⟩) (v := ?_) rfl (by kernel_rfl) (by kernel_rfl) (by kernel_rfl) (fun _ _ _ h => h) (Or.inl ⟨by rfl, ?_⟩) (by assumption) ?_; rotate_left 1; (· (intro w0 hSw; (try dsimp only at hSw); go_simp; (try with_reducible rfl)))) | (refine wpAnyH_take (i := 3) (oi := ⟨_, _, _, _, _, _⟩) (v := undef) rfl (by kernel_rfl) (by kernel_rfl) (by kernel_rfl) (fun _ _ _ h => h) (Or.inr ⟨by rfl, rfl⟩) (by assumption) ?_)); (try simp only [Act.put, List.setIfInBounds_toArray, List.set_cons_zero, List.set_cons_succ])
              (first | (refine wpAnyH_take (i := 4) (oi := ⟨_, _, _, _, _, _⟩) (v := ?_) rfl (by kernel_rfl) (by kernel_rfl) (by kernel_rfl) (fun _ _ _ h => h) (Or.inl ⟨by rfl, ?_⟩) (by assumption) ?_; rotate_left 1; (· (intro w0 hSw; (try dsimp only at hSw); go_simp; (try with_reducible rfl)))) | (refine wpAnyH_take (i := 4) (oi := ⟨_, _, _, _, _, _⟩) (v := undef) rfl (by kernel_rfl) (by kernel_rfl) (by kernel_rfl) (fun _ _ _ h => h) (Or.inr ⟨by rfl, rfl⟩) (by assumption) ?_)); (try simp only [Act.put, List.setIfInBounds_toArray, List.set_cons_zero, List.set_cons_succ])
              (first | (refine wpAnyH_take (i := 5) (oi := ⟨_, _, _, _, _, _⟩) (v := ?_) rfl (by kernel_rfl) (by kernel_rfl) (by kernel_rfl) (fun _ _ _ h => h) (Or.inl ⟨by rfl, ?_⟩) (by assumption) ?_; rotate_left 1; (· (intro w0 hSw; (try dsimp only at hSw); go_simp; (try with_reducible rfl)))) | (refine wpAnyH_take (i := 5) (oi := ⟨_, _, _, _, _, _⟩) (v := undef) rfl (by kernel_rfl) (by kernel_rfl) (by kernel_rfl) (fun _ _ _ h => h) (Or.inr ⟨by rfl, rfl⟩) (by assumption) ?_)); (try simp only [Act.put, List.setIfInBounds_toArray, List.set_cons_zero, List.set_cons_succ])
              (first | (refine wpAnyH_take (i := 6) (oi := ⟨_, _, _, _, _, _⟩) (v := ?_) rfl (by kernel_rfl) (by kernel_rfl) (by kernel_rfl) (fun _ _ _ h => h) (Or.inl ⟨by rfl, ?_⟩) (by assumption) ?_; rotate_left 1; (· (intro w0 hSw; (try dsimp only at hSw); go_simp; (try with_reducible rfl)))) | (refine wpAnyH_take (i := 6) (oi := ⟨_, _, _, _, _, _⟩) (v := undef) rfl (by kernel_rfl) (by kernel_rfl) (by kernel_rfl) (fun _ _ _ h => h) (Or.inr ⟨by rfl, rfl⟩) (by assumption) ?_)); (try simp only [Act.put, List.setIfInBounds_toArray, List.set_cons_zero, List.set_cons_succ])
              (first | (refine wpAnyH_take (i := 7) (oi := ⟨_, _, _, _, _, _⟩) (v := ?_) rfl (by kernel_rfl) (by kernel_rfl) (by kernel_rfl) (fun _ _ _ h => h) (Or.inl ⟨by rfl, ?_⟩) (by assumption) ?_; rotate_left 1; (· (intro w0 hSw; (try dsimp only at hSw); go_simp; (try with_reducible rfl)))) | (refine wpAnyH_take (i := 7) (oi := ⟨_, _, _, _, _, _⟩) (v := undef) rfl (by kernel_rfl) (by kernel_rfl) (by kernel_rfl) (fun _ _ _ h => h) (Or.inr ⟨by rfl, rfl⟩) (by assumption) ?_)); (try simp only [Act.put, List.setIfInBounds_toArray, List.set_cons_zero, List.set_cons_succ])
              (first | (refine wpAnyH_take (i := 8) (oi := ⟨_, _, _, _, _, _⟩) (v := ?_) rfl (by kernel_rfl) (by kernel_rfl) (by kernel_rfl) (fun _ _ _ h => h) (Or.inl ⟨by rfl, ?_⟩) (by assumption) ?_; rotate_left 1; (· (intro w0 hSw; (try dsimp only at hSw); go_simp; (try with_reducible rfl)))) | (refine wpAnyH_take (i := 8) (oi := ⟨_, _, _, _, _, _⟩) (v := undef) rfl (by kernel_rfl) (by kernel_rfl) (by kernel_rfl) (fun _ _ _ h => h) (Or.inr ⟨by rfl, rfl⟩) (by assumption) ?_)); (try simp only [Act.put, List.setIfInBounds_toArray, List.set_cons_zero, List.set_cons_succ])
              (first | (refine wpAnyH_take (i := 9) (oi := ⟨_, _, _, _, _, _⟩) (v := ?_) rfl (by kernel_rfl) (by kernel_rfl) (by kernel_rfl) (fun _ _ _ h => h) (Or.inl ⟨by rfl, ?_⟩) (by assumption) ?_; rotate_left 1; (· (intro w0 hSw; (try dsimp only at hSw); go_simp; (try with_reducible rfl)))) | (refine wpAnyH_take (i := 9) (oi := ⟨_, _, _, _, _, _⟩) (v := undef) rfl (by kernel_rfl) (by kernel_rfl) (by kernel_rfl) (fun _ _ _ h => h) (Or.inr ⟨by rfl, rfl⟩) (by assumption) ?_)); (try simp only [Act.put, List.setIfInBounds_toArray, List.set_cons_zero, List.set_cons_succ])
              refine wpAnyH_ready (rs := [10]) (by kernel_rfl) (by simp) ?_
              refine AllReadyH.cons (o := ⟨_, _, _, _, _, _⟩) rfl (fun K hK => ?_) AllReadyH.nil
              go_simp
              refine (HFO.out _).mono ?_; rintro e Z ⟨rfl, hbz⟩
              (try go_wp2_with fail)
              refine hK.out _ _ ?_ (fun hHeld => ?_)
              · exact Below.step (by assumption) hbz
              clear hK K
              (try simp only [Act.put, List.setIfInBounds_toArray, List.set_cons_zero, List.set_cons_succ])
              (first | (refine wpAnyH_take (i := 11) (oi := ⟨_, _, _, _, _, _⟩) (v := ?_) rfl (by kernel_rfl) (by kernel_rfl) (by kernel_rfl) (fun _ _ _ h => h) (Or.inl ⟨by rfl, ?_⟩) (by assumption) ?_; rotate_left 1; (· (intro w0 hSw; (try dsimp only at hSw); go_simp; (try with_reducible rfl)))) | (refine wpAnyH_take (i := 11) (oi := ⟨_, _, _, _, _, _⟩) (v := undef) rfl (by kernel_rfl) (by kernel_rfl) (by kernel_rfl) (fun _ _ _ h => h) (Or.inr ⟨by rfl, rfl⟩) (by assumption) ?_)); (try simp only [Act.put, List.setIfInBounds_toArray, List.set_cons_zero, List.set_cons_succ])
              refine wpAnyH_done (by kernel_rfl) ?_ _
              have hbd : Below X.heap.size X Z := by (repeat (first | exact Below.refl _ _ | refine Below.drew ?_ | refine Below.allocS ?_ _ | refine Below.step ?_ (by assumption) | refine Below.setCell ?_ (by simp <;> omega) _ | refine Below.drewN' ?_ _))
              have HCD := Lib.hid (HCA.out.step hbd)
              have hbVd : Below V.heap.size V Z := Below.step hbX hbd
              clear hlk2 p0 p1 p2 p3 p4 b0 b2 r0 r1 r2 r3 r4
              go_wp2
              go_roundw
              case rel => exact ⟨k + 1, ls, g, A7, c7, by omega, by go_num, by rw [HLN.out], by rw [← HLN.out]; exact HCD.out, HNX.out, by rw [← HLN.out]; omega, HNE.out, hbVd⟩
              case measure => simp [intOf]; omega
            · go_wp2_with fail
              refine wp_region_held_drew (S := fun W => Below X.heap.size X W) (by kernel_rfl) ?_ (fun hHeld => ?_); (· (repeat (first | (with_reducible exact Below.refl _ _) | (with_reducible assumption) | (with_reducible refine Below.drew ?_) | (with_reducible refine Below.allocS ?_ _) | (with_reducible refine Below.setCell ?_ ?_ _) | (with_reducible refine Below.step ?_ (by assumption)) | (with_reducible refine Below.drewN' ?_ _))); (try any_goals (first | (with_reducible assumption) | (simp; done) | (simp; omega) | omega)))
              (first | (refine wpAnyH_take (i := 0) (oi := ⟨_, _, _, _, _, _⟩) (v := ?_) rfl (by kernel_rfl) (by kernel_rfl) (by kernel_rfl) (fun _ _ _ h => h) (Or.inl ⟨by rfl, ?_⟩) (by assumption) ?_; rotate_left 1; (· (intro w0 hSw; (try dsimp only at hSw); go_simp; (try with_reducible rfl)))) | (refine wpAnyH_take (i := 0) (oi := ⟨_, _, _, _, _, _⟩) (v := undef) rfl (by kernel_rfl) (by kernel_rfl) (by kernel_rfl) (fun _ _ _ h => h) (Or.inr ⟨by rfl, rfl⟩) (by assumption) ?_)); (try simp only [Act.put, List.setIfInBounds_toArray, List.set_cons_zero, List.set_cons_succ])
              (first | (refine wpAnyH_take (i := 1) (oi := ⟨_, _, _, _, _, _⟩) (v := ?_) rfl (by kernel_rfl) (by kernel_rfl) (by kernel_rfl) (fun _ _ _ h => h) (Or.inl ⟨by rfl, ?_⟩) (by assumption) ?_; rotate_left 1; (· (intro w0 hSw; (try dsimp only at hSw); go_simp; (try with_reducible rfl)))) | (refine wpAnyH_take (i := 1) (oi := ⟨_, _, _, _, _, _⟩) (v := undef) rfl (by kernel_rfl) (by kernel_rfl) (by kernel_rfl) (fun _ _ _ h => h) (Or.inr ⟨by rfl, rfl⟩) (by assumption) ?_)); (try simp only [Act.put, List.setIfInBounds_toArray, List.set_cons_zero, List.set_cons_succ])
              (first | (refine wpAnyH_take (i := 2) (oi := ⟨_, _, _, _, _, _⟩) (v := ?_) rfl (by kernel_rfl) (by kernel_rfl) (by kernel_rfl) (fun _ _ _ h => h) (Or.inl ⟨by rfl, ?_⟩) (by assumption) ?_; rotate_left 1; (· (intro w0 hSw; (try dsimp only at hSw); go_simp; (try with_reducible rfl)))) | (refine wpAnyH_take (i := 2) (oi := ⟨_, _, _, _, _, _⟩) (v := undef) rfl (by kernel_rfl) (by kernel_rfl) (by kernel_rfl) (fun _ _ _ h => h) (Or.inr ⟨by rfl, rfl⟩) (by assumption) ?_)); (try simp only [Act.put, List.setIfInBounds_toArray, List.set_cons_zero, List.set_cons_succ])
              (first | (refine wpAnyH_take (i := 3) (oi := ⟨_, _, _, _, _, _⟩) (v := ?_) rfl (by kernel_rfl) (by kernel_rfl) (by kernel_rfl) (fun _ _ _ h => h) (Or.inl ⟨by rfl, ?_⟩) (by assumption) ?_; rotate_left 1; (· (intro w0 hSw; (try dsimp only at hSw); go_simp; (try with_reducible rfl)))) | (refine wpAnyH_take (i := 3) (oi := ⟨_, _, _, _, _, _⟩) (v := undef) rfl (by kernel_rfl) (by kernel_rfl) (by kernel_rfl) (fun _ _ _ h => h) (Or.inr ⟨by rfl, rfl⟩) (by assumption) ?_)); (try simp only [Act.put, List.setIfInBounds_toArray, List.set_cons_zero, List.set_cons_succ])
              (first | (refine wpAnyH_take (i := 4) (oi := ⟨_, _, _, _, _, _⟩) (v := ?_) rfl (by kernel_rfl) (by kernel_rfl) (by kernel_rfl) (fun _ _ _ h => h) (Or.inl ⟨by rfl, ?_⟩) (by assumption) ?_; rotate_left 1; (· (intro w0 hSw; (try dsimp only at hSw); go_simp; (try with_reducible rfl)))) | (refine wpAnyH_take (i := 4) (oi := ⟨_, _, _, _, _, _⟩) (v := undef) rfl (by kernel_rfl) (by kernel_rfl) (by kernel_rfl) (fun _ _ _ h => h) (Or.inr ⟨by rfl, rfl⟩) (by assumption) ?_)); (try simp only [Act.put, List.setIfInBounds_toArray, List.set_cons_zero, List.set_cons_succ])
              (first | (refine wpAnyH_take (i := 5) (oi := ⟨_, _, _, _, _, _⟩) (v := ?_) rfl (by kernel_rfl) (by kernel_rfl) (by kernel_rfl) (fun _ _ _ h => h) (Or.inl ⟨by rfl, ?_⟩) (by assumption) ?_; rotate_left 1; (· (intro w0 hSw; (try dsimp only at hSw); go_simp; (try with_reducible rfl)))) | (refine wpAnyH_take (i := 5) (oi := ⟨_, _, _, _, _, _⟩) (v := undef) rfl (by kernel_rfl) (by kernel_rfl) (by kernel_rfl) (fun _ _ _ h => h) (Or.inr ⟨by rfl, rfl⟩) (by assumption) ?_)); (try simp only [Act.put, List.setIfInBounds_toArray, List.set_cons_zero, List.set_cons_succ])
              (first | (refine wpAnyH_take (i := 6) (oi := ⟨_, _, _, _, _, _⟩) (v := ?_) rfl (by kernel_rfl) (by kernel_rfl) (by kernel_rfl) (fun _ _ _ h => h) (Or.inl ⟨by rfl, ?_⟩) (by assumption) ?_; rotate_left 1; (· (intro w0 hSw; (try dsimp only at hSw); go_simp; (try with_reducible rfl)))) | (refine wpAnyH_take (i := 6) (oi := ⟨_, _, _, _, _, _⟩) (v := undef) rfl (by kernel_rfl) (by kernel_rfl) (by kernel_rfl) (fun _ _ _ h => h) (Or.inr ⟨by rfl, rfl⟩) (by assumption) ?_)); (try simp only [Act.put, List.setIfInBounds_toArray, List.set_cons_zero, List.set_cons_succ])
              (first | (refine wpAnyH_take (i := 7) (oi := ⟨_, _, _, _, _, _⟩) (v := ?_) rfl (by kernel_rfl) (by kernel_rfl) (by kernel_rfl) (fun _ _ _ h => h) (Or.inl ⟨by rfl, ?_⟩) (by assumption) ?_; rotate_left 1; (· (intro w0 hSw; (try dsimp only at hSw); go_simp; (try with_reducible rfl)))) | (refine wpAnyH_take (i := 7) (oi := ⟨_, _, _, _, _, _⟩) (v := undef) rfl (by kernel_rfl) (by kernel_rfl) (by kernel_rfl) (fun _ _ _ h => h) (Or.inr ⟨by rfl, rfl⟩) (by assumption) ?_)); (try simp only [Act.put, List.setIfInBounds_toArray, List.set_cons_zero, List.set_cons_succ])
              (first | (refine wpAnyH_take (i := 8) (oi := ⟨_, _, _, _, _, _⟩) (v := ?_) rfl (by kernel_rfl) (by kernel_rfl) (by kernel_rfl) (fun _ _ _ h => h) (Or.inl ⟨by rfl, ?_⟩) (by assumption) ?_; rotate_left 1; (· (intro w0 hSw; (try dsimp only at hSw); go_simp; (try with_reducible rfl)))) | (refine wpAnyH_take (i := 8) (oi := ⟨_, _, _, _, _, _⟩) (v := undef) rfl (by kernel_rfl) (by kernel_rfl) (by kernel_rfl) (fun _ _ _ h => h) (Or.inr ⟨by rfl, rfl⟩) (by assumption) ?_)); (try simp only [Act.put, List.setIfInBounds_toArray, List.set_cons_zero, List.set_cons_succ])
              (first | (refine wpAnyH_take (i := 9) (oi := ⟨_, _, _, _, _, _⟩) (v := ?_) rfl (by kernel_rfl) (by kernel_rfl) (by kernel_rfl) (fun _ _ _ h => h) (Or.inl ⟨by rfl, ?_⟩) (by assumption) ?_; rotate_left 1; (· (intro w0 hSw; (try dsimp only at hSw); go_simp; (try with_reducible rfl)))) | (refine wpAnyH_take (i := 9) (oi := ⟨_, _, _, _, _, _⟩) (v := undef) rfl (by kernel_rfl) (by kernel_rfl) (by kernel_rfl) (fun _ _ _ h => h) (Or.inr ⟨by rfl, rfl⟩) (by assumption) ?_)); (try simp only [Act.put, List.setIfInBounds_toArray, List.set_cons_zero, List.set_cons_succ])
              refine wpAnyH_ready (rs := [10]) (by kernel_rfl) (by simp) ?_
              refine AllReadyH.cons (o := ⟨_, _, _, _, _, _⟩) rfl (fun K hK => ?_) AllReadyH.nil
              go_simp
              refine (HFO.out _).mono ?_; rintro e Z ⟨rfl, hbz⟩
              (try go_wp2_with fail)
              refine hK.out _ _ ?_ (fun hHeld => ?_)
              · exact Below.step (by assumption) hbz
              clear hK K
              (try simp only [Act.put, List.setIfInBounds_toArray, List.set_cons_zero, List.set_cons_succ])
              (first | (refine wpAnyH_take (i := 11) (oi := ⟨_, _, _, _, _, _⟩) (v := ?_) rfl (by kernel_rfl) (by kernel_rfl) (by kernel_rfl) (fun _ _ _ h => h) (Or.inl ⟨by rfl, ?_⟩) (by assumption) ?_; rotate_left 1; (· (intro w0 hSw; (try dsimp only at hSw); go_simp; (try with_reducible rfl)))) | (refine wpAnyH_take (i := 11) (oi := ⟨_, _, _, _, _, _⟩) (v := undef) rfl (by kernel_rfl) (by kernel_rfl) (by kernel_rfl) (fun _ _ _ h => h) (Or.inr ⟨by rfl, rfl⟩) (by assumption) ?_)); (try simp only [Act.put, List.setIfInBounds_toArray, List.set_cons_zero, List.set_cons_succ])
              refine wpAnyH_done (by kernel_rfl) ?_ _
              have hbd : Below X.heap.size X Z := by (repeat (first | exact Below.refl _ _ | refine Below.drew ?_ | refine Below.allocS ?_ _ | refine Below.step ?_ (by assumption) | refine Below.setCell ?_ (by simp <;> omega) _ | refine Below.drewN' ?_ _))
              clear hlk2 p0 p1 p2 p3 p4 b0 b2 r0 r1 r2 r3 r4
              have HCZ := Lib.hid (HCA.out.step hbd)
              have HEZ := Lib.hid (HEK.out.step hbd)
              have hgX := HCA.out.lt
              have hsXZ := hbd.size
              have hbVZ : Below V.heap.size V Z := Below.step hbX hbd
              have hsl20 : sl ≤ 1000 := by rw [HSL.out]; exact HEZ.out.a.l
              have HCLIP := Lib.hid (fun W => Clip_c s.A sl s.c (by rw [HSL.out]; exact HEZ.out.a.c.1) HEZ.out.a.c.2 (fun hA => absurd (HEZ.out.a.r.none_len hA) (by
                rw [List.length_map]
                cases hx : s.xs with
                | nil => exact absurd hx HEZ.out.ne
                | cons a t => simp)) W)
              have HAP1 := Lib.hid (app_clip (s.xs.map Int.ofNat) (i : Int) s.A (by rw [List.length_map]; exact HEZ.out.a.l) (Z.alloc (.cells #[.int .i64 i] 3)) Z.heap.size (HEZ.out.a.r.step (Below.allocS (Below.refl _ _) _)) (by simp [go_sem]) sl (by rw [List.length_map]; exact HSL.out))
              have HGR := Lib.hid (fun (W6 : World) (g6 c6 : Nat) hb ho hk hlo => grow_one (W6 := W6) (g6 := g6) (c6 := c6) (i := i) HCZ.out HEZ.out hb ho hk HSL.out hil (by omega) hgX hsXZ hlo (by rw [← HLN.out]; omega))
              go_wp2_with (first
                | (go_at_call 120; refine (HCLIP.out _).mono ?_; rintro e w' ⟨rfl, hw'⟩; replace hw' := hw'.symm; subst hw')
                | (at_builtin; refine wpList_app rfl (.tmp 55) (.tmp 57) 75 rfl _ _ rfl rfl HAP1.out ?_; rintro v6 W6 ⟨hown6, hb6⟩; obtain ⟨A6, c6, rfl, k6, m6⟩ := row_form hown6; have hA6 := own_addr hown6 (by omega); obtain ⟨g6, rfl⟩ := hA6; have HO6 := Lib.hid hown6; have HK6 := Lib.hid (And.intro k6 m6); have hlo6 := hown6.lt g6 rfl; have hbZ6 : Below Z.heap.size Z W6 := Below.low (by (repeat (first | (with_reducible exact Below.refl _ _) | (with_reducible assumption) | (with_reducible refine Below.drew ?_) | (with_reducible refine Below.allocS ?_ _) | (with_reducible refine Below.setCell ?_ ?_ _) | (with_reducible refine Below.step ?_ (by assumption)) | (with_reducible refine Below.drewN' ?_ _))); (try any_goals (first | (with_reducible assumption) | (simp; done) | (simp; omega) | omega))) hb6 (by simp); have HAP2 := Lib.hid (HGR.out W6 g6 c6 hbZ6 HO6.out HK6.out hlo6); clear hown6 hb6 k6 m6)
                | (at_builtin; refine wpList_app rfl (.tmp 53) (.tmp 59) 130 rfl _ _ rfl rfl HAP2.out ?_; rintro v7 W7 ⟨⟨g7, hc7⟩, hb7⟩; obtain ⟨A8, c8, rfl, -, -⟩ := row_form hc7.own; have HC7 := Lib.hid hc7; clear hc7))
              have hbV7 : Below V.heap.size V W7 := Below.low (Below.allocS (Below.step hbVZ hbZ6) _) hb7 (Nat.le_refl _)
              have HNX := Lib.hid (show (ls ++ [(⟨some ⟨g6, 0, none⟩, c6, s.xs ++ [i]⟩ : SlL)]).map (·.xs) = cand l L per (eT l L per i) i (k + 1) by
                rw [HCS.out, if_pos HPB.out, List.map_append, HMX.out, eT_get l L per hki, ← HEZ.out.x]; rfl)
              have HNE7 : Hid (∀ z ∈ ls ++ [(⟨some ⟨g6, 0, none⟩, c6, s.xs ++ [i]⟩ : SlL)], z.xs ≠ [] ∧ z.xs.length ≤ i + 1) := Lib.hid fun z hz => by
                rcases List.mem_append.1 hz with hz | hz
                · exact HNE.out z hz
                · simp at hz; subst hz
                  have := HEZ.out.len
                  exact ⟨by simp, by simp; omega⟩
              clear hb7 hlo6
              go_roundw
              case rel => exact ⟨k + 1, ls ++ [⟨some ⟨g6, 0, none⟩, c6, s.xs ++ [i]⟩], g7, A8, c8, by omega, by go_num, by simp, HC7.out, HNX.out, by rw [List.length_append, ← HLN.out]; simp; omega, HNE7.out, hbV7⟩
              case measure => simp [intOf]; omega
        · obtain rfl : k = i := by omega
          have u6 : decide ((k : Int) < (k : Int)) = false := decide_eq_false (by omega)
          have hme := min_end (fun s hs => (HCA.out.at' s hs).1) HMX.out HNE.out
          have HME := Lib.hid hme.2
          have hl1 : 1 ≤ ln := by rw [HLN.out]; exact hme.1
          have HMF : Hid (Calls Tryz.prog 93 #[.slice A7 ln c7, .func (.func 94) #[.agg #[.slice (some ⟨b, off, none⟩) n cap]] #[]] X fun e w' => e = .returned (.slice (minK l ls (ls.length - 1)).A (minK l ls (ls.length - 1)).xs.length (minK l ls (ls.length - 1)).c) ∧ Below X.heap.size X w') := by
            have := MinFunc_c l (some ⟨b, off, none⟩) cap HP.out.v (by rw [← HN.out]; omega) ls ln HLN.out.symm hl1 (by omega) A7 c7 X (HIN.out.hr.step hbwX) (RdL.of_own (enc := slE) (fun _ => rfl) (by have := HCA.out.own; rw [← HLN.out] at this; exact this) HLN.out.symm) (fun s hs => (HCA.out.at' s hs).1)
            rw [← HN.out] at this
            rw [← HLN.out]
            exact Lib.hid this
          have HKI := Lib.hid (Maps.keyOf_int_mk (P := Tryz.prog) Tryz.underlying3 (wf_small (k := k) (by omega)))
          generalize minK l ls (ls.length - 1) = x at *
          clear hme
          go_wp2_with fail
          refine HMF.out.mono ?_
          rintro e Y ⟨rfl, hbY⟩
          have HMY := Lib.hid (HMAP.out.step hbY)
          have HSY := Lib.hid (fun j hj hc => (HSX.out j hj hc).step hbY)
          have HXY := Lib.hid (HME.out.step hbY)
          have hbwY : Below w.heap.size w Y := Below.low hbwX hbY (by have := hbwX.size; omega)
          have y0 := keep_cell hbY k0
          have y1 := keep_cell hbY k1
          have y2 := keep_cell hbY k2
          clear h0 h1 h2 h3 h4 k0 k1 k2 e0 e1 e2 e3 e4 f0 f1 f2 hbY
          obtain ⟨xl, hxl⟩ : ∃ xl, xl = x.xs.length := ⟨_, rfl⟩
          have HXL := Lib.hid hxl
          rw [← hxl]
          clear hxl
          go_wp2_with (at_mapUpdate; refine wpList_storeF rfl (.tmp 62) (.tmp 63) (.tmp 66) 131 rfl _ 3 75 (Maps.int_keyed Tryz.underlying3) Tryz.underlying131 (w.heap.size + 1) k _ rfl HMY.out (by unfold maxLen; omega) _ _ _ rfl rfl HKI.out ?_; intro W9 hM9 hg9)
          have HM9 : Hid (MapF Tryz.prog 3 W9 (w.heap.size + 1) (k + 1) (eF (clB l L) (setS S k x) (k + 1))) := Lib.hid (by rw [eF_put S x HCL.out]; unfold slV; rw [← HXL.out]; exact hM9)
          have hb9 : Below w.heap.size w W9 := Below.grown hbwY hg9 (by have := hbwY.size; omega) (fun j e => by cases e; omega)
          have z0 := grown_cell hg9 y0 (by simp)
          have z1 := grown_cell hg9 y1 (by simp)
          have z2 := grown_cell hg9 y2 (by simp)
          have HS9 : Hid (∀ j, j < k + 1 → clB l L j = true → EndAt W9 l L per j (setS S k x j)) := Lib.hid fun j hj hc => by
            unfold setS
            rcases Nat.lt_succ_iff_lt_or_eq.1 hj with h | rfl
            · rw [if_neg (by omega)]; exact (HSY.out j h hc).store HMY.out hg9
            · rw [if_pos rfl]; exact HXY.out.store HMY.out hg9
          clear hM9 hg9
          go_roundw
          case rel => exact ⟨k + 1, setS S k x, by omega, by go_num, HM9.out, HS9.out, z0, z1, z2, hb9⟩
          case measure => simp [intOf]; omega
    · obtain rfl : i = n := by omega
      have u1 : decide ((i : Int) < (i : Int)) = false := decide_eq_false (by omega)
      go_wp2
      go_ret
      exact ⟨⟨w.heap.size + 1, rfl, S, HMP.out, HS.out⟩, hbw⟩
end Go.Proofs.YtimbdnngeoccdaaGreatDoor
