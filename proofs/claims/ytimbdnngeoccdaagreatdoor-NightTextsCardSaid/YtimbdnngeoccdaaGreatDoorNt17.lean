/-
  best of night: the best right list. No conditions.
-/
import Derived.Test.YtimbdnngeoccdaaGreatDoorNt16
namespace Go.Proofs.YtimbdnngeoccdaaGreatDoor
open Go.RowKit Go.Deep
set_option linter.unusedVariables false
set_option linter.unusedSimpArgs false
theorem cand_app2 {W : World} {base g : Nat} {v : Value} {n : Nat} {ls : List SlL} (h : CandAt W base g v n ls) (hl : ls.length ≤ 1000) (x : SlL) (hx : SlAt W n x) (b off : Nat) (e : x.A = some ⟨b, off, none⟩) (hb : b < W.heap.size) (hne : b ≠ g) :
    ∃ v' w', (Builtin.append_ #[130, 130] 130 #[v, .slice (some ⟨W.heap.size, 0, none⟩) 1 1]).run Tryz.prog (W.alloc (.cells #[slV x] 75)) = .ok v' w' ∧
      ((∃ g', (g' = g ∨ W.heap.size ≤ g') ∧ CandAt w' base g' v' n (ls ++ [x])) ∧ (W.alloc (.cells #[slV x] 75)).grownBy w' (some g)) := by
  obtain ⟨i, z, bytes, h1, h2, h3, h4, h5, h6⟩ := appSl.info
  have hbl : Below W.heap.size W (W.alloc (.cells #[slV x] 75)) := Below.allocS (Below.refl _ _) _
  have h0 := h.step hbl
  have hge := h.ge
  have hlt := h.lt
  obtain ⟨v', w', hrun, r1, r2, r3, r4⟩ := run_append_own_at (P := Tryz.prog) (w := W.alloc (.cells #[slV x] 75)) base 130 130 75 i z 1 bytes appSl.ht h1 h2 h3 h4 h5 appSl.pos v ls.length (ls.flatMap slE) h0.own ⟨W.heap.size, 0, none⟩ 1 1 (slE x) rfl
    (cell_one_new W (slV x) _) (appSl.one x) (by unfold maxLen; omega) (by have := Nat.mul_le_mul (show ls.length + 1 ≤ 1001 by omega) h6; omega) (by simp; omega)
  have hown : w'.ownsRow base 75 1 v' (ls ++ [x]).length ((ls ++ [x]).flatMap slE) := by
    rw [List.length_append, List.length_singleton]
    exact row_snoc (enc := slE) (y := x) r1 rfl
  rw [h.vb] at r2 r4
  have hsz : W.heap.size + 1 ≤ w'.heap.size := by have := r2.size; simpa using this
  have helem : ∀ s ∈ ls ++ [x], ∃ b off, s.A = some ⟨b, off, none⟩ ∧ b < W.heap.size ∧ b ≠ g ∧ SlAt W n s := fun s hs => by
    rcases List.mem_append.1 hs with hs | hs
    · obtain ⟨k1, b, off, k2, k3, k4⟩ := h.at' s hs
      exact ⟨b, off, k2, k3, k4, k1⟩
    · simp at hs; subst hs
      exact ⟨b, off, e, hb, hne, hx⟩
  have hat : ∀ s ∈ ls ++ [x], SlAt w' n s := fun s hs => by
    obtain ⟨b, off, k2, k3, k4, k1⟩ := helem s hs
    have k5 := k1.step hbl
    refine ⟨?_, k5.i, k5.l, k5.c⟩
    have := k5.r
    rw [k2] at this ⊢
    exact this.grown r2 (by simp [k4])
  refine ⟨v', w', hrun, ?_, ?_⟩
  · rcases r4 with r4 | r4
    · exact ⟨g, .inl rfl, hown, r4, by omega, hge, fun s hs => by
        obtain ⟨b, off, k2, k3, k4, k1⟩ := helem s hs
        exact ⟨hat s hs, b, off, k2, by omega, k4⟩⟩
    · have hnew := (hown.lt _ r4)
      exact ⟨_, .inr (by simp), hown, r4, hnew.2, hnew.1, fun s hs => by
        obtain ⟨b, off, k2, k3, k4, k1⟩ := helem s hs
        exact ⟨hat s hs, b, off, k2, by omega, by simp; omega⟩⟩
  · exact r2
/-- The lists of which the best one is taken. -/
def ends (l : List Ch) (L : List Cl) (per : Int) (k : Nat) : List (List Nat) := [] :: ((List.range k).filter (clB l L)).map (fun j => (eT l L per (j + 1)).getD j [])
theorem ends_succ (l : List Ch) (L : List Cl) (per : Int) (k : Nat) : ends l L per (k + 1) = if clB l L k then ends l L per k ++ [(eT l L per (k + 1)).getD k []] else ends l L per k := by
  unfold ends
  rw [List.range_succ, List.filter_append]
  cases h : clB l L k <;> simp [h]
def bestL (l : List Ch) (L : List Cl) (per : Int) : List Nat := minP l (ends l L per l.length) ((ends l L per l.length).length - 1)
/-- A list that is there does not lie in a block of one slice. -/
theorem SlAt.ne_one {W : World} {n : Nat} {s : SlL} (h : SlAt W n s) (hne : s.xs ≠ []) {g : Nat} {A : Option Addr} {m c : Nat} (hg : W.heap[g]? = some (.cells #[.slice A m c] 75)) : ∃ b off, s.A = some ⟨b, off, none⟩ ∧ b < W.heap.size ∧ b ≠ g := by
  have hl : 0 < (s.xs.map Int.ofNat).length := by
    rw [List.length_map]
    cases hx : s.xs with
    | nil => exact absurd hx hne
    | cons a t => simp
  obtain ⟨b, off, e, hlt, hc⟩ := h.r hl
  refine ⟨b, off, e, hlt, fun he => ?_⟩
  have h0 := hc 0 hl 0 _ rfl
  subst he
  unfold World.cell? at h0
  simp only [hg] at h0
  rcases Nat.eq_zero_or_pos off with rfl | hp
  · simp at h0
  · rw [show off + 0 * 1 + 0 = off by omega] at h0
    rw [Array.getElem?_eq_none (by simp; omega)] at h0
    simp at h0
theorem heap_new (W : World) (o : Obj) : (W.alloc o).heap[W.heap.size]? = some o := by
  show (W.heap.push o)[W.heap.size]? = some o
  exact Array.getElem?_push_size
theorem EndAt.grown {W W' : World} {l : List Ch} {L : List Cl} {per : Int} {j g b off : Nat} {s : SlL} (h : EndAt W l L per j s) (hg : W.grownBy W' (some g)) (e : s.A = some ⟨b, off, none⟩) (hne : b ≠ g) : EndAt W' l L per j s := by
  refine ⟨⟨?_, h.a.i, h.a.l, h.a.c⟩, h.x, h.ne, h.len⟩
  have := h.a.r
  rw [e] at this ⊢
  exact this.grown hg (by simp [hne])
set_option maxHeartbeats 8000000 in
set_option maxRecDepth 100000 in
theorem best_c (l : List Ch) (A : Option Addr) (cap : Nat) (L : List Cl) (B : Option Addr) (cb : Nat) (per : Int) (w : World) (h : InAt w l A cap L B cb) (hp : PlanOk l per) :
    Calls Tryz.prog 59 #[.agg #[.slice A l.length cap, .slice B L.length cb, .int .i64 per]] w fun e w' => (∃ x : SlL, e = .returned (.slice x.A x.xs.length x.c) ∧ SlAt w' l.length x ∧ x.xs = bestL l L per) ∧ Below w.heap.size w w' := by
  have HIN := Lib.hid h
  have HP := Lib.hid hp
  have hn20 := hp.n
  have HEN := Lib.hid (fun W (hb : Below w.heap.size w W) => ending_c l A cap L B cb per W (h.step hb) hp)
  obtain ⟨n, hn⟩ : ∃ n, n = l.length := ⟨_, rfl⟩
  have HN := Lib.hid hn
  rw [← hn] at hn20 HEN ⊢
  obtain ⟨m, hm⟩ : ∃ m, m = L.length := ⟨_, rfl⟩
  rw [← hm] at HEN ⊢
  clear h hp hn hm
  go_enter Tryz.func59, Tryz.ntmps59
  go_wp2_with fail
  obtain ⟨V1, hV1⟩ : ∃ V1, V1 = (w.alloc (.cells #[.slice A n cap, .slice B m cb, .int .i64 per] 103)).alloc (.cells #[] 3) := ⟨_, rfl⟩
  rw [← hV1]
  have hs1 : V1.heap.size = w.heap.size + 2 := by rw [hV1]; simp
  have hb1 : Below w.heap.size w V1 := by rw [hV1]; (repeat (first | (with_reducible exact Below.refl _ _) | (with_reducible assumption) | (with_reducible refine Below.drew ?_) | (with_reducible refine Below.allocS ?_ _) | (with_reducible refine Below.setCell ?_ ?_ _) | (with_reducible refine Below.step ?_ (by assumption)) | (with_reducible refine Below.drewN' ?_ _))); (try any_goals (first | (with_reducible assumption) | (simp; done) | (simp; omega) | omega))
  have x0 : V1.cell? ⟨w.heap.size, 0, none⟩ = some (.slice A n cap) := by rw [hV1]; simp [go_sem]
  have x1 : V1.cell? ⟨w.heap.size, 1, none⟩ = some (.slice B m cb) := by rw [hV1]; simp [go_sem]
  have x2 : V1.cell? ⟨w.heap.size, 2, none⟩ = some (.int .i64 per) := by rw [hV1]; simp [go_sem]
  clear hV1
  rw [show w.heap.size + 1 + 1 = V1.heap.size by omega]
  have HC0 := Lib.hid (CandAt.one V1 (w.heap.size + 1) l.length ⟨some ⟨w.heap.size + 1, 0, none⟩, 0, []⟩ ⟨fun h => absurd h (by simp), fun j hj => by simp at hj, by simp, by simp⟩ (w.heap.size + 1) 0 rfl (by omega) (by omega))
  have hbV : Below w.heap.size w (V1.alloc (.cells #[.slice (some ⟨w.heap.size + 1, 0, none⟩) 0 0] 75)) := Below.allocS hb1 _
  have hhg : (V1.alloc (.cells #[.slice (some ⟨w.heap.size + 1, 0, none⟩) 0 0] 75)).heap[V1.heap.size]? = some (.cells #[.slice (some ⟨w.heap.size + 1, 0, none⟩) 0 0] 75) := heap_new V1 _
  have hbn : Below V1.heap.size V1 (V1.alloc (.cells #[.slice (some ⟨w.heap.size + 1, 0, none⟩) 0 0] 75)) := Below.allocS (Below.refl _ _) _
  have y0 := keep_cell hbn x0
  have y1 := keep_cell hbn x1
  have y2 := keep_cell hbn x2
  have hsV : (V1.alloc (.cells #[.slice (some ⟨w.heap.size + 1, 0, none⟩) 0 0] 75)).heap.size = V1.heap.size + 1 := by simp
  have hcg : (V1.alloc (.cells #[.slice (some ⟨w.heap.size + 1, 0, none⟩) 0 0] 75)).cell? ⟨V1.heap.size, 0, none⟩ = some (.slice (some ⟨w.heap.size + 1, 0, none⟩) 0 0) := by unfold World.cell?; simp only [hhg]; rfl
  clear x0 x1 x2 hbn
  have HC0 : Hid (CandAt (V1.alloc (.cells #[.slice (some ⟨w.heap.size + 1, 0, none⟩) 0 0] 75)) (w.heap.size + 1) V1.heap.size (.slice (some ⟨V1.heap.size, 0, none⟩) 1 1) l.length [⟨some ⟨w.heap.size + 1, 0, none⟩, 0, []⟩]) := HC0
  generalize V1.alloc (.cells #[.slice (some ⟨w.heap.size + 1, 0, none⟩) 0 0] 75) = V at *
  refine (HEN.out _ hbV).mono ?_
  rintro e Y ⟨⟨Bm, S, rfl, hmap, hS⟩, hbY⟩
  have hsVY := hbY.size
  have hbwY : Below w.heap.size w Y := Below.low hbV hbY (by omega)
  have z0 := keep_cell hbY y0
  have z1 := keep_cell hbY y1
  have z2 := keep_cell hbY y2
  have hgY : Y.heap[V1.heap.size]? = some (.cells #[.slice (some ⟨w.heap.size + 1, 0, none⟩) 0 0] 75) := (hbY.block _ (by omega)).trans hhg
  have hBm : Bm ≠ V1.heap.size := fun e => by
    have h1 := hmap.no_cell 0
    rw [e, keep_cell hbY hcg] at h1
    cases h1
  have HB : Hid (∀ j, j < n → clB l L j = true → ∃ b off, (S j).A = some ⟨b, off, none⟩ ∧ b < Y.heap.size ∧ b ≠ V1.heap.size) := Lib.hid fun j hj hc => (hS j hj hc).a.ne_one (hS j hj hc).ne hgY
  have HMP := Lib.hid hmap
  have HSS := Lib.hid hS
  have HCY := Lib.hid (HC0.out.step hbY)
  have yM := hmap.lt
  have yX := cell?_lt z0
  clear hmap hS hgY hcg hhg y0 y1 y2 hbV hb1 HC0 HEN
  go_wp2_with fail
  go_loopw [3, 15] (fun u k' wr => ∃ (k : Nat) (ls : List SlL) (g A7 : _) (c7 : Nat), k ≤ n ∧ k' = .int .i64 k ∧ u = .slice A7 ls.length c7 ∧ CandAt wr (w.heap.size + 1) g (.slice A7 ls.length c7) l.length ls ∧ (g = V1.heap.size ∨ Y.heap.size ≤ g) ∧ ls.map (·.xs) = ends l L per k ∧ ls.length ≤ k + 1 ∧ MapF Tryz.prog 3 wr Bm n (eF (clB l L) S n) ∧ (∀ j, j < n → clB l L j = true → EndAt wr l L per j (S j)) ∧
    wr.cell? ⟨w.heap.size, 0, none⟩ = some (.slice A n cap) ∧ Below w.heap.size w wr ∧ Y.heap.size ≤ wr.heap.size) (fun _ k' _ => n - (intOf k').toNat)
  case atStart =>
    rw [hs1] at HCY ⊢
    exact ⟨0, [⟨some ⟨w.heap.size + 1, 0, none⟩, 0, []⟩], _, _, 1, Nat.zero_le _, rfl, rfl, HCY.out, .inl rfl, rfl, by simp, HMP.out, HSS.out, z0, hbwY, Nat.le_refl _⟩
  case round =>
    rename World => X
    obtain ⟨k, ls, g, A7, c7, hk, rfl, rfl, hcand, hg, hmapx, hlen, hmap, hS, q0, hbX, hsX⟩ := hrel
    have HCA := Lib.hid hcand
    have HMX := Lib.hid hmapx
    have HMA := Lib.hid hmap
    have HS := Lib.hid hS
    have yQ := cell?_lt q0
    clear hcand hmapx hmap hS
    obtain ⟨ln, hln⟩ : ∃ ln, ln = ls.length := ⟨_, rfl⟩
    have HLN := Lib.hid hln
    rw [← hln] at hlen HCA ⊢
    clear hln
    by_cases hkn : k < n
    · have u6 : decide ((k : Int) < (n : Int)) = true := decide_eq_true (by omega)
      have u7 : IntKind.i64.wrap ((k : Int) + 1) = (k : Int) + 1 := IntWalk.i64_in _ (by omega)
      have HKK := Lib.hid (Maps.keyOf_int_mk (P := Tryz.prog) Tryz.underlying3 (wf_small (k := k) (by omega)))
      have HES := Lib.hid (ends_succ l L per k)
      have hget := eF_get (clB l L) S n k
      obtain ⟨ck, hck⟩ : ∃ ck, ck = clB l L k := ⟨_, rfl⟩
      have HCK := Lib.hid hck
      rw [← hck] at hget
      clear hck
      cases ck
      · rw [if_neg (by simp)] at hget
        have HNX := Lib.hid (show ls.map (·.xs) = ends l L per (k + 1) by rw [HES.out, if_neg (by rw [← HCK.out]; simp)]; exact HMX.out)
        have hlk := HMA.out.look_ok (Maps.int_keyed Tryz.underlying3) Tryz.underlying131 (zero_slice X) HKK.out
        rw [hget] at hlk
        have hlk2 : (Instr.lookup 131 (.map (some Bm)) (.int .i64 k) true).run Tryz.prog X = .ok (.tuple #[.slice none 0 0, .bool false]) X := hlk
        clear hlk hget
        go_wp2
        go_roundw
        case rel => exact ⟨k + 1, ls, g, A7, c7, by omega, by go_num, by rw [HLN.out], by rw [← HLN.out]; exact HCA.out, hg, HNX.out, by rw [← HLN.out]; omega, HMA.out, HS.out, q0, hbX, hsX⟩
        case measure => simp [intOf]; omega
      · rw [if_pos ⟨hkn, rfl⟩] at hget
        have hlk := HMA.out.look_ok (Maps.int_keyed Tryz.underlying3) Tryz.underlying131 (zero_slice X) HKK.out
        rw [hget] at hlk
        have HEK := Lib.hid (HS.out k hkn HCK.out.symm)
        obtain ⟨bs, offs, hSA, hbs, hbsne⟩ := HB.out k hkn HCK.out.symm
        obtain ⟨s, hs⟩ : ∃ s, s = S k := ⟨_, rfl⟩
        have HSE := Lib.hid hs
        rw [← hs] at hlk HEK hSA
        obtain ⟨sl, hsl⟩ : ∃ sl, sl = s.xs.length := ⟨_, rfl⟩
        have HSL := Lib.hid hsl
        have hlk2 : (Instr.lookup 131 (.map (some Bm)) (.int .i64 k) true).run Tryz.prog X = .ok (.tuple #[.slice s.A sl s.c, .bool true]) X := by rw [hsl]; exact hlk
        clear hlk hs hsl hget
        have hbg : bs ≠ g := by omega
        have HAP := Lib.hid (cand_app2 (by rw [HLN.out] at HCA; exact HCA.out) (by rw [← HLN.out]; omega) s HEK.out.a bs offs hSA (by omega) hbg)
        have hAP : ∃ v' w', (Builtin.append_ #[130, 130] 130 #[.slice A7 ln c7, .slice (some ⟨X.heap.size, 0, none⟩) 1 1]).run Tryz.prog (X.alloc (.cells #[.slice s.A sl s.c] 75)) = .ok v' w' ∧
            ((∃ g', (g' = g ∨ X.heap.size ≤ g') ∧ CandAt w' (w.heap.size + 1) g' v' l.length (ls ++ [s])) ∧ (X.alloc (.cells #[.slice s.A sl s.c] 75)).grownBy w' (some g)) := by
          rw [HLN.out, HSL.out]; exact HAP.out
        have HAP2 := Lib.hid hAP
        clear HAP hAP hSA
        go_wp2_with (at_builtin; refine wpList_app rfl (.tmp 25) (.tmp 27) 130 rfl _ _ rfl rfl HAP2.out ?_; rintro v7 W7 ⟨⟨g7, hg7, hc7⟩, hb7⟩; obtain ⟨A8, c8, rfl, -, -⟩ := row_form hc7.own; have HC7 := Lib.hid hc7; clear hc7)
        have hgge := HCA.out.ge
        have hgX := HCA.out.lt
        have hsX7 := hb7.size
        have hsXa : (X.alloc (.cells #[.slice s.A sl s.c] 75)).heap.size = X.heap.size + 1 := by simp
        have hbn : Below X.heap.size X (X.alloc (.cells #[.slice s.A sl s.c] 75)) := Below.allocS (Below.refl _ _) _
        have hb8 : Below w.heap.size w W7 := Below.grown (Below.allocS hbX _) hb7 (by omega) (fun j e => by cases e; omega)
        have HM7 := Lib.hid ((HMA.out.step hbn).kept hb7 (by simp; omega))
        have HNX := Lib.hid (show (ls ++ [s]).map (·.xs) = ends l L per (k + 1) by
          rw [HES.out, if_pos HCK.out.symm, List.map_append, HMX.out, ← HEK.out.x]; rfl)
        have HS7 : Hid (∀ j, j < n → clB l L j = true → EndAt W7 l L per j (S j)) := Lib.hid fun j hj hc => by
          obtain ⟨b, off, e1, e2, e3⟩ := HB.out j hj hc
          exact ((HS.out j hj hc).step hbn).grown hb7 e1 (by omega)
        have q7 := grown_cell hb7 (keep_cell hbn q0) (by simp; omega)
        clear hb7 hbn
        go_roundw
        case rel => exact ⟨k + 1, ls ++ [s], g7, A8, c8, by omega, by go_num, by simp, HC7.out, by omega, HNX.out, by rw [List.length_append, ← HLN.out]; simp; omega, HM7.out, HS7.out, q7, hb8, by omega⟩
        case measure => simp [intOf]; omega
    · obtain rfl : k = n := by omega
      have u6 : decide ((k : Int) < (k : Int)) = false := decide_eq_false (by omega)
      have hl1 : 1 ≤ ln := by
        rw [HLN.out, show ls.length = (ls.map (·.xs)).length by rw [List.length_map], HMX.out]
        unfold ends; simp
      have hmem := minK_mem l ls (ls.length - 1) (by have := HLN.out; omega)
      have HAT := Lib.hid ((HCA.out.at' _ hmem).1)
      have HXS : Hid ((minK l ls (ls.length - 1)).xs = bestL l L per) := Lib.hid (by
        rw [minK_xs, show ls.length = (ls.map (·.xs)).length by rw [List.length_map], HMX.out, HN.out]; rfl)
      have HMF : Hid (Calls Tryz.prog 93 #[.slice A7 ln c7, .func (.func 94) #[.agg #[.slice A k cap]] #[]] X fun e w' => e = .returned (.slice (minK l ls (ls.length - 1)).A (minK l ls (ls.length - 1)).xs.length (minK l ls (ls.length - 1)).c) ∧ Below X.heap.size X w') := by
        have := MinFunc_c l A cap HP.out.v (by rw [← HN.out]; omega) ls ln HLN.out.symm hl1 (by omega) A7 c7 X (HIN.out.hr.step hbX) (RdL.of_own (enc := slE) (fun _ => rfl) (by have := HCA.out.own; rw [← HLN.out] at this; exact this) HLN.out.symm) (fun s hs => (HCA.out.at' s hs).1)
        rw [← HN.out] at this
        rw [HLN.out] at this ⊢
        exact Lib.hid this
      generalize minK l ls (ls.length - 1) = x at *
      clear hmem
      go_wp2_with fail
      refine HMF.out.mono ?_
      rintro e Z ⟨rfl, hbZ⟩
      have hbwZ : Below w.heap.size w Z := Below.low hbX hbZ (by have := hbX.size; omega)
      have HAZ := Lib.hid (HAT.out.step hbZ)
      go_wp2
      go_ret
      exact ⟨⟨x, rfl, by rw [HN.out]; exact HAZ.out, HXS.out⟩, hbwZ⟩
end Go.Proofs.YtimbdnngeoccdaaGreatDoor
