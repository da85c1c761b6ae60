/-
  Bundle K8: Q28, Q29, Q30, Q31, Q32, Q33. Printed by bundle.py.
-/
import Derived.Test.YtbcabckokmjelaaQ17
import Derived.Laws.Bits64b
import Derived.Test.YtbcabckokmjelaaQ19
import Derived.Deep.DeepCutAuto
import Derived.Deep.RegionLawGrows
import Derived.Laws.EntriesVeiled
import Derived.Test.YtbcabckokmjelaaK5
namespace Go.Proofs.Ytbcabckokmjelaa
open Go.RowKit
set_option linter.unusedVariables false
set_option linter.unusedSimpArgs false
/-- The elements whose bits are set, among the first k. -/
def pickK {α : Type} (l : List α) (d : α) (m : Nat) : Nat → List α
  | 0 => []
  | k + 1 => if m.testBit k then pickK l d m k ++ [l.getD k d] else pickK l d m k
theorem pickK_len {α : Type} (l : List α) (d : α) (m : Nat) : ∀ k, (pickK l d m k).length ≤ k
  | 0 => Nat.le_refl _
  | k + 1 => by have := pickK_len l d m k; rw [pickK]; split <;> simp <;> omega
theorem pickK_mem {α : Type} {l : List α} {d : α} {m : Nat} : ∀ {k : Nat}, k ≤ l.length → ∀ x ∈ pickK l d m k, x ∈ l
  | 0, _, x, h => by simp [pickK] at h
  | k + 1, hk, x, h => by
    have hm : l.getD k d ∈ l := by rw [List.getD_eq_getElem?_getD, List.getElem?_eq_getElem (by omega)]; exact List.getElem_mem (by omega)
    rw [pickK] at h
    split at h
    · rcases List.mem_append.1 h with h | h
      · exact pickK_mem (by omega) x h
      · simp at h; subst h; exact hm
    · exact pickK_mem (by omega) x h
def sp0 : Sp := ⟨0, 0, 0⟩
theorem bit_and (m k : Nat) (hm : m < 18446744073709551616) : bits .and .u64 ((m : Int) / 2 ^ k) 1 = if m.testBit k then 1 else 0 := by
  have e : ((m : Int) / 2 ^ k) = ((m / 2 ^ k : Nat) : Int) := by rw [Int.natCast_ediv, Int.natCast_pow]; rfl
  have hlt : m / 2 ^ k < 18446744073709551616 := Nat.lt_of_le_of_lt (Nat.div_le_self _ _) hm
  have h := bits_and_u64_nat (m / 2 ^ k) 1 hlt (by omega)
  rw [e]
  refine (show bits .and .u64 ((m / 2 ^ k : Nat) : Int) 1 = _ from h).trans ?_
  rw [Nat.and_one_is_mod, Nat.testBit_eq_decide_div_mod_eq]
  have h2 : m / 2 ^ k % 2 = 0 ∨ m / 2 ^ k % 2 = 1 := by omega
  rcases h2 with h2 | h2 <;> rw [h2] <;> rfl
set_option maxRecDepth 100000 in
set_option maxHeartbeats 1000000 in
theorem some_c (l : List Sp) (n : Nat) (hln : l.length = n) (hn : n ≤ 60) (m : Nat) (hm : m < 18446744073709551616) (A : Option Addr) (cap : Nat) (w : World) (hr : RdL w w.heap.size stE 3 A l) :
    Calls Try.prog 91 #[.slice A n cap, .int .u64 m] w fun e w' => ∃ A' c', e = .returned (.slice A' (pickK l sp0 m n).length c') ∧ RdL w' w'.heap.size stE 3 A' (pickK l sp0 m n) ∧ Below w.heap.size w w' := by
  have HR := Lib.hid hr
  have HN := Lib.hid hln
  clear hr hln
  go_enter Try.func91, Try.ntmps91
  go_wp2
  go_loopw [5, 10] (fun u i wr => ∃ (k : Nat) (v8 : Value), v8 = u ∧ k ≤ n ∧ i = .int .i64 k ∧ wr.ownsRow w.heap.size 99 3 v8 (pickK l sp0 m k).length ((pickK l sp0 m k).flatMap stE) ∧ Below w.heap.size w wr) (fun _ i _ => n - (intOf i).toNat)
  case atStart => exact ⟨0, _, rfl, Nat.zero_le _, rfl, World.ownsRow_nil _ _ _ _, Below.refl _ _⟩
  case round =>
    obtain ⟨k, v8, rfl, hk, rfl, hown, hbw⟩ := hrel
    obtain ⟨A8, c8, rfl, -, -⟩ := row_form hown
    have HO := Lib.hid hown
    clear hown
    have hsz := hbw.size
    by_cases hlt : k < n
    · have hltl : k < l.length := by rw [HN.out]; exact hlt
      obtain ⟨b, off, rfl, hb0, hc⟩ := HR.out (by omega)
      have c0 := (hbw.cell (p := ⟨b, _, none⟩) hb0).trans (hc k hltl 0 _ rfl)
      have c1 := (hbw.cell (p := ⟨b, _, none⟩) hb0).trans (hc k hltl 1 _ rfl)
      have c2 := (hbw.cell (p := ⟨b, _, none⟩) hb0).trans (hc k hltl 2 _ rfl)
      clear hc
      simp at c0
      have y0 : b < wr.heap.size := cell?_lt c0
      have hlen := pickK_len l sp0 m k
      obtain ⟨s, e1⟩ : ∃ s, s = l[k].s := ⟨_, rfl⟩
      obtain ⟨lo, e2⟩ : ∃ s, s = l[k].lo := ⟨_, rfl⟩
      obtain ⟨hi, e3⟩ : ∃ s, s = l[k].hi := ⟨_, rfl⟩
      rw [← e1] at c0
      rw [← e2] at c1
      rw [← e3] at c2
      have HP := Lib.hid (show pickK l sp0 m (k + 1) = if m.testBit k then pickK l sp0 m k ++ [l.getD k sp0] else pickK l sp0 m k from rfl)
      have HK := Lib.hid (show l.getD k sp0 = ⟨s, lo, hi⟩ by
        rw [List.getD_eq_getElem?_getD, List.getElem?_eq_getElem hltl, e1, e2, e3]; rfl)
      clear e1 e2 e3 hltl
      cases hb : m.testBit k
      · have b0 : bits .and .u64 ((m : Int) / 2 ^ k) 1 = 0 := by rw [bit_and m k hm, hb]; rfl
        rw [hb] at HP
        clear hb
        go_wp2
        go_roundw
        case rel => exact ⟨k + 1, _, rfl, by omega, by go_num, by rw [HP.out]; exact HO.out.alloc _, by (repeat (first | (with_reducible exact Below.refl _ _) | (with_reducible assumption) | (with_reducible refine Below.drew ?_) | (with_reducible refine Below.allocS ?_ _) | (with_reducible refine Below.setCell ?_ ?_ _) | (with_reducible refine Below.step ?_ (by assumption)) | (with_reducible refine Below.drewN' ?_ _))); (try any_goals (first | (with_reducible assumption) | (simp; done) | (simp; omega) | omega))⟩
        case measure => simp [intOf]; omega
      · have b0 : bits .and .u64 ((m : Int) / 2 ^ k) 1 = 1 := by rw [bit_and m k hm, hb]; rfl
        rw [hb] at HP
        clear hb
        have HAPP := Lib.hid (app_run appS (pickK l sp0 m k) (⟨s, lo, hi⟩ : Sp) (pickK l sp0 m k).length rfl (by omega) ((wr.alloc (.cells #[.int .i64 s, .int .i64 lo, .int .i64 hi] 99)).alloc (.cells #[.int .i64 s, .int .i64 lo, .int .i64 hi] 99)) w.heap.size (wr.heap.size + 1) _ ((HO.out.alloc _).alloc _) (by simp; omega) (three_cells (by simp [go_sem]) (by simp [go_sem]) (by simp [go_sem])))
        have HL := Lib.hid (show (pickK l sp0 m k).length + 1 = (pickK l sp0 m (k + 1)).length by rw [HP.out, if_pos rfl]; simp)
        generalize (pickK l sp0 m k).length = len at *
        go_wp2_with (at_builtin; refine wpList_app rfl (.tmp 20) (.tmp 22) 75 rfl _ _ rfl rfl HAPP.out ?_; rintro v5 w5 ⟨hown5, hbel5⟩; obtain ⟨A5, c5, rfl, -, -⟩ := row_form hown5; have HO5 := Lib.hid hown5; clear hown5; have hB5 : Below w.heap.size w w5 := Below.low (Below.allocS (Below.allocS hbw _) _) hbel5 (Nat.le_refl _); clear hbel5)
        go_roundw
        case rel => exact ⟨k + 1, _, rfl, by omega, by go_num, by rw [← HL.out, HP.out, if_pos rfl, HK.out]; exact HO5.out, by first | exact hB5 | (repeat (first | (with_reducible exact Below.refl _ _) | (with_reducible assumption) | (with_reducible refine Below.drew ?_) | (with_reducible refine Below.allocS ?_ _) | (with_reducible refine Below.setCell ?_ ?_ _) | (with_reducible refine Below.step ?_ (by assumption)) | (with_reducible refine Below.drewN' ?_ _))); (try any_goals (first | (with_reducible assumption) | (simp; done) | (simp; omega) | omega))⟩
        case measure => simp [intOf]; omega
    · obtain rfl : k = n := by omega
      have HQ := Lib.hid (show ∃ len, len = (pickK l sp0 m k).length from ⟨_, rfl⟩)
      obtain ⟨len, hlen⟩ := HQ.out
      rw [← hlen] at HO ⊢
      have HLEN := Lib.hid hlen
      clear hlen HQ
      go_wp2
      go_ret
      exact ⟨A8, c8, by rw [← HLEN.out]; rfl, RdL.of_own (fun _ => rfl) HO.out HLEN.out.symm, hbw⟩
end Go.Proofs.Ytbcabckokmjelaa
namespace Go.Proofs.Ytbcabckokmjelaa
open Go.RowKit Go.Deep
set_option linter.unusedVariables false
set_option linter.unusedSimpArgs false
/-- All ascending lists of m numbers from n - f to n - 1, in the order of the search. -/
def combos (n : Nat) : Nat → Nat → List (List Nat)
  | 0, m => if m = 0 then [[]] else []
  | f + 1, m => if m = 0 then [[]] else (combos n f (m - 1)).map ((n - (f + 1)) :: ·) ++ combos n f m
def bitsOf (c : List Nat) : Nat := c.foldl (fun s i => s ||| 2 ^ i) 0
theorem bitsOf_snoc (c : List Nat) (i : Nat) : bitsOf (c ++ [i]) = bitsOf c ||| 2 ^ i := by unfold bitsOf; rw [List.foldl_append]; rfl
def FindR (P : List Nat → Bool) (L : List (List Nat)) (e : Ending) (w' : World) : Prop :=
  (∃ r A c, L.find? P = some r ∧ e = .returned (.tuple #[.slice A r.length c, .bool true]) ∧ RdL w' w'.heap.size inE 1 A (r.map Int.ofNat) ∧ r.length ≤ c ∧ c ≤ maxLen) ∨
  (∃ A n c, L.find? P = none ∧ e = .returned (.tuple #[.slice A n c, .bool false]))
theorem Clip_c (A : Option Addr) (n cap : Nat) (h : n ≤ cap) (hm : cap ≤ maxLen) (hz : A = none → n = 0 ∧ cap = 0) (w : World) : Calls Try.prog 92 #[.slice A n cap] w fun e w' => e = .returned (.slice A n n) ∧ w' = w := by
  unfold maxLen at hm
  cases A with
  | none =>
    obtain ⟨rfl, rfl⟩ := hz rfl
    go_enter Try.func92, Try.ntmps92
    go_wp2
    go_ret
    exact ⟨rfl, rfl⟩
  | some a =>
    obtain ⟨b, off, sp⟩ := a
    clear hz
    go_enter Try.func92, Try.ntmps92
    go_wp2
    go_ret
    exact ⟨rfl, rfl⟩
theorem app_clip (l : List Int) (x : Int) (A : Option Addr) (hl : l.length ≤ 1000) (W : World) (g : Nat) (hr : RdL W W.heap.size inE 1 A l) (c0 : W.cell? ⟨g, 0, none⟩ = some (.int .i64 x)) (n : Nat) (hn : n = l.length) :
    ∃ v' w', (Builtin.append_ #[22, 22] 22 #[.slice A n n, .slice (some ⟨g, 0, none⟩) 1 1]).run Try.prog W = .ok v' w' ∧ (w'.ownsRow W.heap.size 3 1 v' (n + 1) ((l ++ [x]).flatMap inE) ∧ Below W.heap.size W w') := by
  subst hn
  obtain ⟨i1, z, bytes, hj, hy0, hy1, hy2, hy3, hy4⟩ := appI.info
  have hnew : ∀ j u, (inE x)[j]? = some u → W.cell? ((⟨g, 0, none⟩ : Addr).add j) = some u := fun j u hu => by rw [add_none]; exact one_cell (enc := inE) rfl c0 j u hu
  have hb2 : (l.length + 1) * bytes ≤ 140737488355328 := by have := Nat.mul_le_mul (show l.length + 1 ≤ 1001 by omega) hy4; omega
  cases A with
  | none =>
    have h0 : l.length = 0 := hr.none_len rfl
    have : l = [] := List.eq_nil_of_length_eq_zero h0
    subst this
    obtain ⟨v', w', hrun, r1, r2, -⟩ := run_append_own (P := Try.prog) W W.heap.size 22 22 3 i1 z 1 bytes appI.ht hj hy0 hy1 hy2 hy3 (by decide) (.slice none 0 0) 0 [] (World.ownsRow_nil W _ _ 1) ⟨g, 0, none⟩ 1 1 (inE x) rfl hnew (by simp [inE, Value.oneCell']) (by unfold maxLen; omega) (by simpa using hb2) (Nat.le_refl _)
    exact ⟨v', w', hrun, by simpa using r1, Below.grown (Below.refl _ _) r2 (Nat.le_refl _) (fun k e => by cases e)⟩
  | some b =>
    obtain ⟨v', w', hrun, r1, r2⟩ := run_append_arg_grows (P := Try.prog) W 22 22 3 i1 z 1 bytes appI.ht hj hy0 hy1 hy2 hy3 (by decide) b l.length l.length (l.flatMap inE) (by rw [flat_len inE 1 (fun _ => rfl) l]) (RdL.olds (sz := 1) (enc := inE) (fun _ => rfl) (by decide) hr (Below.refl _ _) b rfl) ⟨g, 0, none⟩ 1 1 (inE x) rfl hnew (by omega) (by unfold maxLen; omega) (by simpa using hb2)
    exact ⟨v', w', hrun, by rw [List.flatMap_append]; simpa using r1, Below.grown (Below.refl _ _) r2 (Nat.le_refl _) (fun k e => by cases e)⟩
theorem step_call {ops : Array Oper} {o : Oper} {a : Act} {w : World} {K : Act → World → Prop} {Q : Exit → Act → World → Prop} {E : Prop} (hg : o.guard = none) {f : FuncId} {args : Array Value}
    (hv : (execOp a.eval o).run Try.prog w = .ok (.enter f args) w) {R : Value → World → Prop} (hc : Calls Try.prog f args w fun e w' => ∃ v, e = .returned v ∧ R v w') (hK : ∀ v w', R v w' → K (a.put o.dst v) w') :
    if Region.wanted o (yielded ops a.tmps) = true then Oper.wp Try.prog o a w K Q else E := by
  have hw : Region.wanted o (yielded ops a.tmps) = true := by simp [Region.wanted, hg]
  rw [if_pos hw]
  unfold Oper.wp
  rw [hv]
  exact hc.mono fun e w' ⟨v, he, h⟩ => by subst he; exact hK v w' h
/-- What the search finds in, on its way. -/
def tryL (n k f : Nat) (c : List Nat) : List (List Nat) := (combos n f (k - c.length)).map (c ++ ·)
theorem tryL_leaf {n k f : Nat} {c : List Nat} (h : c.length = k) : tryL n k f c = [c] := by
  unfold tryL
  rw [show k - c.length = 0 by omega]
  cases f <;> simp [combos]
theorem tryL_end {n k : Nat} {c : List Nat} (h : c.length < k) : tryL n k 0 c = [] := by
  unfold tryL combos
  rw [if_neg (by omega)]; rfl
theorem tryL_step {n k f : Nat} {c : List Nat} (h : c.length < k) : tryL n k (f + 1) c = tryL n k f (c ++ [n - (f + 1)]) ++ tryL n k f c := by
  unfold tryL
  rw [combos, if_neg (by omega), List.map_append, List.map_map]
  congr 1
  rw [List.length_append, List.length_singleton, show k - (c.length + 1) = k - c.length - 1 by omega]
  congr 1
  funext x
  simp
/-- What a search is called with, and what it asks. -/
structure TryH (w : World) (K F S T : Nat) (s : List Sp) (n k : Nat) (As : Option Addr) (cs fv : Nat) (fcaps : Array Value) (PL : List Sp → Bool) : Prop where
  ln : s.length = n
  l60 : n ≤ 60
  lk : k ≤ 1000
  cK : w.cell? ⟨K, 0, none⟩ = some (.int .i64 k)
  cF : w.cell? ⟨F, 0, none⟩ = some (.func (.func fv) #[] fcaps)
  cS : w.cell? ⟨S, 0, none⟩ = some (.slice As n cs)
  cT : w.cell? ⟨T, 0, none⟩ = some (.func (.func 90) #[] #[.pointer (some ⟨K, 0, none⟩), .pointer (some ⟨F, 0, none⟩), .pointer (some ⟨S, 0, none⟩), .pointer (some ⟨T, 0, none⟩)])
  r : RdL w w.heap.size stE 3 As s
  call : ∀ (args : Array Value) (W : World), (callFunc fv args).run Try.prog W = .ok (.enter fv args) W
  f : ∀ (L : List Sp) (A : Option Addr) (c : Nat) (W : World), (∀ x ∈ L, x ∈ s) → L.length ≤ n → RdL W W.heap.size stE 3 A L → Calls Try.prog fv (#[.slice A L.length c] ++ fcaps) W fun e W' => e = .returned (.bool (PL L)) ∧ Below W.heap.size W W'
theorem call_first1 (args : Array Value) (W : World) : (callFunc 90 args).run Try.prog W = .ok (.enter 90 args) W := by kernel_rfl
def PB (PL : List Sp → Bool) (s : List Sp) (n : Nat) (c : List Nat) : Bool := PL (pickK s sp0 (bitsOf c) n)
set_option maxRecDepth 100000 in
set_option maxHeartbeats 4000000 in
theorem try_leaf {w0 : World} {K F S T : Nat} {s : List Sp} {n k : Nat} {As : Option Addr} {cs fv : Nat} {fcaps : Array Value} {PL : List Sp → Bool} (h : TryH w0 K F S T s n k As cs fv fcaps PL)
    (f : Nat) (c : List Nat) (A : Option Addr) (cap : Nat) (w : World) (hf : f ≤ n) (hck : c.length ≤ k) (hbw : Below w0.heap.size w0 w) (hr : RdL w w.heap.size inE 1 A (c.map Int.ofNat)) (hlc : c.length ≤ cap) (hm : cap ≤ maxLen) (hz : A = none → cap = 0) (hcn : ∀ i ∈ c, i < n - f) (hbits : bitsOf c < 18446744073709551616) (hk : c.length = k) :
    Calls Try.prog 90 #[.slice A c.length cap, .int .u64 (bitsOf c), .int .i64 ((n - f : Nat) : Int), .pointer (some ⟨K, 0, none⟩), .pointer (some ⟨F, 0, none⟩), .pointer (some ⟨S, 0, none⟩), .pointer (some ⟨T, 0, none⟩)] w fun e w' =>
      FindR (PB PL s n) (tryL n k f c) e w' ∧ Below w.heap.size w w' := by
  have HH := Lib.hid h
  have HR := Lib.hid hr
  have HB := Lib.hid hbw
  have cK : w.cell? ⟨K, 0, none⟩ = some (.int .i64 k) := keep_cell hbw h.cK
  have cF : w.cell? ⟨F, 0, none⟩ = some (.func (.func fv) #[] fcaps) := keep_cell hbw h.cF
  have cS : w.cell? ⟨S, 0, none⟩ = some (.slice As n cs) := keep_cell hbw h.cS
  have cT : w.cell? ⟨T, 0, none⟩ = some (.func (.func 90) #[] #[.pointer (some ⟨K, 0, none⟩), .pointer (some ⟨F, 0, none⟩), .pointer (some ⟨S, 0, none⟩), .pointer (some ⟨T, 0, none⟩)]) := keep_cell hbw h.cT
  have yK : K < w.heap.size := cell?_lt cK
  have yF : F < w.heap.size := cell?_lt cF
  have yS : S < w.heap.size := cell?_lt cS
  have yT : T < w.heap.size := cell?_lt cT
  have hn60 := h.l60
  have hk1000 := h.lk
  have hcall := h.call
  have hcl := call_first1
  clear h hr hbw
  obtain ⟨len, hlen⟩ : ∃ len, len = c.length := ⟨_, rfl⟩
  have HLEN := Lib.hid hlen
  have HS : Hid (∀ W, Below w.heap.size w W → Calls Try.prog 91 #[.slice As n cs, .int .u64 (bitsOf c)] W fun e w' => ∃ A' c', e = .returned (.slice A' (pickK s sp0 (bitsOf c) n).length c') ∧ RdL w' w'.heap.size stE 3 A' (pickK s sp0 (bitsOf c) n) ∧ Below W.heap.size W w') :=
    Lib.hid (fun W hb => some_c s n HH.out.ln HH.out.l60 (bitsOf c) hbits As cs W ((HH.out.r.step HB.out).step hb))
  have HF : Hid (∀ A' c' W, RdL W W.heap.size stE 3 A' (pickK s sp0 (bitsOf c) n) → Calls Try.prog fv (#[.slice A' (pickK s sp0 (bitsOf c) n).length c'] ++ fcaps) W fun e W' => e = .returned (.bool (PB PL s n c)) ∧ Below W.heap.size W W') :=
    Lib.hid (fun A' c' W hr => HH.out.f _ A' c' W (fun x hx => pickK_mem (by rw [HH.out.ln]; exact Nat.le_refl _) x hx) (pickK_len _ _ _ _) hr)
  generalize (pickK s sp0 (bitsOf c) n).length = plen at *
  have hk' : ((len : Int) == (k : Int)) = true := by simp; omega
  have HQ := Lib.hid (show len ≤ cap ∧ cap ≤ maxLen by rw [hlen]; exact ⟨hlc, hm⟩)
  have HTL := Lib.hid (tryL_leaf (n := n) (f := f) hk)
  rw [← hlen]
  clear hlen hlc hm hck hk
  generalize bitsOf c = m at *
  have rF : ∀ W, Below w.heap.size w W → W.cell? ⟨F, 0, none⟩ = some (.func (.func fv) #[] fcaps) := fun W hb => keep_cell hb cF
  have rS : ∀ W, Below w.heap.size w W → W.cell? ⟨S, 0, none⟩ = some (.slice As n cs) := fun W hb => keep_cell hb cS
  go_enter Try.func90, Try.ntmps90
  go_wp2_with fail
  go_region_held3 (fun W => Below w.heap.size w W) (first | exact Below.step (by assumption) (by assumption) | (repeat (first | (with_reducible exact Below.refl _ _) | (with_reducible assumption) | (with_reducible refine Below.drew ?_) | (with_reducible refine Below.allocS ?_ _) | (with_reducible refine Below.setCell ?_ ?_ _) | (with_reducible refine Below.step ?_ (by assumption)) | (with_reducible refine Below.drewN' ?_ _))); (try any_goals (first | (with_reducible assumption) | (simp; done) | (simp; omega) | omega)))
    (first
      | (go_at_call 91; refine (HS.out _ (by first | assumption | (repeat (first | (with_reducible exact Below.refl _ _) | (with_reducible assumption) | (with_reducible refine Below.drew ?_) | (with_reducible refine Below.allocS ?_ _) | (with_reducible refine Below.setCell ?_ ?_ _) | (with_reducible refine Below.step ?_ (by assumption)) | (with_reducible refine Below.drewN' ?_ _))); (try any_goals (first | (with_reducible assumption) | (simp; done) | (simp; omega) | omega)))).mono ?_; rintro e wm ⟨A1, c1, rfl, r1, hbm⟩; have HR1 := Lib.hid r1; clear r1)
      | (refine (HF.out A1 c1 _ HR1.out).mono ?_; rintro e wn ⟨rfl, hbn⟩))
  have hb1 : Below w.heap.size w wn := by (repeat (first | exact Below.refl _ _ | refine Below.drew ?_ | refine Below.allocS ?_ _ | refine Below.step ?_ (by assumption) | refine Below.setCell ?_ (by simp <;> omega) _ | refine Below.drewN' ?_ _))
  have HRn := Lib.hid (HR.out.step hb1)
  have HP : Hid (PB PL s n c = true ∧ (tryL n k f c).find? (PB PL s n) = some c ∨ PB PL s n c = false ∧ (tryL n k f c).find? (PB PL s n) = none) := by
    refine Lib.hid ?_
    rw [HTL.out, List.find?_cons]
    cases PB PL s n c
    · exact .inr ⟨rfl, rfl⟩
    · exact .inl ⟨rfl, rfl⟩
  have HB1 := Lib.hid hb1
  clear hb1 hbm hbn HR1 HS HF hz hcn hbits rF rS HTL
  generalize PB PL s n c = B at *
  rcases HP.out with ⟨rfl, hp⟩ | ⟨rfl, hp⟩
  · have HPP := Lib.hid hp
    clear HP hp
    go_wp2
    go_ret2
    exact ⟨.inl ⟨c, A, cap, HPP.out, by rw [← HLEN.out]; rfl, HRn.out, by rw [← HLEN.out]; exact HQ.out.1, HQ.out.2⟩, HB1.out⟩
  · have HPP := Lib.hid hp
    clear HP hp
    go_wp2
    go_ret2
    exact ⟨.inr ⟨A, len, cap, HPP.out, rfl⟩, HB1.out⟩
end Go.Proofs.Ytbcabckokmjelaa
namespace Go.Proofs.Ytbcabckokmjelaa
open Go.RowKit Go.Deep
set_option linter.unusedVariables false
set_option linter.unusedSimpArgs false
theorem bits_set (m i : Nat) (hm : m < 18446744073709551616) (hi : i < 60) : bits BinOp.or IntKind.u64 (m : Int) (IntKind.u64.wrap (2 ^ i)) = ((m ||| 2 ^ i : Nat) : Int) ∧ m ||| 2 ^ i < 18446744073709551616 := by
  have h2 : 2 ^ i < 18446744073709551616 := Nat.lt_of_lt_of_le (Nat.pow_lt_pow_right (by omega) hi) (by decide)
  have e : IntKind.u64.wrap (2 ^ i) = ((2 ^ i : Nat) : Int) := by
    rw [IntKind.wrap_u64]
    have e2 : ((2 : Int) ^ i) = ((2 ^ i : Nat) : Int) := by rw [Int.natCast_pow]; rfl
    rw [e2]
    obtain ⟨p, hp⟩ : ∃ p : Nat, p = 2 ^ i := ⟨_, rfl⟩
    rw [← hp] at h2 ⊢
    omega
  rw [e]
  exact ⟨bits_or_u64_nat m (2 ^ i) hm h2, Nat.or_lt_two_pow (n := 64) (by omega) (by omega)⟩
set_option maxRecDepth 100000 in
set_option maxHeartbeats 4000000 in
theorem try_loop {w0 : World} {K F S T : Nat} {s : List Sp} {n k : Nat} {As : Option Addr} {cs fv : Nat} {fcaps : Array Value} {PL : List Sp → Bool} (h : TryH w0 K F S T s n k As cs fv fcaps PL)
    (f : Nat) (c : List Nat) (A : Option Addr) (cap : Nat) (w : World) (hf : f ≤ n) (hck : c.length ≤ k) (hbw : Below w0.heap.size w0 w) (hr : RdL w w.heap.size inE 1 A (c.map Int.ofNat)) (hlc : c.length ≤ cap) (hm : cap ≤ maxLen) (hz : A = none → cap = 0) (hcn : ∀ i ∈ c, i < n - f) (hbits : bitsOf c < 18446744073709551616) (hk : ¬ c.length = k)
    (ih : ∀ m, m < f → ∀ (c : List Nat) (A : Option Addr) (cap : Nat) (w : World), m ≤ n → c.length ≤ k → Below w0.heap.size w0 w → RdL w w.heap.size inE 1 A (c.map Int.ofNat) → c.length ≤ cap → cap ≤ maxLen → (A = none → cap = 0) → (∀ i ∈ c, i < n - m) → bitsOf c < 18446744073709551616 →
      Calls Try.prog 90 #[.slice A c.length cap, .int .u64 (bitsOf c), .int .i64 ((n - m : Nat) : Int), .pointer (some ⟨K, 0, none⟩), .pointer (some ⟨F, 0, none⟩), .pointer (some ⟨S, 0, none⟩), .pointer (some ⟨T, 0, none⟩)] w fun e w' =>
        FindR (PB PL s n) (tryL n k m c) e w' ∧ Below w.heap.size w w') :
    Calls Try.prog 90 #[.slice A c.length cap, .int .u64 (bitsOf c), .int .i64 ((n - f : Nat) : Int), .pointer (some ⟨K, 0, none⟩), .pointer (some ⟨F, 0, none⟩), .pointer (some ⟨S, 0, none⟩), .pointer (some ⟨T, 0, none⟩)] w fun e w' =>
      FindR (PB PL s n) (tryL n k f c) e w' ∧ Below w.heap.size w w' := by
  have IH := Lib.hid ih
  have HH := Lib.hid h
  have HR := Lib.hid hr
  have HB := Lib.hid hbw
  have cK : w.cell? ⟨K, 0, none⟩ = some (.int .i64 k) := keep_cell hbw h.cK
  have cF : w.cell? ⟨F, 0, none⟩ = some (.func (.func fv) #[] fcaps) := keep_cell hbw h.cF
  have cS : w.cell? ⟨S, 0, none⟩ = some (.slice As n cs) := keep_cell hbw h.cS
  have cT : w.cell? ⟨T, 0, none⟩ = some (.func (.func 90) #[] #[.pointer (some ⟨K, 0, none⟩), .pointer (some ⟨F, 0, none⟩), .pointer (some ⟨S, 0, none⟩), .pointer (some ⟨T, 0, none⟩)]) := keep_cell hbw h.cT
  have yK : K < w.heap.size := cell?_lt cK
  have yF : F < w.heap.size := cell?_lt cF
  have yS : S < w.heap.size := cell?_lt cS
  have yT : T < w.heap.size := cell?_lt cT
  have hn60 := h.l60
  have hk1000 := h.lk
  have hcall := h.call
  have hcl := call_first1
  clear ih h hr hbw
  obtain ⟨len, hlen⟩ : ∃ len, len = c.length := ⟨_, rfl⟩
  have HLEN := Lib.hid hlen
  have hlk : c.length < k := by omega
  have hk' : ((len : Int) == (k : Int)) = false := by simp; omega
  have HCL := Lib.hid (fun W => Clip_c A c.length cap hlc hm (fun h => ⟨by have := hz h; omega, hz h⟩) W)
  have HLK := Lib.hid hlk
  have HBT := Lib.hid hbits
  have HLC := Lib.hid (show len ≤ cap ∧ cap ≤ maxLen by rw [hlen]; exact ⟨hlc, hm⟩)
  rw [← hlen] at HCL ⊢
  clear hlen hlc hm hck hk hlk
  obtain ⟨m, hmb⟩ : ∃ m, m = bitsOf c := ⟨_, rfl⟩
  have HMB := Lib.hid hmb
  rw [← hmb]
  have rT : ∀ W, Below w.heap.size w W → W.cell? ⟨T, 0, none⟩ = some (.func (.func 90) #[] #[.pointer (some ⟨K, 0, none⟩), .pointer (some ⟨F, 0, none⟩), .pointer (some ⟨S, 0, none⟩), .pointer (some ⟨T, 0, none⟩)]) := fun W hb => keep_cell hb cT
  have rS : ∀ W, Below w.heap.size w W → W.cell? ⟨S, 0, none⟩ = some (.slice As n cs) := fun W hb => keep_cell hb cS
  have HC := Lib.hid hcn
  clear hcn hmb hbits hz
  go_enter Try.func90, Try.ntmps90
  go_wp2
  go_loopw [12] (fun i wr => ∃ g : Nat, g ≤ f ∧ i = .int .i64 ((n - g : Nat) : Int) ∧ (tryL n k f c).find? (PB PL s n) = (tryL n k g c).find? (PB PL s n) ∧ Below w.heap.size w wr) (fun i _ => n - (intOf i).toNat)
  case atStart => exact ⟨f, Nat.le_refl _, rfl, rfl, Below.refl _ _⟩
  case round =>
    rename World => V
    obtain ⟨g, hg, rfl, hfd, hbV⟩ := hrel
    have HFD := Lib.hid hfd
    clear hfd
    have vS := rS V hbV
    cases g with
    | zero =>
      rw [tryL_end HLK.out] at HFD
      have u1 : decide (((n - 0 : Nat) : Int) < (n : Int)) = false := decide_eq_false (by omega)
      go_wp2
      go_ret2
      exact ⟨.inr ⟨none, 0, 0, HFD.out, rfl⟩, hbV⟩
    | succ g =>
      obtain ⟨i, hi⟩ : ∃ i, i = n - (g + 1) := ⟨_, rfl⟩
      have hin : i < n := by omega
      have hi1 : n - g = i + 1 := by omega
      have HI := Lib.hid hi
      rw [← hi]
      have u1 : decide ((i : Int) < (n : Int)) = true := decide_eq_true (by omega)
      have u2 : IntKind.i64.wrap ((i : Int) + 1) = (i : Int) + 1 := IntWalk.i64_in _ (by omega)
      have HL1 := Lib.hid (show (c.map Int.ofNat).length ≤ 1000 by rw [List.length_map]; have := HLK.out; omega)
      have HL2 := Lib.hid (show len = (c.map Int.ofNat).length by rw [List.length_map]; exact HLEN.out)
      have HRV := Lib.hid (HR.out.step hbV)
      have vT : ∀ W, Below V.heap.size V W → W.cell? ⟨T, 0, none⟩ = some (.func (.func 90) #[] #[.pointer (some ⟨K, 0, none⟩), .pointer (some ⟨F, 0, none⟩), .pointer (some ⟨S, 0, none⟩), .pointer (some ⟨T, 0, none⟩)]) := fun W hb => keep_cell hb (rT V hbV)
      have vT0 := rT V hbV
      have yT' : T < V.heap.size := cell?_lt vT0
      clear hi
      have HAPP : Hid (∀ (W : World) (g : Nat), Below V.heap.size V W → W.cell? ⟨g, 0, none⟩ = some (.int .i64 i) → ∃ v' w', (Builtin.append_ #[22, 22] 22 #[.slice A len len, .slice (some ⟨g, 0, none⟩) 1 1]).run Try.prog W = .ok v' w' ∧ (w'.ownsRow W.heap.size 3 1 v' (len + 1) ((c.map Int.ofNat ++ [(i : Int)]).flatMap inE) ∧ Below W.heap.size W w')) :=
        Lib.hid (fun W g hb hc => app_clip (c.map Int.ofNat) (i : Int) A HL1.out W g (HRV.out.step hb) hc len HL2.out)
      have HIH : Hid (∀ A3 c3 W, Below V.heap.size V W → RdL W W.heap.size inE 1 A3 (c.map Int.ofNat ++ [(i : Int)]) → len + 1 ≤ c3 → c3 ≤ maxLen →
          Calls Try.prog 90 #[.slice A3 (len + 1) c3, .int .u64 (bits BinOp.or IntKind.u64 (m : Int) (IntKind.u64.wrap (2 ^ i))), .int .i64 ((i : Int) + 1), .pointer (some ⟨K, 0, none⟩), .pointer (some ⟨F, 0, none⟩), .pointer (some ⟨S, 0, none⟩), .pointer (some ⟨T, 0, none⟩)] W fun e w' =>
            (∃ V13 B, e = .returned (.tuple #[V13, .bool B]) ∧ ((∃ r A' c', (tryL n k (g + 1) c).find? (PB PL s n) = some r ∧ V13 = .slice A' r.length c' ∧ B = true ∧ RdL w' w'.heap.size inE 1 A' (r.map Int.ofNat) ∧ r.length ≤ c' ∧ c' ≤ maxLen) ∨ (∃ A' n' c', (tryL n k (g + 1) c).find? (PB PL s n) = (tryL n k g c).find? (PB PL s n) ∧ V13 = .slice A' n' c' ∧ B = false))) ∧ Below W.heap.size W w') := by
        refine Lib.hid fun A3 c3 W hb hr3 hl3 hm3 => ?_
        have hbits := bits_set m i (by rw [HMB.out]; exact HBT.out) (by omega)
        have hcm : (c ++ [i]).map Int.ofNat = c.map Int.ofNat ++ [(i : Int)] := by rw [List.map_append]; rfl
        have hcl2 : (c ++ [i]).length = len + 1 := by rw [List.length_append, HLEN.out]; rfl
        have h0 := IH.out g (by omega) (c ++ [i]) A3 c3 W (by omega) (by rw [hcl2, HLEN.out]; exact HLK.out) (Below.step HB.out (Below.step hbV hb)) (by rw [hcm]; exact hr3) (by rw [hcl2]; exact hl3) hm3
          (fun hn => by subst hn; have := hr3.none_len rfl; simp at this)
          (fun j hj => by
            rcases List.mem_append.1 hj with h | h
            · have := HC.out j h; omega
            · have : j = i := by simpa using h
              omega)
          (by rw [bitsOf_snoc, ← HMB.out]; exact hbits.2)
        rw [hcl2, bitsOf_snoc, ← HMB.out, ← hbits.1, hi1] at h0
        refine (show Calls Try.prog 90 #[.slice A3 (len + 1) c3, .int .u64 (bits BinOp.or IntKind.u64 (m : Int) (IntKind.u64.wrap (2 ^ i))), .int .i64 ((i : Int) + 1), .pointer (some ⟨K, 0, none⟩), .pointer (some ⟨F, 0, none⟩), .pointer (some ⟨S, 0, none⟩), .pointer (some ⟨T, 0, none⟩)] W _ from h0).mono ?_
        rintro e w' ⟨hf, hb'⟩
        refine ⟨?_, hb'⟩
        rw [tryL_step HLK.out, ← HI.out, List.find?_append]
        rcases hf with ⟨r, A', c', h1, rfl, h2, h3, h4⟩ | ⟨A', n', c', h1, rfl⟩
        · exact ⟨_, _, rfl, .inl ⟨r, A', c', by rw [h1]; rfl, rfl, rfl, h2, h3, h4⟩⟩
        · exact ⟨_, _, rfl, .inr ⟨A', n', c', by rw [h1]; rfl, rfl, rfl⟩⟩
      go_wp2_with fail
      go_cut [13, 14] (fun s13 s14 w2 => Below V.heap.size V w2 ∧ ∃ B, s14 = .bool B ∧ ((∃ r A' c', (tryL n k (g + 1) c).find? (PB PL s n) = some r ∧ s13 = .slice A' r.length c' ∧ B = true ∧ RdL w2 w2.heap.size inE 1 A' (r.map Int.ofNat) ∧ r.length ≤ c' ∧ c' ≤ maxLen) ∨ (∃ A' n' c', (tryL n k (g + 1) c).find? (PB PL s n) = (tryL n k g c).find? (PB PL s n) ∧ s13 = .slice A' n' c' ∧ B = false)))
      case first =>
        refine wp_region_held_drew (S := fun W => Below V.heap.size V W) (by kernel_rfl) ?_ (fun hHeld => ?_); (· (repeat (first | (with_reducible exact Below.refl _ _) | (with_reducible assumption) | (with_reducible refine Below.drew ?_) | (with_reducible refine Below.allocS ?_ _) | (with_reducible refine Below.setCell ?_ ?_ _) | (with_reducible refine Below.step ?_ (by assumption)) | (with_reducible refine Below.drewN' ?_ _))); (try any_goals (first | (with_reducible assumption) | (simp; done) | (simp; omega) | omega)))
        (first | (refine wpAnyH_take (i := 0) (oi := ⟨_, _, _, _, _, _⟩) (v := ?_) rfl (by kernel_rfl) (by kernel_rfl) (by kernel_rfl) (fun _ _ _ h => h) (Or.inl ⟨by rfl, ?_⟩) (by assumption) ?_; rotate_left 1; (· (intro w0 hSw; (try dsimp only at hSw); go_simp; (try with_reducible rfl)))) | (refine wpAnyH_take (i := 0) (oi := ⟨_, _, _, _, _, _⟩) (v := undef) rfl (by kernel_rfl) (by kernel_rfl) (by kernel_rfl) (fun _ _ _ h => h) (Or.inr ⟨by rfl, rfl⟩) (by assumption) ?_)); (try simp only [Act.put, List.setIfInBounds_toArray, List.set_cons_zero, List.set_cons_succ])
        (first | (refine wpAnyH_take (i := 1) (oi := ⟨_, _, _, _, _, _⟩) (v := ?_) rfl (by kernel_rfl) (by kernel_rfl) (by kernel_rfl) (fun _ _ _ h => h) (Or.inl ⟨by rfl, ?_⟩) (by assumption) ?_; rotate_left 1; (· (intro w0 hSw; (try dsimp only at hSw); go_simp; (try with_reducible rfl)))) | (refine wpAnyH_take (i := 1) (oi := ⟨_, _, _, _, _, _⟩) (v := undef) rfl (by kernel_rfl) (by kernel_rfl) (by kernel_rfl) (fun _ _ _ h => h) (Or.inr ⟨by rfl, rfl⟩) (by assumption) ?_)); (try simp only [Act.put, List.setIfInBounds_toArray, List.set_cons_zero, List.set_cons_succ])
        (first | (refine wpAnyH_take (i := 3) (oi := ⟨_, _, _, _, _, _⟩) (v := ?_) rfl (by kernel_rfl) (by kernel_rfl) (by kernel_rfl) (fun _ _ _ h => h) (Or.inl ⟨by rfl, ?_⟩) (by assumption) ?_; rotate_left 1; (· (intro w0 hSw; (try dsimp only at hSw); go_simp; (try with_reducible rfl)))) | (refine wpAnyH_take (i := 3) (oi := ⟨_, _, _, _, _, _⟩) (v := undef) rfl (by kernel_rfl) (by kernel_rfl) (by kernel_rfl) (fun _ _ _ h => h) (Or.inr ⟨by rfl, rfl⟩) (by assumption) ?_)); (try simp only [Act.put, List.setIfInBounds_toArray, List.set_cons_zero, List.set_cons_succ])
        (first | (refine wpAnyH_take (i := 6) (oi := ⟨_, _, _, _, _, _⟩) (v := ?_) rfl (by kernel_rfl) (by kernel_rfl) (by kernel_rfl) (fun _ _ _ h => h) (Or.inl ⟨by rfl, ?_⟩) (by assumption) ?_; rotate_left 1; (· (intro w0 hSw; (try dsimp only at hSw); go_simp; (try with_reducible rfl)))) | (refine wpAnyH_take (i := 6) (oi := ⟨_, _, _, _, _, _⟩) (v := undef) rfl (by kernel_rfl) (by kernel_rfl) (by kernel_rfl) (fun _ _ _ h => h) (Or.inr ⟨by rfl, rfl⟩) (by assumption) ?_)); (try simp only [Act.put, List.setIfInBounds_toArray, List.set_cons_zero, List.set_cons_succ])
        (first | (refine wpAnyH_take (i := 7) (oi := ⟨_, _, _, _, _, _⟩) (v := ?_) rfl (by kernel_rfl) (by kernel_rfl) (by kernel_rfl) (fun _ _ _ h => h) (Or.inl ⟨by rfl, ?_⟩) (by assumption) ?_; rotate_left 1; (· (intro w0 hSw; (try dsimp only at hSw); go_simp; (try with_reducible rfl)))) | (refine wpAnyH_take (i := 7) (oi := ⟨_, _, _, _, _, _⟩) (v := undef) rfl (by kernel_rfl) (by kernel_rfl) (by kernel_rfl) (fun _ _ _ h => h) (Or.inr ⟨by rfl, rfl⟩) (by assumption) ?_)); (try simp only [Act.put, List.setIfInBounds_toArray, List.set_cons_zero, List.set_cons_succ])
        (first | (refine wpAnyH_take (i := 8) (oi := ⟨_, _, _, _, _, _⟩) (v := ?_) rfl (by kernel_rfl) (by kernel_rfl) (by kernel_rfl) (fun _ _ _ h => h) (Or.inl ⟨by rfl, ?_⟩) (by assumption) ?_; rotate_left 1; (· (intro w0 hSw; (try dsimp only at hSw); go_simp; (try with_reducible rfl)))) | (refine wpAnyH_take (i := 8) (oi := ⟨_, _, _, _, _, _⟩) (v := undef) rfl (by kernel_rfl) (by kernel_rfl) (by kernel_rfl) (fun _ _ _ h => h) (Or.inr ⟨by rfl, rfl⟩) (by assumption) ?_)); (try simp only [Act.put, List.setIfInBounds_toArray, List.set_cons_zero, List.set_cons_succ])
        (first | (refine wpAnyH_take (i := 9) (oi := ⟨_, _, _, _, _, _⟩) (v := ?_) rfl (by kernel_rfl) (by kernel_rfl) (by kernel_rfl) (fun _ _ _ h => h) (Or.inl ⟨by rfl, ?_⟩) (by assumption) ?_; rotate_left 1; (· (intro w0 hSw; (try dsimp only at hSw); go_simp; (try with_reducible rfl)))) | (refine wpAnyH_take (i := 9) (oi := ⟨_, _, _, _, _, _⟩) (v := undef) rfl (by kernel_rfl) (by kernel_rfl) (by kernel_rfl) (fun _ _ _ h => h) (Or.inr ⟨by rfl, rfl⟩) (by assumption) ?_)); (try simp only [Act.put, List.setIfInBounds_toArray, List.set_cons_zero, List.set_cons_succ])
        (first | (refine wpAnyH_take (i := 10) (oi := ⟨_, _, _, _, _, _⟩) (v := ?_) rfl (by kernel_rfl) (by kernel_rfl) (by kernel_rfl) (fun _ _ _ h => h) (Or.inl ⟨by rfl, ?_⟩) (by assumption) ?_; rotate_left 1; (· (intro w0 hSw; (try dsimp only at hSw); go_simp; (try with_reducible rfl)))) | (refine wpAnyH_take (i := 10) (oi := ⟨_, _, _, _, _, _⟩) (v := undef) rfl (by kernel_rfl) (by kernel_rfl) (by kernel_rfl) (fun _ _ _ h => h) (Or.inr ⟨by rfl, rfl⟩) (by assumption) ?_)); (try simp only [Act.put, List.setIfInBounds_toArray, List.set_cons_zero, List.set_cons_succ])
        (first | (refine wpAnyH_take (i := 11) (oi := ⟨_, _, _, _, _, _⟩) (v := ?_) rfl (by kernel_rfl) (by kernel_rfl) (by kernel_rfl) (fun _ _ _ h => h) (Or.inl ⟨by rfl, ?_⟩) (by assumption) ?_; rotate_left 1; (· (intro w0 hSw; (try dsimp only at hSw); go_simp; (try with_reducible rfl)))) | (refine wpAnyH_take (i := 11) (oi := ⟨_, _, _, _, _, _⟩) (v := undef) rfl (by kernel_rfl) (by kernel_rfl) (by kernel_rfl) (fun _ _ _ h => h) (Or.inr ⟨by rfl, rfl⟩) (by assumption) ?_)); (try simp only [Act.put, List.setIfInBounds_toArray, List.set_cons_zero, List.set_cons_succ])
        refine wpAnyH_ready (rs := [2, 4]) (by kernel_rfl) (by simp) ?_
        refine AllReadyH.cons (o := ⟨_, _, _, _, _, _⟩) rfl (fun K hK => ?_) (AllReadyH.cons (o := ⟨_, _, _, _, _, _⟩) rfl (fun K hK => ?_) AllReadyH.nil)
        · go_simp
          go_at_call 92; refine (HCL.out _).mono ?_; rintro e wc ⟨rfl, hwc⟩; replace hwc := hwc.symm; subst hwc
          (try go_wp2_with fail)
          refine hK.out _ _ ?_ (fun hHeld => ?_)
          · assumption
          clear hK K
          (try simp only [Act.put, List.setIfInBounds_toArray, List.set_cons_zero, List.set_cons_succ])
          refine wpAnyH_ready (rs := [4]) (by kernel_rfl) (by simp) ?_
          refine AllReadyH.cons (o := ⟨_, _, _, _, _, _⟩) rfl (fun K hK => ?_) AllReadyH.nil
          go_simp
          refine hK.out _ _ ?_ (fun hHeld => ?_)
          · (repeat (first | (with_reducible exact Below.refl _ _) | (with_reducible assumption) | (with_reducible refine Below.drew ?_) | (with_reducible refine Below.allocS ?_ _) | (with_reducible refine Below.setCell ?_ ?_ _) | (with_reducible refine Below.step ?_ (by assumption)) | (with_reducible refine Below.drewN' ?_ _))); (try any_goals (first | (with_reducible assumption) | (simp; done) | (simp; omega) | omega))
          clear hK K
          (try simp only [Act.put, List.setIfInBounds_toArray, List.set_cons_zero, List.set_cons_succ])
          refine wpAnyH_ready (rs := [5]) (by kernel_rfl) (by simp) ?_
          refine AllReadyH.cons (o := ⟨_, _, _, _, _, _⟩) rfl (fun K hK => ?_) AllReadyH.nil
          refine step_app rfl (.tmp 35) (.tmp 37) 22 rfl _ _ rfl rfl (HAPP.out _ _ (by (repeat (first | (with_reducible exact Below.refl _ _) | (with_reducible assumption) | (with_reducible refine Below.drew ?_) | (with_reducible refine Below.allocS ?_ _) | (with_reducible refine Below.setCell ?_ ?_ _) | (with_reducible refine Below.step ?_ (by assumption)) | (with_reducible refine Below.drewN' ?_ _))); (try any_goals (first | (with_reducible assumption) | (simp; done) | (simp; omega) | omega))) (by simp [go_sem])) ?_
          rintro v3 w3 ⟨hown3, hb3⟩
          obtain ⟨A3, c3, rfl, k3, m3⟩ := row_form hown3
          have R3 := Lib.hid (RdL.of_own (enc := inE) (fun _ => rfl) hown3 (by rw [List.length_append, List.length_map, HLEN.out]; rfl))
          have hb4 : Below V.heap.size V w3 := Below.low (by (repeat (first | (with_reducible exact Below.refl _ _) | (with_reducible assumption) | (with_reducible refine Below.drew ?_) | (with_reducible refine Below.allocS ?_ _) | (with_reducible refine Below.setCell ?_ ?_ _) | (with_reducible refine Below.step ?_ (by assumption)) | (with_reducible refine Below.drewN' ?_ _))); (try any_goals (first | (with_reducible assumption) | (simp; done) | (simp; omega) | omega))) hb3 (by simp)
          have K3 := Lib.hid k3
          have M3 := Lib.hid m3
          clear hown3 hb3 k3 m3
          refine hK.out _ _ ?_ (fun hHeld => ?_)
          · assumption
          clear hK K
          (try simp only [Act.put, List.setIfInBounds_toArray, List.set_cons_zero, List.set_cons_succ])
          refine wpAnyH_ready (rs := [12]) (by kernel_rfl) (by simp) ?_
          refine AllReadyH.cons (o := ⟨_, _, _, _, _, _⟩) rfl (fun K hK => ?_) AllReadyH.nil
          go_simp
          refine (HIH.out A3 c3 _ hb4 R3.out K3.out M3.out).mono ?_; rintro e w4 ⟨⟨V13, B, rfl, hres⟩, hb5⟩; have HRES := Lib.hid hres; clear hres
          (try go_wp2_with fail)
          refine hK.out _ _ ?_ (fun hHeld => ?_)
          · exact Below.step hb4 hb5
          clear hK K
          (try simp only [Act.put, List.setIfInBounds_toArray, List.set_cons_zero, List.set_cons_succ])
          (first | (refine wpAnyH_take (i := 13) (oi := ⟨_, _, _, _, _, _⟩) (v := ?_) rfl (by kernel_rfl) (by kernel_rfl) (by kernel_rfl) (fun _ _ _ h => h) (Or.inl ⟨by rfl, ?_⟩) (by assumption) ?_; rotate_left 1; (· (intro w0 hSw; (try dsimp only at hSw); go_simp; (try with_reducible rfl)))) | (refine wpAnyH_take (i := 13) (oi := ⟨_, _, _, _, _, _⟩) (v := undef) rfl (by kernel_rfl) (by kernel_rfl) (by kernel_rfl) (fun _ _ _ h => h) (Or.inr ⟨by rfl, rfl⟩) (by assumption) ?_)); (try simp only [Act.put, List.setIfInBounds_toArray, List.set_cons_zero, List.set_cons_succ])
          (first | (refine wpAnyH_take (i := 14) (oi := ⟨_, _, _, _, _, _⟩) (v := ?_) rfl (by kernel_rfl) (by kernel_rfl) (by kernel_rfl) (fun _ _ _ h => h) (Or.inl ⟨by rfl, ?_⟩) (by assumption) ?_; rotate_left 1; (· (intro w0 hSw; (try dsimp only at hSw); go_simp; (try with_reducible rfl)))) | (refine wpAnyH_take (i := 14) (oi := ⟨_, _, _, _, _, _⟩) (v := undef) rfl (by kernel_rfl) (by kernel_rfl) (by kernel_rfl) (fun _ _ _ h => h) (Or.inr ⟨by rfl, rfl⟩) (by assumption) ?_)); (try simp only [Act.put, List.setIfInBounds_toArray, List.set_cons_zero, List.set_cons_succ])
          (first | (refine wpAnyH_take (i := 15) (oi := ⟨_, _, _, _, _, _⟩) (v := ?_) rfl (by kernel_rfl) (by kernel_rfl) (by kernel_rfl) (fun _ _ _ h => h) (Or.inl ⟨by rfl, ?_⟩) (by assumption) ?_; rotate_left 1; (· (intro w0 hSw; (try dsimp only at hSw); go_simp; (try with_reducible rfl)))) | (refine wpAnyH_take (i := 15) (oi := ⟨_, _, _, _, _, _⟩) (v := undef) rfl (by kernel_rfl) (by kernel_rfl) (by kernel_rfl) (fun _ _ _ h => h) (Or.inr ⟨by rfl, rfl⟩) (by assumption) ?_)); (try simp only [Act.put, List.setIfInBounds_toArray, List.set_cons_zero, List.set_cons_succ])
          (first | (refine wpAnyH_take (i := 16) (oi := ⟨_, _, _, _, _, _⟩) (v := ?_) rfl (by kernel_rfl) (by kernel_rfl) (by kernel_rfl) (fun _ _ _ h => h) (Or.inl ⟨by rfl, ?_⟩) (by assumption) ?_; rotate_left 1; (· (intro w0 hSw; (try dsimp only at hSw); go_simp; (try with_reducible rfl)))) | (refine wpAnyH_take (i := 16) (oi := ⟨_, _, _, _, _, _⟩) (v := undef) rfl (by kernel_rfl) (by kernel_rfl) (by kernel_rfl) (fun _ _ _ h => h) (Or.inr ⟨by rfl, rfl⟩) (by assumption) ?_)); (try simp only [Act.put, List.setIfInBounds_toArray, List.set_cons_zero, List.set_cons_succ])
          (first | (refine wpAnyH_take (i := 17) (oi := ⟨_, _, _, _, _, _⟩) (v := ?_) rfl (by kernel_rfl) (by kernel_rfl) (by kernel_rfl) (fun _ _ _ h => h) (Or.inl ⟨by rfl, ?_⟩) (by assumption) ?_; rotate_left 1; (· (intro w0 hSw; (try dsimp only at hSw); go_simp; (try with_reducible rfl)))) | (refine wpAnyH_take (i := 17) (oi := ⟨_, _, _, _, _, _⟩) (v := undef) rfl (by kernel_rfl) (by kernel_rfl) (by kernel_rfl) (fun _ _ _ h => h) (Or.inr ⟨by rfl, rfl⟩) (by assumption) ?_)); (try simp only [Act.put, List.setIfInBounds_toArray, List.set_cons_zero, List.set_cons_succ])
          refine wpAnyH_done (by kernel_rfl) ?_ _
          go_wp2_with fail
          go_meet
          exact ⟨Below.step hb4 hb5, B, rfl, HRES.out⟩
        · go_simp
          refine hK.out _ _ ?_ (fun hHeld => ?_)
          · (repeat (first | (with_reducible exact Below.refl _ _) | (with_reducible assumption) | (with_reducible refine Below.drew ?_) | (with_reducible refine Below.allocS ?_ _) | (with_reducible refine Below.setCell ?_ ?_ _) | (with_reducible refine Below.step ?_ (by assumption)) | (with_reducible refine Below.drewN' ?_ _))); (try any_goals (first | (with_reducible assumption) | (simp; done) | (simp; omega) | omega))
          clear hK K
          (try simp only [Act.put, List.setIfInBounds_toArray, List.set_cons_zero, List.set_cons_succ])
          refine wpAnyH_ready (rs := [2]) (by kernel_rfl) (by simp) ?_
          refine AllReadyH.cons (o := ⟨_, _, _, _, _, _⟩) rfl (fun K hK => ?_) AllReadyH.nil
          go_simp
          go_at_call 92; refine (HCL.out _).mono ?_; rintro e wc ⟨rfl, hwc⟩; replace hwc := hwc.symm; subst hwc
          (try go_wp2_with fail)
          refine hK.out _ _ ?_ (fun hHeld => ?_)
          · (repeat (first | (with_reducible exact Below.refl _ _) | (with_reducible assumption) | (with_reducible refine Below.drew ?_) | (with_reducible refine Below.allocS ?_ _) | (with_reducible refine Below.setCell ?_ ?_ _) | (with_reducible refine Below.step ?_ (by assumption)) | (with_reducible refine Below.drewN' ?_ _))); (try any_goals (first | (with_reducible assumption) | (simp; done) | (simp; omega) | omega))
          clear hK K
          (try simp only [Act.put, List.setIfInBounds_toArray, List.set_cons_zero, List.set_cons_succ])
          refine wpAnyH_ready (rs := [5]) (by kernel_rfl) (by simp) ?_
          refine AllReadyH.cons (o := ⟨_, _, _, _, _, _⟩) rfl (fun K hK => ?_) AllReadyH.nil
          refine step_app rfl (.tmp 35) (.tmp 37) 22 rfl _ _ rfl rfl (HAPP.out _ _ (by (repeat (first | (with_reducible exact Below.refl _ _) | (with_reducible assumption) | (with_reducible refine Below.drew ?_) | (with_reducible refine Below.allocS ?_ _) | (with_reducible refine Below.setCell ?_ ?_ _) | (with_reducible refine Below.step ?_ (by assumption)) | (with_reducible refine Below.drewN' ?_ _))); (try any_goals (first | (with_reducible assumption) | (simp; done) | (simp; omega) | omega))) (by simp [go_sem])) ?_
          rintro v3 w3 ⟨hown3, hb3⟩
          obtain ⟨A3, c3, rfl, k3, m3⟩ := row_form hown3
          have R3 := Lib.hid (RdL.of_own (enc := inE) (fun _ => rfl) hown3 (by rw [List.length_append, List.length_map, HLEN.out]; rfl))
          have hb4 : Below V.heap.size V w3 := Below.low (by (repeat (first | (with_reducible exact Below.refl _ _) | (with_reducible assumption) | (with_reducible refine Below.drew ?_) | (with_reducible refine Below.allocS ?_ _) | (with_reducible refine Below.setCell ?_ ?_ _) | (with_reducible refine Below.step ?_ (by assumption)) | (with_reducible refine Below.drewN' ?_ _))); (try any_goals (first | (with_reducible assumption) | (simp; done) | (simp; omega) | omega))) hb3 (by simp)
          have K3 := Lib.hid k3
          have M3 := Lib.hid m3
          clear hown3 hb3 k3 m3
          refine hK.out _ _ ?_ (fun hHeld => ?_)
          · assumption
          clear hK K
          (try simp only [Act.put, List.setIfInBounds_toArray, List.set_cons_zero, List.set_cons_succ])
          refine wpAnyH_ready (rs := [12]) (by kernel_rfl) (by simp) ?_
          refine AllReadyH.cons (o := ⟨_, _, _, _, _, _⟩) rfl (fun K hK => ?_) AllReadyH.nil
          go_simp
          refine (HIH.out A3 c3 _ hb4 R3.out K3.out M3.out).mono ?_; rintro e w4 ⟨⟨V13, B, rfl, hres⟩, hb5⟩; have HRES := Lib.hid hres; clear hres
          (try go_wp2_with fail)
          refine hK.out _ _ ?_ (fun hHeld => ?_)
          · exact Below.step hb4 hb5
          clear hK K
          (try simp only [Act.put, List.setIfInBounds_toArray, List.set_cons_zero, List.set_cons_succ])
          (first | (refine wpAnyH_take (i := 13) (oi := ⟨_, _, _, _, _, _⟩) (v := ?_) rfl (by kernel_rfl) (by kernel_rfl) (by kernel_rfl) (fun _ _ _ h => h) (Or.inl ⟨by rfl, ?_⟩) (by assumption) ?_; rotate_left 1; (· (intro w0 hSw; (try dsimp only at hSw); go_simp; (try with_reducible rfl)))) | (refine wpAnyH_take (i := 13) (oi := ⟨_, _, _, _, _, _⟩) (v := undef) rfl (by kernel_rfl) (by kernel_rfl) (by kernel_rfl) (fun _ _ _ h => h) (Or.inr ⟨by rfl, rfl⟩) (by assumption) ?_)); (try simp only [Act.put, List.setIfInBounds_toArray, List.set_cons_zero, List.set_cons_succ])
          (first | (refine wpAnyH_take (i := 14) (oi := ⟨_, _, _, _, _, _⟩) (v := ?_) rfl (by kernel_rfl) (by kernel_rfl) (by kernel_rfl) (fun _ _ _ h => h) (Or.inl ⟨by rfl, ?_⟩) (by assumption) ?_; rotate_left 1; (· (intro w0 hSw; (try dsimp only at hSw); go_simp; (try with_reducible rfl)))) | (refine wpAnyH_take (i := 14) (oi := ⟨_, _, _, _, _, _⟩) (v := undef) rfl (by kernel_rfl) (by kernel_rfl) (by kernel_rfl) (fun _ _ _ h => h) (Or.inr ⟨by rfl, rfl⟩) (by assumption) ?_)); (try simp only [Act.put, List.setIfInBounds_toArray, List.set_cons_zero, List.set_cons_succ])
          (first | (refine wpAnyH_take (i := 15) (oi := ⟨_, _, _, _, _, _⟩) (v := ?_) rfl (by kernel_rfl) (by kernel_rfl) (by kernel_rfl) (fun _ _ _ h => h) (Or.inl ⟨by rfl, ?_⟩) (by assumption) ?_; rotate_left 1; (· (intro w0 hSw; (try dsimp only at hSw); go_simp; (try with_reducible rfl)))) | (refine wpAnyH_take (i := 15) (oi := ⟨_, _, _, _, _, _⟩) (v := undef) rfl (by kernel_rfl) (by kernel_rfl) (by kernel_rfl) (fun _ _ _ h => h) (Or.inr ⟨by rfl, rfl⟩) (by assumption) ?_)); (try simp only [Act.put, List.setIfInBounds_toArray, List.set_cons_zero, List.set_cons_succ])
          (first | (refine wpAnyH_take (i := 16) (oi := ⟨_, _, _, _, _, _⟩) (v := ?_) rfl (by kernel_rfl) (by kernel_rfl) (by kernel_rfl) (fun _ _ _ h => h) (Or.inl ⟨by rfl, ?_⟩) (by assumption) ?_; rotate_left 1; (· (intro w0 hSw; (try dsimp only at hSw); go_simp; (try with_reducible rfl)))) | (refine wpAnyH_take (i := 16) (oi := ⟨_, _, _, _, _, _⟩) (v := undef) rfl (by kernel_rfl) (by kernel_rfl) (by kernel_rfl) (fun _ _ _ h => h) (Or.inr ⟨by rfl, rfl⟩) (by assumption) ?_)); (try simp only [Act.put, List.setIfInBounds_toArray, List.set_cons_zero, List.set_cons_succ])
          (first | (refine wpAnyH_take (i := 17) (oi := ⟨_, _, _, _, _, _⟩) (v := ?_) rfl (by kernel_rfl) (by kernel_rfl) (by kernel_rfl) (fun _ _ _ h => h) (Or.inl ⟨by rfl, ?_⟩) (by assumption) ?_; rotate_left 1; (· (intro w0 hSw; (try dsimp only at hSw); go_simp; (try with_reducible rfl)))) | (refine wpAnyH_take (i := 17) (oi := ⟨_, _, _, _, _, _⟩) (v := undef) rfl (by kernel_rfl) (by kernel_rfl) (by kernel_rfl) (fun _ _ _ h => h) (Or.inr ⟨by rfl, rfl⟩) (by assumption) ?_)); (try simp only [Act.put, List.setIfInBounds_toArray, List.set_cons_zero, List.set_cons_succ])
          refine wpAnyH_done (by kernel_rfl) ?_ _
          go_wp2_with fail
          go_meet
          exact ⟨Below.step hb4 hb5, B, rfl, HRES.out⟩
      case rest =>
        rename World => V2
        obtain ⟨hb2, B, rfl, hres⟩ := hcut
        rcases hres with ⟨r, A', c', hf1, rfl, rfl, hr2, hl2, hm2⟩ | ⟨A', n', c', hf1, rfl, rfl⟩
        · have H1 := Lib.hid (HFD.out.trans hf1)
          have H2 := Lib.hid hr2
          have H3 := Lib.hid (And.intro hl2 hm2)
          have hb3 : Below w.heap.size w V2 := Below.step hbV hb2
          clear hf1 hr2 hl2 hm2
          obtain ⟨rl, hrl⟩ : ∃ rl, rl = r.length := ⟨_, rfl⟩
          have HRL := Lib.hid hrl
          rw [← hrl]
          clear hrl
          go_wp2
          go_ret2
          exact ⟨.inl ⟨r, A', c', H1.out, by rw [← HRL.out]; rfl, H2.out, H3.out.1, H3.out.2⟩, hb3⟩
        · have H1 := Lib.hid (HFD.out.trans hf1)
          have hb3 : Below w.heap.size w V2 := Below.step hbV hb2
          clear hf1
          go_wp2
          go_roundw
          case rel => exact ⟨g, by omega, by rw [hi1]; go_num, H1.out, hb3⟩
          case measure => simp [intOf]; omega
end Go.Proofs.Ytbcabckokmjelaa
namespace Go.Proofs.Ytbcabckokmjelaa
open Go.RowKit Go.Deep
set_option linter.unusedVariables false
set_option linter.unusedSimpArgs false
theorem try_c {w0 : World} {K F S T : Nat} {s : List Sp} {n k : Nat} {As : Option Addr} {cs fv : Nat} {fcaps : Array Value} {PL : List Sp → Bool} (h : TryH w0 K F S T s n k As cs fv fcaps PL) :
    ∀ (f : Nat) (c : List Nat) (A : Option Addr) (cap : Nat) (w : World), f ≤ n → c.length ≤ k → Below w0.heap.size w0 w → RdL w w.heap.size inE 1 A (c.map Int.ofNat) → c.length ≤ cap → cap ≤ maxLen → (A = none → cap = 0) → (∀ i ∈ c, i < n - f) → bitsOf c < 18446744073709551616 →
    Calls Try.prog 90 #[.slice A c.length cap, .int .u64 (bitsOf c), .int .i64 ((n - f : Nat) : Int), .pointer (some ⟨K, 0, none⟩), .pointer (some ⟨F, 0, none⟩), .pointer (some ⟨S, 0, none⟩), .pointer (some ⟨T, 0, none⟩)] w fun e w' =>
      FindR (PB PL s n) (tryL n k f c) e w' ∧ Below w.heap.size w w' := by
  intro f
  induction f using Nat.strongRecOn with
  | _ f ih =>
  intro c A cap w hf hck hbw hr hlc hm hz hcn hbits
  by_cases hk : c.length = k
  · exact try_leaf h f c A cap w hf hck hbw hr hlc hm hz hcn hbits hk
  · exact try_loop h f c A cap w hf hck hbw hr hlc hm hz hcn hbits hk ih
set_option maxRecDepth 100000 in
set_option maxHeartbeats 4000000 in
theorem first_c (s : List Sp) (n : Nat) (hln : s.length = n) (hn : n ≤ 60) (k : Nat) (hk : k ≤ 1000) (As : Option Addr) (cs fv : Nat) (PL : List Sp → Bool)
    (hcall : ∀ (args : Array Value) (W : World), (callFunc fv args).run Try.prog W = .ok (.enter fv args) W)
    (hf : ∀ (L : List Sp) (A : Option Addr) (c : Nat) (W : World), (∀ x ∈ L, x ∈ s) → L.length ≤ n → RdL W W.heap.size stE 3 A L → Calls Try.prog fv (#[.slice A L.length c] ++ #[]) W fun e W' => e = .returned (.bool (PL L)) ∧ Below W.heap.size W W')
    (w : World) (hr : RdL w w.heap.size stE 3 As s) :
    Calls Try.prog 62 #[.slice As n cs, .int .i64 k, .func (.func fv) #[] #[]] w fun e w' => FindR (PB PL s n) (tryL n k n []) e w' ∧ Below w.heap.size w w' := by
  have HT : Hid (∀ W, Below w.heap.size w W → W.cell? ⟨w.heap.size + 1, 0, none⟩ = some (.int .i64 k) → W.cell? ⟨w.heap.size + 1 + 1, 0, none⟩ = some (.func (.func fv) #[] #[]) → W.cell? ⟨w.heap.size, 0, none⟩ = some (.slice As n cs) →
      W.cell? ⟨w.heap.size + 1 + 1 + 1, 0, none⟩ = some (.func (.func 90) #[] #[.pointer (some ⟨w.heap.size + 1, 0, none⟩), .pointer (some ⟨w.heap.size + 1 + 1, 0, none⟩), .pointer (some ⟨w.heap.size, 0, none⟩), .pointer (some ⟨w.heap.size + 1 + 1 + 1, 0, none⟩)]) →
      Calls Try.prog 90 #[.slice none 0 0, .int .u64 0, .int .i64 0, .pointer (some ⟨w.heap.size + 1, 0, none⟩), .pointer (some ⟨w.heap.size + 1 + 1, 0, none⟩), .pointer (some ⟨w.heap.size, 0, none⟩), .pointer (some ⟨w.heap.size + 1 + 1 + 1, 0, none⟩)] W fun e w' =>
        (∃ V B, e = .returned (.tuple #[V, .bool B]) ∧ FindR (PB PL s n) (tryL n k n []) (.returned (.tuple #[V, .bool B])) w') ∧ Below W.heap.size W w') := by
    refine Lib.hid fun W hb h1 h2 h3 h4 => ?_
    have h0 := try_c (w0 := W) (K := w.heap.size + 1) (F := w.heap.size + 1 + 1) (S := w.heap.size) (T := w.heap.size + 1 + 1 + 1) (s := s) (n := n) (k := k) (As := As) (cs := cs) (fv := fv) (fcaps := #[]) (PL := PL)
      ⟨hln, hn, hk, h1, h2, h3, h4, hr.step hb, hcall, hf⟩ n [] none 0 W (Nat.le_refl _) (Nat.zero_le _) (Below.refl _ _) RdL.nil (Nat.le_refl _) (Nat.zero_le _) (fun _ => rfl) (fun i hi => by cases hi) (by decide)
    rw [Nat.sub_self] at h0
    refine h0.mono ?_
    rintro e w' ⟨hfd, hb'⟩
    refine ⟨?_, hb'⟩
    rcases hfd with ⟨r, A, c, h1, rfl, h2⟩ | ⟨A, m, c, h1, rfl⟩
    · exact ⟨_, _, rfl, .inl ⟨r, A, c, h1, rfl, h2⟩⟩
    · exact ⟨_, _, rfl, .inr ⟨A, m, c, h1, rfl⟩⟩
  have hcl := call_first1
  clear hf hr hln hcall
  go_enter Try.func62, Try.ntmps62
  go_wp2_with fail
  refine (HT.out _ (by (repeat (first | (with_reducible exact Below.refl _ _) | (with_reducible assumption) | (with_reducible refine Below.drew ?_) | (with_reducible refine Below.allocS ?_ _) | (with_reducible refine Below.setCell ?_ ?_ _) | (with_reducible refine Below.step ?_ (by assumption)) | (with_reducible refine Below.drewN' ?_ _))); (try any_goals (first | (with_reducible assumption) | (simp; done) | (simp; omega) | omega))) (by simp [go_sem]) (by simp [go_sem]) (by simp [go_sem]) (by simp [go_sem])).mono ?_
  rintro e w4 ⟨⟨V, B, rfl, hfd⟩, hb4⟩
  have HFD := Lib.hid hfd
  have hb5 : Below w.heap.size w w4 := Below.low (by (repeat (first | (with_reducible exact Below.refl _ _) | (with_reducible assumption) | (with_reducible refine Below.drew ?_) | (with_reducible refine Below.allocS ?_ _) | (with_reducible refine Below.setCell ?_ ?_ _) | (with_reducible refine Below.step ?_ (by assumption)) | (with_reducible refine Below.drewN' ?_ _))); (try any_goals (first | (with_reducible assumption) | (simp; done) | (simp; omega) | omega))) hb4 (by simp; omega)
  clear hfd HT hb4
  go_wp2
  go_ret2
  exact ⟨HFD.out, hb5⟩
end Go.Proofs.Ytbcabckokmjelaa
namespace Go.Proofs.Ytbcabckokmjelaa
open Go.RowKit Go.Deep
set_option linter.unusedVariables false
set_option linter.unusedSimpArgs false
def isAg (L : List Sp) : Bool := agB (azR L)
def notAg (L : List Sp) : Bool := !agB (azR L)
def lsK (PL : List Sp → Bool) (s : List Sp) (n k : Nat) : Option (List Nat) := (tryL n k n []).find? (PB PL s n)
theorem pickK_zero {α : Type} (l : List α) (d : α) : ∀ n, pickK l d 0 n = []
  | 0 => rfl
  | n + 1 => by rw [pickK, if_neg (by simp)]; exact pickK_zero l d n
theorem lsK_zero (s : List Sp) (n : Nat) : lsK isAg s n 0 = some [] := by
  unfold lsK
  rw [tryL_leaf (by rfl)]
  have : PB isAg s n [] = true := by
    unfold PB isAg
    rw [show bitsOf [] = 0 from rfl, pickK_zero]
    decide
  simp [this]
theorem call_least1 (args : Array Value) (W : World) : (callFunc 63 args).run Try.prog W = .ok (.enter 63 args) W := by kernel_rfl
theorem call_agree (args : Array Value) (W : World) : (callFunc 61 args).run Try.prog W = .ok (.enter 61 args) W := by kernel_rfl
theorem least1_c (l : List Sp) (n : Nat) (hln : l.length = n) (hn : n ≤ 100000) (hl : ∀ x ∈ l, SpOk x) (A : Option Addr) (cap : Nat) (w : World) (hr : RdL w w.heap.size stE 3 A l) :
    Calls Try.prog 63 #[.slice A n cap] w fun e w' => e = .returned (.bool (notAg l)) ∧ Below w.heap.size w w' := by
  have H1 := Lib.hid (agree_c l n hln hn hl A cap w hr)
  clear hr hl hln
  unfold notAg
  generalize agB (azR l) = B at *
  go_enter Try.func63, Try.ntmps63
  go_wp2_with fail
  refine H1.out.mono ?_
  rintro e w1 ⟨rfl, hb1⟩
  go_wp2
  go_ret
  exact ⟨rfl, by (repeat (first | exact Below.refl _ _ | refine Below.drew ?_ | refine Below.allocS ?_ _ | refine Below.step ?_ (by assumption) | refine Below.setCell ?_ (by simp <;> omega) _ | refine Below.drewN' ?_ _))⟩
/-- What a search answers. -/
def FR (o : Option (List Nat)) (V : Value) (B : Bool) (w' : World) : Prop :=
  (∃ r A c, o = some r ∧ V = .slice A r.length c ∧ B = true ∧ RdL w' w'.heap.size inE 1 A (r.map Int.ofNat) ∧ r.length ≤ c ∧ c ≤ maxLen) ∨ (o = none ∧ (∃ A n c, V = .slice A n c) ∧ B = false)
theorem find_fr {P : List Nat → Bool} {L : List (List Nat)} {e : Ending} {w' : World} (h : FindR P L e w') : ∃ V B, e = .returned (.tuple #[V, .bool B]) ∧ FR (L.find? P) V B w' := by
  rcases h with ⟨r, A, c, h1, rfl, h2, h3, h4⟩ | ⟨A, n, c, h1, rfl⟩
  · exact ⟨_, _, rfl, .inl ⟨r, A, c, h1, rfl, rfl, h2, h3, h4⟩⟩
  · exact ⟨_, _, rfl, .inr ⟨h1, ⟨A, n, c, rfl⟩, rfl⟩⟩
def LeastR (x : Tb) (l : List Tr) (e : Ending) (w' : World) : Prop :=
  (stErr x l = 0 ∧ ((∃ k r A c, k ≤ l.length ∧ (∀ j, j < k → lsK notAg (wdL x l) l.length j = none) ∧ lsK notAg (wdL x l) l.length k = some r ∧ e = .returned (.tuple #[.slice A r.length c, .int .i64 0]) ∧ RdL w' w'.heap.size inE 1 A (r.map Int.ofNat) ∧ r.length ≤ c ∧ c ≤ maxLen) ∨
    ((∀ j, j ≤ l.length → lsK notAg (wdL x l) l.length j = none) ∧ e = .returned (.tuple #[.slice none 0 0, .int .i64 8])))) ∨
  (stErr x l ≠ 0 ∧ e = .returned (.tuple #[.slice none 0 0, .int .i64 (stErr x l)]))
def MostR (x : Tb) (l : List Tr) (e : Ending) (w' : World) : Prop :=
  (stErr x l = 0 ∧ ∃ k r A c, k ≤ l.length ∧ (∀ j, k < j → j ≤ l.length → lsK isAg (wdL x l) l.length j = none) ∧ lsK isAg (wdL x l) l.length k = some r ∧ e = .returned (.tuple #[.slice A r.length c, .int .i64 0]) ∧ RdL w' w'.heap.size inE 1 A (r.map Int.ofNat) ∧ r.length ≤ c ∧ c ≤ maxLen) ∨
  (stErr x l ≠ 0 ∧ e = .returned (.tuple #[.slice none 0 0, .int .i64 (stErr x l)]))
theorem first_ag (fv : Nat) (PL : List Sp → Bool) (hcall : ∀ (args : Array Value) (W : World), (callFunc fv args).run Try.prog W = .ok (.enter fv args) W)
    (hc : ∀ (L : List Sp) (m : Nat), L.length = m → m ≤ 100000 → (∀ x ∈ L, SpOk x) → ∀ (A : Option Addr) (cap : Nat) (w : World), RdL w w.heap.size stE 3 A L → Calls Try.prog fv #[.slice A m cap] w fun e w' => e = .returned (.bool (PL L)) ∧ Below w.heap.size w w')
    (s : List Sp) (n : Nat) (hln : s.length = n) (hn : n ≤ 12) (hs : ∀ x ∈ s, SpOk x) (k : Nat) (hk : k ≤ 12) (As : Option Addr) (cs : Nat) (w : World) (hr : RdL w w.heap.size stE 3 As s) :
    Calls Try.prog 62 #[.slice As n cs, .int .i64 k, .func (.func fv) #[] #[]] w fun e w' => (∃ V B, e = .returned (.tuple #[V, .bool B]) ∧ FR (lsK PL s n k) V B w') ∧ Below w.heap.size w w' := by
  refine (first_c s n hln (by omega) k (by omega) As cs fv PL hcall (fun L A c W hL hn2 hrL => ?_) w hr).mono fun e w' h => ⟨find_fr h.1, h.2⟩
  exact hc L L.length rfl (by omega) (fun x hx => hs x (hL x hx)) A c W hrL
set_option maxRecDepth 100000 in
set_option maxHeartbeats 2000000 in
theorem Least_c (x : Tb) (l : List Tr) (A : Option Addr) (cap : Nat) (w : World) (hx : TbAt w x) (hl : l.length ≤ cap) (hm : cap ≤ maxLen) (hr : RdL w w.heap.size trE 5 A l) (ht : ∀ t ∈ l, TrAt w t) :
    Calls Try.prog 30 #[.agg #[.slice x.A x.xs.length x.ca, .int .i64 x.e], .slice A l.length cap] w fun e w' => LeastR x l e w' ∧ Below w.heap.size w w' := by
  have H1 := Lib.hid (fun W (hb : Below w.heap.size w W) => asked_c x l A cap W (hx.step hb) hl hm (hr.step hb) (fun t h => (ht t h).step hb))
  clear hx hl hm hr ht
  by_cases h0 : stErr x l = 0
  · have H1' : Hid (∀ W, Below w.heap.size w W → Calls Try.prog 60 #[.agg #[.slice x.A x.xs.length x.ca, .int .i64 x.e], .slice A l.length cap] W fun e w' => ∃ A' c', e = .returned (.tuple #[.slice A' l.length c', .int .i64 0]) ∧ RdL w' w'.heap.size stE 3 A' (wdL x l) ∧ Below W.heap.size W w') :=
      Lib.hid (fun W hb => (H1.out W hb).mono (by
        rintro e w' ⟨h | h, hb'⟩
        · obtain ⟨-, A', c', h1, h2⟩ := h; exact ⟨A', c', h1, h2, hb'⟩
        · exact absurd h0 h.1))
    have hok := (stErr_ok h0).1
    have hO := okAll_ok hok
    have hn12 : l.length ≤ 12 := by have := hO.n; omega
    have HW := Lib.hid (fun k (hk : k ≤ 12) (A' : Option Addr) c' W hr => first_ag 63 notAg call_least1 least1_c (wdL x l) l.length (wdL_len x l) hn12 (wdL_ok hok) k hk A' c' W hr)
    have HH := Lib.hid h0
    clear H1 h0 hok hO
    unfold LeastR
    generalize l.length = n at *
    generalize wdL x l = s at *
    go_enter Try.func30, Try.ntmps30
    go_wp2_with fail
    refine (H1'.out _ (by (repeat (first | exact Below.refl _ _ | refine Below.drew ?_ | refine Below.allocS ?_ _ | refine Below.step ?_ (by assumption) | refine Below.setCell ?_ (by simp <;> omega) _ | refine Below.drewN' ?_ _)))).mono ?_
    rintro e w1 ⟨A1, c1, rfl, r1, hb1⟩
    have x1_0_0 : w1.cell? ⟨w.heap.size, 0, none⟩ = some (.slice x.A x.xs.length x.ca) := keep_cell hb1 (by simp [go_sem, *])
    have x1_0_1 : w1.cell? ⟨w.heap.size, 1, none⟩ = some (.int .i64 x.e) := keep_cell hb1 (by simp [go_sem, *])
    have y1_0 : w.heap.size < w1.heap.size := cell?_lt x1_0_0
    have g1 : Below w.heap.size w w1 := by (repeat (first | exact Below.refl _ _ | refine Below.drew ?_ | refine Below.allocS ?_ _ | refine Below.step ?_ (by assumption) | refine Below.setCell ?_ (by simp <;> omega) _ | refine Below.drewN' ?_ _))
    clear hb1
    have R1 := Lib.hid r1
    clear r1
    have u1 : IntKind.i64.wrap ((n : Int) + 1) = (n : Int) + 1 := IntWalk.i64_in _ (by omega)
    have G1 := g1
    go_wp2
    go_loopw [23] (fun i wr => ∃ k : Nat, k ≤ n + 1 ∧ i = .int .i64 k ∧ (∀ j, j < k → lsK notAg s n j = none) ∧ Below w1.heap.size w1 wr) (fun i _ => n + 1 - (intOf i).toNat)
    case atStart => exact ⟨0, Nat.zero_le _, rfl, fun j h => absurd h (Nat.not_lt_zero j), Below.refl _ _⟩
    case round =>
      rename World => V
      obtain ⟨k, hk, rfl, hno, hbV⟩ := hrel
      have HNO := Lib.hid hno
      have RV := Lib.hid (R1.out.step hbV)
      have hbw : Below w.heap.size w V := Below.low G1 hbV (by omega)
      clear hno
      by_cases hlt : k < n + 1
      · have u2 : decide ((k : Int) < (n : Int) + 1) = true := decide_eq_true (by omega)
        have u3 : IntKind.i64.wrap ((k : Int) + 1) = (k : Int) + 1 := IntWalk.i64_in _ (by omega)
        have HKN := Lib.hid hlt
        have HF := Lib.hid (HW.out k (by omega) A1 c1)
        clear hlt
        go_wp2_with fail
        refine (HF.out _ RV.out).mono ?_
        rintro e w2 ⟨⟨X, B, rfl, hfr⟩, hb2⟩
        have hb3 : Below w.heap.size w w2 := Below.low hbw hb2 (by have := hbw.size; omega)
        have hb4 : Below w1.heap.size w1 w2 := Below.step hbV hb2
        rcases hfr with ⟨r, A', c', h1, rfl, rfl, h2, h3, h4⟩ | ⟨h1, ⟨A', n', c', rfl⟩, rfl⟩
        · have Q1 := Lib.hid h1
          have Q2 := Lib.hid h2
          have Q3 := Lib.hid (And.intro h3 h4)
          clear h1 h2 h3 h4
          obtain ⟨rl, hrl⟩ : ∃ rl, rl = r.length := ⟨_, rfl⟩
          have HRL := Lib.hid hrl
          rw [← hrl]
          clear hrl
          go_wp2
          go_ret2
          exact ⟨.inl ⟨HH.out, .inl ⟨k, r, A', c', by have := HKN.out; omega, HNO.out, Q1.out, by rw [← HRL.out]; rfl, Q2.out, Q3.out.1, Q3.out.2⟩⟩, hb3⟩
        · have Q1 := Lib.hid h1
          clear h1
          go_wp2
          go_roundw
          case rel => exact ⟨k + 1, HKN.out, by go_num, fun j hj => (by rcases Nat.lt_succ_iff_lt_or_eq.1 hj with h | rfl; exact HNO.out j h; exact Q1.out), hb4⟩
          case measure => have := HKN.out; simp [intOf]; omega
      · obtain rfl : k = n + 1 := by omega
        have u2 : decide (((n + 1 : Nat) : Int) < (n : Int) + 1) = false := decide_eq_false (by omega)
        go_wp2
        go_ret2
        exact ⟨.inl ⟨HH.out, .inr ⟨fun j hj => HNO.out j (by omega), rfl⟩⟩, hbw⟩
  · have H1' : Hid (∀ W, Below w.heap.size w W → Calls Try.prog 60 #[.agg #[.slice x.A x.xs.length x.ca, .int .i64 x.e], .slice A l.length cap] W fun e w' => e = .returned (.tuple #[.slice none 0 0, .int .i64 (stErr x l)]) ∧ Below W.heap.size W w') :=
      Lib.hid (fun W hb => (H1.out W hb).mono (by
        rintro e w' ⟨h | h, hb'⟩
        · exact absurd h.1 h0
        · exact ⟨h.2, hb'⟩))
    have hc := stErr_cases x l
    have HH := Lib.hid (show ∀ e w', e = .returned (.tuple #[.slice none 0 0, .int .i64 (stErr x l)]) → LeastR x l e w' from fun e w' h => Or.inr ⟨h0, h⟩)
    clear H1
    generalize stErr x l = E at *
    rcases hc with rfl | rfl | rfl
    · exact absurd rfl h0
    all_goals
      clear h0
      go_enter Try.func30, Try.ntmps30
      go_wp2_with fail
      refine (H1'.out _ (by (repeat (first | exact Below.refl _ _ | refine Below.drew ?_ | refine Below.allocS ?_ _ | refine Below.step ?_ (by assumption) | refine Below.setCell ?_ (by simp <;> omega) _ | refine Below.drewN' ?_ _)))).mono ?_
      rintro e w1 ⟨rfl, hb1⟩
      have x1_0_0 : w1.cell? ⟨w.heap.size, 0, none⟩ = some (.slice x.A x.xs.length x.ca) := keep_cell hb1 (by simp [go_sem, *])
      have x1_0_1 : w1.cell? ⟨w.heap.size, 1, none⟩ = some (.int .i64 x.e) := keep_cell hb1 (by simp [go_sem, *])
      have y1_0 : w.heap.size < w1.heap.size := cell?_lt x1_0_0
      have g1 : Below w.heap.size w w1 := by (repeat (first | exact Below.refl _ _ | refine Below.drew ?_ | refine Below.allocS ?_ _ | refine Below.step ?_ (by assumption) | refine Below.setCell ?_ (by simp <;> omega) _ | refine Below.drewN' ?_ _))
      clear hb1
      go_wp2
      go_ret2
      exact ⟨HH.out _ _ rfl, by (repeat (first | exact Below.refl _ _ | refine Below.drew ?_ | refine Below.allocS ?_ _ | refine Below.step ?_ (by assumption) | refine Below.setCell ?_ (by simp <;> omega) _ | refine Below.drewN' ?_ _))⟩
set_option maxRecDepth 100000 in
set_option maxHeartbeats 2000000 in
theorem Most_c (x : Tb) (l : List Tr) (A : Option Addr) (cap : Nat) (w : World) (hx : TbAt w x) (hl : l.length ≤ cap) (hm : cap ≤ maxLen) (hr : RdL w w.heap.size trE 5 A l) (ht : ∀ t ∈ l, TrAt w t) :
    Calls Try.prog 32 #[.agg #[.slice x.A x.xs.length x.ca, .int .i64 x.e], .slice A l.length cap] w fun e w' => MostR x l e w' ∧ Below w.heap.size w w' := by
  have H1 := Lib.hid (fun W (hb : Below w.heap.size w W) => asked_c x l A cap W (hx.step hb) hl hm (hr.step hb) (fun t h => (ht t h).step hb))
  clear hx hl hm hr ht
  by_cases h0 : stErr x l = 0
  · have H1' : Hid (∀ W, Below w.heap.size w W → Calls Try.prog 60 #[.agg #[.slice x.A x.xs.length x.ca, .int .i64 x.e], .slice A l.length cap] W fun e w' => ∃ A' c', e = .returned (.tuple #[.slice A' l.length c', .int .i64 0]) ∧ RdL w' w'.heap.size stE 3 A' (wdL x l) ∧ Below W.heap.size W w') :=
      Lib.hid (fun W hb => (H1.out W hb).mono (by
        rintro e w' ⟨h | h, hb'⟩
        · obtain ⟨-, A', c', h1, h2⟩ := h; exact ⟨A', c', h1, h2, hb'⟩
        · exact absurd h0 h.1))
    have hok := (stErr_ok h0).1
    have hO := okAll_ok hok
    have hn12 : l.length ≤ 12 := by have := hO.n; omega
    have HW := Lib.hid (fun k (hk : k ≤ 12) (A' : Option Addr) c' W hr => first_ag 61 isAg call_agree agree_c (wdL x l) l.length (wdL_len x l) hn12 (wdL_ok hok) k hk A' c' W hr)
    have HH := Lib.hid h0
    clear H1 h0 hok hO
    unfold MostR
    generalize l.length = n at *
    generalize wdL x l = s at *
    go_enter Try.func32, Try.ntmps32
    go_wp2_with fail
    refine (H1'.out _ (by (repeat (first | exact Below.refl _ _ | refine Below.drew ?_ | refine Below.allocS ?_ _ | refine Below.step ?_ (by assumption) | refine Below.setCell ?_ (by simp <;> omega) _ | refine Below.drewN' ?_ _)))).mono ?_
    rintro e w1 ⟨A1, c1, rfl, r1, hb1⟩
    have x1_0_0 : w1.cell? ⟨w.heap.size, 0, none⟩ = some (.slice x.A x.xs.length x.ca) := keep_cell hb1 (by simp [go_sem, *])
    have x1_0_1 : w1.cell? ⟨w.heap.size, 1, none⟩ = some (.int .i64 x.e) := keep_cell hb1 (by simp [go_sem, *])
    have y1_0 : w.heap.size < w1.heap.size := cell?_lt x1_0_0
    have g1 : Below w.heap.size w w1 := by (repeat (first | exact Below.refl _ _ | refine Below.drew ?_ | refine Below.allocS ?_ _ | refine Below.step ?_ (by assumption) | refine Below.setCell ?_ (by simp <;> omega) _ | refine Below.drewN' ?_ _))
    clear hb1
    have R1 := Lib.hid r1
    clear r1
    have G1 := g1
    go_wp2
    go_loopw [8] (fun i wr => ∃ k : Nat, k ≤ n ∧ i = .int .i64 k ∧ (∀ j, k < j → j ≤ n → lsK isAg s n j = none) ∧ Below w1.heap.size w1 wr) (fun i _ => (intOf i).toNat)
    case atStart => exact ⟨n, Nat.le_refl _, rfl, fun j h h' => absurd h (by omega), Below.refl _ _⟩
    case round =>
      rename World => V
      obtain ⟨k, hk, rfl, hno, hbV⟩ := hrel
      have HNO := Lib.hid hno
      have RV := Lib.hid (R1.out.step hbV)
      have hbw : Below w.heap.size w V := Below.low G1 hbV (by omega)
      clear hno
      have HF := Lib.hid (HW.out k (by omega) A1 c1)
      go_wp2_with fail
      refine (HF.out _ RV.out).mono ?_
      rintro e w2 ⟨⟨X, B, rfl, hfr⟩, hb2⟩
      have hb3 : Below w.heap.size w w2 := Below.low hbw hb2 (by have := hbw.size; omega)
      have hb4 : Below w1.heap.size w1 w2 := Below.step hbV hb2
      rcases hfr with ⟨r, A', c', h1, rfl, rfl, h2, h3, h4⟩ | ⟨h1, ⟨A', n', c', rfl⟩, rfl⟩
      · have Q1 := Lib.hid h1
        have Q2 := Lib.hid h2
        have Q3 := Lib.hid (And.intro h3 h4)
        clear h1 h2 h3 h4
        obtain ⟨rl, hrl⟩ : ∃ rl, rl = r.length := ⟨_, rfl⟩
        have HRL := Lib.hid hrl
        rw [← hrl]
        clear hrl
        go_wp2
        go_ret2
        exact ⟨.inl ⟨HH.out, k, r, A', c', hk, HNO.out, Q1.out, by rw [← HRL.out]; rfl, Q2.out, Q3.out.1, Q3.out.2⟩, hb3⟩
      · have Q1 := Lib.hid h1
        clear h1
        cases k with
        | zero => exact absurd Q1.out (by rw [lsK_zero]; simp)
        | succ k =>
          have u3 : IntKind.i64.wrap (((k + 1 : Nat) : Int) - 1) = (k : Int) := (IntWalk.i64_in _ (by omega)).trans (by omega)
          go_wp2
          go_roundw
          case rel => exact ⟨k, by omega, rfl, fun j hj hj2 => (by rcases Nat.eq_or_lt_of_le hj with h | h; (rw [← h]; exact Q1.out); exact HNO.out j h hj2), hb4⟩
          case measure => simp [intOf]; try omega
  · have H1' : Hid (∀ W, Below w.heap.size w W → Calls Try.prog 60 #[.agg #[.slice x.A x.xs.length x.ca, .int .i64 x.e], .slice A l.length cap] W fun e w' => e = .returned (.tuple #[.slice none 0 0, .int .i64 (stErr x l)]) ∧ Below W.heap.size W w') :=
      Lib.hid (fun W hb => (H1.out W hb).mono (by
        rintro e w' ⟨h | h, hb'⟩
        · exact absurd h.1 h0
        · exact ⟨h.2, hb'⟩))
    have hc := stErr_cases x l
    have HH := Lib.hid (show ∀ e w', e = .returned (.tuple #[.slice none 0 0, .int .i64 (stErr x l)]) → MostR x l e w' from fun e w' h => Or.inr ⟨h0, h⟩)
    clear H1
    generalize stErr x l = E at *
    rcases hc with rfl | rfl | rfl
    · exact absurd rfl h0
    all_goals
      clear h0
      go_enter Try.func32, Try.ntmps32
      go_wp2_with fail
      refine (H1'.out _ (by (repeat (first | exact Below.refl _ _ | refine Below.drew ?_ | refine Below.allocS ?_ _ | refine Below.step ?_ (by assumption) | refine Below.setCell ?_ (by simp <;> omega) _ | refine Below.drewN' ?_ _)))).mono ?_
      rintro e w1 ⟨rfl, hb1⟩
      have x1_0_0 : w1.cell? ⟨w.heap.size, 0, none⟩ = some (.slice x.A x.xs.length x.ca) := keep_cell hb1 (by simp [go_sem, *])
      have x1_0_1 : w1.cell? ⟨w.heap.size, 1, none⟩ = some (.int .i64 x.e) := keep_cell hb1 (by simp [go_sem, *])
      have y1_0 : w.heap.size < w1.heap.size := cell?_lt x1_0_0
      have g1 : Below w.heap.size w w1 := by (repeat (first | exact Below.refl _ _ | refine Below.drew ?_ | refine Below.allocS ?_ _ | refine Below.step ?_ (by assumption) | refine Below.setCell ?_ (by simp <;> omega) _ | refine Below.drewN' ?_ _))
      clear hb1
      go_wp2
      go_ret2
      exact ⟨HH.out _ _ rfl, by (repeat (first | exact Below.refl _ _ | refine Below.drew ?_ | refine Below.allocS ?_ _ | refine Below.step ?_ (by assumption) | refine Below.setCell ?_ (by simp <;> omega) _ | refine Below.drewN' ?_ _))⟩
end Go.Proofs.Ytbcabckokmjelaa
namespace Go.Proofs.Ytbcabckokmjelaa
open Go.RowKit Go.Deep
set_option linter.unusedVariables false
set_option linter.unusedSimpArgs false
/-- Do the transits agree with an error? -/
def agW (x : Tb) (l : List Tr) (m : Int) : Bool := agB (azR ((stL x l).map (widen m)))
theorem agW_mono {x : Tb} {l : List Tr} {m n : Int} (h : m ≤ n) (hg : agW x l m = true) : agW x l n = true := by
  unfold agW at *
  obtain ⟨p, q, hq, hs⟩ := sat_ch (azCh _) hg
  refine ch_sat (azCh _) (p := p) (q := q) hq fun a ha => ?_
  obtain ⟨s, hs1, t, ht1, rfl⟩ := mem_az.1 ha
  obtain ⟨s', hs2, rfl⟩ := List.mem_map.1 hs1
  obtain ⟨t', ht2, rfl⟩ := List.mem_map.1 ht1
  have h0 := hs _ (mem_az.2 ⟨_, List.mem_map.2 ⟨s', hs2, rfl⟩, _, List.mem_map.2 ⟨t', ht2, rfl⟩, rfl⟩)
  simp only [widen] at h0 ⊢
  refine Int.le_trans (Int.mul_le_mul_of_nonneg_right ?_ (Int.le_of_lt hq)) h0
  omega
def TightR (x : Tb) (l : List Tr) (e : Ending) : Prop :=
  (stErr x l = 0 ∧ ((∃ m : Int, 0 ≤ m ∧ m ≤ 1000000 ∧ agW x l m = true ∧ (∀ j : Int, 0 ≤ j → j < m → agW x l j = false) ∧ e = .returned (.tuple #[.int .i64 m, .int .i64 0])) ∨
    ((∀ j : Int, 0 ≤ j → j ≤ 1000000 → agW x l j = false) ∧ e = .returned (.tuple #[.int .i64 0, .int .i64 7])))) ∨
  (stErr x l ≠ 0 ∧ e = .returned (.tuple #[.int .i64 0, .int .i64 (stErr x l)]))
set_option maxRecDepth 100000 in
set_option maxHeartbeats 2000000 in
theorem Tightest_c (x : Tb) (l : List Tr) (A : Option Addr) (cap : Nat) (w : World) (hx : TbAt w x) (hl : l.length ≤ cap) (hm : cap ≤ maxLen) (hr : RdL w w.heap.size trE 5 A l) (ht : ∀ t ∈ l, TrAt w t) :
    Calls Try.prog 33 #[.agg #[.slice x.A x.xs.length x.ca, .int .i64 x.e], .slice A l.length cap] w fun e w' => TightR x l e ∧ Below w.heap.size w w' := by
  have H1 := Lib.hid (fun W (hb : Below w.heap.size w W) => strips_c x l A cap W (hx.step hb) hl hm (hr.step hb) (fun t h => (ht t h).step hb))
  clear hx hl hm hr ht
  by_cases h0 : stErr x l = 0
  · have H1' : Hid (∀ W, Below w.heap.size w W → Calls Try.prog 64 #[.agg #[.slice x.A x.xs.length x.ca, .int .i64 x.e], .slice A l.length cap] W fun e w' => ∃ A' c', e = .returned (.tuple #[.slice A' l.length c', .int .i64 0]) ∧ RdL w' w'.heap.size stE 3 A' (stL x l) ∧ Below W.heap.size W w') :=
      Lib.hid (fun W hb => (H1.out W hb).mono (by
        rintro e w' ⟨h | h, hb'⟩
        · obtain ⟨-, A', c', h1, h2⟩ := h; exact ⟨A', c', h1, h2, hb'⟩
        · exact absurd h0 h.1))
    have hok := (stErr_ok h0).1
    have hO := okAll_ok hok
    have hn12 : l.length ≤ 12 := by have := hO.n; omega
    have hln : (stL x l).length = l.length := by unfold stL; rw [List.length_map]
    have HW : Hid (∀ m : Int, 0 ≤ m → m ≤ 1000000 → ∀ (A' : Option Addr) (c' : Nat) (W : World), RdL W W.heap.size stE 3 A' (stL x l) → Calls Try.prog 65 #[.slice A' l.length c', .int .i64 m] W fun e w' => ∃ A2 c2, e = .returned (.slice A2 l.length c2) ∧ RdL w' w'.heap.size stE 3 A2 ((stL x l).map (widen m)) ∧ Below W.heap.size W w') :=
      Lib.hid (fun m h1 h2 A' c' W hr => wider_c (stL x l) l.length hln (by omega) (stL_ok hok) m ⟨h1, h2⟩ A' c' W hr)
    have HA : Hid (∀ m : Int, 0 ≤ m → m ≤ 1000000 → ∀ (A' : Option Addr) (c' : Nat) (W : World), RdL W W.heap.size stE 3 A' ((stL x l).map (widen m)) → Calls Try.prog 61 #[.slice A' l.length c'] W fun e w' => e = .returned (.bool (agW x l m)) ∧ Below W.heap.size W w') :=
      Lib.hid (fun m h1 h2 A' c' W hr => agree_c ((stL x l).map (widen m)) l.length (by rw [List.length_map, hln]) (by omega) (wid_ok hok ⟨h1, h2⟩) A' c' W hr)
    have HM : Hid (∀ m n : Int, m ≤ n → agW x l m = true → agW x l n = true) := Lib.hid (fun m n h => agW_mono h)
    have HH := Lib.hid h0
    clear H1 h0 hok hO hln
    unfold TightR
    generalize agW x l = ag at *
    generalize l.length = n at *
    generalize stL x l = s at *
    go_enter Try.func33, Try.ntmps33
    go_wp2_with fail
    refine (H1'.out _ (by (repeat (first | exact Below.refl _ _ | refine Below.drew ?_ | refine Below.allocS ?_ _ | refine Below.step ?_ (by assumption) | refine Below.setCell ?_ (by simp <;> omega) _ | refine Below.drewN' ?_ _)))).mono ?_
    rintro e w1 ⟨A1, c1, rfl, r1, hb1⟩
    have x1_0_0 : w1.cell? ⟨w.heap.size, 0, none⟩ = some (.slice x.A x.xs.length x.ca) := keep_cell hb1 (by simp [go_sem, *])
    have x1_0_1 : w1.cell? ⟨w.heap.size, 1, none⟩ = some (.int .i64 x.e) := keep_cell hb1 (by simp [go_sem, *])
    have y1_0 : w.heap.size < w1.heap.size := cell?_lt x1_0_0
    have g1 : Below w.heap.size w w1 := by (repeat (first | exact Below.refl _ _ | refine Below.drew ?_ | refine Below.allocS ?_ _ | refine Below.step ?_ (by assumption) | refine Below.setCell ?_ (by simp <;> omega) _ | refine Below.drewN' ?_ _))
    clear hb1
    have R1 := Lib.hid r1
    clear r1
    have G1 := g1
    go_wp2
    go_loopw [8, 9] (fun i j wr => ∃ a b : Int, i = .int .i64 a ∧ j = .int .i64 b ∧ 0 ≤ a ∧ a ≤ b ∧ b ≤ 1000001 ∧ (∀ m, 0 ≤ m → m < a → ag m = false) ∧ (b ≤ 1000000 → ag b = true) ∧ Below w1.heap.size w1 wr) (fun i j _ => (intOf j - intOf i).toNat)
    case atStart => exact ⟨0, 1000001, rfl, rfl, by omega, by omega, by omega, fun m h h' => by omega, fun h => by omega, Below.refl _ _⟩
    case round =>
      rename World => V
      obtain ⟨a, b, rfl, rfl, ha, hab, hb, hlo, hhi, hbV⟩ := hrel
      have HLO := Lib.hid hlo
      have HHI := Lib.hid hhi
      have RV := Lib.hid (R1.out.step hbV)
      have hbw : Below w.heap.size w V := Below.low G1 hbV (by omega)
      clear hlo hhi
      by_cases hlt : a < b
      · have u1 : decide (a < b) = true := decide_eq_true hlt
        have u2 : IntKind.i64.wrap (a + b) = a + b := IntWalk.i64_in _ (by omega)
        obtain ⟨m, hm⟩ : ∃ m, m = (a + b).tdiv 2 := ⟨_, rfl⟩
        have hm1 : a ≤ m ∧ m < b := by rw [hm, Int.tdiv_eq_ediv_of_nonneg (by omega)]; omega
        have u3 : IntKind.i64.wrap ((a + b).tdiv 2) = m := by rw [← hm]; exact IntWalk.i64_in _ (by omega)
        have u4 : IntKind.i64.wrap (m + 1) = m + 1 := IntWalk.i64_in _ (by omega)
        have HB := Lib.hid (show 0 ≤ m ∧ m ≤ 1000000 by omega)
        clear hm
        go_wp2_with fail
        refine (HW.out m HB.out.1 HB.out.2 A1 c1 _ RV.out).mono ?_
        rintro e w2 ⟨A2, c2, rfl, r2, hb2⟩
        have R2 := Lib.hid r2
        clear r2
        go_wp2_with fail
        refine (HA.out m HB.out.1 HB.out.2 A2 c2 _ R2.out).mono ?_
        rintro e w3 ⟨rfl, hb3⟩
        have hb4 : Below w1.heap.size w1 w3 := Below.step hbV (Below.step hb2 hb3)
        have HAG : Hid (∃ B, B = ag m) := Lib.hid ⟨_, rfl⟩
        obtain ⟨B, hB⟩ := HAG.out
        rw [← hB]
        have HBB := Lib.hid hB
        clear hB HAG hb2 hb3
        cases B
        · go_wp2
          go_roundw
          case rel => exact ⟨m + 1, b, rfl, rfl, by omega, by omega, hb, fun j h1 h2 => (by cases hj : ag j with | false => rfl | true => exact absurd (HM.out j m (by omega) hj) (by rw [← HBB.out]; simp)), HHI.out, hb4⟩
          case measure => simp [intOf]; omega
        · go_wp2
          go_roundw
          case rel => exact ⟨a, m, rfl, rfl, by omega, by omega, by omega, HLO.out, fun _ => HBB.out.symm, hb4⟩
          case measure => simp [intOf]; omega
      · obtain rfl : a = b := by omega
        have u1 : decide (a < a) = false := decide_eq_false (by omega)
        by_cases hm : 1000000 < a
        · have u2 : decide (a > 1000000) = true := decide_eq_true hm
          have u3 : decide (1000000 < a) = true := decide_eq_true hm
          have HA1 := Lib.hid hm
          clear hm
          go_wp2
          go_ret2
          exact ⟨.inl ⟨HH.out, .inr ⟨fun j h1 h2 => HLO.out j h1 (by have := HA1.out; omega), rfl⟩⟩, hbw⟩
        · have u2 : decide (a > 1000000) = false := decide_eq_false hm
          have u3 : decide (1000000 < a) = false := decide_eq_false hm
          have HA1 := Lib.hid hm
          clear hm
          go_wp2
          go_ret2
          exact ⟨.inl ⟨HH.out, .inl ⟨a, ha, by have := HA1.out; omega, HHI.out (by have := HA1.out; omega), HLO.out, rfl⟩⟩, hbw⟩
  · have H1' : Hid (∀ W, Below w.heap.size w W → Calls Try.prog 64 #[.agg #[.slice x.A x.xs.length x.ca, .int .i64 x.e], .slice A l.length cap] W fun e w' => e = .returned (.tuple #[.slice none 0 0, .int .i64 (stErr x l)]) ∧ Below W.heap.size W w') :=
      Lib.hid (fun W hb => (H1.out W hb).mono (by
        rintro e w' ⟨h | h, hb'⟩
        · exact absurd h.1 h0
        · exact ⟨h.2, hb'⟩))
    have hc := stErr_cases x l
    have HH := Lib.hid (show ∀ e, e = .returned (.tuple #[.int .i64 0, .int .i64 (stErr x l)]) → TightR x l e from fun e h => Or.inr ⟨h0, h⟩)
    clear H1
    generalize stErr x l = E at *
    rcases hc with rfl | rfl | rfl
    · exact absurd rfl h0
    all_goals
      clear h0
      go_enter Try.func33, Try.ntmps33
      go_wp2_with fail
      refine (H1'.out _ (by (repeat (first | exact Below.refl _ _ | refine Below.drew ?_ | refine Below.allocS ?_ _ | refine Below.step ?_ (by assumption) | refine Below.setCell ?_ (by simp <;> omega) _ | refine Below.drewN' ?_ _)))).mono ?_
      rintro e w1 ⟨rfl, hb1⟩
      have x1_0_0 : w1.cell? ⟨w.heap.size, 0, none⟩ = some (.slice x.A x.xs.length x.ca) := keep_cell hb1 (by simp [go_sem, *])
      have x1_0_1 : w1.cell? ⟨w.heap.size, 1, none⟩ = some (.int .i64 x.e) := keep_cell hb1 (by simp [go_sem, *])
      have y1_0 : w.heap.size < w1.heap.size := cell?_lt x1_0_0
      have g1 : Below w.heap.size w w1 := by (repeat (first | exact Below.refl _ _ | refine Below.drew ?_ | refine Below.allocS ?_ _ | refine Below.step ?_ (by assumption) | refine Below.setCell ?_ (by simp <;> omega) _ | refine Below.drewN' ?_ _))
      clear hb1
      go_wp2
      go_ret2
      exact ⟨HH.out _ rfl, by (repeat (first | exact Below.refl _ _ | refine Below.drew ?_ | refine Below.allocS ?_ _ | refine Below.step ?_ (by assumption) | refine Below.setCell ?_ (by simp <;> omega) _ | refine Below.drewN' ?_ _))⟩
end Go.Proofs.Ytbcabckokmjelaa
