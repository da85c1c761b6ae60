/-
  Best, IsBest and Most of the reference. No conditions.
-/
import Derived.Test.YtomgaiokmdcjmaaNt29
import Derived.Test.YtomgaiokmdcjmaaNt18
namespace Go.Proofs.Ytomgaiokmdcjmaa
open Go.RowKit Go.Deep
set_option linter.unusedVariables false
set_option linter.unusedSimpArgs false
set_option maxHeartbeats 1000000 in
theorem has_c (r : List Nat) (n : Nat) (hn : r.length = n) (i : Int) (C : Option Addr) (cc : Nat) (hl : n ≤ 1000) (w : World) (hr : RdL w w.heap.size inE 1 C (r.map Int.ofNat)) :
    Calls Try.prog 112 #[.slice C n cc, .int .i64 i] w fun e w' => e = .returned (.bool (hasB r i)) ∧ w' = w := by
  have HR := Lib.hid hr
  have HN := Lib.hid hn
  clear hr hn
  go_enter Try.func112, Try.ntmps112
  go_wp2
  go_loopw [9] (fun j wr => ∃ k : Nat, k ≤ n ∧ j = .int .i64 k ∧ hasB (r.take k) i = false ∧ w = wr) (fun j _ => n - (intOf j).toNat)
  case atStart => exact ⟨0, Nat.zero_le _, rfl, rfl, rfl⟩
  case round =>
    obtain ⟨k, hk, rfl, hj, rfl⟩ := hrel
    have HJ := Lib.hid hj
    clear hj
    by_cases hlt : k < n
    · have hkr : k < r.length := by rw [HN.out]; exact hlt
      obtain ⟨b, off, rfl, hb0, hc⟩ := int_cell HR.out (Below.refl _ _) (k := k) (by rw [List.length_map]; exact hkr)
      have c0 : w.cell? ⟨b, off + k, none⟩ = some (.int .i64 (atN r k)) := by rw [← atI_nat]; exact hc k (by rw [List.length_map]; exact hkr)
      have HTK := Lib.hid (show hasB (r.take (k + 1)) i = (hasB (r.take k) i || decide ((atN r k : Int) = i)) by
        unfold hasB atN
        rw [List.take_succ_eq_append_getElem hkr, List.any_append, List.getD_eq_getElem?_getD, List.getElem?_eq_getElem hkr]
        simp)
      have HTT := Lib.hid (fun e : decide ((atN r k : Int) = i) = true => (show hasB r i = true by
        unfold hasB
        rw [List.any_eq_true]
        exact ⟨_, atN_mem hkr, e⟩))
      have u3 : IntKind.i64.wrap ((k : Int) + 1) = (k : Int) + 1 := IntWalk.i64_in _ (by omega)
      clear hc hkr
      generalize atN r k = x at *
      by_cases he : (x : Int) = i
      · have d1 : ((x : Int) == i) = true := by simp [he]
        have HF := Lib.hid (HTT.out (decide_eq_true he))
        clear he
        go_wp2
        go_ret
        exact ⟨by rw [HF.out]; rfl, rfl⟩
      · have d1 : ((x : Int) == i) = false := by simp [he]
        have HF := Lib.hid (show hasB (r.take (k + 1)) i = false by rw [HTK.out, HJ.out, decide_eq_false he]; rfl)
        clear he
        go_wp2
        go_roundw
        case rel => exact ⟨k + 1, by omega, by go_num, HF.out, trivial⟩
        case measure => simp [intOf]; omega
    · obtain rfl : k = n := by omega
      have HF := Lib.hid (show hasB r i = false by have := HJ.out; rw [List.take_of_length_le (by rw [HN.out]; exact Nat.le_refl _)] at this; exact this)
      go_wp2
      go_ret
      exact ⟨by rw [HF.out]; rfl, rfl⟩
set_option maxHeartbeats 4000000 in
theorem bestF_c (l : List Ch) (A : Option Addr) (cap : Nat) (hv : VOk l) (hl : l.length ≤ 1000000) (ls : List SlL) (n : Nat) (hn : ls.length = n) (h2 : n ≤ 1000) (B : Option Addr) (cb : Nat) (i : Int) (w : World)
    (hr : RdL w w.heap.size chE 5 A l) (hrs : RdL w w.heap.size slE 1 B ls) (hs : ∀ s ∈ ls, SlAt w l.length s) :
    Calls Try.prog 83 #[.slice A l.length cap, .slice B n cb, .int .i64 i] w fun e w' => (∃ x : SlL, e = .returned (.tuple #[.slice x.A x.xs.length x.c, .bool (((ls.map (·.xs)).foldl (bstS l i) ([], false)).2)]) ∧ SlAt w' l.length x ∧ x.xs = ((ls.map (·.xs)).foldl (bstS l i) ([], false)).1) ∧ w' = w := by
  have HN := Lib.hid hn
  have HRS := Lib.hid hrs
  have HS := Lib.hid hs
  have HH := Lib.hid (fun (s : SlL) (hs : SlAt w l.length s) => has_c s.xs s.xs.length rfl i s.A s.c hs.l w hs.r)
  have HW := Lib.hid (fun (s : SlL) (hs : SlAt w l.length s) => rworth_c l A cap s.xs s.A s.c hv hs.i hl hs.l w hr hs.r)
  have HCELL : Hid (∀ k, k < n → ∃ b off, B = some ⟨b, off, none⟩ ∧ w.cell? ⟨b, off + k, none⟩ = some (.slice (ls.getD k sl0).A (ls.getD k sl0).xs.length (ls.getD k sl0).c) ∧ SlAt w l.length (ls.getD k sl0) ∧ (ls.map (·.xs)).take (k + 1) = (ls.map (·.xs)).take k ++ [(ls.getD k sl0).xs]) := Lib.hid (fun k hk => by
    have hkl : k < ls.length := by rw [hn]; exact hk
    obtain ⟨b, off, e, hb0, hc⟩ := hrs (by omega)
    have e2 : ls.getD k sl0 = ls[k] := by rw [List.getD_eq_getElem?_getD, List.getElem?_eq_getElem hkl]; rfl
    refine ⟨b, off, e, ?_, by rw [e2]; exact hs _ (List.getElem_mem hkl), ?_⟩
    · have := hc k hkl 0 _ rfl
      rw [e2]
      simpa using this
    · rw [List.take_succ_eq_append_getElem (by rw [List.length_map]; exact hkl), List.getElem_map, e2])
  obtain ⟨R, hR⟩ : ∃ R, R = fun k => ((ls.map (·.xs)).take k).foldl (bstS l i) ([], false) := ⟨_, rfl⟩
  have HR0 : Hid (R 0 = ([], false)) := Lib.hid (by rw [hR]; rfl)
  have HRn : Hid ((ls.map (·.xs)).foldl (bstS l i) ([], false) = R n) := Lib.hid (by rw [hR]; show _ = List.foldl _ _ (List.take n _); rw [List.take_of_length_le (by rw [List.length_map, hn]; exact Nat.le_refl _)])
  have HRS1 : Hid (∀ k, k < n → R (k + 1) = bstS l i (R k) (ls.getD k sl0).xs) := Lib.hid (fun k hk => by
    obtain ⟨b, off, -, -, -, h4⟩ := HCELL.out k hk
    rw [hR]
    show List.foldl _ _ (List.take (k + 1) _) = bstS l i (List.foldl _ _ (List.take k _)) _
    rw [h4, List.foldl_append]; rfl)
  rw [HRn.out]
  clear hr hrs hs hv hn hR HRn
  have hlN : l.length ≤ 1000000 := hl
  generalize l.length = nl at *
  go_enter Try.func83, Try.ntmps83
  go_wp2
  go_loopw [8, 9, 16] (fun o m j wr => ∃ (k : Nat) (x : SlL) (mt : Bool), k ≤ n ∧ j = .int .i64 k ∧ o = .slice x.A x.xs.length x.c ∧ m = .bool mt ∧ SlAt w nl x ∧ R k = (x.xs, mt) ∧ w = wr) (fun _ _ j _ => n - (intOf j).toNat)
  case atStart => exact ⟨0, sl0, false, Nat.zero_le _, rfl, rfl, rfl, SlAt.nil _ _, HR0.out, rfl⟩
  case round =>
    obtain ⟨k, o, mt, hk, rfl, rfl, rfl, hso, hro, rfl⟩ := hrel
    have HSO := Lib.hid hso
    have HRO := Lib.hid hro
    clear hso hro
    by_cases hlt : k < n
    · obtain ⟨b, off, rfl, c0, hsx, -⟩ := HCELL.out k hlt
      have HSX := Lib.hid hsx
      have HST := Lib.hid (HRS1.out k hlt)
      generalize ls.getD k sl0 = x at *
      have u3 : IntKind.i64.wrap ((k : Int) + 1) = (k : Int) + 1 := IntWalk.i64_in _ (by omega)
      have HHX := Lib.hid (HH.out x HSX.out)
      have HWX := Lib.hid (HW.out x HSX.out)
      have HWO := Lib.hid (HW.out o HSO.out)
      have HG : Hid (gtB l (o.xs, mt) x.xs = (!mt || (decide (worthL l o.xs < worthL l x.xs) || (decide (worthL l x.xs = worthL l o.xs) && decide (x.xs.length < o.xs.length))))) := Lib.hid rfl
      have HKB : Hid (keepB i x.xs = (decide (i < 0) || hasB x.xs i)) := Lib.hid rfl
      rw [HRO.out] at HST
      have HB : Hid (bstS l i (o.xs, mt) x.xs = if keepB i x.xs = true then (if gtB l (o.xs, mt) x.xs = true then (x.xs, true) else (o.xs, mt)) else (o.xs, mt)) := Lib.hid rfl
      rw [HB.out] at HST
      clear hsx HB
      obtain ⟨xl, hxl⟩ : ∃ xl, xl = x.xs.length := ⟨_, rfl⟩
      obtain ⟨ol, hol⟩ : ∃ ol, ol = o.xs.length := ⟨_, rfl⟩
      have HXL := Lib.hid hxl
      have HOL := Lib.hid hol
      rw [← hxl] at c0 HHX HWX HG
      rw [← hol] at HWO HG ⊢
      clear hxl hol
      generalize worthL l x.xs = wx at *
      generalize worthL l o.xs = wo at *
      generalize hasB x.xs i = hB at *
      generalize keepB i x.xs = kB at *
      generalize gtB l (o.xs, mt) x.xs = gB at *
      have SKIP := fun (e : R (k + 1) = (o.xs, mt)) => (⟨k + 1, o, mt, by omega, by go_num, by rw [HOL.out], rfl, HSO.out, e, rfl⟩ : ∃ (k' : Nat) (x : SlL) (mt' : Bool), k' ≤ n ∧ Value.int .i64 ((k : Int) + 1) = Value.int .i64 (k' : Int) ∧ Value.slice o.A ol o.c = .slice x.A x.xs.length x.c ∧ Value.bool mt = Value.bool mt' ∧ SlAt w nl x ∧ R k' = (x.xs, mt') ∧ w = w)
      have SK := Lib.hid SKIP
      have TK := Lib.hid (fun (e : R (k + 1) = (x.xs, true)) => (⟨k + 1, x, true, by omega, by go_num, by rw [HXL.out], rfl, HSX.out, e, rfl⟩ : ∃ (k' : Nat) (y : SlL) (mt' : Bool), k' ≤ n ∧ Value.int .i64 ((k : Int) + 1) = Value.int .i64 (k' : Int) ∧ Value.slice x.A xl x.c = .slice y.A y.xs.length y.c ∧ Value.bool true = Value.bool mt' ∧ SlAt w nl y ∧ R k' = (y.xs, mt') ∧ w = w))
      clear SKIP
      by_cases hi : i < 0
      · have di : decide (i ≥ 0) = false := decide_eq_false (by omega)
        have di2 : decide (0 ≤ i) = false := decide_eq_false (by omega)
        have HK := Lib.hid (show kB = true by rw [HKB.out, decide_eq_true hi]; rfl)
        clear hi
        cases mt
        case false =>
          have HF := Lib.hid (TK.out (by rw [HST.out, if_pos HK.out, if_pos (by rw [HG.out]; rfl)]))
          go_wp2_with fail
          refine (HWX.out).mono ?_
          rintro e w' ⟨rfl, hw'⟩; replace hw' := hw'.symm; subst hw'
          go_wp2_with fail
          refine (HWO.out).mono ?_
          rintro e w' ⟨rfl, hw'⟩; replace hw' := hw'.symm; subst hw'
          go_wp2
          go_roundw
          case rel => exact HF.out
          case measure => simp [intOf]; omega
        by_cases h1 : wo < wx
        · have d1 : decide (wx > wo) = true := decide_eq_true h1
          have HF := Lib.hid (TK.out (by rw [HST.out, if_pos HK.out, if_pos (by rw [HG.out, decide_eq_true h1]; rfl)]))
          clear h1
          go_wp2_with fail
          refine (HWX.out).mono ?_
          rintro e w' ⟨rfl, hw'⟩; replace hw' := hw'.symm; subst hw'
          go_wp2_with fail
          refine (HWO.out).mono ?_
          rintro e w' ⟨rfl, hw'⟩; replace hw' := hw'.symm; subst hw'
          go_wp2
          go_roundw
          case rel => exact HF.out
          case measure => simp [intOf]; omega
        have d1 : decide (wx > wo) = false := decide_eq_false h1
        by_cases h2 : wx = wo
        case neg =>
          have d2 : (wx == wo) = false := by simp [h2]
          have HF := Lib.hid (SK.out (by rw [HST.out, if_pos HK.out, if_neg (by rw [HG.out, decide_eq_false h1, decide_eq_false h2]; simp)]))
          clear h1 h2
          go_wp2_with fail
          refine (HWX.out).mono ?_
          rintro e w' ⟨rfl, hw'⟩; replace hw' := hw'.symm; subst hw'
          go_wp2_with fail
          refine (HWO.out).mono ?_
          rintro e w' ⟨rfl, hw'⟩; replace hw' := hw'.symm; subst hw'
          go_wp2
          go_roundw
          case rel => exact HF.out
          case measure => simp [intOf]; omega
        have d2 : (wx == wo) = true := by simp [h2]
        by_cases h3 : xl < ol
        · have d3 : decide ((xl : Int) < (ol : Int)) = true := decide_eq_true (by omega)
          have d4 : decide (xl < ol) = true := decide_eq_true h3
          have HF := Lib.hid (TK.out (by rw [HST.out, if_pos HK.out, if_pos (by rw [HG.out, decide_eq_true h2, d4]; simp)]))
          clear h1 h2 h3
          go_wp2_with fail
          refine (HWX.out).mono ?_
          rintro e w' ⟨rfl, hw'⟩; replace hw' := hw'.symm; subst hw'
          go_wp2_with fail
          refine (HWO.out).mono ?_
          rintro e w' ⟨rfl, hw'⟩; replace hw' := hw'.symm; subst hw'
          go_wp2
          go_roundw
          case rel => exact HF.out
          case measure => simp [intOf]; omega
        · have d3 : decide ((xl : Int) < (ol : Int)) = false := decide_eq_false (by omega)
          have d4 : decide (xl < ol) = false := decide_eq_false h3
          have HF := Lib.hid (SK.out (by rw [HST.out, if_pos HK.out, if_neg (by rw [HG.out, decide_eq_false h1, d4]; simp)]))
          clear h1 h2 h3
          go_wp2_with fail
          refine (HWX.out).mono ?_
          rintro e w' ⟨rfl, hw'⟩; replace hw' := hw'.symm; subst hw'
          go_wp2_with fail
          refine (HWO.out).mono ?_
          rintro e w' ⟨rfl, hw'⟩; replace hw' := hw'.symm; subst hw'
          go_wp2
          go_roundw
          case rel => exact HF.out
          case measure => simp [intOf]; omega
      have di : decide (i ≥ 0) = true := decide_eq_true (by omega)
      have di2 : decide (0 ≤ i) = true := decide_eq_true (by omega)
      rw [decide_eq_false hi, Bool.false_or] at HKB
      clear hi
      cases hB
      case false =>
        have HF := Lib.hid (SK.out (by rw [HST.out, if_neg (by rw [HKB.out]; simp)]))
        go_wp2_with fail
        refine (HHX.out).mono ?_
        rintro e w' ⟨rfl, hw'⟩; replace hw' := hw'.symm; subst hw'
        go_wp2
        go_roundw
        case rel => exact HF.out
        case measure => simp [intOf]; omega
      have HK := Lib.hid HKB.out
      cases mt
      case false =>
        have HF := Lib.hid (TK.out (by rw [HST.out, if_pos HK.out, if_pos (by rw [HG.out]; rfl)]))
        go_wp2_with fail
        refine (HHX.out).mono ?_
        rintro e w' ⟨rfl, hw'⟩; replace hw' := hw'.symm; subst hw'
        go_wp2_with fail
        refine (HWX.out).mono ?_
        rintro e w' ⟨rfl, hw'⟩; replace hw' := hw'.symm; subst hw'
        go_wp2_with fail
        refine (HWO.out).mono ?_
        rintro e w' ⟨rfl, hw'⟩; replace hw' := hw'.symm; subst hw'
        go_wp2
        go_roundw
        case rel => exact HF.out
        case measure => simp [intOf]; omega
      by_cases h1 : wo < wx
      · have d1 : decide (wx > wo) = true := decide_eq_true h1
        have HF := Lib.hid (TK.out (by rw [HST.out, if_pos HK.out, if_pos (by rw [HG.out, decide_eq_true h1]; rfl)]))
        clear h1
        go_wp2_with fail
        refine (HHX.out).mono ?_
        rintro e w' ⟨rfl, hw'⟩; replace hw' := hw'.symm; subst hw'
        go_wp2_with fail
        refine (HWX.out).mono ?_
        rintro e w' ⟨rfl, hw'⟩; replace hw' := hw'.symm; subst hw'
        go_wp2_with fail
        refine (HWO.out).mono ?_
        rintro e w' ⟨rfl, hw'⟩; replace hw' := hw'.symm; subst hw'
        go_wp2
        go_roundw
        case rel => exact HF.out
        case measure => simp [intOf]; omega
      have d1 : decide (wx > wo) = false := decide_eq_false h1
      by_cases h2 : wx = wo
      case neg =>
        have d2 : (wx == wo) = false := by simp [h2]
        have HF := Lib.hid (SK.out (by rw [HST.out, if_pos HK.out, if_neg (by rw [HG.out, decide_eq_false h1, decide_eq_false h2]; simp)]))
        clear h1 h2
        go_wp2_with fail
        refine (HHX.out).mono ?_
        rintro e w' ⟨rfl, hw'⟩; replace hw' := hw'.symm; subst hw'
        go_wp2_with fail
        refine (HWX.out).mono ?_
        rintro e w' ⟨rfl, hw'⟩; replace hw' := hw'.symm; subst hw'
        go_wp2_with fail
        refine (HWO.out).mono ?_
        rintro e w' ⟨rfl, hw'⟩; replace hw' := hw'.symm; subst hw'
        go_wp2
        go_roundw
        case rel => exact HF.out
        case measure => simp [intOf]; omega
      have d2 : (wx == wo) = true := by simp [h2]
      by_cases h3 : xl < ol
      · have d3 : decide ((xl : Int) < (ol : Int)) = true := decide_eq_true (by omega)
        have d4 : decide (xl < ol) = true := decide_eq_true h3
        have HF := Lib.hid (TK.out (by rw [HST.out, if_pos HK.out, if_pos (by rw [HG.out, decide_eq_true h2, d4]; simp)]))
        clear h1 h2 h3
        go_wp2_with fail
        refine (HHX.out).mono ?_
        rintro e w' ⟨rfl, hw'⟩; replace hw' := hw'.symm; subst hw'
        go_wp2_with fail
        refine (HWX.out).mono ?_
        rintro e w' ⟨rfl, hw'⟩; replace hw' := hw'.symm; subst hw'
        go_wp2_with fail
        refine (HWO.out).mono ?_
        rintro e w' ⟨rfl, hw'⟩; replace hw' := hw'.symm; subst hw'
        go_wp2
        go_roundw
        case rel => exact HF.out
        case measure => simp [intOf]; omega
      · have d3 : decide ((xl : Int) < (ol : Int)) = false := decide_eq_false (by omega)
        have d4 : decide (xl < ol) = false := decide_eq_false h3
        have HF := Lib.hid (SK.out (by rw [HST.out, if_pos HK.out, if_neg (by rw [HG.out, decide_eq_false h1, d4]; simp)]))
        clear h1 h2 h3
        go_wp2_with fail
        refine (HHX.out).mono ?_
        rintro e w' ⟨rfl, hw'⟩; replace hw' := hw'.symm; subst hw'
        go_wp2_with fail
        refine (HWX.out).mono ?_
        rintro e w' ⟨rfl, hw'⟩; replace hw' := hw'.symm; subst hw'
        go_wp2_with fail
        refine (HWO.out).mono ?_
        rintro e w' ⟨rfl, hw'⟩; replace hw' := hw'.symm; subst hw'
        go_wp2
        go_roundw
        case rel => exact HF.out
        case measure => simp [intOf]; omega
    · obtain rfl : k = n := by omega
      go_wp2
      go_ret2
      exact ⟨⟨o, by rw [HRO.out]; rfl, HSO.out, by rw [HRO.out]⟩, rfl⟩
end Go.Proofs.Ytomgaiokmdcjmaa
