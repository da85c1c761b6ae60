/-
  Texts: pieces, lines, numerals. Plain laws, no program in sight.
-/
import Derived.Lib.SplitLaws
import Derived.Lib.ItoaNum
import Derived.Lib.AtoiAll
import Derived.Lib.Bytealg
namespace Go.Proofs.YtimbdnngeoccdaaDoor
set_option linter.unusedVariables false
set_option linter.unusedSimpArgs false
def str (l : List UInt8) : ByteArray := ⟨l.toArray⟩
theorem str_data (l : List UInt8) : (str l).data.toList = l := by simp [str]
theorem str_ext {a b : ByteArray} (h : a.data.toList = b.data.toList) : a = b := by
  obtain ⟨⟨l⟩⟩ := a; obtain ⟨⟨m⟩⟩ := b
  simp only at h
  rw [h]
theorem str_of {a : ByteArray} {l : List UInt8} (h : a.data.toList = l) : a = str l := str_ext (by rw [h, str_data])
theorem str_eta (a : ByteArray) : str a.data.toList = a := str_ext (str_data _)
theorem str_append (a b : List UInt8) : str a ++ str b = str (a ++ b) := str_of (by simp [ByteArray.data_append, str])
theorem str_inj {a b : List UInt8} (h : str a = str b) : a = b := by rw [← str_data a, h, str_data]
theorem str_one (c : UInt8) : (⟨#[c]⟩ : ByteArray) = str [c] := rfl
theorem size_str (l : List UInt8) : (str l).size = l.length := by simp [str, ByteArray.size]
theorem size_list (a : ByteArray) : a.size = a.data.toList.length := by simp only [ByteArray.size, Array.length_toList]
theorem extract_str (l : List UInt8) (a b : Nat) : (str l).extract a b = str ((l.drop a).take (b - a)) := str_of (by
  rw [ByteArray.data_extract, Array.toList_extract, List.extract_eq_take_drop, str_data])

/-- The pieces of a text between the signs c. -/
def pieces (c : UInt8) : List UInt8 → List (List UInt8)
  | [] => [[]]
  | b :: l => if b = c then [] :: pieces c l else match pieces c l with
    | [] => [[b]]
    | a :: t => (b :: a) :: t

theorem index_self (c : UInt8) (l : List UInt8) : Lib.index (c :: l) [c] = 0 := by
  unfold Lib.index; simp [List.isPrefixOf]
theorem index_other {b c : UInt8} (h : b ≠ c) (l : List UInt8) : Lib.index (b :: l) [c] = if Lib.index l [c] == -1 then -1 else Lib.index l [c] + 1 := by
  rw [Lib.index]
  have hp : ([c] : List UInt8).isPrefixOf (b :: l) = false := by simp [List.isPrefixOf, Ne.symm h]
  rw [hp]; simp
theorem index_byte (c : UInt8) : ∀ l : List UInt8, Lib.index l [c] = Lib.indexByte l c
  | [] => rfl
  | b :: l => by
    by_cases h : b = c
    · subst h; rw [index_self]; unfold Lib.indexByte; simp
    · have hb : (b == c) = false := by simpa using h
      rw [index_other h, index_byte c l]
      simp only [Lib.indexByte, hb, Bool.false_eq_true, if_false]
theorem splitK_pieces (c : UInt8) : ∀ l : List UInt8, Lib.splitK [c] 0 (l.count c) l = pieces c l
  | [] => rfl
  | b :: l => by
    have ih := splitK_pieces c l
    by_cases h : b = c
    · subst h
      rw [List.count_cons_self]
      unfold Lib.splitK pieces
      rw [index_self, if_neg (by decide), if_pos rfl]
      simp only [Int.toNat_zero, Nat.zero_add, List.take_zero, List.length_singleton, List.drop_succ_cons, List.drop_zero]
      rw [ih]
    · rw [List.count_cons_of_ne (by simpa using h)]
      unfold pieces
      rw [if_neg h, ← ih]
      cases hk : l.count c with
      | zero => rfl
      | succ k =>
        have hn : Lib.index l [c] ≠ -1 := fun e => by
          have := Lib.count_miss e
          rw [Lib.count_one] at this; omega
        have hg : 0 ≤ Lib.index l [c] := by
          have := Lib.indexByte_ge l c
          rw [← index_byte] at this; omega
        obtain ⟨j, hj⟩ : ∃ j : Nat, Lib.index l [c] = j := ⟨(Lib.index l [c]).toNat, by omega⟩
        unfold Lib.splitK
        rw [index_other h, hj]
        have e1 : ((j : Int) == -1) = false := by rw [beq_eq_false_iff_ne]; omega
        have e2 : (((j : Int) + 1) == -1) = false := by rw [beq_eq_false_iff_ne]; omega
        have e3 : ((j : Int) + 1).toNat = j + 1 := by omega
        simp only [e1, e2, e3, Bool.false_eq_true, if_false, Int.toNat_natCast, Nat.add_zero, List.length_singleton, List.take_succ_cons, List.drop_succ_cons]
theorem map_str_data (l : List ByteArray) : (l.map (·.data.toList)).map str = l := by
  rw [List.map_map]
  conv => rhs; rw [← List.map_id l]
  exact List.map_congr_left fun a _ => str_eta a
/-- What strings.Split makes at a separator of one byte. -/
theorem splitB_pieces (c : UInt8) (s : ByteArray) : Lib.splitB ⟨#[c]⟩ 0 (Lib.countB s ⟨#[c]⟩) s = (pieces c s.data.toList).map str := by
  have h := Lib.splitB_data ⟨#[c]⟩ 0 (Lib.countB s ⟨#[c]⟩) s
  rw [← map_str_data (Lib.splitB ⟨#[c]⟩ 0 (Lib.countB s ⟨#[c]⟩) s), h]
  congr 1
  show Lib.splitK [c] 0 (Lib.count s.data.toList [c]) s.data.toList = _
  rw [Lib.count_one, splitK_pieces]
theorem pieces_len (c : UInt8) (s : ByteArray) : Lib.countB s ⟨#[c]⟩ + 1 = (pieces c s.data.toList).length := by
  have h := Lib.splitB_all ⟨#[c]⟩ (Nat.le_refl 1) 0 _ s rfl
  rw [splitB_pieces, List.length_map] at h
  exact h.symm
theorem pieces_ne (c : UInt8) (l : List UInt8) : pieces c l ≠ [] := by
  cases l with
  | nil => simp [pieces]
  | cons b l =>
    unfold pieces
    by_cases h : b = c
    · rw [if_pos h]; simp
    · rw [if_neg h]
      cases pieces c l <;> simp
theorem pieces_none (c : UInt8) : ∀ l : List UInt8, c ∉ l → pieces c l = [l]
  | [], _ => rfl
  | b :: l, h => by
    have h1 : b ≠ c := fun e => h (e ▸ List.mem_cons_self ..)
    unfold pieces
    rw [if_neg h1, pieces_none c l (fun e => h (List.mem_cons_of_mem _ e))]
theorem pieces_app (c : UInt8) (r : List UInt8) : ∀ a : List UInt8, c ∉ a → pieces c (a ++ c :: r) = a :: pieces c r
  | [], _ => by simp [pieces]
  | b :: a, h => by
    have h1 : b ≠ c := fun e => h (e ▸ List.mem_cons_self ..)
    rw [List.cons_append]
    conv => lhs; unfold pieces
    rw [if_neg h1, pieces_app c r a (fun e => h (List.mem_cons_of_mem _ e))]
/-- Where a sign stands first. -/
theorem find_byte (c : UInt8) : ∀ l : List UInt8, (Lib.indexByte l c = -1 ∧ c ∉ l) ∨ ∃ a r, l = a ++ c :: r ∧ c ∉ a ∧ Lib.indexByte l c = (a.length : Nat)
  | [] => Or.inl ⟨rfl, by simp⟩
  | b :: l => by
    by_cases h : b = c
    · subst h
      exact Or.inr ⟨[], l, rfl, by simp, by unfold Lib.indexByte; simp⟩
    · have hx : Lib.indexByte (b :: l) c = if Lib.indexByte l c == -1 then -1 else Lib.indexByte l c + 1 := by
        conv => lhs; unfold Lib.indexByte
        rw [if_neg (by simpa using h)]
      rcases find_byte c l with ⟨h1, h2⟩ | ⟨a, r, rfl, h2, h3⟩
      · refine Or.inl ⟨by rw [hx, h1]; rfl, fun e => ?_⟩
        rcases List.mem_cons.1 e with e | e
        · exact h e.symm
        · exact h2 e
      · refine Or.inr ⟨b :: a, r, rfl, fun e => ?_, ?_⟩
        · rcases List.mem_cons.1 e with e | e
          · exact h e.symm
          · exact h2 e
        · have : (((a.length : Nat) : Int) == -1) = false := by rw [beq_eq_false_iff_ne]; omega
          rw [hx, h3, this, List.length_cons]
          simp
theorem indexByte_app {c : UInt8} {a : List UInt8} (r : List UInt8) (h : c ∉ a) : Lib.indexByte (a ++ c :: r) c = (a.length : Nat) := by
  rcases find_byte c (a ++ c :: r) with ⟨_, h2⟩ | ⟨a', r', h1, h2, h3⟩
  · exact absurd (by simp) h2
  · rw [h3]
    congr 1
    have : ∀ (a a' : List UInt8), c ∉ a → c ∉ a' → a ++ c :: r = a' ++ c :: r' → a'.length = a.length := by
      intro a
      induction a with
      | nil =>
        intro a' _ ha' e
        cases a' with
        | nil => rfl
        | cons x t =>
          simp only [List.nil_append, List.cons_append, List.cons.injEq] at e
          exact absurd (e.1 ▸ List.mem_cons_self ..) ha'
      | cons y a ih =>
        intro a' ha ha' e
        cases a' with
        | nil =>
          simp only [List.nil_append, List.cons_append, List.cons.injEq] at e
          exact absurd (e.1 ▸ List.mem_cons_self ..) ha
        | cons x t =>
          simp only [List.cons_append, List.cons.injEq] at e
          rw [List.length_cons, List.length_cons, ih t (fun m => ha (List.mem_cons_of_mem _ m)) (fun m => ha' (List.mem_cons_of_mem _ m)) e.2]
    exact this a a' h h2 h1
theorem app_inj {c : UInt8} {a a' r r' : List UInt8} (h : c ∉ a) (h' : c ∉ a') (e : a ++ c :: r = a' ++ c :: r') : a = a' ∧ r = r' := by
  have h1 := indexByte_app r h
  have h2 := indexByte_app r' h'
  rw [e, h2] at h1
  have hl : a'.length = a.length := by omega
  have hi := List.append_inj e hl.symm
  exact ⟨hi.1, (List.cons.inj hi.2).2⟩
theorem cut_none {c : UInt8} {l : List UInt8} (h : c ∉ l) : Lib.cut l [c] = (l, [], false) := by
  unfold Lib.cut
  rcases find_byte c l with ⟨h1, _⟩ | ⟨a, r, rfl, _, _⟩
  · rw [index_byte, h1, if_neg (by decide)]
  · exact absurd (by simp) h
theorem cut_app {c : UInt8} {a : List UInt8} (r : List UInt8) (h : c ∉ a) : Lib.cut (a ++ c :: r) [c] = (a, r, true) := by
  unfold Lib.cut
  rw [index_byte, indexByte_app r h, if_pos (by omega)]
  simp
/-! Numerals. -/
theorem digit_byte (k : Nat) (h : k < 10) : (UInt8.ofNat (48 + k)).toNat = 48 + k := by
  rw [UInt8.toNat_ofNat']
  omega
theorem decDigits_mem (u : Nat) : ∀ c ∈ Lib.decDigits u, 48 ≤ c.toNat ∧ c.toNat ≤ 57 := by
  induction u using Nat.strongRecOn with
  | _ u ih =>
    intro c hc
    by_cases h : u < 10
    · rw [Lib.decDigits, dif_pos h] at hc
      rw [List.mem_singleton.1 hc, digit_byte u h]; omega
    · rw [Lib.decDigits, dif_neg h] at hc
      rcases List.mem_append.1 hc with hc | hc
      · exact ih (u / 10) (by omega) c hc
      · rw [List.mem_singleton.1 hc, digit_byte (u % 10) (by omega)]; omega
theorem decDigits_ne (u : Nat) : Lib.decDigits u ≠ [] := by
  rw [Lib.decDigits]
  split <;> simp
theorem itoa_no (n : Int) (c : UInt8) (hc : c.toNat < 45) : c ∉ Lib.itoa n := by
  unfold Lib.itoa
  split
  · intro h
    rcases List.mem_cons.1 h with h | h
    · subst h; exact absurd hc (by decide)
    · have := decDigits_mem _ c h; omega
  · intro h
    have := decDigits_mem _ c h; omega
theorem decDigits_len : ∀ (k u : Nat), u < 10 ^ (k + 1) → (Lib.decDigits u).length ≤ k + 1
  | 0, u, h => by rw [Lib.decDigits, dif_pos (by simpa using h)]; simp
  | k + 1, u, h => by
    rw [Lib.decDigits]
    split
    · simp
    · rw [List.length_append, List.length_singleton]
      have := decDigits_len k (u / 10) (by rw [Nat.pow_succ] at h; omega)
      omega
theorem itoa_len (k : Nat) (n : Int) (h : n.natAbs < 10 ^ (k + 1)) : (Lib.itoa n).length ≤ k + 2 := by
  unfold Lib.itoa
  split
  · rw [List.length_cons]
    have := decDigits_len k n.natAbs h; omega
  · have := decDigits_len k n.toNat (by have : n.toNat = n.natAbs := by omega
                                        rw [this]; exact h)
    omega
theorem parse_app : ∀ (a b : List UInt8) (acc : Nat), Lib.parseUint10 acc (a ++ b) = match Lib.parseUint10 acc a with
    | .ok v => Lib.parseUint10 v b
    | e => e
  | [], b, acc => rfl
  | c :: a, b, acc => by
    rw [List.cons_append]
    simp only [Lib.parseUint10]
    split
    · split
      · rfl
      · split
        · rfl
        · exact parse_app a b _
    · rfl
theorem parse_digit (acc k : Nat) (hk : k < 10) (h : acc * 10 + k < 18446744073709551616) : Lib.parseUint10 acc [UInt8.ofNat (48 + k)] = .ok (acc * 10 + k) := by
  simp only [Lib.parseUint10, digit_byte k hk]
  rw [if_pos (by omega), if_neg (by omega), if_neg (by omega)]
  congr 1; omega
theorem parse_dec (u : Nat) (h : u < 18446744073709551616) : Lib.parseUint10 0 (Lib.decDigits u) = .ok u := by
  induction u using Nat.strongRecOn with
  | _ u ih =>
    by_cases hu : u < 10
    · rw [Lib.decDigits, dif_pos hu, parse_digit 0 u hu (by omega)]
      simp
    · rw [Lib.decDigits, dif_neg hu, parse_app, ih (u / 10) (by omega) (by omega)]
      show Lib.parseUint10 (u / 10) _ = _
      rw [parse_digit (u / 10) (u % 10) (by omega) (by omega)]
      congr 1; omega
theorem mag_dec (u : Nat) (h : u < 18446744073709551616) : Lib.parseMag (Lib.decDigits u) = .ok u := by
  unfold Lib.parseMag
  rw [if_neg (decDigits_ne u), parse_dec u h]
/-- What is written is read back. -/
theorem atoi_itoa (n : Int) (h0 : -9223372036854775808 ≤ n) (h1 : n ≤ 9223372036854775807) : Lib.atoiAll (Lib.itoa n) = .ok n := by
  unfold Lib.itoa
  by_cases hn : n < 0
  · rw [if_pos hn]
    unfold Lib.atoiAll
    have e : (45 : UInt8).toNat = 45 := rfl
    have hm := mag_dec n.natAbs (by omega)
    simp only [e, or_true, if_true]
    rw [hm]
    simp only [not_true, false_and, if_false, true_and]
    rw [if_neg (by omega)]
    congr 1; omega
  · rw [if_neg hn]
    have hd := decDigits_mem n.toNat
    have hm := mag_dec n.toNat (by omega)
    cases hl : Lib.decDigits n.toNat with
    | nil => exact absurd hl (decDigits_ne _)
    | cons c r =>
      rw [hl] at hd hm
      have hc := hd c (List.mem_cons_self ..)
      unfold Lib.atoiAll
      have e2 : ¬ c.toNat = 45 := by omega
      have e3 : ¬ c.toNat = 43 := by omega
      simp only [e2, e3, or_self, if_false]
      rw [hm]
      simp only [not_false_eq_true, true_and, false_and, if_false]
      rw [if_neg (by omega)]
      congr 1; omega
/-- The number that is read, whether or not it is one. -/
def atoiN (l : List UInt8) : Int := match Lib.atoiAll l with
  | .ok v => v
  | .range => Lib.atoiSat l
  | _ => 0
/-- Is it one. -/
def atoiB (l : List UInt8) : Bool := match Lib.atoiAll l with
  | .ok _ => true
  | _ => false
theorem atoiN_itoa (n : Int) (h0 : -9223372036854775808 ≤ n) (h1 : n ≤ 9223372036854775807) : atoiN (Lib.itoa n) = n := by
  unfold atoiN; rw [atoi_itoa n h0 h1]
theorem atoiB_itoa (n : Int) (h0 : -9223372036854775808 ≤ n) (h1 : n ≤ 9223372036854775807) : atoiB (Lib.itoa n) = true := by
  unfold atoiB; rw [atoi_itoa n h0 h1]
theorem atoiAll_range {l : List UInt8} {v : Int} (h : Lib.atoiAll l = .ok v) : -9223372036854775808 ≤ v ∧ v ≤ 9223372036854775807 := by
  unfold Lib.atoiAll at h
  split at h
  · cases h
  · simp only at h
    split at h
    · cases h
    · cases h
    · split at h
      · cases h
      · split at h
        · cases h
        · injection h with h
          split at h <;> omega
theorem atoiN_range (l : List UInt8) : -9223372036854775808 ≤ atoiN l ∧ atoiN l ≤ 9223372036854775807 := by
  unfold atoiN
  cases h : Lib.atoiAll l with
  | ok v => exact atoiAll_range h
  | range =>
    show (-9223372036854775808 : Int) ≤ Lib.atoiSat l ∧ Lib.atoiSat l ≤ 9223372036854775807
    unfold Lib.atoiSat
    split <;> omega
  | _ =>
    show (-9223372036854775808 : Int) ≤ 0 ∧ (0 : Int) ≤ 9223372036854775807
    omega
end Go.Proofs.YtimbdnngeoccdaaDoor
