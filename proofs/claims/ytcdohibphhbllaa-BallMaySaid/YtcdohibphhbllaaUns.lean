/-
  Plain law: what a further event makes of a verdict; and the law of an append to a row of the call's own, as a step of a region.
-/
import Derived.Test.YtcdohibphhbllaaB9
import Derived.Test.YtcdohibphhbllaaRow
namespace Go.Proofs.Ytcdohibphhbllaa
open Go.RowKit Go.Deep
set_option linter.unusedVariables false
theorem find_app {α : Type} (p : α → Bool) (l : List α) (e : α) (h : l.any p = true) : (l ++ [e]).findIdx p = l.findIdx p := by
  rw [List.findIdx_append, if_pos (find_lt h)]
theorem unsay (x : Ms) (l : List Ev) (e : Ev) : (e.kind = 6 → verdV x (l ++ [e]) ≠ 2 ∧ verdV x (l ++ [e]) ≠ 5 ∧ ((verdV x l = 2 ∨ verdV x l = 5) ∨ verdV x (l ++ [e]) = verdV x l)) ∧ ((verdV x l ≠ 0 ∧ verdV x l ≠ 3 ∧ verdV x l ≠ 1) ∨ verdV x (l ++ [e]) = verdV x l) := by
  cases h4 : l.any (isK 4)
  · have ha : verdV x l = if l.any (isK 6) then 4 else 5 := by unfold verdV; rw [h4]; rfl
    constructor
    · intro h6
      have k4 : (l ++ [e]).any (isK 4) = false := by rw [List.any_append, h4]; simp [isK, h6]
      have k6 : (l ++ [e]).any (isK 6) = true := by rw [List.any_append]; simp [isK, h6]
      have hb : verdV x (l ++ [e]) = 4 := by unfold verdV; rw [k4, k6]; rfl
      rw [hb, ha]
      cases l.any (isK 6) <;> simp
    · left
      rw [ha]
      cases l.any (isK 6) <;> simp
  · have hd : dN l < l.length := find_lt h4
    have k4 : (l ++ [e]).any (isK 4) = true := by rw [List.any_append, h4]; rfl
    have e1 : dN (l ++ [e]) = dN l := find_app _ _ _ h4
    have e2 : dAt (l ++ [e]) = dAt l := by
      unfold dAt; rw [e1, List.getD_eq_getElem?_getD, List.getD_eq_getElem?_getD, List.getElem?_append_left hd]
    have e3 : (l ++ [e]).take (dN l) = l.take (dN l) := List.take_append_of_le_length (by omega)
    have e4 : (l ++ [e]).drop (dN l) = l.drop (dN l) ++ [e] := List.drop_append_of_le_length (by omega)
    have ha : verdV x l = if within (dAt l) (x.noon - x.late) (x.noon + x.late) then 0 else if decide (x.noon + x.again - x.half ≤ dAt l) && ((l.take (dN l)).any (isK 6) && within (dAt l) (x.noon + x.again - x.late) (x.noon + x.again + x.late)) then 3 else if (l.drop (dN l)).any (isK 6) then 1 else 2 := by unfold verdV; rw [h4]; rfl
    have hb : verdV x (l ++ [e]) = if within (dAt l) (x.noon - x.late) (x.noon + x.late) then 0 else if decide (x.noon + x.again - x.half ≤ dAt l) && ((l.take (dN l)).any (isK 6) && within (dAt l) (x.noon + x.again - x.late) (x.noon + x.again + x.late)) then 3 else if ((l.drop (dN l)).any (isK 6) || isK 6 e) then 1 else 2 := by
      unfold verdV; rw [k4, e1, e2, e3, e4, List.any_append]; simp
    rw [ha, hb]
    cases within (dAt l) (x.noon - x.late) (x.noon + x.late)
    · cases (decide (x.noon + x.again - x.half ≤ dAt l) && ((l.take (dN l)).any (isK 6) && within (dAt l) (x.noon + x.again - x.late) (x.noon + x.again + x.late)))
      · cases (l.drop (dN l)).any (isK 6)
        · by_cases h6 : e.kind = 6 <;> simp [isK, h6]
        · simp
      · simp
    · simp

theorem step_append_own {P : Program} {ops : Array Oper} {o : Oper} {a : Act} {w : World} {K : Act → World → Prop} {Q : Exit → Act → World → Prop} {E : Prop} (hg : o.guard = none) (s x : Operand) (t : TypeId)
    (ho : o.op = .call { callee := .builtin .append, args := #[s, x], argTypes := #[t, t] })
    (base : Nat) (e : TypeId) (i : TypeInfo) (z : Value) (size bytes : Nat) (ht : P.underlying t = some (.slice e)) (hi : P.info? e = some i) (hz : i.zero = some z)
    (hsize : i.size = size) (hby : i.bytes = bytes) (hzs : z.cells.size = size) (hsz : 0 < size)
    (v : Value) (n : Nat) (xs : List Value) (hs : a.eval s = v) (hown : w.ownsRow base e size v n xs)
    (ad : Addr) (m c : Nat) (news : List Value) (hx : a.eval x = .slice (some ad) m c) (hl : news.length = m * size) (hnews : ∀ j u, news[j]? = some u → w.cell? (ad.add j) = some u) (h1 : ∀ u ∈ news, u.oneCell' = true)
    (h63 : n + m ≤ maxLen) (hbytes : (n + m) * bytes ≤ 140737488355328) (hbase : base ≤ w.heap.size)
    (h : ∀ v' w', w'.ownsRow base e size v' (n + m) (xs ++ news) → w.grownBy w' v.ownBlock → K (a.put o.dst v') w') :
    if Region.wanted o (yielded ops a.tmps) = true then Oper.wp P o a w K Q else E := by
  have hw : Region.wanted o (yielded ops a.tmps) = true := by simp [Region.wanted, hg]
  rw [if_pos hw]
  exact wp_append_own w s x t ho base e i z size bytes ht hi hz hsize hby hzs hsz v n xs hs hown ad m c news hx hl hnews h1 h63 hbytes hbase (fun v' w' h2 h3 _ => h v' w' h2 h3)
theorem step_append_none {P : Program} {ops : Array Oper} {o : Oper} {a : Act} {w : World} {K : Act → World → Prop} {Q : Exit → Act → World → Prop} {E : Prop} (hg : o.guard = none) (s x : Operand) (t : TypeId)
    (ho : o.op = .call { callee := .builtin .append, args := #[s, x], argTypes := #[t, t] })
    (base : Nat) (e : TypeId) (i : TypeInfo) (size bytes : Nat) (ht : P.underlying t = some (.slice e)) (hi : P.info? e = some i)
    (v : Value) (n : Nat) (xs : List Value) (hs : a.eval s = v) (hown : w.ownsRow base e size v n xs) (hx : a.eval x = .slice none 0 0)
    (h : K (a.put o.dst v) w) :
    if Region.wanted o (yielded ops a.tmps) = true then Oper.wp P o a w K Q else E := by
  have hw : Region.wanted o (yielded ops a.tmps) = true := by simp [Region.wanted, hg]
  rw [if_pos hw]
  have hr := run_append_owned_none (P := P) w base t o.type e i size ht hi v n xs hown
  unfold Oper.wp execOp
  simp only [ho, resolve, invoke, builtin, Sem.run_bind, Sem.run_pure, Result.andThen_ok, List.map_toArray, List.map_cons, List.map_nil, hs, hx, hr]
  exact h
/-- A slice's block, of a row of the call's own, lies from the base on. -/
theorem own_from {w : World} {base : Nat} {e : TypeId} {size n : Nat} {v : Value} {xs : List Value} (h : w.ownsRow base e size v n xs) : ∀ k, v.ownBlock = some k → base ≤ k := by
  intro k hk
  rcases h.2 with ⟨rfl, _⟩ | ⟨g, cap, cur, rfl, hb, _⟩
  · cases hk
  · simp [Value.ownBlock] at hk; omega
theorem keep_grown {w w' : World} {row : Option Nat} {a : Addr} {v : Value} (hg : w.grownBy w' row) (hr : ∀ k, row = some k → a.block ≠ k) (h : w.cell? a = some v) : w'.cell? a = some v := by
  have hk := cell?_lt h
  rw [World.cell?_of_block (hg.block a.block hk (fun e => hr _ e.symm rfl))]
  exact h
end Go.Proofs.Ytcdohibphhbllaa
