/-
  The iterator over a log's states, of ball.
-/
import Derived.Test.YtimbdnngeoccdaaGreatDoorB2
import Derived.Test.YtimbdnngeoccdaaGreatDoorRange
import Derived.Test.YtimbdnngeoccdaaGreatDoorTypes
namespace Go.Proofs.YtimbdnngeoccdaaGreatDoor
open Go.RowKit Go.Shelf
attribute [local go_sem] Oper.semAt_some
set_option linter.unusedVariables false

def evE (e : Ev) : List Value := [.int .i64 e.at', .int .i64 e.kind, .int .i64 e.n]
def stepsB (x : Ms) : Bl → List Ev → List (Bl × Int)
  | _, [] => []
  | s, e :: l => (nextS x s e, nextE x s e) :: (if nextE x s e = 0 then stepsB x (nextS x s e) l else [])
def encS (p : Bl × Int) : Array Value := #[.agg #[.int .i64 p.1.place, .int .i64 p.1.wind, .bool p.1.flag, .int .i64 p.1.at'], .int .i64 p.2]

set_option maxHeartbeats 4000000 in
set_option maxRecDepth 100000 in
theorem states_stops (x : Ms) (HN : ∀ s e W, Calls Tryz.prog 101 #[msV x, blV s, evV e] W fun r w' => r = .returned (.tuple #[blV (nextS x s e), .int .i64 (nextE x s e)]) ∧ Below W.heap.size W w') (l : List Ev) (A : Option Addr) (cap lo hi bl bx : Nat) (hl : l.length ≤ 1000) (w : World) (hlo : lo ≤ w.heap.size) (hbl : hi ≤ bl) (hbl' : bl < w.heap.size) (hbx : hi ≤ bx) (hbx' : bx < w.heap.size)
    (cl : w.cell? ⟨bl, 0, none⟩ = some (.slice A l.length cap)) (cx : w.cell? ⟨bx, 0, none⟩ = some (.int .i64 x.noon) ∧ w.cell? ⟨bx, 1, none⟩ = some (.int .i64 x.half) ∧ w.cell? ⟨bx, 2, none⟩ = some (.int .i64 x.full) ∧ w.cell? ⟨bx, 3, none⟩ = some (.int .i64 x.late) ∧ w.cell? ⟨bx, 4, none⟩ = some (.int .i64 x.again) ∧ w.cell? ⟨bx, 5, none⟩ = some (.int .i64 x.wind)) (hr : RdL w lo evE 3 A l) :
    SeqB Tryz.prog 100 #[.pointer (some ⟨bl, 0, none⟩), .pointer (some ⟨bx, 0, none⟩)] encS (fun xs => xs = stepsB x bl0 l) (fun pre => pre <+: stepsB x bl0 l) l.length lo hi w := by
  intro n l0 J Jx W hW hJ hJx hY h0
  refine callsIn_of_wp Tryz.func100 rfl trivial ?_ rfl
  simp only [Tryz.ntmps100, List.size_toArray, List.length_cons, List.length_nil, Nat.reduceAdd, Nat.reduceSub, Array.replicate_succ, Array.replicate_zero, List.push_toArray, List.append_toArray, List.nil_append, List.cons_append]
  have k0 := (hW.cell (p := ⟨bl, 0, none⟩) hbl').trans cl
  have yl : bl < W.heap.size := Nat.lt_of_lt_of_le hbl' hW.size
  have yx : bx < W.heap.size := Nat.lt_of_lt_of_le hbx' hW.size
  have yo : lo ≤ W.heap.size := Nat.le_trans hlo hW.size
  obtain ⟨x0, x1, x2, x3, x4, x5⟩ := cx
  replace x0 := (hW.cell (p := ⟨bx, 0, none⟩) hbx').trans x0
  replace x1 := (hW.cell (p := ⟨bx, 1, none⟩) hbx').trans x1
  replace x2 := (hW.cell (p := ⟨bx, 2, none⟩) hbx').trans x2
  replace x3 := (hW.cell (p := ⟨bx, 3, none⟩) hbx').trans x3
  replace x4 := (hW.cell (p := ⟨bx, 4, none⟩) hbx').trans x4
  replace x5 := (hW.cell (p := ⟨bx, 5, none⟩) hbx').trans x5
  have HR := Lib.hid hr
  have HH := Lib.hid HN
  clear hr HN cl
  gi_wp2
  gi_loopw [11] (fun i wr => ∃ (k : Nat) (pre : List (Bl × Int)) (s : Bl), k ≤ l.length ∧ i = .int .i64 k ∧ pre.length = k ∧ J pre wr ∧ KB lo hi W wr ∧ Own4 wr W.heap.size s ∧ W.heap.size < wr.heap.size ∧ stepsB x bl0 l = pre ++ stepsB x s (l.drop k)) (fun i _ => l.length - (intOf i).toNat)
  case atStart => exact ⟨0, [], bl0, Nat.zero_le _, rfl, rfl, hJ _ _ _ h0 ((Below.refl _ _).alloc (Nat.le_refl _) _), (KB.refl _ _ _).alloc _, ⟨⟨by simp [go_sem, bl0], by simp [go_sem, bl0], by simp [go_sem, bl0], by simp [go_sem, bl0]⟩, by simp [go_sem], by simp [go_sem], by simp [go_sem], by simp [go_sem]⟩, by simp, by simp⟩
  case round =>
    obtain ⟨k, pre, s, hk, rfl, hp, hj, hkb, hown, hsz, hst⟩ := hrel
    have HS := Lib.hid hst
    clear hst
    by_cases hlt : k < l.length
    · obtain ⟨b, off, rfl, hb0, hc⟩ := HR.out (by omega)
      have e0 := (World.cell?_of_block (a := ⟨b, _, none⟩) (hkb.block b (by omega) (Or.inl hb0))).trans ((hW.cell (p := ⟨b, _, none⟩) (by show b < _; omega)).trans (hc k hlt 0 _ rfl))
      have e1 := (World.cell?_of_block (a := ⟨b, _, none⟩) (hkb.block b (by omega) (Or.inl hb0))).trans ((hW.cell (p := ⟨b, _, none⟩) (by show b < _; omega)).trans (hc k hlt 1 _ rfl))
      have e2 := (World.cell?_of_block (a := ⟨b, _, none⟩) (hkb.block b (by omega) (Or.inl hb0))).trans ((hW.cell (p := ⟨b, _, none⟩) (by show b < _; omega)).trans (hc k hlt 2 _ rfl))
      clear hc
      simp at e0
      have hxb := hkb.block bx yx (Or.inr hbx)
      have q0 := (World.cell?_of_block (a := ⟨bx, 0, none⟩) hxb).trans x0
      have q1 := (World.cell?_of_block (a := ⟨bx, 1, none⟩) hxb).trans x1
      have q2 := (World.cell?_of_block (a := ⟨bx, 2, none⟩) hxb).trans x2
      have q3 := (World.cell?_of_block (a := ⟨bx, 3, none⟩) hxb).trans x3
      have q4 := (World.cell?_of_block (a := ⟨bx, 4, none⟩) hxb).trans x4
      have q5 := (World.cell?_of_block (a := ⟨bx, 5, none⟩) hxb).trans x5
      have HN := HH.out s l[k]
      have hd : l.drop k = l[k] :: l.drop (k + 1) := List.drop_eq_getElem_cons hlt
      have hss : stepsB x s (l.drop k) = (nextS x s l[k], nextE x s l[k]) :: (if nextE x s l[k] = 0 then stepsB x (nextS x s l[k]) (l.drop (k + 1)) else []) := by rw [hd]; rfl
      unfold msV blV evV at HN
      generalize nextS x s l[k] = ns at HN hss
      generalize nextE x s l[k] = ne at HN hss
      have HZ := Lib.hid hss
      have HM := Lib.hid HN
      clear hd hss HN
      have hO := Lib.hid hown
      obtain ⟨⟨c0, c1, c2, c3⟩, f0, f1, f2, f3⟩ := hown
      have yb : b < wr.heap.size := by omega
      have yx' : bx < wr.heap.size := by omega
      generalize l[k].at' = t1 at e0 HM
      generalize l[k].kind = t2 at e1 HM
      generalize l[k].n = t3 at e2 HM
      gi_wp2
      refine ⟨trivial, (callsIn_wide.2 (HM.out _)).mono ?_⟩
      rintro e w1 ⟨rfl, hb⟩
      have bX : Below wr.heap.size wr (w1.alloc (.cells #[.int .i64 ns.place, .int .i64 ns.wind, .bool ns.flag, .int .i64 ns.at'] 89)) := by (repeat (first | exact Below.refl _ _ | refine Below.drew ?_ | refine Below.allocS ?_ _ | refine Below.step ?_ (by assumption) | refine Below.setCell ?_ (by simp <;> omega) _ | refine Below.drewN' ?_ _))
      have kX := hkb.step bX
      have jX := hJ _ _ _ hj (bX.mono (Nat.le_of_lt hsz))
      have oX := Lib.hid (hO.out.of_block (bX.block _ hsz))
      have oN : Own4 (w1.alloc (.cells #[.int .i64 ns.place, .int .i64 ns.wind, .bool ns.flag, .int .i64 ns.at'] 89)) w1.heap.size ns := ⟨⟨by simp [go_sem], by simp [go_sem], by simp [go_sem], by simp [go_sem]⟩, by simp [go_sem], by simp [go_sem], by simp [go_sem], by simp [go_sem]⟩
      have ON := Lib.hid oN
      clear oN
      have sX : wr.heap.size < (w1.alloc (.cells #[.int .i64 ns.place, .int .i64 ns.wind, .bool ns.flag, .int .i64 ns.at'] 89)).heap.size := by have := hb.size; simp at this ⊢; omega
      obtain ⟨fn, tmps, assign, body, hy, hR⟩ := hY pre (ns, ne) _ jX (by omega)
      dsimp only [encS] at hy
      clear q0 q1 q2 q3 q4 q5 e0 e1 e2 c0 c1 c2 c3 f0 f1 f2 f3 x0 x1 x2 x3 x4 x5 k0
      by_cases hne : ne = 0
      · subst hne
        gi_wp2
        refine hR.mono ?_
        rintro e W3 (⟨rfl, hJ3, hk3⟩ | ⟨rfl, hJx3⟩)
        · have oS := oX.out.of_block (hk3.block W.heap.size (by omega) (Or.inr (by omega)))
          have oM := ON.out.of_block (hk3.block w1.heap.size (by simp) (Or.inr (by have := hb.size; simp at this; omega)))
          have k3 := kX.trans hk3
          have s3 := hk3.size
          have sw : W.heap.size < w1.heap.size := by have := hb.size; simp at this; omega
          obtain ⟨⟨c0, c1, c2, c3⟩, f0, f1, f2, f3⟩ := oS
          obtain ⟨⟨d0, d1, d2, d3⟩, -⟩ := oM
          gi_wp2
          go_roundw
          case rel => exact ⟨k + 1, pre ++ [(ns, 0)], ns, by omega, by go_num, by simp [hp], hJ _ _ _ hJ3 (((((Below.refl W.heap.size W3).setCell (p := ⟨W.heap.size, 0, none⟩) (Nat.le_refl _) _).setCell (p := ⟨W.heap.size, 1, none⟩) (Nat.le_refl _) _).setCell (p := ⟨W.heap.size, 2, none⟩) (Nat.le_refl _) _).setCell (p := ⟨W.heap.size, 3, none⟩) (Nat.le_refl _) _), (((k3.setNew (p := ⟨W.heap.size, 0, none⟩) (Nat.le_refl _) _).setNew (p := ⟨W.heap.size, 1, none⟩) (Nat.le_refl _) _).setNew (p := ⟨W.heap.size, 2, none⟩) (Nat.le_refl _) _).setNew (p := ⟨W.heap.size, 3, none⟩) (Nat.le_refl _) _, ⟨⟨by simp [go_sem, *], by simp [go_sem, *], by simp [go_sem, *], by simp [go_sem, *]⟩, by simp [go_sem, *], by simp [go_sem, *], by simp [go_sem, *], by simp [go_sem, *]⟩, by simp; omega, by rw [HS.out, HZ.out]; simp⟩
          case measure => simp [intOf]; omega
        · gi_wp2
          refine bodyPost_ret (results_none rfl _ _ _) rfl ?_
          exact ⟨⟨_, rfl⟩, .inr ⟨_, ⟨stepsB x ns (l.drop (k + 1)), by rw [HS.out, HZ.out]; simp⟩, hJx3⟩⟩
      · have hnb : (ne != 0) = true := by simpa using hne
        gi_wp2
        refine hR.mono ?_
        rintro e W3 (⟨rfl, hJ3, hk3⟩ | ⟨rfl, hJx3⟩)
        · gi_wp2
          refine bodyPost_ret (results_none rfl _ _ _) rfl ?_
          exact ⟨⟨_, rfl⟩, .inl ⟨_, by rw [HS.out, HZ.out, if_neg hne], hJ3⟩⟩
        · gi_wp2
          refine bodyPost_ret (results_none rfl _ _ _) rfl ?_
          exact ⟨⟨_, rfl⟩, .inr ⟨_, ⟨[], by rw [HS.out, HZ.out, if_neg hne]; simp⟩, hJx3⟩⟩
    · obtain rfl : k = l.length := by omega
      gi_wp2
      go_end0
      exact ⟨⟨_, rfl⟩, .inl ⟨pre, by rw [HS.out]; simp [stepsB], hj⟩⟩
end Go.Proofs.YtimbdnngeoccdaaGreatDoor
