/-
  From a contract to the row's first half, with a condition on memory and with the world's shape handed to the contract. No conditions.
-/
import Derived.Test.YtimbdnngeoccdaaDoorPre
import Derived.SizedLaws
import Derived.Handed
namespace Go.Proofs.YtimbdnngeoccdaaDoor
open Go.RowKit
theorem handed_shape {H : Type} {enc : TypeId × Value → H} {a : Assume} {C : Checked} {os : Os} {f : FuncId} {fn : Func} {s : ChangeSpec} {conds : List PathCond} {b1 b2 b3 b4 : Bool} {X : World → Array Value → Prop}
    (hX : ∀ (w w' : World) (args : Array Value), w.heap = w'.heap → X w args → X w' args)
    (own : ownKnob C.prog.godebug = none) (started : os.Started) (noInit : C.prog.inits.idxOf? f = none) (hfn : C.prog.funcs[f]? = some fn)
    (witness : ∃ (w : World) (tape : Tape) (i : Input), w.os = os ∧ (w.forCall tape i).Shaped C.prog ∧ i.vars = [] ∧ Input.okWide C.prog (w.forCall tape i) .any w.heap.size f i ∧
      ((s.pre enc C.prog fn conds b1 (w.forCall tape i).memory i.args ∧ X (w.forCall tape i).memory i.args) ∧ sizedMet enc C.prog fn (OpenSpec.ofChange s) b1 (w.forCall tape i).memory i.args) ∧ a.holds C.prog (lone (Frame.enter C.prog f i.args .normal) [] (w.forCall tape i)))
    (contract : ∀ (W : World) (base : Nat) (args : Array Value) (ds gs : List (DataW H)) (before : List MemPlace),
      (∀ (j : Nat) t v, fn.params[j]? = some t → args[j]? = some v → Value.okWide C.prog W .any base t v) → DataW.Whole enc C.prog fn.params.toList s.vars b1 W args.toList ds gs before →
      X W args → W.ShapedOpen C.prog → Calls C.prog f args W fun e W' => ∃ v, e = .returned v ∧ s.post enc C.prog fn b1 b2 b3 b4 W args v W') :
    ReturnsInHanded a C os f .any (fun w args => (s.pre enc C.prog fn conds b1 w args ∧ X w args) ∧ sizedMet enc C.prog fn (OpenSpec.ofChange s) b1 w args) (s.post enc C.prog fn b1 b2 b3 b4) := by
  refine returnsInHanded_of_calls own started noInit witness fun w tape i h1 hsh h2 hok hpre hh => ?_
  obtain ⟨-, -, -, g, hg, -, -, -, -, hval⟩ := hok
  obtain rfl := Option.some.inj (hg.symm.trans hfn)
  obtain ⟨⟨⟨ds, gs, before, hw, -⟩, hx⟩, -⟩ := hpre
  refine (contract (w.forCall tape i) w.heap.size i.args ds gs before hval (DataW.Whole.of_heap (w' := w.forCall tape i) (by rfl) hw) (hX _ _ _ (by rfl) hx) hsh).mono ?_
  rintro e W' ⟨v, rfl, hp⟩
  exact ChangeSpec.post_blind hp
end Go.Proofs.YtimbdnngeoccdaaDoor
