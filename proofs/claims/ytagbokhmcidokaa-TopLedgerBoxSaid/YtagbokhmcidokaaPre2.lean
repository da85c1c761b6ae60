/-
  A cell of the call's own that may be written may still be written behind a call that only makes memory.
-/
import Derived.Test.YtagbokhmcidokaaPre
namespace Go.Proofs.Ytagbokhmcidokaa
open Go.RowKit
theorem keep_frozen {W W' : World} {b o : Nat} (hb : Below W.heap.size W W') (h0 : b < W.heap.size) (h : W.frozen? ⟨b, o, none⟩ = false) : W'.frozen? ⟨b, o, none⟩ = false := (hb.frozen (p := ⟨b, o, none⟩) h0).trans h

end Go.Proofs.Ytagbokhmcidokaa
