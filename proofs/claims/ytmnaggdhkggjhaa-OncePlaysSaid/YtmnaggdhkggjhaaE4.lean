/-
  E4: small words that the printed shallow texts use.
-/
import Derived.Test.YtmnaggdhkggjhaaE3
import Derived.KernelRfl
namespace Go.Proofs.Ytmnaggdhkggjhaa.E
open Go

def bodyOf (fn : Func) : Code := fn.body.getD .skip
theorem of_eq_ {p q : Prop} (h : p = q) (hq : q) : p := h ▸ hq
/-- A result that lies in memory. -/
def RetC (P : Program) (v : Value) (t : TypeId) (K : Value → Prop) (w : World) : Prop :=
  ∃ x, (do loadVar t (← asAddr v) : Sem Value).run P w = .ok x w ∧ K x

end Go.Proofs.Ytmnaggdhkggjhaa.E
