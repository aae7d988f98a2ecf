import Derived.Test.YtadbpelpbaikiaaMd
namespace Go.Proofs.Ytadbpelpbaikiaa.E
open Go Go.RowKit
set_option linter.unusedSimpArgs false
set_option linter.unusedVariables false

theorem LoopP.invL {body : (List Value → World → Prop) → List Value → World → Prop} {vs0 : List Value} {w : World} (I : List Value → World → Prop) (μ : List Value → Nat) (h0 : I vs0 w)
    (hr : ∀ vs w', I vs w' → ∀ J : List Value → World → Prop, (∀ ys w'', I ys w'' → μ ys < μ vs → J ys w'') → body J vs w') : LoopP body vs0 w :=
  ⟨I, fun vs _ => μ vs, h0, fun vs w' h => hr vs w' h _ fun _ _ h1 h2 => ⟨h1, h2⟩⟩
theorem MemX.bs0 {K : Value → World → Prop} {w0 w : World} {B : List Ob9} (h : MemX w0 w B) (k : ∀ v' w', MemX w0 w' (txO v' [] :: B) → K v' w') :
    LiftP Try.prog (Instr.buildSlice 50 0 #[]) K w := by
  refine E.bs0 undSs szSt ?_
  obtain ⟨c, h1, h2⟩ := h.make
  have hb : Below w.heap.size w (w.alloc (.cells #[] 9)) := (Below.refl _ _).alloc (Nat.le_refl _) _
  refine k _ _ (h2 [txO (.slice (some ⟨w.heap.size, 0, none⟩) 0 0) []] _ ⟨col c w.heap.size 8, col_lt _ _ _, fun x hx => ?_, hb⟩)
  simp only [List.mem_cons, List.not_mem_nil, or_false] at hx
  subst hx
  refine ⟨fun b hb => ?_, Own.lit0 w 9⟩
  cases hb
  exact col_ge _ _ _ (Nat.le_refl _)
end Go.Proofs.Ytadbpelpbaikiaa.E
