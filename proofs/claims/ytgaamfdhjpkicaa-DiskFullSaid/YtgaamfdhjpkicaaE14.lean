/-
  E14: a [][]byte that came in.
-/
import Derived.Test.YtgaamfdhjpkicaaE12
import Derived.Deep.Matrix
namespace Go.Proofs.Ytgaamfdhjpkicaa.E
open Go Go.RowKit

theorem rdSS_of_trod {H : Type} {enc : TypeId × Value → H} {P : Program} {w : World} {base : Nat} {held : Bool} {t e q : TypeId} {fuel : Nat} {a : Option Addr} {len cap : Nat} {x : DataW H × List MemPlace}
    (ht : P.underlying t = some (.slice e)) (he : P.underlying e = some (.slice q)) (hq : P.underlying q = some (.int .u8)) (ce : P.cellsOf e = 1) (cq : P.cellsOf q = 1)
    (h : DataW.trod enc P w base (fun _ => true) held fuel t [.slice a len cap] = some x) : ∃ bss : List (List UInt8), bss.length = len ∧ RdSS w (.slice a len cap) bss := by
  rcases Deep.open_int_rows ht he hq ce cq h with ⟨hcs, _⟩ | ⟨a', l, c, A, L, C, Z, hcs, _, hl, hm, _, hr⟩
  · cases hcs
    exact ⟨[], rfl, none, 0, rfl, Nat.le_refl _, by omega, fun i hi => by simp at hi⟩
  · cases hcs
    have each : ∀ r, r < len → ∃ bs : List UInt8, bs.length = L r ∧ RdB w (.slice (A r) (L r) (C r)) bs := by
      intro r hr'
      obtain ⟨h1, h2, h3, h4, h5, h6, h7⟩ := hr r (by omega)
      refine rdB_of_row (zs := Z r) ?_
      cases hA : A r with
      | none =>
        have hc := h6 hA
        exact .inl ⟨rfl, by omega, hc, List.eq_nil_of_length_eq_zero (by omega)⟩
      | some a1 => exact .inr ⟨a1, rfl, h2, h3, h4, fun i hi => (h7 a1 hA).2 i (by omega), h5⟩
    obtain ⟨y, hy⟩ := Deep.choose_lt each
    refine ⟨(List.range len).map y, by simp, ⟨some a', cap, by simp, by simpa using hl, by simp only [maxLen] at hm; omega, fun i hi => ?_⟩⟩
    have hi' : i < len := by simpa using hi
    exact ⟨a', A i, L i, C i, rfl, (hr i (by omega)).1, by simpa using (hy i hi').2⟩
end Go.Proofs.Ytgaamfdhjpkicaa.E
