/-
  E13: rows of slices that the call made, element by element.
-/
import Derived.Test.YtgaamfdhjpkicaaE12
import Derived.Lib.SliceRun
namespace Go.Proofs.Ytgaamfdhjpkicaa.E
open Go Go.RowKit

theorem Rd.grown {w w' : World} {u : Value} {cs : List Value} {row : Option Nat} (h : Rd w u cs) (hg : w.grownBy w' row) (hne : cs = [] ∨ u.ownBlock ≠ row) : Rd w' u cs := by
  obtain ⟨A, c, rfl, h1, h2, h3⟩ := h
  refine ⟨A, c, rfl, h1, h2, fun i x hx => ?_⟩
  obtain ⟨a, ha, hc⟩ := h3 i x hx
  refine ⟨a, ha, hg.cell hc ?_⟩
  rcases hne with h | h
  · rw [h] at hx; simp at hx
  · subst ha
    have e : (a.add i).block = a.block := by unfold Addr.add; split <;> rfl
    rw [e]
    exact h
theorem Rd.block_lt {w : World} {u : Value} {cs : List Value} (h : Rd w u cs) (h0 : cs ≠ []) : ∃ k, u.ownBlock = some k ∧ k < w.heap.size := by
  obtain ⟨A, c, rfl, h1, h2, h3⟩ := h
  cases cs with
  | nil => exact absurd rfl h0
  | cons x r =>
    obtain ⟨a, rfl, hc⟩ := h3 0 x rfl
    rw [Addr.add_zero'] at hc
    exact ⟨a.block, rfl, World.block_lt_of_cell? w a hc⟩
/-- l: a row of the call's own, of slices; each reads as acc tells, none lies in l's own block. -/
def RowSS (w : World) (l : Value) (acc : List (List UInt8)) : Prop :=
  ∃ xs, Own 23 w l xs ∧ xs.length = acc.length ∧ (∀ u ∈ xs, u.oneCell' = true) ∧ ∀ i (h1 : i < xs.length) (h2 : i < acc.length), RdB w xs[i] acc[i] ∧ (acc[i] = [] ∨ xs[i].ownBlock ≠ l.ownBlock)
theorem RowSS.nil (w : World) : RowSS w (.slice none 0 0) [] := ⟨[], Own.nil 23 w, rfl, by simp, fun i h1 => by simp at h1⟩
theorem RowSS.below {w w' : World} {l : Value} {acc : List (List UInt8)} (h : RowSS w l acc) (hb : Below w.heap.size w w') : RowSS w' l acc := by
  obtain ⟨xs, h1, h2, h3, h4⟩ := h
  exact ⟨xs, h1.below hb, h2, h3, fun i g1 g2 => ⟨(h4 i g1 g2).1.below hb, (h4 i g1 g2).2⟩⟩
theorem RowSS.rd {w : World} {l : Value} {acc : List (List UInt8)} (h : RowSS w l acc) : RdSS w l acc := by
  obtain ⟨xs, h1, h2, _, h4⟩ := h
  exact RdSS.of h1.rd h2 fun i g1 g2 => (h4 i g1 g2).1
theorem RowSS.lt {w : World} {l : Value} {acc : List (List UInt8)} (h : RowSS w l acc) {k : Nat} (hk : l.ownBlock = some k) : k < w.heap.size := by
  obtain ⟨xs, h1, _⟩ := h
  exact h1.lt hk
section
variable {P : Program} {K : Value → World → Prop} {w : World}
/-- append(l, u): u reads as p, and lies elsewhere. -/
theorem apSS {t ty : TypeId} {cs : Array Bool} {z : Value} {bytes : Nat} (B : Nat) (ht : P.underlying t = some (.slice 23)) (hinfo : (P.info? 23).map (fun i => (i.zero, i.size, i.bytes)) = some (some z, 1, bytes)) (hz : z.cells.size = 1) (hb0 : 0 < bytes)
    {l x u : Value} {acc : List (List UInt8)} {p : List UInt8} (hl : RowSS w l acc) (hf : Fresh B l) (hB : B ≤ w.heap.size) (hx : Rd w x [u]) (hu : RdB w u p) (hne : p = [] ∨ u.ownBlock ≠ l.ownBlock) (hbd : (acc.length + 1) * bytes ≤ 140737488355328)
    (k : ∀ v' w', RowSS w' v' (acc ++ [p]) → Fresh B v' → Below B w w' → w.grownBy w' l.ownBlock → K v' w') : NextP P (builtin .append #[t, t] ty cs #[l, x]) K w := by
  obtain ⟨xs, h1, h2, h3, h4⟩ := hl
  have h1u : u.oneCell' = true := by obtain ⟨A, c, rfl, _⟩ := hu; rfl
  refine ap ht hinfo hz hb0 h1 hx (by simpa using h1u) (by rw [h2]; exact hbd) fun v' w' ho hg hbl => k v' w' ?_ (fun j hj => by rcases hbl with h | h <;> rw [h] at hj; exact hf j hj; cases hj; exact hB) ((Below.refl B w).grown hg hB (fun j hj => hf j hj)) hg
  have old : ∀ (y : Value) (q : List UInt8), RdB w y q → (q = [] ∨ y.ownBlock ≠ l.ownBlock) → RdB w' y q ∧ (q = [] ∨ y.ownBlock ≠ v'.ownBlock) := by
    intro y q hr hn
    refine ⟨Rd.grown hr hg (hn.imp (fun h => by rw [h]; rfl) id), ?_⟩
    by_cases hq : q = []
    · exact .inl hq
    refine .inr fun he => ?_
    obtain ⟨j, hj, hlt⟩ := Rd.block_lt hr (by simpa using hq)
    rcases hbl with h | h
    · exact (hn.resolve_left hq) (he.trans h)
    · rw [h, hj] at he
      cases he
      omega
  refine ⟨xs ++ [u], ho, by simp [h2], ?_, ?_⟩
  · intro y hy
    rcases List.mem_append.1 hy with h | h
    · exact h3 y h
    · simp at h; rw [h]; exact h1u
  · intro i g1 g2
    by_cases hi : i < xs.length
    · rw [List.getElem_append_left hi, List.getElem_append_left (by omega)]
      exact old _ _ (h4 i hi (by omega)).1 (h4 i hi (by omega)).2
    · have hil : i = xs.length := by simp at g1; omega
      subst hil
      have e2 : (acc ++ [p])[xs.length] = p := by rw [List.getElem_append_right (by omega)]; simp [h2]
      rw [List.getElem_append_right (Nat.le_refl _)]
      simp only [Nat.sub_self, List.getElem_cons_zero]
      rw [e2]
      exact old u p hu hne
end
end Go.Proofs.Ytgaamfdhjpkicaa.E
