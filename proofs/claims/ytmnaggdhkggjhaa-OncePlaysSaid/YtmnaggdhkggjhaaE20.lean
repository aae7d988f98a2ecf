/-
  E20: rows of structs, cut to their length; comparison with nil.
-/
import Derived.Test.YtmnaggdhkggjhaaE19
import Derived.Test.YtmnaggdhkggjhaaE16
namespace Go.Proofs.Ytmnaggdhkggjhaa.E
open Go Go.RowKit

/-- A row of n elements of s cells, of the call's own, without room behind. -/
def OwnS (s : Nat) (e : TypeId) (w : World) (v : Value) (n : Nat) (cs : List Value) : Prop :=
  cs.length = n * s ∧ ((v = .slice none 0 0 ∧ n = 0) ∨ ∃ g cur, v = .slice (some ⟨g, 0, none⟩) n n ∧ Blk w g e cur ∧ n * s ≤ cur.size ∧ cur.toList.take (n * s) = cs ∧ n ≤ maxLen)
theorem flatMap_at {α β : Type} (f : α → List β) (s : Nat) (hf : ∀ x, (f x).length = s) : ∀ (l : List α) (i j : Nat) (x : α), l[i]? = some x → j < s → (l.flatMap f)[i * s + j]? = (f x)[j]? := by
  intro l
  induction l with
  | nil => intro i j x h; simp at h
  | cons y r ih =>
    intro i j x h hj
    rw [List.flatMap_cons]
    cases i with
    | zero =>
      simp at h
      subst h
      rw [Nat.zero_mul, Nat.zero_add, List.getElem?_append_left (by rw [hf]; exact hj)]
    | succ i =>
      simp at h
      rw [List.getElem?_append_right (by rw [hf, Nat.succ_mul]; omega), hf, Nat.succ_mul, show i * s + s + j - s = i * s + j from by omega]
      exact ih i j x h hj
theorem flatMap_len {α β : Type} (f : α → List β) (s : Nat) (hf : ∀ x, (f x).length = s) (l : List α) : (l.flatMap f).length = l.length * s := by
  induction l with
  | nil => simp
  | cons y r ih => rw [List.flatMap_cons, List.length_append, hf, ih, List.length_cons, Nat.succ_mul]; omega
section
variable {s : Nat} {e : TypeId} {w w' : World} {v : Value} {n : Nat} {cs : List Value}
theorem OwnS.nil (s : Nat) (e : TypeId) (w : World) : OwnS s e w (.slice none 0 0) 0 [] := ⟨by simp, .inl ⟨rfl, rfl⟩⟩
theorem OwnS.slice (h : OwnS s e w v n cs) : ∃ A, v = .slice A n n := by
  rcases h.2 with ⟨rfl, rfl⟩ | ⟨g, _, rfl, _⟩
  · exact ⟨_, rfl⟩
  · exact ⟨_, rfl⟩
theorem OwnS.lt (h : OwnS s e w v n cs) {k : Nat} (hk : v.ownBlock = some k) : k < w.heap.size := by
  rcases h.2 with ⟨rfl, _⟩ | ⟨g, cur, rfl, hb, _⟩
  · cases hk
  · have : g = k := by simpa [Value.ownBlock] using hk
    subst this; exact hb.lt
theorem OwnS.turns {F : Nat → Prop} (h : OwnS s e w v n cs) (hT : Turns F w w') (hF : ∀ k, v.ownBlock = some k → ¬ F k) : OwnS s e w' v n cs := by
  refine ⟨h.1, ?_⟩
  rcases h.2 with h | ⟨g, cur, rfl, hb, h⟩
  · exact .inl h
  · exact .inr ⟨g, cur, rfl, hb.turns hT (hF g rfl), h⟩
theorem OwnS.below (h : OwnS s e w v n cs) (hb : Below w.heap.size w w') : OwnS s e w' v n cs := h.turns (F := fun _ => False) (Turns.of_below hb) (fun _ _ h => h)
/-- At a cell: the address, the cell, that it may be written. -/
theorem OwnS.at {A : Option Addr} {c : Nat} (h : OwnS s e w (.slice A n c) n cs) (j : Nat) (hj : j < n * s) : ∃ g u, A = some ⟨g, 0, none⟩ ∧ cs[j]? = some u ∧ w.cell? ⟨g, j, none⟩ = some u ∧ w.frozen? ⟨g, j, none⟩ = false := by
  obtain ⟨hl, h⟩ := h
  rcases h with ⟨_, rfl⟩ | ⟨g, cur, he, hb, h1, h2, _⟩
  · omega
  · cases he
    have hu : cs[j]? = some (cs[j]'(by omega)) := List.getElem?_eq_getElem (by omega)
    refine ⟨g, _, rfl, hu, ?_, hb.frozen j⟩
    rw [hb.cell j, ← hu, ← h2, List.getElem?_take, if_pos hj]
    simp
theorem OwnS.set {g c : Nat} (h : OwnS s e w (.slice (some ⟨g, 0, none⟩) n c) n cs) (j : Nat) (hj : j < n * s) (u : Value) : OwnS s e (w.setCell ⟨g, j, none⟩ u) (.slice (some ⟨g, 0, none⟩) n c) n (cs.set j u) := by
  obtain ⟨hl, h⟩ := h
  refine ⟨by simpa using hl, ?_⟩
  rcases h with ⟨h, _⟩ | ⟨g', cur, he, hb, h1, h2, h3⟩
  · cases h
  · cases he
    refine .inr ⟨g, cur.setIfInBounds j u, rfl, hb.set_ j u, by simpa using h1, ?_, h3⟩
    rw [Array.toList_setIfInBounds, List.take_set, h2]
/-- Read by a reader of its elements. -/
theorem OwnS.rd {α : Type} {r : Rdr α} {f : α → List Value} {l : List α} (h : OwnS s e w v l.length (l.flatMap f)) (hf : ∀ x, (f x).length = s) (hr : ∀ x ∈ l, r w (f x) x) : rRow s r w [v] l := by
  obtain ⟨hl, h⟩ := h
  rcases h with ⟨rfl, h0⟩ | ⟨g, cur, rfl, hb, h1, h2, h3⟩
  · have : l = [] := List.eq_nil_of_length_eq_zero h0
    subst this
    exact ⟨none, 0, rfl, Nat.le_refl _, Nat.zero_le _, fun i x hx => by simp at hx⟩
  · refine ⟨some ⟨g, 0, none⟩, l.length, rfl, Nat.le_refl _, h3, fun i x hx => ⟨_, f x, rfl, hf x, fun j u hu => ?_, hr x (List.mem_of_getElem? hx)⟩⟩
    have hj : j < s := by have := (List.getElem?_eq_some_iff.1 hu).1; rw [hf] at this; exact this
    have hi := (List.getElem?_eq_some_iff.1 hx).1
    have hlt : i * s + j < l.length * s := by
      have := Nat.mul_le_mul_right s (show i + 1 ≤ l.length from hi)
      rw [Nat.succ_mul] at this; omega
    have := flatMap_at f s hf l i j x hx hj
    rw [add0, Nat.zero_add, hb.cell]
    rw [hu, ← h2, List.getElem?_take, if_pos hlt] at this
    simpa using this
/-- An own row, cut to its length. -/
theorem ownS_cut {c : Nat} {A : Option Addr} (h : w.ownsRow 0 e s (.slice A n c) n cs) : OwnS s e w (sliced A 0 n n s) n cs ∧ (sliced A 0 n n s).ownBlock = (Value.slice A n c).ownBlock := by
  obtain ⟨hl, h⟩ := h
  rcases h with ⟨he, h0⟩ | ⟨g, cap, cur, he, _, hb, h1, h2, h3, h4⟩
  · cases he
    refine ⟨⟨hl, .inl ⟨by simp [sliced], rfl⟩⟩, by simp [sliced, Value.ownBlock]⟩
  · cases he
    have e1 : sliced (some ⟨g, 0, none⟩) 0 n n s = .slice (some ⟨g, 0, none⟩) n n := by simp [sliced, add0]
    rw [e1]
    refine ⟨⟨hl, .inr ⟨g, cur, rfl, hb, ?_, h4, by omega⟩⟩, rfl⟩
    rw [h3]; exact Nat.mul_le_mul_right s h1
end
theorem rRow.turns {α : Type} {s : Nat} {r : Rdr α} (hr : ∀ w w' us x, r w us x → r w' us x) {F : Nat → Prop} {w w' : World} {v : Value} {l : List α} (h : rRow s r w [v] l) (hs : 0 < s) (hT : Turns F w w') (hF : l = [] ∨ ∀ k, v.ownBlock = some k → ¬ F k) : rRow s r w' [v] l := by
  obtain ⟨A, c, he, h1, h2, h3⟩ := h
  refine ⟨A, c, he, h1, h2, fun i x hx => ?_⟩
  obtain ⟨a, us, rfl, h5, h6, h7⟩ := h3 i x hx
  refine ⟨a, us, rfl, h5, fun j u hu => ?_, hr _ _ _ _ h7⟩
  have hc := h6 j u hu
  have hb : (a.add (i * s + j)).block = a.block := by unfold Addr.add; split <;> rfl
  have hlt := World.block_lt_of_cell? w _ hc
  refine (World.cell?_of_block (w := w) (a := a.add (i * s + j)) (hT.block _ hlt ?_)).trans hc
  rw [hb]
  rcases hF with rfl | hF
  · simp at hx
  · simp only [List.cons.injEq, and_true] at he
    exact hF _ (by rw [he]; rfl)
theorem pr_slnil {P : Program} {t e : TypeId} {x y : Operand} (h : P.underlying t = some (.slice e)) {A : Option Addr} {n c n' c' : Nat} : PR P (binS .eql t x y (.slice A n c) (.slice none n' c')) (.bool A.isNone) := by
  intro w
  simp only [binS, eqGuard_at_slice, Sem.run_bind, Sem.run_pure, Result.andThen_ok]
  exact Lib.run_eql_slice_nil w t e A n c n' c' h
end Go.Proofs.Ytmnaggdhkggjhaa.E
