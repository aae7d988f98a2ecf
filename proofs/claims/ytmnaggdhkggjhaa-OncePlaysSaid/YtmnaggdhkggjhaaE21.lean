/-
  E21: rows of structs of the call's own, with room behind or without.
-/
import Derived.Test.YtmnaggdhkggjhaaE20
namespace Go.Proofs.Ytmnaggdhkggjhaa.E
open Go Go.RowKit

/-- A row of n elements of s cells, of the call's own. -/
def OwnR (s : Nat) (e : TypeId) (w : World) (v : Value) (n : Nat) (cs : List Value) : Prop :=
  cs.length = n * s ∧ ((v = .slice none 0 0 ∧ n = 0) ∨ ∃ g c cur, v = .slice (some ⟨g, 0, none⟩) n c ∧ Blk w g e cur ∧ n ≤ c ∧ c ≤ maxLen ∧ n * s ≤ cur.size ∧ cur.toList.take (n * s) = cs)
section
variable {s : Nat} {e : TypeId} {w w' : World} {v : Value} {n : Nat} {cs : List Value}
theorem OwnS.r (h : OwnS s e w v n cs) : OwnR s e w v n cs := by
  refine ⟨h.1, ?_⟩
  rcases h.2 with h | ⟨g, cur, rfl, hb, h1, h2, h3⟩
  · exact .inl h
  · exact .inr ⟨g, n, cur, rfl, hb, Nat.le_refl _, h3, h1, h2⟩
theorem OwnR.of_own (h : w.ownsRow 0 e s v n cs) : OwnR s e w v n cs := by
  refine ⟨h.1, ?_⟩
  rcases h.2 with h | ⟨g, c, cur, rfl, _, hb, h1, h2, h3, h4⟩
  · exact .inl h
  · exact .inr ⟨g, c, cur, rfl, hb, h1, h2, by rw [h3]; exact Nat.mul_le_mul_right s h1, h4⟩
theorem OwnR.slice (h : OwnR s e w v n cs) : ∃ A c, v = .slice A n c ∧ n ≤ c ∧ c ≤ maxLen := by
  rcases h.2 with ⟨rfl, rfl⟩ | ⟨g, c, _, rfl, _, h1, h2, _⟩
  · exact ⟨_, _, rfl, Nat.le_refl _, Nat.zero_le _⟩
  · exact ⟨_, _, rfl, h1, h2⟩
theorem OwnR.lt (h : OwnR s e w v n cs) {k : Nat} (hk : v.ownBlock = some k) : k < w.heap.size := by
  rcases h.2 with ⟨rfl, _⟩ | ⟨g, c, cur, rfl, hb, _⟩
  · cases hk
  · have : g = k := by simpa [Value.ownBlock] using hk
    subst this; exact hb.lt
theorem OwnR.turns {F : Nat → Prop} (h : OwnR s e w v n cs) (hT : Turns F w w') (hF : ∀ k, v.ownBlock = some k → ¬ F k) : OwnR s e w' v n cs := by
  refine ⟨h.1, ?_⟩
  rcases h.2 with h | ⟨g, c, cur, rfl, hb, h⟩
  · exact .inl h
  · exact .inr ⟨g, c, cur, rfl, hb.turns hT (hF g rfl), h⟩
theorem OwnR.below (h : OwnR s e w v n cs) (hb : Below w.heap.size w w') : OwnR s e w' v n cs := h.turns (F := fun _ => False) (Turns.of_below hb) (fun _ _ h => h)
/-- At a cell: the address, the cell, that it may be written. -/
theorem OwnR.at {A : Option Addr} {c : Nat} (h : OwnR s e w (.slice A n c) n cs) (j : Nat) (hj : j < n * s) : ∃ g u, A = some ⟨g, 0, none⟩ ∧ cs[j]? = some u ∧ w.cell? ⟨g, j, none⟩ = some u ∧ w.frozen? ⟨g, j, none⟩ = false := by
  obtain ⟨hl, h⟩ := h
  rcases h with ⟨_, rfl⟩ | ⟨g, c, cur, he, hb, _, _, h1, h2⟩
  · omega
  · cases he
    have hu : cs[j]? = some (cs[j]'(by omega)) := List.getElem?_eq_getElem (by omega)
    refine ⟨g, _, rfl, hu, ?_, hb.frozen j⟩
    rw [hb.cell j, ← hu, ← h2, List.getElem?_take, if_pos hj]
    simp
theorem OwnR.set {g c : Nat} (h : OwnR s e w (.slice (some ⟨g, 0, none⟩) n c) n cs) (j : Nat) (u : Value) : OwnR s e (w.setCell ⟨g, j, none⟩ u) (.slice (some ⟨g, 0, none⟩) n c) n (cs.set j u) := by
  obtain ⟨hl, h⟩ := h
  refine ⟨by simpa using hl, ?_⟩
  rcases h with ⟨h, _⟩ | ⟨g', c', cur, he, hb, h0, h3, h1, h2⟩
  · cases h
  · cases he
    refine .inr ⟨g, c, cur.setIfInBounds j u, rfl, hb.set_ j u, h0, h3, by simpa using h1, ?_⟩
    rw [Array.toList_setIfInBounds, List.take_set, h2]
/-- Read by a reader of its elements. -/
theorem OwnR.rd {α : Type} {r : Rdr α} {f : α → List Value} {l : List α} (h : OwnR s e w v l.length (l.flatMap f)) (hf : ∀ x, (f x).length = s) (hr : ∀ x ∈ l, r w (f x) x) : rRow s r w [v] l := by
  obtain ⟨hl, h⟩ := h
  rcases h with ⟨rfl, h0⟩ | ⟨g, c, cur, rfl, hb, h1, h2, h3, h4⟩
  · have : l = [] := List.eq_nil_of_length_eq_zero h0
    subst this
    exact ⟨none, 0, rfl, Nat.le_refl _, Nat.zero_le _, fun i x hx => by simp at hx⟩
  · refine ⟨some ⟨g, 0, none⟩, c, rfl, h1, h2, fun i x hx => ⟨_, f x, rfl, hf x, fun j u hu => ?_, hr x (List.mem_of_getElem? hx)⟩⟩
    have hj : j < s := by have := (List.getElem?_eq_some_iff.1 hu).1; rw [hf] at this; exact this
    have hi := (List.getElem?_eq_some_iff.1 hx).1
    have hlt : i * s + j < l.length * s := by
      have := Nat.mul_le_mul_right s (show i + 1 ≤ l.length from hi)
      rw [Nat.succ_mul] at this; omega
    have := flatMap_at f s hf l i j x hx hj
    rw [add0, Nat.zero_add, hb.cell]
    rw [hu, ← h4, List.getElem?_take, if_pos hlt] at this
    simpa using this
end
/-- One cell of one element turned. -/
theorem flatMap_set {α β : Type} (f : α → List β) (s : Nat) (hf : ∀ x, (f x).length = s) : ∀ (l : List α) (i j : Nat) (x y : α) (u : β), l[i]? = some x → j < s → f y = (f x).set j u → (l.flatMap f).set (i * s + j) u = (l.set i y).flatMap f := by
  intro l
  induction l with
  | nil => intro i j x y u h; simp at h
  | cons z r ih =>
    intro i j x y u h hj he
    rw [List.flatMap_cons]
    cases i with
    | zero =>
      simp at h
      subst h
      rw [Nat.zero_mul, Nat.zero_add, List.set_append_left _ _ (by rw [hf]; exact hj), List.set_cons_zero, List.flatMap_cons, he]
    | succ i =>
      simp at h
      rw [List.set_append_right _ _ (by rw [hf, Nat.succ_mul]; omega), hf, Nat.succ_mul, show i * s + s + j - s = i * s + j from by omega, ih i j x y u h hj he, List.set_cons_succ, List.flatMap_cons]
section
variable {P : Program} {K : Value → World → Prop} {w : World}
/-- append(v, x...), v a row of the call's own that lies behind B, x any row of structs. -/
theorem apR {t ty e : TypeId} {cs : Array Bool} {z : Value} {size bytes : Nat} (B : Nat) (ht : P.underlying t = some (.slice e)) (hinfo : (P.info? e).map (fun i => (i.zero, i.size, i.bytes)) = some (some z, size, bytes)) (hz : z.cells.size = size) (hsz : 0 < size)
    {v : Value} {xs : List Value} {n : Nat} (hown : w.ownsRow 0 e size v n xs) (hf : Fresh B v) (hB : B ≤ w.heap.size) {α : Type} {r : Rdr α} {f : α → List Value} (hfl : ∀ x, (f x).length = size) (hf1 : ∀ x, ∀ u ∈ f x, u.oneCell' = true) (hr : ∀ w us x, r w us x → us = f x)
    {x : Value} {l : List α} (hx : rRow size r w [x] l) (h63 : n + l.length ≤ 9223372036854775807) (hbytes : (n + l.length) * bytes ≤ 140737488355328)
    (k : ∀ v' w', w'.ownsRow 0 e size v' (n + l.length) (xs ++ l.flatMap f) → Fresh B v' → Below B w w' → w.grownBy w' v.ownBlock → K v' w') : NextP P (builtin .append #[t, t] ty cs #[v, x]) K w := by
  obtain ⟨A, c, he, h1, h2, h3⟩ := hx
  simp only [List.cons.injEq, and_true] at he
  subst he
  cases A with
  | none =>
    have h0 : l = [] := by
      cases l with
      | nil => rfl
      | cons p r => obtain ⟨a, us, h, _⟩ := h3 0 p rfl; cases h
    subst h0
    obtain ⟨i, hi, hzz⟩ := Option.map_eq_some_iff.1 hinfo
    refine nextV (v := v) (w' := w) ?_ (k v w (by simpa using hown) hf (Below.refl B w) (World.grownBy.refl w _))
    have hrun : (Builtin.append_ #[t, t] ty #[v, .slice none 0 c]).run P w = .ok v w := by
      rcases hown.2 with ⟨rfl, _⟩ | ⟨g, cap, cur, rfl, _, _, hnc, _⟩
      · simp [Builtin.append_, run_underlying ht, sizeOf, typeInfo, hi, Builtin.lenOf, Builtin.firstCells]
      · simp [Builtin.append_, run_underlying ht, sizeOf, typeInfo, hi, Builtin.lenOf, Builtin.firstCells, hnc, storeCells]
    simp only [builtin, List.length_nil] at hrun ⊢
    simp [hrun]
  | some a =>
    refine apG B ht hinfo hz hsz hown hf hB (news := l.flatMap f) (flatMap_len f size hfl l) (fun j u hu => ?_) (fun u hu => ?_) h63 hbytes k
    · have hj := (List.getElem?_eq_some_iff.1 hu).1
      rw [flatMap_len f size hfl] at hj
      have hi : j / size < l.length := Nat.div_lt_of_lt_mul (by rw [Nat.mul_comm]; exact hj)
      have hm : j % size < size := Nat.mod_lt _ hsz
      obtain ⟨a', us, ha, hus, hcell, hrd⟩ := h3 (j / size) l[j / size] (List.getElem?_eq_getElem hi)
      cases ha
      have hdm : j / size * size + j % size = j := Nat.div_add_mod' j size
      have := flatMap_at f size hfl l (j / size) (j % size) l[j / size] (List.getElem?_eq_getElem hi) hm
      rw [hdm, hu] at this
      have hx := hr _ _ _ hrd
      subst hx
      have := hcell (j % size) u this.symm
      rwa [hdm] at this
    · obtain ⟨x, _, hx⟩ := List.mem_flatMap.1 hu
      exact hf1 x u hx
end
end Go.Proofs.Ytmnaggdhkggjhaa.E
