/-
  E17: footprints: what a call turns lies in blocks of F, or is new.
-/
import Derived.Test.YtmnaggdhkggjhaaE11
import Derived.Test.YtmnaggdhkggjhaaE15
namespace Go.Proofs.Ytmnaggdhkggjhaa.E
open Go Go.RowKit

/-- Nothing that was there has turned, but blocks of F. -/
structure Turns (F : Nat → Prop) (w w' : World) : Prop where
  os : w'.os = w.os
  tape : w'.tape = w.tape
  output : w'.output = w.output
  size : w.heap.size ≤ w'.heap.size
  block : ∀ k, k < w.heap.size → ¬ F k → w'.heap[k]? = w.heap[k]?
/-- F, and all that is new since there were n blocks. -/
def Ext (F : Nat → Prop) (n : Nat) : Nat → Prop := fun k => F k ∨ n ≤ k
section
variable {F : Nat → Prop} {w w' w'' : World}
theorem Turns.refl (F : Nat → Prop) (w : World) : Turns F w w := ⟨rfl, rfl, rfl, Nat.le_refl _, fun _ _ _ => rfl⟩
theorem Turns.trans (h : Turns F w w') (k : Turns (Ext F w.heap.size) w' w'') : Turns F w w'' :=
  ⟨k.os.trans h.os, k.tape.trans h.tape, k.output.trans h.output, Nat.le_trans h.size k.size, fun i hi hF => (k.block i (Nat.lt_of_lt_of_le hi h.size) (fun e => e.elim hF (fun e => absurd e (Nat.not_le.2 hi)))).trans (h.block i hi hF)⟩
theorem Turns.mono {G : Nat → Prop} (h : Turns F w w') (hG : ∀ k, k < w.heap.size → F k → G k) : Turns G w w' := ⟨h.os, h.tape, h.output, h.size, fun k hk hF => h.block k hk (fun e => hF (hG k hk e))⟩
theorem Turns.of_below (h : Below w.heap.size w w') : Turns F w w' := ⟨h.os, h.tape, h.output, h.size, fun k hk _ => h.block k hk⟩
theorem Turns.below {B : Nat} (h : Turns F w w') (hB : B ≤ w.heap.size) (hF : ∀ k, k < B → ¬ F k) : Below B w w' := ⟨h.os, h.tape, h.output, h.size, fun k hk => h.block k (Nat.lt_of_lt_of_le hk hB) (hF k hk)⟩
theorem Turns.then_below (h : Turns F w w') (k : Below w'.heap.size w' w'') : Turns F w w'' := h.trans (Turns.of_below k)
theorem Turns.drew (h : Turns F w w') : Turns F w w'.drew := ⟨h.os, h.tape, h.output, h.size, h.block⟩
theorem Turns.alloc (h : Turns F w w') (o : Obj) : Turns F w (w'.alloc o) := h.then_below ((Below.refl _ _).alloc (Nat.le_refl _) o)
theorem Turns.setCell (h : Turns F w w') {p : Addr} (hp : Ext F w.heap.size p.block) (u : Value) : Turns F w (w'.setCell p u) :=
  h.trans ⟨rfl, rfl, rfl, by simp [World.setCell], fun k _ hk => Below.heap_setCell _ _ _ _ (fun e => hk (by rw [e]; exact hp))⟩
theorem Turns.setRow (h : Turns F w w') {g : Nat} (hp : Ext F w.heap.size g) (ds : Array Value) : Turns F w (w'.setRow g ds) :=
  h.trans ⟨rfl, rfl, rfl, by simp [World.setRow], fun k _ hk => setRow_other _ _ _ _ (fun e => hk (by rw [e]; exact hp))⟩
theorem Turns.grown (h : Turns F w w') {row : Option Nat} (hg : w'.grownBy w'' row) (hr : ∀ k, row = some k → Ext F w.heap.size k) : Turns F w w'' :=
  h.trans ⟨hg.os, hg.tape, hg.output, hg.size, fun k hk hF => hg.block k hk (fun e => hF (hr k e.symm))⟩
theorem Blk.turns {g : Nat} {t : TypeId} {cs : Array Value} (h : Blk w g t cs) (hT : Turns F w w') (hF : ¬ F g) : Blk w' g t cs := (hT.block g h.lt hF).trans h
theorem Own.turns {e : TypeId} {v : Value} {xs : List Value} (h : Own e w v xs) (hT : Turns F w w') (hF : ∀ k, v.ownBlock = some k → ¬ F k) : Own e w' v xs := by
  refine ⟨h.1, ?_⟩
  rcases h.2 with h | ⟨g, cap, cur, rfl, h1, h2, h3⟩
  · exact .inl h
  · refine .inr ⟨g, cap, cur, rfl, h1, ?_, h3⟩
    rw [hT.block g (Array.getElem?_eq_some_iff.1 h2).1 (hF g rfl)]
    exact h2
theorem Own.ownLt {e : TypeId} {v : Value} {xs : List Value} (h : Own e w v xs) {k : Nat} (hk : v.ownBlock = some k) : k < w.heap.size := by
  rcases h.2 with h | ⟨g, cap, cur, rfl, h1, h2, h3⟩
  · rw [h.1] at hk; cases hk
  · have : g = k := by simpa [Value.ownBlock] using hk
    subst this
    exact (Array.getElem?_eq_some_iff.1 h2).1
end
/-- What an append leaves, by footprints. -/
theorem apT {P : Program} {K : Value → World → Prop} {w : World} {t ty e : TypeId} {cs : Array Bool} {z : Value} {bytes : Nat} (ht : P.underlying t = some (.slice e)) (hinfo : (P.info? e).map (fun i => (i.zero, i.size, i.bytes)) = some (some z, 1, bytes)) (hz : z.cells.size = 1) (hb0 : 0 < bytes)
    {v x : Value} {xs ys : List Value} (hown : Own e w v xs) (hx : Rd w x ys) (h1 : ∀ u ∈ ys, u.oneCell' = true) (hl : (xs.length + ys.length) * bytes ≤ 140737488355328)
    (k : ∀ v' w', Own e w' v' (xs ++ ys) → (v'.ownBlock = v.ownBlock ∨ v'.ownBlock = some w.heap.size) → Turns (fun j => v.ownBlock = some j) w w' → K v' w') : NextP P (builtin .append #[t, t] ty cs #[v, x]) K w :=
  ap ht hinfo hz hb0 hown hx h1 hl fun v' w' ho hg hbl => k v' w' ho hbl ⟨hg.os, hg.tape, hg.output, hg.size, fun j hj hF => hg.block j hj (fun e => hF e.symm)⟩
end Go.Proofs.Ytmnaggdhkggjhaa.E
