/-
  E10: rows that the call made: appended to, written at a place.
-/
import Derived.Test.YtmnaggdhkggjhaaE9
namespace Go.Proofs.Ytmnaggdhkggjhaa.E
open Go Go.RowKit

/-- v's row, if it has one, lies behind B. -/
def Fresh (B : Nat) (v : Value) : Prop := ∀ k, v.ownBlock = some k → B ≤ k
theorem Fresh.new {B : Nat} {w : World} (h : B ≤ w.heap.size) (n c : Nat) : Fresh B (.slice (some ⟨w.heap.size, 0, none⟩) n c) := fun k hk => by cases hk; exact h
theorem Fresh.nil (B : Nat) : Fresh B (.slice none 0 0) := fun k hk => by cases hk

section
variable {e : TypeId} {w w' : World} {v : Value} {xs : List Value}
theorem Own.slice (h : Own e w v xs) : ∃ A c, v = .slice A xs.length c := by
  obtain ⟨A, c, rfl, _⟩ := h.rd; exact ⟨A, c, rfl⟩
/-- At a place: the address, the cell, that it may be written. -/
theorem Own.at {A : Option Addr} {n c : Nat} (h : Own e w (.slice A n c) xs) (i : Nat) (hi : i < xs.length) : ∃ g, A = some ⟨g, 0, none⟩ ∧ w.cell? ((⟨g, 0, none⟩ : Addr).add i) = some xs[i] ∧ w.frozen? ((⟨g, 0, none⟩ : Addr).add i) = false := by
  obtain ⟨g, cap, cur, he, hb, _⟩ := h.form (by omega)
  cases he
  obtain ⟨a, ha, hc⟩ := Rd.at h.rd i hi
  cases ha
  exact ⟨g, rfl, hc, by rw [add0, Nat.zero_add]; exact hb.frozen i⟩
theorem Own.set {g n c : Nat} (h : Own e w (.slice (some ⟨g, 0, none⟩) n c) xs) (i : Nat) (hi : i < xs.length) (u : Value) : Own e (w.setCell ((⟨g, 0, none⟩ : Addr).add i) u) (.slice (some ⟨g, 0, none⟩) n c) (xs.set i u) := by
  obtain ⟨g', cap, cur, he, hb, h1, h2, h3, h4⟩ := h.form (by omega)
  cases he
  rw [add0, Nat.zero_add]
  refine Own.of_blk (hb.set_ i u) (by simp) (by simpa using h1) h4 (by simpa using h2) ?_
  rw [Array.toList_setIfInBounds, List.length_set, List.take_set, h3]
theorem Own.far (h : Own e w v xs) {p : Addr} (hp : v.ownBlock ≠ some p.block) (u : Value) : Own e (w.setCell p u) v xs := by
  refine ⟨h.1, ?_⟩
  rcases h.2 with h | ⟨g, cap, cur, rfl, h1, h2, h3⟩
  · exact .inl h
  · refine .inr ⟨g, cap, cur, rfl, h1, ?_, h3⟩
    rw [Below.heap_setCell _ _ _ _ (fun he => hp (by rw [← he]; rfl))]
    exact h2
end
section
variable {P : Program} {K : Value → World → Prop} {w : World}
/-- append(v, x...): v a row behind B, x read. What lies before B stays; so does a row of another block. -/
theorem apF {t ty e : TypeId} {cs : Array Bool} {z : Value} {bytes : Nat} (B : Nat) (ht : P.underlying t = some (.slice e)) (hinfo : (P.info? e).map (fun i => (i.zero, i.size, i.bytes)) = some (some z, 1, bytes)) (hz : z.cells.size = 1) (hb0 : 0 < bytes)
    {v x : Value} {xs ys : List Value} (hown : Own e w v xs) (hf : Fresh B v) (hB : B ≤ w.heap.size) (hx : Rd w x ys) (h1 : ∀ u ∈ ys, u.oneCell' = true) (hl : (xs.length + ys.length) * bytes ≤ 140737488355328)
    (k : ∀ v' w', Own e w' v' (xs ++ ys) → Fresh B v' → Below B w w' → (∀ e' u zs, Own e' w u zs → (u.ownBlock = none ∨ u.ownBlock ≠ v.ownBlock) → Own e' w' u zs ∧ (u.ownBlock = none ∨ u.ownBlock ≠ v'.ownBlock)) → K v' w') : NextP P (builtin .append #[t, t] ty cs #[v, x]) K w :=
  ap ht hinfo hz hb0 hown hx h1 hl fun v' w' ho hg hbl => k v' w' ho
    (fun j hj => by rcases hbl with h | h <;> rw [h] at hj; exact hf j hj; cases hj; exact hB)
    ((Below.refl B w).grown hg hB (fun j hj => hf j hj))
    (fun e' u zs hu hne => ⟨hu.kept hg hne, by
      rcases hne with h | h
      · exact .inl h
      · cases hub : u.ownBlock with
        | none => exact .inl rfl
        | some j =>
          refine .inr fun hh => ?_
          rcases hbl with h2 | h2
          · exact h (hub.trans (hh.trans h2))
          · rw [h2] at hh
            have := hu.lt hub
            cases hh
            omega⟩)
end
/-! ### in a region that draws -/
section
variable {P : Program} {K : Value → World → Prop} {S : World → Prop} {w : World}
theorem ycvBS {s d e : TypeId} (hs : P.underlying s = some (.slice e)) (he : P.underlying e = some (.int .u8)) (hd : P.underlying d = some .string) {v : Value} {bs : List UInt8} (hv : ∀ w', S w' → RdB w' v bs)
    (k : K (.string ⟨bs.toArray⟩) w) : YieldP P S (convert s d v) K w := yld (fun w' hw => run_cvBS hs he hd (hv w' hw)) k
theorem yct {t e : TypeId} (ht : P.underlying t = some (.slice e)) (hs : (P.info? e).map (·.size) = some 1) {A : Option Addr} {n c l k : Nat} {lo hi : Option Value} {cs : List Value} (hn : n = cs.length) (hc : n ≤ c) (hr : ∀ w', S w' → Rd w' (.slice A n c) cs)
    (hlo : Bd 0 lo l) (hhi : Bd n hi k) (h1 : l ≤ k) (h2 : k ≤ cs.length)
    (kk : ∀ v', (∀ w', S w' → Rd w' v' ((cs.take k).drop l)) → K v' w) : YieldP P S (Instr.sliceAt t (.slice A n c) lo hi none) K w :=
  yofPR (pr_cut ht hs hlo hhi .no h1 (fun hh => by cases hhi <;> first | omega | cases hh) (by omega) (Nat.le_refl _) (.inl rfl)) (kk _ fun w' hw => sliced_rd (hr w' hw) h1 h2 (by omega) (Nat.le_refl _))
theorem yctB {t e : TypeId} (ht : P.underlying t = some (.slice e)) (hs : (P.info? e).map (·.size) = some 1) {A : Option Addr} {n c l k : Nat} {lo hi : Option Value} {bs : List UInt8} (hn : n = bs.length) (hc : n ≤ c) (hr : ∀ w', S w' → RdB w' (.slice A n c) bs)
    (hlo : Bd 0 lo l) (hhi : Bd n hi k) (h1 : l ≤ k) (h2 : k ≤ bs.length)
    (kk : ∀ v', (∀ w', S w' → RdB w' v' ((bs.take k).drop l)) → K v' w) : YieldP P S (Instr.sliceAt t (.slice A n c) lo hi none) K w :=
  yct ht hs (by simpa using hn) hc hr hlo hhi h1 (by simpa using h2) (fun v' h' => kk v' (fun w' hw => by unfold RdB; rw [List.map_drop, List.map_take]; exact h' w' hw))
end
end Go.Proofs.Ytmnaggdhkggjhaa.E
