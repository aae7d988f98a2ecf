/-
  E9: cuts of slices, literals of slices, rows of numbers.
-/
import Derived.Test.YtmnaggdhkggjhaaE8
namespace Go.Proofs.Ytmnaggdhkggjhaa.E
open Go Go.RowKit

/-! ### 1. readings, opened at one place -/
theorem Rd.slice {w : World} {v : Value} {cs : List Value} (h : Rd w v cs) : ∃ A c, v = .slice A cs.length c ∧ cs.length ≤ c ∧ c ≤ 9223372036854775807 := by
  obtain ⟨A, c, rfl, h1, h2, _⟩ := h; exact ⟨A, c, rfl, h1, h2⟩
theorem Rd.at {w : World} {A : Option Addr} {n c : Nat} {cs : List Value} (h : Rd w (.slice A n c) cs) (i : Nat) (hi : i < cs.length) : ∃ a, A = some a ∧ w.cell? (a.add i) = some cs[i] := by
  obtain ⟨A', c', he, h1, h2, h3⟩ := h
  cases he
  exact h3 i _ (List.getElem?_eq_getElem hi)
theorem RdB.at {w : World} {A : Option Addr} {n c : Nat} {bs : List UInt8} (h : RdB w (.slice A n c) bs) (i : Nat) (hi : i < bs.length) : ∃ a, A = some a ∧ w.cell? (a.add i) = some (.int .u8 (bs[i].toNat : Int)) := by
  obtain ⟨a, h1, h2⟩ := Rd.at h i (by simpa using hi)
  refine ⟨a, h1, ?_⟩
  rw [h2, List.getElem_map]; rfl
theorem Rd.atI {w : World} {A : Option Addr} {n c : Nat} {kd : IntKind} {ys : List Int} (h : Rd w (.slice A n c) (ys.map (Value.int kd))) (i : Nat) (hi : i < ys.length) : ∃ a, A = some a ∧ w.cell? (a.add i) = some (.int kd ys[i]) := by
  obtain ⟨a, h1, h2⟩ := Rd.at h i (by simpa using hi)
  refine ⟨a, h1, ?_⟩
  rw [h2, List.getElem_map]

/-! ### 2. cuts -/
inductive Bd (d : Nat) : Option Value → Nat → Prop where
  | no : Bd d none d
  | at (k : IntKind) (n : Nat) : Bd d (some (.int k n)) n
theorem sliced_rd {w : World} {A : Option Addr} {n c : Nat} {cs : List Value} (h : Rd w (.slice A n c) cs) {l k m : Nat} (h1 : l ≤ k) (h2 : k ≤ cs.length) (h3 : k ≤ m) (h4 : m ≤ c) :
    Rd w (sliced A l k m 1) ((cs.take k).drop l) := by
  obtain ⟨A', c', he, g1, g2, g3⟩ := h
  cases he
  have hlen : ((cs.take k).drop l).length = k - l := by simp [List.length_drop, List.length_take]; omega
  refine ⟨_, _, by rw [hlen]; rfl, by rw [hlen]; omega, by omega, fun i u hu => ?_⟩
  have hi : i < k - l := by rw [← hlen]; exact (List.getElem?_eq_some_iff.1 hu).1
  rw [List.getElem?_drop, List.getElem?_take, if_pos (by omega)] at hu
  obtain ⟨a, rfl, hc⟩ := g3 _ u hu
  refine ⟨a.add l, by rw [if_neg (by omega)]; simp, ?_⟩
  rw [← hc]
  congr 1
  unfold Addr.add
  by_cases hl : l = 0 <;> by_cases hi0 : i = 0 <;> simp [hl, hi0, Nat.add_assoc]
section
variable {P : Program} {K : Value → World → Prop} {S : World → Prop} {w : World}
theorem pr_cut {t e : TypeId} (ht : P.underlying t = some (.slice e)) {s : Nat} (hs : (P.info? e).map (·.size) = some s) {A : Option Addr} {n c l k m : Nat} {lo hi mx : Option Value}
    (hlo : Bd 0 lo l) (hhi : Bd n hi k) (hmx : Bd c mx m) (h1 : l ≤ k) (h2 : hi = none → l ≤ n) (h3 : k ≤ m) (h4 : m ≤ c) (hx : mx = none ∨ hi ≠ none) :
    PR P (Instr.sliceAt t (.slice A n c) lo hi mx) (sliced A l k m s) := by
  obtain ⟨j, hj, hs⟩ := Option.map_eq_some_iff.1 hs
  have he : P.elem t = e := by simp [Program.elem, ht]
  have ht' : P.underlying t = some (.slice (P.elem t)) := by rw [he]; exact ht
  intro w
  rw [run_sliceAt_slice w t _ _ _ _ ht']
  have hsz : ((sizeOf (P.elem t)).run P w) = .ok s w := by simp [he, sizeOf, typeInfo, hj, hs]
  cases hlo <;> cases hhi <;> cases hmx
  · rw [run_slice_all w t A n c ht', hsz]; rfl
  · exact absurd rfl (hx.resolve_left (by simp))
  · rw [run_slice_h w t A n c ht' _ _ (by omega) (by omega), hsz]; rfl
  · rw [run_slice_hm w t A n c ht' _ _ _ _ (by omega) (by omega) (by omega), hsz]; rfl
  · rw [run_slice_l w t A n c ht' _ _ (by omega) (by omega), hsz]; rfl
  · exact absurd rfl (hx.resolve_left (by simp))
  · rw [run_slice_lh w t A n c ht' _ _ _ _ (by omega) (by omega) (by omega), hsz]; rfl
  · rw [run_slice_lhm w t A n c ht' _ _ _ _ _ _ (by omega) (by omega) (by omega) (by omega), hsz]; rfl

/-- x[lo:hi] of one-cell elements. -/
theorem ct {t e : TypeId} (ht : P.underlying t = some (.slice e)) (hs : (P.info? e).map (·.size) = some 1) {A : Option Addr} {n c l k : Nat} {lo hi : Option Value} {cs : List Value} (hr : Rd w (.slice A n c) cs)
    (hlo : Bd 0 lo l) (hhi : Bd n hi k) (h1 : l ≤ k) (h2 : k ≤ cs.length)
    (kk : ∀ v', Rd w v' ((cs.take k).drop l) → K v' w) : LiftP P (Instr.sliceAt t (.slice A n c) lo hi none) K w := by
  have hr' := hr
  obtain ⟨A', c', he, g1, g2, g3⟩ := hr
  cases he
  exact ofPR (pr_cut ht hs hlo hhi .no h1 (fun hh => by cases hhi <;> first | omega | cases hh) (by omega) (Nat.le_refl _) (.inl rfl)) (kk _ (sliced_rd hr' h1 h2 (by omega) (Nat.le_refl _)))
theorem ctB {t e : TypeId} (ht : P.underlying t = some (.slice e)) (hs : (P.info? e).map (·.size) = some 1) {A : Option Addr} {n c l k : Nat} {lo hi : Option Value} {bs : List UInt8} (hr : RdB w (.slice A n c) bs)
    (hlo : Bd 0 lo l) (hhi : Bd n hi k) (h1 : l ≤ k) (h2 : k ≤ bs.length)
    (kk : ∀ v', RdB w v' ((bs.take k).drop l) → K v' w) : LiftP P (Instr.sliceAt t (.slice A n c) lo hi none) K w :=
  ct ht hs hr hlo hhi h1 (by simpa using h2) (fun v' h' => kk v' (by unfold RdB; rw [List.map_drop, List.map_take]; exact h'))

/-! ### 3. literals -/
theorem bs0 {t e : TypeId} (ht : P.underlying t = some (.slice e)) {s : Nat} (hs : (P.info? e).map (·.size) = some s) (k : K (.slice (some ⟨w.heap.size, 0, none⟩) 0 0) (w.alloc (.cells #[] e))) : LiftP P (Instr.buildSlice t 0 #[]) K w := by
  obtain ⟨j, hj, hs⟩ := Option.map_eq_some_iff.1 hs
  refine lift ?_ k
  have h0 : ∀ f : Nat → Value, Array.map f (Array.range 0) = #[] := fun f => by apply Array.ext_getElem?; intro i; simp
  simp [Instr.buildSlice, run_underlying ht, sizeOf, typeInfo, hj, hs, newRow, Instr.fill, h0]
end
theorem Own.lit0 (w : World) (e : TypeId) : Own e (w.alloc (.cells #[] e)) (.slice (some ⟨w.heap.size, 0, none⟩) 0 0) [] := Own.new w e [] (by simp)

/-! ### 4. bytes as cells -/
theorem u8_one : ∀ (bs : List UInt8), ∀ u ∈ bs.map u8, u.oneCell' = true := by
  intro bs u hu
  obtain ⟨b, _, rfl⟩ := List.mem_map.1 hu
  rfl
theorem Own.rdB {e : TypeId} {w : World} {v : Value} {bs : List UInt8} (h : Own e w v (bs.map u8)) : RdB w v bs := h.rd
end Go.Proofs.Ytmnaggdhkggjhaa.E
