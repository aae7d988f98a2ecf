/-
  E18: rows cut to their length; colours of blocks.
-/
import Derived.Test.YtmnaggdhkggjhaaE17
import Derived.ArgAppend
namespace Go.Proofs.Ytmnaggdhkggjhaa.E
open Go Go.RowKit

/-- A row of the call's own, or such a row cut to its length (its capacity told as its length). -/
def OwnC (e : TypeId) (w : World) (v : Value) (xs : List Value) : Prop :=
  Own e w v xs ∨ ∃ g cur, v = .slice (some ⟨g, 0, none⟩) xs.length xs.length ∧ Blk w g e cur ∧ xs.length ≤ 9223372036854775807 ∧ xs.length ≤ cur.size ∧ cur.toList.take xs.length = xs
section
variable {e : TypeId} {w w' : World} {v : Value} {xs : List Value}
theorem Own.c (h : Own e w v xs) : OwnC e w v xs := .inl h
theorem OwnC.rd (h : OwnC e w v xs) : Rd w v xs := by
  rcases h with h | ⟨g, cur, rfl, hb, h1, h2, h3⟩
  · exact h.rd
  · refine ⟨some ⟨g, 0, none⟩, xs.length, rfl, Nat.le_refl _, h1, fun i u hu => ⟨_, rfl, ?_⟩⟩
    have hi := (List.getElem?_eq_some_iff.1 hu).1
    rw [add0, Nat.zero_add]
    have := hb.cell i
    rw [this]
    rw [← h3, List.getElem?_take, if_pos hi] at hu
    simpa using hu
theorem OwnC.slice (h : OwnC e w v xs) : ∃ A c, v = .slice A xs.length c := by
  obtain ⟨A, c, rfl, _⟩ := h.rd; exact ⟨A, c, rfl⟩
theorem OwnC.lt (h : OwnC e w v xs) {k : Nat} (hk : v.ownBlock = some k) : k < w.heap.size := by
  rcases h with h | ⟨g, cur, rfl, hb, _⟩
  · exact h.ownLt hk
  · have : g = k := by simpa [Value.ownBlock] using hk
    subst this; exact hb.lt
theorem OwnC.turns {F : Nat → Prop} (h : OwnC e w v xs) (hT : Turns F w w') (hF : ∀ k, v.ownBlock = some k → ¬ F k) : OwnC e w' v xs := by
  rcases h with h | ⟨g, cur, rfl, hb, h1⟩
  · exact .inl (h.turns hT hF)
  · exact .inr ⟨g, cur, rfl, hb.turns hT (hF g rfl), h1⟩
theorem OwnC.below (h : OwnC e w v xs) (hb : Below w.heap.size w w') : OwnC e w' v xs := h.turns (F := fun _ => False) (Turns.of_below hb) (fun _ _ h => h)
theorem OwnC.at {A : Option Addr} {n c : Nat} (h : OwnC e w (.slice A n c) xs) (i : Nat) (hi : i < xs.length) : ∃ g, A = some ⟨g, 0, none⟩ ∧ w.cell? ⟨g, i, none⟩ = some xs[i] ∧ w.frozen? ⟨g, i, none⟩ = false := by
  obtain ⟨a, ha, hc⟩ := Rd.at h.rd i hi
  rcases h with h | ⟨g, cur, he, hb, h1⟩
  · obtain ⟨g, rfl, h2, h3⟩ := h.at i hi
    rw [add0, Nat.zero_add] at h2 h3
    exact ⟨g, rfl, h2, h3⟩
  · cases he
    cases ha
    rw [add0, Nat.zero_add] at hc
    exact ⟨g, rfl, hc, hb.frozen i⟩
theorem OwnC.set {g n c : Nat} (h : OwnC e w (.slice (some ⟨g, 0, none⟩) n c) xs) (i : Nat) (hi : i < xs.length) (u : Value) : OwnC e (w.setCell ⟨g, i, none⟩ u) (.slice (some ⟨g, 0, none⟩) n c) (xs.set i u) := by
  rcases h with h | ⟨g', cur, he, hb, h1, h2, h3⟩
  · have := h.set i hi u
    rw [add0, Nat.zero_add] at this
    exact .inl this
  · cases he
    refine .inr ⟨g, cur.setIfInBounds i u, by simp, hb.set_ i u, by simpa using h1, by simpa using h2, ?_⟩
    rw [Array.toList_setIfInBounds, List.length_set, List.take_set, h3]
theorem OwnC.far (h : OwnC e w v xs) {p : Addr} (hp : v.ownBlock ≠ some p.block) (u : Value) : OwnC e (w.setCell p u) v xs :=
  h.turns (F := fun k => k = p.block) (Turns.setCell (F := fun k => k = p.block) (Turns.refl _ w) (.inl rfl) u) (fun k hk he => hp (by rw [hk, he]))
/-- Cut to its first k cells, capacity and all. -/
theorem OwnC.cut {A : Option Addr} {n c : Nat} (h : OwnC e w (.slice A n c) xs) (k : Nat) (hk : k ≤ xs.length) : OwnC e w (sliced A 0 k k 1) (xs.take k) ∧ (∀ b, (sliced A 0 k k 1).ownBlock = some b → (Value.slice A n c).ownBlock = some b) := by
  have hlen : (xs.take k).length = k := by rw [List.length_take]; omega
  rcases h with h | ⟨g, cur, he, hb, h1, h2, h3⟩
  · rcases h.2 with ⟨he, h0⟩ | ⟨g, cap, cur, he, _, hh, hn, hm, hs, ht⟩
    · cases he
      have : k = 0 := by omega
      subst this
      exact ⟨.inl (by simpa [sliced] using Own.nil e w), fun b hb => by simp [sliced, Value.ownBlock] at hb⟩
    · cases he
      have e1 : sliced (some ⟨g, 0, none⟩) 0 k k 1 = .slice (some ⟨g, 0, none⟩) k k := by simp [sliced, add0]
      rw [e1]
      simp only [maxLen] at hm
      refine ⟨.inr ⟨g, cur, by rw [hlen], hh, by omega, by omega, ?_⟩, fun b hb => hb⟩
      rw [hlen]
      rw [Nat.mul_one] at ht
      rw [← ht, List.take_take, show min k xs.length = k from by omega]
  · cases he
    have e1 : sliced (some ⟨g, 0, none⟩) 0 k k 1 = .slice (some ⟨g, 0, none⟩) k k := by simp [sliced, add0]
    rw [e1]
    refine ⟨.inr ⟨g, cur, by rw [hlen], hb, by omega, by omega, ?_⟩, fun b hb => hb⟩
    rw [hlen, ← h3, List.take_take, show min k xs.length = k from by omega]
end
/-- append to such a row. -/
theorem apO {P : Program} {K : Value → World → Prop} {w : World} {t ty e : TypeId} {cs : Array Bool} {z : Value} {bytes : Nat} (ht : P.underlying t = some (.slice e)) (hinfo : (P.info? e).map (fun i => (i.zero, i.size, i.bytes)) = some (some z, 1, bytes)) (hz : z.cells.size = 1) (hb0 : 0 < bytes)
    {v x : Value} {xs ys : List Value} (hown : OwnC e w v xs) (hx : Rd w x ys) (h1 : ∀ u ∈ ys, u.oneCell' = true) (hl : (xs.length + ys.length) * bytes ≤ 140737488355328)
    (k : ∀ v' w', OwnC e w' v' (xs ++ ys) → (v'.ownBlock = v.ownBlock ∨ ∃ g, v'.ownBlock = some g ∧ w.heap.size ≤ g) → Turns (fun j => v.ownBlock = some j) w w' → K v' w') : NextP P (builtin .append #[t, t] ty cs #[v, x]) K w := by
  rcases hown with h | ⟨g, cur, rfl, hb, h2, h3, h4⟩
  · refine apT ht hinfo hz hb0 h hx h1 hl ?_
    intro v' w' ho hbl hT
    exact k v' w' (.inl ho) (hbl.elim .inl fun h => .inr ⟨_, h, Nat.le_refl _⟩) hT
  · have hrd : Rd w (.slice (some ⟨g, 0, none⟩) xs.length xs.length) xs := OwnC.rd (e := e) (.inr ⟨g, cur, rfl, hb, h2, h3, h4⟩)
    obtain ⟨i, hi, hzz⟩ := Option.map_eq_some_iff.1 hinfo
    simp only [Prod.mk.injEq] at hzz
    obtain ⟨hz0, hz1, hz2⟩ := hzz
    obtain ⟨A, c, rfl, hc1, hc2, hcell⟩ := hx
    have hlen : xs.length + ys.length ≤ 140737488355328 := Nat.le_trans (Nat.le_mul_of_pos_right _ hb0) hl
    cases ys with
    | nil =>
      refine nextV (v := .slice (some ⟨g, 0, none⟩) xs.length xs.length) (w' := w) ?_ (k _ w (by rw [List.append_nil]; exact .inr ⟨g, cur, rfl, hb, h2, h3, h4⟩) (.inl rfl) (Turns.refl _ w))
      cases A <;> simp [builtin, Builtin.append_, run_underlying ht, sizeOf, typeInfo, hi, Builtin.lenOf, Builtin.firstCells, storeCells, loadCells, loadCellsFrom]
    | cons y r =>
      obtain ⟨a, rfl, _⟩ := hcell 0 y (by simp)
      obtain ⟨v', w', hr, ho, hg⟩ := run_append_arg_grows (P := P) w t ty e i z 1 bytes ht hi hz0 hz1 hz2 hz (by omega) ⟨g, 0, none⟩ xs.length xs.length xs (by simp)
        (fun j u hu => by
          obtain ⟨A', c', he, _, _, hcc⟩ := hrd
          cases he
          obtain ⟨a', ha', hc⟩ := hcc j u hu
          cases ha'
          exact hc) a (y :: r).length c (y :: r) (by simp) (fun j u hu => by
          obtain ⟨a', ha', hc⟩ := hcell j u hu
          cases ha'
          exact hc) (by simp) (by simp only [maxLen]; omega) (by simpa using hl)
      have hform : ∃ q cap, v' = .slice (some ⟨q, 0, none⟩) (xs.length + (y :: r).length) cap ∧ w.heap.size ≤ q := by
        rcases ho.2 with ⟨_, h0⟩ | ⟨q, cap, cur', he, hq, _⟩
        · simp at h0
        · exact ⟨q, cap, he, hq⟩
      have hown : Own e w' v' (xs ++ y :: r) := by
        refine ⟨by simp, ?_⟩
        rcases ho.2 with ⟨_, h0⟩ | ⟨q, cap, cur', he, _, hq⟩
        · simp at h0
        · exact .inr ⟨q, cap, cur', by rw [he, List.length_append], Nat.zero_le _, by simpa using hq⟩
      obtain ⟨q, cap, rfl, hq⟩ := hform
      refine nextV (v := _) (w' := w') ?_ (k _ w' (.inl hown) (.inr ⟨q, rfl, hq⟩) ⟨hg.os, hg.tape, hg.output, hg.size, fun j hj _ => hg.block j hj (by simp)⟩)
      simp only [builtin]; simp only [List.length_cons] at hr ⊢; simp [hr]
theorem Rd.turns {F : Nat → Prop} {w w' : World} {v : Value} {cs : List Value} (h : Rd w v cs) (hT : Turns F w w') (hF : cs = [] ∨ ∀ b, v.ownBlock = some b → ¬ F b) : Rd w' v cs := by
  obtain ⟨A, c, rfl, h1, h2, h3⟩ := h
  refine ⟨A, c, rfl, h1, h2, fun i u hu => ?_⟩
  obtain ⟨a, rfl, hc⟩ := h3 i u hu
  have e : (a.add i).block = a.block := by unfold Addr.add; split <;> rfl
  have hlt := World.block_lt_of_cell? w _ hc
  refine ⟨a, rfl, (World.cell?_of_block (w := w) (a := a.add i) ?_).trans hc⟩
  refine hT.block _ hlt ?_
  rw [e]
  rcases hF with rfl | hF
  · simp at hu
  · exact hF _ rfl
theorem RdB.turns {F : Nat → Prop} {w w' : World} {v : Value} {bs : List UInt8} (h : RdB w v bs) (hT : Turns F w w') (hF : bs = [] ∨ ∀ b, v.ownBlock = some b → ¬ F b) : RdB w' v bs :=
  Rd.turns h hT (hF.imp_left fun h => by rw [h]; rfl)
theorem Rd.lt {w : World} {v : Value} {cs : List Value} (h : Rd w v cs) (h0 : cs ≠ []) {b : Nat} (hb : v.ownBlock = some b) : b < w.heap.size := by
  obtain ⟨A, c, rfl, h1, h2, h3⟩ := h
  cases cs with
  | nil => exact absurd rfl h0
  | cons y r =>
    obtain ⟨a, rfl, hc⟩ := h3 0 y rfl
    have e : (a.add 0).block = a.block := by unfold Addr.add; split <;> rfl
    have hlt := World.block_lt_of_cell? w _ hc
    rw [e] at hlt
    cases hb
    exact hlt
theorem RdB.lt {w : World} {v : Value} {bs : List UInt8} (h : RdB w v bs) (h0 : bs ≠ []) {b : Nat} (hb : v.ownBlock = some b) : b < w.heap.size :=
  Rd.lt h (fun e => h0 (by simpa using e)) hb

theorem mnI {P : Program} {K : Value → World → Prop} {w : World} {t ty : TypeId} {cs : Array Bool} {a b : Int} (k : K (.int .i64 (min a b)) w) : NextP P (builtin .min #[t, t] ty cs #[.int .i64 a, .int .i64 b]) K w :=
  nextV (v := .int .i64 (min a b)) (w' := w) (by
    have := Lib.run_min_ints (P := P) w #[t, t] ty .i64 .i64 a b
    simp only [builtin] at this ⊢
    simp [this]) k
theorem mxI {P : Program} {K : Value → World → Prop} {w : World} {t ty : TypeId} {cs : Array Bool} {a b : Int} (k : K (.int .i64 (max a b)) w) : NextP P (builtin .max #[t, t] ty cs #[.int .i64 a, .int .i64 b]) K w :=
  nextV (v := .int .i64 (max a b)) (w' := w) (by
    have := Lib.run_max_ints (P := P) w #[t, t] ty .i64 .i64 a b
    simp only [builtin] at this ⊢
    simp [this]) k

/-! ### colours -/
/-- A row's block has this colour. -/
def InC (c : Nat → Nat) (x : Nat) (v : Value) : Prop := ∀ b, v.ownBlock = some b → c b = x
/-- The colours, what is new since n blocks being of colour x. -/
def col (c : Nat → Nat) (n x : Nat) : Nat → Nat := fun k => if k < n then c k else x
/-- The blocks that have a colour. -/
def D (c : Nat → Nat) : Nat → Prop := fun k => c k ≠ 0
theorem InC.nil (c : Nat → Nat) (x : Nat) (n k : Nat) : InC c x (.slice none n k) := fun b hb => by cases hb
theorem InC.far {c : Nat → Nat} {x y : Nat} {v : Value} (h : InC c x v) (hxy : x ≠ y) : ∀ b, v.ownBlock = some b → ¬ c b = y := fun b hb he => hxy ((h b hb).symm.trans he)
theorem InC.ne {c : Nat → Nat} {x y g : Nat} {v : Value} (h : InC c x v) (hg : c g = y) (hxy : x ≠ y) : v.ownBlock ≠ some g := fun he => hxy ((h g he).symm.trans hg)
theorem InC.fresh {c : Nat → Nat} {n x : Nat} {v : Value} (h : Fresh n v) : InC (col c n x) x v := fun b hb => by
  have := h b hb
  simp only [col]; rw [if_neg (by omega)]
theorem col_lt (c : Nat → Nat) (n x : Nat) : ∀ k, k < n → col c n x k = c k := fun k hk => by simp only [col]; rw [if_pos hk]
theorem col_ge (c : Nat → Nat) (n x : Nat) {k : Nat} (hk : n ≤ k) : col c n x k = x := by simp only [col]; rw [if_neg (by omega)]
theorem Turns.color {c : Nat → Nat} {x : Nat} {w w' : World} (h : Turns (fun k => c k = x) w w') (hx : x ≠ 0) : Turns (D c) w w' := h.mono fun k _ hk => by rw [D, hk]; exact hx
theorem Turns.step {c c1 : Nat → Nat} {w w1 w2 : World} (h : Turns (D c) w w1) (hc : ∀ k, k < w.heap.size → c1 k = c k) (k : Turns (D c1) w1 w2) : Turns (D c) w w2 :=
  h.trans (k.mono fun j _ hj => by
    rcases Nat.lt_or_ge j w.heap.size with hlt | hge
    · exact .inl (by rw [D, ← hc j hlt]; exact hj)
    · exact .inr hge)
theorem InC.re {c c' : Nat → Nat} {x n : Nat} {v : Value} (h : InC c x v) (hlt : ∀ b, v.ownBlock = some b → b < n) (hc : ∀ k, k < n → c' k = c k) : InC c' x v := fun b hb => (hc b (hlt b hb)).trans (h b hb)
end Go.Proofs.Ytmnaggdhkggjhaa.E
