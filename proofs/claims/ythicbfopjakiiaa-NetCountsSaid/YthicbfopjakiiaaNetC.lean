/- awake of the nets; the law that a net is full. -/
import Derived.Test.YthicbfopjakiiaaNetB
namespace Go.Proofs.Ythicbfopjakiiaa.E
open Go Go.RowKit
set_option linter.unusedSimpArgs false
set_option linter.unusedVariables false

/-- A letter of one number. -/
def letA (i : Int) : Let := ⟨0, 0, 0, i, 0, 0, 0, ⟨#[]⟩, ⟨#[]⟩, 0, false, ⟨#[]⟩⟩
theorem packErr_A (i : Int) (h : 0 ≤ i ∧ i ≤ 1099511627776) : packErr (letA i) [] [] = 0 := by
  have h0 : okN 0 = true := by decide
  have hi : okN i = true := by simpa [okN] using h
  have hg : goodL (letA i) [] = true := by
    simp only [goodL, letA, Let.nums, List.all_cons, List.all_nil, h0, hi]
    rfl
  have hb : bulkL (letA i) [] [] = 0 := by
    show bulkT (letA i) = 0
    rfl
  have hl : (packedB (letA i) [] []).length ≤ 200 := by
    have n0 := num_le6 0 (by omega)
    have n1 := num_le6 i.toNat (by omega)
    have t0 : (Pack.text ⟨#[]⟩).length ≤ 6 := by
      have := num_le6 0 (by omega)
      simp only [Pack.text, List.length_append]
      exact this
    simp only [packedB, numsB, textsB, pairsB, intentsB, Let.nums, Let.texts, letA, bitN, List.map_cons, List.map_nil, List.flatten_cons, List.flatten_nil, List.length_append, List.length_nil, Int.toNat_zero]
    simp only [Bool.false_eq_true, if_false]
    omega
  rw [packErr, if_neg (by rw [hg]; simp), if_neg (by rw [hb]; simp), if_neg (by omega)]
theorem zeroLet_A : zeroLet = letA 0 := rfl
theorem pnil (w : World) : Pairs w [.slice none 0 0] [] := ⟨none, 0, rfl, Nat.le_refl _, Nat.zero_le _, fun i x hx => by simp at hx⟩
theorem inil (w : World) : Intents w [.slice none 0 0] [] := ⟨none, 0, rfl, Nat.le_refl _, Nat.zero_le _, fun i x hx => by simp at hx⟩
theorem getK_append {α : Type} (k : Int) (v : α) : ∀ (l r : List (Int × α)), getK k l = some v → getK k (l ++ r) = some v
  | [], r, h => by cases h
  | (a, u) :: l, r, h => by
    rw [getK] at h
    rw [List.cons_append, getK]
    split at h
    · rename_i hk; rw [if_pos hk]; exact h
    · rename_i hk; rw [if_neg hk]; exact getK_append k v l r h
theorem getK_append_r {α : Type} (k : Int) : ∀ (l r : List (Int × α)), (∀ x ∈ l, x.1 ≠ k) → getK k (l ++ r) = getK k r
  | [], r, _ => rfl
  | (a, u) :: l, r, h => by
    rw [List.cons_append, getK, if_neg (fun e => h (a, u) (by simp) e.symm), getK_append_r k l r (fun x hx => h x (by simp [hx]))]
theorem delK_len {α : Type} (k : Int) (v : α) : ∀ (l : List (Int × α)), getK k l = some v → (delK k l).length + 1 = l.length
  | [], h => by cases h
  | (a, u) :: l, h => by
    rw [getK] at h
    rw [delK]
    split at h
    · rename_i hk; rw [if_pos hk]; rfl
    · rename_i hk; rw [if_neg hk, List.length_cons, delK_len k v l h, List.length_cons]
theorem NetC.keys {c : Nat → Nat} {w : World} {g last : Nat} {l : List (Int × Msg)} (h : NetC c w g last l) : ∀ x ∈ l, 1 ≤ x.1 ∧ x.1 ≤ last := by
  obtain ⟨b, h⟩ := h
  exact fun x hx => (h.el x hx).1
theorem getK_none_of {c : Nat → Nat} {w : World} {g last : Nat} {l : List (Int × Msg)} (h : NetC c w g last l) {k : Int} (hk : k < 1 ∨ last < k) : getK k l = none := by
  cases hx : getK k l with
  | none => rfl
  | some m => have := h.keys _ (getK_mem _ _ _ hx); simp only at this; omega
theorem NetC.one {c : Nat → Nat} {w : World} {g last : Nat} {l : List (Int × Msg)} (h : NetC c w g last l) {x : Int × Msg} (hx : x ∈ l) : x.2.p.oneCell' = true ∧ x.2.q.oneCell' = true := by
  obtain ⟨b, h⟩ := h
  have hm := (h.el _ hx).2
  exact ⟨by obtain ⟨A, e⟩ := hm.op.slice; rw [e]; rfl, by obtain ⟨A, e⟩ := hm.oq.slice; rw [e]; rfl⟩
/-- A net behind B. -/
def NetB (B : Nat) (w : World) (g last : Nat) (l : List (Int × Msg)) : Prop := B ≤ w.heap.size ∧ ∃ c, (∀ k, k < B → c k = 0) ∧ NetC c w g last l
theorem LeftN.toB {B : Nat} {c : Nat → Nat} {w w' : World} {g last : Nat} {l : List (Int × Msg)} (hB : B ≤ w.heap.size) (hc : ∀ k, k < B → c k = 0) (h : LeftN c w g last l w') : NetB B w' g last l ∧ Below B w w' := by
  obtain ⟨c', h1, h2, h3⟩ := h
  exact ⟨⟨Nat.le_trans hB h3.size, c', fun k hk => (h1 k (Nat.lt_of_lt_of_le hk hB)).trans (hc k hk), h2⟩, h3.below hB fun k hk hF => hF (hc k hk)⟩
theorem NetB.below {B : Nat} {w w' : World} {g last : Nat} {l : List (Int × Msg)} (h : NetB B w g last l) (hb : Below w.heap.size w w') : NetB B w' g last l := by
  obtain ⟨h1, c, h2, h3⟩ := h
  exact ⟨Nat.le_trans h1 hb.size, c, h2, h3.below hb⟩
/-- A letter of one number is sent. -/
theorem SendL_B (B : Nat) (w : World) (g last : Nat) (l : List (Int × Msg)) (L : Let) (h : NetB B w g last l) (hlast : last ≤ 1000000000) (hi : packErr L [] [] = 0) :
    CallP Try.prog 30 #[.pointer (some ⟨g, 0, none⟩), .agg (L.cells (.slice none 0 0) (.slice none 0 0))] (fun r w' => (if 4096 ≤ l.length then r = .tuple #[.int .i64 0, .int .i64 17] ∧ NetB B w' g last l
      else r = .tuple #[.int .i64 ((last + 1 : Nat) : Int), .int .i64 0] ∧ ∃ p' q', NetB B w' g (last + 1) (l ++ [(((last + 1 : Nat) : Int), ⟨L, p', q', [], []⟩)])) ∧ Below B w w') w := by
  obtain ⟨h1, c, h2, h3⟩ := h
  refine (Send_net c w g last l L _ _ [] [] h3 hlast (pnil w) (inil w) (.inl rfl) (.inl rfl)).mono ?_
  intro r w' hr
  rw [if_neg (by rw [hi]; simp)] at hr
  unfold Added at hr
  split at hr
  · rename_i hf
    rw [if_pos hf]
    obtain ⟨e, hL⟩ := hr
    exact ⟨⟨e, (hL.toB h1 h2).1⟩, (hL.toB h1 h2).2⟩
  · rename_i hf
    rw [if_neg hf]
    obtain ⟨e, p', q', hL⟩ := hr
    exact ⟨⟨e, p', q', (hL.toB h1 h2).1⟩, (hL.toB h1 h2).2⟩
theorem Twice_B (B : Nat) (w : World) (g last : Nat) (l : List (Int × Msg)) (n : Int) (h : NetB B w g last l) (hlast : last ≤ 1000000000) :
    CallP Try.prog 31 #[.pointer (some ⟨g, 0, none⟩), .int .i64 n] (fun r w' => (match getK n l with
      | none => r = .tuple #[.int .i64 0, .int .i64 7] ∧ NetB B w' g last l
      | some m => if 4096 ≤ l.length then r = .tuple #[.int .i64 0, .int .i64 17] ∧ NetB B w' g last l
        else r = .tuple #[.int .i64 ((last + 1 : Nat) : Int), .int .i64 0] ∧ ∃ p' q', NetB B w' g (last + 1) (l ++ [(((last + 1 : Nat) : Int), ⟨m.L, p', q', m.ps, m.is⟩)])) ∧ Below B w w') w := by
  obtain ⟨h1, c, h2, h3⟩ := h
  refine (Twice_net c w g last l n h3 hlast).mono ?_
  intro r w' hr
  cases hx : getK n l with
  | none =>
    rw [hx] at hr
    obtain ⟨e, hL⟩ := hr
    exact ⟨⟨e, (hL.toB h1 h2).1⟩, (hL.toB h1 h2).2⟩
  | some m =>
    rw [hx] at hr
    simp only at hr ⊢
    unfold Added at hr
    split at hr
    · rename_i hf
      rw [if_pos hf]
      obtain ⟨e, hL⟩ := hr
      exact ⟨⟨e, (hL.toB h1 h2).1⟩, (hL.toB h1 h2).2⟩
    · rename_i hf
      rw [if_neg hf]
      obtain ⟨e, p', q', hL⟩ := hr
      exact ⟨⟨e, p', q', (hL.toB h1 h2).1⟩, (hL.toB h1 h2).2⟩
theorem Deliver_B (B : Nat) (w : World) (g last : Nat) (l : List (Int × Msg)) (n : Int) (h : NetB B w g last l) :
    CallP Try.prog 33 #[.pointer (some ⟨g, 0, none⟩), .int .i64 n] (fun r w' => (match getK n l with
      | none => r = .tuple #[.agg (zeroLet.cells (.slice none 0 0) (.slice none 0 0)), .int .i64 7] ∧ NetB B w' g last l
      | some m => r = .tuple #[m.val, .int .i64 0] ∧ NetB B w' g last (delK n l)) ∧ Below B w w') w := by
  obtain ⟨h1, c, h2, h3⟩ := h
  refine (Deliver_net c w g last l n h3).mono ?_
  intro r w' hr
  cases hx : getK n l with
  | none =>
    rw [hx] at hr
    obtain ⟨e, hL⟩ := hr
    exact ⟨⟨e, (hL.toB h1 h2).1⟩, (hL.toB h1 h2).2⟩
  | some m =>
    rw [hx] at hr
    obtain ⟨e, hN, _, hT⟩ := hr
    have hL : LeftN c w g last (delK n l) w' := ⟨c, fun _ _ => rfl, hN, hT⟩
    exact ⟨⟨e, (hL.toB h1 h2).1⟩, (hL.toB h1 h2).2⟩
theorem Len_B (B : Nat) (w : World) (g last : Nat) (l : List (Int × Msg)) (h : NetB B w g last l) : CallP Try.prog 32 #[.pointer (some ⟨g, 0, none⟩)] (fun r w' => r = .int .i64 l.length ∧ w = w') w := by
  obtain ⟨h1, c, h2, h3⟩ := h
  exact Len_net c w g last l h3
theorem New_NB (w : World) : CallP Try.prog 29 #[] (fun r w' => ∃ g, r = .pointer (some ⟨g, 0, none⟩) ∧ NetB w.heap.size w' g 0 [] ∧ Below w.heap.size w w') w := by
  refine (New_net w).mono ?_
  rintro r w' ⟨g, c, rfl, h1, h2, h3⟩
  exact ⟨g, rfl, ⟨h3.size, c, h1, h2⟩, h3⟩
end Go.Proofs.Ythicbfopjakiiaa.E
