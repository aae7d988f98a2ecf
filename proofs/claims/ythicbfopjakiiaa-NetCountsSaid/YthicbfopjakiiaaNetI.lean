/- A net beside a row of counts; how often a letter is there. -/
import Derived.Test.YthicbfopjakiiaaNetH
namespace Go.Proofs.Ythicbfopjakiiaa.E
open Go Go.RowKit
set_option linter.unusedSimpArgs false
set_option linter.unusedVariables false

/-- How often a number is under way. -/
def cntA (j : Int) : List (Int × Msg) → Int
  | [] => 0
  | x :: r => (if x.2.L.a = j then 1 else 0) + cntA j r
theorem cntA_app (j : Int) : ∀ l r : List (Int × Msg), cntA j (l ++ r) = cntA j l + cntA j r
  | [], r => by simp [cntA]
  | x :: l, r => by
    simp only [List.cons_append, cntA, cntA_app j l r]
    omega
theorem cntA_del (j k : Int) (m : Msg) : ∀ l : List (Int × Msg), getK k l = some m → cntA j l = cntA j (delK k l) + (if m.L.a = j then 1 else 0)
  | [], h => by cases h
  | (a, u) :: r, h => by
    rw [getK] at h
    rw [delK]
    split at h
    · rename_i hk
      rw [if_pos hk]
      cases h
      simp only [cntA]
      omega
    · rename_i hk
      rw [if_neg hk]
      simp only [cntA]
      have := cntA_del j k m r h
      omega
theorem cntA_bound (j : Int) : ∀ l : List (Int × Msg), 0 ≤ cntA j l ∧ cntA j l ≤ l.length
  | [] => by simp [cntA]
  | x :: r => by
    have := cntA_bound j r
    simp only [cntA, List.length_cons]
    split <;> omega
/-- The row of 101 counts. -/
def rowC (f : Nat → Int) : Array Value := ((List.range 101).map fun j => Value.int .i64 (f j)).toArray
theorem rowC_size (f : Nat → Int) : (rowC f).size = 101 := by simp [rowC]
theorem rowC_at (f : Nat → Int) (i : Nat) (hi : i < 101) : (rowC f)[i]? = some (.int .i64 (f i)) := by
  simp [rowC, hi]
theorem rowC_set (f g : Nat → Int) (i : Nat) (hi : i < 101) (v : Int) (h : ∀ j, j < 101 → g j = if j = i then v else f j) : (rowC f).setIfInBounds i (.int .i64 v) = rowC g := by
  apply Array.ext_getElem?
  intro j
  rw [Array.getElem?_setIfInBounds]
  by_cases hj : j < 101
  · rw [rowC_at g j hj, h j hj, rowC_at f j hj, rowC_size]
    by_cases e : j = i
    · rw [if_pos e.symm, if_pos hi, if_pos e]
    · rw [if_neg (fun h => e h.symm), if_neg e]
  · have : ∀ f : Nat → Int, (rowC f)[j]? = none := fun f => Array.getElem?_eq_none (by rw [rowC_size]; omega)
    rw [this, this, rowC_size]
    rw [if_neg (by omega)]
theorem rowC_congr {f g : Nat → Int} (h : ∀ j, j < 101 → f j = g j) : rowC f = rowC g := by
  unfold rowC
  congr 1
  exact List.map_congr_left fun j hj => by rw [h j (List.mem_range.1 hj)]
/-- A net, a block beside it, and blocks U that its methods don't turn. -/
def NetX (U : Nat → Prop) (cnt : Nat) (arr : Array Value) (w : World) (g last : Nat) (l : List (Int × Msg)) : Prop :=
  (∀ k, U k → k < w.heap.size) ∧ U cnt ∧ ∃ c : Nat → Nat, (∀ k, U k → c k = 0) ∧ Blk w cnt 84 arr ∧ NetC c w g last l
section
variable {U : Nat → Prop} {cnt : Nat} {arr : Array Value} {w w' : World} {g last : Nat} {l : List (Int × Msg)}
theorem NetX.below (h : NetX U cnt arr w g last l) (hb : Below w.heap.size w w') : NetX U cnt arr w' g last l := by
  obtain ⟨h1, h2, c, h3, h5, h6⟩ := h
  exact ⟨fun k hk => Nat.lt_of_lt_of_le (h1 k hk) hb.size, h2, c, h3, h5.below' hb, h6.below hb⟩
/-- What is new is kept too. -/
theorem NetX.more (h : NetX U cnt arr w g last l) (hb : Below w.heap.size w w') : NetX (fun k => U k ∨ (w.heap.size ≤ k ∧ k < w'.heap.size)) cnt arr w' g last l := by
  obtain ⟨h1, h2, c, h3, h5, h6⟩ := h
  refine ⟨fun k hk => hk.elim (fun hk => Nat.lt_of_lt_of_le (h1 k hk) hb.size) (fun hk => hk.2), .inl h2, col c w.heap.size 0, fun k hk => ?_, h5.below' hb, (h6.re (col_lt c _ 0)).below hb⟩
  rcases hk with hk | hk
  · rw [col_lt _ _ _ k (h1 k hk)]; exact h3 k hk
  · exact col_ge _ _ _ hk.1
theorem NetX.blk (h : NetX U cnt arr w g last l) : Blk w cnt 84 arr := by
  obtain ⟨h1, h2, c, h3, h5, h6⟩ := h
  exact h5
theorem NetX.set (h : NetX U cnt arr w g last l) (i : Nat) (u : Value) : NetX U cnt (arr.setIfInBounds i u) (w.setCell ⟨cnt, i, none⟩ u) g last l ∧ Turns (fun k => k = cnt) w (w.setCell ⟨cnt, i, none⟩ u) := by
  obtain ⟨h1, h2, c, h3, h5, h6⟩ := h
  have hT := Turns.setCell (F := fun k => k = cnt) (p := ⟨cnt, i, none⟩) (Turns.refl _ w) (.inl rfl) u
  exact ⟨⟨fun k hk => Nat.lt_of_lt_of_le (h1 k hk) hT.size, h2, c, h3, h5.set_ i u, h6.turns hT (fun k hk => by rw [hk]; exact h3 _ h2)⟩, hT⟩
theorem NetX.left {c : Nat → Nat} {last' : Nat} {l' : List (Int × Msg)} (h1 : ∀ k, U k → k < w.heap.size) (h2 : U cnt) (h3 : ∀ k, U k → c k = 0) (h5 : Blk w cnt 84 arr) (hL : LeftN c w g last' l' w') : NetX U cnt arr w' g last' l' ∧ Turns (fun k => ¬ U k) w w' := by
  obtain ⟨c', e1, e2, hT⟩ := hL
  exact ⟨⟨fun k hk => Nat.lt_of_lt_of_le (h1 k hk) hT.size, h2, c', fun k hk => (e1 k (h1 k hk)).trans (h3 k hk), h5.turns hT (fun hF => hF (h3 _ h2)), e2⟩, hT.mono fun k _ hF hk => hF (h3 k hk)⟩
theorem Look_X (n : Int) (h : NetX U cnt arr w g last l) :
    CallP Try.prog 35 #[.pointer (some ⟨g, 0, none⟩), .int .i64 n] (fun r w' => (∃ p' q', p'.oneCell' = true ∧ q'.oneCell' = true ∧ r = .tuple #[.agg ((theMsg (getK n l)).L.cells p' q'), .bool (getK n l).isSome]) ∧ NetX U cnt arr w' g last l ∧ Turns (fun k => ¬ U k) w w') w := by
  have hX := h
  obtain ⟨h1, h2, c, h3, h5, h6⟩ := h
  refine (Look_net c w g last l n h6).mono ?_
  rintro r w' ⟨p', q', rfl, hop, hoq, _, _, _, hb⟩
  have h1p : p'.oneCell' = true := by obtain ⟨A, e⟩ := hop.slice; rw [e]; rfl
  have h1q : q'.oneCell' = true := by obtain ⟨A, e⟩ := hoq.slice; rw [e]; rfl
  exact ⟨⟨p', q', h1p, h1q, rfl⟩, hX.below hb, Turns.of_below hb⟩
theorem SendA_X (n : Int) (hn : 0 ≤ n ∧ n ≤ 1099511627776) (hl : l.length < 4096) (hlast : last ≤ 1000000000) (h : NetX U cnt arr w g last l) :
    CallP Try.prog 30 #[.pointer (some ⟨g, 0, none⟩), .agg ((letA n).cells (.slice none 0 0) (.slice none 0 0))] (fun r w' => r = .tuple #[.int .i64 ((last + 1 : Nat) : Int), .int .i64 0] ∧ (∃ p' q', NetX U cnt arr w' g (last + 1) (l ++ [(((last + 1 : Nat) : Int), ⟨letA n, p', q', [], []⟩)])) ∧ Turns (fun k => ¬ U k) w w') w := by
  obtain ⟨h1, h2, c, h3, h5, h6⟩ := h
  refine (Send_net c w g last l (letA n) _ _ [] [] h6 hlast (pnil w) (inil w) (.inl rfl) (.inl rfl)).mono ?_
  intro r w' hr
  rw [if_neg (by rw [packErr_A n hn]; simp)] at hr
  unfold Added at hr
  rw [if_neg (by omega)] at hr
  obtain ⟨rfl, p', q', hL⟩ := hr
  obtain ⟨e1, e2⟩ := NetX.left h1 h2 h3 h5 hL
  exact ⟨rfl, ⟨p', q', e1⟩, e2⟩
theorem Twice_X (n : Int) (hl : l.length < 4096) (hlast : last ≤ 1000000000) (h : NetX U cnt arr w g last l) :
    CallP Try.prog 31 #[.pointer (some ⟨g, 0, none⟩), .int .i64 n] (fun r w' => (match getK n l with
      | none => r = .tuple #[.int .i64 0, .int .i64 7] ∧ NetX U cnt arr w' g last l
      | some m => r = .tuple #[.int .i64 ((last + 1 : Nat) : Int), .int .i64 0] ∧ ∃ p' q', NetX U cnt arr w' g (last + 1) (l ++ [(((last + 1 : Nat) : Int), ⟨m.L, p', q', m.ps, m.is⟩)])) ∧ Turns (fun k => ¬ U k) w w') w := by
  obtain ⟨h1, h2, c, h3, h5, h6⟩ := h
  refine (Twice_net c w g last l n h6 hlast).mono ?_
  intro r w' hr
  cases hx : getK n l with
  | none =>
    rw [hx] at hr
    obtain ⟨rfl, hL⟩ := hr
    obtain ⟨e1, e2⟩ := NetX.left h1 h2 h3 h5 hL
    exact ⟨⟨rfl, e1⟩, e2⟩
  | some m =>
    rw [hx] at hr
    simp only at hr
    unfold Added at hr
    rw [if_neg (by omega)] at hr
    obtain ⟨rfl, p', q', hL⟩ := hr
    obtain ⟨e1, e2⟩ := NetX.left h1 h2 h3 h5 hL
    exact ⟨⟨rfl, p', q', e1⟩, e2⟩
theorem Deliver_X (n : Int) (h : NetX U cnt arr w g last l) :
    CallP Try.prog 33 #[.pointer (some ⟨g, 0, none⟩), .int .i64 n] (fun r w' => ∃ p' q', p'.oneCell' = true ∧ q'.oneCell' = true ∧ r = .tuple #[.agg ((theMsg (getK n l)).L.cells p' q'), .int .i64 (if (getK n l).isSome then 0 else 7)] ∧ NetX U cnt arr w' g last (delK n l) ∧ Turns (fun k => ¬ U k) w w') w := by
  obtain ⟨h1, h2, c, h3, h5, h6⟩ := h
  refine (Deliver_net c w g last l n h6).mono ?_
  intro r w' hr
  cases hx : getK n l with
  | none =>
    rw [hx] at hr
    obtain ⟨rfl, hL⟩ := hr
    obtain ⟨e1, e2⟩ := NetX.left h1 h2 h3 h5 hL
    have hd : delK n l = l := by
      refine delK_none n l ?_
      rw [getK_idx] at hx
      simpa using hx
    rw [hd]
    exact ⟨.slice none 0 0, .slice none 0 0, rfl, rfl, rfl, e1, e2⟩
  | some m =>
    rw [hx] at hr
    obtain ⟨rfl, hN, hM, hT⟩ := hr
    have hL : LeftN c w g last (delK n l) w' := ⟨c, fun _ _ => rfl, hN, hT⟩
    obtain ⟨e1, e2⟩ := NetX.left h1 h2 h3 h5 hL
    have h1p : m.p.oneCell' = true := by obtain ⟨A, e⟩ := hM.op.slice; rw [e]; rfl
    have h1q : m.q.oneCell' = true := by obtain ⟨A, e⟩ := hM.oq.slice; rw [e]; rfl
    exact ⟨m.p, m.q, h1p, h1q, rfl, e1, e2⟩
theorem Drop_X (n : Int) (h : NetX U cnt arr w g last l) :
    CallP Try.prog 39 #[.pointer (some ⟨g, 0, none⟩), .int .i64 n] (fun r w' => r = .int .i64 (if (getK n l).isSome then 0 else 7) ∧ NetX U cnt arr w' g last (delK n l) ∧ Turns (fun k => ¬ U k) w w') w := by
  have hX := h
  refine ⟨S39.calls _ _ _ _ ?_⟩
  unfold S39
  refine (Deliver_X n h).mono ?_
  rintro _ w1 ⟨p', q', o1, o2, rfl, h1, hb1⟩
  generalize (if (getK n l).isSome = true then (0 : Int) else 7) = e
  (repeat (first | (with_reducible refine nck ?_) | (with_reducible refine cdT ?_) | (with_reducible refine cdF ?_) | (with_reducible refine gdY ?_) | (with_reducible refine gdFT ?_) | (with_reducible refine gdTF ?_) | (with_reducible refine gdU ?_) | (with_reducible refine gaY ?_) | (with_reducible refine gaFT ?_) | (with_reducible refine gaTF ?_) | (with_reducible refine pickT ?_) | (with_reducible refine pickF ?_) | (with_reducible refine bi_lss_t (by omega) ?_) | (with_reducible refine bi_lss_f (by omega) ?_) | (with_reducible refine bi_add64 (by omega) ?_) | (with_reducible refine bi_sub64 (by omega) ?_) | (with_reducible refine bi_eql_t (by omega) ?_) | (with_reducible refine bi_eql_f (by omega) ?_) | (with_reducible refine bi_neq_t (by omega) ?_) | (with_reducible refine bi_neq_f (by omega) ?_) | (with_reducible refine bi_gtr_t (by omega) ?_) | (with_reducible refine bi_gtr_f (by omega) ?_) | (with_reducible refine bi_leq_t (by omega) ?_) | (with_reducible refine bi_leq_f (by omega) ?_) | (with_reducible refine bi_geq_t (by omega) ?_) | (with_reducible refine bi_geq_f (by omega) ?_) | (with_reducible refine bi_xt0 ?_) | (with_reducible refine bi_xt1 ?_) | (with_reducible refine bi_xt2 ?_) | (with_reducible refine bi_xt3 ?_) | (with_reducible refine bi_T ?_) | (with_reducible refine bi_F ?_) | (with_reducible refine bi_not ?_) | (with_reducible refine bi_and ?_) | (with_reducible refine bi_or ?_) | (with_reducible refine bi_xor ?_) | (with_reducible refine bi_shr (by omega) (by decide) ?_) | (with_reducible refine bi_shl (by omega) (by decide) ?_) | (with_reducible refine bi_quo64 (by omega) ?_) | (with_reducible refine bi_rem64 (by omega) ?_) | (with_reducible refine bi_mul64 (by omega) ?_) | (with_reducible refine bi_neg ?_) | (with_reducible refine bi_un_xor32 ?_) | (with_reducible refine bi_add ?_) | (with_reducible refine bi_sub ?_) | (with_reducible refine bi_mul ?_) | (with_reducible refine bi_quo (by decide) ?_) | (with_reducible refine bi_rem (by decide) ?_)))
  refine newLet o1 o2 ?_
  intro w2 _ hb2
  exact ⟨rfl, h1.below hb2, hb1.then_below hb2⟩
theorem Len_X (h : NetX U cnt arr w g last l) : CallP Try.prog 32 #[.pointer (some ⟨g, 0, none⟩)] (fun r w' => r = .int .i64 l.length ∧ w = w') w := by
  obtain ⟨h1, h2, c, h3, h5, h6⟩ := h
  exact Len_net c w g last l h6
theorem Under_X (hl : l.length ≤ 1000000) (h : NetX U cnt arr w g last l) :
    CallP Try.prog 43 #[.pointer (some ⟨g, 0, none⟩)] (fun r w' => Own 3 w' r (((l.map (·.1)).mergeSort leI).map (Value.int .i64)) ∧ Fresh w.heap.size r ∧ NetX (fun k => U k ∨ (w.heap.size ≤ k ∧ k < w'.heap.size)) cnt arr w' g last l ∧ Below w.heap.size w w') w := by
  have hX := h
  obtain ⟨h1, h2, c, h3, h5, h6⟩ := h
  refine (Under_net c w g last l h6 hl).mono ?_
  rintro r w' ⟨e1, e2, e3⟩
  exact ⟨e1, e2, hX.more e3, e3⟩
theorem NetX.keys (h : NetX U cnt arr w g last l) : ∀ x ∈ l, 1 ≤ x.1 ∧ x.1 ≤ last := by
  obtain ⟨h1, h2, c, h3, h5, h6⟩ := h
  exact h6.keys
theorem NetX.nodup (h : NetX U cnt arr w g last l) : (l.map (·.1)).Nodup := by
  obtain ⟨h1, h2, c, h3, h5, h6⟩ := h
  exact h6.nodup
end
end Go.Proofs.Ythicbfopjakiiaa.E
