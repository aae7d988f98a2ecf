/- What is handed to a net isn't kept. -/
import Derived.Test.YthicbfopjakiiaaNetE
namespace Go.Proofs.Ythicbfopjakiiaa.E
open Go Go.RowKit
set_option linter.unusedSimpArgs false
set_option linter.unusedVariables false

theorem Fresh.here (g n c : Nat) : Fresh g (.slice (some ⟨g, 0, none⟩) n c) := fun k hk => by cases hk; exact Nat.le_refl _
theorem pairF_one : ∀ x : PairT, ∀ u ∈ pairF x, u.oneCell' = true := by
  intro x u hu
  simp only [pairF, List.mem_cons, List.not_mem_nil, or_false] at hu
  rcases hu with rfl | rfl <;> rfl
theorem intentF_one : ∀ x : IntentT, ∀ u ∈ intentF x, u.oneCell' = true := by
  intro x u hu
  simp only [intentF, List.mem_cons, List.not_mem_nil, or_false] at hu
  rcases hu with rfl | rfl | rfl <;> rfl
/-- append([]Pair{}, l...) -/
theorem copyPairs {K : Value → World → Prop} {w : World} {g : Nat} {v : Value} {l : List PairT} (hg : Blk w g 64 #[]) (hv : Pairs w [v] l) (hl : l.length ≤ 1000)
    (k : ∀ v' w', OwnR 2 64 w' v' l.length (l.flatMap pairF) → Fresh g v' → Below g w w' → K v' w') : NextP Try.prog (builtin .append #[55, 55] 55 #[false, false] #[.slice (some ⟨g, 0, none⟩) 0 0, v]) K w := by
  have hown : w.ownsRow 0 64 2 (.slice (some ⟨g, 0, none⟩) 0 0) 0 [] := ⟨by simp, .inr ⟨g, 0, #[], rfl, Nat.zero_le _, hg, Nat.le_refl _, Nat.zero_le _, by simp, by simp⟩⟩
  refine apR g und55 inf64 (by rfl) (by decide) hown (Fresh.here g 0 0) (Nat.le_of_lt hg.lt) (fun _ => rfl) pairF_one (fun w us x h => (pair_cells h).1) hv (by omega) (by omega) ?_
  intro v' w' ho hf hb _
  rw [Nat.zero_add, List.nil_append] at ho
  exact k v' w' (OwnR.of_own ho) hf hb
theorem copyIntents {K : Value → World → Prop} {w : World} {g : Nat} {v : Value} {l : List IntentT} (hg : Blk w g 68 #[]) (hv : Intents w [v] l) (hl : l.length ≤ 1000)
    (k : ∀ v' w', OwnR 3 68 w' v' l.length (l.flatMap intentF) → Fresh g v' → Below g w w' → K v' w') : NextP Try.prog (builtin .append #[56, 56] 56 #[false, false] #[.slice (some ⟨g, 0, none⟩) 0 0, v]) K w := by
  have hown : w.ownsRow 0 68 3 (.slice (some ⟨g, 0, none⟩) 0 0) 0 [] := ⟨by simp, .inr ⟨g, 0, #[], rfl, Nat.zero_le _, hg, Nat.le_refl _, Nat.zero_le _, by simp, by simp⟩⟩
  refine apR g und56 inf68 (by rfl) (by decide) hown (Fresh.here g 0 0) (Nat.le_of_lt hg.lt) (fun _ => rfl) intentF_one (fun w us x h => (intent_cells h).1) hv (by omega) (by omega) ?_
  intro v' w' ho hf hb _
  rw [Nat.zero_add, List.nil_append] at ho
  exact k v' w' (OwnR.of_own ho) hf hb
theorem NetC.turnsF {c : Nat → Nat} {w w' : World} {g last : Nat} {l : List (Int × Msg)} {F : Nat → Prop} (h : NetC c w g last l) (hT : Turns F w w') (hF : ∀ k, F k → c k ≠ 1 ∧ ∀ x ∈ l, c k ≠ x.1.toNat + 10) : NetC c w' g last l := by
  obtain ⟨b, h⟩ := h
  exact ⟨b, h.hue, h.huem, h.ne, h.blk.turns hT (fun e => (hF g e).1 h.hue), h.map.turns hT (fun e => (hF b e).1 h.huem), fun x hx => ⟨(h.el x hx).1, (h.el x hx).2.turns hT (fun k hk => (hF k hk).2 x hx)⟩⟩
theorem NetKeeps_spec (L : Let) (p q : Value) (ps : List PairT) (is : List IntentT) (w : World) (hp : Pairs w [p] ps) (hq : Intents w [q] is) :
    CallP Try.prog 7 #[.agg (L.cells p q)] (fun r w' => r = .bool true ∧ Below w.heap.size w w') w := by
  obtain ⟨A, cA, rfl, _, hmA⟩ := hp.slice
  obtain ⟨A', cA', rfl, _, hmA'⟩ := hq.slice
  refine ⟨S7.calls _ _ _ ?_⟩
  unfold S7
  refine bx ?_
  have hL : Blk (w.alloc (.cells (Value.agg (L.cells (.slice A ps.length cA) (.slice A' is.length cA'))).cells 58)) w.heap.size 58 (L.cells (.slice A ps.length cA) (.slice A' is.length cA')) := Blk.new w 58 _
  have ha := (Below.refl w.heap.size w).alloc (Nat.le_refl _) (.cells (Value.agg (L.cells (.slice A ps.length cA) (.slice A' is.length cA'))).cells 58)
  generalize w.alloc (.cells (Value.agg (L.cells (.slice A ps.length cA) (.slice A' is.length cA'))).cells 58) = w1 at *
  refine (awake28_spec w1).mono ?_
  rintro _ w2 ⟨rfl, hb2⟩
  have hL2 := hL.below' hb2
  have hB2 := below_then ha hb2
  (repeat (first | (with_reducible refine nck ?_) | (with_reducible refine cdT ?_) | (with_reducible refine cdF ?_) | (with_reducible refine gdY ?_) | (with_reducible refine gdFT ?_) | (with_reducible refine gdTF ?_) | (with_reducible refine gdU ?_) | (with_reducible refine gaY ?_) | (with_reducible refine gaFT ?_) | (with_reducible refine gaTF ?_) | (with_reducible refine pickT ?_) | (with_reducible refine pickF ?_) | (with_reducible refine bi_lss_t (by omega) ?_) | (with_reducible refine bi_lss_f (by omega) ?_) | (with_reducible refine bi_add64 (by omega) ?_) | (with_reducible refine bi_sub64 (by omega) ?_) | (with_reducible refine bi_eql_t (by omega) ?_) | (with_reducible refine bi_eql_f (by omega) ?_) | (with_reducible refine bi_neq_t (by omega) ?_) | (with_reducible refine bi_neq_f (by omega) ?_) | (with_reducible refine bi_gtr_t (by omega) ?_) | (with_reducible refine bi_gtr_f (by omega) ?_) | (with_reducible refine bi_leq_t (by omega) ?_) | (with_reducible refine bi_leq_f (by omega) ?_) | (with_reducible refine bi_geq_t (by omega) ?_) | (with_reducible refine bi_geq_f (by omega) ?_) | (with_reducible refine bi_xt0 ?_) | (with_reducible refine bi_xt1 ?_) | (with_reducible refine bi_xt2 ?_) | (with_reducible refine bi_xt3 ?_) | (with_reducible refine bi_T ?_) | (with_reducible refine bi_F ?_) | (with_reducible refine bi_not ?_) | (with_reducible refine bi_and ?_) | (with_reducible refine bi_or ?_) | (with_reducible refine bi_xor ?_) | (with_reducible refine bi_shr (by omega) (by decide) ?_) | (with_reducible refine bi_shl (by omega) (by decide) ?_) | (with_reducible refine bi_quo64 (by omega) ?_) | (with_reducible refine bi_rem64 (by omega) ?_) | (with_reducible refine bi_mul64 (by omega) ?_) | (with_reducible refine bi_neg ?_) | (with_reducible refine bi_un_xor32 ?_) | (with_reducible refine bi_add ?_) | (with_reducible refine bi_sub ?_) | (with_reducible refine bi_mul ?_) | (with_reducible refine bi_quo (by decide) ?_) | (with_reducible refine bi_rem (by decide) ?_)))
  refine ldA agg58 hL2 (by exact sz58) ?_
  refine (Light_spec L _ _ ps is w2 (keeps_Pairs _ _ _ _ hB2 hp) (keeps_Intents _ _ _ _ hB2 hq)).mono ?_
  rintro _ w3 ⟨b, rfl, hb, hb3⟩
  have hL3 := hL2.below' hb3
  have hB3 := below_then hB2 hb3
  cases b with
  | false =>
    (repeat (first | (with_reducible refine nck ?_) | (with_reducible refine cdT ?_) | (with_reducible refine cdF ?_) | (with_reducible refine gdY ?_) | (with_reducible refine gdFT ?_) | (with_reducible refine gdTF ?_) | (with_reducible refine gdU ?_) | (with_reducible refine gaY ?_) | (with_reducible refine gaFT ?_) | (with_reducible refine gaTF ?_) | (with_reducible refine pickT ?_) | (with_reducible refine pickF ?_) | (with_reducible refine bi_lss_t (by omega) ?_) | (with_reducible refine bi_lss_f (by omega) ?_) | (with_reducible refine bi_add64 (by omega) ?_) | (with_reducible refine bi_sub64 (by omega) ?_) | (with_reducible refine bi_eql_t (by omega) ?_) | (with_reducible refine bi_eql_f (by omega) ?_) | (with_reducible refine bi_neq_t (by omega) ?_) | (with_reducible refine bi_neq_f (by omega) ?_) | (with_reducible refine bi_gtr_t (by omega) ?_) | (with_reducible refine bi_gtr_f (by omega) ?_) | (with_reducible refine bi_leq_t (by omega) ?_) | (with_reducible refine bi_leq_f (by omega) ?_) | (with_reducible refine bi_geq_t (by omega) ?_) | (with_reducible refine bi_geq_f (by omega) ?_) | (with_reducible refine bi_xt0 ?_) | (with_reducible refine bi_xt1 ?_) | (with_reducible refine bi_xt2 ?_) | (with_reducible refine bi_xt3 ?_) | (with_reducible refine bi_T ?_) | (with_reducible refine bi_F ?_) | (with_reducible refine bi_not ?_) | (with_reducible refine bi_and ?_) | (with_reducible refine bi_or ?_) | (with_reducible refine bi_xor ?_) | (with_reducible refine bi_shr (by omega) (by decide) ?_) | (with_reducible refine bi_shl (by omega) (by decide) ?_) | (with_reducible refine bi_quo64 (by omega) ?_) | (with_reducible refine bi_rem64 (by omega) ?_) | (with_reducible refine bi_mul64 (by omega) ?_) | (with_reducible refine bi_neg ?_) | (with_reducible refine bi_un_xor32 ?_) | (with_reducible refine bi_add ?_) | (with_reducible refine bi_sub ?_) | (with_reducible refine bi_mul ?_) | (with_reducible refine bi_quo (by decide) ?_) | (with_reducible refine bi_rem (by decide) ?_)))
    exact ⟨rfl, hB3⟩
  | true =>
  obtain ⟨hlp, hlq, hsz⟩ := hb rfl
  (repeat (first | (with_reducible refine nck ?_) | (with_reducible refine cdT ?_) | (with_reducible refine cdF ?_) | (with_reducible refine gdY ?_) | (with_reducible refine gdFT ?_) | (with_reducible refine gdTF ?_) | (with_reducible refine gdU ?_) | (with_reducible refine gaY ?_) | (with_reducible refine gaFT ?_) | (with_reducible refine gaTF ?_) | (with_reducible refine pickT ?_) | (with_reducible refine pickF ?_) | (with_reducible refine bi_lss_t (by omega) ?_) | (with_reducible refine bi_lss_f (by omega) ?_) | (with_reducible refine bi_add64 (by omega) ?_) | (with_reducible refine bi_sub64 (by omega) ?_) | (with_reducible refine bi_eql_t (by omega) ?_) | (with_reducible refine bi_eql_f (by omega) ?_) | (with_reducible refine bi_neq_t (by omega) ?_) | (with_reducible refine bi_neq_f (by omega) ?_) | (with_reducible refine bi_gtr_t (by omega) ?_) | (with_reducible refine bi_gtr_f (by omega) ?_) | (with_reducible refine bi_leq_t (by omega) ?_) | (with_reducible refine bi_leq_f (by omega) ?_) | (with_reducible refine bi_geq_t (by omega) ?_) | (with_reducible refine bi_geq_f (by omega) ?_) | (with_reducible refine bi_xt0 ?_) | (with_reducible refine bi_xt1 ?_) | (with_reducible refine bi_xt2 ?_) | (with_reducible refine bi_xt3 ?_) | (with_reducible refine bi_T ?_) | (with_reducible refine bi_F ?_) | (with_reducible refine bi_not ?_) | (with_reducible refine bi_and ?_) | (with_reducible refine bi_or ?_) | (with_reducible refine bi_xor ?_) | (with_reducible refine bi_shr (by omega) (by decide) ?_) | (with_reducible refine bi_shl (by omega) (by decide) ?_) | (with_reducible refine bi_quo64 (by omega) ?_) | (with_reducible refine bi_rem64 (by omega) ?_) | (with_reducible refine bi_mul64 (by omega) ?_) | (with_reducible refine bi_neg ?_) | (with_reducible refine bi_un_xor32 ?_) | (with_reducible refine bi_add ?_) | (with_reducible refine bi_sub ?_) | (with_reducible refine bi_mul ?_) | (with_reducible refine bi_quo (by decide) ?_) | (with_reducible refine bi_rem (by decide) ?_)))
  refine ldA agg58 hL3 (by exact sz58) ?_
  refine newLet rfl rfl ?_
  intro w4 hO4 hb4
  have hL4 := hL3.below' hb4
  have hB4 := below_then hB3 hb4
  have hg1 := hL.lt
  generalize hg3 : w3.heap.size = g3 at *
  have hg31 : w.heap.size < g3 := by have := hL3.lt; omega
  -- its pairs
  refine bs0 und55 sz64 ?_
  have hN5 : Blk (w4.alloc (.cells #[] 64)) w4.heap.size 64 #[] := Blk.new w4 64 _
  have hb5 := (Below.refl w4.heap.size w4).alloc (Nat.le_refl _) (.cells #[] 64)
  have hL5 := hL4.below' hb5
  have hO5 := hO4.below' hb5
  have hB5 := below_then hB4 hb5
  have hs4 := hO4.lt
  generalize hgp : w4.heap.size = gp at *
  generalize w4.alloc (.cells #[] 64) = w5 at *
  have c9 : w5.cell? ⟨w.heap.size, 9, none⟩ = some (.slice A ps.length cA) := hL5.cell 9
  (repeat (first | (with_reducible refine fd l9 (by decide) ?_) | (with_reducible refine ld one55 c9 ?_) | (with_reducible refine nck ?_) | (with_reducible refine cdT ?_) | (with_reducible refine cdF ?_) | (with_reducible refine gdY ?_) | (with_reducible refine gdFT ?_) | (with_reducible refine gdTF ?_) | (with_reducible refine gdU ?_) | (with_reducible refine gaY ?_) | (with_reducible refine gaFT ?_) | (with_reducible refine gaTF ?_) | (with_reducible refine pickT ?_) | (with_reducible refine pickF ?_) | (with_reducible refine bi_lss_t (by omega) ?_) | (with_reducible refine bi_lss_f (by omega) ?_) | (with_reducible refine bi_add64 (by omega) ?_) | (with_reducible refine bi_sub64 (by omega) ?_) | (with_reducible refine bi_eql_t (by omega) ?_) | (with_reducible refine bi_eql_f (by omega) ?_) | (with_reducible refine bi_neq_t (by omega) ?_) | (with_reducible refine bi_neq_f (by omega) ?_) | (with_reducible refine bi_gtr_t (by omega) ?_) | (with_reducible refine bi_gtr_f (by omega) ?_) | (with_reducible refine bi_leq_t (by omega) ?_) | (with_reducible refine bi_leq_f (by omega) ?_) | (with_reducible refine bi_geq_t (by omega) ?_) | (with_reducible refine bi_geq_f (by omega) ?_) | (with_reducible refine bi_xt0 ?_) | (with_reducible refine bi_xt1 ?_) | (with_reducible refine bi_xt2 ?_) | (with_reducible refine bi_xt3 ?_) | (with_reducible refine bi_T ?_) | (with_reducible refine bi_F ?_) | (with_reducible refine bi_not ?_) | (with_reducible refine bi_and ?_) | (with_reducible refine bi_or ?_) | (with_reducible refine bi_xor ?_) | (with_reducible refine bi_shr (by omega) (by decide) ?_) | (with_reducible refine bi_shl (by omega) (by decide) ?_) | (with_reducible refine bi_quo64 (by omega) ?_) | (with_reducible refine bi_rem64 (by omega) ?_) | (with_reducible refine bi_mul64 (by omega) ?_) | (with_reducible refine bi_neg ?_) | (with_reducible refine bi_un_xor32 ?_) | (with_reducible refine bi_add ?_) | (with_reducible refine bi_sub ?_) | (with_reducible refine bi_mul ?_) | (with_reducible refine bi_quo (by decide) ?_) | (with_reducible refine bi_rem (by decide) ?_)))
  refine copyPairs hN5 (keeps_Pairs _ _ _ _ hB5 hp) (by omega) ?_
  intro p6 w6 ho6 hf6 hb6
  have hs5 := hN5.lt
  have hL6 := hL5.below hb6 (by omega)
  have hO6 := hO5.below hb6 (by omega)
  have hB6 := hB5.trans (hb6.mono (by omega))
  have h1p : p6.oneCell' = true := by obtain ⟨A, c, e, _⟩ := ho6.slice; rw [e]; rfl
  (repeat (first | (with_reducible refine fd l9 (by decide) ?_) | (with_reducible refine nck ?_) | (with_reducible refine cdT ?_) | (with_reducible refine cdF ?_) | (with_reducible refine gdY ?_) | (with_reducible refine gdFT ?_) | (with_reducible refine gdTF ?_) | (with_reducible refine gdU ?_) | (with_reducible refine gaY ?_) | (with_reducible refine gaFT ?_) | (with_reducible refine gaTF ?_) | (with_reducible refine pickT ?_) | (with_reducible refine pickF ?_) | (with_reducible refine bi_lss_t (by omega) ?_) | (with_reducible refine bi_lss_f (by omega) ?_) | (with_reducible refine bi_add64 (by omega) ?_) | (with_reducible refine bi_sub64 (by omega) ?_) | (with_reducible refine bi_eql_t (by omega) ?_) | (with_reducible refine bi_eql_f (by omega) ?_) | (with_reducible refine bi_neq_t (by omega) ?_) | (with_reducible refine bi_neq_f (by omega) ?_) | (with_reducible refine bi_gtr_t (by omega) ?_) | (with_reducible refine bi_gtr_f (by omega) ?_) | (with_reducible refine bi_leq_t (by omega) ?_) | (with_reducible refine bi_leq_f (by omega) ?_) | (with_reducible refine bi_geq_t (by omega) ?_) | (with_reducible refine bi_geq_f (by omega) ?_) | (with_reducible refine bi_xt0 ?_) | (with_reducible refine bi_xt1 ?_) | (with_reducible refine bi_xt2 ?_) | (with_reducible refine bi_xt3 ?_) | (with_reducible refine bi_T ?_) | (with_reducible refine bi_F ?_) | (with_reducible refine bi_not ?_) | (with_reducible refine bi_and ?_) | (with_reducible refine bi_or ?_) | (with_reducible refine bi_xor ?_) | (with_reducible refine bi_shr (by omega) (by decide) ?_) | (with_reducible refine bi_shl (by omega) (by decide) ?_) | (with_reducible refine bi_quo64 (by omega) ?_) | (with_reducible refine bi_rem64 (by omega) ?_) | (with_reducible refine bi_mul64 (by omega) ?_) | (with_reducible refine bi_neg ?_) | (with_reducible refine bi_un_xor32 ?_) | (with_reducible refine bi_add ?_) | (with_reducible refine bi_sub ?_) | (with_reducible refine bi_mul ?_) | (with_reducible refine bi_quo (by decide) ?_) | (with_reducible refine bi_rem (by decide) ?_)))
  refine st sz55 h1p (by rw [hO6.cell 9]; rfl) (hO6.frozen 9) ?_
  have hT7 := Turns.setCell (F := fun k => k = g3) (p := ⟨g3, 9, none⟩) (Turns.refl _ w6) (.inl rfl) p6
  have hO7 := hO6.set_ 9 p6
  rw [set9] at hO7
  have hL7 := hL6.turns hT7 (by omega)
  have ho7 := ho6.turns hT7 (fun k hk he => by have := hf6 k hk; omega)
  have hB7 : Below w.heap.size w (w6.setCell ⟨g3, 9, none⟩ p6) := hB6.setCell (p := ⟨g3, 9, none⟩) (by show _ ≤ g3; omega) p6
  have hsz7 : (w6.setCell ⟨g3, 9, none⟩ p6).heap.size = w6.heap.size := by simp [World.setCell]
  generalize w6.setCell ⟨g3, 9, none⟩ p6 = w7 at *
  -- its intents
  refine bs0 und56 sz68 ?_
  have hN8 : Blk (w7.alloc (.cells #[] 68)) w7.heap.size 68 #[] := Blk.new w7 68 _
  have hb8 := (Below.refl w7.heap.size w7).alloc (Nat.le_refl _) (.cells #[] 68)
  have hL8 := hL7.below' hb8
  have hO8 := hO7.below' hb8
  have hB8 := below_then hB7 hb8
  have ho8 := ho7.below hb8
  have hs7 := hO7.lt
  have hlt7 : ∀ k, p6.ownBlock = some k → k < w7.heap.size := fun k hk => ho7.lt hk
  generalize hgq : w7.heap.size = gq at *
  generalize w7.alloc (.cells #[] 68) = w8 at *
  have c10 : w8.cell? ⟨w.heap.size, 10, none⟩ = some (.slice A' is.length cA') := hL8.cell 10
  (repeat (first | (with_reducible refine fd l10 (by decide) ?_) | (with_reducible refine ld one56 c10 ?_) | (with_reducible refine nck ?_) | (with_reducible refine cdT ?_) | (with_reducible refine cdF ?_) | (with_reducible refine gdY ?_) | (with_reducible refine gdFT ?_) | (with_reducible refine gdTF ?_) | (with_reducible refine gdU ?_) | (with_reducible refine gaY ?_) | (with_reducible refine gaFT ?_) | (with_reducible refine gaTF ?_) | (with_reducible refine pickT ?_) | (with_reducible refine pickF ?_) | (with_reducible refine bi_lss_t (by omega) ?_) | (with_reducible refine bi_lss_f (by omega) ?_) | (with_reducible refine bi_add64 (by omega) ?_) | (with_reducible refine bi_sub64 (by omega) ?_) | (with_reducible refine bi_eql_t (by omega) ?_) | (with_reducible refine bi_eql_f (by omega) ?_) | (with_reducible refine bi_neq_t (by omega) ?_) | (with_reducible refine bi_neq_f (by omega) ?_) | (with_reducible refine bi_gtr_t (by omega) ?_) | (with_reducible refine bi_gtr_f (by omega) ?_) | (with_reducible refine bi_leq_t (by omega) ?_) | (with_reducible refine bi_leq_f (by omega) ?_) | (with_reducible refine bi_geq_t (by omega) ?_) | (with_reducible refine bi_geq_f (by omega) ?_) | (with_reducible refine bi_xt0 ?_) | (with_reducible refine bi_xt1 ?_) | (with_reducible refine bi_xt2 ?_) | (with_reducible refine bi_xt3 ?_) | (with_reducible refine bi_T ?_) | (with_reducible refine bi_F ?_) | (with_reducible refine bi_not ?_) | (with_reducible refine bi_and ?_) | (with_reducible refine bi_or ?_) | (with_reducible refine bi_xor ?_) | (with_reducible refine bi_shr (by omega) (by decide) ?_) | (with_reducible refine bi_shl (by omega) (by decide) ?_) | (with_reducible refine bi_quo64 (by omega) ?_) | (with_reducible refine bi_rem64 (by omega) ?_) | (with_reducible refine bi_mul64 (by omega) ?_) | (with_reducible refine bi_neg ?_) | (with_reducible refine bi_un_xor32 ?_) | (with_reducible refine bi_add ?_) | (with_reducible refine bi_sub ?_) | (with_reducible refine bi_mul ?_) | (with_reducible refine bi_quo (by decide) ?_) | (with_reducible refine bi_rem (by decide) ?_)))
  refine copyIntents hN8 (keeps_Intents _ _ _ _ hB8 hq) (by omega) ?_
  intro q9 w9 hq9 hf9 hb9
  have hs8 := hN8.lt
  have hL9 := hL8.below hb9 (by omega)
  have hO9 := hO8.below hb9 (by omega)
  have hB9 := hB8.trans (hb9.mono (by omega))
  have ho9 := ho8.turns (F := fun k => gq ≤ k) ⟨hb9.os, hb9.tape, hb9.output, hb9.size, fun k hk hF => hb9.block k (by omega)⟩ (fun k hk => by have := hlt7 k hk; omega)
  have h1q : q9.oneCell' = true := by obtain ⟨A, c, e, _⟩ := hq9.slice; rw [e]; rfl
  (repeat (first | (with_reducible refine fd l10 (by decide) ?_) | (with_reducible refine nck ?_) | (with_reducible refine cdT ?_) | (with_reducible refine cdF ?_) | (with_reducible refine gdY ?_) | (with_reducible refine gdFT ?_) | (with_reducible refine gdTF ?_) | (with_reducible refine gdU ?_) | (with_reducible refine gaY ?_) | (with_reducible refine gaFT ?_) | (with_reducible refine gaTF ?_) | (with_reducible refine pickT ?_) | (with_reducible refine pickF ?_) | (with_reducible refine bi_lss_t (by omega) ?_) | (with_reducible refine bi_lss_f (by omega) ?_) | (with_reducible refine bi_add64 (by omega) ?_) | (with_reducible refine bi_sub64 (by omega) ?_) | (with_reducible refine bi_eql_t (by omega) ?_) | (with_reducible refine bi_eql_f (by omega) ?_) | (with_reducible refine bi_neq_t (by omega) ?_) | (with_reducible refine bi_neq_f (by omega) ?_) | (with_reducible refine bi_gtr_t (by omega) ?_) | (with_reducible refine bi_gtr_f (by omega) ?_) | (with_reducible refine bi_leq_t (by omega) ?_) | (with_reducible refine bi_leq_f (by omega) ?_) | (with_reducible refine bi_geq_t (by omega) ?_) | (with_reducible refine bi_geq_f (by omega) ?_) | (with_reducible refine bi_xt0 ?_) | (with_reducible refine bi_xt1 ?_) | (with_reducible refine bi_xt2 ?_) | (with_reducible refine bi_xt3 ?_) | (with_reducible refine bi_T ?_) | (with_reducible refine bi_F ?_) | (with_reducible refine bi_not ?_) | (with_reducible refine bi_and ?_) | (with_reducible refine bi_or ?_) | (with_reducible refine bi_xor ?_) | (with_reducible refine bi_shr (by omega) (by decide) ?_) | (with_reducible refine bi_shl (by omega) (by decide) ?_) | (with_reducible refine bi_quo64 (by omega) ?_) | (with_reducible refine bi_rem64 (by omega) ?_) | (with_reducible refine bi_mul64 (by omega) ?_) | (with_reducible refine bi_neg ?_) | (with_reducible refine bi_un_xor32 ?_) | (with_reducible refine bi_add ?_) | (with_reducible refine bi_sub ?_) | (with_reducible refine bi_mul ?_) | (with_reducible refine bi_quo (by decide) ?_) | (with_reducible refine bi_rem (by decide) ?_)))
  refine st sz56 h1q (by rw [hO9.cell 10]; rfl) (hO9.frozen 10) ?_
  have hT10 := Turns.setCell (F := fun k => k = g3) (p := ⟨g3, 10, none⟩) (Turns.refl _ w9) (.inl rfl) q9
  have hO10 := hO9.set_ 10 q9
  rw [set10] at hO10
  have hL10 := hL9.turns hT10 (by omega)
  have ho10 := ho9.turns hT10 (fun k hk he => by have := hf6 k hk; omega)
  have hq10 := hq9.turns hT10 (fun k hk he => by have := hf9 k hk; omega)
  have hB10 : Below w.heap.size w (w9.setCell ⟨g3, 10, none⟩ q9) := hB9.setCell (p := ⟨g3, 10, none⟩) (by show _ ≤ g3; omega) q9
  generalize w9.setCell ⟨g3, 10, none⟩ q9 = w10 at *
  -- the net
  refine (New_net w10).mono ?_
  rintro _ w11 ⟨g, c, rfl, hc0, hN11, hb11⟩
  have hL11 := hL10.below' hb11
  have hO11 := hO10.below' hb11
  have hB11 := below_then hB10 hb11
  have ho11 := ho10.below hb11
  have hq11 := hq10.below hb11
  have hp11 : Pairs w11 [p6] ps := ho11.rd (fun _ => rfl) fun x hx => rPair_of (pairs_ok hp x hx)
  have hi11 : Intents w11 [q9] is := hq11.rd (fun _ => rfl) fun x hx => rIntent_of (intents_ok hq x hx)
  have hpl : ∀ k, p6.ownBlock = some k → k < w10.heap.size := fun k hk => ho10.lt hk
  have hql : ∀ k, q9.ownBlock = some k → k < w10.heap.size := fun k hk => hq10.lt hk
  have hs10 := hL10.lt
  have hs10' := hO10.lt
  refine ldA agg58 hO11 (by exact sz58) ?_
  refine (Send_net c w11 g 0 [] L p6 q9 ps is hN11 (by omega) hp11 hi11 (.inr fun k hk => by rw [hc0 k (hpl k hk)]; omega) (.inr fun k hk => by rw [hc0 k (hql k hk)]; omega)).mono ?_
  intro r w12 hr
  have hB12 : ∀ {w'}, Turns (D c) w11 w' → Below w.heap.size w w' := fun hT => hB11.trans (hT.below (by have := hB11.size; omega) fun k hk hF => hF (hc0 k (by omega)))
  by_cases he : packErr L ps is ≠ 0
  · rw [if_pos he] at hr
    obtain ⟨rfl, c2, hc2, hN12, hT12⟩ := hr
    (repeat (first | (with_reducible refine nck ?_) | (with_reducible refine cdT ?_) | (with_reducible refine cdF ?_) | (with_reducible refine gdY ?_) | (with_reducible refine gdFT ?_) | (with_reducible refine gdTF ?_) | (with_reducible refine gdU ?_) | (with_reducible refine gaY ?_) | (with_reducible refine gaFT ?_) | (with_reducible refine gaTF ?_) | (with_reducible refine pickT ?_) | (with_reducible refine pickF ?_) | (with_reducible refine bi_lss_t (by omega) ?_) | (with_reducible refine bi_lss_f (by omega) ?_) | (with_reducible refine bi_add64 (by omega) ?_) | (with_reducible refine bi_sub64 (by omega) ?_) | (with_reducible refine bi_eql_t (by omega) ?_) | (with_reducible refine bi_eql_f (by omega) ?_) | (with_reducible refine bi_neq_t (by omega) ?_) | (with_reducible refine bi_neq_f (by omega) ?_) | (with_reducible refine bi_gtr_t (by omega) ?_) | (with_reducible refine bi_gtr_f (by omega) ?_) | (with_reducible refine bi_leq_t (by omega) ?_) | (with_reducible refine bi_leq_f (by omega) ?_) | (with_reducible refine bi_geq_t (by omega) ?_) | (with_reducible refine bi_geq_f (by omega) ?_) | (with_reducible refine bi_xt0 ?_) | (with_reducible refine bi_xt1 ?_) | (with_reducible refine bi_xt2 ?_) | (with_reducible refine bi_xt3 ?_) | (with_reducible refine bi_T ?_) | (with_reducible refine bi_F ?_) | (with_reducible refine bi_not ?_) | (with_reducible refine bi_and ?_) | (with_reducible refine bi_or ?_) | (with_reducible refine bi_xor ?_) | (with_reducible refine bi_shr (by omega) (by decide) ?_) | (with_reducible refine bi_shl (by omega) (by decide) ?_) | (with_reducible refine bi_quo64 (by omega) ?_) | (with_reducible refine bi_rem64 (by omega) ?_) | (with_reducible refine bi_mul64 (by omega) ?_) | (with_reducible refine bi_neg ?_) | (with_reducible refine bi_un_xor32 ?_) | (with_reducible refine bi_add ?_) | (with_reducible refine bi_sub ?_) | (with_reducible refine bi_mul ?_) | (with_reducible refine bi_quo (by decide) ?_) | (with_reducible refine bi_rem (by decide) ?_)))
    (repeat (first | (with_reducible refine nck ?_) | (with_reducible refine cdT ?_) | (with_reducible refine cdF ?_) | (with_reducible refine gdY ?_) | (with_reducible refine gdFT ?_) | (with_reducible refine gdTF ?_) | (with_reducible refine gdU ?_) | (with_reducible refine gaY ?_) | (with_reducible refine gaFT ?_) | (with_reducible refine gaTF ?_) | (with_reducible refine pickT ?_) | (with_reducible refine pickF ?_) | (with_reducible refine bi_lss_t (by omega) ?_) | (with_reducible refine bi_lss_f (by omega) ?_) | (with_reducible refine bi_add64 (by omega) ?_) | (with_reducible refine bi_sub64 (by omega) ?_) | (with_reducible refine bi_eql_t (by omega) ?_) | (with_reducible refine bi_eql_f (by omega) ?_) | (with_reducible refine bi_neq_t (by omega) ?_) | (with_reducible refine bi_neq_f (by omega) ?_) | (with_reducible refine bi_gtr_t (by omega) ?_) | (with_reducible refine bi_gtr_f (by omega) ?_) | (with_reducible refine bi_leq_t (by omega) ?_) | (with_reducible refine bi_leq_f (by omega) ?_) | (with_reducible refine bi_geq_t (by omega) ?_) | (with_reducible refine bi_geq_f (by omega) ?_) | (with_reducible refine bi_xt0 ?_) | (with_reducible refine bi_xt1 ?_) | (with_reducible refine bi_xt2 ?_) | (with_reducible refine bi_xt3 ?_) | (with_reducible refine bi_T ?_) | (with_reducible refine bi_F ?_) | (with_reducible refine bi_not ?_) | (with_reducible refine bi_and ?_) | (with_reducible refine bi_or ?_) | (with_reducible refine bi_xor ?_) | (with_reducible refine bi_shr (by omega) (by decide) ?_) | (with_reducible refine bi_shl (by omega) (by decide) ?_) | (with_reducible refine bi_quo64 (by omega) ?_) | (with_reducible refine bi_rem64 (by omega) ?_) | (with_reducible refine bi_mul64 (by omega) ?_) | (with_reducible refine bi_neg ?_) | (with_reducible refine bi_un_xor32 ?_) | (with_reducible refine bi_add ?_) | (with_reducible refine bi_sub ?_) | (with_reducible refine bi_mul ?_) | (with_reducible refine bi_quo (by decide) ?_) | (with_reducible refine bi_rem (by decide) ?_)))
    refine (Len_net c2 w12 g 0 [] hN12).mono ?_
    rintro _ _ ⟨rfl, rfl⟩
    (repeat (first | (with_reducible refine bi_eql_t rfl ?_) | (with_reducible refine nck ?_) | (with_reducible refine cdT ?_) | (with_reducible refine cdF ?_) | (with_reducible refine gdY ?_) | (with_reducible refine gdFT ?_) | (with_reducible refine gdTF ?_) | (with_reducible refine gdU ?_) | (with_reducible refine gaY ?_) | (with_reducible refine gaFT ?_) | (with_reducible refine gaTF ?_) | (with_reducible refine pickT ?_) | (with_reducible refine pickF ?_) | (with_reducible refine bi_lss_t (by omega) ?_) | (with_reducible refine bi_lss_f (by omega) ?_) | (with_reducible refine bi_add64 (by omega) ?_) | (with_reducible refine bi_sub64 (by omega) ?_) | (with_reducible refine bi_eql_t (by omega) ?_) | (with_reducible refine bi_eql_f (by omega) ?_) | (with_reducible refine bi_neq_t (by omega) ?_) | (with_reducible refine bi_neq_f (by omega) ?_) | (with_reducible refine bi_gtr_t (by omega) ?_) | (with_reducible refine bi_gtr_f (by omega) ?_) | (with_reducible refine bi_leq_t (by omega) ?_) | (with_reducible refine bi_leq_f (by omega) ?_) | (with_reducible refine bi_geq_t (by omega) ?_) | (with_reducible refine bi_geq_f (by omega) ?_) | (with_reducible refine bi_xt0 ?_) | (with_reducible refine bi_xt1 ?_) | (with_reducible refine bi_xt2 ?_) | (with_reducible refine bi_xt3 ?_) | (with_reducible refine bi_T ?_) | (with_reducible refine bi_F ?_) | (with_reducible refine bi_not ?_) | (with_reducible refine bi_and ?_) | (with_reducible refine bi_or ?_) | (with_reducible refine bi_xor ?_) | (with_reducible refine bi_shr (by omega) (by decide) ?_) | (with_reducible refine bi_shl (by omega) (by decide) ?_) | (with_reducible refine bi_quo64 (by omega) ?_) | (with_reducible refine bi_rem64 (by omega) ?_) | (with_reducible refine bi_mul64 (by omega) ?_) | (with_reducible refine bi_neg ?_) | (with_reducible refine bi_un_xor32 ?_) | (with_reducible refine bi_add ?_) | (with_reducible refine bi_sub ?_) | (with_reducible refine bi_mul ?_) | (with_reducible refine bi_quo (by decide) ?_) | (with_reducible refine bi_rem (by decide) ?_)))
    exact ⟨rfl, hB12 hT12⟩
  rw [if_neg he] at hr
  unfold Added at hr
  rw [if_neg (by simp)] at hr
  obtain ⟨rfl, p12, q12, c2, hc2, hN12, hT12⟩ := hr
  have hbw := hB12 hT12
  have hs11 := hb11.size
  have hL12 := hL11.turns hT12 (fun hF => hF (hc0 _ hs10))
  have hO12 := hO11.turns hT12 (fun hF => hF (hc0 _ hs10'))
  have ho12 := ho11.turns hT12 (fun k hk hF => hF (hc0 _ (hpl k hk)))
  have hc20 : ∀ k, k < w10.heap.size → c2 k = 0 := fun k hk => (hc2 k (by omega)).trans (hc0 k hk)
  (repeat (first | (with_reducible refine bi_neq_f rfl ?_) | (with_reducible refine nck ?_) | (with_reducible refine cdT ?_) | (with_reducible refine cdF ?_) | (with_reducible refine gdY ?_) | (with_reducible refine gdFT ?_) | (with_reducible refine gdTF ?_) | (with_reducible refine gdU ?_) | (with_reducible refine gaY ?_) | (with_reducible refine gaFT ?_) | (with_reducible refine gaTF ?_) | (with_reducible refine pickT ?_) | (with_reducible refine pickF ?_) | (with_reducible refine bi_lss_t (by omega) ?_) | (with_reducible refine bi_lss_f (by omega) ?_) | (with_reducible refine bi_add64 (by omega) ?_) | (with_reducible refine bi_sub64 (by omega) ?_) | (with_reducible refine bi_eql_t (by omega) ?_) | (with_reducible refine bi_eql_f (by omega) ?_) | (with_reducible refine bi_neq_t (by omega) ?_) | (with_reducible refine bi_neq_f (by omega) ?_) | (with_reducible refine bi_gtr_t (by omega) ?_) | (with_reducible refine bi_gtr_f (by omega) ?_) | (with_reducible refine bi_leq_t (by omega) ?_) | (with_reducible refine bi_leq_f (by omega) ?_) | (with_reducible refine bi_geq_t (by omega) ?_) | (with_reducible refine bi_geq_f (by omega) ?_) | (with_reducible refine bi_xt0 ?_) | (with_reducible refine bi_xt1 ?_) | (with_reducible refine bi_xt2 ?_) | (with_reducible refine bi_xt3 ?_) | (with_reducible refine bi_T ?_) | (with_reducible refine bi_F ?_) | (with_reducible refine bi_not ?_) | (with_reducible refine bi_and ?_) | (with_reducible refine bi_or ?_) | (with_reducible refine bi_xor ?_) | (with_reducible refine bi_shr (by omega) (by decide) ?_) | (with_reducible refine bi_shl (by omega) (by decide) ?_) | (with_reducible refine bi_quo64 (by omega) ?_) | (with_reducible refine bi_rem64 (by omega) ?_) | (with_reducible refine bi_mul64 (by omega) ?_) | (with_reducible refine bi_neg ?_) | (with_reducible refine bi_un_xor32 ?_) | (with_reducible refine bi_add ?_) | (with_reducible refine bi_sub ?_) | (with_reducible refine bi_mul ?_) | (with_reducible refine bi_quo (by decide) ?_) | (with_reducible refine bi_rem (by decide) ?_)))
  refine loopPairs p0' (by decide) hO12 ho12 hsz (by omega) (fun e => by have := hf6 _ e; omega) ?_
  intro w13 hT13
  have hL13 := hL12.turns hT13 (fun e => by have := hf6 _ e; omega)
  have hB13 : Below w.heap.size w w13 := hbw.trans (hT13.below (by have := hbw.size; omega) fun k hk e => by have := hf6 _ e; omega)
  have hN13 := hN12.turns hT13 (fun k hk => hc20 k (hpl k hk))
  refine (Twice_net c2 w13 g 1 _ 1 hN13 (by omega)).mono ?_
  intro r w14 hr
  have e1 : getK 1 ([] ++ [(((0 + 1 : Nat) : Int), (⟨L, p12, q12, ps, is⟩ : Msg))]) = some ⟨L, p12, q12, ps, is⟩ := rfl
  rw [e1] at hr
  simp only at hr
  unfold Added at hr
  rw [if_neg (by simp)] at hr
  obtain ⟨rfl, p14, q14, c3, hc3, hN14, hT14⟩ := hr
  have hs12 := hT12.size
  have hs13 := hT13.size
  have hL14 := hL13.turns hT14 (fun hF => hF (hc20 _ hs10))
  have hB14 : Below w.heap.size w w14 := hB13.trans (hT14.below (by have := hB13.size; omega) fun k hk hF => hF (hc20 k (by omega)))
  have hc30 : ∀ k, k < w10.heap.size → c3 k = 0 := fun k hk => (hc3 k (by omega)).trans (hc20 k hk)
  have hs14 := hT14.size
  refine (Look_net c3 w14 g 2 _ 1 hN14).mono ?_
  rintro _ w15 ⟨p15, q15, rfl, hop15, hoq15, hfp15, hfq15, _, hb15⟩
  have e2 : getK 1 ([] ++ [(((0 + 1 : Nat) : Int), (⟨L, p12, q12, ps, is⟩ : Msg))] ++ [(((1 + 1 : Nat) : Int), (⟨L, p14, q14, ps, is⟩ : Msg))]) = some ⟨L, p12, q12, ps, is⟩ := rfl
  rw [e2] at hop15 hoq15 ⊢
  simp only [theMsg, Option.getD_some, Option.isSome_some] at hop15 hoq15 ⊢
  have hL15 := hL14.below' hb15
  have hB15 := below_then hB14 hb15
  have hN15 := (hN14.re (col_lt c3 w14.heap.size 0)).below hb15
  have h1p : p15.oneCell' = true := by obtain ⟨A, e⟩ := hop15.slice; rw [e]; rfl
  have h1q : q15.oneCell' = true := by obtain ⟨A, e⟩ := hoq15.slice; rw [e]; rfl
  (repeat (first | (with_reducible refine nck ?_) | (with_reducible refine cdT ?_) | (with_reducible refine cdF ?_) | (with_reducible refine gdY ?_) | (with_reducible refine gdFT ?_) | (with_reducible refine gdTF ?_) | (with_reducible refine gdU ?_) | (with_reducible refine gaY ?_) | (with_reducible refine gaFT ?_) | (with_reducible refine gaTF ?_) | (with_reducible refine pickT ?_) | (with_reducible refine pickF ?_) | (with_reducible refine bi_lss_t (by omega) ?_) | (with_reducible refine bi_lss_f (by omega) ?_) | (with_reducible refine bi_add64 (by omega) ?_) | (with_reducible refine bi_sub64 (by omega) ?_) | (with_reducible refine bi_eql_t (by omega) ?_) | (with_reducible refine bi_eql_f (by omega) ?_) | (with_reducible refine bi_neq_t (by omega) ?_) | (with_reducible refine bi_neq_f (by omega) ?_) | (with_reducible refine bi_gtr_t (by omega) ?_) | (with_reducible refine bi_gtr_f (by omega) ?_) | (with_reducible refine bi_leq_t (by omega) ?_) | (with_reducible refine bi_leq_f (by omega) ?_) | (with_reducible refine bi_geq_t (by omega) ?_) | (with_reducible refine bi_geq_f (by omega) ?_) | (with_reducible refine bi_xt0 ?_) | (with_reducible refine bi_xt1 ?_) | (with_reducible refine bi_xt2 ?_) | (with_reducible refine bi_xt3 ?_) | (with_reducible refine bi_T ?_) | (with_reducible refine bi_F ?_) | (with_reducible refine bi_not ?_) | (with_reducible refine bi_and ?_) | (with_reducible refine bi_or ?_) | (with_reducible refine bi_xor ?_) | (with_reducible refine bi_shr (by omega) (by decide) ?_) | (with_reducible refine bi_shl (by omega) (by decide) ?_) | (with_reducible refine bi_quo64 (by omega) ?_) | (with_reducible refine bi_rem64 (by omega) ?_) | (with_reducible refine bi_mul64 (by omega) ?_) | (with_reducible refine bi_neg ?_) | (with_reducible refine bi_un_xor32 ?_) | (with_reducible refine bi_add ?_) | (with_reducible refine bi_sub ?_) | (with_reducible refine bi_mul ?_) | (with_reducible refine bi_quo (by decide) ?_) | (with_reducible refine bi_rem (by decide) ?_)))
  refine newLet h1p h1q ?_
  intro w16 hX16 hb16
  have hs15 := hb15.size
  have hL16 := hL15.below' hb16
  have hB16 := below_then hB15 hb16
  have hN16 := hN15.below hb16
  have ho16 := (hop15.below hb16).r
  refine loopPairs p1' (by decide) hX16 ho16 hsz (by omega) (fun e => by have := hop15.lt e; omega) ?_
  intro w17 hT17
  have hL17 := hL16.turns hT17 (fun e => by have := hfp15 _ e; omega)
  have hB17 : Below w.heap.size w w17 := hB16.trans (hT17.below (by have := hB16.size; omega) fun k hk e => by have := hfp15 _ e; omega)
  have hN17 := hN16.turns hT17 (fun k hk => col_ge _ _ _ (hfp15 k hk))
  have hs16 := hb16.size
  have hs17 := hT17.size
  refine (Deliver_net _ w17 g 2 _ 1 hN17).mono ?_
  intro r w18 hr
  rw [e2] at hr
  obtain ⟨rfl, hN18, hM18, hT18⟩ := hr
  have e3 : delK 1 ([] ++ [(((0 + 1 : Nat) : Int), (⟨L, p12, q12, ps, is⟩ : Msg))] ++ [(((1 + 1 : Nat) : Int), (⟨L, p14, q14, ps, is⟩ : Msg))]) = [(((1 + 1 : Nat) : Int), (⟨L, p14, q14, ps, is⟩ : Msg))] := rfl
  rw [e3] at hN18
  have hc40 : ∀ k, k < w10.heap.size → col c3 w14.heap.size 0 k = 0 := fun k hk => (col_lt _ _ _ k (by omega)).trans (hc30 k hk)
  have hL18 := hL17.turns hT18 (fun hF => hF (hc40 _ hs10))
  have hB18 : Below w.heap.size w w18 := hB17.trans (hT18.below (by have := hB17.size; omega) fun k hk hF => hF (hc40 k (by omega)))
  have h1p : p12.oneCell' = true := by obtain ⟨A, e⟩ := hM18.op.slice; simp only at e; rw [e]; rfl
  have h1q : q12.oneCell' = true := by obtain ⟨A, e⟩ := hM18.oq.slice; simp only at e; rw [e]; rfl
  (repeat (first | (with_reducible refine nck ?_) | (with_reducible refine cdT ?_) | (with_reducible refine cdF ?_) | (with_reducible refine gdY ?_) | (with_reducible refine gdFT ?_) | (with_reducible refine gdTF ?_) | (with_reducible refine gdU ?_) | (with_reducible refine gaY ?_) | (with_reducible refine gaFT ?_) | (with_reducible refine gaTF ?_) | (with_reducible refine pickT ?_) | (with_reducible refine pickF ?_) | (with_reducible refine bi_lss_t (by omega) ?_) | (with_reducible refine bi_lss_f (by omega) ?_) | (with_reducible refine bi_add64 (by omega) ?_) | (with_reducible refine bi_sub64 (by omega) ?_) | (with_reducible refine bi_eql_t (by omega) ?_) | (with_reducible refine bi_eql_f (by omega) ?_) | (with_reducible refine bi_neq_t (by omega) ?_) | (with_reducible refine bi_neq_f (by omega) ?_) | (with_reducible refine bi_gtr_t (by omega) ?_) | (with_reducible refine bi_gtr_f (by omega) ?_) | (with_reducible refine bi_leq_t (by omega) ?_) | (with_reducible refine bi_leq_f (by omega) ?_) | (with_reducible refine bi_geq_t (by omega) ?_) | (with_reducible refine bi_geq_f (by omega) ?_) | (with_reducible refine bi_xt0 ?_) | (with_reducible refine bi_xt1 ?_) | (with_reducible refine bi_xt2 ?_) | (with_reducible refine bi_xt3 ?_) | (with_reducible refine bi_T ?_) | (with_reducible refine bi_F ?_) | (with_reducible refine bi_not ?_) | (with_reducible refine bi_and ?_) | (with_reducible refine bi_or ?_) | (with_reducible refine bi_xor ?_) | (with_reducible refine bi_shr (by omega) (by decide) ?_) | (with_reducible refine bi_shl (by omega) (by decide) ?_) | (with_reducible refine bi_quo64 (by omega) ?_) | (with_reducible refine bi_rem64 (by omega) ?_) | (with_reducible refine bi_mul64 (by omega) ?_) | (with_reducible refine bi_neg ?_) | (with_reducible refine bi_un_xor32 ?_) | (with_reducible refine bi_add ?_) | (with_reducible refine bi_sub ?_) | (with_reducible refine bi_mul ?_) | (with_reducible refine bi_quo (by decide) ?_) | (with_reducible refine bi_rem (by decide) ?_)))
  refine newLet h1p h1q ?_
  intro w19 hY19 hb19
  have hL19 := hL18.below' hb19
  have hB19 := below_then hB18 hb19
  have hN19 := hN18.below hb19
  have hq19 : OwnR 3 68 w19 q12 is.length (is.flatMap intentF) := (hM18.oq.below hb19).r
  have hs18 := hT18.size
  refine loopIntents hY19 hq19 (by omega) (fun e => by have := hM18.oq.lt e; omega) ?_
  intro w20 hT20
  have hcol : ∀ k, q12.ownBlock = some k → col c3 w14.heap.size 0 k = 11 := fun k hk => hM18.cq k hk
  have hfar : ∀ k, k < w10.heap.size → q12.ownBlock ≠ some k := fun k hk e => by have h1 := hcol k e; have h2 := hc40 k hk; omega
  have hL20 := hL19.turns hT20 (hfar _ hs10)
  have hB20 : Below w.heap.size w w20 := hB19.trans (hT20.below (by have := hB19.size; omega) fun k hk e => hfar k (by omega) e)
  have hN20 := hN19.turnsF hT20 (fun k hk => by
    have := hcol k hk
    refine ⟨by omega, fun x hx => ?_⟩
    simp only [List.mem_cons, List.not_mem_nil, or_false] at hx
    subst hx
    simp only
    omega)
  refine (Deliver_net _ w20 g 2 _ 2 hN20).mono ?_
  intro r w21 hr
  have e4 : getK 2 [(((1 + 1 : Nat) : Int), (⟨L, p14, q14, ps, is⟩ : Msg))] = some ⟨L, p14, q14, ps, is⟩ := rfl
  have e5 : delK 2 [(((1 + 1 : Nat) : Int), (⟨L, p14, q14, ps, is⟩ : Msg))] = [] := rfl
  rw [e4, e5] at hr
  obtain ⟨rfl, hN21, hM21, hT21⟩ := hr
  have hL21 := hL20.turns hT21 (fun hF => hF (hc40 _ hs10))
  have hB21 : Below w.heap.size w w21 := hB20.trans (hT21.below (by have := hB20.size; omega) fun k hk hF => hF (hc40 k (by omega)))
  have h1p : p14.oneCell' = true := by obtain ⟨A, e⟩ := hM21.op.slice; simp only at e; rw [e]; rfl
  have h1q : q14.oneCell' = true := by obtain ⟨A, e⟩ := hM21.oq.slice; simp only at e; rw [e]; rfl
  (repeat (first | (with_reducible refine nck ?_) | (with_reducible refine cdT ?_) | (with_reducible refine cdF ?_) | (with_reducible refine gdY ?_) | (with_reducible refine gdFT ?_) | (with_reducible refine gdTF ?_) | (with_reducible refine gdU ?_) | (with_reducible refine gaY ?_) | (with_reducible refine gaFT ?_) | (with_reducible refine gaTF ?_) | (with_reducible refine pickT ?_) | (with_reducible refine pickF ?_) | (with_reducible refine bi_lss_t (by omega) ?_) | (with_reducible refine bi_lss_f (by omega) ?_) | (with_reducible refine bi_add64 (by omega) ?_) | (with_reducible refine bi_sub64 (by omega) ?_) | (with_reducible refine bi_eql_t (by omega) ?_) | (with_reducible refine bi_eql_f (by omega) ?_) | (with_reducible refine bi_neq_t (by omega) ?_) | (with_reducible refine bi_neq_f (by omega) ?_) | (with_reducible refine bi_gtr_t (by omega) ?_) | (with_reducible refine bi_gtr_f (by omega) ?_) | (with_reducible refine bi_leq_t (by omega) ?_) | (with_reducible refine bi_leq_f (by omega) ?_) | (with_reducible refine bi_geq_t (by omega) ?_) | (with_reducible refine bi_geq_f (by omega) ?_) | (with_reducible refine bi_xt0 ?_) | (with_reducible refine bi_xt1 ?_) | (with_reducible refine bi_xt2 ?_) | (with_reducible refine bi_xt3 ?_) | (with_reducible refine bi_T ?_) | (with_reducible refine bi_F ?_) | (with_reducible refine bi_not ?_) | (with_reducible refine bi_and ?_) | (with_reducible refine bi_or ?_) | (with_reducible refine bi_xor ?_) | (with_reducible refine bi_shr (by omega) (by decide) ?_) | (with_reducible refine bi_shl (by omega) (by decide) ?_) | (with_reducible refine bi_quo64 (by omega) ?_) | (with_reducible refine bi_rem64 (by omega) ?_) | (with_reducible refine bi_mul64 (by omega) ?_) | (with_reducible refine bi_neg ?_) | (with_reducible refine bi_un_xor32 ?_) | (with_reducible refine bi_add ?_) | (with_reducible refine bi_sub ?_) | (with_reducible refine bi_mul ?_) | (with_reducible refine bi_quo (by decide) ?_) | (with_reducible refine bi_rem (by decide) ?_)))
  refine newLet h1p h1q ?_
  intro w22 hZ22 hb22
  have hL22 := hL21.below' hb22
  have hB22 := below_then hB21 hb22
  have hN22 := hN21.below hb22
  (repeat (first | (with_reducible refine bi_eql_t rfl ?_) | (with_reducible refine nck ?_) | (with_reducible refine cdT ?_) | (with_reducible refine cdF ?_) | (with_reducible refine gdY ?_) | (with_reducible refine gdFT ?_) | (with_reducible refine gdTF ?_) | (with_reducible refine gdU ?_) | (with_reducible refine gaY ?_) | (with_reducible refine gaFT ?_) | (with_reducible refine gaTF ?_) | (with_reducible refine pickT ?_) | (with_reducible refine pickF ?_) | (with_reducible refine bi_lss_t (by omega) ?_) | (with_reducible refine bi_lss_f (by omega) ?_) | (with_reducible refine bi_add64 (by omega) ?_) | (with_reducible refine bi_sub64 (by omega) ?_) | (with_reducible refine bi_eql_t (by omega) ?_) | (with_reducible refine bi_eql_f (by omega) ?_) | (with_reducible refine bi_neq_t (by omega) ?_) | (with_reducible refine bi_neq_f (by omega) ?_) | (with_reducible refine bi_gtr_t (by omega) ?_) | (with_reducible refine bi_gtr_f (by omega) ?_) | (with_reducible refine bi_leq_t (by omega) ?_) | (with_reducible refine bi_leq_f (by omega) ?_) | (with_reducible refine bi_geq_t (by omega) ?_) | (with_reducible refine bi_geq_f (by omega) ?_) | (with_reducible refine bi_xt0 ?_) | (with_reducible refine bi_xt1 ?_) | (with_reducible refine bi_xt2 ?_) | (with_reducible refine bi_xt3 ?_) | (with_reducible refine bi_T ?_) | (with_reducible refine bi_F ?_) | (with_reducible refine bi_not ?_) | (with_reducible refine bi_and ?_) | (with_reducible refine bi_or ?_) | (with_reducible refine bi_xor ?_) | (with_reducible refine bi_shr (by omega) (by decide) ?_) | (with_reducible refine bi_shl (by omega) (by decide) ?_) | (with_reducible refine bi_quo64 (by omega) ?_) | (with_reducible refine bi_rem64 (by omega) ?_) | (with_reducible refine bi_mul64 (by omega) ?_) | (with_reducible refine bi_neg ?_) | (with_reducible refine bi_un_xor32 ?_) | (with_reducible refine bi_add ?_) | (with_reducible refine bi_sub ?_) | (with_reducible refine bi_mul ?_) | (with_reducible refine bi_quo (by decide) ?_) | (with_reducible refine bi_rem (by decide) ?_)))
  refine ldA agg58 hZ22 (by exact sz58) ?_
  (repeat (first | (with_reducible refine nck ?_) | (with_reducible refine cdT ?_) | (with_reducible refine cdF ?_) | (with_reducible refine gdY ?_) | (with_reducible refine gdFT ?_) | (with_reducible refine gdTF ?_) | (with_reducible refine gdU ?_) | (with_reducible refine gaY ?_) | (with_reducible refine gaFT ?_) | (with_reducible refine gaTF ?_) | (with_reducible refine pickT ?_) | (with_reducible refine pickF ?_) | (with_reducible refine bi_lss_t (by omega) ?_) | (with_reducible refine bi_lss_f (by omega) ?_) | (with_reducible refine bi_add64 (by omega) ?_) | (with_reducible refine bi_sub64 (by omega) ?_) | (with_reducible refine bi_eql_t (by omega) ?_) | (with_reducible refine bi_eql_f (by omega) ?_) | (with_reducible refine bi_neq_t (by omega) ?_) | (with_reducible refine bi_neq_f (by omega) ?_) | (with_reducible refine bi_gtr_t (by omega) ?_) | (with_reducible refine bi_gtr_f (by omega) ?_) | (with_reducible refine bi_leq_t (by omega) ?_) | (with_reducible refine bi_leq_f (by omega) ?_) | (with_reducible refine bi_geq_t (by omega) ?_) | (with_reducible refine bi_geq_f (by omega) ?_) | (with_reducible refine bi_xt0 ?_) | (with_reducible refine bi_xt1 ?_) | (with_reducible refine bi_xt2 ?_) | (with_reducible refine bi_xt3 ?_) | (with_reducible refine bi_T ?_) | (with_reducible refine bi_F ?_) | (with_reducible refine bi_not ?_) | (with_reducible refine bi_and ?_) | (with_reducible refine bi_or ?_) | (with_reducible refine bi_xor ?_) | (with_reducible refine bi_shr (by omega) (by decide) ?_) | (with_reducible refine bi_shl (by omega) (by decide) ?_) | (with_reducible refine bi_quo64 (by omega) ?_) | (with_reducible refine bi_rem64 (by omega) ?_) | (with_reducible refine bi_mul64 (by omega) ?_) | (with_reducible refine bi_neg ?_) | (with_reducible refine bi_un_xor32 ?_) | (with_reducible refine bi_add ?_) | (with_reducible refine bi_sub ?_) | (with_reducible refine bi_mul ?_) | (with_reducible refine bi_quo (by decide) ?_) | (with_reducible refine bi_rem (by decide) ?_)))
  refine ldA agg58 hL22 (by exact sz58) ?_
  (repeat (first | (with_reducible refine nck ?_) | (with_reducible refine cdT ?_) | (with_reducible refine cdF ?_) | (with_reducible refine gdY ?_) | (with_reducible refine gdFT ?_) | (with_reducible refine gdTF ?_) | (with_reducible refine gdU ?_) | (with_reducible refine gaY ?_) | (with_reducible refine gaFT ?_) | (with_reducible refine gaTF ?_) | (with_reducible refine pickT ?_) | (with_reducible refine pickF ?_) | (with_reducible refine bi_lss_t (by omega) ?_) | (with_reducible refine bi_lss_f (by omega) ?_) | (with_reducible refine bi_add64 (by omega) ?_) | (with_reducible refine bi_sub64 (by omega) ?_) | (with_reducible refine bi_eql_t (by omega) ?_) | (with_reducible refine bi_eql_f (by omega) ?_) | (with_reducible refine bi_neq_t (by omega) ?_) | (with_reducible refine bi_neq_f (by omega) ?_) | (with_reducible refine bi_gtr_t (by omega) ?_) | (with_reducible refine bi_gtr_f (by omega) ?_) | (with_reducible refine bi_leq_t (by omega) ?_) | (with_reducible refine bi_leq_f (by omega) ?_) | (with_reducible refine bi_geq_t (by omega) ?_) | (with_reducible refine bi_geq_f (by omega) ?_) | (with_reducible refine bi_xt0 ?_) | (with_reducible refine bi_xt1 ?_) | (with_reducible refine bi_xt2 ?_) | (with_reducible refine bi_xt3 ?_) | (with_reducible refine bi_T ?_) | (with_reducible refine bi_F ?_) | (with_reducible refine bi_not ?_) | (with_reducible refine bi_and ?_) | (with_reducible refine bi_or ?_) | (with_reducible refine bi_xor ?_) | (with_reducible refine bi_shr (by omega) (by decide) ?_) | (with_reducible refine bi_shl (by omega) (by decide) ?_) | (with_reducible refine bi_quo64 (by omega) ?_) | (with_reducible refine bi_rem64 (by omega) ?_) | (with_reducible refine bi_mul64 (by omega) ?_) | (with_reducible refine bi_neg ?_) | (with_reducible refine bi_un_xor32 ?_) | (with_reducible refine bi_add ?_) | (with_reducible refine bi_sub ?_) | (with_reducible refine bi_mul ?_) | (with_reducible refine bi_quo (by decide) ?_) | (with_reducible refine bi_rem (by decide) ?_)))
  refine (refSame_spec L _ _ _ _ ps is w22 (keeps_Pairs _ _ _ _ hb22 hM21.pairs) (keeps_Intents _ _ _ _ hb22 hM21.intents) (keeps_Pairs _ _ _ _ hB22 hp) (keeps_Intents _ _ _ _ hB22 hq)).mono ?_
  rintro _ w23 ⟨rfl, hb23⟩
  (repeat (first | (with_reducible refine nck ?_) | (with_reducible refine cdT ?_) | (with_reducible refine cdF ?_) | (with_reducible refine gdY ?_) | (with_reducible refine gdFT ?_) | (with_reducible refine gdTF ?_) | (with_reducible refine gdU ?_) | (with_reducible refine gaY ?_) | (with_reducible refine gaFT ?_) | (with_reducible refine gaTF ?_) | (with_reducible refine pickT ?_) | (with_reducible refine pickF ?_) | (with_reducible refine bi_lss_t (by omega) ?_) | (with_reducible refine bi_lss_f (by omega) ?_) | (with_reducible refine bi_add64 (by omega) ?_) | (with_reducible refine bi_sub64 (by omega) ?_) | (with_reducible refine bi_eql_t (by omega) ?_) | (with_reducible refine bi_eql_f (by omega) ?_) | (with_reducible refine bi_neq_t (by omega) ?_) | (with_reducible refine bi_neq_f (by omega) ?_) | (with_reducible refine bi_gtr_t (by omega) ?_) | (with_reducible refine bi_gtr_f (by omega) ?_) | (with_reducible refine bi_leq_t (by omega) ?_) | (with_reducible refine bi_leq_f (by omega) ?_) | (with_reducible refine bi_geq_t (by omega) ?_) | (with_reducible refine bi_geq_f (by omega) ?_) | (with_reducible refine bi_xt0 ?_) | (with_reducible refine bi_xt1 ?_) | (with_reducible refine bi_xt2 ?_) | (with_reducible refine bi_xt3 ?_) | (with_reducible refine bi_T ?_) | (with_reducible refine bi_F ?_) | (with_reducible refine bi_not ?_) | (with_reducible refine bi_and ?_) | (with_reducible refine bi_or ?_) | (with_reducible refine bi_xor ?_) | (with_reducible refine bi_shr (by omega) (by decide) ?_) | (with_reducible refine bi_shl (by omega) (by decide) ?_) | (with_reducible refine bi_quo64 (by omega) ?_) | (with_reducible refine bi_rem64 (by omega) ?_) | (with_reducible refine bi_mul64 (by omega) ?_) | (with_reducible refine bi_neg ?_) | (with_reducible refine bi_un_xor32 ?_) | (with_reducible refine bi_add ?_) | (with_reducible refine bi_sub ?_) | (with_reducible refine bi_mul ?_) | (with_reducible refine bi_quo (by decide) ?_) | (with_reducible refine bi_rem (by decide) ?_)))
  refine (Len_net _ w23 g 2 [] (hN22.below hb23)).mono ?_
  rintro _ _ ⟨rfl, rfl⟩
  (repeat (first | (with_reducible refine bi_eql_t rfl ?_) | (with_reducible refine nck ?_) | (with_reducible refine cdT ?_) | (with_reducible refine cdF ?_) | (with_reducible refine gdY ?_) | (with_reducible refine gdFT ?_) | (with_reducible refine gdTF ?_) | (with_reducible refine gdU ?_) | (with_reducible refine gaY ?_) | (with_reducible refine gaFT ?_) | (with_reducible refine gaTF ?_) | (with_reducible refine pickT ?_) | (with_reducible refine pickF ?_) | (with_reducible refine bi_lss_t (by omega) ?_) | (with_reducible refine bi_lss_f (by omega) ?_) | (with_reducible refine bi_add64 (by omega) ?_) | (with_reducible refine bi_sub64 (by omega) ?_) | (with_reducible refine bi_eql_t (by omega) ?_) | (with_reducible refine bi_eql_f (by omega) ?_) | (with_reducible refine bi_neq_t (by omega) ?_) | (with_reducible refine bi_neq_f (by omega) ?_) | (with_reducible refine bi_gtr_t (by omega) ?_) | (with_reducible refine bi_gtr_f (by omega) ?_) | (with_reducible refine bi_leq_t (by omega) ?_) | (with_reducible refine bi_leq_f (by omega) ?_) | (with_reducible refine bi_geq_t (by omega) ?_) | (with_reducible refine bi_geq_f (by omega) ?_) | (with_reducible refine bi_xt0 ?_) | (with_reducible refine bi_xt1 ?_) | (with_reducible refine bi_xt2 ?_) | (with_reducible refine bi_xt3 ?_) | (with_reducible refine bi_T ?_) | (with_reducible refine bi_F ?_) | (with_reducible refine bi_not ?_) | (with_reducible refine bi_and ?_) | (with_reducible refine bi_or ?_) | (with_reducible refine bi_xor ?_) | (with_reducible refine bi_shr (by omega) (by decide) ?_) | (with_reducible refine bi_shl (by omega) (by decide) ?_) | (with_reducible refine bi_quo64 (by omega) ?_) | (with_reducible refine bi_rem64 (by omega) ?_) | (with_reducible refine bi_mul64 (by omega) ?_) | (with_reducible refine bi_neg ?_) | (with_reducible refine bi_un_xor32 ?_) | (with_reducible refine bi_add ?_) | (with_reducible refine bi_sub ?_) | (with_reducible refine bi_mul ?_) | (with_reducible refine bi_quo (by decide) ?_) | (with_reducible refine bi_rem (by decide) ?_)))
  exact ⟨rfl, below_then hB22 hb23⟩
end Go.Proofs.Ythicbfopjakiiaa.E
