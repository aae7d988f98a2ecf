/- Copy of a letter. -/
import Derived.Test.YthicbfopjakiiaaLetE
namespace Go.Proofs.Ythicbfopjakiiaa.E
open Go Go.RowKit
set_option linter.unusedSimpArgs false
set_option linter.unusedVariables false

def zeroLet : Let := ⟨0, 0, 0, 0, 0, 0, 0, ⟨#[]⟩, ⟨#[]⟩, 0, false, ⟨#[]⟩⟩
theorem z58 : (Try.prog.info? 58).bind (·.zero) = some (.agg (zeroLet.cells (.slice none 0 0) (.slice none 0 0))) := by kernel_rfl
theorem sz55 : (Try.prog.info? 55).map (·.size) = some 1 := by kernel_rfl
theorem sz56 : (Try.prog.info? 56).map (·.size) = some 1 := by kernel_rfl
theorem cells_size (L : Let) (p q : Value) : (L.cells p q).size = 14 := rfl
theorem cells_one (L : Let) (p q : Value) (hp : p.oneCell' = true) (hq : q.oneCell' = true) : (L.cells p q).all (·.oneCell') = true := by
  rw [← Array.all_toList]
  simp only [Let.cells, List.all_cons, hp, hq]
  rfl
theorem set9 (L : Let) (p q u : Value) : (L.cells p q).setIfInBounds 9 u = L.cells u q := rfl
theorem set10 (L : Let) (p q u : Value) : (L.cells p q).setIfInBounds 10 u = L.cells p u := rfl
theorem Copy_spec (L : Let) (p q : Value) (ps : List PairT) (is : List IntentT) (w : World) (hp : Pairs w [p] ps) (hq : Intents w [q] is) (hl : ps.length ≤ 100000) (hl2 : is.length ≤ 100000) :
    CallP Try.prog 61 #[.agg (L.cells p q)] (fun r w' => ∃ p' q', r = .agg (L.cells p' q') ∧ OwnS 2 64 w' p' ps.length (ps.flatMap pairF) ∧ OwnS 3 68 w' q' is.length (is.flatMap intentF) ∧ Fresh w.heap.size p' ∧ Fresh w.heap.size q' ∧ (p'.ownBlock = none ∨ p'.ownBlock ≠ q'.ownBlock) ∧ Below w.heap.size w w') w := by
  obtain ⟨A, cA, rfl, _, _⟩ := hp.slice
  obtain ⟨A', cA', rfl, _, _⟩ := hq.slice
  refine ⟨S61.calls _ _ _ ?_⟩
  unfold S61
  refine bx ?_
  have hL : Blk (w.alloc (.cells (Value.agg (L.cells (.slice A ps.length cA) (.slice A' is.length cA'))).cells 58)) w.heap.size 58 (L.cells (.slice A ps.length cA) (.slice A' is.length cA')) := Blk.new w 58 _
  have ha := (Below.refl w.heap.size w).alloc (Nat.le_refl _) (.cells (Value.agg (L.cells (.slice A ps.length cA) (.slice A' is.length cA'))).cells 58)
  generalize w.alloc (.cells (Value.agg (L.cells (.slice A ps.length cA) (.slice A' is.length cA'))).cells 58) = w1 at *
  have hs1 : w.heap.size < w1.heap.size := hL.lt
  refine al z58 ?_
  have hR : Blk (w1.alloc (.cells (Value.agg (zeroLet.cells (.slice none 0 0) (.slice none 0 0))).cells 58)) w1.heap.size 58 (zeroLet.cells (.slice none 0 0) (.slice none 0 0)) := Blk.new w1 58 _
  have ha2 := (Below.refl w1.heap.size w1).alloc (Nat.le_refl _) (.cells (Value.agg (zeroLet.cells (.slice none 0 0) (.slice none 0 0))).cells 58)
  have hL2 := hL.below' ha2
  generalize hg1 : w1.heap.size = g1 at *
  generalize w1.alloc (.cells (Value.agg (zeroLet.cells (.slice none 0 0) (.slice none 0 0))).cells 58) = w2 at *
  have hb2 : Below w.heap.size w w2 := ha.trans (ha2.mono (by omega))
  have c9 : w2.cell? ⟨w.heap.size, 9, none⟩ = some (.slice A ps.length cA) := hL2.cell 9
  (repeat (first | (with_reducible refine fd l9 (by decide) ?_) | (with_reducible refine ld one55 c9 ?_) | (with_reducible refine nck ?_) | (with_reducible refine cdT ?_) | (with_reducible refine cdF ?_) | (with_reducible refine gdY ?_) | (with_reducible refine gdFT ?_) | (with_reducible refine gdTF ?_) | (with_reducible refine gdU ?_) | (with_reducible refine gaY ?_) | (with_reducible refine gaFT ?_) | (with_reducible refine gaTF ?_) | (with_reducible refine pickT ?_) | (with_reducible refine pickF ?_) | (with_reducible refine bi_lss_t (by omega) ?_) | (with_reducible refine bi_lss_f (by omega) ?_) | (with_reducible refine bi_add64 (by omega) ?_) | (with_reducible refine bi_sub64 (by omega) ?_) | (with_reducible refine bi_eql_t (by omega) ?_) | (with_reducible refine bi_eql_f (by omega) ?_) | (with_reducible refine bi_neq_t (by omega) ?_) | (with_reducible refine bi_neq_f (by omega) ?_) | (with_reducible refine bi_gtr_t (by omega) ?_) | (with_reducible refine bi_gtr_f (by omega) ?_) | (with_reducible refine bi_leq_t (by omega) ?_) | (with_reducible refine bi_leq_f (by omega) ?_) | (with_reducible refine bi_geq_t (by omega) ?_) | (with_reducible refine bi_geq_f (by omega) ?_) | (with_reducible refine bi_xt0 ?_) | (with_reducible refine bi_xt1 ?_) | (with_reducible refine bi_xt2 ?_) | (with_reducible refine bi_xt3 ?_) | (with_reducible refine bi_T ?_) | (with_reducible refine bi_F ?_) | (with_reducible refine bi_not ?_) | (with_reducible refine bi_and ?_) | (with_reducible refine bi_or ?_) | (with_reducible refine bi_xor ?_) | (with_reducible refine bi_shr (by omega) (by decide) ?_) | (with_reducible refine bi_shl (by omega) (by decide) ?_) | (with_reducible refine bi_quo64 (by omega) ?_) | (with_reducible refine bi_rem64 (by omega) ?_) | (with_reducible refine bi_mul64 (by omega) ?_) | (with_reducible refine bi_neg ?_) | (with_reducible refine bi_un_xor32 ?_) | (with_reducible refine bi_add ?_) | (with_reducible refine bi_sub ?_) | (with_reducible refine bi_mul ?_) | (with_reducible refine bi_quo (by decide) ?_) | (with_reducible refine bi_rem (by decide) ?_)))
  refine (CloneP_spec _ ps w2 (keeps_Pairs _ _ _ _ hb2 hp) hl).mono ?_
  rintro _ w3 ⟨A3, n3, rfl, ho3, hf3, hb3⟩
  refine (ClipP_spec w3 ho3).mono ?_
  rintro p4 _ ⟨ho4, hbl4, rfl⟩
  have hf4 : Fresh w2.heap.size p4 := fun k hk => hf3 k (by rw [← hbl4]; exact hk)
  have hL3 := hL2.below' hb3
  have hR3 := hR.below' hb3
  have hb3' := below_then hb2 hb3
  have h1p : p4.oneCell' = true := by obtain ⟨A, rfl⟩ := ho4.slice; rfl
  (repeat (first | (with_reducible refine fd l9 (by decide) ?_) | (with_reducible refine nck ?_) | (with_reducible refine cdT ?_) | (with_reducible refine cdF ?_) | (with_reducible refine gdY ?_) | (with_reducible refine gdFT ?_) | (with_reducible refine gdTF ?_) | (with_reducible refine gdU ?_) | (with_reducible refine gaY ?_) | (with_reducible refine gaFT ?_) | (with_reducible refine gaTF ?_) | (with_reducible refine pickT ?_) | (with_reducible refine pickF ?_) | (with_reducible refine bi_lss_t (by omega) ?_) | (with_reducible refine bi_lss_f (by omega) ?_) | (with_reducible refine bi_add64 (by omega) ?_) | (with_reducible refine bi_sub64 (by omega) ?_) | (with_reducible refine bi_eql_t (by omega) ?_) | (with_reducible refine bi_eql_f (by omega) ?_) | (with_reducible refine bi_neq_t (by omega) ?_) | (with_reducible refine bi_neq_f (by omega) ?_) | (with_reducible refine bi_gtr_t (by omega) ?_) | (with_reducible refine bi_gtr_f (by omega) ?_) | (with_reducible refine bi_leq_t (by omega) ?_) | (with_reducible refine bi_leq_f (by omega) ?_) | (with_reducible refine bi_geq_t (by omega) ?_) | (with_reducible refine bi_geq_f (by omega) ?_) | (with_reducible refine bi_xt0 ?_) | (with_reducible refine bi_xt1 ?_) | (with_reducible refine bi_xt2 ?_) | (with_reducible refine bi_xt3 ?_) | (with_reducible refine bi_T ?_) | (with_reducible refine bi_F ?_) | (with_reducible refine bi_not ?_) | (with_reducible refine bi_and ?_) | (with_reducible refine bi_or ?_) | (with_reducible refine bi_xor ?_) | (with_reducible refine bi_shr (by omega) (by decide) ?_) | (with_reducible refine bi_shl (by omega) (by decide) ?_) | (with_reducible refine bi_quo64 (by omega) ?_) | (with_reducible refine bi_rem64 (by omega) ?_) | (with_reducible refine bi_mul64 (by omega) ?_) | (with_reducible refine bi_neg ?_) | (with_reducible refine bi_un_xor32 ?_) | (with_reducible refine bi_add ?_) | (with_reducible refine bi_sub ?_) | (with_reducible refine bi_mul ?_) | (with_reducible refine bi_quo (by decide) ?_) | (with_reducible refine bi_rem (by decide) ?_)))
  refine st sz55 h1p (by rw [hL3.cell 9]; rfl) (hL3.frozen 9) ?_
  have hs3 := hb3.size
  have hs2 := hR.lt
  have hT := Turns.setCell (F := fun k => k = w.heap.size) (p := ⟨w.heap.size, 9, none⟩) (Turns.refl _ w3) (.inl rfl) p4
  have hL4 := hL3.set_ 9 p4
  rw [set9] at hL4
  have hR4 := hR3.turns hT (by omega)
  have ho5 := ho4.turns hT (fun k hk he => by have := hf4 k hk; omega)
  have hb4 : Below w.heap.size w (w3.setCell ⟨w.heap.size, 9, none⟩ p4) := hb3'.setCell (p := ⟨w.heap.size, 9, none⟩) (Nat.le_refl _) p4
  have hsz4 : (w3.setCell ⟨w.heap.size, 9, none⟩ p4).heap.size = w3.heap.size := by simp [World.setCell]
  generalize w3.setCell ⟨w.heap.size, 9, none⟩ p4 = w4 at *
  have c10 : w4.cell? ⟨w.heap.size, 10, none⟩ = some (.slice A' is.length cA') := hL4.cell 10
  (repeat (first | (with_reducible refine fd l10 (by decide) ?_) | (with_reducible refine ld one56 c10 ?_) | (with_reducible refine nck ?_) | (with_reducible refine cdT ?_) | (with_reducible refine cdF ?_) | (with_reducible refine gdY ?_) | (with_reducible refine gdFT ?_) | (with_reducible refine gdTF ?_) | (with_reducible refine gdU ?_) | (with_reducible refine gaY ?_) | (with_reducible refine gaFT ?_) | (with_reducible refine gaTF ?_) | (with_reducible refine pickT ?_) | (with_reducible refine pickF ?_) | (with_reducible refine bi_lss_t (by omega) ?_) | (with_reducible refine bi_lss_f (by omega) ?_) | (with_reducible refine bi_add64 (by omega) ?_) | (with_reducible refine bi_sub64 (by omega) ?_) | (with_reducible refine bi_eql_t (by omega) ?_) | (with_reducible refine bi_eql_f (by omega) ?_) | (with_reducible refine bi_neq_t (by omega) ?_) | (with_reducible refine bi_neq_f (by omega) ?_) | (with_reducible refine bi_gtr_t (by omega) ?_) | (with_reducible refine bi_gtr_f (by omega) ?_) | (with_reducible refine bi_leq_t (by omega) ?_) | (with_reducible refine bi_leq_f (by omega) ?_) | (with_reducible refine bi_geq_t (by omega) ?_) | (with_reducible refine bi_geq_f (by omega) ?_) | (with_reducible refine bi_xt0 ?_) | (with_reducible refine bi_xt1 ?_) | (with_reducible refine bi_xt2 ?_) | (with_reducible refine bi_xt3 ?_) | (with_reducible refine bi_T ?_) | (with_reducible refine bi_F ?_) | (with_reducible refine bi_not ?_) | (with_reducible refine bi_and ?_) | (with_reducible refine bi_or ?_) | (with_reducible refine bi_xor ?_) | (with_reducible refine bi_shr (by omega) (by decide) ?_) | (with_reducible refine bi_shl (by omega) (by decide) ?_) | (with_reducible refine bi_quo64 (by omega) ?_) | (with_reducible refine bi_rem64 (by omega) ?_) | (with_reducible refine bi_mul64 (by omega) ?_) | (with_reducible refine bi_neg ?_) | (with_reducible refine bi_un_xor32 ?_) | (with_reducible refine bi_add ?_) | (with_reducible refine bi_sub ?_) | (with_reducible refine bi_mul ?_) | (with_reducible refine bi_quo (by decide) ?_) | (with_reducible refine bi_rem (by decide) ?_)))
  refine (CloneI_spec _ is w4 (keeps_Intents _ _ _ _ hb4 hq) hl2).mono ?_
  rintro _ w5 ⟨A6, n6, rfl, ho6, hf6, hb5⟩
  refine (ClipI_spec w5 ho6).mono ?_
  rintro q7 _ ⟨ho7, hbl7, rfl⟩
  have hf7 : Fresh w4.heap.size q7 := fun k hk => hf6 k (by rw [← hbl7]; exact hk)
  have hL5 := hL4.below' hb5
  have hR5 := hR4.below' hb5
  have hb5' := below_then hb4 hb5
  have ho5' := ho5.below hb5
  have h1q : q7.oneCell' = true := by obtain ⟨A, rfl⟩ := ho7.slice; rfl
  (repeat (first | (with_reducible refine fd l10 (by decide) ?_) | (with_reducible refine nck ?_) | (with_reducible refine cdT ?_) | (with_reducible refine cdF ?_) | (with_reducible refine gdY ?_) | (with_reducible refine gdFT ?_) | (with_reducible refine gdTF ?_) | (with_reducible refine gdU ?_) | (with_reducible refine gaY ?_) | (with_reducible refine gaFT ?_) | (with_reducible refine gaTF ?_) | (with_reducible refine pickT ?_) | (with_reducible refine pickF ?_) | (with_reducible refine bi_lss_t (by omega) ?_) | (with_reducible refine bi_lss_f (by omega) ?_) | (with_reducible refine bi_add64 (by omega) ?_) | (with_reducible refine bi_sub64 (by omega) ?_) | (with_reducible refine bi_eql_t (by omega) ?_) | (with_reducible refine bi_eql_f (by omega) ?_) | (with_reducible refine bi_neq_t (by omega) ?_) | (with_reducible refine bi_neq_f (by omega) ?_) | (with_reducible refine bi_gtr_t (by omega) ?_) | (with_reducible refine bi_gtr_f (by omega) ?_) | (with_reducible refine bi_leq_t (by omega) ?_) | (with_reducible refine bi_leq_f (by omega) ?_) | (with_reducible refine bi_geq_t (by omega) ?_) | (with_reducible refine bi_geq_f (by omega) ?_) | (with_reducible refine bi_xt0 ?_) | (with_reducible refine bi_xt1 ?_) | (with_reducible refine bi_xt2 ?_) | (with_reducible refine bi_xt3 ?_) | (with_reducible refine bi_T ?_) | (with_reducible refine bi_F ?_) | (with_reducible refine bi_not ?_) | (with_reducible refine bi_and ?_) | (with_reducible refine bi_or ?_) | (with_reducible refine bi_xor ?_) | (with_reducible refine bi_shr (by omega) (by decide) ?_) | (with_reducible refine bi_shl (by omega) (by decide) ?_) | (with_reducible refine bi_quo64 (by omega) ?_) | (with_reducible refine bi_rem64 (by omega) ?_) | (with_reducible refine bi_mul64 (by omega) ?_) | (with_reducible refine bi_neg ?_) | (with_reducible refine bi_un_xor32 ?_) | (with_reducible refine bi_add ?_) | (with_reducible refine bi_sub ?_) | (with_reducible refine bi_mul ?_) | (with_reducible refine bi_quo (by decide) ?_) | (with_reducible refine bi_rem (by decide) ?_)))
  refine st sz56 h1q (by rw [hL5.cell 10]; rfl) (hL5.frozen 10) ?_
  have hT2 := Turns.setCell (F := fun k => k = w.heap.size) (p := ⟨w.heap.size, 10, none⟩) (Turns.refl _ w5) (.inl rfl) q7
  have hL6 := hL5.set_ 10 q7
  rw [set10] at hL6
  have hR6 := hR5.turns hT2 (by omega)
  have ho8 := ho5'.turns hT2 (fun k hk he => by have := hf4 k hk; omega)
  have ho9 := ho7.turns hT2 (fun k hk he => by have := hf7 k hk; omega)
  have hb6 : Below w.heap.size w (w5.setCell ⟨w.heap.size, 10, none⟩ q7) := hb5'.setCell (p := ⟨w.heap.size, 10, none⟩) (Nat.le_refl _) q7
  generalize w5.setCell ⟨w.heap.size, 10, none⟩ q7 = w6 at *
  refine ldA agg58 hL6 (by exact sz58) ?_
  refine stA hR6 (by exact sz58) (by rfl) (cells_one _ _ _ h1p h1q) ?_
  have hR7 := hR6.row (L.cells p4 q7)
  have hT3 : Turns (fun k => k = g1) w6 (w6.setRow g1 (L.cells p4 q7)) := Turns.setRow (F := fun k => k = g1) (Turns.refl _ w6) (.inl rfl) _
  have hb7 := hb6.trans (hT3.below hb6.size fun k hk he => by omega)
  refine retA agg58 hR7 (by exact sz58) ?_
  refine ⟨p4, q7, rfl, ho8.turns hT3 (fun k hk he => by have := hf4 k hk; omega), ho9.turns hT3 (fun k hk he => by have := hf7 k hk; omega), fun k hk => by have := hf4 k hk; omega, fun k hk => by have := hf7 k hk; omega, ?_, hb7⟩
  cases hq4 : p4.ownBlock with
  | none => exact .inl rfl
  | some k =>
    right
    intro he
    have h1 := ho4.lt hq4
    have h2 := hf7 k he.symm
    omega
end Go.Proofs.Ythicbfopjakiiaa.E
