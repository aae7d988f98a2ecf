/- Check and Copy of letters. -/
import Derived.Test.YthicbfopjakiiaaLetD
import Derived.Test.YthicbfopjakiiaaE20
namespace Go.Proofs.Ythicbfopjakiiaa.E
open Go Go.RowKit
set_option linter.unusedSimpArgs false
set_option linter.unusedVariables false

theorem inf64 : (Try.prog.info? 64).map (fun i => (i.zero, i.size, i.bytes)) = some (some (.agg #[.string ⟨#[]⟩, .string ⟨#[]⟩]), 2, 32) := by kernel_rfl
theorem inf68 : (Try.prog.info? 68).map (fun i => (i.zero, i.size, i.bytes)) = some (some (.agg #[.string ⟨#[]⟩, .int .i64 0, .bool false]), 3, 32) := by kernel_rfl
abbrev PairT := ByteArray × ByteArray × Unit
abbrev IntentT := ByteArray × Int × Bool × Unit
def pairF (p : PairT) : List Value := [.string p.1, .string p.2.1]
def intentF (p : IntentT) : List Value := [.string p.1, .int .i64 p.2.1, .bool p.2.2.1]
theorem CloneP_spec (v : Value) (l : List PairT) (w : World) (hv : Pairs w [v] l) (hl : l.length ≤ 100000) :
    CallP Try.prog 76 #[v] (fun r w' => ∃ A c, r = .slice A l.length c ∧ w'.ownsRow 0 64 2 (.slice A l.length c) l.length (l.flatMap pairF) ∧ Fresh w.heap.size (.slice A l.length c) ∧ Below w.heap.size w w') w := by
  have hv0 := hv
  obtain ⟨A, c, rfl, hc1, hc2⟩ := hv.slice
  refine ⟨S76.calls _ _ _ ?_⟩
  unfold S76
  refine ofPR (pr_slnil und55) ?_
  cases A with
  | none =>
    have h0 : l = [] := by
      cases l with
      | nil => rfl
      | cons p r => obtain ⟨a, us, h, _⟩ := rRow.at hv 0 (by simp); cases h
    subst h0
    simp only [Option.isNone_none]
    (repeat (first | (with_reducible refine nck ?_) | (with_reducible refine cdT ?_) | (with_reducible refine cdF ?_) | (with_reducible refine gdY ?_) | (with_reducible refine gdFT ?_) | (with_reducible refine gdTF ?_) | (with_reducible refine gdU ?_) | (with_reducible refine gaY ?_) | (with_reducible refine gaFT ?_) | (with_reducible refine gaTF ?_) | (with_reducible refine pickT ?_) | (with_reducible refine pickF ?_) | (with_reducible refine bi_lss_t (by omega) ?_) | (with_reducible refine bi_lss_f (by omega) ?_) | (with_reducible refine bi_add64 (by omega) ?_) | (with_reducible refine bi_sub64 (by omega) ?_) | (with_reducible refine bi_eql_t (by omega) ?_) | (with_reducible refine bi_eql_f (by omega) ?_) | (with_reducible refine bi_neq_t (by omega) ?_) | (with_reducible refine bi_neq_f (by omega) ?_) | (with_reducible refine bi_gtr_t (by omega) ?_) | (with_reducible refine bi_gtr_f (by omega) ?_) | (with_reducible refine bi_leq_t (by omega) ?_) | (with_reducible refine bi_leq_f (by omega) ?_) | (with_reducible refine bi_geq_t (by omega) ?_) | (with_reducible refine bi_geq_f (by omega) ?_) | (with_reducible refine bi_xt0 ?_) | (with_reducible refine bi_xt1 ?_) | (with_reducible refine bi_xt2 ?_) | (with_reducible refine bi_xt3 ?_) | (with_reducible refine bi_T ?_) | (with_reducible refine bi_F ?_) | (with_reducible refine bi_not ?_) | (with_reducible refine bi_and ?_) | (with_reducible refine bi_or ?_) | (with_reducible refine bi_xor ?_) | (with_reducible refine bi_shr (by omega) (by decide) ?_) | (with_reducible refine bi_shl (by omega) (by decide) ?_) | (with_reducible refine bi_quo64 (by omega) ?_) | (with_reducible refine bi_rem64 (by omega) ?_) | (with_reducible refine bi_mul64 (by omega) ?_) | (with_reducible refine bi_neg ?_) | (with_reducible refine bi_un_xor32 ?_) | (with_reducible refine bi_add ?_) | (with_reducible refine bi_sub ?_) | (with_reducible refine bi_mul ?_) | (with_reducible refine bi_quo (by decide) ?_) | (with_reducible refine bi_rem (by decide) ?_)))
    exact ⟨none, 0, rfl, ⟨by simp, .inl ⟨rfl, rfl⟩⟩, Fresh.nil _, Below.refl _ w⟩
  | some a =>
    simp only [Option.isNone_some]
    (repeat (first | (with_reducible refine nck ?_) | (with_reducible refine cdT ?_) | (with_reducible refine cdF ?_) | (with_reducible refine gdY ?_) | (with_reducible refine gdFT ?_) | (with_reducible refine gdTF ?_) | (with_reducible refine gdU ?_) | (with_reducible refine gaY ?_) | (with_reducible refine gaFT ?_) | (with_reducible refine gaTF ?_) | (with_reducible refine pickT ?_) | (with_reducible refine pickF ?_) | (with_reducible refine bi_lss_t (by omega) ?_) | (with_reducible refine bi_lss_f (by omega) ?_) | (with_reducible refine bi_add64 (by omega) ?_) | (with_reducible refine bi_sub64 (by omega) ?_) | (with_reducible refine bi_eql_t (by omega) ?_) | (with_reducible refine bi_eql_f (by omega) ?_) | (with_reducible refine bi_neq_t (by omega) ?_) | (with_reducible refine bi_neq_f (by omega) ?_) | (with_reducible refine bi_gtr_t (by omega) ?_) | (with_reducible refine bi_gtr_f (by omega) ?_) | (with_reducible refine bi_leq_t (by omega) ?_) | (with_reducible refine bi_leq_f (by omega) ?_) | (with_reducible refine bi_geq_t (by omega) ?_) | (with_reducible refine bi_geq_f (by omega) ?_) | (with_reducible refine bi_xt0 ?_) | (with_reducible refine bi_xt1 ?_) | (with_reducible refine bi_xt2 ?_) | (with_reducible refine bi_xt3 ?_) | (with_reducible refine bi_T ?_) | (with_reducible refine bi_F ?_) | (with_reducible refine bi_not ?_) | (with_reducible refine bi_and ?_) | (with_reducible refine bi_or ?_) | (with_reducible refine bi_xor ?_) | (with_reducible refine bi_shr (by omega) (by decide) ?_) | (with_reducible refine bi_shl (by omega) (by decide) ?_) | (with_reducible refine bi_quo64 (by omega) ?_) | (with_reducible refine bi_rem64 (by omega) ?_) | (with_reducible refine bi_mul64 (by omega) ?_) | (with_reducible refine bi_neg ?_) | (with_reducible refine bi_un_xor32 ?_) | (with_reducible refine bi_add ?_) | (with_reducible refine bi_sub ?_) | (with_reducible refine bi_mul ?_) | (with_reducible refine bi_quo (by decide) ?_) | (with_reducible refine bi_rem (by decide) ?_)))
    refine bs0 und55 sz64 ?_
    have ha : Below w.heap.size w (w.alloc (.cells #[] 64)) := (Below.refl _ _).alloc (Nat.le_refl _) _
    have hv1 := keeps_Pairs _ _ _ _ ha hv
    have hlen : ∀ x, (pairF x).length = 2 := fun _ => rfl
    have hown : (w.alloc (.cells #[] 64)).ownsRow 0 64 2 (.slice (some ⟨w.heap.size, 0, none⟩) 0 0) 0 [] := ⟨by simp, .inr ⟨w.heap.size, 0, #[], rfl, Nat.zero_le _, heap_alloc_new w _, Nat.le_refl _, Nat.zero_le _, by simp, by simp⟩⟩
    refine apG w.heap.size und55 inf64 (by rfl) (by decide) hown (Fresh.new (Nat.le_refl _) 0 0) ha.size (news := l.flatMap pairF) (by rw [flatMap_len _ 2 hlen]) (fun j u hu => ?_) (fun u hu => ?_) (by omega) (by omega) ?_
    · have hj := (List.getElem?_eq_some_iff.1 hu).1
      rw [flatMap_len _ 2 hlen] at hj
      have hi : j / 2 < l.length := by omega
      obtain ⟨a', us, he, hus, hcell, hrd⟩ := rRow.at hv1 (j / 2) hi
      cases he
      have := flatMap_at pairF 2 hlen l (j / 2) (j % 2) l[j / 2] (List.getElem?_eq_getElem hi) (by omega)
      rw [show j / 2 * 2 + j % 2 = j from by omega, hu] at this
      have h2 : us = pairF l[j / 2] := (pair_cells hrd).1
      subst h2
      have := hcell (j % 2) u this.symm
      rwa [Addr.add_add, show j / 2 * 2 + j % 2 = j from by omega] at this
    · obtain ⟨x, _, hx⟩ := List.mem_flatMap.1 hu
      simp only [pairF, List.mem_cons, List.not_mem_nil, or_false] at hx
      rcases hx with rfl | rfl <;> rfl
    intro v2 w2 ho2 hf2 hb2 _
    rw [Nat.zero_add, List.nil_append] at ho2
    rcases ho2.2 with ⟨he, h0⟩ | ⟨g, cap, cur, he, _⟩
    · subst he
      rw [h0] at ho2 ⊢
      exact ⟨none, 0, rfl, ho2, Fresh.nil _, ha.trans hb2⟩
    · subst he
      exact ⟨_, _, rfl, ho2, hf2, ha.trans hb2⟩
theorem CloneI_spec (v : Value) (l : List IntentT) (w : World) (hv : Intents w [v] l) (hl : l.length ≤ 100000) :
    CallP Try.prog 78 #[v] (fun r w' => ∃ A c, r = .slice A l.length c ∧ w'.ownsRow 0 68 3 (.slice A l.length c) l.length (l.flatMap intentF) ∧ Fresh w.heap.size (.slice A l.length c) ∧ Below w.heap.size w w') w := by
  have hv0 := hv
  obtain ⟨A, c, rfl, hc1, hc2⟩ := hv.slice
  refine ⟨S78.calls _ _ _ ?_⟩
  unfold S78
  refine ofPR (pr_slnil und56) ?_
  cases A with
  | none =>
    have h0 : l = [] := by
      cases l with
      | nil => rfl
      | cons p r => obtain ⟨a, us, h, _⟩ := rRow.at hv 0 (by simp); cases h
    subst h0
    simp only [Option.isNone_none]
    (repeat (first | (with_reducible refine nck ?_) | (with_reducible refine cdT ?_) | (with_reducible refine cdF ?_) | (with_reducible refine gdY ?_) | (with_reducible refine gdFT ?_) | (with_reducible refine gdTF ?_) | (with_reducible refine gdU ?_) | (with_reducible refine gaY ?_) | (with_reducible refine gaFT ?_) | (with_reducible refine gaTF ?_) | (with_reducible refine pickT ?_) | (with_reducible refine pickF ?_) | (with_reducible refine bi_lss_t (by omega) ?_) | (with_reducible refine bi_lss_f (by omega) ?_) | (with_reducible refine bi_add64 (by omega) ?_) | (with_reducible refine bi_sub64 (by omega) ?_) | (with_reducible refine bi_eql_t (by omega) ?_) | (with_reducible refine bi_eql_f (by omega) ?_) | (with_reducible refine bi_neq_t (by omega) ?_) | (with_reducible refine bi_neq_f (by omega) ?_) | (with_reducible refine bi_gtr_t (by omega) ?_) | (with_reducible refine bi_gtr_f (by omega) ?_) | (with_reducible refine bi_leq_t (by omega) ?_) | (with_reducible refine bi_leq_f (by omega) ?_) | (with_reducible refine bi_geq_t (by omega) ?_) | (with_reducible refine bi_geq_f (by omega) ?_) | (with_reducible refine bi_xt0 ?_) | (with_reducible refine bi_xt1 ?_) | (with_reducible refine bi_xt2 ?_) | (with_reducible refine bi_xt3 ?_) | (with_reducible refine bi_T ?_) | (with_reducible refine bi_F ?_) | (with_reducible refine bi_not ?_) | (with_reducible refine bi_and ?_) | (with_reducible refine bi_or ?_) | (with_reducible refine bi_xor ?_) | (with_reducible refine bi_shr (by omega) (by decide) ?_) | (with_reducible refine bi_shl (by omega) (by decide) ?_) | (with_reducible refine bi_quo64 (by omega) ?_) | (with_reducible refine bi_rem64 (by omega) ?_) | (with_reducible refine bi_mul64 (by omega) ?_) | (with_reducible refine bi_neg ?_) | (with_reducible refine bi_un_xor32 ?_) | (with_reducible refine bi_add ?_) | (with_reducible refine bi_sub ?_) | (with_reducible refine bi_mul ?_) | (with_reducible refine bi_quo (by decide) ?_) | (with_reducible refine bi_rem (by decide) ?_)))
    exact ⟨none, 0, rfl, ⟨by simp, .inl ⟨rfl, rfl⟩⟩, Fresh.nil _, Below.refl _ w⟩
  | some a =>
    simp only [Option.isNone_some]
    (repeat (first | (with_reducible refine nck ?_) | (with_reducible refine cdT ?_) | (with_reducible refine cdF ?_) | (with_reducible refine gdY ?_) | (with_reducible refine gdFT ?_) | (with_reducible refine gdTF ?_) | (with_reducible refine gdU ?_) | (with_reducible refine gaY ?_) | (with_reducible refine gaFT ?_) | (with_reducible refine gaTF ?_) | (with_reducible refine pickT ?_) | (with_reducible refine pickF ?_) | (with_reducible refine bi_lss_t (by omega) ?_) | (with_reducible refine bi_lss_f (by omega) ?_) | (with_reducible refine bi_add64 (by omega) ?_) | (with_reducible refine bi_sub64 (by omega) ?_) | (with_reducible refine bi_eql_t (by omega) ?_) | (with_reducible refine bi_eql_f (by omega) ?_) | (with_reducible refine bi_neq_t (by omega) ?_) | (with_reducible refine bi_neq_f (by omega) ?_) | (with_reducible refine bi_gtr_t (by omega) ?_) | (with_reducible refine bi_gtr_f (by omega) ?_) | (with_reducible refine bi_leq_t (by omega) ?_) | (with_reducible refine bi_leq_f (by omega) ?_) | (with_reducible refine bi_geq_t (by omega) ?_) | (with_reducible refine bi_geq_f (by omega) ?_) | (with_reducible refine bi_xt0 ?_) | (with_reducible refine bi_xt1 ?_) | (with_reducible refine bi_xt2 ?_) | (with_reducible refine bi_xt3 ?_) | (with_reducible refine bi_T ?_) | (with_reducible refine bi_F ?_) | (with_reducible refine bi_not ?_) | (with_reducible refine bi_and ?_) | (with_reducible refine bi_or ?_) | (with_reducible refine bi_xor ?_) | (with_reducible refine bi_shr (by omega) (by decide) ?_) | (with_reducible refine bi_shl (by omega) (by decide) ?_) | (with_reducible refine bi_quo64 (by omega) ?_) | (with_reducible refine bi_rem64 (by omega) ?_) | (with_reducible refine bi_mul64 (by omega) ?_) | (with_reducible refine bi_neg ?_) | (with_reducible refine bi_un_xor32 ?_) | (with_reducible refine bi_add ?_) | (with_reducible refine bi_sub ?_) | (with_reducible refine bi_mul ?_) | (with_reducible refine bi_quo (by decide) ?_) | (with_reducible refine bi_rem (by decide) ?_)))
    refine bs0 und56 sz68 ?_
    have ha : Below w.heap.size w (w.alloc (.cells #[] 68)) := (Below.refl _ _).alloc (Nat.le_refl _) _
    have hv1 := keeps_Intents _ _ _ _ ha hv
    have hlen : ∀ x, (intentF x).length = 3 := fun _ => rfl
    have hown : (w.alloc (.cells #[] 68)).ownsRow 0 68 3 (.slice (some ⟨w.heap.size, 0, none⟩) 0 0) 0 [] := ⟨by simp, .inr ⟨w.heap.size, 0, #[], rfl, Nat.zero_le _, heap_alloc_new w _, Nat.le_refl _, Nat.zero_le _, by simp, by simp⟩⟩
    refine apG w.heap.size und56 inf68 (by rfl) (by decide) hown (Fresh.new (Nat.le_refl _) 0 0) ha.size (news := l.flatMap intentF) (by rw [flatMap_len _ 3 hlen]) (fun j u hu => ?_) (fun u hu => ?_) (by omega) (by omega) ?_
    · have hj := (List.getElem?_eq_some_iff.1 hu).1
      rw [flatMap_len _ 3 hlen] at hj
      have hi : j / 3 < l.length := by omega
      obtain ⟨a', us, he, hus, hcell, hrd⟩ := rRow.at hv1 (j / 3) hi
      cases he
      have := flatMap_at intentF 3 hlen l (j / 3) (j % 3) l[j / 3] (List.getElem?_eq_getElem hi) (by omega)
      rw [show j / 3 * 3 + j % 3 = j from by omega, hu] at this
      have h2 : us = intentF l[j / 3] := (intent_cells hrd).1
      subst h2
      have := hcell (j % 3) u this.symm
      rwa [Addr.add_add, show j / 3 * 3 + j % 3 = j from by omega] at this
    · obtain ⟨x, _, hx⟩ := List.mem_flatMap.1 hu
      simp only [intentF, List.mem_cons, List.not_mem_nil, or_false] at hx
      rcases hx with rfl | rfl | rfl <;> rfl
    intro v2 w2 ho2 hf2 hb2 _
    rw [Nat.zero_add, List.nil_append] at ho2
    rcases ho2.2 with ⟨he, h0⟩ | ⟨g, cap, cur, he, _⟩
    · subst he
      rw [h0] at ho2 ⊢
      exact ⟨none, 0, rfl, ho2, Fresh.nil _, ha.trans hb2⟩
    · subst he
      exact ⟨_, _, rfl, ho2, hf2, ha.trans hb2⟩
theorem ClipP_spec {A : Option Addr} {n c : Nat} {cs : List Value} (w : World) (h : w.ownsRow 0 64 2 (.slice A n c) n cs) :
    CallP Try.prog 75 #[.slice A n c] (fun r w' => OwnS 2 64 w r n cs ∧ r.ownBlock = (Value.slice A n c).ownBlock ∧ w = w') w := by
  have hnc : n ≤ c := by
    rcases h.2 with ⟨he, h0⟩ | ⟨g, cap, cur, he, _, _, h1, _⟩
    · cases he; omega
    · cases he; exact h1
  refine ⟨S75.calls _ _ _ ?_⟩
  unfold S75
  refine ln und55 ?_
  refine ln und55 ?_
  refine ofPR (pr_cut und55 sz64 .no (.at _ _) (.at _ _) (Nat.zero_le _) (fun h => by cases h) (Nat.le_refl _) hnc (.inr (by simp))) ?_
  obtain ⟨h1, h2⟩ := ownS_cut h
  exact ⟨h1, h2, rfl⟩
theorem ClipI_spec {A : Option Addr} {n c : Nat} {cs : List Value} (w : World) (h : w.ownsRow 0 68 3 (.slice A n c) n cs) :
    CallP Try.prog 77 #[.slice A n c] (fun r w' => OwnS 3 68 w r n cs ∧ r.ownBlock = (Value.slice A n c).ownBlock ∧ w = w') w := by
  have hnc : n ≤ c := by
    rcases h.2 with ⟨he, h0⟩ | ⟨g, cap, cur, he, _, _, h1, _⟩
    · cases he; omega
    · cases he; exact h1
  refine ⟨S77.calls _ _ _ ?_⟩
  unfold S77
  refine ln und56 ?_
  refine ln und56 ?_
  refine ofPR (pr_cut und56 sz68 .no (.at _ _) (.at _ _) (Nat.zero_le _) (fun h => by cases h) (Nat.le_refl _) hnc (.inr (by simp))) ?_
  obtain ⟨h1, h2⟩ := ownS_cut h
  exact ⟨h1, h2, rfl⟩
theorem Check_spec (L : Let) (p q : Value) (ps : List PairT) (is : List IntentT) (w : World) (hp : Pairs w [p] ps) (hq : Intents w [q] is) :
    CallP Try.prog 59 #[.agg (L.cells p q)] (fun r w' => r = .int .i64 (packErr L ps is) ∧ Below w.heap.size w w') w := by
  refine ⟨S59.calls _ _ _ ?_⟩
  unfold S59
  refine bx ?_
  have hL : Blk (w.alloc (.cells (Value.agg (L.cells p q)).cells 58)) w.heap.size 58 (L.cells p q) := Blk.new w 58 _
  have ha := (Below.refl w.heap.size w).alloc (Nat.le_refl _) (.cells (Value.agg (L.cells p q)).cells 58)
  generalize w.alloc (.cells (Value.agg (L.cells p q)).cells 58) = w1 at *
  refine ldA agg58 hL (by exact sz58) ?_
  refine (Pack_spec L p q ps is w1 (keeps_Pairs _ _ _ _ ha hp) (keeps_Intents _ _ _ _ ha hq)).mono ?_
  rintro _ w2 ⟨⟨s, rfl⟩, hb2⟩
  (repeat (first | (with_reducible refine nck ?_) | (with_reducible refine cdT ?_) | (with_reducible refine cdF ?_) | (with_reducible refine gdY ?_) | (with_reducible refine gdFT ?_) | (with_reducible refine gdTF ?_) | (with_reducible refine gdU ?_) | (with_reducible refine gaY ?_) | (with_reducible refine gaFT ?_) | (with_reducible refine gaTF ?_) | (with_reducible refine pickT ?_) | (with_reducible refine pickF ?_) | (with_reducible refine bi_lss_t (by omega) ?_) | (with_reducible refine bi_lss_f (by omega) ?_) | (with_reducible refine bi_add64 (by omega) ?_) | (with_reducible refine bi_sub64 (by omega) ?_) | (with_reducible refine bi_eql_t (by omega) ?_) | (with_reducible refine bi_eql_f (by omega) ?_) | (with_reducible refine bi_neq_t (by omega) ?_) | (with_reducible refine bi_neq_f (by omega) ?_) | (with_reducible refine bi_gtr_t (by omega) ?_) | (with_reducible refine bi_gtr_f (by omega) ?_) | (with_reducible refine bi_leq_t (by omega) ?_) | (with_reducible refine bi_leq_f (by omega) ?_) | (with_reducible refine bi_geq_t (by omega) ?_) | (with_reducible refine bi_geq_f (by omega) ?_) | (with_reducible refine bi_xt0 ?_) | (with_reducible refine bi_xt1 ?_) | (with_reducible refine bi_xt2 ?_) | (with_reducible refine bi_xt3 ?_) | (with_reducible refine bi_T ?_) | (with_reducible refine bi_F ?_) | (with_reducible refine bi_not ?_) | (with_reducible refine bi_and ?_) | (with_reducible refine bi_or ?_) | (with_reducible refine bi_xor ?_) | (with_reducible refine bi_shr (by omega) (by decide) ?_) | (with_reducible refine bi_shl (by omega) (by decide) ?_) | (with_reducible refine bi_quo64 (by omega) ?_) | (with_reducible refine bi_rem64 (by omega) ?_) | (with_reducible refine bi_mul64 (by omega) ?_) | (with_reducible refine bi_neg ?_) | (with_reducible refine bi_un_xor32 ?_) | (with_reducible refine bi_add ?_) | (with_reducible refine bi_sub ?_) | (with_reducible refine bi_mul ?_) | (with_reducible refine bi_quo (by decide) ?_) | (with_reducible refine bi_rem (by decide) ?_)))
  exact ⟨rfl, below_then ha hb2⟩
end Go.Proofs.Ythicbfopjakiiaa.E
