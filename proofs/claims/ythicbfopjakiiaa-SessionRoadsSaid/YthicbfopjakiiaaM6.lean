import Derived.Test.YthicbfopjakiiaaM5
import Derived.Test.YthicbfopjakiiaaM3
namespace Go.Proofs.Ythicbfopjakiiaa.E
open Go Go.RowKit
set_option linter.unusedSimpArgs false
set_option linter.unusedVariables false

theorem inf64 : (Try.prog.info? 64).map (fun i => (i.zero, i.size, i.bytes)) = some (some (.agg #[.string ⟨#[]⟩, .string ⟨#[]⟩]), 2, 32) := by kernel_rfl
theorem inf68 : (Try.prog.info? 68).map (fun i => (i.zero, i.size, i.bytes)) = some (some (.agg #[.string ⟨#[]⟩, .int .i64 0, .bool false]), 3, 32) := by kernel_rfl
abbrev PairT := ByteArray × ByteArray × Unit
abbrev IntentT := ByteArray × Int × Bool × Unit
def pairF (p : PairT) : List Value := [.string p.1, .string p.2.1]
def intentF (p : IntentT) : List Value := [.string p.1, .int .i64 p.2.1, .bool p.2.2.1]
theorem CloneP_spec (v : Value) (l : List PairT) (w : World) (hv : Pairs w [v] l) (hl : l.length ≤ 100000) :
    CallP Try.prog 76 #[v] (fun r w' => ∃ A c, r = .slice A l.length c ∧ w'.ownsRow 0 64 2 (.slice A l.length c) l.length (l.flatMap pairF) ∧ Fresh w.heap.size (.slice A l.length c) ∧ Below w.heap.size w w') w := by
  have hv0 := hv
  obtain ⟨A, c, rfl, hc1, hc2⟩ := hv.slice
  refine ⟨S76.calls _ _ _ ?_⟩
  unfold S76
  refine ofPR (pr_slnil und55) ?_
  cases A with
  | none =>
    have h0 : l = [] := by
      cases l with
      | nil => rfl
      | cons p r => obtain ⟨a, us, h, _⟩ := rRow.at hv 0 (by simp); cases h
    subst h0
    simp only [Option.isNone_none]
    (repeat with_reducible first|refine z_a ?_|refine z_b ?_|refine z_c ?_|refine z_d ?_|refine z_e ?_|refine z_f ?_|refine z_g ?_|refine z_h ?_|refine z_i ?_|refine z_j ?_|refine z_k ?_|refine z_l ?_|refine z_m (by omega) ?_|refine z_n (by omega) ?_|refine z_o (by omega) ?_|refine z_p (by omega) ?_|refine z_q (by omega) ?_|refine z_r (by omega) ?_|refine z_s (by omega) ?_|refine z_t (by omega) ?_|refine z_u (by omega) ?_|refine z_v (by omega) ?_|refine z_w (by omega) ?_|refine z_x (by omega) ?_|refine z_y (by omega) ?_|refine z_z (by omega) ?_|refine z_A ?_|refine z_B ?_|refine z_C ?_|refine z_D ?_|refine z_E ?_|refine z_F ?_|refine z_G ?_|refine z_H ?_|refine z_I ?_|refine z_J ?_|refine z_K (by omega) (by decide) ?_|refine z_L (by omega) (by decide) ?_|refine z_M (by omega) ?_|refine z_N (by omega) ?_|refine z_O (by omega) ?_|refine z_P ?_|refine z_Q ?_|refine z_R ?_|refine z_S ?_|refine z_T ?_|refine z_U (by decide) ?_|refine z_V (by decide) ?_)
    exact ⟨none, 0, rfl, ⟨by simp, .inl ⟨rfl, rfl⟩⟩, Fresh.nil _, Below.refl _ w⟩
  | some a =>
    simp only [Option.isNone_some]
    (repeat with_reducible first|refine z_a ?_|refine z_b ?_|refine z_c ?_|refine z_d ?_|refine z_e ?_|refine z_f ?_|refine z_g ?_|refine z_h ?_|refine z_i ?_|refine z_j ?_|refine z_k ?_|refine z_l ?_|refine z_m (by omega) ?_|refine z_n (by omega) ?_|refine z_o (by omega) ?_|refine z_p (by omega) ?_|refine z_q (by omega) ?_|refine z_r (by omega) ?_|refine z_s (by omega) ?_|refine z_t (by omega) ?_|refine z_u (by omega) ?_|refine z_v (by omega) ?_|refine z_w (by omega) ?_|refine z_x (by omega) ?_|refine z_y (by omega) ?_|refine z_z (by omega) ?_|refine z_A ?_|refine z_B ?_|refine z_C ?_|refine z_D ?_|refine z_E ?_|refine z_F ?_|refine z_G ?_|refine z_H ?_|refine z_I ?_|refine z_J ?_|refine z_K (by omega) (by decide) ?_|refine z_L (by omega) (by decide) ?_|refine z_M (by omega) ?_|refine z_N (by omega) ?_|refine z_O (by omega) ?_|refine z_P ?_|refine z_Q ?_|refine z_R ?_|refine z_S ?_|refine z_T ?_|refine z_U (by decide) ?_|refine z_V (by decide) ?_)
    refine bs0 und55 sz64 ?_
    have ha : Below w.heap.size w (w.alloc (.cells #[] 64)) := (Below.refl _ _).alloc (Nat.le_refl _) _
    have hv1 := keeps_Pairs _ _ _ _ ha hv
    have hlen : ∀ x, (pairF x).length = 2 := fun _ => rfl
    have hown : (w.alloc (.cells #[] 64)).ownsRow 0 64 2 (.slice (some ⟨w.heap.size, 0, none⟩) 0 0) 0 [] := ⟨by simp, .inr ⟨w.heap.size, 0, #[], rfl, Nat.zero_le _, heap_alloc_new w _, Nat.le_refl _, Nat.zero_le _, by simp, by simp⟩⟩
    refine apG w.heap.size und55 inf64 (by rfl) (by decide) hown (Fresh.new (Nat.le_refl _) 0 0) ha.size (news := l.flatMap pairF) (by rw [flatMap_len _ 2 hlen]) (fun j u hu => ?_) (fun u hu => ?_) (by omega) (by omega) ?_
    · have hj := (List.getElem?_eq_some_iff.1 hu).1
      rw [flatMap_len _ 2 hlen] at hj
      have hi : j / 2 < l.length := by omega
      obtain ⟨a', us, he, hus, hcell, hrd⟩ := rRow.at hv1 (j / 2) hi
      cases he
      have := flatMap_at pairF 2 hlen l (j / 2) (j % 2) l[j / 2] (List.getElem?_eq_getElem hi) (by omega)
      rw [show j / 2 * 2 + j % 2 = j from by omega, hu] at this
      have h2 : us = pairF l[j / 2] := (pair_cells hrd).1
      subst h2
      have := hcell (j % 2) u this.symm
      rwa [Addr.add_add, show j / 2 * 2 + j % 2 = j from by omega] at this
    · obtain ⟨x, _, hx⟩ := List.mem_flatMap.1 hu
      simp only [pairF, List.mem_cons, List.not_mem_nil, or_false] at hx
      rcases hx with rfl | rfl <;> rfl
    intro v2 w2 ho2 hf2 hb2 _
    rw [Nat.zero_add, List.nil_append] at ho2
    rcases ho2.2 with ⟨he, h0⟩ | ⟨g, cap, cur, he, _⟩
    · subst he
      rw [h0] at ho2 ⊢
      exact ⟨none, 0, rfl, ho2, Fresh.nil _, ha.trans hb2⟩
    · subst he
      exact ⟨_, _, rfl, ho2, hf2, ha.trans hb2⟩
theorem CloneI_spec (v : Value) (l : List IntentT) (w : World) (hv : Intents w [v] l) (hl : l.length ≤ 100000) :
    CallP Try.prog 78 #[v] (fun r w' => ∃ A c, r = .slice A l.length c ∧ w'.ownsRow 0 68 3 (.slice A l.length c) l.length (l.flatMap intentF) ∧ Fresh w.heap.size (.slice A l.length c) ∧ Below w.heap.size w w') w := by
  have hv0 := hv
  obtain ⟨A, c, rfl, hc1, hc2⟩ := hv.slice
  refine ⟨S78.calls _ _ _ ?_⟩
  unfold S78
  refine ofPR (pr_slnil und56) ?_
  cases A with
  | none =>
    have h0 : l = [] := by
      cases l with
      | nil => rfl
      | cons p r => obtain ⟨a, us, h, _⟩ := rRow.at hv 0 (by simp); cases h
    subst h0
    simp only [Option.isNone_none]
    (repeat with_reducible first|refine z_a ?_|refine z_b ?_|refine z_c ?_|refine z_d ?_|refine z_e ?_|refine z_f ?_|refine z_g ?_|refine z_h ?_|refine z_i ?_|refine z_j ?_|refine z_k ?_|refine z_l ?_|refine z_m (by omega) ?_|refine z_n (by omega) ?_|refine z_o (by omega) ?_|refine z_p (by omega) ?_|refine z_q (by omega) ?_|refine z_r (by omega) ?_|refine z_s (by omega) ?_|refine z_t (by omega) ?_|refine z_u (by omega) ?_|refine z_v (by omega) ?_|refine z_w (by omega) ?_|refine z_x (by omega) ?_|refine z_y (by omega) ?_|refine z_z (by omega) ?_|refine z_A ?_|refine z_B ?_|refine z_C ?_|refine z_D ?_|refine z_E ?_|refine z_F ?_|refine z_G ?_|refine z_H ?_|refine z_I ?_|refine z_J ?_|refine z_K (by omega) (by decide) ?_|refine z_L (by omega) (by decide) ?_|refine z_M (by omega) ?_|refine z_N (by omega) ?_|refine z_O (by omega) ?_|refine z_P ?_|refine z_Q ?_|refine z_R ?_|refine z_S ?_|refine z_T ?_|refine z_U (by decide) ?_|refine z_V (by decide) ?_)
    exact ⟨none, 0, rfl, ⟨by simp, .inl ⟨rfl, rfl⟩⟩, Fresh.nil _, Below.refl _ w⟩
  | some a =>
    simp only [Option.isNone_some]
    (repeat with_reducible first|refine z_a ?_|refine z_b ?_|refine z_c ?_|refine z_d ?_|refine z_e ?_|refine z_f ?_|refine z_g ?_|refine z_h ?_|refine z_i ?_|refine z_j ?_|refine z_k ?_|refine z_l ?_|refine z_m (by omega) ?_|refine z_n (by omega) ?_|refine z_o (by omega) ?_|refine z_p (by omega) ?_|refine z_q (by omega) ?_|refine z_r (by omega) ?_|refine z_s (by omega) ?_|refine z_t (by omega) ?_|refine z_u (by omega) ?_|refine z_v (by omega) ?_|refine z_w (by omega) ?_|refine z_x (by omega) ?_|refine z_y (by omega) ?_|refine z_z (by omega) ?_|refine z_A ?_|refine z_B ?_|refine z_C ?_|refine z_D ?_|refine z_E ?_|refine z_F ?_|refine z_G ?_|refine z_H ?_|refine z_I ?_|refine z_J ?_|refine z_K (by omega) (by decide) ?_|refine z_L (by omega) (by decide) ?_|refine z_M (by omega) ?_|refine z_N (by omega) ?_|refine z_O (by omega) ?_|refine z_P ?_|refine z_Q ?_|refine z_R ?_|refine z_S ?_|refine z_T ?_|refine z_U (by decide) ?_|refine z_V (by decide) ?_)
    refine bs0 und56 sz68 ?_
    have ha : Below w.heap.size w (w.alloc (.cells #[] 68)) := (Below.refl _ _).alloc (Nat.le_refl _) _
    have hv1 := keeps_Intents _ _ _ _ ha hv
    have hlen : ∀ x, (intentF x).length = 3 := fun _ => rfl
    have hown : (w.alloc (.cells #[] 68)).ownsRow 0 68 3 (.slice (some ⟨w.heap.size, 0, none⟩) 0 0) 0 [] := ⟨by simp, .inr ⟨w.heap.size, 0, #[], rfl, Nat.zero_le _, heap_alloc_new w _, Nat.le_refl _, Nat.zero_le _, by simp, by simp⟩⟩
    refine apG w.heap.size und56 inf68 (by rfl) (by decide) hown (Fresh.new (Nat.le_refl _) 0 0) ha.size (news := l.flatMap intentF) (by rw [flatMap_len _ 3 hlen]) (fun j u hu => ?_) (fun u hu => ?_) (by omega) (by omega) ?_
    · have hj := (List.getElem?_eq_some_iff.1 hu).1
      rw [flatMap_len _ 3 hlen] at hj
      have hi : j / 3 < l.length := by omega
      obtain ⟨a', us, he, hus, hcell, hrd⟩ := rRow.at hv1 (j / 3) hi
      cases he
      have := flatMap_at intentF 3 hlen l (j / 3) (j % 3) l[j / 3] (List.getElem?_eq_getElem hi) (by omega)
      rw [show j / 3 * 3 + j % 3 = j from by omega, hu] at this
      have h2 : us = intentF l[j / 3] := (intent_cells hrd).1
      subst h2
      have := hcell (j % 3) u this.symm
      rwa [Addr.add_add, show j / 3 * 3 + j % 3 = j from by omega] at this
    · obtain ⟨x, _, hx⟩ := List.mem_flatMap.1 hu
      simp only [intentF, List.mem_cons, List.not_mem_nil, or_false] at hx
      rcases hx with rfl | rfl | rfl <;> rfl
    intro v2 w2 ho2 hf2 hb2 _
    rw [Nat.zero_add, List.nil_append] at ho2
    rcases ho2.2 with ⟨he, h0⟩ | ⟨g, cap, cur, he, _⟩
    · subst he
      rw [h0] at ho2 ⊢
      exact ⟨none, 0, rfl, ho2, Fresh.nil _, ha.trans hb2⟩
    · subst he
      exact ⟨_, _, rfl, ho2, hf2, ha.trans hb2⟩
theorem ClipP_spec {A : Option Addr} {n c : Nat} {cs : List Value} (w : World) (h : w.ownsRow 0 64 2 (.slice A n c) n cs) :
    CallP Try.prog 75 #[.slice A n c] (fun r w' => OwnS 2 64 w r n cs ∧ r.ownBlock = (Value.slice A n c).ownBlock ∧ w = w') w := by
  have hnc : n ≤ c := by
    rcases h.2 with ⟨he, h0⟩ | ⟨g, cap, cur, he, _, _, h1, _⟩
    · cases he; omega
    · cases he; exact h1
  refine ⟨S75.calls _ _ _ ?_⟩
  unfold S75
  refine ln und55 ?_
  refine ln und55 ?_
  refine ofPR (pr_cut und55 sz64 .no (.at _ _) (.at _ _) (Nat.zero_le _) (fun h => by cases h) (Nat.le_refl _) hnc (.inr (by simp))) ?_
  obtain ⟨h1, h2⟩ := ownS_cut h
  exact ⟨h1, h2, rfl⟩
theorem ClipI_spec {A : Option Addr} {n c : Nat} {cs : List Value} (w : World) (h : w.ownsRow 0 68 3 (.slice A n c) n cs) :
    CallP Try.prog 77 #[.slice A n c] (fun r w' => OwnS 3 68 w r n cs ∧ r.ownBlock = (Value.slice A n c).ownBlock ∧ w = w') w := by
  have hnc : n ≤ c := by
    rcases h.2 with ⟨he, h0⟩ | ⟨g, cap, cur, he, _, _, h1, _⟩
    · cases he; omega
    · cases he; exact h1
  refine ⟨S77.calls _ _ _ ?_⟩
  unfold S77
  refine ln und56 ?_
  refine ln und56 ?_
  refine ofPR (pr_cut und56 sz68 .no (.at _ _) (.at _ _) (Nat.zero_le _) (fun h => by cases h) (Nat.le_refl _) hnc (.inr (by simp))) ?_
  obtain ⟨h1, h2⟩ := ownS_cut h
  exact ⟨h1, h2, rfl⟩
theorem Check_spec (L : Let) (p q : Value) (ps : List PairT) (is : List IntentT) (w : World) (hp : Pairs w [p] ps) (hq : Intents w [q] is) :
    CallP Try.prog 59 #[.agg (L.cells p q)] (fun r w' => r = .int .i64 (packErr L ps is) ∧ Below w.heap.size w w') w := by
  refine ⟨S59.calls _ _ _ ?_⟩
  unfold S59
  refine bx ?_
  have hL : Blk (w.alloc (.cells (Value.agg (L.cells p q)).cells 58)) w.heap.size 58 (L.cells p q) := Blk.new w 58 _
  have ha := (Below.refl w.heap.size w).alloc (Nat.le_refl _) (.cells (Value.agg (L.cells p q)).cells 58)
  generalize w.alloc (.cells (Value.agg (L.cells p q)).cells 58) = w1 at *
  refine ldA agg58 hL (by exact sz58) ?_
  refine (Pack_spec L p q ps is w1 (keeps_Pairs _ _ _ _ ha hp) (keeps_Intents _ _ _ _ ha hq)).mono ?_
  rintro _ w2 ⟨⟨s, rfl⟩, hb2⟩
  (repeat with_reducible first|refine z_a ?_|refine z_b ?_|refine z_c ?_|refine z_d ?_|refine z_e ?_|refine z_f ?_|refine z_g ?_|refine z_h ?_|refine z_i ?_|refine z_j ?_|refine z_k ?_|refine z_l ?_|refine z_m (by omega) ?_|refine z_n (by omega) ?_|refine z_o (by omega) ?_|refine z_p (by omega) ?_|refine z_q (by omega) ?_|refine z_r (by omega) ?_|refine z_s (by omega) ?_|refine z_t (by omega) ?_|refine z_u (by omega) ?_|refine z_v (by omega) ?_|refine z_w (by omega) ?_|refine z_x (by omega) ?_|refine z_y (by omega) ?_|refine z_z (by omega) ?_|refine z_A ?_|refine z_B ?_|refine z_C ?_|refine z_D ?_|refine z_E ?_|refine z_F ?_|refine z_G ?_|refine z_H ?_|refine z_I ?_|refine z_J ?_|refine z_K (by omega) (by decide) ?_|refine z_L (by omega) (by decide) ?_|refine z_M (by omega) ?_|refine z_N (by omega) ?_|refine z_O (by omega) ?_|refine z_P ?_|refine z_Q ?_|refine z_R ?_|refine z_S ?_|refine z_T ?_|refine z_U (by decide) ?_|refine z_V (by decide) ?_)
  exact ⟨rfl, below_then ha hb2⟩
end Go.Proofs.Ythicbfopjakiiaa.E
namespace Go.Proofs.Ythicbfopjakiiaa.E
open Go Go.RowKit
set_option linter.unusedSimpArgs false
set_option linter.unusedVariables false

def zeroLet : Let := ⟨0, 0, 0, 0, 0, 0, 0, ⟨#[]⟩, ⟨#[]⟩, 0, false, ⟨#[]⟩⟩
theorem z58 : (Try.prog.info? 58).bind (·.zero) = some (.agg (zeroLet.cells (.slice none 0 0) (.slice none 0 0))) := by kernel_rfl
theorem sz55 : (Try.prog.info? 55).map (·.size) = some 1 := by kernel_rfl
theorem sz56 : (Try.prog.info? 56).map (·.size) = some 1 := by kernel_rfl
theorem cells_one (L : Let) (p q : Value) (hp : p.oneCell' = true) (hq : q.oneCell' = true) : (L.cells p q).all (·.oneCell') = true := by
  rw [← Array.all_toList]
  simp only [Let.cells, List.all_cons, hp, hq]
  rfl
theorem set9 (L : Let) (p q u : Value) : (L.cells p q).setIfInBounds 9 u = L.cells u q := rfl
theorem set10 (L : Let) (p q u : Value) : (L.cells p q).setIfInBounds 10 u = L.cells p u := rfl
theorem Copy_spec (L : Let) (p q : Value) (ps : List PairT) (is : List IntentT) (w : World) (hp : Pairs w [p] ps) (hq : Intents w [q] is) (hl : ps.length ≤ 100000) (hl2 : is.length ≤ 100000) :
    CallP Try.prog 61 #[.agg (L.cells p q)] (fun r w' => ∃ p' q', r = .agg (L.cells p' q') ∧ OwnS 2 64 w' p' ps.length (ps.flatMap pairF) ∧ OwnS 3 68 w' q' is.length (is.flatMap intentF) ∧ Fresh w.heap.size p' ∧ Fresh w.heap.size q' ∧ (p'.ownBlock = none ∨ p'.ownBlock ≠ q'.ownBlock) ∧ Below w.heap.size w w') w := by
  obtain ⟨A, cA, rfl, _, _⟩ := hp.slice
  obtain ⟨A', cA', rfl, _, _⟩ := hq.slice
  refine ⟨S61.calls _ _ _ ?_⟩
  unfold S61
  refine bx ?_
  have hL : Blk (w.alloc (.cells (Value.agg (L.cells (.slice A ps.length cA) (.slice A' is.length cA'))).cells 58)) w.heap.size 58 (L.cells (.slice A ps.length cA) (.slice A' is.length cA')) := Blk.new w 58 _
  have ha := (Below.refl w.heap.size w).alloc (Nat.le_refl _) (.cells (Value.agg (L.cells (.slice A ps.length cA) (.slice A' is.length cA'))).cells 58)
  generalize w.alloc (.cells (Value.agg (L.cells (.slice A ps.length cA) (.slice A' is.length cA'))).cells 58) = w1 at *
  have hs1 : w.heap.size < w1.heap.size := hL.lt
  refine al z58 ?_
  have hR : Blk (w1.alloc (.cells (Value.agg (zeroLet.cells (.slice none 0 0) (.slice none 0 0))).cells 58)) w1.heap.size 58 (zeroLet.cells (.slice none 0 0) (.slice none 0 0)) := Blk.new w1 58 _
  have ha2 := (Below.refl w1.heap.size w1).alloc (Nat.le_refl _) (.cells (Value.agg (zeroLet.cells (.slice none 0 0) (.slice none 0 0))).cells 58)
  have hL2 := hL.below' ha2
  generalize hg1 : w1.heap.size = g1 at *
  generalize w1.alloc (.cells (Value.agg (zeroLet.cells (.slice none 0 0) (.slice none 0 0))).cells 58) = w2 at *
  have hb2 : Below w.heap.size w w2 := ha.trans (ha2.mono (by omega))
  have c9 : w2.cell? ⟨w.heap.size, 9, none⟩ = some (.slice A ps.length cA) := hL2.cell 9
  (repeat with_reducible first | refine fd l9 (by decide) ?_| refine ld one55 c9 ?_|refine z_a ?_|refine z_b ?_|refine z_c ?_|refine z_d ?_|refine z_e ?_|refine z_f ?_|refine z_g ?_|refine z_h ?_|refine z_i ?_|refine z_j ?_|refine z_k ?_|refine z_l ?_|refine z_m (by omega) ?_|refine z_n (by omega) ?_|refine z_o (by omega) ?_|refine z_p (by omega) ?_|refine z_q (by omega) ?_|refine z_r (by omega) ?_|refine z_s (by omega) ?_|refine z_t (by omega) ?_|refine z_u (by omega) ?_|refine z_v (by omega) ?_|refine z_w (by omega) ?_|refine z_x (by omega) ?_|refine z_y (by omega) ?_|refine z_z (by omega) ?_|refine z_A ?_|refine z_B ?_|refine z_C ?_|refine z_D ?_|refine z_E ?_|refine z_F ?_|refine z_G ?_|refine z_H ?_|refine z_I ?_|refine z_J ?_|refine z_K (by omega) (by decide) ?_|refine z_L (by omega) (by decide) ?_|refine z_M (by omega) ?_|refine z_N (by omega) ?_|refine z_O (by omega) ?_|refine z_P ?_|refine z_Q ?_|refine z_R ?_|refine z_S ?_|refine z_T ?_|refine z_U (by decide) ?_|refine z_V (by decide) ?_)
  refine (CloneP_spec _ ps w2 (keeps_Pairs _ _ _ _ hb2 hp) hl).mono ?_
  rintro _ w3 ⟨A3, n3, rfl, ho3, hf3, hb3⟩
  refine (ClipP_spec w3 ho3).mono ?_
  rintro p4 _ ⟨ho4, hbl4, rfl⟩
  have hf4 : Fresh w2.heap.size p4 := fun k hk => hf3 k (by rw [← hbl4]; exact hk)
  have hL3 := hL2.below' hb3
  have hR3 := hR.below' hb3
  have hb3' := below_then hb2 hb3
  have h1p : p4.oneCell' = true := by obtain ⟨A, rfl⟩ := ho4.slice; rfl
  (repeat with_reducible first | refine fd l9 (by decide) ?_|refine z_a ?_|refine z_b ?_|refine z_c ?_|refine z_d ?_|refine z_e ?_|refine z_f ?_|refine z_g ?_|refine z_h ?_|refine z_i ?_|refine z_j ?_|refine z_k ?_|refine z_l ?_|refine z_m (by omega) ?_|refine z_n (by omega) ?_|refine z_o (by omega) ?_|refine z_p (by omega) ?_|refine z_q (by omega) ?_|refine z_r (by omega) ?_|refine z_s (by omega) ?_|refine z_t (by omega) ?_|refine z_u (by omega) ?_|refine z_v (by omega) ?_|refine z_w (by omega) ?_|refine z_x (by omega) ?_|refine z_y (by omega) ?_|refine z_z (by omega) ?_|refine z_A ?_|refine z_B ?_|refine z_C ?_|refine z_D ?_|refine z_E ?_|refine z_F ?_|refine z_G ?_|refine z_H ?_|refine z_I ?_|refine z_J ?_|refine z_K (by omega) (by decide) ?_|refine z_L (by omega) (by decide) ?_|refine z_M (by omega) ?_|refine z_N (by omega) ?_|refine z_O (by omega) ?_|refine z_P ?_|refine z_Q ?_|refine z_R ?_|refine z_S ?_|refine z_T ?_|refine z_U (by decide) ?_|refine z_V (by decide) ?_)
  refine st sz55 h1p (by rw [hL3.cell 9]; rfl) (hL3.frozen 9) ?_
  have hs3 := hb3.size
  have hs2 := hR.lt
  have hT := Turns.setCell (F := fun k => k = w.heap.size) (p := ⟨w.heap.size, 9, none⟩) (Turns.refl _ w3) (.inl rfl) p4
  have hL4 := hL3.set_ 9 p4
  rw [set9] at hL4
  have hR4 := hR3.turns hT (by omega)
  have ho5 := ho4.turns hT (fun k hk he => by have := hf4 k hk; omega)
  have hb4 : Below w.heap.size w (w3.setCell ⟨w.heap.size, 9, none⟩ p4) := hb3'.setCell (p := ⟨w.heap.size, 9, none⟩) (Nat.le_refl _) p4
  have hsz4 : (w3.setCell ⟨w.heap.size, 9, none⟩ p4).heap.size = w3.heap.size := by simp [World.setCell]
  generalize w3.setCell ⟨w.heap.size, 9, none⟩ p4 = w4 at *
  have c10 : w4.cell? ⟨w.heap.size, 10, none⟩ = some (.slice A' is.length cA') := hL4.cell 10
  (repeat with_reducible first | refine fd l10 (by decide) ?_| refine ld one56 c10 ?_|refine z_a ?_|refine z_b ?_|refine z_c ?_|refine z_d ?_|refine z_e ?_|refine z_f ?_|refine z_g ?_|refine z_h ?_|refine z_i ?_|refine z_j ?_|refine z_k ?_|refine z_l ?_|refine z_m (by omega) ?_|refine z_n (by omega) ?_|refine z_o (by omega) ?_|refine z_p (by omega) ?_|refine z_q (by omega) ?_|refine z_r (by omega) ?_|refine z_s (by omega) ?_|refine z_t (by omega) ?_|refine z_u (by omega) ?_|refine z_v (by omega) ?_|refine z_w (by omega) ?_|refine z_x (by omega) ?_|refine z_y (by omega) ?_|refine z_z (by omega) ?_|refine z_A ?_|refine z_B ?_|refine z_C ?_|refine z_D ?_|refine z_E ?_|refine z_F ?_|refine z_G ?_|refine z_H ?_|refine z_I ?_|refine z_J ?_|refine z_K (by omega) (by decide) ?_|refine z_L (by omega) (by decide) ?_|refine z_M (by omega) ?_|refine z_N (by omega) ?_|refine z_O (by omega) ?_|refine z_P ?_|refine z_Q ?_|refine z_R ?_|refine z_S ?_|refine z_T ?_|refine z_U (by decide) ?_|refine z_V (by decide) ?_)
  refine (CloneI_spec _ is w4 (keeps_Intents _ _ _ _ hb4 hq) hl2).mono ?_
  rintro _ w5 ⟨A6, n6, rfl, ho6, hf6, hb5⟩
  refine (ClipI_spec w5 ho6).mono ?_
  rintro q7 _ ⟨ho7, hbl7, rfl⟩
  have hf7 : Fresh w4.heap.size q7 := fun k hk => hf6 k (by rw [← hbl7]; exact hk)
  have hL5 := hL4.below' hb5
  have hR5 := hR4.below' hb5
  have hb5' := below_then hb4 hb5
  have ho5' := ho5.below hb5
  have h1q : q7.oneCell' = true := by obtain ⟨A, rfl⟩ := ho7.slice; rfl
  (repeat with_reducible first | refine fd l10 (by decide) ?_|refine z_a ?_|refine z_b ?_|refine z_c ?_|refine z_d ?_|refine z_e ?_|refine z_f ?_|refine z_g ?_|refine z_h ?_|refine z_i ?_|refine z_j ?_|refine z_k ?_|refine z_l ?_|refine z_m (by omega) ?_|refine z_n (by omega) ?_|refine z_o (by omega) ?_|refine z_p (by omega) ?_|refine z_q (by omega) ?_|refine z_r (by omega) ?_|refine z_s (by omega) ?_|refine z_t (by omega) ?_|refine z_u (by omega) ?_|refine z_v (by omega) ?_|refine z_w (by omega) ?_|refine z_x (by omega) ?_|refine z_y (by omega) ?_|refine z_z (by omega) ?_|refine z_A ?_|refine z_B ?_|refine z_C ?_|refine z_D ?_|refine z_E ?_|refine z_F ?_|refine z_G ?_|refine z_H ?_|refine z_I ?_|refine z_J ?_|refine z_K (by omega) (by decide) ?_|refine z_L (by omega) (by decide) ?_|refine z_M (by omega) ?_|refine z_N (by omega) ?_|refine z_O (by omega) ?_|refine z_P ?_|refine z_Q ?_|refine z_R ?_|refine z_S ?_|refine z_T ?_|refine z_U (by decide) ?_|refine z_V (by decide) ?_)
  refine st sz56 h1q (by rw [hL5.cell 10]; rfl) (hL5.frozen 10) ?_
  have hT2 := Turns.setCell (F := fun k => k = w.heap.size) (p := ⟨w.heap.size, 10, none⟩) (Turns.refl _ w5) (.inl rfl) q7
  have hL6 := hL5.set_ 10 q7
  rw [set10] at hL6
  have hR6 := hR5.turns hT2 (by omega)
  have ho8 := ho5'.turns hT2 (fun k hk he => by have := hf4 k hk; omega)
  have ho9 := ho7.turns hT2 (fun k hk he => by have := hf7 k hk; omega)
  have hb6 : Below w.heap.size w (w5.setCell ⟨w.heap.size, 10, none⟩ q7) := hb5'.setCell (p := ⟨w.heap.size, 10, none⟩) (Nat.le_refl _) q7
  generalize w5.setCell ⟨w.heap.size, 10, none⟩ q7 = w6 at *
  refine ldA agg58 hL6 (by exact sz58) ?_
  refine stA hR6 (by exact sz58) (by rfl) (cells_one _ _ _ h1p h1q) ?_
  have hR7 := hR6.row (L.cells p4 q7)
  have hT3 : Turns (fun k => k = g1) w6 (w6.setRow g1 (L.cells p4 q7)) := Turns.setRow (F := fun k => k = g1) (Turns.refl _ w6) (.inl rfl) _
  have hb7 := hb6.trans (hT3.below hb6.size fun k hk he => by omega)
  refine retA agg58 hR7 (by exact sz58) ?_
  refine ⟨p4, q7, rfl, ho8.turns hT3 (fun k hk he => by have := hf4 k hk; omega), ho9.turns hT3 (fun k hk he => by have := hf7 k hk; omega), fun k hk => by have := hf4 k hk; omega, fun k hk => by have := hf7 k hk; omega, ?_, hb7⟩
  cases hq4 : p4.ownBlock with
  | none => exact .inl rfl
  | some k =>
    right
    intro he
    have h1 := ho4.lt hq4
    have h2 := hf7 k he.symm
    omega
end Go.Proofs.Ythicbfopjakiiaa.E
