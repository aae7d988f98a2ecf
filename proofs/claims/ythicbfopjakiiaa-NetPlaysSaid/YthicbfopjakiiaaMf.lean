import Derived.Test.YthicbfopjakiiaaMe
import Derived.Test.YthicbfopjakiiaaMb
import Derived.Test.YthicbfopjakiiaaM1
import Derived.Test.YthicbfopjakiiaaProg
import Derived.KernelRfl
namespace Go.Proofs.Ythicbfopjakiiaa.E
open Go Go.RowKit
set_option linter.unusedSimpArgs false
set_option linter.unusedVariables false

theorem inf64 : (Try.prog.info? 64).map (fun i => (i.zero, i.size, i.bytes)) = some (some (.agg #[.string ⟨#[]⟩, .string ⟨#[]⟩]), 2, 32) := by kernel_rfl
theorem inf68 : (Try.prog.info? 68).map (fun i => (i.zero, i.size, i.bytes)) = some (some (.agg #[.string ⟨#[]⟩, .int .i64 0, .bool false]), 3, 32) := by kernel_rfl
abbrev PairT := ByteArray × ByteArray × Unit
abbrev IntentT := ByteArray × Int × Bool × Unit
def pairF (p : PairT) : List Value := [.string p.1, .string p.2.1]
def intentF (p : IntentT) : List Value := [.string p.1, .int .i64 p.2.1, .bool p.2.2.1]
theorem CloneP_spec (v : Value) (l : List PairT) (w : World) (hv : Pairs w [v] l) (hl : l.length ≤ 100000) :
    CallP Try.prog 76 #[v] (fun r w' => ∃ A c, r = .slice A l.length c ∧ w'.ownsRow 0 64 2 (.slice A l.length c) l.length (l.flatMap pairF) ∧ Fresh w.heap.size (.slice A l.length c) ∧ Below w.heap.size w w') w := by
  have hv0 := hv
  obtain ⟨A, c, rfl, hc1, hc2⟩ := hv.slice
  refine ⟨S76.calls _ _ _ ?_⟩
  unfold S76
  refine ofPR (pr_slnil und55) ?_
  cases A with
  | none =>
    have h0 : l = [] := by
      cases l with
      | nil => rfl
      | cons p r => obtain ⟨a, us, h, _⟩ := rRow.at hv 0 (by simp); cases h
    subst h0
    simp only [Option.isNone_none]
    (repeat with_reducible first|refine z_a ?_|refine z_b ?_|refine z_c ?_|refine z_d ?_|refine z_e ?_|refine z_f ?_|refine z_g ?_|refine z_h ?_|refine z_i ?_|refine z_j ?_|refine z_k ?_|refine z_l ?_|refine z_m (by omega) ?_|refine z_n (by omega) ?_|refine z_o (by omega) ?_|refine z_p (by omega) ?_|refine z_q (by omega) ?_|refine z_r (by omega) ?_|refine z_s (by omega) ?_|refine z_t (by omega) ?_|refine z_u (by omega) ?_|refine z_v (by omega) ?_|refine z_w (by omega) ?_|refine z_x (by omega) ?_|refine z_y (by omega) ?_|refine z_z (by omega) ?_|refine z_A ?_|refine z_B ?_|refine z_C ?_|refine z_D ?_|refine z_E ?_|refine z_F ?_|refine z_G ?_|refine z_H ?_|refine z_I ?_|refine z_J ?_|refine z_K (by omega) (by decide) ?_|refine z_L (by omega) (by decide) ?_|refine z_M (by omega) ?_|refine z_N (by omega) ?_|refine z_O (by omega) ?_|refine z_P ?_|refine z_Q ?_|refine z_R ?_|refine z_S ?_|refine z_T ?_|refine z_U (by decide) ?_|refine z_V (by decide) ?_)
    exact ⟨none, 0, rfl, ⟨by simp, .inl ⟨rfl, rfl⟩⟩, Fresh.nil _, Below.refl _ w⟩
  | some a =>
    simp only [Option.isNone_some]
    (repeat with_reducible first|refine z_a ?_|refine z_b ?_|refine z_c ?_|refine z_d ?_|refine z_e ?_|refine z_f ?_|refine z_g ?_|refine z_h ?_|refine z_i ?_|refine z_j ?_|refine z_k ?_|refine z_l ?_|refine z_m (by omega) ?_|refine z_n (by omega) ?_|refine z_o (by omega) ?_|refine z_p (by omega) ?_|refine z_q (by omega) ?_|refine z_r (by omega) ?_|refine z_s (by omega) ?_|refine z_t (by omega) ?_|refine z_u (by omega) ?_|refine z_v (by omega) ?_|refine z_w (by omega) ?_|refine z_x (by omega) ?_|refine z_y (by omega) ?_|refine z_z (by omega) ?_|refine z_A ?_|refine z_B ?_|refine z_C ?_|refine z_D ?_|refine z_E ?_|refine z_F ?_|refine z_G ?_|refine z_H ?_|refine z_I ?_|refine z_J ?_|refine z_K (by omega) (by decide) ?_|refine z_L (by omega) (by decide) ?_|refine z_M (by omega) ?_|refine z_N (by omega) ?_|refine z_O (by omega) ?_|refine z_P ?_|refine z_Q ?_|refine z_R ?_|refine z_S ?_|refine z_T ?_|refine z_U (by decide) ?_|refine z_V (by decide) ?_)
    refine bs0 und55 sz64 ?_
    have ha : Below w.heap.size w (w.alloc (.cells #[] 64)) := (Below.refl _ _).alloc (Nat.le_refl _) _
    have hv1 := keeps_Pairs _ _ _ _ ha hv
    have hlen : ∀ x, (pairF x).length = 2 := fun _ => rfl
    have hown : (w.alloc (.cells #[] 64)).ownsRow 0 64 2 (.slice (some ⟨w.heap.size, 0, none⟩) 0 0) 0 [] := ⟨by simp, .inr ⟨w.heap.size, 0, #[], rfl, Nat.zero_le _, heap_alloc_new w _, Nat.le_refl _, Nat.zero_le _, by simp, by simp⟩⟩
    refine apG w.heap.size und55 inf64 (by rfl) (by decide) hown (Fresh.new (Nat.le_refl _) 0 0) ha.size (news := l.flatMap pairF) (by rw [flatMap_len _ 2 hlen]) (fun j u hu => ?_) (fun u hu => ?_) (by omega) (by omega) ?_
    · have hj := (List.getElem?_eq_some_iff.1 hu).1
      rw [flatMap_len _ 2 hlen] at hj
      have hi : j / 2 < l.length := by omega
      obtain ⟨a', us, he, hus, hcell, hrd⟩ := rRow.at hv1 (j / 2) hi
      cases he
      have := flatMap_at pairF 2 hlen l (j / 2) (j % 2) l[j / 2] (List.getElem?_eq_getElem hi) (by omega)
      rw [show j / 2 * 2 + j % 2 = j from by omega, hu] at this
      have h2 : us = pairF l[j / 2] := (pair_cells hrd).1
      subst h2
      have := hcell (j % 2) u this.symm
      rwa [Addr.add_add, show j / 2 * 2 + j % 2 = j from by omega] at this
    · obtain ⟨x, _, hx⟩ := List.mem_flatMap.1 hu
      simp only [pairF, List.mem_cons, List.not_mem_nil, or_false] at hx
      rcases hx with rfl | rfl <;> rfl
    intro v2 w2 ho2 hf2 hb2 _
    rw [Nat.zero_add, List.nil_append] at ho2
    rcases ho2.2 with ⟨he, h0⟩ | ⟨g, cap, cur, he, _⟩
    · subst he
      rw [h0] at ho2 ⊢
      exact ⟨none, 0, rfl, ho2, Fresh.nil _, ha.trans hb2⟩
    · subst he
      exact ⟨_, _, rfl, ho2, hf2, ha.trans hb2⟩
theorem CloneI_spec (v : Value) (l : List IntentT) (w : World) (hv : Intents w [v] l) (hl : l.length ≤ 100000) :
    CallP Try.prog 78 #[v] (fun r w' => ∃ A c, r = .slice A l.length c ∧ w'.ownsRow 0 68 3 (.slice A l.length c) l.length (l.flatMap intentF) ∧ Fresh w.heap.size (.slice A l.length c) ∧ Below w.heap.size w w') w := by
  have hv0 := hv
  obtain ⟨A, c, rfl, hc1, hc2⟩ := hv.slice
  refine ⟨S78.calls _ _ _ ?_⟩
  unfold S78
  refine ofPR (pr_slnil und56) ?_
  cases A with
  | none =>
    have h0 : l = [] := by
      cases l with
      | nil => rfl
      | cons p r => obtain ⟨a, us, h, _⟩ := rRow.at hv 0 (by simp); cases h
    subst h0
    simp only [Option.isNone_none]
    (repeat with_reducible first|refine z_a ?_|refine z_b ?_|refine z_c ?_|refine z_d ?_|refine z_e ?_|refine z_f ?_|refine z_g ?_|refine z_h ?_|refine z_i ?_|refine z_j ?_|refine z_k ?_|refine z_l ?_|refine z_m (by omega) ?_|refine z_n (by omega) ?_|refine z_o (by omega) ?_|refine z_p (by omega) ?_|refine z_q (by omega) ?_|refine z_r (by omega) ?_|refine z_s (by omega) ?_|refine z_t (by omega) ?_|refine z_u (by omega) ?_|refine z_v (by omega) ?_|refine z_w (by omega) ?_|refine z_x (by omega) ?_|refine z_y (by omega) ?_|refine z_z (by omega) ?_|refine z_A ?_|refine z_B ?_|refine z_C ?_|refine z_D ?_|refine z_E ?_|refine z_F ?_|refine z_G ?_|refine z_H ?_|refine z_I ?_|refine z_J ?_|refine z_K (by omega) (by decide) ?_|refine z_L (by omega) (by decide) ?_|refine z_M (by omega) ?_|refine z_N (by omega) ?_|refine z_O (by omega) ?_|refine z_P ?_|refine z_Q ?_|refine z_R ?_|refine z_S ?_|refine z_T ?_|refine z_U (by decide) ?_|refine z_V (by decide) ?_)
    exact ⟨none, 0, rfl, ⟨by simp, .inl ⟨rfl, rfl⟩⟩, Fresh.nil _, Below.refl _ w⟩
  | some a =>
    simp only [Option.isNone_some]
    (repeat with_reducible first|refine z_a ?_|refine z_b ?_|refine z_c ?_|refine z_d ?_|refine z_e ?_|refine z_f ?_|refine z_g ?_|refine z_h ?_|refine z_i ?_|refine z_j ?_|refine z_k ?_|refine z_l ?_|refine z_m (by omega) ?_|refine z_n (by omega) ?_|refine z_o (by omega) ?_|refine z_p (by omega) ?_|refine z_q (by omega) ?_|refine z_r (by omega) ?_|refine z_s (by omega) ?_|refine z_t (by omega) ?_|refine z_u (by omega) ?_|refine z_v (by omega) ?_|refine z_w (by omega) ?_|refine z_x (by omega) ?_|refine z_y (by omega) ?_|refine z_z (by omega) ?_|refine z_A ?_|refine z_B ?_|refine z_C ?_|refine z_D ?_|refine z_E ?_|refine z_F ?_|refine z_G ?_|refine z_H ?_|refine z_I ?_|refine z_J ?_|refine z_K (by omega) (by decide) ?_|refine z_L (by omega) (by decide) ?_|refine z_M (by omega) ?_|refine z_N (by omega) ?_|refine z_O (by omega) ?_|refine z_P ?_|refine z_Q ?_|refine z_R ?_|refine z_S ?_|refine z_T ?_|refine z_U (by decide) ?_|refine z_V (by decide) ?_)
    refine bs0 und56 sz68 ?_
    have ha : Below w.heap.size w (w.alloc (.cells #[] 68)) := (Below.refl _ _).alloc (Nat.le_refl _) _
    have hv1 := keeps_Intents _ _ _ _ ha hv
    have hlen : ∀ x, (intentF x).length = 3 := fun _ => rfl
    have hown : (w.alloc (.cells #[] 68)).ownsRow 0 68 3 (.slice (some ⟨w.heap.size, 0, none⟩) 0 0) 0 [] := ⟨by simp, .inr ⟨w.heap.size, 0, #[], rfl, Nat.zero_le _, heap_alloc_new w _, Nat.le_refl _, Nat.zero_le _, by simp, by simp⟩⟩
    refine apG w.heap.size und56 inf68 (by rfl) (by decide) hown (Fresh.new (Nat.le_refl _) 0 0) ha.size (news := l.flatMap intentF) (by rw [flatMap_len _ 3 hlen]) (fun j u hu => ?_) (fun u hu => ?_) (by omega) (by omega) ?_
    · have hj := (List.getElem?_eq_some_iff.1 hu).1
      rw [flatMap_len _ 3 hlen] at hj
      have hi : j / 3 < l.length := by omega
      obtain ⟨a', us, he, hus, hcell, hrd⟩ := rRow.at hv1 (j / 3) hi
      cases he
      have := flatMap_at intentF 3 hlen l (j / 3) (j % 3) l[j / 3] (List.getElem?_eq_getElem hi) (by omega)
      rw [show j / 3 * 3 + j % 3 = j from by omega, hu] at this
      have h2 : us = intentF l[j / 3] := (intent_cells hrd).1
      subst h2
      have := hcell (j % 3) u this.symm
      rwa [Addr.add_add, show j / 3 * 3 + j % 3 = j from by omega] at this
    · obtain ⟨x, _, hx⟩ := List.mem_flatMap.1 hu
      simp only [intentF, List.mem_cons, List.not_mem_nil, or_false] at hx
      rcases hx with rfl | rfl | rfl <;> rfl
    intro v2 w2 ho2 hf2 hb2 _
    rw [Nat.zero_add, List.nil_append] at ho2
    rcases ho2.2 with ⟨he, h0⟩ | ⟨g, cap, cur, he, _⟩
    · subst he
      rw [h0] at ho2 ⊢
      exact ⟨none, 0, rfl, ho2, Fresh.nil _, ha.trans hb2⟩
    · subst he
      exact ⟨_, _, rfl, ho2, hf2, ha.trans hb2⟩
theorem ClipP_spec {A : Option Addr} {n c : Nat} {cs : List Value} (w : World) (h : w.ownsRow 0 64 2 (.slice A n c) n cs) :
    CallP Try.prog 75 #[.slice A n c] (fun r w' => OwnS 2 64 w r n cs ∧ r.ownBlock = (Value.slice A n c).ownBlock ∧ w = w') w := by
  have hnc : n ≤ c := by
    rcases h.2 with ⟨he, h0⟩ | ⟨g, cap, cur, he, _, _, h1, _⟩
    · cases he; omega
    · cases he; exact h1
  refine ⟨S75.calls _ _ _ ?_⟩
  unfold S75
  refine ln und55 ?_
  refine ln und55 ?_
  refine ofPR (pr_cut und55 sz64 .no (.at _ _) (.at _ _) (Nat.zero_le _) (fun h => by cases h) (Nat.le_refl _) hnc (.inr (by simp))) ?_
  obtain ⟨h1, h2⟩ := ownS_cut h
  exact ⟨h1, h2, rfl⟩
theorem ClipI_spec {A : Option Addr} {n c : Nat} {cs : List Value} (w : World) (h : w.ownsRow 0 68 3 (.slice A n c) n cs) :
    CallP Try.prog 77 #[.slice A n c] (fun r w' => OwnS 3 68 w r n cs ∧ r.ownBlock = (Value.slice A n c).ownBlock ∧ w = w') w := by
  have hnc : n ≤ c := by
    rcases h.2 with ⟨he, h0⟩ | ⟨g, cap, cur, he, _, _, h1, _⟩
    · cases he; omega
    · cases he; exact h1
  refine ⟨S77.calls _ _ _ ?_⟩
  unfold S77
  refine ln und56 ?_
  refine ln und56 ?_
  refine ofPR (pr_cut und56 sz68 .no (.at _ _) (.at _ _) (Nat.zero_le _) (fun h => by cases h) (Nat.le_refl _) hnc (.inr (by simp))) ?_
  obtain ⟨h1, h2⟩ := ownS_cut h
  exact ⟨h1, h2, rfl⟩
theorem Check_spec (L : Let) (p q : Value) (ps : List PairT) (is : List IntentT) (w : World) (hp : Pairs w [p] ps) (hq : Intents w [q] is) :
    CallP Try.prog 59 #[.agg (L.cells p q)] (fun r w' => r = .int .i64 (packErr L ps is) ∧ Below w.heap.size w w') w := by
  refine ⟨S59.calls _ _ _ ?_⟩
  unfold S59
  refine bx ?_
  have hL : Blk (w.alloc (.cells (Value.agg (L.cells p q)).cells 58)) w.heap.size 58 (L.cells p q) := Blk.new w 58 _
  have ha := (Below.refl w.heap.size w).alloc (Nat.le_refl _) (.cells (Value.agg (L.cells p q)).cells 58)
  generalize w.alloc (.cells (Value.agg (L.cells p q)).cells 58) = w1 at *
  refine ldA agg58 hL (by exact sz58) ?_
  refine (Pack_spec L p q ps is w1 (keeps_Pairs _ _ _ _ ha hp) (keeps_Intents _ _ _ _ ha hq)).mono ?_
  rintro _ w2 ⟨⟨s, rfl⟩, hb2⟩
  (repeat with_reducible first|refine z_a ?_|refine z_b ?_|refine z_c ?_|refine z_d ?_|refine z_e ?_|refine z_f ?_|refine z_g ?_|refine z_h ?_|refine z_i ?_|refine z_j ?_|refine z_k ?_|refine z_l ?_|refine z_m (by omega) ?_|refine z_n (by omega) ?_|refine z_o (by omega) ?_|refine z_p (by omega) ?_|refine z_q (by omega) ?_|refine z_r (by omega) ?_|refine z_s (by omega) ?_|refine z_t (by omega) ?_|refine z_u (by omega) ?_|refine z_v (by omega) ?_|refine z_w (by omega) ?_|refine z_x (by omega) ?_|refine z_y (by omega) ?_|refine z_z (by omega) ?_|refine z_A ?_|refine z_B ?_|refine z_C ?_|refine z_D ?_|refine z_E ?_|refine z_F ?_|refine z_G ?_|refine z_H ?_|refine z_I ?_|refine z_J ?_|refine z_K (by omega) (by decide) ?_|refine z_L (by omega) (by decide) ?_|refine z_M (by omega) ?_|refine z_N (by omega) ?_|refine z_O (by omega) ?_|refine z_P ?_|refine z_Q ?_|refine z_R ?_|refine z_S ?_|refine z_T ?_|refine z_U (by decide) ?_|refine z_V (by decide) ?_)
  exact ⟨rfl, below_then ha hb2⟩
end Go.Proofs.Ythicbfopjakiiaa.E
namespace Go.Proofs.Ythicbfopjakiiaa.E
open Go Go.RowKit
set_option linter.unusedSimpArgs false
set_option linter.unusedVariables false

def zeroLet : Let := ⟨0, 0, 0, 0, 0, 0, 0, ⟨#[]⟩, ⟨#[]⟩, 0, false, ⟨#[]⟩⟩
theorem z58 : (Try.prog.info? 58).bind (·.zero) = some (.agg (zeroLet.cells (.slice none 0 0) (.slice none 0 0))) := by kernel_rfl
theorem sz55 : (Try.prog.info? 55).map (·.size) = some 1 := by kernel_rfl
theorem sz56 : (Try.prog.info? 56).map (·.size) = some 1 := by kernel_rfl
theorem cells_one (L : Let) (p q : Value) (hp : p.oneCell' = true) (hq : q.oneCell' = true) : (L.cells p q).all (·.oneCell') = true := by
  rw [← Array.all_toList]
  simp only [Let.cells, List.all_cons, hp, hq]
  rfl
theorem set9 (L : Let) (p q u : Value) : (L.cells p q).setIfInBounds 9 u = L.cells u q := rfl
theorem set10 (L : Let) (p q u : Value) : (L.cells p q).setIfInBounds 10 u = L.cells p u := rfl
theorem Copy_spec (L : Let) (p q : Value) (ps : List PairT) (is : List IntentT) (w : World) (hp : Pairs w [p] ps) (hq : Intents w [q] is) (hl : ps.length ≤ 100000) (hl2 : is.length ≤ 100000) :
    CallP Try.prog 61 #[.agg (L.cells p q)] (fun r w' => ∃ p' q', r = .agg (L.cells p' q') ∧ OwnS 2 64 w' p' ps.length (ps.flatMap pairF) ∧ OwnS 3 68 w' q' is.length (is.flatMap intentF) ∧ Fresh w.heap.size p' ∧ Fresh w.heap.size q' ∧ (p'.ownBlock = none ∨ p'.ownBlock ≠ q'.ownBlock) ∧ Below w.heap.size w w') w := by
  obtain ⟨A, cA, rfl, _, _⟩ := hp.slice
  obtain ⟨A', cA', rfl, _, _⟩ := hq.slice
  refine ⟨S61.calls _ _ _ ?_⟩
  unfold S61
  refine bx ?_
  have hL : Blk (w.alloc (.cells (Value.agg (L.cells (.slice A ps.length cA) (.slice A' is.length cA'))).cells 58)) w.heap.size 58 (L.cells (.slice A ps.length cA) (.slice A' is.length cA')) := Blk.new w 58 _
  have ha := (Below.refl w.heap.size w).alloc (Nat.le_refl _) (.cells (Value.agg (L.cells (.slice A ps.length cA) (.slice A' is.length cA'))).cells 58)
  generalize w.alloc (.cells (Value.agg (L.cells (.slice A ps.length cA) (.slice A' is.length cA'))).cells 58) = w1 at *
  have hs1 : w.heap.size < w1.heap.size := hL.lt
  refine al z58 ?_
  have hR : Blk (w1.alloc (.cells (Value.agg (zeroLet.cells (.slice none 0 0) (.slice none 0 0))).cells 58)) w1.heap.size 58 (zeroLet.cells (.slice none 0 0) (.slice none 0 0)) := Blk.new w1 58 _
  have ha2 := (Below.refl w1.heap.size w1).alloc (Nat.le_refl _) (.cells (Value.agg (zeroLet.cells (.slice none 0 0) (.slice none 0 0))).cells 58)
  have hL2 := hL.below' ha2
  generalize hg1 : w1.heap.size = g1 at *
  generalize w1.alloc (.cells (Value.agg (zeroLet.cells (.slice none 0 0) (.slice none 0 0))).cells 58) = w2 at *
  have hb2 : Below w.heap.size w w2 := ha.trans (ha2.mono (by omega))
  have c9 : w2.cell? ⟨w.heap.size, 9, none⟩ = some (.slice A ps.length cA) := hL2.cell 9
  (repeat with_reducible first | refine fd l9 (by decide) ?_| refine ld one55 c9 ?_|refine z_a ?_|refine z_b ?_|refine z_c ?_|refine z_d ?_|refine z_e ?_|refine z_f ?_|refine z_g ?_|refine z_h ?_|refine z_i ?_|refine z_j ?_|refine z_k ?_|refine z_l ?_|refine z_m (by omega) ?_|refine z_n (by omega) ?_|refine z_o (by omega) ?_|refine z_p (by omega) ?_|refine z_q (by omega) ?_|refine z_r (by omega) ?_|refine z_s (by omega) ?_|refine z_t (by omega) ?_|refine z_u (by omega) ?_|refine z_v (by omega) ?_|refine z_w (by omega) ?_|refine z_x (by omega) ?_|refine z_y (by omega) ?_|refine z_z (by omega) ?_|refine z_A ?_|refine z_B ?_|refine z_C ?_|refine z_D ?_|refine z_E ?_|refine z_F ?_|refine z_G ?_|refine z_H ?_|refine z_I ?_|refine z_J ?_|refine z_K (by omega) (by decide) ?_|refine z_L (by omega) (by decide) ?_|refine z_M (by omega) ?_|refine z_N (by omega) ?_|refine z_O (by omega) ?_|refine z_P ?_|refine z_Q ?_|refine z_R ?_|refine z_S ?_|refine z_T ?_|refine z_U (by decide) ?_|refine z_V (by decide) ?_)
  refine (CloneP_spec _ ps w2 (keeps_Pairs _ _ _ _ hb2 hp) hl).mono ?_
  rintro _ w3 ⟨A3, n3, rfl, ho3, hf3, hb3⟩
  refine (ClipP_spec w3 ho3).mono ?_
  rintro p4 _ ⟨ho4, hbl4, rfl⟩
  have hf4 : Fresh w2.heap.size p4 := fun k hk => hf3 k (by rw [← hbl4]; exact hk)
  have hL3 := hL2.below' hb3
  have hR3 := hR.below' hb3
  have hb3' := below_then hb2 hb3
  have h1p : p4.oneCell' = true := by obtain ⟨A, rfl⟩ := ho4.slice; rfl
  (repeat with_reducible first | refine fd l9 (by decide) ?_|refine z_a ?_|refine z_b ?_|refine z_c ?_|refine z_d ?_|refine z_e ?_|refine z_f ?_|refine z_g ?_|refine z_h ?_|refine z_i ?_|refine z_j ?_|refine z_k ?_|refine z_l ?_|refine z_m (by omega) ?_|refine z_n (by omega) ?_|refine z_o (by omega) ?_|refine z_p (by omega) ?_|refine z_q (by omega) ?_|refine z_r (by omega) ?_|refine z_s (by omega) ?_|refine z_t (by omega) ?_|refine z_u (by omega) ?_|refine z_v (by omega) ?_|refine z_w (by omega) ?_|refine z_x (by omega) ?_|refine z_y (by omega) ?_|refine z_z (by omega) ?_|refine z_A ?_|refine z_B ?_|refine z_C ?_|refine z_D ?_|refine z_E ?_|refine z_F ?_|refine z_G ?_|refine z_H ?_|refine z_I ?_|refine z_J ?_|refine z_K (by omega) (by decide) ?_|refine z_L (by omega) (by decide) ?_|refine z_M (by omega) ?_|refine z_N (by omega) ?_|refine z_O (by omega) ?_|refine z_P ?_|refine z_Q ?_|refine z_R ?_|refine z_S ?_|refine z_T ?_|refine z_U (by decide) ?_|refine z_V (by decide) ?_)
  refine st sz55 h1p (by rw [hL3.cell 9]; rfl) (hL3.frozen 9) ?_
  have hs3 := hb3.size
  have hs2 := hR.lt
  have hT := Turns.setCell (F := fun k => k = w.heap.size) (p := ⟨w.heap.size, 9, none⟩) (Turns.refl _ w3) (.inl rfl) p4
  have hL4 := hL3.set_ 9 p4
  rw [set9] at hL4
  have hR4 := hR3.turns hT (by omega)
  have ho5 := ho4.turns hT (fun k hk he => by have := hf4 k hk; omega)
  have hb4 : Below w.heap.size w (w3.setCell ⟨w.heap.size, 9, none⟩ p4) := hb3'.setCell (p := ⟨w.heap.size, 9, none⟩) (Nat.le_refl _) p4
  have hsz4 : (w3.setCell ⟨w.heap.size, 9, none⟩ p4).heap.size = w3.heap.size := by simp [World.setCell]
  generalize w3.setCell ⟨w.heap.size, 9, none⟩ p4 = w4 at *
  have c10 : w4.cell? ⟨w.heap.size, 10, none⟩ = some (.slice A' is.length cA') := hL4.cell 10
  (repeat with_reducible first | refine fd l10 (by decide) ?_| refine ld one56 c10 ?_|refine z_a ?_|refine z_b ?_|refine z_c ?_|refine z_d ?_|refine z_e ?_|refine z_f ?_|refine z_g ?_|refine z_h ?_|refine z_i ?_|refine z_j ?_|refine z_k ?_|refine z_l ?_|refine z_m (by omega) ?_|refine z_n (by omega) ?_|refine z_o (by omega) ?_|refine z_p (by omega) ?_|refine z_q (by omega) ?_|refine z_r (by omega) ?_|refine z_s (by omega) ?_|refine z_t (by omega) ?_|refine z_u (by omega) ?_|refine z_v (by omega) ?_|refine z_w (by omega) ?_|refine z_x (by omega) ?_|refine z_y (by omega) ?_|refine z_z (by omega) ?_|refine z_A ?_|refine z_B ?_|refine z_C ?_|refine z_D ?_|refine z_E ?_|refine z_F ?_|refine z_G ?_|refine z_H ?_|refine z_I ?_|refine z_J ?_|refine z_K (by omega) (by decide) ?_|refine z_L (by omega) (by decide) ?_|refine z_M (by omega) ?_|refine z_N (by omega) ?_|refine z_O (by omega) ?_|refine z_P ?_|refine z_Q ?_|refine z_R ?_|refine z_S ?_|refine z_T ?_|refine z_U (by decide) ?_|refine z_V (by decide) ?_)
  refine (CloneI_spec _ is w4 (keeps_Intents _ _ _ _ hb4 hq) hl2).mono ?_
  rintro _ w5 ⟨A6, n6, rfl, ho6, hf6, hb5⟩
  refine (ClipI_spec w5 ho6).mono ?_
  rintro q7 _ ⟨ho7, hbl7, rfl⟩
  have hf7 : Fresh w4.heap.size q7 := fun k hk => hf6 k (by rw [← hbl7]; exact hk)
  have hL5 := hL4.below' hb5
  have hR5 := hR4.below' hb5
  have hb5' := below_then hb4 hb5
  have ho5' := ho5.below hb5
  have h1q : q7.oneCell' = true := by obtain ⟨A, rfl⟩ := ho7.slice; rfl
  (repeat with_reducible first | refine fd l10 (by decide) ?_|refine z_a ?_|refine z_b ?_|refine z_c ?_|refine z_d ?_|refine z_e ?_|refine z_f ?_|refine z_g ?_|refine z_h ?_|refine z_i ?_|refine z_j ?_|refine z_k ?_|refine z_l ?_|refine z_m (by omega) ?_|refine z_n (by omega) ?_|refine z_o (by omega) ?_|refine z_p (by omega) ?_|refine z_q (by omega) ?_|refine z_r (by omega) ?_|refine z_s (by omega) ?_|refine z_t (by omega) ?_|refine z_u (by omega) ?_|refine z_v (by omega) ?_|refine z_w (by omega) ?_|refine z_x (by omega) ?_|refine z_y (by omega) ?_|refine z_z (by omega) ?_|refine z_A ?_|refine z_B ?_|refine z_C ?_|refine z_D ?_|refine z_E ?_|refine z_F ?_|refine z_G ?_|refine z_H ?_|refine z_I ?_|refine z_J ?_|refine z_K (by omega) (by decide) ?_|refine z_L (by omega) (by decide) ?_|refine z_M (by omega) ?_|refine z_N (by omega) ?_|refine z_O (by omega) ?_|refine z_P ?_|refine z_Q ?_|refine z_R ?_|refine z_S ?_|refine z_T ?_|refine z_U (by decide) ?_|refine z_V (by decide) ?_)
  refine st sz56 h1q (by rw [hL5.cell 10]; rfl) (hL5.frozen 10) ?_
  have hT2 := Turns.setCell (F := fun k => k = w.heap.size) (p := ⟨w.heap.size, 10, none⟩) (Turns.refl _ w5) (.inl rfl) q7
  have hL6 := hL5.set_ 10 q7
  rw [set10] at hL6
  have hR6 := hR5.turns hT2 (by omega)
  have ho8 := ho5'.turns hT2 (fun k hk he => by have := hf4 k hk; omega)
  have ho9 := ho7.turns hT2 (fun k hk he => by have := hf7 k hk; omega)
  have hb6 : Below w.heap.size w (w5.setCell ⟨w.heap.size, 10, none⟩ q7) := hb5'.setCell (p := ⟨w.heap.size, 10, none⟩) (Nat.le_refl _) q7
  generalize w5.setCell ⟨w.heap.size, 10, none⟩ q7 = w6 at *
  refine ldA agg58 hL6 (by exact sz58) ?_
  refine stA hR6 (by exact sz58) (by rfl) (cells_one _ _ _ h1p h1q) ?_
  have hR7 := hR6.row (L.cells p4 q7)
  have hT3 : Turns (fun k => k = g1) w6 (w6.setRow g1 (L.cells p4 q7)) := Turns.setRow (F := fun k => k = g1) (Turns.refl _ w6) (.inl rfl) _
  have hb7 := hb6.trans (hT3.below hb6.size fun k hk he => by omega)
  refine retA agg58 hR7 (by exact sz58) ?_
  refine ⟨p4, q7, rfl, ho8.turns hT3 (fun k hk he => by have := hf4 k hk; omega), ho9.turns hT3 (fun k hk he => by have := hf7 k hk; omega), fun k hk => by have := hf4 k hk; omega, fun k hk => by have := hf7 k hk; omega, ?_, hb7⟩
  cases hq4 : p4.ownBlock with
  | none => exact .inl rfl
  | some k =>
    right
    intro he
    have h1 := ho4.lt hq4
    have h2 := hf7 k he.symm
    omega
end Go.Proofs.Ythicbfopjakiiaa.E
namespace Go.Proofs.Ythicbfopjakiiaa.E
open Go
set_option maxRecDepth 100000

/-- shelfmark/shelfmarklaw14.awake -/
def S28 (R : Value → World → Prop) (w : World) : Prop :=
  CallP Try.prog 29 #[] (fun v8 w =>
  LiftP Try.prog (binS Go.BinOp.eql 52 (Go.Operand.tmp 9) (Go.Operand.const (Go.Value.pointer none)) v8 (Go.Value.pointer none)) (fun v10 w =>
  CondP v10 (fun w =>
    R (Go.Value.bool false) w) (fun w =>
    LiftP Try.prog (Instr.build 58 #[(7, (Go.Value.string { data := #[97] }))]) (fun v13 w =>
  CallP Try.prog 30 #[v8, v13] (fun v14 w =>
  LiftP Try.prog (Instr.extract v14 0) (fun v15 w =>
  LiftP Try.prog (Instr.extract v14 1) (fun v16 w =>
  CallP Try.prog 31 #[v8, (Go.Value.int Go.IntKind.i64 1)] (fun v19 w =>
  LiftP Try.prog (Instr.extract v19 0) (fun v20 w =>
  LiftP Try.prog (Instr.extract v19 1) (fun v21 w =>
  CallP Try.prog 33 #[v8, (Go.Value.int Go.IntKind.i64 1)] (fun v24 w =>
  LiftP Try.prog (Instr.extract v24 0) (fun v25 w =>
  LiftP Try.prog (Instr.extract v24 1) (fun v26 w =>
  LiftP Try.prog (Instr.alloc 58 true (.tuple #[])) (fun v6 w =>
  LiftU Try.prog (Instr.storeAt 58 v6 v25) (fun v_ w =>
  LiftP Try.prog (binS Go.BinOp.eql 3 (Go.Operand.tmp 27) (Go.Operand.const (Go.Value.int Go.IntKind.i64 1)) v15 (Go.Value.int Go.IntKind.i64 1)) (fun v28 w =>
  GuardP v28 true (fun K w => K v20 w) (fun v30 w =>
  GuardP v28 true (fun K w => LiftP Try.prog (binS Go.BinOp.eql 3 (Go.Operand.tmp 30) (Go.Operand.const (Go.Value.int Go.IntKind.i64 2)) v30 (Go.Value.int Go.IntKind.i64 2)) K w) (fun v31 w =>
  PickP v28 v31 (Go.Value.bool false) (fun v32 w =>
  GuardP v32 true (fun K w => K v16 w) (fun v34 w =>
  GuardP v32 true (fun K w => LiftP Try.prog (binS Go.BinOp.eql 25 (Go.Operand.tmp 34) (Go.Operand.const (Go.Value.int Go.IntKind.i64 0)) v34 (Go.Value.int Go.IntKind.i64 0)) K w) (fun v35 w =>
  PickP v32 v35 (Go.Value.bool false) (fun v36 w =>
  GuardP v36 true (fun K w => K v21 w) (fun v38 w =>
  GuardP v36 true (fun K w => LiftP Try.prog (binS Go.BinOp.eql 25 (Go.Operand.tmp 38) (Go.Operand.const (Go.Value.int Go.IntKind.i64 0)) v38 (Go.Value.int Go.IntKind.i64 0)) K w) (fun v39 w =>
  PickP v36 v39 (Go.Value.bool false) (fun v40 w =>
  GuardP v40 true (fun K w => K v26 w) (fun v42 w =>
  GuardP v40 true (fun K w => LiftP Try.prog (binS Go.BinOp.eql 25 (Go.Operand.tmp 42) (Go.Operand.const (Go.Value.int Go.IntKind.i64 0)) v42 (Go.Value.int Go.IntKind.i64 0)) K w) (fun v43 w =>
  PickP v40 v43 (Go.Value.bool false) (fun v44 w =>
  GuardP v44 true (fun K w => LiftP Try.prog (Instr.fieldAt 58 v6 7) K w) (fun v46 w =>
  GuardP v44 true (fun K w => LiftP Try.prog (Instr.loadAt 9 v46) K w) (fun v47 w =>
  GuardP v44 true (fun K w => LiftP Try.prog (binS Go.BinOp.eql 9 (Go.Operand.tmp 47) (Go.Operand.const (Go.Value.string { data := #[97] })) v47 (Go.Value.string { data := #[97] })) K w) (fun v48 w =>
  PickP v44 v48 (Go.Value.bool false) (fun v49 w =>
  GuardP v49 true (fun K w => K v8 w) (fun v51 w =>
  GuardP v49 true (fun K w => CallP Try.prog 32 #[v51] K w) (fun v52 w =>
  GuardP v49 true (fun K w => LiftP Try.prog (binS Go.BinOp.eql 3 (Go.Operand.tmp 52) (Go.Operand.const (Go.Value.int Go.IntKind.i64 1)) v52 (Go.Value.int Go.IntKind.i64 1)) K w) (fun v53 w =>
  PickP v49 v53 (Go.Value.bool false) (fun v54 w =>
  R v54 w) w) w) w) w) w) w) w) w) w) w) w) w) w) w) w) w) w) w) w) w) w) w) w) w) w) w) w) w) w) w) w) w) w) w) w) w
theorem S28.calls (R : Value → World → Prop) (w : World) (h : S28 R w) : Calls Try.prog 28 #[] w fun e w' => ∃ v, e = .returned v ∧ R v w' :=
  calls_of_tr (n := 55) (c := bodyOf Try.f28) (.two .leaf (.two .leaf (.two (.two .leaf (.two (.two .leaf .leaf) .leaf)) (.two .leaf (.two .leaf (.two .leaf (.two .leaf .leaf))))))) Try.func28 (by kernel_rfl) Try.ntmps28 (by kernel_rfl) (by kernel_rfl) [] (by kernel_rfl) (of_eq_ (by kernel_rfl) h)

/-- shelfmark/net.New -/
def S29 (R : Value → World → Prop) (w : World) : Prop :=
  LiftP Try.prog (Instr.makeMap 116 none) (fun v1 w =>
  LiftP Try.prog (Instr.build 118 #[(0, v1)]) (fun v2 w =>
  LiftP Try.prog (Instr.box 118 v2) (fun v3 w =>
  R v3 w) w) w) w
theorem S29.calls (R : Value → World → Prop) (w : World) (h : S29 R w) : Calls Try.prog 29 #[] w fun e w' => ∃ v, e = .returned v ∧ R v w' :=
  calls_of_tr (n := 4) (c := bodyOf Try.f29) (.two .leaf (.two .leaf .leaf)) Try.func29 (by kernel_rfl) Try.ntmps29 (by kernel_rfl) (by kernel_rfl) [] (by kernel_rfl) (of_eq_ (by kernel_rfl) h)

/-- (*shelfmark/net.Net).Send -/
def S30 (a0 a1 : Value) (R : Value → World → Prop) (w : World) : Prop :=
  LiftP Try.prog (Instr.box 58 a1) (fun v3 w =>
  LiftP Try.prog (Instr.loadAt 58 v3) (fun v7 w =>
  CallP Try.prog 59 #[v7] (fun v8 w =>
  LiftP Try.prog (binS Go.BinOp.neq 25 (Go.Operand.tmp 9) (Go.Operand.const (Go.Value.int Go.IntKind.i64 0)) v8 (Go.Value.int Go.IntKind.i64 0)) (fun v10 w =>
  CondP v10 (fun w =>
    R (.tuple #[(Go.Value.int Go.IntKind.i64 0), v8]) w) (fun w =>
    LiftP Try.prog (Instr.loadAt 58 v3) (fun v13 w =>
  CallP Try.prog 60 #[a0, v13] (fun v14 w =>
  LiftP Try.prog (Instr.extract v14 0) (fun v15 w =>
  LiftP Try.prog (Instr.extract v14 1) (fun v16 w =>
  R (.tuple #[v15, v16]) w) w) w) w) w) w) w) w) w) w
theorem S30.calls (a0 a1 : Value) (R : Value → World → Prop) (w : World) (h : S30 a0 a1 R w) : Calls Try.prog 30 #[a0, a1] w fun e w' => ∃ v, e = .returned v ∧ R v w' :=
  calls_of_tr (n := 17) (c := bodyOf Try.f30) (.two .leaf (.two (.two .leaf (.two .leaf (.two (.two .leaf .leaf) .leaf))) (.two .leaf .leaf))) Try.func30 (by kernel_rfl) Try.ntmps30 (by kernel_rfl) (by kernel_rfl) [a0, a1] (by kernel_rfl) (of_eq_ (by kernel_rfl) h)

/-- (*shelfmark/net.Net).Twice -/
def S31 (a0 a1 : Value) (R : Value → World → Prop) (w : World) : Prop :=
  NextP Try.prog (nilChk a0) (fun v10 w =>
  LiftP Try.prog (Instr.fieldAt 118 v10 0) (fun v11 w =>
  LiftP Try.prog (Instr.loadAt 116 v11) (fun v12 w =>
  LiftP Try.prog (Instr.lookup 116 v12 a1 true) (fun v14 w =>
  LiftP Try.prog (Instr.extract v14 0) (fun v15 w =>
  LiftP Try.prog (Instr.extract v14 1) (fun v16 w =>
  LiftP Try.prog (Instr.alloc 58 true (.tuple #[])) (fun v6 w =>
  LiftU Try.prog (Instr.storeAt 58 v6 v15) (fun v_ w =>
  LiftP Try.prog (Op.unary Go.UnOp.not v16) (fun v18 w =>
  CondP v18 (fun w =>
    R (.tuple #[(Go.Value.int Go.IntKind.i64 0), (Go.Value.int Go.IntKind.i64 7)]) w) (fun w =>
    LiftP Try.prog (Instr.loadAt 58 v6) (fun v20 w =>
  CallP Try.prog 60 #[a0, v20] (fun v21 w =>
  LiftP Try.prog (Instr.extract v21 0) (fun v22 w =>
  LiftP Try.prog (Instr.extract v21 1) (fun v23 w =>
  R (.tuple #[v22, v23]) w) w) w) w) w) w) w) w) w) w) w) w) w) w) w
theorem S31.calls (a0 a1 : Value) (R : Value → World → Prop) (w : World) (h : S31 a0 a1 R w) : Calls Try.prog 31 #[a0, a1] w fun e w' => ∃ v, e = .returned v ∧ R v w' :=
  calls_of_tr (n := 24) (c := bodyOf Try.f31) (.two .leaf (.two .leaf (.two (.two .leaf (.two (.two .leaf .leaf) .leaf)) (.two .leaf .leaf)))) Try.func31 (by kernel_rfl) Try.ntmps31 (by kernel_rfl) (by kernel_rfl) [a0, a1] (by kernel_rfl) (of_eq_ (by kernel_rfl) h)

/-- (*shelfmark/net.Net).Len -/
def S32 (a0 : Value) (R : Value → World → Prop) (w : World) : Prop :=
  NextP Try.prog (nilChk a0) (fun v4 w =>
  LiftP Try.prog (Instr.fieldAt 118 v4 0) (fun v5 w =>
  LiftP Try.prog (Instr.loadAt 116 v5) (fun v6 w =>
  NextP Try.prog (builtin Go.Builtin.len #[116] 3 #[false] #[v6]) (fun v7 w =>
  R v7 w) w) w) w) w
theorem S32.calls (a0 : Value) (R : Value → World → Prop) (w : World) (h : S32 a0 R w) : Calls Try.prog 32 #[a0] w fun e w' => ∃ v, e = .returned v ∧ R v w' :=
  calls_of_tr (n := 8) (c := bodyOf Try.f32) (.two .leaf (.two .leaf .leaf)) Try.func32 (by kernel_rfl) Try.ntmps32 (by kernel_rfl) (by kernel_rfl) [a0] (by kernel_rfl) (of_eq_ (by kernel_rfl) h)

/-- (*shelfmark/net.Net).Deliver -/
def S33 (a0 a1 : Value) (R : Value → World → Prop) (w : World) : Prop :=
  LiftP Try.prog (Instr.alloc 58 true (.tuple #[])) (fun v4 w =>
  NextP Try.prog (nilChk a0) (fun v10 w =>
  LiftP Try.prog (Instr.fieldAt 118 v10 0) (fun v11 w =>
  LiftP Try.prog (Instr.loadAt 116 v11) (fun v12 w =>
  LiftP Try.prog (Instr.lookup 116 v12 a1 true) (fun v14 w =>
  LiftP Try.prog (Instr.extract v14 0) (fun v15 w =>
  LiftP Try.prog (Instr.extract v14 1) (fun v16 w =>
  LiftP Try.prog (Instr.alloc 58 true (.tuple #[])) (fun v6 w =>
  LiftU Try.prog (Instr.storeAt 58 v6 v15) (fun v_ w =>
  LiftP Try.prog (Op.unary Go.UnOp.not v16) (fun v18 w =>
  CondP v18 (fun w =>
    LiftP Try.prog (Instr.build 58 #[]) (fun v19 w =>
    LiftU Try.prog (Instr.storeAt 58 v4 v19) (fun v__1 w =>
    RetC Try.prog v4 58 (fun x => R (.tuple #[x, (Go.Value.int Go.IntKind.i64 7)]) w) w) w) w) (fun w =>
    NextP Try.prog (nilChk a0) (fun v21 w =>
  LiftP Try.prog (Instr.fieldAt 118 v21 0) (fun v22 w =>
  LiftP Try.prog (Instr.loadAt 116 v22) (fun v23 w =>
  NextP Try.prog (builtin Go.Builtin.delete #[116, 3] 0 #[false, false] #[v23, a1]) (fun v__2 w =>
  LiftP Try.prog (Instr.loadAt 58 v6) (fun v25 w =>
  LiftU Try.prog (Instr.storeAt 58 v4 v25) (fun v__3 w =>
  RetC Try.prog v4 58 (fun x_1 => R (.tuple #[x_1, (Go.Value.int Go.IntKind.i64 0)]) w) w) w) w) w) w) w) w) w) w) w) w) w) w) w) w) w) w) w
theorem S33.calls (a0 a1 : Value) (R : Value → World → Prop) (w : World) (h : S33 a0 a1 R w) : Calls Try.prog 33 #[a0, a1] w fun e w' => ∃ v, e = .returned v ∧ R v w' :=
  calls_of_tr (n := 26) (c := bodyOf Try.f33) (.two .leaf (.two .leaf (.two (.two .leaf (.two (.two .leaf .leaf) .leaf)) (.two .leaf (.two .leaf .leaf))))) Try.func33 (by kernel_rfl) Try.ntmps33 (by kernel_rfl) (by kernel_rfl) [a0, a1] (by kernel_rfl) (of_eq_ (by kernel_rfl) h)

/-- shelfmark/shelfmarkref13.Light -/
def S34 (a0 : Value) (R : Value → World → Prop) (w : World) : Prop :=
  LiftP Try.prog (Instr.box 58 a0) (fun v1 w =>
  LiftP Try.prog (Instr.fieldAt 58 v1 9) (fun v6 w =>
  LiftP Try.prog (Instr.loadAt 55 v6) (fun v7 w =>
  NextP Try.prog (builtin Go.Builtin.len #[55] 3 #[false] #[v7]) (fun v8 w =>
  LiftP Try.prog (binS Go.BinOp.gtr 3 (Go.Operand.tmp 8) (Go.Operand.const (Go.Value.int Go.IntKind.i64 300)) v8 (Go.Value.int Go.IntKind.i64 300)) (fun v9 w =>
  GuardP v9 false (fun K w => LiftP Try.prog (Instr.fieldAt 58 v1 10) K w) (fun v11 w =>
  GuardP v9 false (fun K w => LiftP Try.prog (Instr.loadAt 56 v11) K w) (fun v12 w =>
  GuardP v9 false (fun K w => NextP Try.prog (builtin Go.Builtin.len #[56] 3 #[false] #[v12]) K w) (fun v13 w =>
  GuardP v9 false (fun K w => LiftP Try.prog (binS Go.BinOp.gtr 3 (Go.Operand.tmp 13) (Go.Operand.const (Go.Value.int Go.IntKind.i64 300)) v13 (Go.Value.int Go.IntKind.i64 300)) K w) (fun v14 w =>
  PickP v9 (Go.Value.bool true) v14 (fun v15 w =>
  CondP v15 (fun w =>
    R (Go.Value.bool false) w) (fun w =>
    LiftP Try.prog (Instr.fieldAt 58 v1 7) (fun v16 w =>
  LiftP Try.prog (Instr.loadAt 9 v16) (fun v17 w =>
  NextP Try.prog (builtin Go.Builtin.len #[9] 3 #[false] #[v17]) (fun v18 w =>
  NextP Try.prog (builtin Go.Builtin.min #[3, 3] 3 #[false, true] #[v18, (Go.Value.int Go.IntKind.i64 100000)]) (fun v19 w =>
  LiftP Try.prog (Instr.fieldAt 58 v1 8) (fun v20 w =>
  LiftP Try.prog (Instr.loadAt 9 v20) (fun v21 w =>
  NextP Try.prog (builtin Go.Builtin.len #[9] 3 #[false] #[v21]) (fun v22 w =>
  NextP Try.prog (builtin Go.Builtin.min #[3, 3] 3 #[false, true] #[v22, (Go.Value.int Go.IntKind.i64 100000)]) (fun v23 w =>
  LiftP Try.prog (binS Go.BinOp.add 3 (Go.Operand.tmp 19) (Go.Operand.tmp 23) v19 v23) (fun v24 w =>
  LiftP Try.prog (Instr.fieldAt 58 v1 13) (fun v25 w =>
  LiftP Try.prog (Instr.loadAt 9 v25) (fun v26 w =>
  NextP Try.prog (builtin Go.Builtin.len #[9] 3 #[false] #[v26]) (fun v27 w =>
  NextP Try.prog (builtin Go.Builtin.min #[3, 3] 3 #[false, true] #[v27, (Go.Value.int Go.IntKind.i64 100000)]) (fun v28 w =>
  LiftP Try.prog (binS Go.BinOp.add 3 (Go.Operand.tmp 24) (Go.Operand.tmp 28) v24 v28) (fun v29 w =>
  LoopP (fun J vs w =>   -- [3, 4]
    LiftP Try.prog (Instr.fieldAt 58 v1 9) (fun v31 w =>
    LiftP Try.prog (Instr.loadAt 55 v31) (fun v32 w =>
    NextP Try.prog (builtin Go.Builtin.len #[55] 3 #[false] #[v32]) (fun v33 w =>
    LiftP Try.prog (binS Go.BinOp.lss 3 (Go.Operand.tmp 30) (Go.Operand.tmp 33) (vs.tail.headD undef) v33) (fun v34 w =>
    GuardP v34 true (fun K w => K (vs.headD undef) w) (fun v36 w =>
    GuardP v34 true (fun K w => LiftP Try.prog (binS Go.BinOp.leq 3 (Go.Operand.tmp 36) (Go.Operand.const (Go.Value.int Go.IntKind.i64 100000)) v36 (Go.Value.int Go.IntKind.i64 100000)) K w) (fun v37 w =>
    PickP v34 v37 (Go.Value.bool false) (fun v38 w =>
    CondP v38 (fun w =>
      DrawP (fun S w =>
    YieldP Try.prog S (Instr.fieldAt 58 v1 9) (fun v42 w =>
    YieldP Try.prog S (Instr.loadAt 55 v42) (fun v43 w =>
    YieldP Try.prog S (Instr.indexAt 55 v43 (vs.tail.headD undef)) (fun v45 w =>
    YieldP Try.prog S (Instr.fieldAt 64 v45 0) (fun v46 w =>
    YieldP Try.prog S (Instr.loadAt 9 v46) (fun v47 w =>
    YieldN Try.prog S (builtin Go.Builtin.len #[9] 3 #[false] #[v47]) (fun v48 w =>
    YieldN Try.prog S (builtin Go.Builtin.min #[3, 3] 3 #[false, true] #[v48, (Go.Value.int Go.IntKind.i64 100001)]) (fun v49 w =>
    YieldP Try.prog S (binS Go.BinOp.add 3 (Go.Operand.tmp 41) (Go.Operand.tmp 49) (vs.headD undef) v49) (fun v50 w =>
    YieldP Try.prog S (Instr.fieldAt 58 v1 9) (fun v51 w =>
    YieldP Try.prog S (Instr.loadAt 55 v51) (fun v52 w =>
    YieldP Try.prog S (Instr.indexAt 55 v52 (vs.tail.headD undef)) (fun v54 w =>
    YieldP Try.prog S (Instr.fieldAt 64 v54 1) (fun v55 w =>
    YieldP Try.prog S (Instr.loadAt 9 v55) (fun v56 w =>
    YieldN Try.prog S (builtin Go.Builtin.len #[9] 3 #[false] #[v56]) (fun v57 w =>
    YieldN Try.prog S (builtin Go.Builtin.min #[3, 3] 3 #[false, true] #[v57, (Go.Value.int Go.IntKind.i64 100001)]) (fun v58 w =>
    YieldP Try.prog S (binS Go.BinOp.add 3 (Go.Operand.tmp 50) (Go.Operand.tmp 58) v50 v58) (fun v59 w =>
    LiftP Try.prog (binS Go.BinOp.add 3 (Go.Operand.tmp 39) (Go.Operand.const (Go.Value.int Go.IntKind.i64 1)) (vs.tail.headD undef) (Go.Value.int Go.IntKind.i64 1)) (fun v40 w =>
    J [v59, v40] w) w) w) w) w) w) w) w) w) w) w) w) w) w) w) w) w) w) w) (fun w =>
      LoopP (fun J_1 vs_1 w =>   -- [3, 5]
    LiftP Try.prog (Instr.fieldAt 58 v1 10) (fun v61 w =>
    LiftP Try.prog (Instr.loadAt 56 v61) (fun v62 w =>
    NextP Try.prog (builtin Go.Builtin.len #[56] 3 #[false] #[v62]) (fun v63 w =>
    LiftP Try.prog (binS Go.BinOp.lss 3 (Go.Operand.tmp 60) (Go.Operand.tmp 63) (vs_1.tail.headD undef) v63) (fun v64 w =>
    GuardP v64 true (fun K w => K (vs_1.headD undef) w) (fun v66 w =>
    GuardP v64 true (fun K w => LiftP Try.prog (binS Go.BinOp.leq 3 (Go.Operand.tmp 66) (Go.Operand.const (Go.Value.int Go.IntKind.i64 100000)) v66 (Go.Value.int Go.IntKind.i64 100000)) K w) (fun v67 w =>
    PickP v64 v67 (Go.Value.bool false) (fun v68 w =>
    CondP v68 (fun w =>
      LiftP Try.prog (Instr.fieldAt 58 v1 10) (fun v72 w =>
    LiftP Try.prog (Instr.loadAt 56 v72) (fun v73 w =>
    LiftP Try.prog (Instr.indexAt 56 v73 (vs_1.tail.headD undef)) (fun v75 w =>
    LiftP Try.prog (Instr.fieldAt 68 v75 0) (fun v76 w =>
    LiftP Try.prog (Instr.loadAt 9 v76) (fun v77 w =>
    NextP Try.prog (builtin Go.Builtin.len #[9] 3 #[false] #[v77]) (fun v78 w =>
    NextP Try.prog (builtin Go.Builtin.min #[3, 3] 3 #[false, true] #[v78, (Go.Value.int Go.IntKind.i64 100001)]) (fun v79 w =>
    LiftP Try.prog (binS Go.BinOp.add 3 (Go.Operand.tmp 71) (Go.Operand.tmp 79) (vs_1.headD undef) v79) (fun v80 w =>
    LiftP Try.prog (binS Go.BinOp.add 3 (Go.Operand.tmp 69) (Go.Operand.const (Go.Value.int Go.IntKind.i64 1)) (vs_1.tail.headD undef) (Go.Value.int Go.IntKind.i64 1)) (fun v70 w =>
    J_1 [v80, v70] w) w) w) w) w) w) w) w) w) w) (fun w =>
      LiftP Try.prog (binS Go.BinOp.leq 3 (Go.Operand.tmp 81) (Go.Operand.const (Go.Value.int Go.IntKind.i64 100000)) (vs_1.headD undef) (Go.Value.int Go.IntKind.i64 100000)) (fun v82 w =>
  R v82 w) w) w) w) w) w) w) w) w) w) [(vs.headD undef), (Go.Value.int Go.IntKind.i64 0)] w) w) w) w) w) w) w) w) w) [v29, (Go.Value.int Go.IntKind.i64 0)] w) w) w) w) w) w) w) w) w) w) w) w) w) w) w) w) w) w) w) w) w) w) w) w) w) w
theorem S34.calls (a0 : Value) (R : Value → World → Prop) (w : World) (h : S34 a0 R w) : Calls Try.prog 34 #[a0] w fun e w' => ∃ v, e = .returned v ∧ R v w' :=
  calls_of_tr (n := 83) (c := bodyOf Try.f34) (.two .leaf (.two (.two .leaf (.two (.two .leaf .leaf) .leaf)) (.two .leaf (.two (.two .leaf (.one (.loop [3, 4] (.two (.two .leaf (.two .leaf .leaf)) (.two (.one (.draw [(true, 0), (true, 1), (true, 2), (true, 3), (true, 4), (true, 5), (true, 6), (true, 7), (true, 8), (true, 9), (true, 10), (true, 11), (true, 12), (true, 13), (true, 14), (true, 15), (true, 16), (true, 17), (true, 18), (true, 19)])) .leaf))))) (.two (.two .leaf (.one (.loop [3, 5] (.two (.two .leaf (.two .leaf .leaf)) (.two (.one .leaf) .leaf))))) (.two .leaf .leaf)))))) Try.func34 (by kernel_rfl) Try.ntmps34 (by kernel_rfl) (by kernel_rfl) [a0] (by kernel_rfl) (of_eq_ (by kernel_rfl) h)

/-- (*shelfmark/net.Net).Look -/
def S35 (a0 a1 : Value) (R : Value → World → Prop) (w : World) : Prop :=
  LiftP Try.prog (Instr.alloc 58 true (.tuple #[])) (fun v4 w =>
  NextP Try.prog (nilChk a0) (fun v10 w =>
  LiftP Try.prog (Instr.fieldAt 118 v10 0) (fun v11 w =>
  LiftP Try.prog (Instr.loadAt 116 v11) (fun v12 w =>
  LiftP Try.prog (Instr.lookup 116 v12 a1 true) (fun v14 w =>
  LiftP Try.prog (Instr.extract v14 0) (fun v15 w =>
  LiftP Try.prog (Instr.extract v14 1) (fun v16 w =>
  LiftP Try.prog (Instr.alloc 58 true (.tuple #[])) (fun v6 w =>
  LiftU Try.prog (Instr.storeAt 58 v6 v15) (fun v_ w =>
  LiftP Try.prog (Instr.loadAt 58 v6) (fun v17 w =>
  CallP Try.prog 61 #[v17] (fun v18 w =>
  LiftU Try.prog (Instr.storeAt 58 v4 v18) (fun v__1 w =>
  RetC Try.prog v4 58 (fun x => R (.tuple #[x, v16]) w) w) w) w) w) w) w) w) w) w) w) w) w) w
theorem S35.calls (a0 a1 : Value) (R : Value → World → Prop) (w : World) (h : S35 a0 a1 R w) : Calls Try.prog 35 #[a0, a1] w fun e w' => ∃ v, e = .returned v ∧ R v w' :=
  calls_of_tr (n := 20) (c := bodyOf Try.f35) (.two .leaf (.two .leaf (.two .leaf .leaf))) Try.func35 (by kernel_rfl) Try.ntmps35 (by kernel_rfl) (by kernel_rfl) [a0, a1] (by kernel_rfl) (of_eq_ (by kernel_rfl) h)

/-- shelfmark/shelfmarkref13.Same -/
def S36 (a0 a1 : Value) (R : Value → World → Prop) (w : World) : Prop :=
  LiftP Try.prog (Instr.box 58 a0) (fun v2 w =>
  LiftP Try.prog (Instr.box 58 a1) (fun v3 w =>
  LiftP Try.prog (Instr.fieldAt 58 v2 9) (fun v9 w =>
  LiftP Try.prog (Instr.loadAt 55 v9) (fun v10 w =>
  NextP Try.prog (builtin Go.Builtin.len #[55] 3 #[false] #[v10]) (fun v11 w =>
  LiftP Try.prog (Instr.fieldAt 58 v3 9) (fun v12 w =>
  LiftP Try.prog (Instr.loadAt 55 v12) (fun v13 w =>
  NextP Try.prog (builtin Go.Builtin.len #[55] 3 #[false] #[v13]) (fun v14 w =>
  LiftP Try.prog (binS Go.BinOp.neq 3 (Go.Operand.tmp 11) (Go.Operand.tmp 14) v11 v14) (fun v15 w =>
  GuardP v15 false (fun K w => LiftP Try.prog (Instr.fieldAt 58 v2 10) K w) (fun v17 w =>
  GuardP v15 false (fun K w => LiftP Try.prog (Instr.loadAt 56 v17) K w) (fun v18 w =>
  GuardP v15 false (fun K w => LiftP Try.prog (Instr.fieldAt 58 v3 10) K w) (fun v19 w =>
  GuardP v15 false (fun K w => LiftP Try.prog (Instr.loadAt 56 v19) K w) (fun v20 w =>
  GuardP v15 false (fun K w => CallP Try.prog 62 #[v18, v20] K w) (fun v21 w =>
  GuardP v15 false (fun K w => LiftP Try.prog (Op.unary Go.UnOp.not v21) K w) (fun v22 w =>
  PickP v15 (Go.Value.bool true) v22 (fun v23 w =>
  CondP v23 (fun w =>
    R (Go.Value.bool false) w) (fun w =>
    LoopP (fun J vs w =>   -- [5]
    LiftP Try.prog (Instr.fieldAt 58 v2 9) (fun v25 w =>
    LiftP Try.prog (Instr.loadAt 55 v25) (fun v26 w =>
    NextP Try.prog (builtin Go.Builtin.len #[55] 3 #[false] #[v26]) (fun v27 w =>
    LiftP Try.prog (binS Go.BinOp.lss 3 (Go.Operand.tmp 24) (Go.Operand.tmp 27) (vs.headD undef) v27) (fun v28 w =>
    CondP v28 (fun w =>
      DrawP (fun S w =>
    YieldP Try.prog S (Instr.fieldAt 58 v2 9) (fun v31 w =>
    YieldP Try.prog S (Instr.loadAt 55 v31) (fun v32 w =>
    YieldP Try.prog S (Instr.indexAt 55 v32 (vs.headD undef)) (fun v34 w =>
    YieldP Try.prog S (Instr.loadAt 64 v34) (fun v35 w =>
    YieldP Try.prog S (Instr.fieldAt 58 v3 9) (fun v36 w =>
    YieldP Try.prog S (Instr.loadAt 55 v36) (fun v37 w =>
    YieldP Try.prog S (Instr.indexAt 55 v37 (vs.headD undef)) (fun v39 w =>
    YieldP Try.prog S (Instr.loadAt 64 v39) (fun v40 w =>
    YieldP Try.prog S (binS Go.BinOp.neq 64 (Go.Operand.tmp 35) (Go.Operand.tmp 40) v35 v40) (fun v41 w =>
    CondP v41 (fun w =>
      R (Go.Value.bool false) w) (fun w =>
      LiftP Try.prog (binS Go.BinOp.add 3 (Go.Operand.tmp 29) (Go.Operand.const (Go.Value.int Go.IntKind.i64 1)) (vs.headD undef) (Go.Value.int Go.IntKind.i64 1)) (fun v30 w =>
    J [v30] w) w) w) w) w) w) w) w) w) w) w) w) w) (fun w =>
      DrawP (fun S w =>
  YieldP Try.prog S (Instr.loadAt 58 v2) (fun v42 w =>
  YieldP Try.prog S (Instr.loadAt 58 v3) (fun v44 w =>
  ActP S (fun K w => CallP Try.prog 63 #[v42] K w) (fun S v43 w =>
  ActP S (fun K w => CallP Try.prog 63 #[v44] K w) (fun S v45 w =>
  LoopP (fun J_1 vs_1 w =>   -- [8]
    NextP Try.prog (builtin Go.Builtin.len #[81] 3 #[false] #[v43]) (fun v48 w =>
    LiftP Try.prog (binS Go.BinOp.lss 3 (Go.Operand.tmp 46) (Go.Operand.tmp 48) (vs_1.headD undef) v48) (fun v49 w =>
    CondP v49 (fun w =>
      DrawP (fun S w =>
    YieldP Try.prog S (Instr.indexAt 81 v43 (vs_1.headD undef)) (fun v54 w =>
    YieldP Try.prog S (Instr.loadAt 3 v54) (fun v55 w =>
    YieldP Try.prog S (Instr.indexAt 81 v45 (vs_1.headD undef)) (fun v58 w =>
    YieldP Try.prog S (Instr.loadAt 3 v58) (fun v59 w =>
    YieldP Try.prog S (binS Go.BinOp.neq 3 (Go.Operand.tmp 55) (Go.Operand.tmp 59) v55 v59) (fun v60 w =>
    CondP v60 (fun w =>
      R (Go.Value.bool false) w) (fun w =>
      LiftP Try.prog (binS Go.BinOp.add 3 (Go.Operand.tmp 50) (Go.Operand.const (Go.Value.int Go.IntKind.i64 1)) (vs_1.headD undef) (Go.Value.int Go.IntKind.i64 1)) (fun v51 w =>
    J_1 [v51] w) w) w) w) w) w) w) w) w) (fun w =>
      LiftP Try.prog (Instr.fieldAt 58 v2 0) (fun v61 w =>
  LiftP Try.prog (Instr.loadAt 3 v61) (fun v62 w =>
  LiftP Try.prog (Instr.fieldAt 58 v3 0) (fun v63 w =>
  LiftP Try.prog (Instr.loadAt 3 v63) (fun v64 w =>
  LiftP Try.prog (binS Go.BinOp.eql 3 (Go.Operand.tmp 62) (Go.Operand.tmp 64) v62 v64) (fun v65 w =>
  GuardP v65 true (fun K w => LiftP Try.prog (Instr.fieldAt 58 v2 12) K w) (fun v67 w =>
  GuardP v65 true (fun K w => LiftP Try.prog (Instr.loadAt 4 v67) K w) (fun v68 w =>
  GuardP v65 true (fun K w => LiftP Try.prog (Instr.fieldAt 58 v3 12) K w) (fun v69 w =>
  GuardP v65 true (fun K w => LiftP Try.prog (Instr.loadAt 4 v69) K w) (fun v70 w =>
  GuardP v65 true (fun K w => LiftP Try.prog (binS Go.BinOp.eql 4 (Go.Operand.tmp 68) (Go.Operand.tmp 70) v68 v70) K w) (fun v71 w =>
  PickP v65 v71 (Go.Value.bool false) (fun v72 w =>
  GuardP v72 true (fun K w => LiftP Try.prog (Instr.fieldAt 58 v2 7) K w) (fun v74 w =>
  GuardP v72 true (fun K w => LiftP Try.prog (Instr.loadAt 9 v74) K w) (fun v75 w =>
  GuardP v72 true (fun K w => LiftP Try.prog (Instr.fieldAt 58 v3 7) K w) (fun v76 w =>
  GuardP v72 true (fun K w => LiftP Try.prog (Instr.loadAt 9 v76) K w) (fun v77 w =>
  GuardP v72 true (fun K w => LiftP Try.prog (binS Go.BinOp.eql 9 (Go.Operand.tmp 75) (Go.Operand.tmp 77) v75 v77) K w) (fun v78 w =>
  PickP v72 v78 (Go.Value.bool false) (fun v79 w =>
  GuardP v79 true (fun K w => LiftP Try.prog (Instr.fieldAt 58 v2 8) K w) (fun v81 w =>
  GuardP v79 true (fun K w => LiftP Try.prog (Instr.loadAt 9 v81) K w) (fun v82 w =>
  GuardP v79 true (fun K w => LiftP Try.prog (Instr.fieldAt 58 v3 8) K w) (fun v83 w =>
  GuardP v79 true (fun K w => LiftP Try.prog (Instr.loadAt 9 v83) K w) (fun v84 w =>
  GuardP v79 true (fun K w => LiftP Try.prog (binS Go.BinOp.eql 9 (Go.Operand.tmp 82) (Go.Operand.tmp 84) v82 v84) K w) (fun v85 w =>
  PickP v79 v85 (Go.Value.bool false) (fun v86 w =>
  GuardP v86 true (fun K w => LiftP Try.prog (Instr.fieldAt 58 v2 13) K w) (fun v88 w =>
  GuardP v86 true (fun K w => LiftP Try.prog (Instr.loadAt 9 v88) K w) (fun v89 w =>
  GuardP v86 true (fun K w => LiftP Try.prog (Instr.fieldAt 58 v3 13) K w) (fun v90 w =>
  GuardP v86 true (fun K w => LiftP Try.prog (Instr.loadAt 9 v90) K w) (fun v91 w =>
  GuardP v86 true (fun K w => LiftP Try.prog (binS Go.BinOp.eql 9 (Go.Operand.tmp 89) (Go.Operand.tmp 91) v89 v91) K w) (fun v92 w =>
  PickP v86 v92 (Go.Value.bool false) (fun v93 w =>
  R v93 w) w) w) w) w) w) w) w) w) w) w) w) w) w) w) w) w) w) w) w) w) w) w) w) w) w) w) w) w) w) w) w) w) [(Go.Value.int Go.IntKind.i64 0)] w) w) w) w) w) w) w) w) w) w) w) [(Go.Value.int Go.IntKind.i64 0)] w) w) w) w) w) w) w) w) w) w) w) w) w) w) w) w) w) w
theorem S36.calls (a0 a1 : Value) (R : Value → World → Prop) (w : World) (h : S36 a0 a1 R w) : Calls Try.prog 36 #[a0, a1] w fun e w' => ∃ v, e = .returned v ∧ R v w' :=
  calls_of_tr (n := 94) (c := bodyOf Try.f36) (.two .leaf (.two (.two .leaf (.two (.two .leaf .leaf) .leaf)) (.two (.two .leaf (.one (.loop [5] (.two (.two .leaf (.two .leaf .leaf)) (.two (.one (.two (.draw [(true, 0), (true, 1), (true, 2), (true, 3), (true, 4), (true, 5), (true, 6), (true, 7), (true, 8), (true, 9), (true, 10)]) (.two (.two .leaf .leaf) .leaf))) .leaf))))) (.two (.draw [(true, 0), (true, 2), (false, 1), (false, 3), (true, 4), (true, 5)]) (.two (.two .leaf (.one (.loop [8] (.two (.two .leaf (.two .leaf .leaf)) (.two (.one (.two (.draw [(true, 0), (true, 1), (true, 2), (true, 3), (true, 4), (true, 5), (true, 6), (true, 7), (true, 8)]) (.two (.two .leaf .leaf) .leaf))) .leaf))))) (.two .leaf .leaf)))))) Try.func36 (by kernel_rfl) Try.ntmps36 (by kernel_rfl) (by kernel_rfl) [a0, a1] (by kernel_rfl) (of_eq_ (by kernel_rfl) h)

/-- (*shelfmark/net.Net).Drop -/
def S39 (a0 a1 : Value) (R : Value → World → Prop) (w : World) : Prop :=
  CallP Try.prog 33 #[a0, a1] (fun v10 w =>
  LiftP Try.prog (Instr.extract v10 0) (fun v11 w =>
  LiftP Try.prog (Instr.extract v10 1) (fun v12 w =>
  LiftP Try.prog (Instr.alloc 58 true (.tuple #[])) (fun v5 w =>
  LiftU Try.prog (Instr.storeAt 58 v5 v11) (fun v_ w =>
  R v12 w) w) w) w) w) w
theorem S39.calls (a0 a1 : Value) (R : Value → World → Prop) (w : World) (h : S39 a0 a1 R w) : Calls Try.prog 39 #[a0, a1] w fun e w' => ∃ v, e = .returned v ∧ R v w' :=
  calls_of_tr (n := 14) (c := bodyOf Try.f39) (.two .leaf (.two .leaf (.two .leaf .leaf))) Try.func39 (by kernel_rfl) Try.ntmps39 (by kernel_rfl) (by kernel_rfl) [a0, a1] (by kernel_rfl) (of_eq_ (by kernel_rfl) h)

/-- (*shelfmark/net.Net).add -/
def S60 (a0 a1 : Value) (R : Value → World → Prop) (w : World) : Prop :=
  LiftP Try.prog (Instr.box 58 a1) (fun v3 w =>
  NextP Try.prog (nilChk a0) (fun v7 w =>
  LiftP Try.prog (Instr.fieldAt 118 v7 0) (fun v8 w =>
  LiftP Try.prog (Instr.loadAt 116 v8) (fun v9 w =>
  NextP Try.prog (builtin Go.Builtin.len #[116] 3 #[false] #[v9]) (fun v10 w =>
  LiftP Try.prog (binS Go.BinOp.geq 3 (Go.Operand.tmp 10) (Go.Operand.const (Go.Value.int Go.IntKind.i64 4096)) v10 (Go.Value.int Go.IntKind.i64 4096)) (fun v11 w =>
  CondP v11 (fun w =>
    R (.tuple #[(Go.Value.int Go.IntKind.i64 0), (Go.Value.int Go.IntKind.i64 17)]) w) (fun w =>
    NextP Try.prog (nilChk a0) (fun v13 w =>
  LiftP Try.prog (Instr.fieldAt 118 v13 1) (fun v14 w =>
  LiftP Try.prog (Instr.loadAt 3 v14) (fun v15 w =>
  LiftP Try.prog (binS Go.BinOp.add 3 (Go.Operand.tmp 15) (Go.Operand.const (Go.Value.int Go.IntKind.i64 1)) v15 (Go.Value.int Go.IntKind.i64 1)) (fun v16 w =>
  NextP Try.prog (nilChk a0) (fun v17 w =>
  LiftP Try.prog (Instr.fieldAt 118 v17 1) (fun v18 w =>
  LiftU Try.prog (Instr.storeAt 3 v18 v16) (fun v_ w =>
  DrawP (fun S w =>
  YieldN Try.prog S (nilChk a0) (fun v20 w =>
  YieldP Try.prog S (Instr.fieldAt 118 v20 0) (fun v21 w =>
  YieldP Try.prog S (Instr.loadAt 116 v21) (fun v22 w =>
  YieldN Try.prog S (nilChk a0) (fun v24 w =>
  YieldP Try.prog S (Instr.fieldAt 118 v24 1) (fun v25 w =>
  YieldP Try.prog S (Instr.loadAt 3 v25) (fun v26 w =>
  YieldP Try.prog S (Instr.loadAt 58 v3) (fun v27 w =>
  ActP S (fun K w => CallP Try.prog 61 #[v27] K w) (fun S v28 w =>
  LiftU Try.prog (Instr.mapUpdate 116 v22 v26 v28) (fun v__1 w =>
  NextP Try.prog (nilChk a0) (fun v30 w =>
  LiftP Try.prog (Instr.fieldAt 118 v30 1) (fun v31 w =>
  LiftP Try.prog (Instr.loadAt 3 v31) (fun v32 w =>
  R (.tuple #[v32, (Go.Value.int Go.IntKind.i64 0)]) w) w) w) w) w) w) w) w) w) w) w) w) w) w) w) w) w) w) w) w) w) w) w) w) w) w) w) w
theorem S60.calls (a0 a1 : Value) (R : Value → World → Prop) (w : World) (h : S60 a0 a1 R w) : Calls Try.prog 60 #[a0, a1] w fun e w' => ∃ v, e = .returned v ∧ R v w' :=
  calls_of_tr (n := 33) (c := bodyOf Try.f60) (.two .leaf (.two (.two .leaf (.two (.two .leaf .leaf) .leaf)) (.two .leaf (.two (.drawL [(true, 0), (true, 1), (true, 2), (true, 3), (true, 4), (true, 5), (true, 6), (true, 7), (true, 8), (false, 9)] 10) (.two .leaf .leaf))))) Try.func60 (by kernel_rfl) Try.ntmps60 (by kernel_rfl) (by kernel_rfl) [a0, a1] (by kernel_rfl) (of_eq_ (by kernel_rfl) h)

/-- shelfmark/shelfmarkref13.SameIntents -/
def S62 (a0 a1 : Value) (R : Value → World → Prop) (w : World) : Prop :=
  NextP Try.prog (builtin Go.Builtin.len #[56] 3 #[false] #[a0]) (fun v7 w =>
  NextP Try.prog (builtin Go.Builtin.len #[56] 3 #[false] #[a1]) (fun v9 w =>
  LiftP Try.prog (binS Go.BinOp.neq 3 (Go.Operand.tmp 7) (Go.Operand.tmp 9) v7 v9) (fun v10 w =>
  CondP v10 (fun w =>
    R (Go.Value.bool false) w) (fun w =>
    LoopP (fun J vs w =>   -- [5]
    NextP Try.prog (builtin Go.Builtin.len #[56] 3 #[false] #[a0]) (fun v13 w =>
    LiftP Try.prog (binS Go.BinOp.lss 3 (Go.Operand.tmp 11) (Go.Operand.tmp 13) (vs.headD undef) v13) (fun v14 w =>
    CondP v14 (fun w =>
      DrawP (fun S w =>
    YieldP Try.prog S (Instr.indexAt 56 a0 (vs.headD undef)) (fun v19 w =>
    YieldP Try.prog S (Instr.loadAt 68 v19) (fun v20 w =>
    YieldP Try.prog S (Instr.indexAt 56 a1 (vs.headD undef)) (fun v23 w =>
    YieldP Try.prog S (Instr.loadAt 68 v23) (fun v24 w =>
    YieldP Try.prog S (binS Go.BinOp.neq 68 (Go.Operand.tmp 20) (Go.Operand.tmp 24) v20 v24) (fun v25 w =>
    CondP v25 (fun w =>
      R (Go.Value.bool false) w) (fun w =>
      LiftP Try.prog (binS Go.BinOp.add 3 (Go.Operand.tmp 15) (Go.Operand.const (Go.Value.int Go.IntKind.i64 1)) (vs.headD undef) (Go.Value.int Go.IntKind.i64 1)) (fun v16 w =>
    J [v16] w) w) w) w) w) w) w) w) w) (fun w =>
      R (Go.Value.bool true) w) w) w) w) [(Go.Value.int Go.IntKind.i64 0)] w) w) w) w) w
theorem S62.calls (a0 a1 : Value) (R : Value → World → Prop) (w : World) (h : S62 a0 a1 R w) : Calls Try.prog 62 #[a0, a1] w fun e w' => ∃ v, e = .returned v ∧ R v w' :=
  calls_of_tr (n := 26) (c := bodyOf Try.f62) (.two .leaf (.two (.two .leaf (.two (.two .leaf .leaf) .leaf)) (.two (.two .leaf (.one (.loop [5] (.two (.two .leaf (.two .leaf .leaf)) (.two (.one (.two (.draw [(true, 0), (true, 1), (true, 2), (true, 3), (true, 4), (true, 5), (true, 6), (true, 7), (true, 8)]) (.two (.two .leaf .leaf) .leaf))) .leaf))))) (.two .leaf .leaf)))) Try.func62 (by kernel_rfl) Try.ntmps62 (by kernel_rfl) (by kernel_rfl) [a0, a1] (by kernel_rfl) (of_eq_ (by kernel_rfl) h)

end Go.Proofs.Ythicbfopjakiiaa.E
namespace Go.Proofs.Ythicbfopjakiiaa.E
open Go
set_option maxRecDepth 100000

/-- shelfmark/shelfmarkref13.numbers -/
def S63 (a0 : Value) (R : Value → World → Prop) (w : World) : Prop :=
  LiftP Try.prog (Instr.box 58 a0) (fun v1 w =>
  LiftP Try.prog (Instr.fieldAt 58 v1 1) (fun v3 w =>
  LiftP Try.prog (Instr.loadAt 3 v3) (fun v4 w =>
  LiftP Try.prog (Instr.fieldAt 58 v1 2) (fun v5 w =>
  LiftP Try.prog (Instr.loadAt 3 v5) (fun v6 w =>
  LiftP Try.prog (Instr.fieldAt 58 v1 3) (fun v7 w =>
  LiftP Try.prog (Instr.loadAt 3 v7) (fun v8 w =>
  LiftP Try.prog (Instr.fieldAt 58 v1 4) (fun v9 w =>
  LiftP Try.prog (Instr.loadAt 3 v9) (fun v10 w =>
  LiftP Try.prog (Instr.fieldAt 58 v1 5) (fun v11 w =>
  LiftP Try.prog (Instr.loadAt 3 v11) (fun v12 w =>
  LiftP Try.prog (Instr.fieldAt 58 v1 6) (fun v13 w =>
  LiftP Try.prog (Instr.loadAt 3 v13) (fun v14 w =>
  LiftP Try.prog (Instr.fieldAt 58 v1 11) (fun v15 w =>
  LiftP Try.prog (Instr.loadAt 25 v15) (fun v16 w =>
  LiftP Try.prog (Instr.buildSlice 81 7 #[(0, v4), (1, v6), (2, v8), (3, v10), (4, v12), (5, v14), (6, v16)]) (fun v17 w =>
  R v17 w) w) w) w) w) w) w) w) w) w) w) w) w) w) w) w) w
theorem S63.calls (a0 : Value) (R : Value → World → Prop) (w : World) (h : S63 a0 R w) : Calls Try.prog 63 #[a0] w fun e w' => ∃ v, e = .returned v ∧ R v w' :=
  calls_of_tr (n := 18) (c := bodyOf Try.f63) (.two .leaf (.two .leaf .leaf)) Try.func63 (by kernel_rfl) Try.ntmps63 (by kernel_rfl) (by kernel_rfl) [a0] (by kernel_rfl) (of_eq_ (by kernel_rfl) h)

end Go.Proofs.Ythicbfopjakiiaa.E
