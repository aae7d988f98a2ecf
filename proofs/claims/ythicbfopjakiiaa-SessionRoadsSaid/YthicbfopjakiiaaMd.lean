import Derived.Test.YthicbfopjakiiaaMc
import Derived.Test.YthicbfopjakiiaaM3
import Derived.Test.YthicbfopjakiiaaS6
namespace Go.Proofs.Ythicbfopjakiiaa.E
open Go Go.RowKit
set_option linter.unusedSimpArgs false
set_option linter.unusedVariables false

/-- An end in memory; its blocks lie in F. -/
def EndF (F : Nat → Prop) (w : World) (g mark sent : Nat) (ts : List ByteArray) : Prop :=
  F g ∧ ∃ A c, Blk w g 101 #[.int .i64 mark, .int .i64 sent, .slice A ts.length c] ∧ Own 9 w (.slice A ts.length c) (ts.map Value.string) ∧ (∀ k, (Value.slice A ts.length c).ownBlock = some k → F k) ∧ (Value.slice A ts.length c).ownBlock ≠ some g
section
variable {F : Nat → Prop} {w w' : World} {g mark sent : Nat} {ts : List ByteArray}
theorem EndF.at (h : EndF F w g mark sent ts) : EndAt 0 w g mark sent ts := by
  obtain ⟨h0, A, c, h1, h2, h3, h4⟩ := h
  exact ⟨Nat.zero_le _, A, c, h1, h2, fun _ _ => Nat.zero_le _, h4⟩
theorem EndF.of {B : Nat} (h : EndAt B w g mark sent ts) : EndF (fun k => B ≤ k) w g mark sent ts := by
  obtain ⟨h0, A, c, h1, h2, h3, h4⟩ := h
  exact ⟨h0, A, c, h1, h2, h3, h4⟩
theorem EndF.mono {G : Nat → Prop} (h : EndF F w g mark sent ts) (hG : ∀ k, F k → G k) : EndF G w g mark sent ts := by
  obtain ⟨h0, A, c, h1, h2, h3, h4⟩ := h
  exact ⟨hG _ h0, A, c, h1, h2, fun k hk => hG k (h3 k hk), h4⟩
theorem EndF.turns {G : Nat → Prop} (h : EndF F w g mark sent ts) (hT : Turns G w w') (hG : ∀ k, F k → ¬ G k) : EndF F w' g mark sent ts := by
  obtain ⟨h0, A, c, h1, h2, h3, h4⟩ := h
  exact ⟨h0, A, c, h1.turns hT (hG _ h0), h2.turns hT (fun k hk => hG k (h3 k hk)), h3, h4⟩
theorem EndF.below (h : EndF F w g mark sent ts) (hb : Below w.heap.size w w') : EndF F w' g mark sent ts := h.turns (G := fun _ => False) (Turns.of_below hb) (fun _ _ h => h)
end

theorem Send_F (F : Nat → Prop) (w : World) (g mark sent : Nat) (ts : List ByteArray) (s : ByteArray) (h : EndF F w g mark sent ts) (hm : sent ≤ 1099511627776) (hss : s.size ≤ 1000000000) :
    CallP Try.prog 13 #[.pointer (some ⟨g, 0, none⟩), .string s] (fun r w' => r = .tuple #[.int .i64 (sendAns sent ts s).1, .int .i64 (sendAns sent ts s).2.1] ∧ EndF (Ext F w.heap.size) w' g mark (sendAns sent ts s).2.2.1 (sendAns sent ts s).2.2.2 ∧ Turns F w w') w := by
  have h0 : EndF (Ext F w.heap.size) w g mark sent ts := h.mono fun k hk => .inl hk
  obtain ⟨hB, A, c, hbl, ho, hf, hd⟩ := h
  have c1 : w.cell? ⟨g, 1, none⟩ = some (.int .i64 sent) := hbl.cell 1
  have c2 : w.cell? ⟨g, 2, none⟩ = some (.slice A ts.length c) := hbl.cell 2
  refine ⟨S13.calls _ _ _ _ ?_⟩
  unfold S13
  refine lns und9 ?_
  (first | refine bi_lss_c (fun h => ?_) (fun h => ?_) | refine bi_eql_c (fun h => ?_) (fun h => ?_) | refine bi_neq_c (fun h => ?_) (fun h => ?_) | refine bi_gtr_c (fun h => ?_) (fun h => ?_) | refine bi_leq_c (fun h => ?_) (fun h => ?_) | refine bi_geq_c (fun h => ?_) (fun h => ?_) | refine bi_seql_c (fun h => ?_) (fun h => ?_) | refine bi_sneq_c (fun h => ?_) (fun h => ?_))
  · (repeat with_reducible first|refine z_a ?_|refine z_b ?_|refine z_c ?_|refine z_d ?_|refine z_e ?_|refine z_f ?_|refine z_g ?_|refine z_h ?_|refine z_i ?_|refine z_j ?_|refine z_k ?_|refine z_l ?_|refine z_m (by omega) ?_|refine z_n (by omega) ?_|refine z_o (by omega) ?_|refine z_p (by omega) ?_|refine z_q (by omega) ?_|refine z_r (by omega) ?_|refine z_s (by omega) ?_|refine z_t (by omega) ?_|refine z_u (by omega) ?_|refine z_v (by omega) ?_|refine z_w (by omega) ?_|refine z_x (by omega) ?_|refine z_y (by omega) ?_|refine z_z (by omega) ?_|refine z_A ?_|refine z_B ?_|refine z_C ?_|refine z_D ?_|refine z_E ?_|refine z_F ?_|refine z_G ?_|refine z_H ?_|refine z_I ?_|refine z_J ?_|refine z_K (by omega) (by decide) ?_|refine z_L (by omega) (by decide) ?_|refine z_M (by omega) ?_|refine z_N (by omega) ?_|refine z_O (by omega) ?_|refine z_P ?_|refine z_Q ?_|refine z_R ?_|refine z_S ?_|refine z_T ?_|refine z_U (by decide) ?_|refine z_V (by decide) ?_)
    rw [sendAns, if_pos (by omega)]
    exact ⟨rfl, h0, Turns.refl _ w⟩
  (repeat with_reducible first|refine z_a ?_|refine z_b ?_|refine z_c ?_|refine z_d ?_|refine z_e ?_|refine z_f ?_|refine z_g ?_|refine z_h ?_|refine z_i ?_|refine z_j ?_|refine z_k ?_|refine z_l ?_|refine z_m (by omega) ?_|refine z_n (by omega) ?_|refine z_o (by omega) ?_|refine z_p (by omega) ?_|refine z_q (by omega) ?_|refine z_r (by omega) ?_|refine z_s (by omega) ?_|refine z_t (by omega) ?_|refine z_u (by omega) ?_|refine z_v (by omega) ?_|refine z_w (by omega) ?_|refine z_x (by omega) ?_|refine z_y (by omega) ?_|refine z_z (by omega) ?_|refine z_A ?_|refine z_B ?_|refine z_C ?_|refine z_D ?_|refine z_E ?_|refine z_F ?_|refine z_G ?_|refine z_H ?_|refine z_I ?_|refine z_J ?_|refine z_K (by omega) (by decide) ?_|refine z_L (by omega) (by decide) ?_|refine z_M (by omega) ?_|refine z_N (by omega) ?_|refine z_O (by omega) ?_|refine z_P ?_|refine z_Q ?_|refine z_R ?_|refine z_S ?_|refine z_T ?_|refine z_U (by decide) ?_|refine z_V (by decide) ?_)
  refine JoinP.cut (fun vs w' => vs = [.bool (decide (256 ≤ ts.length ∨ 1099511627776 ≤ sent))] ∧ w = w') (fun J hJ => ?_) ?_
  · (repeat with_reducible first | refine fd g2 (by decide) ?_| refine ld one37 c2 ?_| refine ln und37 ?_|refine z_a ?_|refine z_b ?_|refine z_c ?_|refine z_d ?_|refine z_e ?_|refine z_f ?_|refine z_g ?_|refine z_h ?_|refine z_i ?_|refine z_j ?_|refine z_k ?_|refine z_l ?_|refine z_m (by omega) ?_|refine z_n (by omega) ?_|refine z_o (by omega) ?_|refine z_p (by omega) ?_|refine z_q (by omega) ?_|refine z_r (by omega) ?_|refine z_s (by omega) ?_|refine z_t (by omega) ?_|refine z_u (by omega) ?_|refine z_v (by omega) ?_|refine z_w (by omega) ?_|refine z_x (by omega) ?_|refine z_y (by omega) ?_|refine z_z (by omega) ?_|refine z_A ?_|refine z_B ?_|refine z_C ?_|refine z_D ?_|refine z_E ?_|refine z_F ?_|refine z_G ?_|refine z_H ?_|refine z_I ?_|refine z_J ?_|refine z_K (by omega) (by decide) ?_|refine z_L (by omega) (by decide) ?_|refine z_M (by omega) ?_|refine z_N (by omega) ?_|refine z_O (by omega) ?_|refine z_P ?_|refine z_Q ?_|refine z_R ?_|refine z_S ?_|refine z_T ?_|refine z_U (by decide) ?_|refine z_V (by decide) ?_)
    (first | refine bi_lss_c (fun h => ?_) (fun h => ?_) | refine bi_eql_c (fun h => ?_) (fun h => ?_) | refine bi_neq_c (fun h => ?_) (fun h => ?_) | refine bi_gtr_c (fun h => ?_) (fun h => ?_) | refine bi_leq_c (fun h => ?_) (fun h => ?_) | refine bi_geq_c (fun h => ?_) (fun h => ?_) | refine bi_seql_c (fun h => ?_) (fun h => ?_) | refine bi_sneq_c (fun h => ?_) (fun h => ?_))
    · (repeat with_reducible first|refine z_a ?_|refine z_b ?_|refine z_c ?_|refine z_d ?_|refine z_e ?_|refine z_f ?_|refine z_g ?_|refine z_h ?_|refine z_i ?_|refine z_j ?_|refine z_k ?_|refine z_l ?_|refine z_m (by omega) ?_|refine z_n (by omega) ?_|refine z_o (by omega) ?_|refine z_p (by omega) ?_|refine z_q (by omega) ?_|refine z_r (by omega) ?_|refine z_s (by omega) ?_|refine z_t (by omega) ?_|refine z_u (by omega) ?_|refine z_v (by omega) ?_|refine z_w (by omega) ?_|refine z_x (by omega) ?_|refine z_y (by omega) ?_|refine z_z (by omega) ?_|refine z_A ?_|refine z_B ?_|refine z_C ?_|refine z_D ?_|refine z_E ?_|refine z_F ?_|refine z_G ?_|refine z_H ?_|refine z_I ?_|refine z_J ?_|refine z_K (by omega) (by decide) ?_|refine z_L (by omega) (by decide) ?_|refine z_M (by omega) ?_|refine z_N (by omega) ?_|refine z_O (by omega) ?_|refine z_P ?_|refine z_Q ?_|refine z_R ?_|refine z_S ?_|refine z_T ?_|refine z_U (by decide) ?_|refine z_V (by decide) ?_)
      exact hJ _ _ ⟨by rw [decide_eq_true (Or.inl (by omega))], rfl⟩
    (repeat with_reducible first | refine fd g1 (by decide) ?_| refine ld one3 c1 ?_|refine z_a ?_|refine z_b ?_|refine z_c ?_|refine z_d ?_|refine z_e ?_|refine z_f ?_|refine z_g ?_|refine z_h ?_|refine z_i ?_|refine z_j ?_|refine z_k ?_|refine z_l ?_|refine z_m (by omega) ?_|refine z_n (by omega) ?_|refine z_o (by omega) ?_|refine z_p (by omega) ?_|refine z_q (by omega) ?_|refine z_r (by omega) ?_|refine z_s (by omega) ?_|refine z_t (by omega) ?_|refine z_u (by omega) ?_|refine z_v (by omega) ?_|refine z_w (by omega) ?_|refine z_x (by omega) ?_|refine z_y (by omega) ?_|refine z_z (by omega) ?_|refine z_A ?_|refine z_B ?_|refine z_C ?_|refine z_D ?_|refine z_E ?_|refine z_F ?_|refine z_G ?_|refine z_H ?_|refine z_I ?_|refine z_J ?_|refine z_K (by omega) (by decide) ?_|refine z_L (by omega) (by decide) ?_|refine z_M (by omega) ?_|refine z_N (by omega) ?_|refine z_O (by omega) ?_|refine z_P ?_|refine z_Q ?_|refine z_R ?_|refine z_S ?_|refine z_T ?_|refine z_U (by decide) ?_|refine z_V (by decide) ?_)
    (first | refine bi_lss_c (fun h => ?_) (fun h => ?_) | refine bi_eql_c (fun h => ?_) (fun h => ?_) | refine bi_neq_c (fun h => ?_) (fun h => ?_) | refine bi_gtr_c (fun h => ?_) (fun h => ?_) | refine bi_leq_c (fun h => ?_) (fun h => ?_) | refine bi_geq_c (fun h => ?_) (fun h => ?_) | refine bi_seql_c (fun h => ?_) (fun h => ?_) | refine bi_sneq_c (fun h => ?_) (fun h => ?_))
    · exact hJ _ _ ⟨by rw [decide_eq_true (Or.inr (by omega))], rfl⟩
    · exact hJ _ _ ⟨by rw [decide_eq_false (by omega)], rfl⟩
  rintro _ _ ⟨rfl, rfl⟩
  dsimp only [List.headD_cons, List.tail_cons]
  refine CondP.dec (fun hh => ?_) (fun hh => ?_)
  · rw [sendAns, if_neg (by omega), if_pos hh]
    exact ⟨rfl, h0, Turns.refl _ w⟩
  (repeat with_reducible first | refine fd g1 (by decide) ?_| refine ld one3 c1 ?_|refine z_a ?_|refine z_b ?_|refine z_c ?_|refine z_d ?_|refine z_e ?_|refine z_f ?_|refine z_g ?_|refine z_h ?_|refine z_i ?_|refine z_j ?_|refine z_k ?_|refine z_l ?_|refine z_m (by omega) ?_|refine z_n (by omega) ?_|refine z_o (by omega) ?_|refine z_p (by omega) ?_|refine z_q (by omega) ?_|refine z_r (by omega) ?_|refine z_s (by omega) ?_|refine z_t (by omega) ?_|refine z_u (by omega) ?_|refine z_v (by omega) ?_|refine z_w (by omega) ?_|refine z_x (by omega) ?_|refine z_y (by omega) ?_|refine z_z (by omega) ?_|refine z_A ?_|refine z_B ?_|refine z_C ?_|refine z_D ?_|refine z_E ?_|refine z_F ?_|refine z_G ?_|refine z_H ?_|refine z_I ?_|refine z_J ?_|refine z_K (by omega) (by decide) ?_|refine z_L (by omega) (by decide) ?_|refine z_M (by omega) ?_|refine z_N (by omega) ?_|refine z_O (by omega) ?_|refine z_P ?_|refine z_Q ?_|refine z_R ?_|refine z_S ?_|refine z_T ?_|refine z_U (by decide) ?_|refine z_V (by decide) ?_)
  rw [show ((sent : Int) + 1) = ((sent + 1 : Nat) : Int) from by omega]
  refine st sz3 rfl (by rw [hbl.cell 1]; rfl) (hbl.frozen 1) ?_
  have hbl1 : Blk (w.setCell ⟨g, 1, none⟩ (.int .i64 ((sent + 1 : Nat) : Int))) g 101 #[.int .i64 mark, .int .i64 (sent + 1 : Nat), .slice A ts.length c] := hbl.set_ 1 _
  have ho1 := ho.far (p := ⟨g, 1, none⟩) hd (.int .i64 ((sent + 1 : Nat) : Int))
  have hb1 : Turns F w (w.setCell ⟨g, 1, none⟩ (.int .i64 ((sent + 1 : Nat) : Int))) := (Turns.refl F w).setCell (.inl hB) _
  generalize w.setCell ⟨g, 1, none⟩ (.int .i64 ((sent + 1 : Nat) : Int)) = w1 at *
  have c2' : w1.cell? ⟨g, 2, none⟩ = some (.slice A ts.length c) := hbl1.cell 2
  (repeat with_reducible first | refine fd g2 (by decide) ?_| refine ld one37 c2' ?_|refine z_a ?_|refine z_b ?_|refine z_c ?_|refine z_d ?_|refine z_e ?_|refine z_f ?_|refine z_g ?_|refine z_h ?_|refine z_i ?_|refine z_j ?_|refine z_k ?_|refine z_l ?_|refine z_m (by omega) ?_|refine z_n (by omega) ?_|refine z_o (by omega) ?_|refine z_p (by omega) ?_|refine z_q (by omega) ?_|refine z_r (by omega) ?_|refine z_s (by omega) ?_|refine z_t (by omega) ?_|refine z_u (by omega) ?_|refine z_v (by omega) ?_|refine z_w (by omega) ?_|refine z_x (by omega) ?_|refine z_y (by omega) ?_|refine z_z (by omega) ?_|refine z_A ?_|refine z_B ?_|refine z_C ?_|refine z_D ?_|refine z_E ?_|refine z_F ?_|refine z_G ?_|refine z_H ?_|refine z_I ?_|refine z_J ?_|refine z_K (by omega) (by decide) ?_|refine z_L (by omega) (by decide) ?_|refine z_M (by omega) ?_|refine z_N (by omega) ?_|refine z_O (by omega) ?_|refine z_P ?_|refine z_Q ?_|refine z_R ?_|refine z_S ?_|refine z_T ?_|refine z_U (by decide) ?_|refine z_V (by decide) ?_)
  refine lift (v := .slice (some ⟨w1.heap.size, 0, none⟩) 1 1) (w' := w1.alloc (.cells #[.string s] 9)) (by kernel_rfl) ?_
  have ha := (Below.refl w1.heap.size w1).alloc (Nat.le_refl _) (.cells #[.string s] 9)
  have hbl2 := hbl1.below' ha
  have ho2 := ho1.below ha
  have hb2 : Turns F w (w1.alloc (.cells #[.string s] 9)) := hb1.alloc _
  have hrs : Rd (w1.alloc (.cells #[.string s] 9)) (.slice (some ⟨w1.heap.size, 0, none⟩) 1 1) [.string s] := (Own.new w1 9 [.string s] (by simp)).rd
  generalize w1.alloc (.cells #[.string s] 9) = w2 at *
  refine apT und37 inf9 (by rfl) (by decide) ho2 hrs (by simp [Value.oneCell']) (by simp; omega) ?_
  intro v3 w3 ho3 hbl3 hT3
  have hblk3 : Blk w3 g 101 #[.int .i64 mark, .int .i64 (sent + 1 : Nat), .slice A ts.length c] := hbl2.turns hT3 hd
  have hb3 : Turns F w w3 := hb2.trans (hT3.mono fun k _ hk => .inl (hf k hk))
  have hs2 := hb2.size
  have hf3 : ∀ k, v3.ownBlock = some k → Ext F w.heap.size k := fun k hk => by
    rcases hbl3 with h | h
    · rw [h] at hk; exact .inl (hf k hk)
    · rw [h] at hk; cases hk; exact .inr hs2
  have hd3 : v3.ownBlock ≠ some g := fun he => by
    rcases hbl3 with h | h
    · exact hd (h ▸ he)
    · rw [h] at he; have := hbl2.lt; cases he; omega
  obtain ⟨A3, c3, rfl⟩ := ho3.slice
  (repeat with_reducible first | refine fd g2 (by decide) ?_|refine z_a ?_|refine z_b ?_|refine z_c ?_|refine z_d ?_|refine z_e ?_|refine z_f ?_|refine z_g ?_|refine z_h ?_|refine z_i ?_|refine z_j ?_|refine z_k ?_|refine z_l ?_|refine z_m (by omega) ?_|refine z_n (by omega) ?_|refine z_o (by omega) ?_|refine z_p (by omega) ?_|refine z_q (by omega) ?_|refine z_r (by omega) ?_|refine z_s (by omega) ?_|refine z_t (by omega) ?_|refine z_u (by omega) ?_|refine z_v (by omega) ?_|refine z_w (by omega) ?_|refine z_x (by omega) ?_|refine z_y (by omega) ?_|refine z_z (by omega) ?_|refine z_A ?_|refine z_B ?_|refine z_C ?_|refine z_D ?_|refine z_E ?_|refine z_F ?_|refine z_G ?_|refine z_H ?_|refine z_I ?_|refine z_J ?_|refine z_K (by omega) (by decide) ?_|refine z_L (by omega) (by decide) ?_|refine z_M (by omega) ?_|refine z_N (by omega) ?_|refine z_O (by omega) ?_|refine z_P ?_|refine z_Q ?_|refine z_R ?_|refine z_S ?_|refine z_T ?_|refine z_U (by decide) ?_|refine z_V (by decide) ?_)
  refine st sz37 rfl (by rw [hblk3.cell 2]; rfl) (hblk3.frozen 2) ?_
  have hbl4 := hblk3.set_ 2 (.slice A3 (ts.map Value.string ++ [Value.string s]).length c3)
  have ho4 := ho3.far (p := ⟨g, 2, none⟩) hd3 (.slice A3 (ts.map Value.string ++ [Value.string s]).length c3)
  have hb4 := hb3.setCell (p := ⟨g, 2, none⟩) (.inl hB) (.slice A3 (ts.map Value.string ++ [Value.string s]).length c3)
  generalize w3.setCell ⟨g, 2, none⟩ (.slice A3 (ts.map Value.string ++ [Value.string s]).length c3) = w4 at *
  have hcell : w4.cell? ⟨g, 1, none⟩ = some (.int .i64 ((sent + 1 : Nat) : Int)) := hbl4.cell 1
  (repeat with_reducible first | refine fd g1 (by decide) ?_| refine ld one3 hcell ?_|refine z_a ?_|refine z_b ?_|refine z_c ?_|refine z_d ?_|refine z_e ?_|refine z_f ?_|refine z_g ?_|refine z_h ?_|refine z_i ?_|refine z_j ?_|refine z_k ?_|refine z_l ?_|refine z_m (by omega) ?_|refine z_n (by omega) ?_|refine z_o (by omega) ?_|refine z_p (by omega) ?_|refine z_q (by omega) ?_|refine z_r (by omega) ?_|refine z_s (by omega) ?_|refine z_t (by omega) ?_|refine z_u (by omega) ?_|refine z_v (by omega) ?_|refine z_w (by omega) ?_|refine z_x (by omega) ?_|refine z_y (by omega) ?_|refine z_z (by omega) ?_|refine z_A ?_|refine z_B ?_|refine z_C ?_|refine z_D ?_|refine z_E ?_|refine z_F ?_|refine z_G ?_|refine z_H ?_|refine z_I ?_|refine z_J ?_|refine z_K (by omega) (by decide) ?_|refine z_L (by omega) (by decide) ?_|refine z_M (by omega) ?_|refine z_N (by omega) ?_|refine z_O (by omega) ?_|refine z_P ?_|refine z_Q ?_|refine z_R ?_|refine z_S ?_|refine z_T ?_|refine z_U (by decide) ?_|refine z_V (by decide) ?_)
  have hnl : (ts.map Value.string ++ [Value.string s]).length = (ts ++ [s]).length := by simp
  rw [hnl] at hbl4 ho4 hf3 hd3
  rw [sendAns, if_neg (by omega), if_neg hh]
  exact ⟨rfl, ⟨.inl hB, A3, c3, hbl4, by rw [List.map_append]; exact ho4, hf3, hd3⟩, hb4⟩

/-- Does a number come next? -/
def takes (mark : Nat) (m : Int) : Prop := m = ((mark + 1 : Nat) : Int) ∧ m ≤ 1099511627776
instance (mark : Nat) (m : Int) : Decidable (takes mark m) := inferInstanceAs (Decidable (_ ∧ _))
theorem Take_F (F : Nat → Prop) (w : World) (g mark sent : Nat) (ts : List ByteArray) (m : Int) (s : Value) (h : EndF F w g mark sent ts) (hmk : mark ≤ 1099511627776) (hmm : -9223372036854775808 ≤ m ∧ m ≤ 9223372036854775807) :
    CallP Try.prog 24 #[.pointer (some ⟨g, 0, none⟩), .int .i64 m, s] (fun r w' => r = .bool (decide (takes mark m)) ∧ EndF F w' g (if takes mark m then mark + 1 else mark) sent ts ∧ Turns F w w') w := by
  have h0 := h
  obtain ⟨hB, A, c, hbl, ho, hf, hd⟩ := h
  have c0 : w.cell? ⟨g, 0, none⟩ = some (.int .i64 mark) := hbl.cell 0
  refine ⟨S24.calls _ _ _ _ _ ?_⟩
  unfold S24
  by_cases hmin : m = -9223372036854775808
  · subst hmin
    have hn : ¬ takes mark (-9223372036854775808) := fun ⟨h, _⟩ => by omega
    refine bi_sub ?_
    rw [show IntKind.wrap .i64 (-9223372036854775808 - 1) = 9223372036854775807 from by decide]
    (repeat with_reducible first | refine fd g0 (by decide) ?_| refine ld one3 c0 ?_|refine z_a ?_|refine z_b ?_|refine z_c ?_|refine z_d ?_|refine z_e ?_|refine z_f ?_|refine z_g ?_|refine z_h ?_|refine z_i ?_|refine z_j ?_|refine z_k ?_|refine z_l ?_|refine z_m (by omega) ?_|refine z_n (by omega) ?_|refine z_o (by omega) ?_|refine z_p (by omega) ?_|refine z_q (by omega) ?_|refine z_r (by omega) ?_|refine z_s (by omega) ?_|refine z_t (by omega) ?_|refine z_u (by omega) ?_|refine z_v (by omega) ?_|refine z_w (by omega) ?_|refine z_x (by omega) ?_|refine z_y (by omega) ?_|refine z_z (by omega) ?_|refine z_A ?_|refine z_B ?_|refine z_C ?_|refine z_D ?_|refine z_E ?_|refine z_F ?_|refine z_G ?_|refine z_H ?_|refine z_I ?_|refine z_J ?_|refine z_K (by omega) (by decide) ?_|refine z_L (by omega) (by decide) ?_|refine z_M (by omega) ?_|refine z_N (by omega) ?_|refine z_O (by omega) ?_|refine z_P ?_|refine z_Q ?_|refine z_R ?_|refine z_S ?_|refine z_T ?_|refine z_U (by decide) ?_|refine z_V (by decide) ?_)
    rw [decide_eq_false hn, if_neg hn]
    exact ⟨rfl, h0, Turns.refl _ w⟩
  (repeat with_reducible first | refine fd g0 (by decide) ?_| refine ld one3 c0 ?_|refine z_a ?_|refine z_b ?_|refine z_c ?_|refine z_d ?_|refine z_e ?_|refine z_f ?_|refine z_g ?_|refine z_h ?_|refine z_i ?_|refine z_j ?_|refine z_k ?_|refine z_l ?_|refine z_m (by omega) ?_|refine z_n (by omega) ?_|refine z_o (by omega) ?_|refine z_p (by omega) ?_|refine z_q (by omega) ?_|refine z_r (by omega) ?_|refine z_s (by omega) ?_|refine z_t (by omega) ?_|refine z_u (by omega) ?_|refine z_v (by omega) ?_|refine z_w (by omega) ?_|refine z_x (by omega) ?_|refine z_y (by omega) ?_|refine z_z (by omega) ?_|refine z_A ?_|refine z_B ?_|refine z_C ?_|refine z_D ?_|refine z_E ?_|refine z_F ?_|refine z_G ?_|refine z_H ?_|refine z_I ?_|refine z_J ?_|refine z_K (by omega) (by decide) ?_|refine z_L (by omega) (by decide) ?_|refine z_M (by omega) ?_|refine z_N (by omega) ?_|refine z_O (by omega) ?_|refine z_P ?_|refine z_Q ?_|refine z_R ?_|refine z_S ?_|refine z_T ?_|refine z_U (by decide) ?_|refine z_V (by decide) ?_)
  (first | refine bi_lss_c (fun h => ?_) (fun h => ?_) | refine bi_eql_c (fun h => ?_) (fun h => ?_) | refine bi_neq_c (fun h => ?_) (fun h => ?_) | refine bi_gtr_c (fun h => ?_) (fun h => ?_) | refine bi_leq_c (fun h => ?_) (fun h => ?_) | refine bi_geq_c (fun h => ?_) (fun h => ?_) | refine bi_seql_c (fun h => ?_) (fun h => ?_) | refine bi_sneq_c (fun h => ?_) (fun h => ?_))
  · have hn : ¬ takes mark m := fun ⟨h, _⟩ => by omega
    (repeat with_reducible first|refine z_a ?_|refine z_b ?_|refine z_c ?_|refine z_d ?_|refine z_e ?_|refine z_f ?_|refine z_g ?_|refine z_h ?_|refine z_i ?_|refine z_j ?_|refine z_k ?_|refine z_l ?_|refine z_m (by omega) ?_|refine z_n (by omega) ?_|refine z_o (by omega) ?_|refine z_p (by omega) ?_|refine z_q (by omega) ?_|refine z_r (by omega) ?_|refine z_s (by omega) ?_|refine z_t (by omega) ?_|refine z_u (by omega) ?_|refine z_v (by omega) ?_|refine z_w (by omega) ?_|refine z_x (by omega) ?_|refine z_y (by omega) ?_|refine z_z (by omega) ?_|refine z_A ?_|refine z_B ?_|refine z_C ?_|refine z_D ?_|refine z_E ?_|refine z_F ?_|refine z_G ?_|refine z_H ?_|refine z_I ?_|refine z_J ?_|refine z_K (by omega) (by decide) ?_|refine z_L (by omega) (by decide) ?_|refine z_M (by omega) ?_|refine z_N (by omega) ?_|refine z_O (by omega) ?_|refine z_P ?_|refine z_Q ?_|refine z_R ?_|refine z_S ?_|refine z_T ?_|refine z_U (by decide) ?_|refine z_V (by decide) ?_)
    rw [decide_eq_false hn, if_neg hn]
    exact ⟨rfl, h0, Turns.refl _ w⟩
  (repeat with_reducible first|refine z_a ?_|refine z_b ?_|refine z_c ?_|refine z_d ?_|refine z_e ?_|refine z_f ?_|refine z_g ?_|refine z_h ?_|refine z_i ?_|refine z_j ?_|refine z_k ?_|refine z_l ?_|refine z_m (by omega) ?_|refine z_n (by omega) ?_|refine z_o (by omega) ?_|refine z_p (by omega) ?_|refine z_q (by omega) ?_|refine z_r (by omega) ?_|refine z_s (by omega) ?_|refine z_t (by omega) ?_|refine z_u (by omega) ?_|refine z_v (by omega) ?_|refine z_w (by omega) ?_|refine z_x (by omega) ?_|refine z_y (by omega) ?_|refine z_z (by omega) ?_|refine z_A ?_|refine z_B ?_|refine z_C ?_|refine z_D ?_|refine z_E ?_|refine z_F ?_|refine z_G ?_|refine z_H ?_|refine z_I ?_|refine z_J ?_|refine z_K (by omega) (by decide) ?_|refine z_L (by omega) (by decide) ?_|refine z_M (by omega) ?_|refine z_N (by omega) ?_|refine z_O (by omega) ?_|refine z_P ?_|refine z_Q ?_|refine z_R ?_|refine z_S ?_|refine z_T ?_|refine z_U (by decide) ?_|refine z_V (by decide) ?_)
  (first | refine bi_lss_c (fun h => ?_) (fun h => ?_) | refine bi_eql_c (fun h => ?_) (fun h => ?_) | refine bi_neq_c (fun h => ?_) (fun h => ?_) | refine bi_gtr_c (fun h => ?_) (fun h => ?_) | refine bi_leq_c (fun h => ?_) (fun h => ?_) | refine bi_geq_c (fun h => ?_) (fun h => ?_) | refine bi_seql_c (fun h => ?_) (fun h => ?_) | refine bi_sneq_c (fun h => ?_) (fun h => ?_))
  · have hn : ¬ takes mark m := fun ⟨_, h⟩ => by omega
    (repeat with_reducible first|refine z_a ?_|refine z_b ?_|refine z_c ?_|refine z_d ?_|refine z_e ?_|refine z_f ?_|refine z_g ?_|refine z_h ?_|refine z_i ?_|refine z_j ?_|refine z_k ?_|refine z_l ?_|refine z_m (by omega) ?_|refine z_n (by omega) ?_|refine z_o (by omega) ?_|refine z_p (by omega) ?_|refine z_q (by omega) ?_|refine z_r (by omega) ?_|refine z_s (by omega) ?_|refine z_t (by omega) ?_|refine z_u (by omega) ?_|refine z_v (by omega) ?_|refine z_w (by omega) ?_|refine z_x (by omega) ?_|refine z_y (by omega) ?_|refine z_z (by omega) ?_|refine z_A ?_|refine z_B ?_|refine z_C ?_|refine z_D ?_|refine z_E ?_|refine z_F ?_|refine z_G ?_|refine z_H ?_|refine z_I ?_|refine z_J ?_|refine z_K (by omega) (by decide) ?_|refine z_L (by omega) (by decide) ?_|refine z_M (by omega) ?_|refine z_N (by omega) ?_|refine z_O (by omega) ?_|refine z_P ?_|refine z_Q ?_|refine z_R ?_|refine z_S ?_|refine z_T ?_|refine z_U (by decide) ?_|refine z_V (by decide) ?_)
    rw [decide_eq_false hn, if_neg hn]
    exact ⟨rfl, h0, Turns.refl _ w⟩
  have hy : takes mark m := ⟨by omega, by omega⟩
  (repeat with_reducible first | refine fd g0 (by decide) ?_|refine z_a ?_|refine z_b ?_|refine z_c ?_|refine z_d ?_|refine z_e ?_|refine z_f ?_|refine z_g ?_|refine z_h ?_|refine z_i ?_|refine z_j ?_|refine z_k ?_|refine z_l ?_|refine z_m (by omega) ?_|refine z_n (by omega) ?_|refine z_o (by omega) ?_|refine z_p (by omega) ?_|refine z_q (by omega) ?_|refine z_r (by omega) ?_|refine z_s (by omega) ?_|refine z_t (by omega) ?_|refine z_u (by omega) ?_|refine z_v (by omega) ?_|refine z_w (by omega) ?_|refine z_x (by omega) ?_|refine z_y (by omega) ?_|refine z_z (by omega) ?_|refine z_A ?_|refine z_B ?_|refine z_C ?_|refine z_D ?_|refine z_E ?_|refine z_F ?_|refine z_G ?_|refine z_H ?_|refine z_I ?_|refine z_J ?_|refine z_K (by omega) (by decide) ?_|refine z_L (by omega) (by decide) ?_|refine z_M (by omega) ?_|refine z_N (by omega) ?_|refine z_O (by omega) ?_|refine z_P ?_|refine z_Q ?_|refine z_R ?_|refine z_S ?_|refine z_T ?_|refine z_U (by decide) ?_|refine z_V (by decide) ?_)
  refine st sz3 rfl (by rw [c0]; rfl) (hbl.frozen 0) ?_
  rw [decide_eq_true hy, if_pos hy, hy.1]
  exact ⟨rfl, ⟨hB, A, c, hbl.set_ 0 _, ho.far (p := ⟨g, 0, none⟩) hd _, hf, hd⟩, (Turns.refl F w).setCell (p := ⟨g, 0, none⟩) (.inl hB) _⟩
/-- How many are acknowledged. -/
def ackN (sent n : Nat) (m : Int) : Nat := if m < ((sent - n + 1 : Nat) : Int) ∨ (sent : Int) < m then 0 else m.toNat - (sent - n)
theorem Acked_F (F : Nat → Prop) (w : World) (g mark sent : Nat) (ts : List ByteArray) (m : Int) (h : EndF F w g mark sent ts) (hs : ts.length ≤ sent) (hm : sent ≤ 1099511627776) (hl : ts.length ≤ 1000000) :
    CallP Try.prog 15 #[.pointer (some ⟨g, 0, none⟩), .int .i64 m] (fun r w' => r = .int .i64 (ackN sent ts.length m) ∧ EndF (Ext F w.heap.size) w' g mark sent (ts.drop (ackN sent ts.length m)) ∧ Turns F w w') w := by
  refine ⟨S15.calls _ _ _ _ ?_⟩
  unfold S15
  refine (first_spec 0 w g mark sent ts h.at hs hm).mono ?_
  rintro _ w1 ⟨rfl, hb1⟩
  have h1 := h.below hb1
  have hT1 : Turns F w w1 := Turns.of_below hb1
  have h0 : EndF (Ext F w.heap.size) w1 g mark sent ts := h1.mono fun k hk => .inl hk
  have h1' := h1
  obtain ⟨hB, A, c, hbl, ho, hf, hd⟩ := h1'
  have c1 : w1.cell? ⟨g, 1, none⟩ = some (.int .i64 sent) := hbl.cell 1
  (first | refine bi_lss_c (fun h => ?_) (fun h => ?_) | refine bi_eql_c (fun h => ?_) (fun h => ?_) | refine bi_neq_c (fun h => ?_) (fun h => ?_) | refine bi_gtr_c (fun h => ?_) (fun h => ?_) | refine bi_leq_c (fun h => ?_) (fun h => ?_) | refine bi_geq_c (fun h => ?_) (fun h => ?_) | refine bi_seql_c (fun h => ?_) (fun h => ?_) | refine bi_sneq_c (fun h => ?_) (fun h => ?_))
  · have e : ackN sent ts.length m = 0 := by rw [ackN, if_pos (.inl (by omega))]
    (repeat with_reducible first|refine z_a ?_|refine z_b ?_|refine z_c ?_|refine z_d ?_|refine z_e ?_|refine z_f ?_|refine z_g ?_|refine z_h ?_|refine z_i ?_|refine z_j ?_|refine z_k ?_|refine z_l ?_|refine z_m (by omega) ?_|refine z_n (by omega) ?_|refine z_o (by omega) ?_|refine z_p (by omega) ?_|refine z_q (by omega) ?_|refine z_r (by omega) ?_|refine z_s (by omega) ?_|refine z_t (by omega) ?_|refine z_u (by omega) ?_|refine z_v (by omega) ?_|refine z_w (by omega) ?_|refine z_x (by omega) ?_|refine z_y (by omega) ?_|refine z_z (by omega) ?_|refine z_A ?_|refine z_B ?_|refine z_C ?_|refine z_D ?_|refine z_E ?_|refine z_F ?_|refine z_G ?_|refine z_H ?_|refine z_I ?_|refine z_J ?_|refine z_K (by omega) (by decide) ?_|refine z_L (by omega) (by decide) ?_|refine z_M (by omega) ?_|refine z_N (by omega) ?_|refine z_O (by omega) ?_|refine z_P ?_|refine z_Q ?_|refine z_R ?_|refine z_S ?_|refine z_T ?_|refine z_U (by decide) ?_|refine z_V (by decide) ?_)
    rw [e]
    exact ⟨rfl, h0, hT1⟩
  (repeat with_reducible first | refine fd g1 (by decide) ?_| refine ld one3 c1 ?_|refine z_a ?_|refine z_b ?_|refine z_c ?_|refine z_d ?_|refine z_e ?_|refine z_f ?_|refine z_g ?_|refine z_h ?_|refine z_i ?_|refine z_j ?_|refine z_k ?_|refine z_l ?_|refine z_m (by omega) ?_|refine z_n (by omega) ?_|refine z_o (by omega) ?_|refine z_p (by omega) ?_|refine z_q (by omega) ?_|refine z_r (by omega) ?_|refine z_s (by omega) ?_|refine z_t (by omega) ?_|refine z_u (by omega) ?_|refine z_v (by omega) ?_|refine z_w (by omega) ?_|refine z_x (by omega) ?_|refine z_y (by omega) ?_|refine z_z (by omega) ?_|refine z_A ?_|refine z_B ?_|refine z_C ?_|refine z_D ?_|refine z_E ?_|refine z_F ?_|refine z_G ?_|refine z_H ?_|refine z_I ?_|refine z_J ?_|refine z_K (by omega) (by decide) ?_|refine z_L (by omega) (by decide) ?_|refine z_M (by omega) ?_|refine z_N (by omega) ?_|refine z_O (by omega) ?_|refine z_P ?_|refine z_Q ?_|refine z_R ?_|refine z_S ?_|refine z_T ?_|refine z_U (by decide) ?_|refine z_V (by decide) ?_)
  (first | refine bi_lss_c (fun h => ?_) (fun h => ?_) | refine bi_eql_c (fun h => ?_) (fun h => ?_) | refine bi_neq_c (fun h => ?_) (fun h => ?_) | refine bi_gtr_c (fun h => ?_) (fun h => ?_) | refine bi_leq_c (fun h => ?_) (fun h => ?_) | refine bi_geq_c (fun h => ?_) (fun h => ?_) | refine bi_seql_c (fun h => ?_) (fun h => ?_) | refine bi_sneq_c (fun h => ?_) (fun h => ?_))
  · have e : ackN sent ts.length m = 0 := by rw [ackN, if_pos (.inr (by omega))]
    (repeat with_reducible first|refine z_a ?_|refine z_b ?_|refine z_c ?_|refine z_d ?_|refine z_e ?_|refine z_f ?_|refine z_g ?_|refine z_h ?_|refine z_i ?_|refine z_j ?_|refine z_k ?_|refine z_l ?_|refine z_m (by omega) ?_|refine z_n (by omega) ?_|refine z_o (by omega) ?_|refine z_p (by omega) ?_|refine z_q (by omega) ?_|refine z_r (by omega) ?_|refine z_s (by omega) ?_|refine z_t (by omega) ?_|refine z_u (by omega) ?_|refine z_v (by omega) ?_|refine z_w (by omega) ?_|refine z_x (by omega) ?_|refine z_y (by omega) ?_|refine z_z (by omega) ?_|refine z_A ?_|refine z_B ?_|refine z_C ?_|refine z_D ?_|refine z_E ?_|refine z_F ?_|refine z_G ?_|refine z_H ?_|refine z_I ?_|refine z_J ?_|refine z_K (by omega) (by decide) ?_|refine z_L (by omega) (by decide) ?_|refine z_M (by omega) ?_|refine z_N (by omega) ?_|refine z_O (by omega) ?_|refine z_P ?_|refine z_Q ?_|refine z_R ?_|refine z_S ?_|refine z_T ?_|refine z_U (by decide) ?_|refine z_V (by decide) ?_)
    rw [e]
    exact ⟨rfl, h0, hT1⟩
  (repeat with_reducible first|refine z_a ?_|refine z_b ?_|refine z_c ?_|refine z_d ?_|refine z_e ?_|refine z_f ?_|refine z_g ?_|refine z_h ?_|refine z_i ?_|refine z_j ?_|refine z_k ?_|refine z_l ?_|refine z_m (by omega) ?_|refine z_n (by omega) ?_|refine z_o (by omega) ?_|refine z_p (by omega) ?_|refine z_q (by omega) ?_|refine z_r (by omega) ?_|refine z_s (by omega) ?_|refine z_t (by omega) ?_|refine z_u (by omega) ?_|refine z_v (by omega) ?_|refine z_w (by omega) ?_|refine z_x (by omega) ?_|refine z_y (by omega) ?_|refine z_z (by omega) ?_|refine z_A ?_|refine z_B ?_|refine z_C ?_|refine z_D ?_|refine z_E ?_|refine z_F ?_|refine z_G ?_|refine z_H ?_|refine z_I ?_|refine z_J ?_|refine z_K (by omega) (by decide) ?_|refine z_L (by omega) (by decide) ?_|refine z_M (by omega) ?_|refine z_N (by omega) ?_|refine z_O (by omega) ?_|refine z_P ?_|refine z_Q ?_|refine z_R ?_|refine z_S ?_|refine z_T ?_|refine z_U (by decide) ?_|refine z_V (by decide) ?_)
  refine (first_spec 0 w1 g mark sent ts h1.at hs hm).mono ?_
  rintro _ w2 ⟨rfl, hb2⟩
  have hT2 := hT1.then_below hb2
  have hbl2 := hbl.below' hb2
  have ho2 := ho.below hb2
  obtain ⟨n, rfl⟩ : ∃ n : Nat, m = n := ⟨m.toNat, by omega⟩
  have e : ackN sent ts.length n = n - (sent - ts.length) := by rw [ackN, if_neg (by omega)]; rfl
  have c2 : w2.cell? ⟨g, 2, none⟩ = some (.slice A ts.length c) := hbl2.cell 2
  (repeat with_reducible first|refine z_a ?_|refine z_b ?_|refine z_c ?_|refine z_d ?_|refine z_e ?_|refine z_f ?_|refine z_g ?_|refine z_h ?_|refine z_i ?_|refine z_j ?_|refine z_k ?_|refine z_l ?_|refine z_m (by omega) ?_|refine z_n (by omega) ?_|refine z_o (by omega) ?_|refine z_p (by omega) ?_|refine z_q (by omega) ?_|refine z_r (by omega) ?_|refine z_s (by omega) ?_|refine z_t (by omega) ?_|refine z_u (by omega) ?_|refine z_v (by omega) ?_|refine z_w (by omega) ?_|refine z_x (by omega) ?_|refine z_y (by omega) ?_|refine z_z (by omega) ?_|refine z_A ?_|refine z_B ?_|refine z_C ?_|refine z_D ?_|refine z_E ?_|refine z_F ?_|refine z_G ?_|refine z_H ?_|refine z_I ?_|refine z_J ?_|refine z_K (by omega) (by decide) ?_|refine z_L (by omega) (by decide) ?_|refine z_M (by omega) ?_|refine z_N (by omega) ?_|refine z_O (by omega) ?_|refine z_P ?_|refine z_Q ?_|refine z_R ?_|refine z_S ?_|refine z_T ?_|refine z_U (by decide) ?_|refine z_V (by decide) ?_)
  rw [show ((n : Int) - ((sent - ts.length + 1 : Nat) : Int) + 1) = ((n - (sent - ts.length) : Nat) : Int) from by omega]
  (repeat with_reducible first | refine fd g2 (by decide) ?_| refine ld one37 c2 ?_|refine z_a ?_|refine z_b ?_|refine z_c ?_|refine z_d ?_|refine z_e ?_|refine z_f ?_|refine z_g ?_|refine z_h ?_|refine z_i ?_|refine z_j ?_|refine z_k ?_|refine z_l ?_|refine z_m (by omega) ?_|refine z_n (by omega) ?_|refine z_o (by omega) ?_|refine z_p (by omega) ?_|refine z_q (by omega) ?_|refine z_r (by omega) ?_|refine z_s (by omega) ?_|refine z_t (by omega) ?_|refine z_u (by omega) ?_|refine z_v (by omega) ?_|refine z_w (by omega) ?_|refine z_x (by omega) ?_|refine z_y (by omega) ?_|refine z_z (by omega) ?_|refine z_A ?_|refine z_B ?_|refine z_C ?_|refine z_D ?_|refine z_E ?_|refine z_F ?_|refine z_G ?_|refine z_H ?_|refine z_I ?_|refine z_J ?_|refine z_K (by omega) (by decide) ?_|refine z_L (by omega) (by decide) ?_|refine z_M (by omega) ?_|refine z_N (by omega) ?_|refine z_O (by omega) ?_|refine z_P ?_|refine z_Q ?_|refine z_R ?_|refine z_S ?_|refine z_T ?_|refine z_U (by decide) ?_|refine z_V (by decide) ?_)
  have hr2 := ho2.rd
  refine ct und37 sz9 hr2 (.at _ _) .no (by omega) (by simp) ?_
  intro v3 hr3
  have e3 : ((ts.map Value.string).take ts.length).drop (n - (sent - ts.length)) = (ts.drop (n - (sent - ts.length))).map Value.string := by
    rw [List.take_of_length_le (by simp), List.map_drop]
  rw [e3] at hr3
  refine apT und37 inf9 (by rfl) (by decide) (Own.nil 9 w2) hr3 (by intro u hu; obtain ⟨s, _, rfl⟩ := List.mem_map.1 hu; rfl) (by simp; omega) ?_
  intro v4 w4 ho4 hbl4 hT4
  have hblk4 := hbl2.turns hT4 (by simp [Value.ownBlock])
  have hT4' : Turns F w w4 := hT2.trans (hT4.mono fun k _ hk => by simp [Value.ownBlock] at hk)
  have hgl := hbl2.lt
  rw [List.nil_append] at ho4
  have hd4 : v4.ownBlock ≠ some g := fun he => by
    rcases hbl4 with h | h
    · rw [h] at he; cases he
    · rw [h] at he; cases he; omega
  have hs2 := hT2.size
  have hf4 : ∀ k, v4.ownBlock = some k → Ext F w.heap.size k := fun k hk => by
    rcases hbl4 with h | h
    · rw [h] at hk; cases hk
    · rw [h] at hk; cases hk; exact .inr hs2
  obtain ⟨A4, c4, rfl⟩ := ho4.slice
  rw [List.length_map] at ho4 hd4 hf4 ⊢
  (repeat with_reducible first | refine fd g2 (by decide) ?_|refine z_a ?_|refine z_b ?_|refine z_c ?_|refine z_d ?_|refine z_e ?_|refine z_f ?_|refine z_g ?_|refine z_h ?_|refine z_i ?_|refine z_j ?_|refine z_k ?_|refine z_l ?_|refine z_m (by omega) ?_|refine z_n (by omega) ?_|refine z_o (by omega) ?_|refine z_p (by omega) ?_|refine z_q (by omega) ?_|refine z_r (by omega) ?_|refine z_s (by omega) ?_|refine z_t (by omega) ?_|refine z_u (by omega) ?_|refine z_v (by omega) ?_|refine z_w (by omega) ?_|refine z_x (by omega) ?_|refine z_y (by omega) ?_|refine z_z (by omega) ?_|refine z_A ?_|refine z_B ?_|refine z_C ?_|refine z_D ?_|refine z_E ?_|refine z_F ?_|refine z_G ?_|refine z_H ?_|refine z_I ?_|refine z_J ?_|refine z_K (by omega) (by decide) ?_|refine z_L (by omega) (by decide) ?_|refine z_M (by omega) ?_|refine z_N (by omega) ?_|refine z_O (by omega) ?_|refine z_P ?_|refine z_Q ?_|refine z_R ?_|refine z_S ?_|refine z_T ?_|refine z_U (by decide) ?_|refine z_V (by decide) ?_)
  refine st sz37 rfl (by rw [hblk4.cell 2]; rfl) (hblk4.frozen 2) ?_
  rw [e]
  exact ⟨rfl, ⟨.inl hB, A4, c4, hblk4.set_ 2 _, ho4.far (p := ⟨g, 2, none⟩) hd4 _, hf4, hd4⟩, hT4'.setCell (p := ⟨g, 2, none⟩) (.inl hB) _⟩
end Go.Proofs.Ythicbfopjakiiaa.E
namespace Go.Proofs.Ythicbfopjakiiaa.E
open Go Go.RowKit
set_option linter.unusedSimpArgs false
set_option linter.unusedVariables false

end Go.Proofs.Ythicbfopjakiiaa.E
namespace Go.Proofs.Ythicbfopjakiiaa.E
open Go Go.RowKit
set_option linter.unusedSimpArgs false
set_option linter.unusedVariables false

theorem q1 : fofs Try.prog 42 1 = some (1, 1) := by kernel_rfl
theorem q2 : fofs Try.prog 42 2 = some (2, 1) := by kernel_rfl
theorem q0 : fofs Try.prog 42 0 = some (0, 1) := by kernel_rfl
end Go.Proofs.Ythicbfopjakiiaa.E
namespace Go.Proofs.Ythicbfopjakiiaa.E
open Go Go.RowKit
set_option linter.unusedSimpArgs false
set_option linter.unusedVariables false

theorem drop_then {α : Type} (bs : List α) (i : Nat) (a r : List α) (h : bs.drop i = a ++ r) : bs.drop (i + a.length) = r := by
  rw [← List.drop_drop, h, List.drop_left]
theorem getAt_num (bs : List UInt8) (i n : Nat) (r : List UInt8) (h : bs.drop i = Pack.num n ++ r) (hn : n ≤ 1099511627776) : getAt bs i = (n, i + (Pack.num n).length, 0) := by
  have := Pack.getFrom_of_num 0 n r (by simp; omega) (by omega) (by omega)
  unfold getAt
  rw [h, this]
  simp
theorem textAt_text (bs : List UInt8) (i most : Nat) (s : ByteArray) (r : List UInt8) (h : bs.drop i = Pack.text s ++ r) (hs : s.size ≤ most) (hm : most ≤ 1000000) : textAt bs i most = (s.data.toList, i + (Pack.text s).length, 0) := by
  have e : s.data.toList.length = s.size := by rw [Array.length_toList]; rfl
  have h' := h
  rw [Pack.text, List.append_assoc] at h'
  have h1 := getAt_num bs i _ _ h' (by omega)
  have h2 := drop_then _ _ _ _ h'
  have h3 : (bs.drop (i + (Pack.num s.data.toList.length).length)).length = (s.data.toList ++ r).length := by rw [h2]
  rw [List.length_drop, List.length_append] at h3
  unfold textAt
  rw [h1]
  simp only
  rw [if_neg (by omega), if_neg (by omega), if_neg (by omega), h2, List.take_left, Pack.text, List.length_append, Nat.add_assoc]
theorem textsFrom_texts (bs : List UInt8) (most : Nat) (hm : most ≤ 1000000) : ∀ (l : List ByteArray) (i : Nat) (r : List UInt8), bs.drop i = (l.map Pack.text).flatten ++ r → (∀ s ∈ l, s.size ≤ most) →
    textsFrom bs most l.length i = (l.map (·.data.toList), i + (l.map Pack.text).flatten.length, 0) := by
  intro l
  induction l with
  | nil => intro i r h hs; simp [textsFrom]
  | cons s l ih =>
    intro i r h hs
    have h' := h
    rw [List.map_cons, List.flatten_cons, List.append_assoc] at h'
    have h1 := textAt_text bs i most s _ h' (hs s (by simp)) hm
    have h2 := ih _ r (drop_then _ _ _ _ h') (fun t ht => hs t (by simp [ht]))
    rw [List.length_cons, textsFrom, h1]
    simp only
    rw [h2]
    simp only [ne_eq, not_true_eq_false, if_false, List.map_cons, List.flatten_cons, List.length_append, Nat.add_assoc]
theorem loadAns_save (m sn : Nat) (l : List ByteArray) (hm : m ≤ 1099511627776) (hsn : sn ≤ 1099511627776) (hl : l.length ≤ 256) (hls : l.length ≤ sn) (hs : ∀ s ∈ l, s.size ≤ 65536) :
    loadAns (Pack.num m ++ Pack.num sn ++ Pack.texts l) = (m, sn, l.map (·.data.toList), 0) := by
  generalize hbs : Pack.num m ++ Pack.num sn ++ Pack.texts l = bs
  have d0 : bs.drop 0 = Pack.num m ++ (Pack.num sn ++ Pack.texts l) := by rw [← hbs]; simp
  have e0 := getAt_num bs 0 m _ d0 hm
  have d1 := drop_then _ _ _ _ d0
  have e1 := getAt_num bs _ sn _ d1 hsn
  have d2 := drop_then _ _ _ _ d1
  have d2' := d2
  rw [Pack.texts] at d2'
  have e2 := getAt_num bs _ l.length _ d2' (by omega)
  have d3 := drop_then _ _ _ _ d2'
  have e3 := textsFrom_texts bs 65536 (by omega) l (0 + (Pack.num m).length + (Pack.num sn).length + (Pack.num l.length).length) [] (by rw [List.append_nil]; exact d3) hs
  have hlen : bs.length = (Pack.num m).length + (Pack.num sn).length + ((Pack.num l.length).length + ((l.map Pack.text).flatten).length) := by
    rw [← hbs, Pack.texts]; simp only [List.length_append]
  have e4 : textsAt bs (0 + (Pack.num m).length + (Pack.num sn).length) 256 65536 = (l.map (·.data.toList), bs.length, 0) := by
    unfold textsAt
    rw [e2]
    simp only
    rw [if_neg (by omega), if_neg (by omega), e3, hlen]
    simp only [Prod.mk.injEq, true_and, and_true]
    omega
  unfold loadAns
  rw [e0]
  simp only
  rw [e1]
  simp only
  rw [e4]
  simp only [List.length_map]
  rw [if_neg (by omega), if_neg (by omega), if_neg (by omega), if_neg (by omega), if_neg (by omega)]
end Go.Proofs.Ythicbfopjakiiaa.E
namespace Go.Proofs.Ythicbfopjakiiaa.E
open Go Go.RowKit
set_option linter.unusedSimpArgs false
set_option linter.unusedVariables false

theorem a0 : fofs Try.prog 49 0 = some (0, 1) := by kernel_rfl
theorem a1 : fofs Try.prog 49 1 = some (1, 1) := by kernel_rfl
theorem a2 : fofs Try.prog 49 2 = some (2, 1) := by kernel_rfl

theorem texts_short (ts : List ByteArray) (hss : ∀ s ∈ ts, s.size ≤ 200) : (Pack.texts ts).length ≤ ts.length + 1 + ts.length * 202 := by
  have hf : ((ts.map Pack.text).flatten).length ≤ ts.length * 202 := by
    induction ts with
    | nil => simp
    | cons s l ih =>
      have h1 := ih (fun t ht => hss t (by simp [ht]))
      have h2 := hss s (by simp)
      have e : s.data.toList.length = s.size := by rw [Array.length_toList]; rfl
      have h3 : (Pack.text s).length ≤ 202 := by
        have := Pack.num_log 1 s.data.toList.length (by omega)
        rw [Pack.text, List.length_append]; omega
      simp only [List.map_cons, List.flatten_cons, List.length_append, List.length_cons]
      omega
  have := Pack.num_length ts.length
  rw [Pack.texts, List.length_append]
  omega
theorem map_strB (ts : List ByteArray) : (ts.map (·.data.toList)).map strB = ts := by
  rw [List.map_map]; exact List.map_id' _ |>.symm ▸ rfl
end Go.Proofs.Ythicbfopjakiiaa.E
