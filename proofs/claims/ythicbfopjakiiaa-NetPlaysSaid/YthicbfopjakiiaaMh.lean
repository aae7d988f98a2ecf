import Derived.Test.YthicbfopjakiiaaMg
import Derived.Test.YthicbfopjakiiaaMb
namespace Go.Proofs.Ythicbfopjakiiaa.E
open Go Go.RowKit
set_option linter.unusedSimpArgs false
set_option linter.unusedVariables false

theorem packErr_small {L : Let} {ps : List PairT} {is : List IntentT} (h : packErr L ps is = 0) : ps.length ≤ 256 ∧ is.length ≤ 256 := by
  unfold packErr at h
  split at h
  · cases h
  split at h
  · cases h
  · rename_i h1; omega
/-- What an adding leaves. -/
def Added (c : Nat → Nat) (w : World) (g last : Nat) (l : List (Int × Msg)) (L : Let) (ps : List PairT) (is : List IntentT) (r : Value) (w' : World) : Prop :=
  if 4096 ≤ l.length then r = .tuple #[.int .i64 0, .int .i64 17] ∧ LeftN c w g last l w'
  else r = .tuple #[.int .i64 ((last + 1 : Nat) : Int), .int .i64 0] ∧ ∃ p' q', LeftN c w g (last + 1) (l ++ [(((last + 1 : Nat) : Int), ⟨L, p', q', ps, is⟩)]) w'
theorem LeftN.after {c c1 : Nat → Nat} {w w1 w2 : World} {g last : Nat} {l : List (Int × Msg)} (hT : Turns (D c) w w1) (hc : ∀ k, k < w.heap.size → c1 k = c k) (h : LeftN c1 w1 g last l w2) : LeftN c w g last l w2 := by
  obtain ⟨c2, h1, h2, h3⟩ := h
  exact ⟨c2, fun k hk => (h1 k (Nat.lt_of_lt_of_le hk hT.size)).trans (hc k hk), h2, hT.step hc h3⟩
theorem Added.after {c c1 : Nat → Nat} {w w1 w2 : World} {g last : Nat} {l : List (Int × Msg)} {L : Let} {ps : List PairT} {is : List IntentT} {r : Value} (hT : Turns (D c) w w1) (hc : ∀ k, k < w.heap.size → c1 k = c k) (h : Added c1 w1 g last l L ps is r w2) : Added c w g last l L ps is r w2 := by
  unfold Added at *
  split
  · rename_i hf
    rw [if_pos hf] at h
    exact ⟨h.1, h.2.after hT hc⟩
  · rename_i hf
    rw [if_neg hf] at h
    obtain ⟨h1, p', q', h2⟩ := h
    exact ⟨h1, p', q', h2.after hT hc⟩
theorem Added.pair {c : Nat → Nat} {w w2 : World} {g last : Nat} {l : List (Int × Msg)} {L : Let} {ps : List PairT} {is : List IntentT} {r : Value} (h : Added c w g last l L ps is r w2) : ∃ x y : Int, r = .tuple #[.int .i64 x, .int .i64 y] := by
  unfold Added at h
  split at h
  · exact ⟨_, _, h.1⟩
  · exact ⟨_, _, h.1⟩
theorem Send_net (c : Nat → Nat) (w : World) (g last : Nat) (l : List (Int × Msg)) (L : Let) (p q : Value) (ps : List PairT) (is : List IntentT) (h : NetC c w g last l) (hlast : last ≤ 1000000000)
    (hp : Pairs w [p] ps) (hq : Intents w [q] is) (hpc : ps = [] ∨ ∀ k, p.ownBlock = some k → c k ≠ 1) (hqc : is = [] ∨ ∀ k, q.ownBlock = some k → c k ≠ 1) :
    CallP Try.prog 30 #[.pointer (some ⟨g, 0, none⟩), .agg (L.cells p q)] (fun r w' => if packErr L ps is ≠ 0 then r = .tuple #[.int .i64 0, .int .i64 (packErr L ps is)] ∧ LeftN c w g last l w' else Added c w g last l L ps is r w') w := by
  refine ⟨S30.calls _ _ _ _ ?_⟩
  unfold S30
  refine bx ?_
  have hL : Blk (w.alloc (.cells (Value.agg (L.cells p q)).cells 58)) w.heap.size 58 (L.cells p q) := Blk.new w 58 _
  have ha := (Below.refl w.heap.size w).alloc (Nat.le_refl _) (.cells (Value.agg (L.cells p q)).cells 58)
  generalize w.alloc (.cells (Value.agg (L.cells p q)).cells 58) = w1 at *
  refine ldA agg58 hL (by exact sz58) ?_
  refine (Check_spec L p q ps is w1 (keeps_Pairs _ _ _ _ ha hp) (keeps_Intents _ _ _ _ ha hq)).mono ?_
  rintro _ w2 ⟨rfl, hb2⟩
  have hb2' := below_then ha hb2
  have hL2 := hL.below' hb2
  by_cases he : packErr L ps is = 0
  · rw [he]
    obtain ⟨e1, e2⟩ := packErr_small he
    (repeat with_reducible first|refine z_a ?_|refine z_b ?_|refine z_c ?_|refine z_d ?_|refine z_e ?_|refine z_f ?_|refine z_g ?_|refine z_h ?_|refine z_i ?_|refine z_j ?_|refine z_k ?_|refine z_l ?_|refine z_m (by omega) ?_|refine z_n (by omega) ?_|refine z_o (by omega) ?_|refine z_p (by omega) ?_|refine z_q (by omega) ?_|refine z_r (by omega) ?_|refine z_s (by omega) ?_|refine z_t (by omega) ?_|refine z_u (by omega) ?_|refine z_v (by omega) ?_|refine z_w (by omega) ?_|refine z_x (by omega) ?_|refine z_y (by omega) ?_|refine z_z (by omega) ?_|refine z_A ?_|refine z_B ?_|refine z_C ?_|refine z_D ?_|refine z_E ?_|refine z_F ?_|refine z_G ?_|refine z_H ?_|refine z_I ?_|refine z_J ?_|refine z_K (by omega) (by decide) ?_|refine z_L (by omega) (by decide) ?_|refine z_M (by omega) ?_|refine z_N (by omega) ?_|refine z_O (by omega) ?_|refine z_P ?_|refine z_Q ?_|refine z_R ?_|refine z_S ?_|refine z_T ?_|refine z_U (by decide) ?_|refine z_V (by decide) ?_)
    refine ldA agg58 hL2 (by exact sz58) ?_
    refine (add_net c w2 g last l L p q ps is (h.below hb2') hlast (keeps_Pairs _ _ _ _ hb2' hp) (keeps_Intents _ _ _ _ hb2' hq) e1 e2 hpc hqc).mono ?_
    intro r w3 hr
    have hr' : Added c w2 g last l L ps is r w3 := hr
    obtain ⟨x, y, rfl⟩ := hr'.pair
    (repeat with_reducible first|refine z_a ?_|refine z_b ?_|refine z_c ?_|refine z_d ?_|refine z_e ?_|refine z_f ?_|refine z_g ?_|refine z_h ?_|refine z_i ?_|refine z_j ?_|refine z_k ?_|refine z_l ?_|refine z_m (by omega) ?_|refine z_n (by omega) ?_|refine z_o (by omega) ?_|refine z_p (by omega) ?_|refine z_q (by omega) ?_|refine z_r (by omega) ?_|refine z_s (by omega) ?_|refine z_t (by omega) ?_|refine z_u (by omega) ?_|refine z_v (by omega) ?_|refine z_w (by omega) ?_|refine z_x (by omega) ?_|refine z_y (by omega) ?_|refine z_z (by omega) ?_|refine z_A ?_|refine z_B ?_|refine z_C ?_|refine z_D ?_|refine z_E ?_|refine z_F ?_|refine z_G ?_|refine z_H ?_|refine z_I ?_|refine z_J ?_|refine z_K (by omega) (by decide) ?_|refine z_L (by omega) (by decide) ?_|refine z_M (by omega) ?_|refine z_N (by omega) ?_|refine z_O (by omega) ?_|refine z_P ?_|refine z_Q ?_|refine z_R ?_|refine z_S ?_|refine z_T ?_|refine z_U (by decide) ?_|refine z_V (by decide) ?_)
    show ite _ _ _
    rw [if_neg (by omega)]
    exact hr'.after (Turns.of_below hb2') (fun _ _ => rfl)
  · refine bi_neq_t (by omega) ?_
    (repeat with_reducible first|refine z_a ?_|refine z_b ?_|refine z_c ?_|refine z_d ?_|refine z_e ?_|refine z_f ?_|refine z_g ?_|refine z_h ?_|refine z_i ?_|refine z_j ?_|refine z_k ?_|refine z_l ?_|refine z_m (by omega) ?_|refine z_n (by omega) ?_|refine z_o (by omega) ?_|refine z_p (by omega) ?_|refine z_q (by omega) ?_|refine z_r (by omega) ?_|refine z_s (by omega) ?_|refine z_t (by omega) ?_|refine z_u (by omega) ?_|refine z_v (by omega) ?_|refine z_w (by omega) ?_|refine z_x (by omega) ?_|refine z_y (by omega) ?_|refine z_z (by omega) ?_|refine z_A ?_|refine z_B ?_|refine z_C ?_|refine z_D ?_|refine z_E ?_|refine z_F ?_|refine z_G ?_|refine z_H ?_|refine z_I ?_|refine z_J ?_|refine z_K (by omega) (by decide) ?_|refine z_L (by omega) (by decide) ?_|refine z_M (by omega) ?_|refine z_N (by omega) ?_|refine z_O (by omega) ?_|refine z_P ?_|refine z_Q ?_|refine z_R ?_|refine z_S ?_|refine z_T ?_|refine z_U (by decide) ?_|refine z_V (by decide) ?_)
    show ite _ _ _
    rw [if_pos he]
    exact ⟨rfl, c, fun _ _ => rfl, h.below hb2', Turns.of_below hb2'⟩
theorem looked {l : List (Int × Msg)} (n : Int) : (getK n (l.map fun x => (x.1, x.2.val))).getD (.agg (zeroLet.cells (.slice none 0 0) (.slice none 0 0))) = (match getK n l with | some m => m.val | none => .agg (zeroLet.cells (.slice none 0 0) (.slice none 0 0))) ∧ (getK n (l.map fun x => (x.1, x.2.val))).isSome = (getK n l).isSome := by
  rw [getK_map (fun m : Msg => m.val)]
  cases getK n l <;> exact ⟨rfl, rfl⟩
theorem Twice_net (c : Nat → Nat) (w : World) (g last : Nat) (l : List (Int × Msg)) (n : Int) (h : NetC c w g last l) (hlast : last ≤ 1000000000) :
    CallP Try.prog 31 #[.pointer (some ⟨g, 0, none⟩), .int .i64 n] (fun r w' => match getK n l with
      | none => r = .tuple #[.int .i64 0, .int .i64 7] ∧ LeftN c w g last l w'
      | some m => Added c w g last l m.L m.ps m.is r w') w := by
  have hC := h
  obtain ⟨b, h⟩ := h
  have c0 : w.cell? ⟨g, 0, none⟩ = some (.map (some b)) := h.blk.cell 0
  refine ⟨S31.calls _ _ _ _ ?_⟩
  unfold S31
  (repeat with_reducible first | refine fd n0 (by decide) ?_| refine ld one116 c0 ?_|refine z_a ?_|refine z_b ?_|refine z_c ?_|refine z_d ?_|refine z_e ?_|refine z_f ?_|refine z_g ?_|refine z_h ?_|refine z_i ?_|refine z_j ?_|refine z_k ?_|refine z_l ?_|refine z_m (by omega) ?_|refine z_n (by omega) ?_|refine z_o (by omega) ?_|refine z_p (by omega) ?_|refine z_q (by omega) ?_|refine z_r (by omega) ?_|refine z_s (by omega) ?_|refine z_t (by omega) ?_|refine z_u (by omega) ?_|refine z_v (by omega) ?_|refine z_w (by omega) ?_|refine z_x (by omega) ?_|refine z_y (by omega) ?_|refine z_z (by omega) ?_|refine z_A ?_|refine z_B ?_|refine z_C ?_|refine z_D ?_|refine z_E ?_|refine z_F ?_|refine z_G ?_|refine z_H ?_|refine z_I ?_|refine z_J ?_|refine z_K (by omega) (by decide) ?_|refine z_L (by omega) (by decide) ?_|refine z_M (by omega) ?_|refine z_N (by omega) ?_|refine z_O (by omega) ?_|refine z_P ?_|refine z_Q ?_|refine z_R ?_|refine z_S ?_|refine z_T ?_|refine z_U (by decide) ?_|refine z_V (by decide) ?_)
  refine lkp und116 und3 z58 h.map ?_
  obtain ⟨e1, e2⟩ := looked (l := l) n
  rw [e1, e2]
  cases hx : getK n l with
  | none =>
    simp only [Option.isSome_none]
    (repeat with_reducible first|refine z_a ?_|refine z_b ?_|refine z_c ?_|refine z_d ?_|refine z_e ?_|refine z_f ?_|refine z_g ?_|refine z_h ?_|refine z_i ?_|refine z_j ?_|refine z_k ?_|refine z_l ?_|refine z_m (by omega) ?_|refine z_n (by omega) ?_|refine z_o (by omega) ?_|refine z_p (by omega) ?_|refine z_q (by omega) ?_|refine z_r (by omega) ?_|refine z_s (by omega) ?_|refine z_t (by omega) ?_|refine z_u (by omega) ?_|refine z_v (by omega) ?_|refine z_w (by omega) ?_|refine z_x (by omega) ?_|refine z_y (by omega) ?_|refine z_z (by omega) ?_|refine z_A ?_|refine z_B ?_|refine z_C ?_|refine z_D ?_|refine z_E ?_|refine z_F ?_|refine z_G ?_|refine z_H ?_|refine z_I ?_|refine z_J ?_|refine z_K (by omega) (by decide) ?_|refine z_L (by omega) (by decide) ?_|refine z_M (by omega) ?_|refine z_N (by omega) ?_|refine z_O (by omega) ?_|refine z_P ?_|refine z_Q ?_|refine z_R ?_|refine z_S ?_|refine z_T ?_|refine z_U (by decide) ?_|refine z_V (by decide) ?_)
    refine al z58 ?_
    have hR : Blk (w.alloc (.cells (Value.agg (zeroLet.cells (.slice none 0 0) (.slice none 0 0))).cells 58)) w.heap.size 58 (zeroLet.cells (.slice none 0 0) (.slice none 0 0)) := Blk.new w 58 _
    have ha := (Below.refl w.heap.size w).alloc (Nat.le_refl _) (.cells (Value.agg (zeroLet.cells (.slice none 0 0) (.slice none 0 0))).cells 58)
    refine stA hR (by exact sz58) (by rfl) (cells_one _ _ _ rfl rfl) ?_
    have hb1 := below_setRow ha (Nat.le_refl _) (zeroLet.cells (.slice none 0 0) (.slice none 0 0))
    (repeat with_reducible first|refine z_a ?_|refine z_b ?_|refine z_c ?_|refine z_d ?_|refine z_e ?_|refine z_f ?_|refine z_g ?_|refine z_h ?_|refine z_i ?_|refine z_j ?_|refine z_k ?_|refine z_l ?_|refine z_m (by omega) ?_|refine z_n (by omega) ?_|refine z_o (by omega) ?_|refine z_p (by omega) ?_|refine z_q (by omega) ?_|refine z_r (by omega) ?_|refine z_s (by omega) ?_|refine z_t (by omega) ?_|refine z_u (by omega) ?_|refine z_v (by omega) ?_|refine z_w (by omega) ?_|refine z_x (by omega) ?_|refine z_y (by omega) ?_|refine z_z (by omega) ?_|refine z_A ?_|refine z_B ?_|refine z_C ?_|refine z_D ?_|refine z_E ?_|refine z_F ?_|refine z_G ?_|refine z_H ?_|refine z_I ?_|refine z_J ?_|refine z_K (by omega) (by decide) ?_|refine z_L (by omega) (by decide) ?_|refine z_M (by omega) ?_|refine z_N (by omega) ?_|refine z_O (by omega) ?_|refine z_P ?_|refine z_Q ?_|refine z_R ?_|refine z_S ?_|refine z_T ?_|refine z_U (by decide) ?_|refine z_V (by decide) ?_)
    exact ⟨by first | rfl | trivial, c, fun _ _ => rfl, hC.below hb1, Turns.of_below hb1⟩
  | some m =>
    simp only [Option.isSome_some]
    have hm := (h.el _ (getK_mem _ _ _ hx)).2
    have h1p : m.p.oneCell' = true := by obtain ⟨A, e⟩ := hm.op.slice; rw [e]; rfl
    have h1q : m.q.oneCell' = true := by obtain ⟨A, e⟩ := hm.oq.slice; rw [e]; rfl
    (repeat with_reducible first|refine z_a ?_|refine z_b ?_|refine z_c ?_|refine z_d ?_|refine z_e ?_|refine z_f ?_|refine z_g ?_|refine z_h ?_|refine z_i ?_|refine z_j ?_|refine z_k ?_|refine z_l ?_|refine z_m (by omega) ?_|refine z_n (by omega) ?_|refine z_o (by omega) ?_|refine z_p (by omega) ?_|refine z_q (by omega) ?_|refine z_r (by omega) ?_|refine z_s (by omega) ?_|refine z_t (by omega) ?_|refine z_u (by omega) ?_|refine z_v (by omega) ?_|refine z_w (by omega) ?_|refine z_x (by omega) ?_|refine z_y (by omega) ?_|refine z_z (by omega) ?_|refine z_A ?_|refine z_B ?_|refine z_C ?_|refine z_D ?_|refine z_E ?_|refine z_F ?_|refine z_G ?_|refine z_H ?_|refine z_I ?_|refine z_J ?_|refine z_K (by omega) (by decide) ?_|refine z_L (by omega) (by decide) ?_|refine z_M (by omega) ?_|refine z_N (by omega) ?_|refine z_O (by omega) ?_|refine z_P ?_|refine z_Q ?_|refine z_R ?_|refine z_S ?_|refine z_T ?_|refine z_U (by decide) ?_|refine z_V (by decide) ?_)
    refine al z58 ?_
    have hR : Blk (w.alloc (.cells (Value.agg (zeroLet.cells (.slice none 0 0) (.slice none 0 0))).cells 58)) w.heap.size 58 (zeroLet.cells (.slice none 0 0) (.slice none 0 0)) := Blk.new w 58 _
    have ha := (Below.refl w.heap.size w).alloc (Nat.le_refl _) (.cells (Value.agg (zeroLet.cells (.slice none 0 0) (.slice none 0 0))).cells 58)
    refine stA hR (by exact sz58) (by rfl) (cells_one _ _ _ h1p h1q) ?_
    have hL1 := hR.row (m.L.cells m.p m.q)
    have hb1 := below_setRow ha (Nat.le_refl _) (m.L.cells m.p m.q)
    generalize (w.alloc (.cells (Value.agg (zeroLet.cells (.slice none 0 0) (.slice none 0 0))).cells 58)).setRow w.heap.size (m.L.cells m.p m.q) = w1 at *
    (repeat with_reducible first|refine z_a ?_|refine z_b ?_|refine z_c ?_|refine z_d ?_|refine z_e ?_|refine z_f ?_|refine z_g ?_|refine z_h ?_|refine z_i ?_|refine z_j ?_|refine z_k ?_|refine z_l ?_|refine z_m (by omega) ?_|refine z_n (by omega) ?_|refine z_o (by omega) ?_|refine z_p (by omega) ?_|refine z_q (by omega) ?_|refine z_r (by omega) ?_|refine z_s (by omega) ?_|refine z_t (by omega) ?_|refine z_u (by omega) ?_|refine z_v (by omega) ?_|refine z_w (by omega) ?_|refine z_x (by omega) ?_|refine z_y (by omega) ?_|refine z_z (by omega) ?_|refine z_A ?_|refine z_B ?_|refine z_C ?_|refine z_D ?_|refine z_E ?_|refine z_F ?_|refine z_G ?_|refine z_H ?_|refine z_I ?_|refine z_J ?_|refine z_K (by omega) (by decide) ?_|refine z_L (by omega) (by decide) ?_|refine z_M (by omega) ?_|refine z_N (by omega) ?_|refine z_O (by omega) ?_|refine z_P ?_|refine z_Q ?_|refine z_R ?_|refine z_S ?_|refine z_T ?_|refine z_U (by decide) ?_|refine z_V (by decide) ?_)
    refine ldA agg58 hL1 (by exact sz58) ?_
    refine (add_net c w1 g last l m.L m.p m.q m.ps m.is (hC.below hb1) hlast (keeps_Pairs _ _ _ _ hb1 hm.pairs) (keeps_Intents _ _ _ _ hb1 hm.intents) hm.lp hm.lq (.inr fun k hk => by rw [hm.cp k hk]; omega) (.inr fun k hk => by rw [hm.cq k hk]; omega)).mono ?_
    intro r w3 hr
    have hr' : Added c w1 g last l m.L m.ps m.is r w3 := hr
    obtain ⟨x, y, rfl⟩ := hr'.pair
    (repeat with_reducible first|refine z_a ?_|refine z_b ?_|refine z_c ?_|refine z_d ?_|refine z_e ?_|refine z_f ?_|refine z_g ?_|refine z_h ?_|refine z_i ?_|refine z_j ?_|refine z_k ?_|refine z_l ?_|refine z_m (by omega) ?_|refine z_n (by omega) ?_|refine z_o (by omega) ?_|refine z_p (by omega) ?_|refine z_q (by omega) ?_|refine z_r (by omega) ?_|refine z_s (by omega) ?_|refine z_t (by omega) ?_|refine z_u (by omega) ?_|refine z_v (by omega) ?_|refine z_w (by omega) ?_|refine z_x (by omega) ?_|refine z_y (by omega) ?_|refine z_z (by omega) ?_|refine z_A ?_|refine z_B ?_|refine z_C ?_|refine z_D ?_|refine z_E ?_|refine z_F ?_|refine z_G ?_|refine z_H ?_|refine z_I ?_|refine z_J ?_|refine z_K (by omega) (by decide) ?_|refine z_L (by omega) (by decide) ?_|refine z_M (by omega) ?_|refine z_N (by omega) ?_|refine z_O (by omega) ?_|refine z_P ?_|refine z_Q ?_|refine z_R ?_|refine z_S ?_|refine z_T ?_|refine z_U (by decide) ?_|refine z_V (by decide) ?_)
    exact hr'.after (Turns.of_below hb1) (fun _ _ => rfl)
theorem Deliver_net (c : Nat → Nat) (w : World) (g last : Nat) (l : List (Int × Msg)) (n : Int) (h : NetC c w g last l) :
    CallP Try.prog 33 #[.pointer (some ⟨g, 0, none⟩), .int .i64 n] (fun r w' => match getK n l with
      | none => r = .tuple #[.agg (zeroLet.cells (.slice none 0 0) (.slice none 0 0)), .int .i64 7] ∧ LeftN c w g last l w'
      | some m => r = .tuple #[m.val, .int .i64 0] ∧ NetC c w' g last (delK n l) ∧ MsgAt c (n.toNat + 10) w' m ∧ Turns (D c) w w') w := by
  have hC := h
  obtain ⟨b, h⟩ := h
  refine ⟨S33.calls _ _ _ _ ?_⟩
  unfold S33
  refine al z58 ?_
  have hR : Blk (w.alloc (.cells (Value.agg (zeroLet.cells (.slice none 0 0) (.slice none 0 0))).cells 58)) w.heap.size 58 (zeroLet.cells (.slice none 0 0) (.slice none 0 0)) := Blk.new w 58 _
  have ha := (Below.refl w.heap.size w).alloc (Nat.le_refl _) (.cells (Value.agg (zeroLet.cells (.slice none 0 0) (.slice none 0 0))).cells 58)
  generalize w.alloc (.cells (Value.agg (zeroLet.cells (.slice none 0 0) (.slice none 0 0))).cells 58) = w1 at *
  have h1 := h.below ha
  have hs1 := hR.lt
  have c0 : w1.cell? ⟨g, 0, none⟩ = some (.map (some b)) := h1.blk.cell 0
  (repeat with_reducible first | refine fd n0 (by decide) ?_| refine ld one116 c0 ?_|refine z_a ?_|refine z_b ?_|refine z_c ?_|refine z_d ?_|refine z_e ?_|refine z_f ?_|refine z_g ?_|refine z_h ?_|refine z_i ?_|refine z_j ?_|refine z_k ?_|refine z_l ?_|refine z_m (by omega) ?_|refine z_n (by omega) ?_|refine z_o (by omega) ?_|refine z_p (by omega) ?_|refine z_q (by omega) ?_|refine z_r (by omega) ?_|refine z_s (by omega) ?_|refine z_t (by omega) ?_|refine z_u (by omega) ?_|refine z_v (by omega) ?_|refine z_w (by omega) ?_|refine z_x (by omega) ?_|refine z_y (by omega) ?_|refine z_z (by omega) ?_|refine z_A ?_|refine z_B ?_|refine z_C ?_|refine z_D ?_|refine z_E ?_|refine z_F ?_|refine z_G ?_|refine z_H ?_|refine z_I ?_|refine z_J ?_|refine z_K (by omega) (by decide) ?_|refine z_L (by omega) (by decide) ?_|refine z_M (by omega) ?_|refine z_N (by omega) ?_|refine z_O (by omega) ?_|refine z_P ?_|refine z_Q ?_|refine z_R ?_|refine z_S ?_|refine z_T ?_|refine z_U (by decide) ?_|refine z_V (by decide) ?_)
  refine lkp und116 und3 z58 h1.map ?_
  obtain ⟨e1, e2⟩ := looked (l := l) n
  rw [e1, e2]
  cases hx : getK n l with
  | none =>
    simp only [Option.isSome_none]
    (repeat with_reducible first|refine z_a ?_|refine z_b ?_|refine z_c ?_|refine z_d ?_|refine z_e ?_|refine z_f ?_|refine z_g ?_|refine z_h ?_|refine z_i ?_|refine z_j ?_|refine z_k ?_|refine z_l ?_|refine z_m (by omega) ?_|refine z_n (by omega) ?_|refine z_o (by omega) ?_|refine z_p (by omega) ?_|refine z_q (by omega) ?_|refine z_r (by omega) ?_|refine z_s (by omega) ?_|refine z_t (by omega) ?_|refine z_u (by omega) ?_|refine z_v (by omega) ?_|refine z_w (by omega) ?_|refine z_x (by omega) ?_|refine z_y (by omega) ?_|refine z_z (by omega) ?_|refine z_A ?_|refine z_B ?_|refine z_C ?_|refine z_D ?_|refine z_E ?_|refine z_F ?_|refine z_G ?_|refine z_H ?_|refine z_I ?_|refine z_J ?_|refine z_K (by omega) (by decide) ?_|refine z_L (by omega) (by decide) ?_|refine z_M (by omega) ?_|refine z_N (by omega) ?_|refine z_O (by omega) ?_|refine z_P ?_|refine z_Q ?_|refine z_R ?_|refine z_S ?_|refine z_T ?_|refine z_U (by decide) ?_|refine z_V (by decide) ?_)
    refine al z58 ?_
    have hR2 : Blk (w1.alloc (.cells (Value.agg (zeroLet.cells (.slice none 0 0) (.slice none 0 0))).cells 58)) w1.heap.size 58 (zeroLet.cells (.slice none 0 0) (.slice none 0 0)) := Blk.new w1 58 _
    have ha2 := (Below.refl w1.heap.size w1).alloc (Nat.le_refl _) (.cells (Value.agg (zeroLet.cells (.slice none 0 0) (.slice none 0 0))).cells 58)
    refine stA hR2 (by exact sz58) (by rfl) (cells_one _ _ _ rfl rfl) ?_
    have hb2 := below_setRow ha2 (Nat.le_refl _) (zeroLet.cells (.slice none 0 0) (.slice none 0 0))
    have hR3 := hR.below' hb2
    have hb2' := below_then ha hb2
    generalize (w1.alloc (.cells (Value.agg (zeroLet.cells (.slice none 0 0) (.slice none 0 0))).cells 58)).setRow w1.heap.size (zeroLet.cells (.slice none 0 0) (.slice none 0 0)) = w2 at *
    (repeat with_reducible first|refine z_a ?_|refine z_b ?_|refine z_c ?_|refine z_d ?_|refine z_e ?_|refine z_f ?_|refine z_g ?_|refine z_h ?_|refine z_i ?_|refine z_j ?_|refine z_k ?_|refine z_l ?_|refine z_m (by omega) ?_|refine z_n (by omega) ?_|refine z_o (by omega) ?_|refine z_p (by omega) ?_|refine z_q (by omega) ?_|refine z_r (by omega) ?_|refine z_s (by omega) ?_|refine z_t (by omega) ?_|refine z_u (by omega) ?_|refine z_v (by omega) ?_|refine z_w (by omega) ?_|refine z_x (by omega) ?_|refine z_y (by omega) ?_|refine z_z (by omega) ?_|refine z_A ?_|refine z_B ?_|refine z_C ?_|refine z_D ?_|refine z_E ?_|refine z_F ?_|refine z_G ?_|refine z_H ?_|refine z_I ?_|refine z_J ?_|refine z_K (by omega) (by decide) ?_|refine z_L (by omega) (by decide) ?_|refine z_M (by omega) ?_|refine z_N (by omega) ?_|refine z_O (by omega) ?_|refine z_P ?_|refine z_Q ?_|refine z_R ?_|refine z_S ?_|refine z_T ?_|refine z_U (by decide) ?_|refine z_V (by decide) ?_)
    refine bd (cells := zeroLet.cells (.slice none 0 0) (.slice none 0 0)) (by kernel_rfl) ?_
    refine stA hR3 (by exact sz58) (by rfl) (cells_one _ _ _ rfl rfl) ?_
    have hR4 := hR3.row (zeroLet.cells (.slice none 0 0) (.slice none 0 0))
    have hb3 := below_setRow hb2' (Nat.le_refl _) (zeroLet.cells (.slice none 0 0) (.slice none 0 0))
    refine retA agg58 hR4 (by exact sz58) ?_
    exact ⟨rfl, c, fun _ _ => rfl, hC.below hb3, Turns.of_below hb3⟩
  | some m =>
    simp only [Option.isSome_some]
    have hmem := getK_mem _ _ _ hx
    have hm := (h1.el _ hmem).2
    have h1p : m.p.oneCell' = true := by obtain ⟨A, e⟩ := hm.op.slice; rw [e]; rfl
    have h1q : m.q.oneCell' = true := by obtain ⟨A, e⟩ := hm.oq.slice; rw [e]; rfl
    (repeat with_reducible first|refine z_a ?_|refine z_b ?_|refine z_c ?_|refine z_d ?_|refine z_e ?_|refine z_f ?_|refine z_g ?_|refine z_h ?_|refine z_i ?_|refine z_j ?_|refine z_k ?_|refine z_l ?_|refine z_m (by omega) ?_|refine z_n (by omega) ?_|refine z_o (by omega) ?_|refine z_p (by omega) ?_|refine z_q (by omega) ?_|refine z_r (by omega) ?_|refine z_s (by omega) ?_|refine z_t (by omega) ?_|refine z_u (by omega) ?_|refine z_v (by omega) ?_|refine z_w (by omega) ?_|refine z_x (by omega) ?_|refine z_y (by omega) ?_|refine z_z (by omega) ?_|refine z_A ?_|refine z_B ?_|refine z_C ?_|refine z_D ?_|refine z_E ?_|refine z_F ?_|refine z_G ?_|refine z_H ?_|refine z_I ?_|refine z_J ?_|refine z_K (by omega) (by decide) ?_|refine z_L (by omega) (by decide) ?_|refine z_M (by omega) ?_|refine z_N (by omega) ?_|refine z_O (by omega) ?_|refine z_P ?_|refine z_Q ?_|refine z_R ?_|refine z_S ?_|refine z_T ?_|refine z_U (by decide) ?_|refine z_V (by decide) ?_)
    refine al z58 ?_
    have hR2 : Blk (w1.alloc (.cells (Value.agg (zeroLet.cells (.slice none 0 0) (.slice none 0 0))).cells 58)) w1.heap.size 58 (zeroLet.cells (.slice none 0 0) (.slice none 0 0)) := Blk.new w1 58 _
    have ha2 := (Below.refl w1.heap.size w1).alloc (Nat.le_refl _) (.cells (Value.agg (zeroLet.cells (.slice none 0 0) (.slice none 0 0))).cells 58)
    refine stA hR2 (by exact sz58) (by rfl) (cells_one _ _ _ h1p h1q) ?_
    have hL2 := hR2.row (m.L.cells m.p m.q)
    have hb2 := below_setRow ha2 (Nat.le_refl _) (m.L.cells m.p m.q)
    have hR3 := hR.below' hb2
    have hb2' := below_then ha hb2
    generalize hg6 : w1.heap.size = g6 at *
    generalize (w1.alloc (.cells (Value.agg (zeroLet.cells (.slice none 0 0) (.slice none 0 0))).cells 58)).setRow g6 (m.L.cells m.p m.q) = w2 at *
    have h2 := h.below hb2'
    have c0' : w2.cell? ⟨g, 0, none⟩ = some (.map (some b)) := h2.blk.cell 0
    (repeat with_reducible first | refine fd n0 (by decide) ?_| refine ld one116 c0' ?_|refine z_a ?_|refine z_b ?_|refine z_c ?_|refine z_d ?_|refine z_e ?_|refine z_f ?_|refine z_g ?_|refine z_h ?_|refine z_i ?_|refine z_j ?_|refine z_k ?_|refine z_l ?_|refine z_m (by omega) ?_|refine z_n (by omega) ?_|refine z_o (by omega) ?_|refine z_p (by omega) ?_|refine z_q (by omega) ?_|refine z_r (by omega) ?_|refine z_s (by omega) ?_|refine z_t (by omega) ?_|refine z_u (by omega) ?_|refine z_v (by omega) ?_|refine z_w (by omega) ?_|refine z_x (by omega) ?_|refine z_y (by omega) ?_|refine z_z (by omega) ?_|refine z_A ?_|refine z_B ?_|refine z_C ?_|refine z_D ?_|refine z_E ?_|refine z_F ?_|refine z_G ?_|refine z_H ?_|refine z_I ?_|refine z_J ?_|refine z_K (by omega) (by decide) ?_|refine z_L (by omega) (by decide) ?_|refine z_M (by omega) ?_|refine z_N (by omega) ?_|refine z_O (by omega) ?_|refine z_P ?_|refine z_Q ?_|refine z_R ?_|refine z_S ?_|refine z_T ?_|refine z_U (by decide) ?_|refine z_V (by decide) ?_)
    refine dlt und116 und3 h2.map ?_
    intro w3 hm3 hT3
    rw [delK_map (fun m : Msg => m.val)] at hm3
    have hbg : g < w.heap.size := h.blk.lt
    have hbb : b < w.heap.size := h.map.lt
    have hL3 := hL2.turns hT3 (by omega)
    have hR4 := hR3.turns hT3 (by omega)
    refine ldA agg58 hL3 (by exact sz58) ?_
    refine stA hR4 (by exact sz58) (by rfl) (cells_one _ _ _ h1p h1q) ?_
    have hR5 := hR4.row (m.L.cells m.p m.q)
    have hT4 : Turns (fun k => k = w.heap.size) w3 (w3.setRow w.heap.size (m.L.cells m.p m.q)) := Turns.setRow (F := fun k => k = w.heap.size) (Turns.refl _ w3) (.inl rfl) _
    refine retA agg58 hR5 (by exact sz58) ?_
    have msg : ∀ x ∈ l, MsgAt c (x.1.toNat + 10) (w3.setRow w.heap.size (m.L.cells m.p m.q)) x.2 := by
      intro x hx
      have hx2 := (h2.el x hx).2
      have hxw := (h.el x hx).2
      have h3 := hx2.turns hT3 (fun k hk => by rw [hk, h.huem]; omega)
      exact ⟨h3.op.turns hT4 (fun k hk he => by have := hxw.op.lt hk; omega), h3.oq.turns hT4 (fun k hk he => by have := hxw.oq.lt hk; omega), h3.cp, h3.cq, h3.kp, h3.kq, h3.lp, h3.lq, h3.ap⟩
    refine ⟨rfl, ⟨b, h.hue, h.huem, h.ne, (h2.blk.turns hT3 h.ne).turns hT4 (by omega), hm3.turns hT4 (by omega), fun x hx => ⟨(h.el x (delK_sub _ _ _ hx)).1, msg x (delK_sub _ _ _ hx)⟩⟩, msg _ hmem, ?_⟩
    refine ((Turns.of_below hb2').trans (hT3.mono fun k hk he => .inl (by rw [he]; show c b ≠ 0; rw [h.huem]; omega))).setRow (.inr (Nat.le_refl _)) _
end Go.Proofs.Ythicbfopjakiiaa.E
namespace Go.Proofs.Ythicbfopjakiiaa.E
open Go Go.RowKit
set_option linter.unusedSimpArgs false
set_option linter.unusedVariables false

theorem pnil (w : World) : Pairs w [.slice none 0 0] [] := ⟨none, 0, rfl, Nat.le_refl _, Nat.zero_le _, fun i x hx => by simp at hx⟩
theorem inil (w : World) : Intents w [.slice none 0 0] [] := ⟨none, 0, rfl, Nat.le_refl _, Nat.zero_le _, fun i x hx => by simp at hx⟩
theorem NetC.keys {c : Nat → Nat} {w : World} {g last : Nat} {l : List (Int × Msg)} (h : NetC c w g last l) : ∀ x ∈ l, 1 ≤ x.1 ∧ x.1 ≤ last := by
  obtain ⟨b, h⟩ := h
  exact fun x hx => (h.el x hx).1
theorem NetC.one {c : Nat → Nat} {w : World} {g last : Nat} {l : List (Int × Msg)} (h : NetC c w g last l) {x : Int × Msg} (hx : x ∈ l) : x.2.p.oneCell' = true ∧ x.2.q.oneCell' = true := by
  obtain ⟨b, h⟩ := h
  have hm := (h.el _ hx).2
  exact ⟨by obtain ⟨A, e⟩ := hm.op.slice; rw [e]; rfl, by obtain ⟨A, e⟩ := hm.oq.slice; rw [e]; rfl⟩
/-- A net behind B. -/
def NetB (B : Nat) (w : World) (g last : Nat) (l : List (Int × Msg)) : Prop := B ≤ w.heap.size ∧ ∃ c, (∀ k, k < B → c k = 0) ∧ NetC c w g last l
theorem LeftN.toB {B : Nat} {c : Nat → Nat} {w w' : World} {g last : Nat} {l : List (Int × Msg)} (hB : B ≤ w.heap.size) (hc : ∀ k, k < B → c k = 0) (h : LeftN c w g last l w') : NetB B w' g last l ∧ Below B w w' := by
  obtain ⟨c', h1, h2, h3⟩ := h
  exact ⟨⟨Nat.le_trans hB h3.size, c', fun k hk => (h1 k (Nat.lt_of_lt_of_le hk hB)).trans (hc k hk), h2⟩, h3.below hB fun k hk hF => hF (hc k hk)⟩
theorem NetB.below {B : Nat} {w w' : World} {g last : Nat} {l : List (Int × Msg)} (h : NetB B w g last l) (hb : Below w.heap.size w w') : NetB B w' g last l := by
  obtain ⟨h1, c, h2, h3⟩ := h
  exact ⟨Nat.le_trans h1 hb.size, c, h2, h3.below hb⟩
/-- A letter of one number is sent. -/
theorem SendL_B (B : Nat) (w : World) (g last : Nat) (l : List (Int × Msg)) (L : Let) (h : NetB B w g last l) (hlast : last ≤ 1000000000) (hi : packErr L [] [] = 0) :
    CallP Try.prog 30 #[.pointer (some ⟨g, 0, none⟩), .agg (L.cells (.slice none 0 0) (.slice none 0 0))] (fun r w' => (if 4096 ≤ l.length then r = .tuple #[.int .i64 0, .int .i64 17] ∧ NetB B w' g last l
      else r = .tuple #[.int .i64 ((last + 1 : Nat) : Int), .int .i64 0] ∧ ∃ p' q', NetB B w' g (last + 1) (l ++ [(((last + 1 : Nat) : Int), ⟨L, p', q', [], []⟩)])) ∧ Below B w w') w := by
  obtain ⟨h1, c, h2, h3⟩ := h
  refine (Send_net c w g last l L _ _ [] [] h3 hlast (pnil w) (inil w) (.inl rfl) (.inl rfl)).mono ?_
  intro r w' hr
  rw [if_neg (by rw [hi]; simp)] at hr
  unfold Added at hr
  split at hr
  · rename_i hf
    rw [if_pos hf]
    obtain ⟨e, hL⟩ := hr
    exact ⟨⟨e, (hL.toB h1 h2).1⟩, (hL.toB h1 h2).2⟩
  · rename_i hf
    rw [if_neg hf]
    obtain ⟨e, p', q', hL⟩ := hr
    exact ⟨⟨e, p', q', (hL.toB h1 h2).1⟩, (hL.toB h1 h2).2⟩
theorem Twice_B (B : Nat) (w : World) (g last : Nat) (l : List (Int × Msg)) (n : Int) (h : NetB B w g last l) (hlast : last ≤ 1000000000) :
    CallP Try.prog 31 #[.pointer (some ⟨g, 0, none⟩), .int .i64 n] (fun r w' => (match getK n l with
      | none => r = .tuple #[.int .i64 0, .int .i64 7] ∧ NetB B w' g last l
      | some m => if 4096 ≤ l.length then r = .tuple #[.int .i64 0, .int .i64 17] ∧ NetB B w' g last l
        else r = .tuple #[.int .i64 ((last + 1 : Nat) : Int), .int .i64 0] ∧ ∃ p' q', NetB B w' g (last + 1) (l ++ [(((last + 1 : Nat) : Int), ⟨m.L, p', q', m.ps, m.is⟩)])) ∧ Below B w w') w := by
  obtain ⟨h1, c, h2, h3⟩ := h
  refine (Twice_net c w g last l n h3 hlast).mono ?_
  intro r w' hr
  cases hx : getK n l with
  | none =>
    rw [hx] at hr
    obtain ⟨e, hL⟩ := hr
    exact ⟨⟨e, (hL.toB h1 h2).1⟩, (hL.toB h1 h2).2⟩
  | some m =>
    rw [hx] at hr
    simp only at hr ⊢
    unfold Added at hr
    split at hr
    · rename_i hf
      rw [if_pos hf]
      obtain ⟨e, hL⟩ := hr
      exact ⟨⟨e, (hL.toB h1 h2).1⟩, (hL.toB h1 h2).2⟩
    · rename_i hf
      rw [if_neg hf]
      obtain ⟨e, p', q', hL⟩ := hr
      exact ⟨⟨e, p', q', (hL.toB h1 h2).1⟩, (hL.toB h1 h2).2⟩
theorem Deliver_B (B : Nat) (w : World) (g last : Nat) (l : List (Int × Msg)) (n : Int) (h : NetB B w g last l) :
    CallP Try.prog 33 #[.pointer (some ⟨g, 0, none⟩), .int .i64 n] (fun r w' => (match getK n l with
      | none => r = .tuple #[.agg (zeroLet.cells (.slice none 0 0) (.slice none 0 0)), .int .i64 7] ∧ NetB B w' g last l
      | some m => r = .tuple #[m.val, .int .i64 0] ∧ NetB B w' g last (delK n l)) ∧ Below B w w') w := by
  obtain ⟨h1, c, h2, h3⟩ := h
  refine (Deliver_net c w g last l n h3).mono ?_
  intro r w' hr
  cases hx : getK n l with
  | none =>
    rw [hx] at hr
    obtain ⟨e, hL⟩ := hr
    exact ⟨⟨e, (hL.toB h1 h2).1⟩, (hL.toB h1 h2).2⟩
  | some m =>
    rw [hx] at hr
    obtain ⟨e, hN, _, hT⟩ := hr
    have hL : LeftN c w g last (delK n l) w' := ⟨c, fun _ _ => rfl, hN, hT⟩
    exact ⟨⟨e, (hL.toB h1 h2).1⟩, (hL.toB h1 h2).2⟩
theorem Len_B (B : Nat) (w : World) (g last : Nat) (l : List (Int × Msg)) (h : NetB B w g last l) : CallP Try.prog 32 #[.pointer (some ⟨g, 0, none⟩)] (fun r w' => r = .int .i64 l.length ∧ w = w') w := by
  obtain ⟨h1, c, h2, h3⟩ := h
  exact Len_net c w g last l h3
theorem New_NB (w : World) : CallP Try.prog 29 #[] (fun r w' => ∃ g, r = .pointer (some ⟨g, 0, none⟩) ∧ NetB w.heap.size w' g 0 [] ∧ Below w.heap.size w w') w := by
  refine (New_net w).mono ?_
  rintro r w' ⟨g, c, rfl, h1, h2, h3⟩
  exact ⟨g, rfl, ⟨h3.size, c, h1, h2⟩, h3⟩
end Go.Proofs.Ythicbfopjakiiaa.E
namespace Go.Proofs.Ythicbfopjakiiaa.E
open Go Go.RowKit
set_option linter.unusedSimpArgs false
set_option linter.unusedVariables false

def letS : Let := ⟨0, 0, 0, 0, 0, 0, 0, ⟨#[97]⟩, ⟨#[]⟩, 0, false, ⟨#[]⟩⟩
theorem packErr_S : packErr letS [] [] = 0 := by
  have hg : goodL letS [] = true := by decide
  have hb : bulkL letS [] [] = 1 := by decide
  have hl : (packedB letS [] []).length ≤ 100000 := by
    have n0 := num_le6 0 (by omega)
    have n1 := num_le6 1 (by omega)
    have t0 : (Pack.text ⟨#[]⟩).length ≤ 6 := by
      simp only [Pack.text, List.length_append]
      exact n0
    have t1 : (Pack.text ⟨#[97]⟩).length ≤ 7 := by
      simp only [Pack.text, List.length_append]
      show (Pack.num 1).length + 1 ≤ 7
      omega
    simp only [packedB, numsB, textsB, pairsB, intentsB, Let.nums, Let.texts, letS, bitN, List.map_cons, List.map_nil, List.flatten_cons, List.flatten_nil, List.length_append, List.length_nil, Int.toNat_zero]
    simp only [Bool.false_eq_true, if_false]
    omega
  have hl2 : (packedB letS [] []).length ≤ 65536 := by
    have n0 := num_le6 0 (by omega)
    have n1 := num_le6 1 (by omega)
    have t0 : (Pack.text ⟨#[]⟩).length ≤ 6 := by
      simp only [Pack.text, List.length_append]
      exact n0
    have t1 : (Pack.text ⟨#[97]⟩).length ≤ 7 := by
      simp only [Pack.text, List.length_append]
      show (Pack.num 1).length + 1 ≤ 7
      omega
    simp only [packedB, numsB, textsB, pairsB, intentsB, Let.nums, Let.texts, letS, bitN, List.map_cons, List.map_nil, List.flatten_cons, List.flatten_nil, List.length_append, List.length_nil, Int.toNat_zero]
    simp only [Bool.false_eq_true, if_false]
    omega
  rw [packErr, if_neg (by rw [hg]; simp), if_neg (by rw [hb]; simp), if_neg (by omega)]
theorem und52 : Try.prog.underlying 52 = some (.pointer 118) := by kernel_rfl
theorem awake28_spec (w : World) : CallP Try.prog 28 #[] (fun r w' => r = .bool true ∧ Below w.heap.size w w') w := by
  refine ⟨S28.calls _ _ ?_⟩
  unfold S28
  refine (New_NB w).mono ?_
  rintro _ w1 ⟨g, rfl, h1, hb1⟩
  refine ofPR (pr_pnil und52) ?_
  rw [show Option.isNone (some (⟨g, 0, none⟩ : Addr)) = false from rfl]
  (repeat with_reducible first|refine z_a ?_|refine z_b ?_|refine z_c ?_|refine z_d ?_|refine z_e ?_|refine z_f ?_|refine z_g ?_|refine z_h ?_|refine z_i ?_|refine z_j ?_|refine z_k ?_|refine z_l ?_|refine z_m (by omega) ?_|refine z_n (by omega) ?_|refine z_o (by omega) ?_|refine z_p (by omega) ?_|refine z_q (by omega) ?_|refine z_r (by omega) ?_|refine z_s (by omega) ?_|refine z_t (by omega) ?_|refine z_u (by omega) ?_|refine z_v (by omega) ?_|refine z_w (by omega) ?_|refine z_x (by omega) ?_|refine z_y (by omega) ?_|refine z_z (by omega) ?_|refine z_A ?_|refine z_B ?_|refine z_C ?_|refine z_D ?_|refine z_E ?_|refine z_F ?_|refine z_G ?_|refine z_H ?_|refine z_I ?_|refine z_J ?_|refine z_K (by omega) (by decide) ?_|refine z_L (by omega) (by decide) ?_|refine z_M (by omega) ?_|refine z_N (by omega) ?_|refine z_O (by omega) ?_|refine z_P ?_|refine z_Q ?_|refine z_R ?_|refine z_S ?_|refine z_T ?_|refine z_U (by decide) ?_|refine z_V (by decide) ?_)
  refine bd (cells := letS.cells (.slice none 0 0) (.slice none 0 0)) (by kernel_rfl) ?_
  refine (SendL_B _ w1 g 0 [] letS h1 (by omega) packErr_S).mono ?_
  rintro r w2 ⟨hr, hb2⟩
  rw [if_neg (by simp)] at hr
  obtain ⟨rfl, p, q, h2⟩ := hr
  replace hb2 := hb1.trans hb2
  (repeat with_reducible first|refine z_a ?_|refine z_b ?_|refine z_c ?_|refine z_d ?_|refine z_e ?_|refine z_f ?_|refine z_g ?_|refine z_h ?_|refine z_i ?_|refine z_j ?_|refine z_k ?_|refine z_l ?_|refine z_m (by omega) ?_|refine z_n (by omega) ?_|refine z_o (by omega) ?_|refine z_p (by omega) ?_|refine z_q (by omega) ?_|refine z_r (by omega) ?_|refine z_s (by omega) ?_|refine z_t (by omega) ?_|refine z_u (by omega) ?_|refine z_v (by omega) ?_|refine z_w (by omega) ?_|refine z_x (by omega) ?_|refine z_y (by omega) ?_|refine z_z (by omega) ?_|refine z_A ?_|refine z_B ?_|refine z_C ?_|refine z_D ?_|refine z_E ?_|refine z_F ?_|refine z_G ?_|refine z_H ?_|refine z_I ?_|refine z_J ?_|refine z_K (by omega) (by decide) ?_|refine z_L (by omega) (by decide) ?_|refine z_M (by omega) ?_|refine z_N (by omega) ?_|refine z_O (by omega) ?_|refine z_P ?_|refine z_Q ?_|refine z_R ?_|refine z_S ?_|refine z_T ?_|refine z_U (by decide) ?_|refine z_V (by decide) ?_)
  refine (Twice_B _ w2 g 1 _ 1 h2 (by omega)).mono ?_
  rintro r w3 ⟨hr, hb3⟩
  have e1 : getK 1 ([] ++ [(((0 + 1 : Nat) : Int), (⟨letS, p, q, [], []⟩ : Msg))]) = some ⟨letS, p, q, [], []⟩ := rfl
  rw [e1] at hr
  simp only at hr
  rw [if_neg (by simp)] at hr
  obtain ⟨rfl, p', q', h3⟩ := hr
  replace hb3 := hb2.trans hb3
  (repeat with_reducible first|refine z_a ?_|refine z_b ?_|refine z_c ?_|refine z_d ?_|refine z_e ?_|refine z_f ?_|refine z_g ?_|refine z_h ?_|refine z_i ?_|refine z_j ?_|refine z_k ?_|refine z_l ?_|refine z_m (by omega) ?_|refine z_n (by omega) ?_|refine z_o (by omega) ?_|refine z_p (by omega) ?_|refine z_q (by omega) ?_|refine z_r (by omega) ?_|refine z_s (by omega) ?_|refine z_t (by omega) ?_|refine z_u (by omega) ?_|refine z_v (by omega) ?_|refine z_w (by omega) ?_|refine z_x (by omega) ?_|refine z_y (by omega) ?_|refine z_z (by omega) ?_|refine z_A ?_|refine z_B ?_|refine z_C ?_|refine z_D ?_|refine z_E ?_|refine z_F ?_|refine z_G ?_|refine z_H ?_|refine z_I ?_|refine z_J ?_|refine z_K (by omega) (by decide) ?_|refine z_L (by omega) (by decide) ?_|refine z_M (by omega) ?_|refine z_N (by omega) ?_|refine z_O (by omega) ?_|refine z_P ?_|refine z_Q ?_|refine z_R ?_|refine z_S ?_|refine z_T ?_|refine z_U (by decide) ?_|refine z_V (by decide) ?_)
  refine (Deliver_B _ w3 g 2 _ 1 h3).mono ?_
  rintro r w4 ⟨hr, hb4⟩
  have e2 : getK 1 ([] ++ [(((0 + 1 : Nat) : Int), (⟨letS, p, q, [], []⟩ : Msg))] ++ [(((1 + 1 : Nat) : Int), (⟨letS, p', q', [], []⟩ : Msg))]) = some ⟨letS, p, q, [], []⟩ := rfl
  have e3 : delK 1 ([] ++ [(((0 + 1 : Nat) : Int), (⟨letS, p, q, [], []⟩ : Msg))] ++ [(((1 + 1 : Nat) : Int), (⟨letS, p', q', [], []⟩ : Msg))]) = [(((1 + 1 : Nat) : Int), (⟨letS, p', q', [], []⟩ : Msg))] := rfl
  rw [e2, e3] at hr
  obtain ⟨rfl, h4⟩ := hr
  replace hb4 := hb3.trans hb4
  have hone : p.oneCell' = true ∧ q.oneCell' = true := by
    obtain ⟨_, c, _, hN⟩ := h3
    exact hN.one (x := (((0 + 1 : Nat) : Int), ⟨letS, p, q, [], []⟩)) (by simp)
  (repeat with_reducible first|refine z_a ?_|refine z_b ?_|refine z_c ?_|refine z_d ?_|refine z_e ?_|refine z_f ?_|refine z_g ?_|refine z_h ?_|refine z_i ?_|refine z_j ?_|refine z_k ?_|refine z_l ?_|refine z_m (by omega) ?_|refine z_n (by omega) ?_|refine z_o (by omega) ?_|refine z_p (by omega) ?_|refine z_q (by omega) ?_|refine z_r (by omega) ?_|refine z_s (by omega) ?_|refine z_t (by omega) ?_|refine z_u (by omega) ?_|refine z_v (by omega) ?_|refine z_w (by omega) ?_|refine z_x (by omega) ?_|refine z_y (by omega) ?_|refine z_z (by omega) ?_|refine z_A ?_|refine z_B ?_|refine z_C ?_|refine z_D ?_|refine z_E ?_|refine z_F ?_|refine z_G ?_|refine z_H ?_|refine z_I ?_|refine z_J ?_|refine z_K (by omega) (by decide) ?_|refine z_L (by omega) (by decide) ?_|refine z_M (by omega) ?_|refine z_N (by omega) ?_|refine z_O (by omega) ?_|refine z_P ?_|refine z_Q ?_|refine z_R ?_|refine z_S ?_|refine z_T ?_|refine z_U (by decide) ?_|refine z_V (by decide) ?_)
  refine al z58 ?_
  have hR : Blk (w4.alloc (.cells (Value.agg (zeroLet.cells (.slice none 0 0) (.slice none 0 0))).cells 58)) w4.heap.size 58 (zeroLet.cells (.slice none 0 0) (.slice none 0 0)) := Blk.new w4 58 _
  have ha := (Below.refl w4.heap.size w4).alloc (Nat.le_refl _) (.cells (Value.agg (zeroLet.cells (.slice none 0 0) (.slice none 0 0))).cells 58)
  refine stA hR (by exact sz58) (by rfl) (cells_one _ _ _ hone.1 hone.2) ?_
  have hL := hR.row (letS.cells p q)
  have hb5 := below_setRow ha (Nat.le_refl _) (letS.cells p q)
  generalize (w4.alloc (.cells (Value.agg (zeroLet.cells (.slice none 0 0) (.slice none 0 0))).cells 58)).setRow w4.heap.size (letS.cells p q) = w5 at *
  have c7 : w5.cell? ⟨w4.heap.size, 7, none⟩ = some (.string ⟨#[97]⟩) := hL.cell 7
  have hf := below_then hb4 hb5
  (repeat with_reducible first|refine z_q rfl ?_| refine fd l7 (by decide) ?_| refine ld one9 c7 ?_|refine z_H1 rfl ?_|refine z_a ?_|refine z_b ?_|refine z_c ?_|refine z_d ?_|refine z_e ?_|refine z_f ?_|refine z_g ?_|refine z_h ?_|refine z_i ?_|refine z_j ?_|refine z_k ?_|refine z_l ?_|refine z_m (by omega) ?_|refine z_n (by omega) ?_|refine z_o (by omega) ?_|refine z_p (by omega) ?_|refine z_q (by omega) ?_|refine z_r (by omega) ?_|refine z_s (by omega) ?_|refine z_t (by omega) ?_|refine z_u (by omega) ?_|refine z_v (by omega) ?_|refine z_w (by omega) ?_|refine z_x (by omega) ?_|refine z_y (by omega) ?_|refine z_z (by omega) ?_|refine z_A ?_|refine z_B ?_|refine z_C ?_|refine z_D ?_|refine z_E ?_|refine z_F ?_|refine z_G ?_|refine z_H ?_|refine z_I ?_|refine z_J ?_|refine z_K (by omega) (by decide) ?_|refine z_L (by omega) (by decide) ?_|refine z_M (by omega) ?_|refine z_N (by omega) ?_|refine z_O (by omega) ?_|refine z_P ?_|refine z_Q ?_|refine z_R ?_|refine z_S ?_|refine z_T ?_|refine z_U (by decide) ?_|refine z_V (by decide) ?_)
  refine (Len_B _ w5 g 2 _ (h4.below hb5)).mono ?_
  rintro _ _ ⟨rfl, rfl⟩
  (repeat with_reducible first|refine z_q rfl ?_|refine z_a ?_|refine z_b ?_|refine z_c ?_|refine z_d ?_|refine z_e ?_|refine z_f ?_|refine z_g ?_|refine z_h ?_|refine z_i ?_|refine z_j ?_|refine z_k ?_|refine z_l ?_|refine z_m (by omega) ?_|refine z_n (by omega) ?_|refine z_o (by omega) ?_|refine z_p (by omega) ?_|refine z_q (by omega) ?_|refine z_r (by omega) ?_|refine z_s (by omega) ?_|refine z_t (by omega) ?_|refine z_u (by omega) ?_|refine z_v (by omega) ?_|refine z_w (by omega) ?_|refine z_x (by omega) ?_|refine z_y (by omega) ?_|refine z_z (by omega) ?_|refine z_A ?_|refine z_B ?_|refine z_C ?_|refine z_D ?_|refine z_E ?_|refine z_F ?_|refine z_G ?_|refine z_H ?_|refine z_I ?_|refine z_J ?_|refine z_K (by omega) (by decide) ?_|refine z_L (by omega) (by decide) ?_|refine z_M (by omega) ?_|refine z_N (by omega) ?_|refine z_O (by omega) ?_|refine z_P ?_|refine z_Q ?_|refine z_R ?_|refine z_S ?_|refine z_T ?_|refine z_U (by decide) ?_|refine z_V (by decide) ?_)
  exact ⟨rfl, hf⟩
end Go.Proofs.Ythicbfopjakiiaa.E
