import Derived.Test.YthicbfopjakiiaaMg
import Derived.Test.YthicbfopjakiiaaMh
import Derived.Test.YthicbfopjakiiaaM1
import Derived.Test.YthicbfopjakiiaaProg
import Derived.KernelRfl
namespace Go.Proofs.Ythicbfopjakiiaa.E
open Go Go.RowKit
set_option linter.unusedSimpArgs false
set_option linter.unusedVariables false

theorem segLt {K : Value → World → Prop} {w : World} {k n m : Nat} {x1 x2 x3 : Operand} (h : K (.bool (decide (k < n ∧ m ≤ 100000))) w) :
    LiftP Try.prog (binS Go.BinOp.lss 3 x1 x2 (.int .i64 k) (.int .i64 n)) (fun v34 w =>
    GuardP v34 true (fun K w => K (.int .i64 m) w) (fun v36 w =>
    GuardP v34 true (fun K w => LiftP Try.prog (binS Go.BinOp.leq 3 x3 (Go.Operand.const (Go.Value.int Go.IntKind.i64 100000)) v36 (Go.Value.int Go.IntKind.i64 100000)) K w) (fun v37 w =>
    PickP v34 v37 (Go.Value.bool false) K w) w) w) w := by
  refine bi_lss_c (fun h1 => ?_) (fun h1 => ?_)
  · (repeat with_reducible first|refine z_a ?_|refine z_b ?_|refine z_c ?_|refine z_d ?_|refine z_e ?_|refine z_f ?_|refine z_g ?_|refine z_h ?_|refine z_i ?_|refine z_j ?_|refine z_k ?_|refine z_l ?_|refine z_m (by omega) ?_|refine z_n (by omega) ?_|refine z_o (by omega) ?_|refine z_p (by omega) ?_|refine z_q (by omega) ?_|refine z_r (by omega) ?_|refine z_s (by omega) ?_|refine z_t (by omega) ?_|refine z_u (by omega) ?_|refine z_v (by omega) ?_|refine z_w (by omega) ?_|refine z_x (by omega) ?_|refine z_y (by omega) ?_|refine z_z (by omega) ?_|refine z_A ?_|refine z_B ?_|refine z_C ?_|refine z_D ?_|refine z_E ?_|refine z_F ?_|refine z_G ?_|refine z_H ?_|refine z_I ?_|refine z_J ?_|refine z_K (by omega) (by decide) ?_|refine z_L (by omega) (by decide) ?_|refine z_M (by omega) ?_|refine z_N (by omega) ?_|refine z_O (by omega) ?_|refine z_P ?_|refine z_Q ?_|refine z_R ?_|refine z_S ?_|refine z_T ?_|refine z_U (by decide) ?_|refine z_V (by decide) ?_)
    refine bi_leq_c (fun h2 => ?_) (fun h2 => ?_)
    · (repeat with_reducible first|refine z_a ?_|refine z_b ?_|refine z_c ?_|refine z_d ?_|refine z_e ?_|refine z_f ?_|refine z_g ?_|refine z_h ?_|refine z_i ?_|refine z_j ?_|refine z_k ?_|refine z_l ?_|refine z_m (by omega) ?_|refine z_n (by omega) ?_|refine z_o (by omega) ?_|refine z_p (by omega) ?_|refine z_q (by omega) ?_|refine z_r (by omega) ?_|refine z_s (by omega) ?_|refine z_t (by omega) ?_|refine z_u (by omega) ?_|refine z_v (by omega) ?_|refine z_w (by omega) ?_|refine z_x (by omega) ?_|refine z_y (by omega) ?_|refine z_z (by omega) ?_|refine z_A ?_|refine z_B ?_|refine z_C ?_|refine z_D ?_|refine z_E ?_|refine z_F ?_|refine z_G ?_|refine z_H ?_|refine z_I ?_|refine z_J ?_|refine z_K (by omega) (by decide) ?_|refine z_L (by omega) (by decide) ?_|refine z_M (by omega) ?_|refine z_N (by omega) ?_|refine z_O (by omega) ?_|refine z_P ?_|refine z_Q ?_|refine z_R ?_|refine z_S ?_|refine z_T ?_|refine z_U (by decide) ?_|refine z_V (by decide) ?_)
      rwa [decide_eq_true (by omega)] at h
    · (repeat with_reducible first|refine z_a ?_|refine z_b ?_|refine z_c ?_|refine z_d ?_|refine z_e ?_|refine z_f ?_|refine z_g ?_|refine z_h ?_|refine z_i ?_|refine z_j ?_|refine z_k ?_|refine z_l ?_|refine z_m (by omega) ?_|refine z_n (by omega) ?_|refine z_o (by omega) ?_|refine z_p (by omega) ?_|refine z_q (by omega) ?_|refine z_r (by omega) ?_|refine z_s (by omega) ?_|refine z_t (by omega) ?_|refine z_u (by omega) ?_|refine z_v (by omega) ?_|refine z_w (by omega) ?_|refine z_x (by omega) ?_|refine z_y (by omega) ?_|refine z_z (by omega) ?_|refine z_A ?_|refine z_B ?_|refine z_C ?_|refine z_D ?_|refine z_E ?_|refine z_F ?_|refine z_G ?_|refine z_H ?_|refine z_I ?_|refine z_J ?_|refine z_K (by omega) (by decide) ?_|refine z_L (by omega) (by decide) ?_|refine z_M (by omega) ?_|refine z_N (by omega) ?_|refine z_O (by omega) ?_|refine z_P ?_|refine z_Q ?_|refine z_R ?_|refine z_S ?_|refine z_T ?_|refine z_U (by decide) ?_|refine z_V (by decide) ?_)
      rwa [decide_eq_false (by omega)] at h
  · (repeat with_reducible first|refine z_a ?_|refine z_b ?_|refine z_c ?_|refine z_d ?_|refine z_e ?_|refine z_f ?_|refine z_g ?_|refine z_h ?_|refine z_i ?_|refine z_j ?_|refine z_k ?_|refine z_l ?_|refine z_m (by omega) ?_|refine z_n (by omega) ?_|refine z_o (by omega) ?_|refine z_p (by omega) ?_|refine z_q (by omega) ?_|refine z_r (by omega) ?_|refine z_s (by omega) ?_|refine z_t (by omega) ?_|refine z_u (by omega) ?_|refine z_v (by omega) ?_|refine z_w (by omega) ?_|refine z_x (by omega) ?_|refine z_y (by omega) ?_|refine z_z (by omega) ?_|refine z_A ?_|refine z_B ?_|refine z_C ?_|refine z_D ?_|refine z_E ?_|refine z_F ?_|refine z_G ?_|refine z_H ?_|refine z_I ?_|refine z_J ?_|refine z_K (by omega) (by decide) ?_|refine z_L (by omega) (by decide) ?_|refine z_M (by omega) ?_|refine z_N (by omega) ?_|refine z_O (by omega) ?_|refine z_P ?_|refine z_Q ?_|refine z_R ?_|refine z_S ?_|refine z_T ?_|refine z_U (by decide) ?_|refine z_V (by decide) ?_)
    rwa [decide_eq_false (by omega)] at h
theorem Light_spec (L : Let) (p q : Value) (ps : List PairT) (is : List IntentT) (w : World) (hp : Pairs w [p] ps) (hq : Intents w [q] is) :
    CallP Try.prog 34 #[.agg (L.cells p q)] (fun r w' => ∃ b, r = .bool b ∧ (b = true → (ps.length ≤ 300 ∧ is.length ≤ 300 ∧ ∀ x ∈ ps, x.1.size ≤ 100000 ∧ x.2.1.size ≤ 100000)) ∧ Below w.heap.size w w') w := by
  obtain ⟨A, cA, rfl, _, hmA⟩ := hp.slice
  obtain ⟨A', cA', rfl, _, hmA'⟩ := hq.slice
  refine ⟨S34.calls _ _ _ ?_⟩
  unfold S34
  refine bx ?_
  have hL : Blk (w.alloc (.cells (Value.agg (L.cells (.slice A ps.length cA) (.slice A' is.length cA'))).cells 58)) w.heap.size 58 (L.cells (.slice A ps.length cA) (.slice A' is.length cA')) := Blk.new w 58 _
  have ha := (Below.refl w.heap.size w).alloc (Nat.le_refl _) (.cells (Value.agg (L.cells (.slice A ps.length cA) (.slice A' is.length cA'))).cells 58)
  generalize w.alloc (.cells (Value.agg (L.cells (.slice A ps.length cA) (.slice A' is.length cA'))).cells 58) = w1 at *
  have c9 : w1.cell? ⟨w.heap.size, 9, none⟩ = some (.slice A ps.length cA) := hL.cell 9
  have c10 : w1.cell? ⟨w.heap.size, 10, none⟩ = some (.slice A' is.length cA') := hL.cell 10
  have c7 : w1.cell? ⟨w.heap.size, 7, none⟩ = some (.string L.s) := hL.cell 7
  have c8 : w1.cell? ⟨w.heap.size, 8, none⟩ = some (.string L.t) := hL.cell 8
  have c13 : w1.cell? ⟨w.heap.size, 13, none⟩ = some (.string L.body) := hL.cell 13
  (repeat with_reducible first | refine fd l9 (by decide) ?_| refine ld one55 c9 ?_|refine z_a ?_|refine z_b ?_|refine z_c ?_|refine z_d ?_|refine z_e ?_|refine z_f ?_|refine z_g ?_|refine z_h ?_|refine z_i ?_|refine z_j ?_|refine z_k ?_|refine z_l ?_|refine z_m (by omega) ?_|refine z_n (by omega) ?_|refine z_o (by omega) ?_|refine z_p (by omega) ?_|refine z_q (by omega) ?_|refine z_r (by omega) ?_|refine z_s (by omega) ?_|refine z_t (by omega) ?_|refine z_u (by omega) ?_|refine z_v (by omega) ?_|refine z_w (by omega) ?_|refine z_x (by omega) ?_|refine z_y (by omega) ?_|refine z_z (by omega) ?_|refine z_A ?_|refine z_B ?_|refine z_C ?_|refine z_D ?_|refine z_E ?_|refine z_F ?_|refine z_G ?_|refine z_H ?_|refine z_I ?_|refine z_J ?_|refine z_K (by omega) (by decide) ?_|refine z_L (by omega) (by decide) ?_|refine z_M (by omega) ?_|refine z_N (by omega) ?_|refine z_O (by omega) ?_|refine z_P ?_|refine z_Q ?_|refine z_R ?_|refine z_S ?_|refine z_T ?_|refine z_U (by decide) ?_|refine z_V (by decide) ?_)
  refine ln und55 ?_
  refine bi_gtr_c (fun h1 => ?_) (fun h1 => ?_)
  · (repeat with_reducible first|refine z_a ?_|refine z_b ?_|refine z_c ?_|refine z_d ?_|refine z_e ?_|refine z_f ?_|refine z_g ?_|refine z_h ?_|refine z_i ?_|refine z_j ?_|refine z_k ?_|refine z_l ?_|refine z_m (by omega) ?_|refine z_n (by omega) ?_|refine z_o (by omega) ?_|refine z_p (by omega) ?_|refine z_q (by omega) ?_|refine z_r (by omega) ?_|refine z_s (by omega) ?_|refine z_t (by omega) ?_|refine z_u (by omega) ?_|refine z_v (by omega) ?_|refine z_w (by omega) ?_|refine z_x (by omega) ?_|refine z_y (by omega) ?_|refine z_z (by omega) ?_|refine z_A ?_|refine z_B ?_|refine z_C ?_|refine z_D ?_|refine z_E ?_|refine z_F ?_|refine z_G ?_|refine z_H ?_|refine z_I ?_|refine z_J ?_|refine z_K (by omega) (by decide) ?_|refine z_L (by omega) (by decide) ?_|refine z_M (by omega) ?_|refine z_N (by omega) ?_|refine z_O (by omega) ?_|refine z_P ?_|refine z_Q ?_|refine z_R ?_|refine z_S ?_|refine z_T ?_|refine z_U (by decide) ?_|refine z_V (by decide) ?_)
    exact ⟨false, rfl, fun h => by simp at h, ha⟩
  (repeat with_reducible first | refine fd l10 (by decide) ?_| refine ld one56 c10 ?_|refine z_a ?_|refine z_b ?_|refine z_c ?_|refine z_d ?_|refine z_e ?_|refine z_f ?_|refine z_g ?_|refine z_h ?_|refine z_i ?_|refine z_j ?_|refine z_k ?_|refine z_l ?_|refine z_m (by omega) ?_|refine z_n (by omega) ?_|refine z_o (by omega) ?_|refine z_p (by omega) ?_|refine z_q (by omega) ?_|refine z_r (by omega) ?_|refine z_s (by omega) ?_|refine z_t (by omega) ?_|refine z_u (by omega) ?_|refine z_v (by omega) ?_|refine z_w (by omega) ?_|refine z_x (by omega) ?_|refine z_y (by omega) ?_|refine z_z (by omega) ?_|refine z_A ?_|refine z_B ?_|refine z_C ?_|refine z_D ?_|refine z_E ?_|refine z_F ?_|refine z_G ?_|refine z_H ?_|refine z_I ?_|refine z_J ?_|refine z_K (by omega) (by decide) ?_|refine z_L (by omega) (by decide) ?_|refine z_M (by omega) ?_|refine z_N (by omega) ?_|refine z_O (by omega) ?_|refine z_P ?_|refine z_Q ?_|refine z_R ?_|refine z_S ?_|refine z_T ?_|refine z_U (by decide) ?_|refine z_V (by decide) ?_)
  refine ln und56 ?_
  (repeat with_reducible first|refine z_a ?_|refine z_b ?_|refine z_c ?_|refine z_d ?_|refine z_e ?_|refine z_f ?_|refine z_g ?_|refine z_h ?_|refine z_i ?_|refine z_j ?_|refine z_k ?_|refine z_l ?_|refine z_m (by omega) ?_|refine z_n (by omega) ?_|refine z_o (by omega) ?_|refine z_p (by omega) ?_|refine z_q (by omega) ?_|refine z_r (by omega) ?_|refine z_s (by omega) ?_|refine z_t (by omega) ?_|refine z_u (by omega) ?_|refine z_v (by omega) ?_|refine z_w (by omega) ?_|refine z_x (by omega) ?_|refine z_y (by omega) ?_|refine z_z (by omega) ?_|refine z_A ?_|refine z_B ?_|refine z_C ?_|refine z_D ?_|refine z_E ?_|refine z_F ?_|refine z_G ?_|refine z_H ?_|refine z_I ?_|refine z_J ?_|refine z_K (by omega) (by decide) ?_|refine z_L (by omega) (by decide) ?_|refine z_M (by omega) ?_|refine z_N (by omega) ?_|refine z_O (by omega) ?_|refine z_P ?_|refine z_Q ?_|refine z_R ?_|refine z_S ?_|refine z_T ?_|refine z_U (by decide) ?_|refine z_V (by decide) ?_)
  refine bi_gtr_c (fun h2 => ?_) (fun h2 => ?_)
  · (repeat with_reducible first|refine z_a ?_|refine z_b ?_|refine z_c ?_|refine z_d ?_|refine z_e ?_|refine z_f ?_|refine z_g ?_|refine z_h ?_|refine z_i ?_|refine z_j ?_|refine z_k ?_|refine z_l ?_|refine z_m (by omega) ?_|refine z_n (by omega) ?_|refine z_o (by omega) ?_|refine z_p (by omega) ?_|refine z_q (by omega) ?_|refine z_r (by omega) ?_|refine z_s (by omega) ?_|refine z_t (by omega) ?_|refine z_u (by omega) ?_|refine z_v (by omega) ?_|refine z_w (by omega) ?_|refine z_x (by omega) ?_|refine z_y (by omega) ?_|refine z_z (by omega) ?_|refine z_A ?_|refine z_B ?_|refine z_C ?_|refine z_D ?_|refine z_E ?_|refine z_F ?_|refine z_G ?_|refine z_H ?_|refine z_I ?_|refine z_J ?_|refine z_K (by omega) (by decide) ?_|refine z_L (by omega) (by decide) ?_|refine z_M (by omega) ?_|refine z_N (by omega) ?_|refine z_O (by omega) ?_|refine z_P ?_|refine z_Q ?_|refine z_R ?_|refine z_S ?_|refine z_T ?_|refine z_U (by decide) ?_|refine z_V (by decide) ?_)
    exact ⟨false, rfl, fun h => by simp at h, ha⟩
  (repeat with_reducible first | refine fd l7 (by decide) ?_| refine ld one9 c7 ?_|refine z_a ?_|refine z_b ?_|refine z_c ?_|refine z_d ?_|refine z_e ?_|refine z_f ?_|refine z_g ?_|refine z_h ?_|refine z_i ?_|refine z_j ?_|refine z_k ?_|refine z_l ?_|refine z_m (by omega) ?_|refine z_n (by omega) ?_|refine z_o (by omega) ?_|refine z_p (by omega) ?_|refine z_q (by omega) ?_|refine z_r (by omega) ?_|refine z_s (by omega) ?_|refine z_t (by omega) ?_|refine z_u (by omega) ?_|refine z_v (by omega) ?_|refine z_w (by omega) ?_|refine z_x (by omega) ?_|refine z_y (by omega) ?_|refine z_z (by omega) ?_|refine z_A ?_|refine z_B ?_|refine z_C ?_|refine z_D ?_|refine z_E ?_|refine z_F ?_|refine z_G ?_|refine z_H ?_|refine z_I ?_|refine z_J ?_|refine z_K (by omega) (by decide) ?_|refine z_L (by omega) (by decide) ?_|refine z_M (by omega) ?_|refine z_N (by omega) ?_|refine z_O (by omega) ?_|refine z_P ?_|refine z_Q ?_|refine z_R ?_|refine z_S ?_|refine z_T ?_|refine z_U (by decide) ?_|refine z_V (by decide) ?_)
  refine lns und9 ?_
  refine mnI ?_
  (repeat with_reducible first | refine fd l8 (by decide) ?_| refine ld one9 c8 ?_|refine z_a ?_|refine z_b ?_|refine z_c ?_|refine z_d ?_|refine z_e ?_|refine z_f ?_|refine z_g ?_|refine z_h ?_|refine z_i ?_|refine z_j ?_|refine z_k ?_|refine z_l ?_|refine z_m (by omega) ?_|refine z_n (by omega) ?_|refine z_o (by omega) ?_|refine z_p (by omega) ?_|refine z_q (by omega) ?_|refine z_r (by omega) ?_|refine z_s (by omega) ?_|refine z_t (by omega) ?_|refine z_u (by omega) ?_|refine z_v (by omega) ?_|refine z_w (by omega) ?_|refine z_x (by omega) ?_|refine z_y (by omega) ?_|refine z_z (by omega) ?_|refine z_A ?_|refine z_B ?_|refine z_C ?_|refine z_D ?_|refine z_E ?_|refine z_F ?_|refine z_G ?_|refine z_H ?_|refine z_I ?_|refine z_J ?_|refine z_K (by omega) (by decide) ?_|refine z_L (by omega) (by decide) ?_|refine z_M (by omega) ?_|refine z_N (by omega) ?_|refine z_O (by omega) ?_|refine z_P ?_|refine z_Q ?_|refine z_R ?_|refine z_S ?_|refine z_T ?_|refine z_U (by decide) ?_|refine z_V (by decide) ?_)
  refine lns und9 ?_
  refine mnI ?_
  (repeat with_reducible first | refine fd l13 (by decide) ?_| refine ld one9 c13 ?_|refine z_a ?_|refine z_b ?_|refine z_c ?_|refine z_d ?_|refine z_e ?_|refine z_f ?_|refine z_g ?_|refine z_h ?_|refine z_i ?_|refine z_j ?_|refine z_k ?_|refine z_l ?_|refine z_m (by omega) ?_|refine z_n (by omega) ?_|refine z_o (by omega) ?_|refine z_p (by omega) ?_|refine z_q (by omega) ?_|refine z_r (by omega) ?_|refine z_s (by omega) ?_|refine z_t (by omega) ?_|refine z_u (by omega) ?_|refine z_v (by omega) ?_|refine z_w (by omega) ?_|refine z_x (by omega) ?_|refine z_y (by omega) ?_|refine z_z (by omega) ?_|refine z_A ?_|refine z_B ?_|refine z_C ?_|refine z_D ?_|refine z_E ?_|refine z_F ?_|refine z_G ?_|refine z_H ?_|refine z_I ?_|refine z_J ?_|refine z_K (by omega) (by decide) ?_|refine z_L (by omega) (by decide) ?_|refine z_M (by omega) ?_|refine z_N (by omega) ?_|refine z_O (by omega) ?_|refine z_P ?_|refine z_Q ?_|refine z_R ?_|refine z_S ?_|refine z_T ?_|refine z_U (by decide) ?_|refine z_V (by decide) ?_)
  refine lns und9 ?_
  refine mnI ?_
  (repeat with_reducible first|refine z_a ?_|refine z_b ?_|refine z_c ?_|refine z_d ?_|refine z_e ?_|refine z_f ?_|refine z_g ?_|refine z_h ?_|refine z_i ?_|refine z_j ?_|refine z_k ?_|refine z_l ?_|refine z_m (by omega) ?_|refine z_n (by omega) ?_|refine z_o (by omega) ?_|refine z_p (by omega) ?_|refine z_q (by omega) ?_|refine z_r (by omega) ?_|refine z_s (by omega) ?_|refine z_t (by omega) ?_|refine z_u (by omega) ?_|refine z_v (by omega) ?_|refine z_w (by omega) ?_|refine z_x (by omega) ?_|refine z_y (by omega) ?_|refine z_z (by omega) ?_|refine z_A ?_|refine z_B ?_|refine z_C ?_|refine z_D ?_|refine z_E ?_|refine z_F ?_|refine z_G ?_|refine z_H ?_|refine z_I ?_|refine z_J ?_|refine z_K (by omega) (by decide) ?_|refine z_L (by omega) (by decide) ?_|refine z_M (by omega) ?_|refine z_N (by omega) ?_|refine z_O (by omega) ?_|refine z_P ?_|refine z_Q ?_|refine z_R ?_|refine z_S ?_|refine z_T ?_|refine z_U (by decide) ?_|refine z_V (by decide) ?_)
  obtain ⟨n0, hn0⟩ : ∃ n0 : Nat, min (L.s.size : Int) 100000 + min (L.t.size : Int) 100000 + min (L.body.size : Int) 100000 = n0 := ⟨(min (L.s.size : Int) 100000 + min (L.t.size : Int) 100000 + min (L.body.size : Int) 100000).toNat, by omega⟩
  have hn0' : n0 ≤ 300000 := by omega
  rw [hn0]
  refine LoopP.inv2 (fun n i w' => ∃ k m : Nat, k ≤ ps.length ∧ i = .int .i64 k ∧ n = .int .i64 m ∧ m ≤ 500000 ∧ (m ≤ 100000 → ∀ x ∈ ps.take k, x.1.size ≤ 100000 ∧ x.2.1.size ≤ 100000) ∧ Below w1.heap.size w1 w') (fun _ i _ => ps.length - (intOf i).toNat) ⟨0, n0, by omega, rfl, rfl, by omega, by simp, Below.refl _ _⟩ ?_
  rintro _ _ w2 ⟨k, m, hk, rfl, rfl, hm, hall, hb2⟩ J hJ
  dsimp only [List.headD_cons, List.tail_cons]
  have hL2 := hL.below' hb2
  have e9 : w2.cell? ⟨w.heap.size, 9, none⟩ = some (.slice A ps.length cA) := hL2.cell 9
  (repeat with_reducible first | refine fd l9 (by decide) ?_| refine ld one55 e9 ?_|refine z_a ?_|refine z_b ?_|refine z_c ?_|refine z_d ?_|refine z_e ?_|refine z_f ?_|refine z_g ?_|refine z_h ?_|refine z_i ?_|refine z_j ?_|refine z_k ?_|refine z_l ?_|refine z_m (by omega) ?_|refine z_n (by omega) ?_|refine z_o (by omega) ?_|refine z_p (by omega) ?_|refine z_q (by omega) ?_|refine z_r (by omega) ?_|refine z_s (by omega) ?_|refine z_t (by omega) ?_|refine z_u (by omega) ?_|refine z_v (by omega) ?_|refine z_w (by omega) ?_|refine z_x (by omega) ?_|refine z_y (by omega) ?_|refine z_z (by omega) ?_|refine z_A ?_|refine z_B ?_|refine z_C ?_|refine z_D ?_|refine z_E ?_|refine z_F ?_|refine z_G ?_|refine z_H ?_|refine z_I ?_|refine z_J ?_|refine z_K (by omega) (by decide) ?_|refine z_L (by omega) (by decide) ?_|refine z_M (by omega) ?_|refine z_N (by omega) ?_|refine z_O (by omega) ?_|refine z_P ?_|refine z_Q ?_|refine z_R ?_|refine z_S ?_|refine z_T ?_|refine z_U (by decide) ?_|refine z_V (by decide) ?_)
  refine ln und55 ?_
  refine segLt ?_
  refine CondP.dec (fun hh => ?_) (fun hh => ?_)
  · have hk' : k < ps.length := hh.1
    have hm' : m ≤ 100000 := hh.2
    have hb2' := below_then ha hb2
    obtain ⟨a, us, rfl, hus, hcell, hrd⟩ := rRow.at (keeps_Pairs _ _ _ _ hb2' hp) k hk'
    obtain ⟨rfl, hz1, hz2⟩ := pair_cells hrd
    have hdr : Below w2.heap.size w2 w2.drew := (Below.refl _ _).drew
    have f9 : ∀ w', Below w2.heap.size w2 w' → w'.cell? ⟨w.heap.size, 9, none⟩ = some (.slice (some a) ps.length cA) := fun w' h => (hL2.below' h).cell 9
    have k0 : ∀ w', Below w2.heap.size w2 w' → w'.cell? ((a.add (k * 2)).add 0) = some (.string ps[k].1) := fun w' h => keepC hcell w' h 0 _ rfl
    have k1 : ∀ w', Below w2.heap.size w2 w' → w'.cell? ((a.add (k * 2)).add 1) = some (.string ps[k].2.1) := fun w' h => keepC hcell w' h 1 _ rfl
    obtain ⟨m1, hm1⟩ : ∃ m1 : Nat, (m : Int) + min (ps[k].1.size : Int) 100001 = m1 := ⟨((m : Int) + min (ps[k].1.size : Int) 100001).toNat, by omega⟩
    obtain ⟨m2, hm2⟩ : ∃ m2 : Nat, (m1 : Int) + min (ps[k].2.1.size : Int) 100001 = m2 := ⟨((m1 : Int) + min (ps[k].2.1.size : Int) 100001).toNat, by omega⟩
    refine draw (Below w2.heap.size w2) hdr ?_
    (repeat with_reducible first | refine yfd l9 (by decide) ?_| refine yl1 one55 f9 ?_|refine z_W ?_|refine z_a ?_|refine z_b ?_|refine z_c ?_|refine z_d ?_|refine z_e ?_|refine z_f ?_|refine z_g ?_|refine z_h ?_|refine z_i ?_|refine z_j ?_|refine z_k ?_|refine z_l ?_|refine z_X (by omega) ?_|refine z_Y (by omega) ?_|refine z_Z (by omega) ?_|refine z_a1 (by omega) ?_|refine z_b1 (by omega) ?_|refine z_c1 (by omega) ?_|refine z_d1 (by omega) ?_|refine z_e1 (by omega) ?_|refine z_f1 (by omega) ?_|refine z_g1 (by omega) ?_|refine z_h1 (by omega) ?_|refine z_i1 (by omega) ?_|refine z_j1 (by omega) ?_|refine z_k1 (by omega) ?_|refine z_l1 ?_|refine z_m1 ?_|refine z_n1 ?_|refine z_o1 ?_|refine z_p1 ?_|refine z_q1 ?_|refine z_r1 ?_|refine z_s1 ?_|refine z_t1 ?_|refine z_u1 ?_|refine z_v1 (by omega) (by decide) ?_|refine z_w1 (by omega) (by decide) ?_|refine z_x1 (by omega) ?_|refine z_y1 (by omega) ?_|refine z_z1 (by omega) ?_|refine z_A1 ?_|refine z_B1 ?_|refine z_C1 ?_|refine z_D1 ?_|refine z_E1 ?_|refine z_F1 (by decide) ?_|refine z_G1 (by decide) ?_)
    refine yixA und55 sz64 k hk' ?_
    refine yfdA p0' (by decide) ?_
    (repeat with_reducible first | refine yl1 one9 k0 ?_|refine z_W ?_|refine z_a ?_|refine z_b ?_|refine z_c ?_|refine z_d ?_|refine z_e ?_|refine z_f ?_|refine z_g ?_|refine z_h ?_|refine z_i ?_|refine z_j ?_|refine z_k ?_|refine z_l ?_|refine z_X (by omega) ?_|refine z_Y (by omega) ?_|refine z_Z (by omega) ?_|refine z_a1 (by omega) ?_|refine z_b1 (by omega) ?_|refine z_c1 (by omega) ?_|refine z_d1 (by omega) ?_|refine z_e1 (by omega) ?_|refine z_f1 (by omega) ?_|refine z_g1 (by omega) ?_|refine z_h1 (by omega) ?_|refine z_i1 (by omega) ?_|refine z_j1 (by omega) ?_|refine z_k1 (by omega) ?_|refine z_l1 ?_|refine z_m1 ?_|refine z_n1 ?_|refine z_o1 ?_|refine z_p1 ?_|refine z_q1 ?_|refine z_r1 ?_|refine z_s1 ?_|refine z_t1 ?_|refine z_u1 ?_|refine z_v1 (by omega) (by decide) ?_|refine z_w1 (by omega) (by decide) ?_|refine z_x1 (by omega) ?_|refine z_y1 (by omega) ?_|refine z_z1 (by omega) ?_|refine z_A1 ?_|refine z_B1 ?_|refine z_C1 ?_|refine z_D1 ?_|refine z_E1 ?_|refine z_F1 (by decide) ?_|refine z_G1 (by decide) ?_)
    refine ylns und9 ?_
    refine ymn ?_
    refine yi_add64 (by omega) ?_
    rw [hm1]
    (repeat with_reducible first | refine yfd l9 (by decide) ?_| refine yl1 one55 f9 ?_|refine z_W ?_|refine z_a ?_|refine z_b ?_|refine z_c ?_|refine z_d ?_|refine z_e ?_|refine z_f ?_|refine z_g ?_|refine z_h ?_|refine z_i ?_|refine z_j ?_|refine z_k ?_|refine z_l ?_|refine z_X (by omega) ?_|refine z_Y (by omega) ?_|refine z_Z (by omega) ?_|refine z_a1 (by omega) ?_|refine z_b1 (by omega) ?_|refine z_c1 (by omega) ?_|refine z_d1 (by omega) ?_|refine z_e1 (by omega) ?_|refine z_f1 (by omega) ?_|refine z_g1 (by omega) ?_|refine z_h1 (by omega) ?_|refine z_i1 (by omega) ?_|refine z_j1 (by omega) ?_|refine z_k1 (by omega) ?_|refine z_l1 ?_|refine z_m1 ?_|refine z_n1 ?_|refine z_o1 ?_|refine z_p1 ?_|refine z_q1 ?_|refine z_r1 ?_|refine z_s1 ?_|refine z_t1 ?_|refine z_u1 ?_|refine z_v1 (by omega) (by decide) ?_|refine z_w1 (by omega) (by decide) ?_|refine z_x1 (by omega) ?_|refine z_y1 (by omega) ?_|refine z_z1 (by omega) ?_|refine z_A1 ?_|refine z_B1 ?_|refine z_C1 ?_|refine z_D1 ?_|refine z_E1 ?_|refine z_F1 (by decide) ?_|refine z_G1 (by decide) ?_)
    refine yixA und55 sz64 k hk' ?_
    refine yfdA p1' (by decide) ?_
    (repeat with_reducible first | refine yl1 one9 k1 ?_|refine z_W ?_|refine z_a ?_|refine z_b ?_|refine z_c ?_|refine z_d ?_|refine z_e ?_|refine z_f ?_|refine z_g ?_|refine z_h ?_|refine z_i ?_|refine z_j ?_|refine z_k ?_|refine z_l ?_|refine z_X (by omega) ?_|refine z_Y (by omega) ?_|refine z_Z (by omega) ?_|refine z_a1 (by omega) ?_|refine z_b1 (by omega) ?_|refine z_c1 (by omega) ?_|refine z_d1 (by omega) ?_|refine z_e1 (by omega) ?_|refine z_f1 (by omega) ?_|refine z_g1 (by omega) ?_|refine z_h1 (by omega) ?_|refine z_i1 (by omega) ?_|refine z_j1 (by omega) ?_|refine z_k1 (by omega) ?_|refine z_l1 ?_|refine z_m1 ?_|refine z_n1 ?_|refine z_o1 ?_|refine z_p1 ?_|refine z_q1 ?_|refine z_r1 ?_|refine z_s1 ?_|refine z_t1 ?_|refine z_u1 ?_|refine z_v1 (by omega) (by decide) ?_|refine z_w1 (by omega) (by decide) ?_|refine z_x1 (by omega) ?_|refine z_y1 (by omega) ?_|refine z_z1 (by omega) ?_|refine z_A1 ?_|refine z_B1 ?_|refine z_C1 ?_|refine z_D1 ?_|refine z_E1 ?_|refine z_F1 (by decide) ?_|refine z_G1 (by decide) ?_)
    refine ylns und9 ?_
    refine ymn ?_
    refine yi_add64 (by omega) ?_
    rw [hm2]
    (repeat with_reducible first|refine z_a ?_|refine z_b ?_|refine z_c ?_|refine z_d ?_|refine z_e ?_|refine z_f ?_|refine z_g ?_|refine z_h ?_|refine z_i ?_|refine z_j ?_|refine z_k ?_|refine z_l ?_|refine z_m (by omega) ?_|refine z_n (by omega) ?_|refine z_o (by omega) ?_|refine z_p (by omega) ?_|refine z_q (by omega) ?_|refine z_r (by omega) ?_|refine z_s (by omega) ?_|refine z_t (by omega) ?_|refine z_u (by omega) ?_|refine z_v (by omega) ?_|refine z_w (by omega) ?_|refine z_x (by omega) ?_|refine z_y (by omega) ?_|refine z_z (by omega) ?_|refine z_A ?_|refine z_B ?_|refine z_C ?_|refine z_D ?_|refine z_E ?_|refine z_F ?_|refine z_G ?_|refine z_H ?_|refine z_I ?_|refine z_J ?_|refine z_K (by omega) (by decide) ?_|refine z_L (by omega) (by decide) ?_|refine z_M (by omega) ?_|refine z_N (by omega) ?_|refine z_O (by omega) ?_|refine z_P ?_|refine z_Q ?_|refine z_R ?_|refine z_S ?_|refine z_T ?_|refine z_U (by decide) ?_|refine z_V (by decide) ?_)
    refine hJ _ _ _ ⟨k + 1, m2, by omega, by simp, rfl, by omega, fun hle x hx => ?_, below_then hb2 hdr⟩ (by simp [intOf]; omega)
    rw [List.take_succ_eq_append_getElem hk'] at hx
    rcases List.mem_append.1 hx with hx | hx
    · exact hall hm' x hx
    · simp only [List.mem_cons, List.not_mem_nil, or_false] at hx
      subst hx
      constructor <;> omega
  have hdone : m ≤ 100000 → ∀ x ∈ ps, x.1.size ≤ 100000 ∧ x.2.1.size ≤ 100000 := fun hle => by
    have hkl : k = ps.length := by omega
    have := hall hle
    rwa [hkl, List.take_length] at this
  clear hJ hall hh
  (repeat with_reducible first|refine z_a ?_|refine z_b ?_|refine z_c ?_|refine z_d ?_|refine z_e ?_|refine z_f ?_|refine z_g ?_|refine z_h ?_|refine z_i ?_|refine z_j ?_|refine z_k ?_|refine z_l ?_|refine z_m (by omega) ?_|refine z_n (by omega) ?_|refine z_o (by omega) ?_|refine z_p (by omega) ?_|refine z_q (by omega) ?_|refine z_r (by omega) ?_|refine z_s (by omega) ?_|refine z_t (by omega) ?_|refine z_u (by omega) ?_|refine z_v (by omega) ?_|refine z_w (by omega) ?_|refine z_x (by omega) ?_|refine z_y (by omega) ?_|refine z_z (by omega) ?_|refine z_A ?_|refine z_B ?_|refine z_C ?_|refine z_D ?_|refine z_E ?_|refine z_F ?_|refine z_G ?_|refine z_H ?_|refine z_I ?_|refine z_J ?_|refine z_K (by omega) (by decide) ?_|refine z_L (by omega) (by decide) ?_|refine z_M (by omega) ?_|refine z_N (by omega) ?_|refine z_O (by omega) ?_|refine z_P ?_|refine z_Q ?_|refine z_R ?_|refine z_S ?_|refine z_T ?_|refine z_U (by decide) ?_|refine z_V (by decide) ?_)
  refine LoopP.inv2 (fun n i w' => ∃ k n' : Nat, k ≤ is.length ∧ i = .int .i64 k ∧ n = .int .i64 n' ∧ m ≤ n' ∧ n' ≤ 500000 + 0 * k ∧ Below w1.heap.size w1 w') (fun _ i _ => is.length - (intOf i).toNat) ⟨0, m, by omega, rfl, rfl, by omega, by omega, hb2⟩ ?_
  rintro _ _ w3 ⟨k3, m3, hk3, rfl, rfl, hle3, hm3, hb3⟩ J hJ
  dsimp only [List.headD_cons, List.tail_cons]
  have hL3 := hL.below' hb3
  have e10 : w3.cell? ⟨w.heap.size, 10, none⟩ = some (.slice A' is.length cA') := hL3.cell 10
  (repeat with_reducible first | refine fd l10 (by decide) ?_| refine ld one56 e10 ?_|refine z_a ?_|refine z_b ?_|refine z_c ?_|refine z_d ?_|refine z_e ?_|refine z_f ?_|refine z_g ?_|refine z_h ?_|refine z_i ?_|refine z_j ?_|refine z_k ?_|refine z_l ?_|refine z_m (by omega) ?_|refine z_n (by omega) ?_|refine z_o (by omega) ?_|refine z_p (by omega) ?_|refine z_q (by omega) ?_|refine z_r (by omega) ?_|refine z_s (by omega) ?_|refine z_t (by omega) ?_|refine z_u (by omega) ?_|refine z_v (by omega) ?_|refine z_w (by omega) ?_|refine z_x (by omega) ?_|refine z_y (by omega) ?_|refine z_z (by omega) ?_|refine z_A ?_|refine z_B ?_|refine z_C ?_|refine z_D ?_|refine z_E ?_|refine z_F ?_|refine z_G ?_|refine z_H ?_|refine z_I ?_|refine z_J ?_|refine z_K (by omega) (by decide) ?_|refine z_L (by omega) (by decide) ?_|refine z_M (by omega) ?_|refine z_N (by omega) ?_|refine z_O (by omega) ?_|refine z_P ?_|refine z_Q ?_|refine z_R ?_|refine z_S ?_|refine z_T ?_|refine z_U (by decide) ?_|refine z_V (by decide) ?_)
  refine ln und56 ?_
  refine segLt ?_
  refine CondP.dec (fun hh => ?_) (fun hh => ?_)
  · have hk' : k3 < is.length := hh.1
    have hm' : m3 ≤ 100000 := hh.2
    obtain ⟨a, us, rfl, hus, hcell, hrd⟩ := rRow.at (keeps_Intents _ _ _ _ (below_then ha hb3) hq) k3 hk'
    obtain ⟨rfl, hz1⟩ := intent_cells hrd
    have k0 : w3.cell? ((a.add (k3 * 3)).add 0) = some (.string is[k3].1) := hcell 0 _ rfl
    obtain ⟨m1, hm1⟩ : ∃ m1 : Nat, (m3 : Int) + min (is[k3].1.size : Int) 100001 = m1 := ⟨((m3 : Int) + min (is[k3].1.size : Int) 100001).toNat, by omega⟩
    (repeat with_reducible first | refine fd l10 (by decide) ?_| refine ld one56 e10 ?_|refine z_a ?_|refine z_b ?_|refine z_c ?_|refine z_d ?_|refine z_e ?_|refine z_f ?_|refine z_g ?_|refine z_h ?_|refine z_i ?_|refine z_j ?_|refine z_k ?_|refine z_l ?_|refine z_m (by omega) ?_|refine z_n (by omega) ?_|refine z_o (by omega) ?_|refine z_p (by omega) ?_|refine z_q (by omega) ?_|refine z_r (by omega) ?_|refine z_s (by omega) ?_|refine z_t (by omega) ?_|refine z_u (by omega) ?_|refine z_v (by omega) ?_|refine z_w (by omega) ?_|refine z_x (by omega) ?_|refine z_y (by omega) ?_|refine z_z (by omega) ?_|refine z_A ?_|refine z_B ?_|refine z_C ?_|refine z_D ?_|refine z_E ?_|refine z_F ?_|refine z_G ?_|refine z_H ?_|refine z_I ?_|refine z_J ?_|refine z_K (by omega) (by decide) ?_|refine z_L (by omega) (by decide) ?_|refine z_M (by omega) ?_|refine z_N (by omega) ?_|refine z_O (by omega) ?_|refine z_P ?_|refine z_Q ?_|refine z_R ?_|refine z_S ?_|refine z_T ?_|refine z_U (by decide) ?_|refine z_V (by decide) ?_)
    refine ix und56 sz68 (by omega) (by omega) ?_
    rw [Int.toNat_natCast]
    refine fdA q0' (by decide) ?_
    (repeat with_reducible first | refine ld one9 k0 ?_|refine z_a ?_|refine z_b ?_|refine z_c ?_|refine z_d ?_|refine z_e ?_|refine z_f ?_|refine z_g ?_|refine z_h ?_|refine z_i ?_|refine z_j ?_|refine z_k ?_|refine z_l ?_|refine z_m (by omega) ?_|refine z_n (by omega) ?_|refine z_o (by omega) ?_|refine z_p (by omega) ?_|refine z_q (by omega) ?_|refine z_r (by omega) ?_|refine z_s (by omega) ?_|refine z_t (by omega) ?_|refine z_u (by omega) ?_|refine z_v (by omega) ?_|refine z_w (by omega) ?_|refine z_x (by omega) ?_|refine z_y (by omega) ?_|refine z_z (by omega) ?_|refine z_A ?_|refine z_B ?_|refine z_C ?_|refine z_D ?_|refine z_E ?_|refine z_F ?_|refine z_G ?_|refine z_H ?_|refine z_I ?_|refine z_J ?_|refine z_K (by omega) (by decide) ?_|refine z_L (by omega) (by decide) ?_|refine z_M (by omega) ?_|refine z_N (by omega) ?_|refine z_O (by omega) ?_|refine z_P ?_|refine z_Q ?_|refine z_R ?_|refine z_S ?_|refine z_T ?_|refine z_U (by decide) ?_|refine z_V (by decide) ?_)
    refine lns und9 ?_
    refine mnI ?_
    refine bi_add64 (by omega) ?_
    rw [hm1]
    (repeat with_reducible first|refine z_a ?_|refine z_b ?_|refine z_c ?_|refine z_d ?_|refine z_e ?_|refine z_f ?_|refine z_g ?_|refine z_h ?_|refine z_i ?_|refine z_j ?_|refine z_k ?_|refine z_l ?_|refine z_m (by omega) ?_|refine z_n (by omega) ?_|refine z_o (by omega) ?_|refine z_p (by omega) ?_|refine z_q (by omega) ?_|refine z_r (by omega) ?_|refine z_s (by omega) ?_|refine z_t (by omega) ?_|refine z_u (by omega) ?_|refine z_v (by omega) ?_|refine z_w (by omega) ?_|refine z_x (by omega) ?_|refine z_y (by omega) ?_|refine z_z (by omega) ?_|refine z_A ?_|refine z_B ?_|refine z_C ?_|refine z_D ?_|refine z_E ?_|refine z_F ?_|refine z_G ?_|refine z_H ?_|refine z_I ?_|refine z_J ?_|refine z_K (by omega) (by decide) ?_|refine z_L (by omega) (by decide) ?_|refine z_M (by omega) ?_|refine z_N (by omega) ?_|refine z_O (by omega) ?_|refine z_P ?_|refine z_Q ?_|refine z_R ?_|refine z_S ?_|refine z_T ?_|refine z_U (by decide) ?_|refine z_V (by decide) ?_)
    exact hJ _ _ _ ⟨k3 + 1, m1, by omega, by simp, rfl, by omega, by omega, hb3⟩ (by simp [intOf]; omega)
  · (repeat with_reducible first|refine z_a ?_|refine z_b ?_|refine z_c ?_|refine z_d ?_|refine z_e ?_|refine z_f ?_|refine z_g ?_|refine z_h ?_|refine z_i ?_|refine z_j ?_|refine z_k ?_|refine z_l ?_|refine z_m (by omega) ?_|refine z_n (by omega) ?_|refine z_o (by omega) ?_|refine z_p (by omega) ?_|refine z_q (by omega) ?_|refine z_r (by omega) ?_|refine z_s (by omega) ?_|refine z_t (by omega) ?_|refine z_u (by omega) ?_|refine z_v (by omega) ?_|refine z_w (by omega) ?_|refine z_x (by omega) ?_|refine z_y (by omega) ?_|refine z_z (by omega) ?_|refine z_A ?_|refine z_B ?_|refine z_C ?_|refine z_D ?_|refine z_E ?_|refine z_F ?_|refine z_G ?_|refine z_H ?_|refine z_I ?_|refine z_J ?_|refine z_K (by omega) (by decide) ?_|refine z_L (by omega) (by decide) ?_|refine z_M (by omega) ?_|refine z_N (by omega) ?_|refine z_O (by omega) ?_|refine z_P ?_|refine z_Q ?_|refine z_R ?_|refine z_S ?_|refine z_T ?_|refine z_U (by decide) ?_|refine z_V (by decide) ?_)
    refine bi_leq ?_
    refine ⟨_, rfl, fun hb => ?_, below_then ha hb3⟩
    simp only [decide_eq_true_eq] at hb
    exact ⟨by omega, by omega, hdone (by omega)⟩
end Go.Proofs.Ythicbfopjakiiaa.E
namespace Go.Proofs.Ythicbfopjakiiaa.E
open Go
set_option maxRecDepth 100000

/-- shelfmark/shelfmarklaw14.NetPlays -/
def S8 (a0 : Value) (R : Value → World → Prop) (w : World) : Prop :=
  CallP Try.prog 28 #[] (fun v24 w =>
  LiftP Try.prog (Op.unary Go.UnOp.not v24) (fun v25 w =>
  CondP v25 (fun w =>
    R (Go.Value.bool false) w) (fun w =>
    NextP Try.prog (builtin Go.Builtin.len #[70] 3 #[false] #[a0]) (fun v27 w =>
  LiftP Try.prog (binS Go.BinOp.gtr 3 (Go.Operand.tmp 27) (Go.Operand.const (Go.Value.int Go.IntKind.i64 100)) v27 (Go.Value.int Go.IntKind.i64 100)) (fun v28 w =>
  CondP v28 (fun w =>
    R (Go.Value.bool true) w) (fun w =>
    CallP Try.prog 29 #[] (fun v29 w =>
  LiftP Try.prog (Instr.build 74 #[]) (fun v30 w =>
  LiftP Try.prog (Instr.box 74 v30) (fun v31 w =>
  LoopP (fun J vs w =>   -- [5]
    NextP Try.prog (builtin Go.Builtin.len #[70] 3 #[false] #[a0]) (fun v34 w =>
    LiftP Try.prog (binS Go.BinOp.lss 3 (Go.Operand.tmp 32) (Go.Operand.tmp 34) (vs.headD undef) v34) (fun v35 w =>
    CondP v35 (fun w =>
      LiftP Try.prog (Instr.indexAt 70 a0 (vs.headD undef)) (fun v40 w =>
    LiftP Try.prog (Instr.loadAt 76 v40) (fun v41 w =>
    LiftP Try.prog (Instr.alloc 76 true (.tuple #[])) (fun v6 w =>
    LiftU Try.prog (Instr.storeAt 76 v6 v41) (fun v_ w =>
    LiftP Try.prog (Instr.fieldAt 76 v6 1) (fun v42 w =>
    LiftP Try.prog (Instr.loadAt 58 v42) (fun v43 w =>
    CallP Try.prog 34 #[v43] (fun v44 w =>
    LiftP Try.prog (Op.unary Go.UnOp.not v44) (fun v45 w =>
    CondP v45 (fun w =>
      R (Go.Value.bool true) w) (fun w =>
      JoinP (fun J_1 w =>
      LiftP Try.prog (Instr.fieldAt 76 v6 0) (fun v46 w =>
      LiftP Try.prog (Instr.loadAt 3 v46) (fun v47 w =>
      LiftP Try.prog (binS Go.BinOp.eql 3 (Go.Operand.tmp 47) (Go.Operand.const (Go.Value.int Go.IntKind.i64 1)) v47 (Go.Value.int Go.IntKind.i64 1)) (fun v49 w =>
      CondP v49 (fun w =>
        LiftP Try.prog (Instr.fieldAt 76 v6 1) (fun v52 w =>
        LiftP Try.prog (Instr.loadAt 58 v52) (fun v53 w =>
        CallP Try.prog 30 #[v29, v53] (fun v54 w =>
        LiftP Try.prog (Instr.extract v54 0) (fun v55 w =>
        LiftP Try.prog (Instr.extract v54 1) (fun v56 w =>
        LiftP Try.prog (Instr.fieldAt 76 v6 1) (fun v59 w =>
        LiftP Try.prog (Instr.loadAt 58 v59) (fun v60 w =>
        CallP Try.prog 37 #[v31, v60] (fun v61 w =>
        LiftP Try.prog (Instr.extract v61 0) (fun v62 w =>
        LiftP Try.prog (Instr.extract v61 1) (fun v63 w =>
        LiftP Try.prog (binS Go.BinOp.neq 3 (Go.Operand.tmp 64) (Go.Operand.tmp 65) v55 v62) (fun v66 w =>
        GuardP v66 false (fun K w => K v56 w) (fun v68 w =>
        GuardP v66 false (fun K w => K v63 w) (fun v69 w =>
        GuardP v66 false (fun K w => LiftP Try.prog (binS Go.BinOp.neq 25 (Go.Operand.tmp 68) (Go.Operand.tmp 69) v68 v69) K w) (fun v70 w =>
        PickP v66 (Go.Value.bool true) v70 (fun v71 w =>
        CondP v71 (fun w =>
          R (Go.Value.bool false) w) (fun w =>
          J_1 [] w) w) w) w) w) w) w) w) w) w) w) w) w) w) w) w) w) (fun w =>
        LiftP Try.prog (binS Go.BinOp.eql 3 (Go.Operand.tmp 47) (Go.Operand.const (Go.Value.int Go.IntKind.i64 2)) v47 (Go.Value.int Go.IntKind.i64 2)) (fun v73 w =>
        CondP v73 (fun w =>
          LiftP Try.prog (Instr.fieldAt 76 v6 2) (fun v76 w =>
          LiftP Try.prog (Instr.loadAt 3 v76) (fun v77 w =>
          CallP Try.prog 33 #[v29, v77] (fun v78 w =>
          LiftP Try.prog (Instr.extract v78 0) (fun v79 w =>
          LiftP Try.prog (Instr.extract v78 1) (fun v80 w =>
          LiftP Try.prog (Instr.alloc 58 true (.tuple #[])) (fun v11 w =>
          LiftU Try.prog (Instr.storeAt 58 v11 v79) (fun v__1 w =>
          LiftP Try.prog (Instr.fieldAt 76 v6 2) (fun v83 w =>
          LiftP Try.prog (Instr.loadAt 3 v83) (fun v84 w =>
          CallP Try.prog 38 #[v31, v84] (fun v85 w =>
          LiftP Try.prog (Instr.extract v85 0) (fun v86 w =>
          LiftP Try.prog (Instr.extract v85 1) (fun v87 w =>
          LiftP Try.prog (Instr.alloc 58 true (.tuple #[])) (fun v13 w =>
          LiftU Try.prog (Instr.storeAt 58 v13 v86) (fun v__2 w =>
          LiftP Try.prog (Instr.loadAt 58 v11) (fun v88 w =>
          LiftP Try.prog (Instr.loadAt 58 v13) (fun v89 w =>
          CallP Try.prog 36 #[v88, v89] (fun v90 w =>
          LiftP Try.prog (Op.unary Go.UnOp.not v90) (fun v91 w =>
          GuardP v91 false (fun K w => K v80 w) (fun v93 w =>
          GuardP v91 false (fun K w => K v87 w) (fun v94 w =>
          GuardP v91 false (fun K w => LiftP Try.prog (binS Go.BinOp.neq 25 (Go.Operand.tmp 93) (Go.Operand.tmp 94) v93 v94) K w) (fun v95 w =>
          PickP v91 (Go.Value.bool true) v95 (fun v96 w =>
          CondP v96 (fun w =>
            R (Go.Value.bool false) w) (fun w =>
            J_1 [] w) w) w) w) w) w) w) w) w) w) w) w) w) w) w) w) w) w) w) w) w) w) w) w) (fun w =>
          LiftP Try.prog (binS Go.BinOp.eql 3 (Go.Operand.tmp 47) (Go.Operand.const (Go.Value.int Go.IntKind.i64 3)) v47 (Go.Value.int Go.IntKind.i64 3)) (fun v98 w =>
          CondP v98 (fun w =>
            LiftP Try.prog (Instr.fieldAt 76 v6 2) (fun v101 w =>
            LiftP Try.prog (Instr.loadAt 3 v101) (fun v102 w =>
            CallP Try.prog 38 #[v31, v102] (fun v103 w =>
            LiftP Try.prog (Instr.extract v103 0) (fun v104 w =>
            LiftP Try.prog (Instr.extract v103 1) (fun v105 w =>
            LiftP Try.prog (Instr.alloc 58 true (.tuple #[])) (fun v15 w =>
            LiftU Try.prog (Instr.storeAt 58 v15 v104) (fun v__3 w =>
            LiftP Try.prog (Instr.fieldAt 76 v6 2) (fun v107 w =>
            LiftP Try.prog (Instr.loadAt 3 v107) (fun v108 w =>
            CallP Try.prog 39 #[v29, v108] (fun v109 w =>
            LiftP Try.prog (binS Go.BinOp.neq 25 (Go.Operand.tmp 109) (Go.Operand.tmp 110) v109 v105) (fun v111 w =>
            CondP v111 (fun w =>
              R (Go.Value.bool false) w) (fun w =>
              J_1 [] w) w) w) w) w) w) w) w) w) w) w) w) w) (fun w =>
            LiftP Try.prog (binS Go.BinOp.eql 3 (Go.Operand.tmp 47) (Go.Operand.const (Go.Value.int Go.IntKind.i64 4)) v47 (Go.Value.int Go.IntKind.i64 4)) (fun v113 w =>
            CondP v113 (fun w =>
              LiftP Try.prog (Instr.fieldAt 76 v6 2) (fun v116 w =>
              LiftP Try.prog (Instr.loadAt 3 v116) (fun v117 w =>
              CallP Try.prog 31 #[v29, v117] (fun v118 w =>
              LiftP Try.prog (Instr.extract v118 0) (fun v119 w =>
              LiftP Try.prog (Instr.extract v118 1) (fun v120 w =>
              LiftP Try.prog (Instr.fieldAt 76 v6 2) (fun v123 w =>
              LiftP Try.prog (Instr.loadAt 3 v123) (fun v124 w =>
              CallP Try.prog 40 #[v31, v124] (fun v125 w =>
              LiftP Try.prog (Instr.extract v125 0) (fun v126 w =>
              LiftP Try.prog (Instr.extract v125 1) (fun v127 w =>
              LiftP Try.prog (binS Go.BinOp.neq 3 (Go.Operand.tmp 128) (Go.Operand.tmp 129) v119 v126) (fun v130 w =>
              GuardP v130 false (fun K w => K v120 w) (fun v132 w =>
              GuardP v130 false (fun K w => K v127 w) (fun v133 w =>
              GuardP v130 false (fun K w => LiftP Try.prog (binS Go.BinOp.neq 25 (Go.Operand.tmp 132) (Go.Operand.tmp 133) v132 v133) K w) (fun v134 w =>
              PickP v130 (Go.Value.bool true) v134 (fun v135 w =>
              CondP v135 (fun w =>
                R (Go.Value.bool false) w) (fun w =>
                J_1 [] w) w) w) w) w) w) w) w) w) w) w) w) w) w) w) w) w) (fun w =>
              LiftP Try.prog (binS Go.BinOp.eql 3 (Go.Operand.tmp 47) (Go.Operand.const (Go.Value.int Go.IntKind.i64 5)) v47 (Go.Value.int Go.IntKind.i64 5)) (fun v137 w =>
              CondP v137 (fun w =>
                LiftP Try.prog (Instr.fieldAt 76 v6 2) (fun v140 w =>
                LiftP Try.prog (Instr.loadAt 3 v140) (fun v141 w =>
                CallP Try.prog 35 #[v29, v141] (fun v142 w =>
                LiftP Try.prog (Instr.extract v142 0) (fun v143 w =>
                LiftP Try.prog (Instr.extract v142 1) (fun v144 w =>
                LiftP Try.prog (Instr.alloc 58 true (.tuple #[])) (fun v21 w =>
                LiftU Try.prog (Instr.storeAt 58 v21 v143) (fun v__4 w =>
                LiftP Try.prog (Instr.fieldAt 76 v6 2) (fun v146 w =>
                LiftP Try.prog (Instr.loadAt 3 v146) (fun v147 w =>
                CallP Try.prog 41 #[v31, v147] (fun v148 w =>
                DrawP (fun S w =>
                YieldP Try.prog S (binS Go.BinOp.geq 3 (Go.Operand.tmp 150) (Go.Operand.const (Go.Value.int Go.IntKind.i64 0)) v148 (Go.Value.int Go.IntKind.i64 0)) (fun v151 w =>
                YieldP Try.prog S (binS Go.BinOp.neq 4 (Go.Operand.tmp 149) (Go.Operand.tmp 151) v144 v151) (fun v152 w =>
                GuardP v152 false (fun K w => K v144 w) (fun v154 w =>
                GuardP v152 false (fun K w => K v154 w) (fun v155 w =>
                GuardP v155 true (fun K w => YieldP Try.prog S (Instr.loadAt 58 v21) K w) (fun v156 w =>
                GuardP v155 true (fun K w => K v31 w) (fun v157 w =>
                GuardP v155 true (fun K w => YieldN Try.prog S (nilChk v157) K w) (fun v158 w =>
                GuardP v155 true (fun K w => YieldP Try.prog S (Instr.fieldAt 74 v158 0) K w) (fun v159 w =>
                GuardP v155 true (fun K w => YieldP Try.prog S (Instr.loadAt 72 v159) K w) (fun v160 w =>
                GuardP v155 true (fun K w => K v148 w) (fun v161 w =>
                GuardP v155 true (fun K w => YieldP Try.prog S (Instr.indexAt 72 v160 v161) K w) (fun v162 w =>
                GuardP v155 true (fun K w => YieldP Try.prog S (Instr.fieldAt 79 v162 1) K w) (fun v163 w =>
                GuardP v155 true (fun K w => YieldP Try.prog S (Instr.loadAt 58 v163) K w) (fun v164 w =>
                GuardA v155 true S (fun K w => CallP Try.prog 36 #[v156, v164] K w) (fun S v165 w =>
                GuardP v155 true (fun K w => YieldP Try.prog S (Op.unary Go.UnOp.not v165) K w) (fun v166 w =>
                GuardP v152 false (fun K w => PickP v155 v166 (Go.Value.bool false) K w) (fun v167 w =>
                PickP v152 (Go.Value.bool true) v167 (fun v168 w =>
                GuardP v168 false (fun K w => K v144 w) (fun v170 w =>
                GuardP v168 false (fun K w => YieldP Try.prog S (Op.unary Go.UnOp.not v170) K w) (fun v171 w =>
                GuardP v168 false (fun K w => K v171 w) (fun v172 w =>
                GuardP v172 true (fun K w => YieldP Try.prog S (Instr.loadAt 58 v21) K w) (fun v173 w =>
                GuardA v172 true S (fun K w => LiftP Try.prog (Instr.build 58 #[]) K w) (fun S v174 w =>
                GuardA v172 true S (fun K w => CallP Try.prog 36 #[v173, v174] K w) (fun S v175 w =>
                GuardP v172 true (fun K w => YieldP Try.prog S (Op.unary Go.UnOp.not v175) K w) (fun v176 w =>
                GuardP v168 false (fun K w => PickP v172 v176 (Go.Value.bool false) K w) (fun v177 w =>
                PickP v168 (Go.Value.bool true) v177 (fun v178 w =>
                CondP v178 (fun w =>
                  R (Go.Value.bool false) w) (fun w =>
                  J_1 [] w) w) w) w) w) w) w) w) w) w) w) w) w) w) w) w) w) w) w) w) w) w) w) w) w) w) w) w) w) w) w) w) w) w) w) w) w) w) w) (fun w =>
                J_1 [] w) w) w) w) w) w) w) w) w) w) w) w) w) (fun vs_1 w =>   -- []
    DrawP (fun S w =>
    ActP S (fun K w => CallP Try.prog 43 #[v29] K w) (fun S v180 w =>
    ActP S (fun K w => CallP Try.prog 44 #[v31] K w) (fun S v182 w =>
    ActP S (fun K w => CallP Try.prog 42 #[v180, v182] K w) (fun S v183 w =>
    YieldP Try.prog S (Op.unary Go.UnOp.not v183) (fun v184 w =>
    GuardP v184 false (fun K w => K v29 w) (fun v186 w =>
    GuardP v184 false (fun K w => K v31 w) (fun v188 w =>
    GuardP v184 false (fun K w => YieldN Try.prog S (nilChk v188) K w) (fun v189 w =>
    GuardP v184 false (fun K w => YieldP Try.prog S (Instr.fieldAt 74 v189 0) K w) (fun v190 w =>
    GuardP v184 false (fun K w => YieldP Try.prog S (Instr.loadAt 72 v190) K w) (fun v191 w =>
    GuardP v184 false (fun K w => YieldN Try.prog S (builtin Go.Builtin.len #[72] 3 #[false] #[v191]) K w) (fun v192 w =>
    GuardA v184 false S (fun K w => CallP Try.prog 32 #[v186] K w) (fun S v187 w =>
    GuardP v184 false (fun K w => YieldP Try.prog S (binS Go.BinOp.neq 3 (Go.Operand.tmp 187) (Go.Operand.tmp 192) v187 v192) K w) (fun v193 w =>
    PickP v184 (Go.Value.bool true) v193 (fun v194 w =>
    CondP v194 (fun w =>
      R (Go.Value.bool false) w) (fun w =>
      LiftP Try.prog (binS Go.BinOp.add 3 (Go.Operand.tmp 36) (Go.Operand.const (Go.Value.int Go.IntKind.i64 1)) (vs.headD undef) (Go.Value.int Go.IntKind.i64 1)) (fun v37 w =>
    J [v37] w) w) w) w) w) w) w) w) w) w) w) w) w) w) w) w) w) w) w) w) w) w) w) w) w) w) w) (fun w =>
      R (Go.Value.bool true) w) w) w) w) [(Go.Value.int Go.IntKind.i64 0)] w) w) w) w) w) w) w) w) w) w
theorem S8.calls (a0 : Value) (R : Value → World → Prop) (w : World) (h : S8 a0 R w) : Calls Try.prog 8 #[a0] w fun e w' => ∃ v, e = .returned v ∧ R v w' :=
  calls_of_tr (n := 195) (c := bodyOf Try.f8) (.two .leaf (.two (.two .leaf (.two (.two .leaf .leaf) .leaf)) (.two (.two .leaf (.two (.two .leaf .leaf) .leaf)) (.two .leaf (.two (.two .leaf (.one (.loop [5] (.two (.two .leaf (.two .leaf .leaf)) (.two (.one (.two .leaf (.two (.two .leaf (.two (.two .leaf .leaf) .leaf)) (.join [] (.two .leaf (.one (.two .leaf (.two (.two .leaf (.two .leaf (.two .leaf (.two (.two .leaf .leaf) .leaf)))) (.two .leaf (.two (.two .leaf (.two .leaf (.two .leaf (.two (.two .leaf .leaf) .leaf)))) (.two .leaf (.two (.two .leaf (.two .leaf (.two (.two .leaf .leaf) .leaf))) (.two .leaf (.two (.two .leaf (.two .leaf (.two .leaf (.two (.two .leaf .leaf) .leaf)))) (.two .leaf (.two (.two .leaf (.two .leaf (.two (.draw [(true, 0), (true, 1), (true, 2), (true, 3), (true, 4), (true, 5), (true, 6), (true, 7), (true, 8), (true, 9), (true, 10), (true, 11), (true, 12), (true, 13), (true, 14), (true, 15), (false, 16), (true, 17), (true, 18), (true, 19), (true, 20), (true, 21), (true, 22), (true, 23), (true, 24), (false, 25), (false, 26), (true, 27), (true, 28), (true, 29)]) (.two (.two .leaf .leaf) .leaf)))) .leaf)))))))))))) (.two (.draw [(true, 0), (true, 2), (false, 1), (false, 3), (false, 4), (true, 5), (true, 6), (true, 7), (true, 9), (true, 10), (true, 11), (true, 12), (true, 13), (false, 8), (true, 14), (true, 15)]) (.two (.two .leaf .leaf) .leaf)))))) .leaf))))) (.two .leaf .leaf)))))) Try.func8 (by kernel_rfl) Try.ntmps8 (by kernel_rfl) (by kernel_rfl) [a0] (by kernel_rfl) (of_eq_ (by kernel_rfl) h)

/-- (*shelfmark/shelfmarkref14.Net).Send -/
def S37 (a0 a1 : Value) (R : Value → World → Prop) (w : World) : Prop :=
  LiftP Try.prog (Instr.box 58 a1) (fun v3 w =>
  LiftP Try.prog (Instr.loadAt 58 v3) (fun v9 w =>
  CallP Try.prog 64 #[v9] (fun v10 w =>
  LiftP Try.prog (Instr.extract v10 0) (fun v11 w =>
  LiftP Try.prog (Instr.extract v10 1) (fun v12 w =>
  LiftP Try.prog (binS Go.BinOp.neq 25 (Go.Operand.tmp 13) (Go.Operand.const (Go.Value.int Go.IntKind.i64 0)) v12 (Go.Value.int Go.IntKind.i64 0)) (fun v14 w =>
  CondP v14 (fun w =>
    R (.tuple #[(Go.Value.int Go.IntKind.i64 0), v12]) w) (fun w =>
    LiftP Try.prog (Instr.loadAt 58 v3) (fun v17 w =>
  CallP Try.prog 65 #[a0, v17] (fun v18 w =>
  LiftP Try.prog (Instr.extract v18 0) (fun v19 w =>
  LiftP Try.prog (Instr.extract v18 1) (fun v20 w =>
  R (.tuple #[v19, v20]) w) w) w) w) w) w) w) w) w) w) w) w
theorem S37.calls (a0 a1 : Value) (R : Value → World → Prop) (w : World) (h : S37 a0 a1 R w) : Calls Try.prog 37 #[a0, a1] w fun e w' => ∃ v, e = .returned v ∧ R v w' :=
  calls_of_tr (n := 21) (c := bodyOf Try.f37) (.two .leaf (.two (.two .leaf (.two .leaf (.two (.two .leaf .leaf) .leaf))) (.two .leaf .leaf))) Try.func37 (by kernel_rfl) Try.ntmps37 (by kernel_rfl) (by kernel_rfl) [a0, a1] (by kernel_rfl) (of_eq_ (by kernel_rfl) h)

/-- (*shelfmark/shelfmarkref14.Net).Deliver -/
def S38 (a0 a1 : Value) (R : Value → World → Prop) (w : World) : Prop :=
  LiftP Try.prog (Instr.alloc 58 true (.tuple #[])) (fun v4 w =>
  CallP Try.prog 41 #[a0, a1] (fun v11 w =>
  LiftP Try.prog (binS Go.BinOp.lss 3 (Go.Operand.tmp 12) (Go.Operand.const (Go.Value.int Go.IntKind.i64 0)) v11 (Go.Value.int Go.IntKind.i64 0)) (fun v13 w =>
  CondP v13 (fun w =>
    LiftP Try.prog (Instr.build 58 #[]) (fun v14 w =>
    LiftU Try.prog (Instr.storeAt 58 v4 v14) (fun v_ w =>
    RetC Try.prog v4 58 (fun x => R (.tuple #[x, (Go.Value.int Go.IntKind.i64 7)]) w) w) w) w) (fun w =>
    NextP Try.prog (nilChk a0) (fun v16 w =>
  LiftP Try.prog (Instr.fieldAt 74 v16 0) (fun v17 w =>
  LiftP Try.prog (Instr.loadAt 72 v17) (fun v18 w =>
  LiftP Try.prog (Instr.indexAt 72 v18 v11) (fun v20 w =>
  LiftP Try.prog (Instr.fieldAt 79 v20 1) (fun v21 w =>
  LiftP Try.prog (Instr.loadAt 58 v21) (fun v22 w =>
  LiftP Try.prog (Instr.alloc 58 true (.tuple #[])) (fun v7 w =>
  LiftU Try.prog (Instr.storeAt 58 v7 v22) (fun v__1 w =>
  NextP Try.prog (nilChk a0) (fun v25 w =>
  LiftP Try.prog (Instr.fieldAt 74 v25 0) (fun v26 w =>
  LiftP Try.prog (Instr.loadAt 72 v26) (fun v27 w =>
  LiftP Try.prog (Instr.sliceAt 72 v27 none (some v11) none) (fun v29 w =>
  NextP Try.prog (builtin Go.Builtin.append #[72, 72] 72 #[false, false] #[(Go.Value.slice none 0 0), v29]) (fun v30 w =>
  NextP Try.prog (nilChk a0) (fun v34 w =>
  LiftP Try.prog (Instr.fieldAt 74 v34 0) (fun v35 w =>
  LiftP Try.prog (Instr.loadAt 72 v35) (fun v36 w =>
  LiftP Try.prog (binS Go.BinOp.add 3 (Go.Operand.tmp 37) (Go.Operand.const (Go.Value.int Go.IntKind.i64 1)) v11 (Go.Value.int Go.IntKind.i64 1)) (fun v38 w =>
  LiftP Try.prog (Instr.sliceAt 72 v36 (some v38) none none) (fun v39 w =>
  NextP Try.prog (builtin Go.Builtin.append #[72, 72] 72 #[false, false] #[v30, v39]) (fun v40 w =>
  NextP Try.prog (nilChk a0) (fun v41 w =>
  LiftP Try.prog (Instr.fieldAt 74 v41 0) (fun v42 w =>
  LiftU Try.prog (Instr.storeAt 72 v42 v40) (fun v__2 w =>
  LiftP Try.prog (Instr.loadAt 58 v7) (fun v43 w =>
  LiftU Try.prog (Instr.storeAt 58 v4 v43) (fun v__3 w =>
  RetC Try.prog v4 58 (fun x_1 => R (.tuple #[x_1, (Go.Value.int Go.IntKind.i64 0)]) w) w) w) w) w) w) w) w) w) w) w) w) w) w) w) w) w) w) w) w) w) w) w) w) w) w) w) w) w) w
theorem S38.calls (a0 a1 : Value) (R : Value → World → Prop) (w : World) (h : S38 a0 a1 R w) : Calls Try.prog 38 #[a0, a1] w fun e w' => ∃ v, e = .returned v ∧ R v w' :=
  calls_of_tr (n := 44) (c := bodyOf Try.f38) (.two .leaf (.two .leaf (.two (.two .leaf (.two (.two .leaf .leaf) .leaf)) (.two .leaf (.two .leaf (.two .leaf (.two .leaf (.two .leaf .leaf)))))))) Try.func38 (by kernel_rfl) Try.ntmps38 (by kernel_rfl) (by kernel_rfl) [a0, a1] (by kernel_rfl) (of_eq_ (by kernel_rfl) h)

/-- (*shelfmark/shelfmarkref14.Net).Twice -/
def S40 (a0 a1 : Value) (R : Value → World → Prop) (w : World) : Prop :=
  CallP Try.prog 41 #[a0, a1] (fun v9 w =>
  LiftP Try.prog (binS Go.BinOp.lss 3 (Go.Operand.tmp 10) (Go.Operand.const (Go.Value.int Go.IntKind.i64 0)) v9 (Go.Value.int Go.IntKind.i64 0)) (fun v11 w =>
  CondP v11 (fun w =>
    R (.tuple #[(Go.Value.int Go.IntKind.i64 0), (Go.Value.int Go.IntKind.i64 7)]) w) (fun w =>
    NextP Try.prog (nilChk a0) (fun v14 w =>
  LiftP Try.prog (Instr.fieldAt 74 v14 0) (fun v15 w =>
  LiftP Try.prog (Instr.loadAt 72 v15) (fun v16 w =>
  LiftP Try.prog (Instr.indexAt 72 v16 v9) (fun v18 w =>
  LiftP Try.prog (Instr.fieldAt 79 v18 1) (fun v19 w =>
  LiftP Try.prog (Instr.loadAt 58 v19) (fun v20 w =>
  CallP Try.prog 65 #[a0, v20] (fun v21 w =>
  LiftP Try.prog (Instr.extract v21 0) (fun v22 w =>
  LiftP Try.prog (Instr.extract v21 1) (fun v23 w =>
  R (.tuple #[v22, v23]) w) w) w) w) w) w) w) w) w) w) w) w) w
theorem S40.calls (a0 a1 : Value) (R : Value → World → Prop) (w : World) (h : S40 a0 a1 R w) : Calls Try.prog 40 #[a0, a1] w fun e w' => ∃ v, e = .returned v ∧ R v w' :=
  calls_of_tr (n := 24) (c := bodyOf Try.f40) (.two .leaf (.two .leaf (.two (.two .leaf (.two (.two .leaf .leaf) .leaf)) (.two .leaf .leaf)))) Try.func40 (by kernel_rfl) Try.ntmps40 (by kernel_rfl) (by kernel_rfl) [a0, a1] (by kernel_rfl) (of_eq_ (by kernel_rfl) h)

/-- (*shelfmark/shelfmarkref14.Net).At -/
def S41 (a0 a1 : Value) (R : Value → World → Prop) (w : World) : Prop :=
  LoopP (fun J vs w =>   -- [5]
    NextP Try.prog (nilChk a0) (fun v8 w =>
    LiftP Try.prog (Instr.fieldAt 74 v8 0) (fun v9 w =>
    LiftP Try.prog (Instr.loadAt 72 v9) (fun v10 w =>
    NextP Try.prog (builtin Go.Builtin.len #[72] 3 #[false] #[v10]) (fun v11 w =>
    LiftP Try.prog (binS Go.BinOp.lss 3 (Go.Operand.tmp 6) (Go.Operand.tmp 11) (vs.headD undef) v11) (fun v12 w =>
    CondP v12 (fun w =>
      NextP Try.prog (nilChk a0) (fun v16 w =>
    LiftP Try.prog (Instr.fieldAt 74 v16 0) (fun v17 w =>
    LiftP Try.prog (Instr.loadAt 72 v17) (fun v18 w =>
    LiftP Try.prog (Instr.indexAt 72 v18 (vs.headD undef)) (fun v20 w =>
    LiftP Try.prog (Instr.fieldAt 79 v20 0) (fun v21 w =>
    LiftP Try.prog (Instr.loadAt 3 v21) (fun v22 w =>
    LiftP Try.prog (binS Go.BinOp.eql 3 (Go.Operand.tmp 22) (Go.Operand.tmp 23) v22 a1) (fun v24 w =>
    CondP v24 (fun w =>
      R (vs.headD undef) w) (fun w =>
      LiftP Try.prog (binS Go.BinOp.add 3 (Go.Operand.tmp 13) (Go.Operand.const (Go.Value.int Go.IntKind.i64 1)) (vs.headD undef) (Go.Value.int Go.IntKind.i64 1)) (fun v14 w =>
    J [v14] w) w) w) w) w) w) w) w) w) w) (fun w =>
      R (Go.Value.int Go.IntKind.i64 (-1)) w) w) w) w) w) w) w) [(Go.Value.int Go.IntKind.i64 0)] w
theorem S41.calls (a0 a1 : Value) (R : Value → World → Prop) (w : World) (h : S41 a0 a1 R w) : Calls Try.prog 41 #[a0, a1] w fun e w' => ∃ v, e = .returned v ∧ R v w' :=
  calls_of_tr (n := 26) (c := bodyOf Try.f41) (.two .leaf (.two (.two .leaf (.one (.loop [5] (.two (.two .leaf (.two .leaf .leaf)) (.two (.one (.two .leaf (.two (.two .leaf .leaf) .leaf))) .leaf))))) (.two .leaf .leaf))) Try.func41 (by kernel_rfl) Try.ntmps41 (by kernel_rfl) (by kernel_rfl) [a0, a1] (by kernel_rfl) (of_eq_ (by kernel_rfl) h)

/-- shelfmark/shelfmarkref14.SameInts -/
def S42 (a0 a1 : Value) (R : Value → World → Prop) (w : World) : Prop :=
  NextP Try.prog (builtin Go.Builtin.len #[81] 3 #[false] #[a0]) (fun v7 w =>
  NextP Try.prog (builtin Go.Builtin.len #[81] 3 #[false] #[a1]) (fun v9 w =>
  LiftP Try.prog (binS Go.BinOp.neq 3 (Go.Operand.tmp 7) (Go.Operand.tmp 9) v7 v9) (fun v10 w =>
  CondP v10 (fun w =>
    R (Go.Value.bool false) w) (fun w =>
    LoopP (fun J vs w =>   -- [5]
    NextP Try.prog (builtin Go.Builtin.len #[81] 3 #[false] #[a0]) (fun v13 w =>
    LiftP Try.prog (binS Go.BinOp.lss 3 (Go.Operand.tmp 11) (Go.Operand.tmp 13) (vs.headD undef) v13) (fun v14 w =>
    CondP v14 (fun w =>
      DrawP (fun S w =>
    YieldP Try.prog S (Instr.indexAt 81 a0 (vs.headD undef)) (fun v19 w =>
    YieldP Try.prog S (Instr.loadAt 3 v19) (fun v20 w =>
    YieldP Try.prog S (Instr.indexAt 81 a1 (vs.headD undef)) (fun v23 w =>
    YieldP Try.prog S (Instr.loadAt 3 v23) (fun v24 w =>
    YieldP Try.prog S (binS Go.BinOp.neq 3 (Go.Operand.tmp 20) (Go.Operand.tmp 24) v20 v24) (fun v25 w =>
    CondP v25 (fun w =>
      R (Go.Value.bool false) w) (fun w =>
      LiftP Try.prog (binS Go.BinOp.add 3 (Go.Operand.tmp 15) (Go.Operand.const (Go.Value.int Go.IntKind.i64 1)) (vs.headD undef) (Go.Value.int Go.IntKind.i64 1)) (fun v16 w =>
    J [v16] w) w) w) w) w) w) w) w) w) (fun w =>
      R (Go.Value.bool true) w) w) w) w) [(Go.Value.int Go.IntKind.i64 0)] w) w) w) w) w
theorem S42.calls (a0 a1 : Value) (R : Value → World → Prop) (w : World) (h : S42 a0 a1 R w) : Calls Try.prog 42 #[a0, a1] w fun e w' => ∃ v, e = .returned v ∧ R v w' :=
  calls_of_tr (n := 26) (c := bodyOf Try.f42) (.two .leaf (.two (.two .leaf (.two (.two .leaf .leaf) .leaf)) (.two (.two .leaf (.one (.loop [5] (.two (.two .leaf (.two .leaf .leaf)) (.two (.one (.two (.draw [(true, 0), (true, 1), (true, 2), (true, 3), (true, 4), (true, 5), (true, 6), (true, 7), (true, 8)]) (.two (.two .leaf .leaf) .leaf))) .leaf))))) (.two .leaf .leaf)))) Try.func42 (by kernel_rfl) Try.ntmps42 (by kernel_rfl) (by kernel_rfl) [a0, a1] (by kernel_rfl) (of_eq_ (by kernel_rfl) h)

/-- (*shelfmark/shelfmarkref14.Net).Under -/
def S44 (a0 : Value) (R : Value → World → Prop) (w : World) : Prop :=
  LoopP (fun J vs w =>   -- [3, 4]
    NextP Try.prog (nilChk a0) (fun v7 w =>
    LiftP Try.prog (Instr.fieldAt 74 v7 0) (fun v8 w =>
    LiftP Try.prog (Instr.loadAt 72 v8) (fun v9 w =>
    NextP Try.prog (builtin Go.Builtin.len #[72] 3 #[false] #[v9]) (fun v10 w =>
    LiftP Try.prog (binS Go.BinOp.lss 3 (Go.Operand.tmp 5) (Go.Operand.tmp 10) (vs.tail.headD undef) v10) (fun v11 w =>
    CondP v11 (fun w =>
      NextP Try.prog (nilChk a0) (fun v16 w =>
    LiftP Try.prog (Instr.fieldAt 74 v16 0) (fun v17 w =>
    LiftP Try.prog (Instr.loadAt 72 v17) (fun v18 w =>
    LiftP Try.prog (Instr.indexAt 72 v18 (vs.tail.headD undef)) (fun v20 w =>
    LiftP Try.prog (Instr.fieldAt 79 v20 0) (fun v21 w =>
    LiftP Try.prog (Instr.loadAt 3 v21) (fun v22 w =>
    LiftP Try.prog (Instr.buildSlice 81 1 #[(0, v22)]) (fun v23 w =>
    NextP Try.prog (builtin Go.Builtin.append #[81, 81] 81 #[false, false] #[(vs.headD undef), v23]) (fun v24 w =>
    LiftP Try.prog (binS Go.BinOp.add 3 (Go.Operand.tmp 12) (Go.Operand.const (Go.Value.int Go.IntKind.i64 1)) (vs.tail.headD undef) (Go.Value.int Go.IntKind.i64 1)) (fun v13 w =>
    J [v24, v13] w) w) w) w) w) w) w) w) w) w) (fun w =>
      R (vs.headD undef) w) w) w) w) w) w) w) [(Go.Value.slice none 0 0), (Go.Value.int Go.IntKind.i64 0)] w
theorem S44.calls (a0 : Value) (R : Value → World → Prop) (w : World) (h : S44 a0 R w) : Calls Try.prog 44 #[a0] w fun e w' => ∃ v, e = .returned v ∧ R v w' :=
  calls_of_tr (n := 26) (c := bodyOf Try.f44) (.two .leaf (.two .leaf (.two (.two .leaf (.one (.loop [3, 4] (.two (.two .leaf (.two .leaf .leaf)) (.two (.one .leaf) .leaf))))) (.two .leaf .leaf)))) Try.func44 (by kernel_rfl) Try.ntmps44 (by kernel_rfl) (by kernel_rfl) [a0] (by kernel_rfl) (of_eq_ (by kernel_rfl) h)

/-- shelfmark/shelfmarkref13.Pack -/
def S64 (a0 : Value) (R : Value → World → Prop) (w : World) : Prop :=
  LiftP Try.prog (Instr.box 58 a0) (fun v1 w =>
  LiftP Try.prog (Instr.fieldAt 58 v1 0) (fun v13 w =>
  LiftP Try.prog (Instr.loadAt 3 v13) (fun v14 w =>
  LiftP Try.prog (binS Go.BinOp.lss 3 (Go.Operand.tmp 14) (Go.Operand.const (Go.Value.int Go.IntKind.i64 0)) v14 (Go.Value.int Go.IntKind.i64 0)) (fun v15 w =>
  GuardP v15 false (fun K w => LiftP Try.prog (Instr.fieldAt 58 v1 0) K w) (fun v17 w =>
  GuardP v15 false (fun K w => LiftP Try.prog (Instr.loadAt 3 v17) K w) (fun v18 w =>
  GuardP v15 false (fun K w => LiftP Try.prog (binS Go.BinOp.gtr 3 (Go.Operand.tmp 18) (Go.Operand.const (Go.Value.int Go.IntKind.i64 255)) v18 (Go.Value.int Go.IntKind.i64 255)) K w) (fun v19 w =>
  PickP v15 (Go.Value.bool true) v19 (fun v20 w =>
  CondP v20 (fun w =>
    R (.tuple #[(Go.Value.string { data := #[] }), (Go.Value.int Go.IntKind.i64 1)]) w) (fun w =>
    LiftP Try.prog (Instr.loadAt 58 v1) (fun v21 w =>
  CallP Try.prog 63 #[v21] (fun v22 w =>
  LoopP (fun J vs w =>   -- [5]
    NextP Try.prog (builtin Go.Builtin.len #[81] 3 #[false] #[v22]) (fun v25 w =>
    LiftP Try.prog (binS Go.BinOp.lss 3 (Go.Operand.tmp 23) (Go.Operand.tmp 25) (vs.headD undef) v25) (fun v26 w =>
    CondP v26 (fun w =>
      LiftP Try.prog (Instr.indexAt 81 v22 (vs.headD undef)) (fun v31 w =>
    LiftP Try.prog (Instr.loadAt 3 v31) (fun v32 w =>
    CallP Try.prog 79 #[v32] (fun v33 w =>
    LiftP Try.prog (Op.unary Go.UnOp.not v33) (fun v34 w =>
    CondP v34 (fun w =>
      R (.tuple #[(Go.Value.string { data := #[] }), (Go.Value.int Go.IntKind.i64 1)]) w) (fun w =>
      LiftP Try.prog (binS Go.BinOp.add 3 (Go.Operand.tmp 27) (Go.Operand.const (Go.Value.int Go.IntKind.i64 1)) (vs.headD undef) (Go.Value.int Go.IntKind.i64 1)) (fun v28 w =>
    J [v28] w) w) w) w) w) w) w) (fun w =>
      LoopP (fun J_1 vs_1 w =>   -- [6]
    LiftP Try.prog (Instr.fieldAt 58 v1 10) (fun v36 w =>
    LiftP Try.prog (Instr.loadAt 56 v36) (fun v37 w =>
    NextP Try.prog (builtin Go.Builtin.len #[56] 3 #[false] #[v37]) (fun v38 w =>
    LiftP Try.prog (binS Go.BinOp.lss 3 (Go.Operand.tmp 35) (Go.Operand.tmp 38) (vs_1.headD undef) v38) (fun v39 w =>
    CondP v39 (fun w =>
      LiftP Try.prog (Instr.fieldAt 58 v1 10) (fun v42 w =>
    LiftP Try.prog (Instr.loadAt 56 v42) (fun v43 w =>
    LiftP Try.prog (Instr.indexAt 56 v43 (vs_1.headD undef)) (fun v45 w =>
    LiftP Try.prog (Instr.fieldAt 68 v45 1) (fun v46 w =>
    LiftP Try.prog (Instr.loadAt 3 v46) (fun v47 w =>
    CallP Try.prog 79 #[v47] (fun v48 w =>
    LiftP Try.prog (Op.unary Go.UnOp.not v48) (fun v49 w =>
    CondP v49 (fun w =>
      R (.tuple #[(Go.Value.string { data := #[] }), (Go.Value.int Go.IntKind.i64 1)]) w) (fun w =>
      LiftP Try.prog (binS Go.BinOp.add 3 (Go.Operand.tmp 40) (Go.Operand.const (Go.Value.int Go.IntKind.i64 1)) (vs_1.headD undef) (Go.Value.int Go.IntKind.i64 1)) (fun v41 w =>
    J_1 [v41] w) w) w) w) w) w) w) w) w) w) (fun w =>
      LiftP Try.prog (Instr.fieldAt 58 v1 9) (fun v50 w =>
  LiftP Try.prog (Instr.loadAt 55 v50) (fun v51 w =>
  NextP Try.prog (builtin Go.Builtin.len #[55] 3 #[false] #[v51]) (fun v52 w =>
  LiftP Try.prog (binS Go.BinOp.gtr 3 (Go.Operand.tmp 52) (Go.Operand.const (Go.Value.int Go.IntKind.i64 256)) v52 (Go.Value.int Go.IntKind.i64 256)) (fun v53 w =>
  GuardP v53 false (fun K w => LiftP Try.prog (Instr.fieldAt 58 v1 10) K w) (fun v55 w =>
  GuardP v53 false (fun K w => LiftP Try.prog (Instr.loadAt 56 v55) K w) (fun v56 w =>
  GuardP v53 false (fun K w => NextP Try.prog (builtin Go.Builtin.len #[56] 3 #[false] #[v56]) K w) (fun v57 w =>
  GuardP v53 false (fun K w => LiftP Try.prog (binS Go.BinOp.gtr 3 (Go.Operand.tmp 57) (Go.Operand.const (Go.Value.int Go.IntKind.i64 256)) v57 (Go.Value.int Go.IntKind.i64 256)) K w) (fun v58 w =>
  PickP v53 (Go.Value.bool true) v58 (fun v59 w =>
  CondP v59 (fun w =>
    R (.tuple #[(Go.Value.string { data := #[] }), (Go.Value.int Go.IntKind.i64 4)]) w) (fun w =>
    LiftP Try.prog (Instr.fieldAt 58 v1 0) (fun v60 w =>
  LiftP Try.prog (Instr.loadAt 3 v60) (fun v61 w =>
  CallP Try.prog 57 #[v61] (fun v62 w =>
  LoopP (fun J_2 vs_2 w =>   -- [7, 8]
    NextP Try.prog (builtin Go.Builtin.len #[81] 3 #[false] #[v22]) (fun v65 w =>
    LiftP Try.prog (binS Go.BinOp.lss 3 (Go.Operand.tmp 63) (Go.Operand.tmp 65) (vs_2.tail.headD undef) v65) (fun v66 w =>
    CondP v66 (fun w =>
      LiftP Try.prog (Instr.indexAt 81 v22 (vs_2.tail.headD undef)) (fun v72 w =>
    LiftP Try.prog (Instr.loadAt 3 v72) (fun v73 w =>
    CallP Try.prog 57 #[v73] (fun v74 w =>
    NextP Try.prog (builtin Go.Builtin.append #[30, 30] 30 #[false, false] #[(vs_2.headD undef), v74]) (fun v75 w =>
    LiftP Try.prog (binS Go.BinOp.add 3 (Go.Operand.tmp 67) (Go.Operand.const (Go.Value.int Go.IntKind.i64 1)) (vs_2.tail.headD undef) (Go.Value.int Go.IntKind.i64 1)) (fun v68 w =>
    J_2 [v75, v68] w) w) w) w) w) w) (fun w =>
      LiftP Try.prog (Instr.fieldAt 58 v1 12) (fun v77 w =>
  LiftP Try.prog (Instr.loadAt 4 v77) (fun v78 w =>
  CallP Try.prog 80 #[v78] (fun v79 w =>
  NextP Try.prog (builtin Go.Builtin.append #[30, 30] 30 #[false, false] #[(vs_2.headD undef), v79]) (fun v80 w =>
  LiftP Try.prog (Instr.fieldAt 58 v1 7) (fun v81 w =>
  LiftP Try.prog (Instr.loadAt 9 v81) (fun v82 w =>
  LiftP Try.prog (Instr.fieldAt 58 v1 8) (fun v83 w =>
  LiftP Try.prog (Instr.loadAt 9 v83) (fun v84 w =>
  LiftP Try.prog (Instr.fieldAt 58 v1 13) (fun v85 w =>
  LiftP Try.prog (Instr.loadAt 9 v85) (fun v86 w =>
  LiftP Try.prog (Instr.buildSlice 37 3 #[(0, v82), (1, v84), (2, v86)]) (fun v87 w =>
  LoopP (fun J_3 vs_3 w =>   -- [7, 10]
    NextP Try.prog (builtin Go.Builtin.len #[37] 3 #[false] #[v87]) (fun v90 w =>
    LiftP Try.prog (binS Go.BinOp.lss 3 (Go.Operand.tmp 88) (Go.Operand.tmp 90) (vs_3.tail.headD undef) v90) (fun v91 w =>
    CondP v91 (fun w =>
      LiftP Try.prog (Instr.indexAt 37 v87 (vs_3.tail.headD undef)) (fun v96 w =>
    LiftP Try.prog (Instr.loadAt 9 v96) (fun v97 w =>
    NextP Try.prog (builtin Go.Builtin.len #[9] 3 #[false] #[v97]) (fun v98 w =>
    LiftP Try.prog (binS Go.BinOp.gtr 3 (Go.Operand.tmp 98) (Go.Operand.const (Go.Value.int Go.IntKind.i64 65536)) v98 (Go.Value.int Go.IntKind.i64 65536)) (fun v99 w =>
    CondP v99 (fun w =>
      R (.tuple #[(Go.Value.string { data := #[] }), (Go.Value.int Go.IntKind.i64 4)]) w) (fun w =>
      LiftP Try.prog (Instr.indexAt 37 v87 (vs_3.tail.headD undef)) (fun v103 w =>
    LiftP Try.prog (Instr.loadAt 9 v103) (fun v104 w =>
    CallP Try.prog 73 #[v104] (fun v105 w =>
    NextP Try.prog (builtin Go.Builtin.append #[30, 30] 30 #[false, false] #[(vs_3.headD undef), v105]) (fun v106 w =>
    LiftP Try.prog (binS Go.BinOp.add 3 (Go.Operand.tmp 92) (Go.Operand.const (Go.Value.int Go.IntKind.i64 1)) (vs_3.tail.headD undef) (Go.Value.int Go.IntKind.i64 1)) (fun v93 w =>
    J_3 [v106, v93] w) w) w) w) w) w) w) w) w) w) w) (fun w =>
      LiftP Try.prog (Instr.fieldAt 58 v1 9) (fun v108 w =>
  LiftP Try.prog (Instr.loadAt 55 v108) (fun v109 w =>
  NextP Try.prog (builtin Go.Builtin.len #[55] 3 #[false] #[v109]) (fun v110 w =>
  CallP Try.prog 57 #[v110] (fun v111 w =>
  NextP Try.prog (builtin Go.Builtin.append #[30, 30] 30 #[false, false] #[(vs_3.headD undef), v111]) (fun v112 w =>
  LoopP (fun J_4 vs_4 w =>   -- [7, 11]
    LiftP Try.prog (Instr.fieldAt 58 v1 9) (fun v114 w =>
    LiftP Try.prog (Instr.loadAt 55 v114) (fun v115 w =>
    NextP Try.prog (builtin Go.Builtin.len #[55] 3 #[false] #[v115]) (fun v116 w =>
    LiftP Try.prog (binS Go.BinOp.lss 3 (Go.Operand.tmp 113) (Go.Operand.tmp 116) (vs_4.tail.headD undef) v116) (fun v117 w =>
    CondP v117 (fun w =>
      NextP Try.prog (builtin Go.Builtin.len #[30] 3 #[false] #[(vs_4.headD undef)]) (fun v121 w =>
    LiftP Try.prog (binS Go.BinOp.gtr 3 (Go.Operand.tmp 121) (Go.Operand.const (Go.Value.int Go.IntKind.i64 65536)) v121 (Go.Value.int Go.IntKind.i64 65536)) (fun v122 w =>
    GuardP v122 false (fun K w => LiftP Try.prog (Instr.fieldAt 58 v1 9) K w) (fun v124 w =>
    GuardP v122 false (fun K w => LiftP Try.prog (Instr.loadAt 55 v124) K w) (fun v125 w =>
    GuardP v122 false (fun K w => K (vs_4.tail.headD undef) w) (fun v126 w =>
    GuardP v122 false (fun K w => LiftP Try.prog (Instr.indexAt 55 v125 v126) K w) (fun v127 w =>
    GuardP v122 false (fun K w => LiftP Try.prog (Instr.fieldAt 64 v127 0) K w) (fun v128 w =>
    GuardP v122 false (fun K w => LiftP Try.prog (Instr.loadAt 9 v128) K w) (fun v129 w =>
    GuardP v122 false (fun K w => NextP Try.prog (builtin Go.Builtin.len #[9] 3 #[false] #[v129]) K w) (fun v130 w =>
    GuardP v122 false (fun K w => LiftP Try.prog (binS Go.BinOp.gtr 3 (Go.Operand.tmp 130) (Go.Operand.const (Go.Value.int Go.IntKind.i64 65536)) v130 (Go.Value.int Go.IntKind.i64 65536)) K w) (fun v131 w =>
    PickP v122 (Go.Value.bool true) v131 (fun v132 w =>
    GuardP v132 false (fun K w => LiftP Try.prog (Instr.fieldAt 58 v1 9) K w) (fun v134 w =>
    GuardP v132 false (fun K w => LiftP Try.prog (Instr.loadAt 55 v134) K w) (fun v135 w =>
    GuardP v132 false (fun K w => K (vs_4.tail.headD undef) w) (fun v136 w =>
    GuardP v132 false (fun K w => LiftP Try.prog (Instr.indexAt 55 v135 v136) K w) (fun v137 w =>
    GuardP v132 false (fun K w => LiftP Try.prog (Instr.fieldAt 64 v137 1) K w) (fun v138 w =>
    GuardP v132 false (fun K w => LiftP Try.prog (Instr.loadAt 9 v138) K w) (fun v139 w =>
    GuardP v132 false (fun K w => NextP Try.prog (builtin Go.Builtin.len #[9] 3 #[false] #[v139]) K w) (fun v140 w =>
    GuardP v132 false (fun K w => LiftP Try.prog (binS Go.BinOp.gtr 3 (Go.Operand.tmp 140) (Go.Operand.const (Go.Value.int Go.IntKind.i64 65536)) v140 (Go.Value.int Go.IntKind.i64 65536)) K w) (fun v141 w =>
    PickP v132 (Go.Value.bool true) v141 (fun v142 w =>
    CondP v142 (fun w =>
      R (.tuple #[(Go.Value.string { data := #[] }), (Go.Value.int Go.IntKind.i64 4)]) w) (fun w =>
      LiftP Try.prog (Instr.fieldAt 58 v1 9) (fun v144 w =>
    LiftP Try.prog (Instr.loadAt 55 v144) (fun v145 w =>
    LiftP Try.prog (Instr.indexAt 55 v145 (vs_4.tail.headD undef)) (fun v147 w =>
    LiftP Try.prog (Instr.fieldAt 64 v147 0) (fun v148 w =>
    LiftP Try.prog (Instr.loadAt 9 v148) (fun v149 w =>
    CallP Try.prog 73 #[v149] (fun v150 w =>
    NextP Try.prog (builtin Go.Builtin.append #[30, 30] 30 #[false, false] #[(vs_4.headD undef), v150]) (fun v151 w =>
    LiftP Try.prog (Instr.fieldAt 58 v1 9) (fun v153 w =>
    LiftP Try.prog (Instr.loadAt 55 v153) (fun v154 w =>
    LiftP Try.prog (Instr.indexAt 55 v154 (vs_4.tail.headD undef)) (fun v156 w =>
    LiftP Try.prog (Instr.fieldAt 64 v156 1) (fun v157 w =>
    LiftP Try.prog (Instr.loadAt 9 v157) (fun v158 w =>
    CallP Try.prog 73 #[v158] (fun v159 w =>
    NextP Try.prog (builtin Go.Builtin.append #[30, 30] 30 #[false, false] #[v151, v159]) (fun v160 w =>
    LiftP Try.prog (binS Go.BinOp.add 3 (Go.Operand.tmp 118) (Go.Operand.const (Go.Value.int Go.IntKind.i64 1)) (vs_4.tail.headD undef) (Go.Value.int Go.IntKind.i64 1)) (fun v119 w =>
    J_4 [v160, v119] w) w) w) w) w) w) w) w) w) w) w) w) w) w) w) w) w) w) w) w) w) w) w) w) w) w) w) w) w) w) w) w) w) w) w) w) w) (fun w =>
      LiftP Try.prog (Instr.fieldAt 58 v1 10) (fun v162 w =>
  LiftP Try.prog (Instr.loadAt 56 v162) (fun v163 w =>
  NextP Try.prog (builtin Go.Builtin.len #[56] 3 #[false] #[v163]) (fun v164 w =>
  CallP Try.prog 57 #[v164] (fun v165 w =>
  NextP Try.prog (builtin Go.Builtin.append #[30, 30] 30 #[false, false] #[(vs_4.headD undef), v165]) (fun v166 w =>
  LoopP (fun J_5 vs_5 w =>   -- [7, 12]
    LiftP Try.prog (Instr.fieldAt 58 v1 10) (fun v168 w =>
    LiftP Try.prog (Instr.loadAt 56 v168) (fun v169 w =>
    NextP Try.prog (builtin Go.Builtin.len #[56] 3 #[false] #[v169]) (fun v170 w =>
    LiftP Try.prog (binS Go.BinOp.lss 3 (Go.Operand.tmp 167) (Go.Operand.tmp 170) (vs_5.tail.headD undef) v170) (fun v171 w =>
    CondP v171 (fun w =>
      NextP Try.prog (builtin Go.Builtin.len #[30] 3 #[false] #[(vs_5.headD undef)]) (fun v175 w =>
    LiftP Try.prog (binS Go.BinOp.gtr 3 (Go.Operand.tmp 175) (Go.Operand.const (Go.Value.int Go.IntKind.i64 65536)) v175 (Go.Value.int Go.IntKind.i64 65536)) (fun v176 w =>
    GuardP v176 false (fun K w => LiftP Try.prog (Instr.fieldAt 58 v1 10) K w) (fun v178 w =>
    GuardP v176 false (fun K w => LiftP Try.prog (Instr.loadAt 56 v178) K w) (fun v179 w =>
    GuardP v176 false (fun K w => K (vs_5.tail.headD undef) w) (fun v180 w =>
    GuardP v176 false (fun K w => LiftP Try.prog (Instr.indexAt 56 v179 v180) K w) (fun v181 w =>
    GuardP v176 false (fun K w => LiftP Try.prog (Instr.fieldAt 68 v181 0) K w) (fun v182 w =>
    GuardP v176 false (fun K w => LiftP Try.prog (Instr.loadAt 9 v182) K w) (fun v183 w =>
    GuardP v176 false (fun K w => NextP Try.prog (builtin Go.Builtin.len #[9] 3 #[false] #[v183]) K w) (fun v184 w =>
    GuardP v176 false (fun K w => LiftP Try.prog (binS Go.BinOp.gtr 3 (Go.Operand.tmp 184) (Go.Operand.const (Go.Value.int Go.IntKind.i64 65536)) v184 (Go.Value.int Go.IntKind.i64 65536)) K w) (fun v185 w =>
    PickP v176 (Go.Value.bool true) v185 (fun v186 w =>
    CondP v186 (fun w =>
      R (.tuple #[(Go.Value.string { data := #[] }), (Go.Value.int Go.IntKind.i64 4)]) w) (fun w =>
      LiftP Try.prog (Instr.fieldAt 58 v1 10) (fun v188 w =>
    LiftP Try.prog (Instr.loadAt 56 v188) (fun v189 w =>
    LiftP Try.prog (Instr.indexAt 56 v189 (vs_5.tail.headD undef)) (fun v191 w =>
    LiftP Try.prog (Instr.fieldAt 68 v191 0) (fun v192 w =>
    LiftP Try.prog (Instr.loadAt 9 v192) (fun v193 w =>
    CallP Try.prog 73 #[v193] (fun v194 w =>
    NextP Try.prog (builtin Go.Builtin.append #[30, 30] 30 #[false, false] #[(vs_5.headD undef), v194]) (fun v195 w =>
    LiftP Try.prog (Instr.fieldAt 58 v1 10) (fun v197 w =>
    LiftP Try.prog (Instr.loadAt 56 v197) (fun v198 w =>
    LiftP Try.prog (Instr.indexAt 56 v198 (vs_5.tail.headD undef)) (fun v200 w =>
    LiftP Try.prog (Instr.fieldAt 68 v200 1) (fun v201 w =>
    LiftP Try.prog (Instr.loadAt 3 v201) (fun v202 w =>
    CallP Try.prog 57 #[v202] (fun v203 w =>
    NextP Try.prog (builtin Go.Builtin.append #[30, 30] 30 #[false, false] #[v195, v203]) (fun v204 w =>
    LiftP Try.prog (Instr.fieldAt 58 v1 10) (fun v206 w =>
    LiftP Try.prog (Instr.loadAt 56 v206) (fun v207 w =>
    LiftP Try.prog (Instr.indexAt 56 v207 (vs_5.tail.headD undef)) (fun v209 w =>
    LiftP Try.prog (Instr.fieldAt 68 v209 2) (fun v210 w =>
    LiftP Try.prog (Instr.loadAt 4 v210) (fun v211 w =>
    CallP Try.prog 80 #[v211] (fun v212 w =>
    NextP Try.prog (builtin Go.Builtin.append #[30, 30] 30 #[false, false] #[v204, v212]) (fun v213 w =>
    LiftP Try.prog (binS Go.BinOp.add 3 (Go.Operand.tmp 172) (Go.Operand.const (Go.Value.int Go.IntKind.i64 1)) (vs_5.tail.headD undef) (Go.Value.int Go.IntKind.i64 1)) (fun v173 w =>
    J_5 [v213, v173] w) w) w) w) w) w) w) w) w) w) w) w) w) w) w) w) w) w) w) w) w) w) w) w) w) w) w) w) w) w) w) w) w) w) w) (fun w =>
      NextP Try.prog (builtin Go.Builtin.len #[30] 3 #[false] #[(vs_5.headD undef)]) (fun v215 w =>
  LiftP Try.prog (binS Go.BinOp.gtr 3 (Go.Operand.tmp 215) (Go.Operand.const (Go.Value.int Go.IntKind.i64 65536)) v215 (Go.Value.int Go.IntKind.i64 65536)) (fun v216 w =>
  CondP v216 (fun w =>
    R (.tuple #[(Go.Value.string { data := #[] }), (Go.Value.int Go.IntKind.i64 4)]) w) (fun w =>
    LiftP Try.prog (convert 30 9 (vs_5.headD undef)) (fun v218 w =>
  R (.tuple #[v218, (Go.Value.int Go.IntKind.i64 0)]) w) w) w) w) w) w) w) w) w) w) [v166, (Go.Value.int Go.IntKind.i64 0)] w) w) w) w) w) w) w) w) w) w) w) [v112, (Go.Value.int Go.IntKind.i64 0)] w) w) w) w) w) w) w) w) w) [v80, (Go.Value.int Go.IntKind.i64 0)] w) w) w) w) w) w) w) w) w) w) w) w) w) w) w) [v62, (Go.Value.int Go.IntKind.i64 0)] w) w) w) w) w) w) w) w) w) w) w) w) w) w) w) w) w) w) w) [(Go.Value.int Go.IntKind.i64 0)] w) w) w) w) [(Go.Value.int Go.IntKind.i64 0)] w) w) w) w) w) w) w) w) w) w) w) w
theorem S64.calls (a0 : Value) (R : Value → World → Prop) (w : World) (h : S64 a0 R w) : Calls Try.prog 64 #[a0] w fun e w' => ∃ v, e = .returned v ∧ R v w' :=
  calls_of_tr (n := 219) (c := bodyOf Try.f64) (.two .leaf (.two (.two .leaf (.two (.two .leaf .leaf) .leaf)) (.two .leaf (.two (.two .leaf (.one (.loop [5] (.two (.two .leaf (.two .leaf .leaf)) (.two (.one (.two .leaf (.two (.two .leaf .leaf) .leaf))) .leaf))))) (.two (.two .leaf (.one (.loop [6] (.two (.two .leaf (.two .leaf .leaf)) (.two (.one (.two .leaf (.two (.two .leaf .leaf) .leaf))) .leaf))))) (.two (.two .leaf (.two (.two .leaf .leaf) .leaf)) (.two .leaf (.two (.two .leaf (.one (.loop [7, 8] (.two (.two .leaf (.two .leaf .leaf)) (.two (.one .leaf) .leaf))))) (.two .leaf (.two .leaf (.two (.two .leaf (.one (.loop [7, 10] (.two (.two .leaf (.two .leaf .leaf)) (.two (.one (.two (.two .leaf (.two (.two .leaf .leaf) .leaf)) .leaf)) .leaf))))) (.two .leaf (.two (.two .leaf (.one (.loop [7, 11] (.two (.two .leaf (.two .leaf .leaf)) (.two (.one (.two (.two .leaf (.two (.two .leaf .leaf) .leaf)) (.two .leaf .leaf))) .leaf))))) (.two .leaf (.two (.two .leaf (.one (.loop [7, 12] (.two (.two .leaf (.two .leaf .leaf)) (.two (.one (.two (.two .leaf (.two (.two .leaf .leaf) .leaf)) (.two .leaf (.two .leaf .leaf)))) .leaf))))) (.two (.two .leaf (.two (.two .leaf .leaf) .leaf)) (.two .leaf .leaf))))))))))))))))) Try.func64 (by kernel_rfl) Try.ntmps64 (by kernel_rfl) (by kernel_rfl) [a0] (by kernel_rfl) (of_eq_ (by kernel_rfl) h)

/-- (*shelfmark/shelfmarkref14.Net).add -/
def S65 (a0 a1 : Value) (R : Value → World → Prop) (w : World) : Prop :=
  LiftP Try.prog (Instr.box 58 a1) (fun v3 w =>
  NextP Try.prog (nilChk a0) (fun v7 w =>
  LiftP Try.prog (Instr.fieldAt 74 v7 0) (fun v8 w =>
  LiftP Try.prog (Instr.loadAt 72 v8) (fun v9 w =>
  NextP Try.prog (builtin Go.Builtin.len #[72] 3 #[false] #[v9]) (fun v10 w =>
  LiftP Try.prog (binS Go.BinOp.geq 3 (Go.Operand.tmp 10) (Go.Operand.const (Go.Value.int Go.IntKind.i64 4096)) v10 (Go.Value.int Go.IntKind.i64 4096)) (fun v11 w =>
  CondP v11 (fun w =>
    R (.tuple #[(Go.Value.int Go.IntKind.i64 0), (Go.Value.int Go.IntKind.i64 17)]) w) (fun w =>
    NextP Try.prog (nilChk a0) (fun v14 w =>
  LiftP Try.prog (Instr.fieldAt 74 v14 1) (fun v15 w =>
  LiftP Try.prog (Instr.loadAt 3 v15) (fun v16 w =>
  LiftP Try.prog (binS Go.BinOp.add 3 (Go.Operand.tmp 16) (Go.Operand.const (Go.Value.int Go.IntKind.i64 1)) v16 (Go.Value.int Go.IntKind.i64 1)) (fun v17 w =>
  NextP Try.prog (nilChk a0) (fun v18 w =>
  LiftP Try.prog (Instr.fieldAt 74 v18 1) (fun v19 w =>
  LiftU Try.prog (Instr.storeAt 3 v19 v17) (fun v_ w =>
  DrawP (fun S w =>
  YieldN Try.prog S (nilChk a0) (fun v22 w =>
  YieldP Try.prog S (Instr.fieldAt 74 v22 0) (fun v23 w =>
  YieldP Try.prog S (Instr.loadAt 72 v23) (fun v24 w =>
  YieldN Try.prog S (nilChk a0) (fun v26 w =>
  YieldP Try.prog S (Instr.fieldAt 74 v26 1) (fun v27 w =>
  YieldP Try.prog S (Instr.loadAt 3 v27) (fun v28 w =>
  YieldP Try.prog S (Instr.loadAt 58 v3) (fun v29 w =>
  ActP S (fun K w => LiftP Try.prog (Instr.build 79 #[(0, v28), (1, v29)]) K w) (fun S v30 w =>
  ActP S (fun K w => LiftP Try.prog (Instr.buildSlice 72 1 #[(0, v30)]) K w) (fun S v31 w =>
  ActP S (fun K w => NextP Try.prog (builtin Go.Builtin.append #[72, 72] 72 #[false, false] #[v24, v31]) K w) (fun S v32 w =>
  YieldN Try.prog S (nilChk a0) (fun v33 w =>
  YieldP Try.prog S (Instr.fieldAt 74 v33 0) (fun v34 w =>
  LiftU Try.prog (Instr.storeAt 72 v34 v32) (fun v__1 w =>
  NextP Try.prog (nilChk a0) (fun v36 w =>
  LiftP Try.prog (Instr.fieldAt 74 v36 1) (fun v37 w =>
  LiftP Try.prog (Instr.loadAt 3 v37) (fun v38 w =>
  R (.tuple #[v38, (Go.Value.int Go.IntKind.i64 0)]) w) w) w) w) w) w) w) w) w) w) w) w) w) w) w) w) w) w) w) w) w) w) w) w) w) w) w) w) w) w) w) w
theorem S65.calls (a0 a1 : Value) (R : Value → World → Prop) (w : World) (h : S65 a0 a1 R w) : Calls Try.prog 65 #[a0, a1] w fun e w' => ∃ v, e = .returned v ∧ R v w' :=
  calls_of_tr (n := 39) (c := bodyOf Try.f65) (.two .leaf (.two (.two .leaf (.two (.two .leaf .leaf) .leaf)) (.two .leaf (.two (.drawL [(true, 0), (true, 1), (true, 2), (true, 3), (true, 4), (true, 5), (true, 6), (true, 7), (true, 8), (true, 9), (false, 10), (false, 11), (false, 12), (true, 13), (true, 14)] 15) (.two .leaf .leaf))))) Try.func65 (by kernel_rfl) Try.ntmps65 (by kernel_rfl) (by kernel_rfl) [a0, a1] (by kernel_rfl) (of_eq_ (by kernel_rfl) h)

/-- shelfmark/shelfmarkref13.number -/
def S79 (a0 : Value) (R : Value → World → Prop) (w : World) : Prop :=
  LiftP Try.prog (binS Go.BinOp.geq 3 (Go.Operand.tmp 3) (Go.Operand.const (Go.Value.int Go.IntKind.i64 0)) a0 (Go.Value.int Go.IntKind.i64 0)) (fun v4 w =>
  GuardP v4 true (fun K w => K a0 w) (fun v6 w =>
  GuardP v4 true (fun K w => LiftP Try.prog (binS Go.BinOp.leq 3 (Go.Operand.tmp 6) (Go.Operand.const (Go.Value.int Go.IntKind.i64 1099511627776)) v6 (Go.Value.int Go.IntKind.i64 1099511627776)) K w) (fun v7 w =>
  PickP v4 v7 (Go.Value.bool false) (fun v8 w =>
  R v8 w) w) w) w) w
theorem S79.calls (a0 : Value) (R : Value → World → Prop) (w : World) (h : S79 a0 R w) : Calls Try.prog 79 #[a0] w fun e w' => ∃ v, e = .returned v ∧ R v w' :=
  calls_of_tr (n := 9) (c := bodyOf Try.f79) (.two .leaf (.two .leaf .leaf)) Try.func79 (by kernel_rfl) Try.ntmps79 (by kernel_rfl) (by kernel_rfl) [a0] (by kernel_rfl) (of_eq_ (by kernel_rfl) h)

/-- shelfmark/shelfmarkref13.flag -/
def S80 (a0 : Value) (R : Value → World → Prop) (w : World) : Prop :=
  CondP a0 (fun w =>
    LiftP Try.prog (Instr.buildSlice 30 1 #[(0, (Go.Value.int Go.IntKind.u8 1))]) (fun v4 w =>
    R v4 w) w) (fun w =>
    LiftP Try.prog (Instr.buildSlice 30 1 #[(0, (Go.Value.int Go.IntKind.u8 0))]) (fun v5 w =>
  R v5 w) w) w
theorem S80.calls (a0 : Value) (R : Value → World → Prop) (w : World) (h : S80 a0 R w) : Calls Try.prog 80 #[a0] w fun e w' => ∃ v, e = .returned v ∧ R v w' :=
  calls_of_tr (n := 6) (c := bodyOf Try.f80) (.two .leaf (.two (.two .leaf (.two (.two .leaf .leaf) .leaf)) (.two .leaf .leaf))) Try.func80 (by kernel_rfl) Try.ntmps80 (by kernel_rfl) (by kernel_rfl) [a0] (by kernel_rfl) (of_eq_ (by kernel_rfl) h)

end Go.Proofs.Ythicbfopjakiiaa.E
