import Derived.Test.YtcfncjejpjjhdaaMa
import Derived.Test.YtcfncjejpjjhdaaMb
namespace Go.Proofs.Ytcfncjejpjjhdaa.E
open Go Go.RowKit
set_option linter.unusedSimpArgs false
set_option linter.unusedVariables false

theorem light11s (v : Value) (l : List Rg) (n : Nat) (hn : n ≤ 100) (w : World) (hv : RgR w [v] l) : CallP Try.prog 8 #[v, .int .i64 n] (fun r w' => ∃ b, r = .bool b ∧ (b = true → l.length ≤ n ∧ ∀ q ∈ l, shortR q) ∧ w = w') w := by
  obtain ⟨A, c, rfl, hc, hm⟩ := hv.slice
  refine ⟨S8.calls _ _ _ _ ?_⟩
  unfold S8
  refine LoopP.inv1 (fun iv w' => ∃ k : Nat, k ≤ l.length ∧ k ≤ n + 1 ∧ iv = .int .i64 k ∧ (∀ q ∈ l.take k, shortR q) ∧ w = w') (fun iv _ => l.length - (intOf iv).toNat) ⟨0, by omega, by omega, rfl, by simp, rfl⟩ ?_
  rintro _ _ ⟨k, hk, hkn, rfl, hall, rfl⟩ J hJ
  dsimp only [List.headD_cons, List.tail_cons]
  refine ln und26 ?_
  refine bi_lss_c (fun h => ?a) (fun h => ?b)
  case' a =>
    have hk' : k < l.length := by omega
    obtain ⟨a, rfl, hcell⟩ := hv.at k hk'
    have c0 : w.cell? (((a.add (k * 2)).add 0)) = some (tS l[k].1) := hcell 0 _ rfl
    have c1 : w.cell? (((a.add (k * 2)).add 1)) = some (tS l[k].2) := hcell 1 _ rfl
    (repeat with_reducible first|refine z_a ?_|refine z_b ?_|refine z_c ?_|refine z_d ?_|refine z_e ?_|refine z_f ?_|refine z_g ?_|refine z_h ?_|refine z_i ?_|refine z_j ?_|refine z_k ?_|refine z_l ?_|refine z_m (by omega) ?_|refine z_n (by omega) ?_|refine z_o (by omega) ?_|refine z_p (by omega) ?_|refine z_q (by omega) ?_|refine z_r (by omega) ?_|refine z_s (by omega) ?_|refine z_t (by omega) ?_|refine z_u (by omega) ?_|refine z_v (by omega) ?_|refine z_w (by omega) ?_|refine z_x (by omega) ?_|refine z_y (by omega) ?_|refine z_z (by omega) ?_|refine z_A ?_|refine z_B ?_|refine z_C ?_|refine z_D ?_|refine z_E ?_|refine z_F ?_|refine z_G ?_|refine z_H ?_|refine z_I ?_)
    refine bi_leq_c (fun h2 => ?a1) (fun h2 => ?a2)
  case a1 =>
    (repeat with_reducible first | refine ixN und26 sz23 k hk' ?_| refine fdA g0 (by decide) ?_| refine ld one9 c0 ?_|refine z_a ?_|refine z_b ?_|refine z_c ?_|refine z_d ?_|refine z_e ?_|refine z_f ?_|refine z_g ?_|refine z_h ?_|refine z_i ?_|refine z_j ?_|refine z_k ?_|refine z_l ?_|refine z_m (by omega) ?_|refine z_n (by omega) ?_|refine z_o (by omega) ?_|refine z_p (by omega) ?_|refine z_q (by omega) ?_|refine z_r (by omega) ?_|refine z_s (by omega) ?_|refine z_t (by omega) ?_|refine z_u (by omega) ?_|refine z_v (by omega) ?_|refine z_w (by omega) ?_|refine z_x (by omega) ?_|refine z_y (by omega) ?_|refine z_z (by omega) ?_|refine z_A ?_|refine z_B ?_|refine z_C ?_|refine z_D ?_|refine z_E ?_|refine z_F ?_|refine z_G ?_|refine z_H ?_|refine z_I ?_)
    refine tln und9 ?_
    refine bi_gtr_c (fun h3 => ?_) (fun h3 => ?_)
    · (repeat with_reducible first|refine z_a ?_|refine z_b ?_|refine z_c ?_|refine z_d ?_|refine z_e ?_|refine z_f ?_|refine z_g ?_|refine z_h ?_|refine z_i ?_|refine z_j ?_|refine z_k ?_|refine z_l ?_|refine z_m (by omega) ?_|refine z_n (by omega) ?_|refine z_o (by omega) ?_|refine z_p (by omega) ?_|refine z_q (by omega) ?_|refine z_r (by omega) ?_|refine z_s (by omega) ?_|refine z_t (by omega) ?_|refine z_u (by omega) ?_|refine z_v (by omega) ?_|refine z_w (by omega) ?_|refine z_x (by omega) ?_|refine z_y (by omega) ?_|refine z_z (by omega) ?_|refine z_A ?_|refine z_B ?_|refine z_C ?_|refine z_D ?_|refine z_E ?_|refine z_F ?_|refine z_G ?_|refine z_H ?_|refine z_I ?_)
      exact ⟨false, rfl, (fun h => by cases h), rfl⟩
    · (repeat with_reducible first | refine ixN und26 sz23 k hk' ?_| refine fdA g1 (by decide) ?_| refine ld one9 c1 ?_|refine z_a ?_|refine z_b ?_|refine z_c ?_|refine z_d ?_|refine z_e ?_|refine z_f ?_|refine z_g ?_|refine z_h ?_|refine z_i ?_|refine z_j ?_|refine z_k ?_|refine z_l ?_|refine z_m (by omega) ?_|refine z_n (by omega) ?_|refine z_o (by omega) ?_|refine z_p (by omega) ?_|refine z_q (by omega) ?_|refine z_r (by omega) ?_|refine z_s (by omega) ?_|refine z_t (by omega) ?_|refine z_u (by omega) ?_|refine z_v (by omega) ?_|refine z_w (by omega) ?_|refine z_x (by omega) ?_|refine z_y (by omega) ?_|refine z_z (by omega) ?_|refine z_A ?_|refine z_B ?_|refine z_C ?_|refine z_D ?_|refine z_E ?_|refine z_F ?_|refine z_G ?_|refine z_H ?_|refine z_I ?_)
      refine tln und9 ?_
      (repeat with_reducible first|refine z_a ?_|refine z_b ?_|refine z_c ?_|refine z_d ?_|refine z_e ?_|refine z_f ?_|refine z_g ?_|refine z_h ?_|refine z_i ?_|refine z_j ?_|refine z_k ?_|refine z_l ?_|refine z_m (by omega) ?_|refine z_n (by omega) ?_|refine z_o (by omega) ?_|refine z_p (by omega) ?_|refine z_q (by omega) ?_|refine z_r (by omega) ?_|refine z_s (by omega) ?_|refine z_t (by omega) ?_|refine z_u (by omega) ?_|refine z_v (by omega) ?_|refine z_w (by omega) ?_|refine z_x (by omega) ?_|refine z_y (by omega) ?_|refine z_z (by omega) ?_|refine z_A ?_|refine z_B ?_|refine z_C ?_|refine z_D ?_|refine z_E ?_|refine z_F ?_|refine z_G ?_|refine z_H ?_|refine z_I ?_)
      refine bi_gtr_c (fun h4 => ?_) (fun h4 => ?_)
      · (repeat with_reducible first|refine z_a ?_|refine z_b ?_|refine z_c ?_|refine z_d ?_|refine z_e ?_|refine z_f ?_|refine z_g ?_|refine z_h ?_|refine z_i ?_|refine z_j ?_|refine z_k ?_|refine z_l ?_|refine z_m (by omega) ?_|refine z_n (by omega) ?_|refine z_o (by omega) ?_|refine z_p (by omega) ?_|refine z_q (by omega) ?_|refine z_r (by omega) ?_|refine z_s (by omega) ?_|refine z_t (by omega) ?_|refine z_u (by omega) ?_|refine z_v (by omega) ?_|refine z_w (by omega) ?_|refine z_x (by omega) ?_|refine z_y (by omega) ?_|refine z_z (by omega) ?_|refine z_A ?_|refine z_B ?_|refine z_C ?_|refine z_D ?_|refine z_E ?_|refine z_F ?_|refine z_G ?_|refine z_H ?_|refine z_I ?_)
        exact ⟨false, rfl, (fun h => by cases h), rfl⟩
      · (repeat with_reducible first|refine z_a ?_|refine z_b ?_|refine z_c ?_|refine z_d ?_|refine z_e ?_|refine z_f ?_|refine z_g ?_|refine z_h ?_|refine z_i ?_|refine z_j ?_|refine z_k ?_|refine z_l ?_|refine z_m (by omega) ?_|refine z_n (by omega) ?_|refine z_o (by omega) ?_|refine z_p (by omega) ?_|refine z_q (by omega) ?_|refine z_r (by omega) ?_|refine z_s (by omega) ?_|refine z_t (by omega) ?_|refine z_u (by omega) ?_|refine z_v (by omega) ?_|refine z_w (by omega) ?_|refine z_x (by omega) ?_|refine z_y (by omega) ?_|refine z_z (by omega) ?_|refine z_A ?_|refine z_B ?_|refine z_C ?_|refine z_D ?_|refine z_E ?_|refine z_F ?_|refine z_G ?_|refine z_H ?_|refine z_I ?_)
        refine hJ _ _ ⟨k + 1, by omega, by omega, by simp, fun q hq => ?_, rfl⟩ (by simp [intOf]; omega)
        rw [List.take_succ_eq_append_getElem hk'] at hq
        rcases List.mem_append.1 hq with hq | hq
        · exact hall q hq
        · simp only [List.mem_cons, List.not_mem_nil, or_false] at hq
          rw [hq]
          exact ⟨by omega, by omega⟩
  all_goals
    (repeat with_reducible first|refine z_a ?_|refine z_b ?_|refine z_c ?_|refine z_d ?_|refine z_e ?_|refine z_f ?_|refine z_g ?_|refine z_h ?_|refine z_i ?_|refine z_j ?_|refine z_k ?_|refine z_l ?_|refine z_m (by omega) ?_|refine z_n (by omega) ?_|refine z_o (by omega) ?_|refine z_p (by omega) ?_|refine z_q (by omega) ?_|refine z_r (by omega) ?_|refine z_s (by omega) ?_|refine z_t (by omega) ?_|refine z_u (by omega) ?_|refine z_v (by omega) ?_|refine z_w (by omega) ?_|refine z_x (by omega) ?_|refine z_y (by omega) ?_|refine z_z (by omega) ?_|refine z_A ?_|refine z_B ?_|refine z_C ?_|refine z_D ?_|refine z_E ?_|refine z_F ?_|refine z_G ?_|refine z_H ?_|refine z_I ?_)
    refine ln und26 ?_
    refine bi_leq_c (fun h5 => ?_) (fun h5 => ?_)
    · first
        | (exfalso; omega)
        | (have : k = l.length := by omega
           subst this
           rw [List.take_length] at hall
           exact ⟨true, rfl, fun _ => ⟨by omega, hall⟩, rfl⟩)
    · exact ⟨false, rfl, (fun h => by cases h), rfl⟩
theorem light14s (v : Value) (l : List ActB) (w : World) (hv : AcB w [v] l) : CallP Try.prog 14 #[v] (fun r w' => ∃ b, r = .bool b ∧ (b = true → l.length ≤ 60 ∧ ∀ a ∈ l, a.fs.length ≤ 50 ∧ shortR a.r) ∧ Below w.heap.size w w') w := by
  obtain ⟨A, c, rfl, hc, hm⟩ := hv.slice
  refine ⟨S14.calls _ _ _ ?_⟩
  unfold S14
  refine LoopP.inv1 (fun iv w' => ∃ k : Nat, k ≤ l.length ∧ k ≤ 61 ∧ iv = .int .i64 k ∧ (∀ a ∈ l.take k, a.fs.length ≤ 50 ∧ shortR a.r) ∧ Below w.heap.size w w') (fun iv _ => l.length - (intOf iv).toNat) ⟨0, by omega, by omega, rfl, by simp, Below.refl _ _⟩ ?_
  rintro _ w1 ⟨k, hk, hk1, rfl, hall, hb1⟩ J hJ
  dsimp only [List.headD_cons, List.tail_cons]
  refine ln undAs ?_
  refine bi_lss_c (fun h => ?a) (fun h => ?b)
  case' a =>
    have hk' : k < l.length := by omega
    (repeat with_reducible first|refine z_a ?_|refine z_b ?_|refine z_c ?_|refine z_d ?_|refine z_e ?_|refine z_f ?_|refine z_g ?_|refine z_h ?_|refine z_i ?_|refine z_j ?_|refine z_k ?_|refine z_l ?_|refine z_m (by omega) ?_|refine z_n (by omega) ?_|refine z_o (by omega) ?_|refine z_p (by omega) ?_|refine z_q (by omega) ?_|refine z_r (by omega) ?_|refine z_s (by omega) ?_|refine z_t (by omega) ?_|refine z_u (by omega) ?_|refine z_v (by omega) ?_|refine z_w (by omega) ?_|refine z_x (by omega) ?_|refine z_y (by omega) ?_|refine z_z (by omega) ?_|refine z_A ?_|refine z_B ?_|refine z_C ?_|refine z_D ?_|refine z_E ?_|refine z_F ?_|refine z_G ?_|refine z_H ?_|refine z_I ?_)
    refine bi_leq_c (fun h2 => ?a1) (fun h2 => ?a2)
  case a1 =>
    obtain ⟨a, Af, cf, rfl, q0, q1, q2, q3, hrd⟩ := acB_at (keeps_AcB _ _ _ _ hb1 hv) k hk'
    (repeat with_reducible first | refine ixN undAs szA k hk' ?_| refine fdA p2 (by decide) ?_| refine ld oneIs q2 ?_| refine ln undIs ?_|refine z_a ?_|refine z_b ?_|refine z_c ?_|refine z_d ?_|refine z_e ?_|refine z_f ?_|refine z_g ?_|refine z_h ?_|refine z_i ?_|refine z_j ?_|refine z_k ?_|refine z_l ?_|refine z_m (by omega) ?_|refine z_n (by omega) ?_|refine z_o (by omega) ?_|refine z_p (by omega) ?_|refine z_q (by omega) ?_|refine z_r (by omega) ?_|refine z_s (by omega) ?_|refine z_t (by omega) ?_|refine z_u (by omega) ?_|refine z_v (by omega) ?_|refine z_w (by omega) ?_|refine z_x (by omega) ?_|refine z_y (by omega) ?_|refine z_z (by omega) ?_|refine z_A ?_|refine z_B ?_|refine z_C ?_|refine z_D ?_|refine z_E ?_|refine z_F ?_|refine z_G ?_|refine z_H ?_|refine z_I ?_)
    refine bi_gtr_c (fun h3 => ?_) (fun h3 => ?_)
    · (repeat with_reducible first|refine z_a ?_|refine z_b ?_|refine z_c ?_|refine z_d ?_|refine z_e ?_|refine z_f ?_|refine z_g ?_|refine z_h ?_|refine z_i ?_|refine z_j ?_|refine z_k ?_|refine z_l ?_|refine z_m (by omega) ?_|refine z_n (by omega) ?_|refine z_o (by omega) ?_|refine z_p (by omega) ?_|refine z_q (by omega) ?_|refine z_r (by omega) ?_|refine z_s (by omega) ?_|refine z_t (by omega) ?_|refine z_u (by omega) ?_|refine z_v (by omega) ?_|refine z_w (by omega) ?_|refine z_x (by omega) ?_|refine z_y (by omega) ?_|refine z_z (by omega) ?_|refine z_A ?_|refine z_B ?_|refine z_C ?_|refine z_D ?_|refine z_E ?_|refine z_F ?_|refine z_G ?_|refine z_H ?_|refine z_I ?_)
      exact ⟨false, rfl, (fun e => by cases e), hb1⟩
    (repeat with_reducible first | refine ixN undAs szA k hk' ?_| refine fdA p3 (by decide) ?_|refine z_a ?_|refine z_b ?_|refine z_c ?_|refine z_d ?_|refine z_e ?_|refine z_f ?_|refine z_g ?_|refine z_h ?_|refine z_i ?_|refine z_j ?_|refine z_k ?_|refine z_l ?_|refine z_m (by omega) ?_|refine z_n (by omega) ?_|refine z_o (by omega) ?_|refine z_p (by omega) ?_|refine z_q (by omega) ?_|refine z_r (by omega) ?_|refine z_s (by omega) ?_|refine z_t (by omega) ?_|refine z_u (by omega) ?_|refine z_v (by omega) ?_|refine z_w (by omega) ?_|refine z_x (by omega) ?_|refine z_y (by omega) ?_|refine z_z (by omega) ?_|refine z_A ?_|refine z_B ?_|refine z_C ?_|refine z_D ?_|refine z_E ?_|refine z_F ?_|refine z_G ?_|refine z_H ?_|refine z_I ?_)
    refine ldR (us := rgF l[k].r) agg23 (addAdd q3) (by rw [sz23]; rfl) ?_
    (repeat with_reducible first|refine z_a ?_|refine z_b ?_|refine z_c ?_|refine z_d ?_|refine z_e ?_|refine z_f ?_|refine z_g ?_|refine z_h ?_|refine z_i ?_|refine z_j ?_|refine z_k ?_|refine z_l ?_|refine z_m (by omega) ?_|refine z_n (by omega) ?_|refine z_o (by omega) ?_|refine z_p (by omega) ?_|refine z_q (by omega) ?_|refine z_r (by omega) ?_|refine z_s (by omega) ?_|refine z_t (by omega) ?_|refine z_u (by omega) ?_|refine z_v (by omega) ?_|refine z_w (by omega) ?_|refine z_x (by omega) ?_|refine z_y (by omega) ?_|refine z_z (by omega) ?_|refine z_A ?_|refine z_B ?_|refine z_C ?_|refine z_D ?_|refine z_E ?_|refine z_F ?_|refine z_G ?_|refine z_H ?_|refine z_I ?_)
    refine bs1R l[k].r ?_
    intro v2 w2 ho2 hb2
    (repeat with_reducible first|refine z_a ?_|refine z_b ?_|refine z_c ?_|refine z_d ?_|refine z_e ?_|refine z_f ?_|refine z_g ?_|refine z_h ?_|refine z_i ?_|refine z_j ?_|refine z_k ?_|refine z_l ?_|refine z_m (by omega) ?_|refine z_n (by omega) ?_|refine z_o (by omega) ?_|refine z_p (by omega) ?_|refine z_q (by omega) ?_|refine z_r (by omega) ?_|refine z_s (by omega) ?_|refine z_t (by omega) ?_|refine z_u (by omega) ?_|refine z_v (by omega) ?_|refine z_w (by omega) ?_|refine z_x (by omega) ?_|refine z_y (by omega) ?_|refine z_z (by omega) ?_|refine z_A ?_|refine z_B ?_|refine z_C ?_|refine z_D ?_|refine z_E ?_|refine z_F ?_|refine z_G ?_|refine z_H ?_|refine z_I ?_)
    refine (light11s v2 [l[k].r] 1 (by decide) w2 ho2.rd).mono ?_
    rintro _ _ ⟨z, rfl, hz, rfl⟩
    have hb2' := below_then hb1 hb2
    cases z with
    | false =>
      (repeat with_reducible first|refine z_a ?_|refine z_b ?_|refine z_c ?_|refine z_d ?_|refine z_e ?_|refine z_f ?_|refine z_g ?_|refine z_h ?_|refine z_i ?_|refine z_j ?_|refine z_k ?_|refine z_l ?_|refine z_m (by omega) ?_|refine z_n (by omega) ?_|refine z_o (by omega) ?_|refine z_p (by omega) ?_|refine z_q (by omega) ?_|refine z_r (by omega) ?_|refine z_s (by omega) ?_|refine z_t (by omega) ?_|refine z_u (by omega) ?_|refine z_v (by omega) ?_|refine z_w (by omega) ?_|refine z_x (by omega) ?_|refine z_y (by omega) ?_|refine z_z (by omega) ?_|refine z_A ?_|refine z_B ?_|refine z_C ?_|refine z_D ?_|refine z_E ?_|refine z_F ?_|refine z_G ?_|refine z_H ?_|refine z_I ?_)
      exact ⟨false, rfl, (fun e => by cases e), hb2'⟩
    | true =>
      (repeat with_reducible first|refine z_a ?_|refine z_b ?_|refine z_c ?_|refine z_d ?_|refine z_e ?_|refine z_f ?_|refine z_g ?_|refine z_h ?_|refine z_i ?_|refine z_j ?_|refine z_k ?_|refine z_l ?_|refine z_m (by omega) ?_|refine z_n (by omega) ?_|refine z_o (by omega) ?_|refine z_p (by omega) ?_|refine z_q (by omega) ?_|refine z_r (by omega) ?_|refine z_s (by omega) ?_|refine z_t (by omega) ?_|refine z_u (by omega) ?_|refine z_v (by omega) ?_|refine z_w (by omega) ?_|refine z_x (by omega) ?_|refine z_y (by omega) ?_|refine z_z (by omega) ?_|refine z_A ?_|refine z_B ?_|refine z_C ?_|refine z_D ?_|refine z_E ?_|refine z_F ?_|refine z_G ?_|refine z_H ?_|refine z_I ?_)
      refine hJ _ _ ⟨k + 1, by omega, by omega, by simp, fun a ha => ?_, hb2'⟩ (by simp [intOf]; omega)
      rw [List.take_succ_eq_append_getElem hk'] at ha
      rcases List.mem_append.1 ha with ha | ha
      · exact hall a ha
      · simp only [List.mem_cons, List.not_mem_nil, or_false] at ha
        rw [ha]
        exact ⟨by omega, (hz rfl).2 _ (by simp)⟩
  all_goals
    (repeat with_reducible first|refine z_a ?_|refine z_b ?_|refine z_c ?_|refine z_d ?_|refine z_e ?_|refine z_f ?_|refine z_g ?_|refine z_h ?_|refine z_i ?_|refine z_j ?_|refine z_k ?_|refine z_l ?_|refine z_m (by omega) ?_|refine z_n (by omega) ?_|refine z_o (by omega) ?_|refine z_p (by omega) ?_|refine z_q (by omega) ?_|refine z_r (by omega) ?_|refine z_s (by omega) ?_|refine z_t (by omega) ?_|refine z_u (by omega) ?_|refine z_v (by omega) ?_|refine z_w (by omega) ?_|refine z_x (by omega) ?_|refine z_y (by omega) ?_|refine z_z (by omega) ?_|refine z_A ?_|refine z_B ?_|refine z_C ?_|refine z_D ?_|refine z_E ?_|refine z_F ?_|refine z_G ?_|refine z_H ?_|refine z_I ?_)
    refine ln undAs ?_
    refine bi_leq_c (fun h5 => ?_) (fun h5 => ?_)
    · first
        | (exfalso; omega)
        | (have : k = l.length := by omega
           subst this
           rw [List.take_length] at hall
           exact ⟨true, rfl, fun _ => ⟨by omega, hall⟩, hb1⟩)
    · exact ⟨false, rfl, (fun e => by cases e), hb1⟩
def OwnBy (B : Nat) (w : World) (v : Value) (bs : List UInt8) : Prop := Own 5 w v (bs.map u8) ∧ Fresh B v
theorem OwnBy.kept {B : Nat} {w w' : World} {v : Value} {bs : List UInt8} (h : OwnBy B w v bs) (hb : Below w.heap.size w w') : OwnBy B w' v bs := ⟨h.1.below hb, h.2⟩
theorem apBy {K : Value → World → Prop} {w : World} {cs : Array Bool} {B : Nat} {v x : Value} {bs ys : List UInt8} (h : OwnBy B w v bs) (hB : B ≤ w.heap.size) (hx : RdB w x ys) (hl : bs.length + ys.length ≤ 1000000000) (k : ∀ v' w', OwnBy B w' v' (bs ++ ys) → Below B w w' → K v' w') :
    NextP Try.prog (builtin .append #[84, 84] 84 cs #[v, x]) K w := by
  refine apF B undB infU8 (by rfl) (by decide) h.1 h.2 hB hx (u8_one _) (by rw [List.length_map, List.length_map]; omega) ?_
  intro v' w' ho hf hb _
  exact k v' w' ⟨by rw [List.map_append]; exact ho, hf⟩ hb
theorem aggL : aggB Try.prog 69 = true := by kernel_rfl
theorem zL : (Try.prog.info? 69).bind (·.zero) = some (.agg #[.slice none 0 0, .int .i64 0, .slice none 0 0]) := by kernel_rfl
theorem zRg : (Try.prog.info? 32).bind (·.zero) = some (.agg #[.string ⟨#[]⟩, .string ⟨#[]⟩]) := by kernel_rfl
theorem saveL_parts (x : Ln) : saveL x = (Pack.num x.st.toNat ++ Pack.num x.fs.length) ++ (x.fs.map fun n => Pack.num n.toNat).flatten ++ Pack.texts ((endsT x.rs).map strB) := rfl
theorem flat_take_len {α : Type} (f : α → List UInt8) (l : List α) (k : Nat) : ((l.take k).map f).flatten.length ≤ (l.map f).flatten.length := by
  have e : l.map f = (l.take k).map f ++ (l.drop k).map f := by rw [← List.map_append, List.take_append_drop]
  rw [e, List.flatten_append, List.length_append]
  omega
theorem flat_take_succ {α : Type} (f : α → List UInt8) {l : List α} {k : Nat} (hk : k < l.length) : ((l.take (k + 1)).map f).flatten = ((l.take k).map f).flatten ++ f l[k] := by
  rw [List.take_succ_eq_append_getElem hk, List.map_append, List.flatten_append]
  simp
theorem bss2 {K : Value → World → Prop} {w : World} {x y : Value} {a b : List UInt8} (hx : RdB w x a) (hy : RdB w y b) (k : ∀ v' w', RdSS w' v' [a, b] → Below w.heap.size w w' → K v' w') : LiftP Try.prog (Instr.buildSlice 111 2 #[(0, x), (1, y)]) K w := by
  obtain ⟨A1, c1, rfl, _⟩ := hx.slice
  obtain ⟨A2, c2, rfl, _⟩ := hy.slice
  refine lift (v := .slice (some ⟨w.heap.size, 0, none⟩) 2 2) (w' := w.alloc (.cells #[.slice A1 a.length c1, .slice A2 b.length c2] 84)) (by kernel_rfl) ?_
  have ha : Below w.heap.size w (w.alloc (.cells #[.slice A1 a.length c1, .slice A2 b.length c2] 84)) := (Below.refl _ _).alloc (Nat.le_refl _) _
  refine k _ _ ?_ ha
  refine RdSS.of (cs := [.slice A1 a.length c1, .slice A2 b.length c2]) (Own.new w 84 _ (by simp)).rd rfl ?_
  intro i h1 h2
  match i, h1 with
  | 0, _ => exact hx.below ha
  | 1, _ => exact hy.below ha
theorem bts2 (w : World) (a b : Txt) : (Instr.buildSlice 73 2 #[(0, tS a), (1, tS b)]).run Try.prog w = .ok (.slice (some ⟨w.heap.size, 0, none⟩) 2 2) (w.alloc (.cells #[tS a, tS b] 9)) := by kernel_rfl
section
variable {hu : Nat} {c : Nat → Nat} {w : World} {g n : Nat} {V : BdV}
theorem Save25 (h : BdS hu c w g V) (hok : BdOk n V) (hn : n ≤ 100000) (hlen : (saveB V).length ≤ 1000000) (hsh : ∀ x ∈ V, ∀ t ∈ endsT x.rs, t.length ≤ 100000) :
    CallP Try.prog 25 #[.pointer (some ⟨g, 0, none⟩)] (fun r w' => r = tS (saveB V) ∧ Below w.heap.size w w') w := by
  obtain ⟨vL, M, hA, hV⟩ := h
  refine ⟨S25.calls _ _ _ ?_⟩
  unfold S25
  obtain ⟨A, cL, hvL, hml⟩ := hA.slice
  have h6 := hok.1
  have hVM : V.length = M.length := by rw [← hV, absB_len]
  have hVl : saveB V = Pack.num V.length ++ (V.map saveL).flatten := rfl
  rw [hVl, List.length_append] at hlen
  have hn0 := Pack.num_length V.length
  have cc0 : w.cell? ⟨g, 0, none⟩ = some vL := hA.blk.cell 0
  (repeat with_reducible first | refine fd b0 (by decide) ?_| refine ld oneLs cc0 ?_|refine z_a ?_|refine z_b ?_|refine z_c ?_|refine z_d ?_|refine z_e ?_|refine z_f ?_|refine z_g ?_|refine z_h ?_|refine z_i ?_|refine z_j ?_|refine z_k ?_|refine z_l ?_|refine z_m (by omega) ?_|refine z_n (by omega) ?_|refine z_o (by omega) ?_|refine z_p (by omega) ?_|refine z_q (by omega) ?_|refine z_r (by omega) ?_|refine z_s (by omega) ?_|refine z_t (by omega) ?_|refine z_u (by omega) ?_|refine z_v (by omega) ?_|refine z_w (by omega) ?_|refine z_x (by omega) ?_|refine z_y (by omega) ?_|refine z_z (by omega) ?_|refine z_A ?_|refine z_B ?_|refine z_C ?_|refine z_D ?_|refine z_E ?_|refine z_F ?_|refine z_G ?_|refine z_H ?_|refine z_I ?_)
  rw [hvL]
  refine ln undLs ?_
  refine (Num_spec M.length (by omega) w).mono ?_
  rintro v1 w1 ⟨ho1, hf1, hb1⟩
  have cc1 : w1.cell? ⟨g, 0, none⟩ = some vL := (hA.below hb1).blk.cell 0
  (repeat with_reducible first | refine fd b0 (by decide) ?_| refine ld oneLs cc1 ?_|refine z_a ?_|refine z_b ?_|refine z_c ?_|refine z_d ?_|refine z_e ?_|refine z_f ?_|refine z_g ?_|refine z_h ?_|refine z_i ?_|refine z_j ?_|refine z_k ?_|refine z_l ?_|refine z_m (by omega) ?_|refine z_n (by omega) ?_|refine z_o (by omega) ?_|refine z_p (by omega) ?_|refine z_q (by omega) ?_|refine z_r (by omega) ?_|refine z_s (by omega) ?_|refine z_t (by omega) ?_|refine z_u (by omega) ?_|refine z_v (by omega) ?_|refine z_w (by omega) ?_|refine z_x (by omega) ?_|refine z_y (by omega) ?_|refine z_z (by omega) ?_|refine z_A ?_|refine z_B ?_|refine z_C ?_|refine z_D ?_|refine z_E ?_|refine z_F ?_|refine z_G ?_|refine z_H ?_|refine z_I ?_)
  rw [hvL]
  refine ln undLs ?_
  refine LoopP.inv2 (fun ov iv w' => ∃ i : Nat, i ≤ V.length ∧ iv = .int .i64 i ∧ OwnBy w.heap.size w' ov (Pack.num V.length ++ ((V.take i).map saveL).flatten) ∧ Below w.heap.size w w') (fun _ iv _ => V.length - (intOf iv).toNat)
    ⟨0, by omega, rfl, ⟨by rw [hVM]; simpa using ho1, hf1⟩, hb1⟩ ?_
  rintro ov _ w2 ⟨i, hi, rfl, hown, hb2⟩ J hJ
  dsimp only [List.headD_cons, List.tail_cons]
  have hs2 := hb2.size
  have hpre := flat_take_len saveL V i
  refine bi_lss_c (fun hlt => ?_) (fun hlt => ?_)
  rotate_left
  · have : i = V.length := by omega
    subst this
    rw [List.take_length] at hown
    (repeat with_reducible first|refine z_a ?_|refine z_b ?_|refine z_c ?_|refine z_d ?_|refine z_e ?_|refine z_f ?_|refine z_g ?_|refine z_h ?_|refine z_i ?_|refine z_j ?_|refine z_k ?_|refine z_l ?_|refine z_m (by omega) ?_|refine z_n (by omega) ?_|refine z_o (by omega) ?_|refine z_p (by omega) ?_|refine z_q (by omega) ?_|refine z_r (by omega) ?_|refine z_s (by omega) ?_|refine z_t (by omega) ?_|refine z_u (by omega) ?_|refine z_v (by omega) ?_|refine z_w (by omega) ?_|refine z_x (by omega) ?_|refine z_y (by omega) ?_|refine z_z (by omega) ?_|refine z_A ?_|refine z_B ?_|refine z_C ?_|refine z_D ?_|refine z_E ?_|refine z_F ?_|refine z_G ?_|refine z_H ?_|refine z_I ?_)
    refine cvBS undB undU8 undT9 hown.1.rdB ?_
    exact ⟨rfl, hb2⟩
  have hi' : i < V.length := by omega
  have hiM : i < M.length := by omega
  have hAc := hA.below hb2
  have hMV : M[i].x = V[i] := by
    have := absB_get (M := M) (j := i) (by rw [hV]; exact hi')
    rw [← this]; simp only [hV]
  have hxo := hok.2 _ (List.getElem_mem hi')
  have hcell : ∀ j u, (lmF M[i])[j]? = some u → w2.cell? ((A.getD ⟨0, 0, none⟩).add (i * 3 + j)) = some u := by
    obtain ⟨gL, cL', e, hc⟩ := rowAt lmF_len (OwnR.of_own hAc.row) i hiM (by decide)
    rw [hvL] at e
    cases e
    intro j u hu
    rw [Option.getD_some, add0, Nat.zero_add]
    exact hc j u hu
  obtain ⟨gL, cL', e, q0, q1, q2⟩ := hAc.at i hiM
  rw [hvL] at e
  cases e
  have hel := hAc.el _ (List.getElem_mem hiM)
  obtain ⟨Af, cf, ef, _⟩ := hel.fo.slice
  have hfrd := hel.frd
  have hsucc := flat_take_succ saveL hi'
  have hsl := flat_take_len saveL V (i + 1)
  rw [hsucc, List.length_append] at hsl
  have hpl : (saveL V[i]).length = ((Pack.num V[i].st.toNat).length + (Pack.num V[i].fs.length).length) + ((V[i].fs.map fun n => Pack.num n.toNat).flatten).length + (Pack.texts ((endsT V[i].rs).map strB)).length := by
    rw [saveL_parts]
    simp only [List.length_append]
  (repeat with_reducible first|refine z_a ?_|refine z_b ?_|refine z_c ?_|refine z_d ?_|refine z_e ?_|refine z_f ?_|refine z_g ?_|refine z_h ?_|refine z_i ?_|refine z_j ?_|refine z_k ?_|refine z_l ?_|refine z_m (by omega) ?_|refine z_n (by omega) ?_|refine z_o (by omega) ?_|refine z_p (by omega) ?_|refine z_q (by omega) ?_|refine z_r (by omega) ?_|refine z_s (by omega) ?_|refine z_t (by omega) ?_|refine z_u (by omega) ?_|refine z_v (by omega) ?_|refine z_w (by omega) ?_|refine z_x (by omega) ?_|refine z_y (by omega) ?_|refine z_z (by omega) ?_|refine z_A ?_|refine z_B ?_|refine z_C ?_|refine z_D ?_|refine z_E ?_|refine z_F ?_|refine z_G ?_|refine z_H ?_|refine z_I ?_)
  refine ixG undLs szL i hiM ?_
  refine ldR (us := lmF M[i]) aggL (fun j u hu => by
    have := hcell j u hu
    rw [Option.getD_some, add0, Nat.zero_add] at this
    rw [add0]
    exact this) (by rw [szL]; rfl) ?_
  refine alB zL ?_
  intro g3 w3 hg3 hB3 h3
  refine stB (cells := (lmF M[i]).toArray) hB3 szL rfl (by
    rw [Array.all_eq_true_iff_forall_mem]
    intro x hx
    exact lmF_one hel x (by simpa using hx)) ?_
  intro w4 hB4 hT4
  have h4 : Below w2.heap.size w2 w4 := below_own h3 hT4 (by omega)
  have hb4 := below_then hb2 h4
  have k0 : ∀ w', Below w4.heap.size w4 w' → w'.cell? ⟨g3, 0, none⟩ = some M[i].fv := fun w' hb => (hB4.below' hb).cell 0
  have k1 : ∀ w', Below w4.heap.size w4 w' → w'.cell? ⟨g3, 1, none⟩ = some (.int .i64 M[i].x.st) := fun w' hb => (hB4.below' hb).cell 1
  have hr4 := Below.refl w4.heap.size w4
  have hst3 := hxo.st
  have hstn : M[i].x.st = ((V[i].st.toNat : Nat) : Int) := by rw [hMV]; omega
  have hfl : V[i].fs.length ≤ 2 ∧ ∀ m ∈ V[i].fs, 0 ≤ m ∧ m < 4 := by
    by_cases h3 : V[i].st = 3
    · rw [hxo.gone h3]; simp
    · have := ckI_len (hxo.fs h3)
      exact ⟨this.2.1, this.2.2.1⟩
  (repeat with_reducible first | refine fd l0 (by decide) ?_| refine ld oneIs (k0 _ hr4) ?_| refine fd l1 (by decide) ?_| refine ld oneI (k1 _ hr4) ?_|refine z_a ?_|refine z_b ?_|refine z_c ?_|refine z_d ?_|refine z_e ?_|refine z_f ?_|refine z_g ?_|refine z_h ?_|refine z_i ?_|refine z_j ?_|refine z_k ?_|refine z_l ?_|refine z_m (by omega) ?_|refine z_n (by omega) ?_|refine z_o (by omega) ?_|refine z_p (by omega) ?_|refine z_q (by omega) ?_|refine z_r (by omega) ?_|refine z_s (by omega) ?_|refine z_t (by omega) ?_|refine z_u (by omega) ?_|refine z_v (by omega) ?_|refine z_w (by omega) ?_|refine z_x (by omega) ?_|refine z_y (by omega) ?_|refine z_z (by omega) ?_|refine z_A ?_|refine z_B ?_|refine z_C ?_|refine z_D ?_|refine z_E ?_|refine z_F ?_|refine z_G ?_|refine z_H ?_|refine z_I ?_)
  rw [hstn]
  refine (Num_spec V[i].st.toNat (by omega) w4).mono ?_
  rintro v5 w5 ⟨ho5, hf5, h5⟩
  rw [ef, hMV]
  refine ln undIs ?_
  refine (Num_spec V[i].fs.length (by omega) w5).mono ?_
  rintro v6 w6 ⟨ho6, hf6, h6⟩
  refine bss2 (ho5.below h6).rdB ho6.rdB ?_
  intro v7 w7 ho7 h7
  have h57 := below_then (below_then h5 h6) h7
  refine (Join_spec v7 _ w7 ho7 (by simp) (by
    simp only [List.flatten_cons, List.flatten_nil, List.append_nil, List.length_append]; omega)).mono ?_
  rintro v8 w8 ⟨ho8, hf8, h8⟩
  have h48 := below_then h57 h8
  have hb8 := below_then hb4 h48
  have e8 : [Pack.num V[i].st.toNat, Pack.num V[i].fs.length].flatten = Pack.num V[i].st.toNat ++ Pack.num V[i].fs.length := by simp
  rw [e8] at ho8
  have hown8 := (hown.kept h4).kept h48
  refine apBy hown8 hb8.size ho8.rdB (by simp only [List.length_append]; omega) ?_
  intro v9 w9 ho9 h9
  have hb9 := hb8.trans h9
  refine ln undIs ?_
  have hAf : Rd w2 (.slice Af V[i].fs.length cf) (iV V[i].fs) := by
    have := hfrd
    rw [ef, hMV] at this
    exact this
  -- the fields
  refine LoopP.inv2 (fun ov iv w' => ∃ k : Nat, k ≤ V[i].fs.length ∧ iv = .int .i64 k ∧ OwnBy w.heap.size w' ov (Pack.num V.length ++ ((V.take i).map saveL).flatten ++ (Pack.num V[i].st.toNat ++ Pack.num V[i].fs.length) ++ ((V[i].fs.take k).map fun n => Pack.num n.toNat).flatten) ∧ Below w.heap.size w w') (fun _ iv _ => V[i].fs.length - (intOf iv).toNat)
    ⟨0, by omega, rfl, by simpa using ho9, hb9⟩ ?_
  rintro ov2 _ wa ⟨k, hk, rfl, howna, hba⟩ J1 hJ1
  dsimp only [List.headD_cons, List.tail_cons]
  have hfk := flat_take_len (fun n : Int => Pack.num n.toNat) V[i].fs k
  refine bi_lss_c (fun hltk => ?_) (fun hltk => ?_)
  · have hk' : k < V[i].fs.length := by omega
    have hm := hfl.2 _ (List.getElem_mem hk')
    -- the fields are never turned: they stand since the beginning
    have hfw : Rd wa (.slice Af V[i].fs.length cf) (iV V[i].fs) := by
      have h0 := (hA.below hba).el _ (List.getElem_mem hiM)
      have := h0.frd
      rw [ef, hMV] at this
      exact this
    obtain ⟨a, ha, hca⟩ := Rd.atI hfw k hk'
    subst ha
    have hfk1 := flat_take_succ (fun n : Int => Pack.num n.toNat) hk'
    have hfk2 := flat_take_len (fun n : Int => Pack.num n.toNat) V[i].fs (k + 1)
    rw [hfk1, List.length_append] at hfk2
    (repeat with_reducible first|refine z_a ?_|refine z_b ?_|refine z_c ?_|refine z_d ?_|refine z_e ?_|refine z_f ?_|refine z_g ?_|refine z_h ?_|refine z_i ?_|refine z_j ?_|refine z_k ?_|refine z_l ?_|refine z_m (by omega) ?_|refine z_n (by omega) ?_|refine z_o (by omega) ?_|refine z_p (by omega) ?_|refine z_q (by omega) ?_|refine z_r (by omega) ?_|refine z_s (by omega) ?_|refine z_t (by omega) ?_|refine z_u (by omega) ?_|refine z_v (by omega) ?_|refine z_w (by omega) ?_|refine z_x (by omega) ?_|refine z_y (by omega) ?_|refine z_z (by omega) ?_|refine z_A ?_|refine z_B ?_|refine z_C ?_|refine z_D ?_|refine z_E ?_|refine z_F ?_|refine z_G ?_|refine z_H ?_|refine z_I ?_)
    refine ix1 undIs szI hk' ?_
    refine ld oneI hca ?_
    rw [show V[i].fs[k] = ((V[i].fs[k].toNat : Nat) : Int) by omega]
    refine (Num_spec V[i].fs[k].toNat (by omega) wa).mono ?_
    rintro vb wb ⟨hob, hfb, hb⟩
    have hbb := below_then hba hb
    refine apBy (howna.kept hb) hbb.size hob.rdB (by simp only [List.length_append]; omega) ?_
    intro vc wc hoc hc
    (repeat with_reducible first|refine z_a ?_|refine z_b ?_|refine z_c ?_|refine z_d ?_|refine z_e ?_|refine z_f ?_|refine z_g ?_|refine z_h ?_|refine z_i ?_|refine z_j ?_|refine z_k ?_|refine z_l ?_|refine z_m (by omega) ?_|refine z_n (by omega) ?_|refine z_o (by omega) ?_|refine z_p (by omega) ?_|refine z_q (by omega) ?_|refine z_r (by omega) ?_|refine z_s (by omega) ?_|refine z_t (by omega) ?_|refine z_u (by omega) ?_|refine z_v (by omega) ?_|refine z_w (by omega) ?_|refine z_x (by omega) ?_|refine z_y (by omega) ?_|refine z_z (by omega) ?_|refine z_A ?_|refine z_B ?_|refine z_C ?_|refine z_D ?_|refine z_E ?_|refine z_F ?_|refine z_G ?_|refine z_H ?_|refine z_I ?_)
    refine hJ1 _ _ _ ⟨k + 1, by omega, by simp, ?_, hbb.trans hc⟩ (by simp [intOf]; omega)
    rw [hfk1, ← List.append_assoc]
    exact hoc
  have : k = V[i].fs.length := by omega
  subst this
  rw [List.take_length] at howna
  (repeat with_reducible first|refine z_a ?_|refine z_b ?_|refine z_c ?_|refine z_d ?_|refine z_e ?_|refine z_f ?_|refine z_g ?_|refine z_h ?_|refine z_i ?_|refine z_j ?_|refine z_k ?_|refine z_l ?_|refine z_m (by omega) ?_|refine z_n (by omega) ?_|refine z_o (by omega) ?_|refine z_p (by omega) ?_|refine z_q (by omega) ?_|refine z_r (by omega) ?_|refine z_s (by omega) ?_|refine z_t (by omega) ?_|refine z_u (by omega) ?_|refine z_v (by omega) ?_|refine z_w (by omega) ?_|refine z_x (by omega) ?_|refine z_y (by omega) ?_|refine z_z (by omega) ?_|refine z_A ?_|refine z_B ?_|refine z_C ?_|refine z_D ?_|refine z_E ?_|refine z_F ?_|refine z_G ?_|refine z_H ?_|refine z_I ?_)
  -- the ranges
  have hlf : lfV V ((i : Int) + 1) = V[i].rs := by
    have := lfV_at (M := M) i hiM (id := (i : Int) + 1) rfl
    rw [hV, hMV] at this
    by_cases h1 : V[i].st = 1
    · exact this h1
    · rw [hxo.no h1]
      unfold lfV
      rw [if_neg]
      rw [stV_at (by omega) (by omega)]
      have e : ((i : Int) + 1 - 1).toNat = i := by omega
      simp only [e]
      exact h1
  refine (Left20 (n := n) ((i : Int) + 1) (by omega) (⟨vL, M, hA.below hba, hV⟩ : BdS hu c wa g V) hok hn).mono ?_
  rintro vl wb ⟨hol, hb⟩
  rw [hlf] at hol
  have hbb := below_then hba hb
  obtain ⟨Al, cl, hvl, hl1, hl2⟩ := hol.rd.slice
  rw [hvl]
  refine ln und26 ?_
  refine LoopP.inv2 (fun ev iv w' => ∃ k : Nat, k ≤ V[i].rs.length ∧ iv = .int .i64 k ∧ Own 9 w' ev ((endsT (V[i].rs.take k)).map tS) ∧ Fresh wb.heap.size ev ∧ Below wb.heap.size wb w') (fun _ iv _ => V[i].rs.length - (intOf iv).toNat)
    ⟨0, by omega, rfl, Own.nil 9 wb, Fresh.nil _, Below.refl _ _⟩ ?_
  rintro ev _ wc ⟨k, hk, rfl, hoe, hfe, hc⟩ J2 hJ2
  dsimp only [List.headD_cons, List.tail_cons]
  have hrl : V[i].rs.length ≤ 100000 := Nat.le_trans hxo.len hn
  refine bi_lss_c (fun hltk2 => ?_) (fun hltk2 => ?_)
  · have hk' : k < V[i].rs.length := by omega
    have hrc := hol.rd.kept hc
    rw [hvl] at hrc
    obtain ⟨a, ha, hcell⟩ := RgR.at hrc k hk'
    subst ha
    (repeat with_reducible first|refine z_a ?_|refine z_b ?_|refine z_c ?_|refine z_d ?_|refine z_e ?_|refine z_f ?_|refine z_g ?_|refine z_h ?_|refine z_i ?_|refine z_j ?_|refine z_k ?_|refine z_l ?_|refine z_m (by omega) ?_|refine z_n (by omega) ?_|refine z_o (by omega) ?_|refine z_p (by omega) ?_|refine z_q (by omega) ?_|refine z_r (by omega) ?_|refine z_s (by omega) ?_|refine z_t (by omega) ?_|refine z_u (by omega) ?_|refine z_v (by omega) ?_|refine z_w (by omega) ?_|refine z_x (by omega) ?_|refine z_y (by omega) ?_|refine z_z (by omega) ?_|refine z_A ?_|refine z_B ?_|refine z_C ?_|refine z_D ?_|refine z_E ?_|refine z_F ?_|refine z_G ?_|refine z_H ?_|refine z_I ?_)
    refine ixN und26 sz23 k hk' ?_
    refine ldR (us := rgF V[i].rs[k]) agg23 hcell (by rw [sz23]; rfl) ?_
    refine alB zRg ?_
    intro gd wd hgd hBd hd
    refine stB (cells := rgA V[i].rs[k]) hBd (by rw [sz23]; rfl) rfl (rgA_one _) ?_
    intro we hBe hTe
    have he : Below wc.heap.size wc we := below_own hd hTe (by omega)
    have hce := below_then hc he
    have e0 : we.cell? ⟨gd, 0, none⟩ = some (tS V[i].rs[k].1) := hBe.cell 0
    have e1 : we.cell? ⟨gd, 1, none⟩ = some (tS V[i].rs[k].2) := hBe.cell 1
    (repeat with_reducible first | refine fd g0 (by decide) ?_| refine ld one9 e0 ?_| refine fd g1 (by decide) ?_| refine ld one9 e1 ?_|refine z_a ?_|refine z_b ?_|refine z_c ?_|refine z_d ?_|refine z_e ?_|refine z_f ?_|refine z_g ?_|refine z_h ?_|refine z_i ?_|refine z_j ?_|refine z_k ?_|refine z_l ?_|refine z_m (by omega) ?_|refine z_n (by omega) ?_|refine z_o (by omega) ?_|refine z_p (by omega) ?_|refine z_q (by omega) ?_|refine z_r (by omega) ?_|refine z_s (by omega) ?_|refine z_t (by omega) ?_|refine z_u (by omega) ?_|refine z_v (by omega) ?_|refine z_w (by omega) ?_|refine z_x (by omega) ?_|refine z_y (by omega) ?_|refine z_z (by omega) ?_|refine z_A ?_|refine z_B ?_|refine z_C ?_|refine z_D ?_|refine z_E ?_|refine z_F ?_|refine z_G ?_|refine z_H ?_|refine z_I ?_)
    refine bsO (xs := [tS V[i].rs[k].1, tS V[i].rs[k].2]) (bts2 we _ _) rfl (by decide) ?_
    intro vf wf hof _ hf
    have hcf := below_then hce hf
    refine apF wb.heap.size undTx infT9 (by rfl) (by decide) ((hoe.below he).below hf) hfe hcf.size hof.rd (fun x hx => by
      simp only [List.mem_cons, List.not_mem_nil, or_false] at hx
      rcases hx with rfl | rfl <;> rfl) (by rw [List.length_map, ends_len, List.length_take]; simp; omega) ?_
    intro vg wg hog hfg hg _
    (repeat with_reducible first|refine z_a ?_|refine z_b ?_|refine z_c ?_|refine z_d ?_|refine z_e ?_|refine z_f ?_|refine z_g ?_|refine z_h ?_|refine z_i ?_|refine z_j ?_|refine z_k ?_|refine z_l ?_|refine z_m (by omega) ?_|refine z_n (by omega) ?_|refine z_o (by omega) ?_|refine z_p (by omega) ?_|refine z_q (by omega) ?_|refine z_r (by omega) ?_|refine z_s (by omega) ?_|refine z_t (by omega) ?_|refine z_u (by omega) ?_|refine z_v (by omega) ?_|refine z_w (by omega) ?_|refine z_x (by omega) ?_|refine z_y (by omega) ?_|refine z_z (by omega) ?_|refine z_A ?_|refine z_B ?_|refine z_C ?_|refine z_D ?_|refine z_E ?_|refine z_F ?_|refine z_G ?_|refine z_H ?_|refine z_I ?_)
    refine hJ2 _ _ _ ⟨k + 1, by omega, by simp, ?_, hfg, hcf.trans hg⟩ (by simp [intOf]; omega)
    rw [List.take_succ_eq_append_getElem hk']
    unfold endsT at hog ⊢
    rw [List.flatMap_append, List.map_append]
    simpa using hog
  have : k = V[i].rs.length := by omega
  subst this
  rw [List.take_length] at hoe
  have hec : (endsT V[i].rs).map tS = ((endsT V[i].rs).map strB).map Value.string := by
    rw [List.map_map]; rfl
  rw [hec] at hoe
  have hcb := below_then hbb hc
  (repeat with_reducible first|refine z_a ?_|refine z_b ?_|refine z_c ?_|refine z_d ?_|refine z_e ?_|refine z_f ?_|refine z_g ?_|refine z_h ?_|refine z_i ?_|refine z_j ?_|refine z_k ?_|refine z_l ?_|refine z_m (by omega) ?_|refine z_n (by omega) ?_|refine z_o (by omega) ?_|refine z_p (by omega) ?_|refine z_q (by omega) ?_|refine z_r (by omega) ?_|refine z_s (by omega) ?_|refine z_t (by omega) ?_|refine z_u (by omega) ?_|refine z_v (by omega) ?_|refine z_w (by omega) ?_|refine z_x (by omega) ?_|refine z_y (by omega) ?_|refine z_z (by omega) ?_|refine z_A ?_|refine z_B ?_|refine z_C ?_|refine z_D ?_|refine z_E ?_|refine z_F ?_|refine z_G ?_|refine z_H ?_|refine z_I ?_)
  refine (Texts_spec ev ((endsT V[i].rs).map strB) wc hoe.rd (by rw [List.length_map, ends_len]; omega) (fun s hs => by
    obtain ⟨t, ht, rfl⟩ := List.mem_map.1 hs
    rw [strB_size]
    exact hsh _ (List.getElem_mem hi') t ht)).mono ?_
  rintro vt wd ⟨hot, hft, hd⟩
  have hcd := below_then hcb hd
  refine apBy ((howna.kept hb).kept (below_then hc hd)) hcd.size hot.rdB (by simp only [List.length_append]; omega) ?_
  intro vo we hoo he
  (repeat with_reducible first|refine z_a ?_|refine z_b ?_|refine z_c ?_|refine z_d ?_|refine z_e ?_|refine z_f ?_|refine z_g ?_|refine z_h ?_|refine z_i ?_|refine z_j ?_|refine z_k ?_|refine z_l ?_|refine z_m (by omega) ?_|refine z_n (by omega) ?_|refine z_o (by omega) ?_|refine z_p (by omega) ?_|refine z_q (by omega) ?_|refine z_r (by omega) ?_|refine z_s (by omega) ?_|refine z_t (by omega) ?_|refine z_u (by omega) ?_|refine z_v (by omega) ?_|refine z_w (by omega) ?_|refine z_x (by omega) ?_|refine z_y (by omega) ?_|refine z_z (by omega) ?_|refine z_A ?_|refine z_B ?_|refine z_C ?_|refine z_D ?_|refine z_E ?_|refine z_F ?_|refine z_G ?_|refine z_H ?_|refine z_I ?_)
  refine hJ _ _ _ ⟨i + 1, by omega, by simp, ?_, hcd.trans he⟩ (by simp [intOf]; omega)
  rw [hsucc, saveL_parts]
  simpa [List.append_assoc] using hoo
end
end Go.Proofs.Ytcfncjejpjjhdaa.E
namespace Go.Proofs.Ytcfncjejpjjhdaa.E
open Go Go.RowKit
set_option linter.unusedSimpArgs false
set_option linter.unusedVariables false

theorem rd0 : fofs Try.prog 86 0 = some (0, 1) := by kernel_rfl
theorem rd1 : fofs Try.prog 86 1 = some (1, 1) := by kernel_rfl
theorem rd2 : fofs Try.prog 86 2 = some (2, 1) := by kernel_rfl
structure RdAt (w : World) (g : Nat) (v : Value) (bs : List UInt8) (st : St) : Prop where
  blk : Blk w g 86 #[v, .int .i64 st.1, .bool st.2]
  rd : RdB w v bs
  le : st.1 ≤ bs.length
  ne : bs = [] ∨ ∀ b, v.ownBlock = some b → b ≠ g
theorem RdAt.turns {w w' : World} {g : Nat} {v : Value} {bs : List UInt8} {st : St} {F : Nat → Prop} (h : RdAt w g v bs st) (hT : Turns F w w') (hg : ¬ F g) (hv : bs = [] ∨ ∀ b, v.ownBlock = some b → ¬ F b) : RdAt w' g v bs st :=
  ⟨h.blk.turns hT hg, h.rd.turns hT hv, h.le, h.ne⟩
theorem RdAt.below {w w' : World} {g : Nat} {v : Value} {bs : List UInt8} {st : St} (h : RdAt w g v bs st) (hb : Below w.heap.size w w') : RdAt w' g v bs st := h.turns (F := fun _ => False) (Turns.of_below hb) (fun h => h) (.inr fun _ _ h => h)
theorem rNum_le {bs : List UInt8} {most : Nat} {st : St} (h : st.1 ≤ bs.length) : (rNum bs most st).2.1 ≤ bs.length := by
  unfold rNum
  split
  · exact h
  · by_cases h2 : (getAt bs st.1).2.2 = 0
    · exact (getAt_le bs _ h h2).2
    · show (getAt bs st.1).2.1 ≤ _
      rw [getAt_err bs _ h2]; omega
theorem rTexts_le {bs : List UInt8} {st : St} (h : st.1 ≤ bs.length) : (rTexts bs st).2.1 ≤ bs.length := by
  unfold rTexts
  split
  · exact h
  · by_cases h2 : (textsAt bs st.1 bs.length bs.length).2.2 = 0
    · exact textsAt_le bs _ _ _ h h2
    · show (textsAt bs st.1 bs.length bs.length).2.1 ≤ _
      have : textsAt bs st.1 bs.length bs.length = ([], 0, (textsAt bs st.1 bs.length bs.length).2.2) := by
        unfold textsAt at h2 ⊢
        split
        · rfl
        · rename_i h3
          rw [if_neg h3] at h2
          split
          · rfl
          · rename_i h4
            rw [if_neg h4] at h2
            exact textsFrom_err bs _ _ _ h2
      rw [this]; simp
/-- The reader's place and mark are set. -/
theorem RdAt.put {w : World} {g : Nat} {v : Value} {bs : List UInt8} {st : St} (h : RdAt w g v bs st) (a : Nat) (b : Bool) (ha : a ≤ bs.length) :
    ∃ w1, w1 = w.setCell ⟨g, 1, none⟩ (.int .i64 a) ∧ (w.cell? ⟨g, 1, none⟩).isSome = true ∧ w.frozen? ⟨g, 1, none⟩ = false ∧ (w1.cell? ⟨g, 2, none⟩).isSome = true ∧ w1.frozen? ⟨g, 2, none⟩ = false ∧ RdAt (w1.setCell ⟨g, 2, none⟩ (.bool b)) g v bs (a, b) ∧ Turns (fun k => k = g) w (w1.setCell ⟨g, 2, none⟩ (.bool b)) := by
  have hb1 := h.blk.set_ 1 (.int .i64 a)
  have hT1 := Turns.setCell (F := fun k => k = g) (p := ⟨g, 1, none⟩) (Turns.refl _ w) (.inl rfl) (.int .i64 a)
  have hT2 := Turns.setCell (F := fun k => k = g) (p := ⟨g, 2, none⟩) hT1 (.inl rfl) (.bool b)
  refine ⟨_, rfl, by rw [h.blk.cell 1]; rfl, h.blk.frozen 1, by rw [hb1.cell 2]; rfl, hb1.frozen 2, ⟨hb1.set_ 2 (.bool b), h.rd.turns hT2 ?_, ha, h.ne⟩, hT2⟩
  exact h.ne.imp id fun hh b hb e => hh b hb e
theorem num44 {w : World} {g : Nat} {v : Value} {bs : List UInt8} {st : St} (most : Nat) (hm : most ≤ 1000) (h : RdAt w g v bs st) (hbl : bs.length ≤ 1000000) :
    CallP Try.prog 44 #[.pointer (some ⟨g, 0, none⟩), .int .i64 most] (fun r w' => r = .int .i64 (rNum bs most st).1 ∧ RdAt w' g v bs (rNum bs most st).2 ∧ Turns (fun k => k = g) w w') w := by
  refine ⟨S44.calls _ _ _ _ ?_⟩
  unfold S44
  have hle := rNum_le (most := most) h.le
  obtain ⟨at_, bad⟩ := st
  have c2 : w.cell? ⟨g, 2, none⟩ = some (.bool bad) := h.blk.cell 2
  (repeat with_reducible first | refine fd rd2 (by decide) ?_| refine ld oneBo c2 ?_|refine z_a ?_|refine z_b ?_|refine z_c ?_|refine z_d ?_|refine z_e ?_|refine z_f ?_|refine z_g ?_|refine z_h ?_|refine z_i ?_|refine z_j ?_|refine z_k ?_|refine z_l ?_|refine z_m (by omega) ?_|refine z_n (by omega) ?_|refine z_o (by omega) ?_|refine z_p (by omega) ?_|refine z_q (by omega) ?_|refine z_r (by omega) ?_|refine z_s (by omega) ?_|refine z_t (by omega) ?_|refine z_u (by omega) ?_|refine z_v (by omega) ?_|refine z_w (by omega) ?_|refine z_x (by omega) ?_|refine z_y (by omega) ?_|refine z_z (by omega) ?_|refine z_A ?_|refine z_B ?_|refine z_C ?_|refine z_D ?_|refine z_E ?_|refine z_F ?_|refine z_G ?_|refine z_H ?_|refine z_I ?_)
  cases bad with
  | true =>
    (repeat with_reducible first|refine z_a ?_|refine z_b ?_|refine z_c ?_|refine z_d ?_|refine z_e ?_|refine z_f ?_|refine z_g ?_|refine z_h ?_|refine z_i ?_|refine z_j ?_|refine z_k ?_|refine z_l ?_|refine z_m (by omega) ?_|refine z_n (by omega) ?_|refine z_o (by omega) ?_|refine z_p (by omega) ?_|refine z_q (by omega) ?_|refine z_r (by omega) ?_|refine z_s (by omega) ?_|refine z_t (by omega) ?_|refine z_u (by omega) ?_|refine z_v (by omega) ?_|refine z_w (by omega) ?_|refine z_x (by omega) ?_|refine z_y (by omega) ?_|refine z_z (by omega) ?_|refine z_A ?_|refine z_B ?_|refine z_C ?_|refine z_D ?_|refine z_E ?_|refine z_F ?_|refine z_G ?_|refine z_H ?_|refine z_I ?_)
    have e : rNum bs most (at_, true) = (0, (at_, true)) := by unfold rNum; rw [if_pos rfl]
    rw [e]
    exact ⟨rfl, h, Turns.refl _ w⟩
  | false =>
  have e : rNum bs most (at_, false) = ((getAt bs at_).1, (getAt bs at_).2.1, decide ((getAt bs at_).2.2 ≠ 0 ∨ most < (getAt bs at_).1)) := by unfold rNum; rw [if_neg (by simp)]
  rw [e] at hle ⊢
  (repeat with_reducible first|refine z_a ?_|refine z_b ?_|refine z_c ?_|refine z_d ?_|refine z_e ?_|refine z_f ?_|refine z_g ?_|refine z_h ?_|refine z_i ?_|refine z_j ?_|refine z_k ?_|refine z_l ?_|refine z_m (by omega) ?_|refine z_n (by omega) ?_|refine z_o (by omega) ?_|refine z_p (by omega) ?_|refine z_q (by omega) ?_|refine z_r (by omega) ?_|refine z_s (by omega) ?_|refine z_t (by omega) ?_|refine z_u (by omega) ?_|refine z_v (by omega) ?_|refine z_w (by omega) ?_|refine z_x (by omega) ?_|refine z_y (by omega) ?_|refine z_z (by omega) ?_|refine z_A ?_|refine z_B ?_|refine z_C ?_|refine z_D ?_|refine z_E ?_|refine z_F ?_|refine z_G ?_|refine z_H ?_|refine z_I ?_)
  have hdr : Below w.heap.size w w.drew := (Below.refl _ _).drew
  have k0 : ∀ w', Below w.heap.size w w' → w'.cell? ⟨g, 0, none⟩ = some v := fun w' hb => (h.blk.below' hb).cell 0
  have k1 : ∀ w', Below w.heap.size w w' → w'.cell? ⟨g, 1, none⟩ = some (.int .i64 at_) := fun w' hb => (h.blk.below' hb).cell 1
  have hd := h.below hdr
  refine draw (Below w.heap.size w) hdr ?_
  (repeat with_reducible first | refine yfd rd0 (by decide) ?_| refine yl1 oneBB k0 ?_| refine yfd rd1 (by decide) ?_| refine yl1 oneI k1 ?_|refine z_J ?_|refine z_a ?_|refine z_b ?_|refine z_c ?_|refine z_d ?_|refine z_e ?_|refine z_f ?_|refine z_g ?_|refine z_h ?_|refine z_i ?_|refine z_j ?_|refine z_k ?_|refine z_l ?_|refine z_K (by omega) ?_|refine z_L (by omega) ?_|refine z_M (by omega) ?_|refine z_N (by omega) ?_|refine z_O (by omega) ?_|refine z_P (by omega) ?_|refine z_Q (by omega) ?_|refine z_R (by omega) ?_|refine z_S (by omega) ?_|refine z_T (by omega) ?_|refine z_U (by omega) ?_|refine z_V (by omega) ?_|refine z_W (by omega) ?_|refine z_X (by omega) ?_|refine z_Y ?_|refine z_Z ?_|refine z_a1 ?_|refine z_b1 ?_|refine z_c1 ?_|refine z_d1 ?_|refine z_e1 ?_|refine z_f1 ?_|refine z_g1 ?_)
  refine act ?_
  refine (GetNum_spec v bs at_ w.drew hd.rd h.le hbl).mono ?_
  rintro _ _ ⟨rfl, rfl⟩
  refine ⟨_, hdr, fun _ h => h, ?_⟩
  (repeat with_reducible first|refine z_J ?_|refine z_a ?_|refine z_b ?_|refine z_c ?_|refine z_d ?_|refine z_e ?_|refine z_f ?_|refine z_g ?_|refine z_h ?_|refine z_i ?_|refine z_j ?_|refine z_k ?_|refine z_l ?_|refine z_K (by omega) ?_|refine z_L (by omega) ?_|refine z_M (by omega) ?_|refine z_N (by omega) ?_|refine z_O (by omega) ?_|refine z_P (by omega) ?_|refine z_Q (by omega) ?_|refine z_R (by omega) ?_|refine z_S (by omega) ?_|refine z_T (by omega) ?_|refine z_U (by omega) ?_|refine z_V (by omega) ?_|refine z_W (by omega) ?_|refine z_X (by omega) ?_|refine z_Y ?_|refine z_Z ?_|refine z_a1 ?_|refine z_b1 ?_|refine z_c1 ?_|refine z_d1 ?_|refine z_e1 ?_|refine z_f1 ?_|refine z_g1 ?_)
  have fin : ∀ b : Bool, (b = true ↔ (getAt bs at_).2.2 ≠ 0 ∨ most < (getAt bs at_).1) → b = decide ((getAt bs at_).2.2 ≠ 0 ∨ most < (getAt bs at_).1) := fun b hb => by
    rw [Bool.eq_iff_iff, hb, decide_eq_true_eq]
  refine bi_neq_c (fun h1 => ?a) (fun h1 => ?b)
  case' b =>
    (repeat with_reducible first|refine z_a ?_|refine z_b ?_|refine z_c ?_|refine z_d ?_|refine z_e ?_|refine z_f ?_|refine z_g ?_|refine z_h ?_|refine z_i ?_|refine z_j ?_|refine z_k ?_|refine z_l ?_|refine z_m (by omega) ?_|refine z_n (by omega) ?_|refine z_o (by omega) ?_|refine z_p (by omega) ?_|refine z_q (by omega) ?_|refine z_r (by omega) ?_|refine z_s (by omega) ?_|refine z_t (by omega) ?_|refine z_u (by omega) ?_|refine z_v (by omega) ?_|refine z_w (by omega) ?_|refine z_x (by omega) ?_|refine z_y (by omega) ?_|refine z_z (by omega) ?_|refine z_A ?_|refine z_B ?_|refine z_C ?_|refine z_D ?_|refine z_E ?_|refine z_F ?_|refine z_G ?_|refine z_H ?_|refine z_I ?_)
    refine bi_gtr_c (fun h2 => ?b1) (fun h2 => ?b2)
  case' a => have hb' := fin true ⟨fun _ => .inl (by omega), fun _ => rfl⟩
  case' b1 => have hb' := fin true ⟨fun _ => .inr (by omega), fun _ => rfl⟩
  case' b2 => have hb' := fin false ⟨fun e => (by cases e), fun e => by omega⟩
  all_goals
    rw [← hb']
    obtain ⟨w1, hw1, p1, p2, p3, p4, p5, p6⟩ := hd.put (getAt bs at_).2.1 _ hle
    (repeat with_reducible first | refine fd rd1 (by decide) ?_|refine z_a ?_|refine z_b ?_|refine z_c ?_|refine z_d ?_|refine z_e ?_|refine z_f ?_|refine z_g ?_|refine z_h ?_|refine z_i ?_|refine z_j ?_|refine z_k ?_|refine z_l ?_|refine z_m (by omega) ?_|refine z_n (by omega) ?_|refine z_o (by omega) ?_|refine z_p (by omega) ?_|refine z_q (by omega) ?_|refine z_r (by omega) ?_|refine z_s (by omega) ?_|refine z_t (by omega) ?_|refine z_u (by omega) ?_|refine z_v (by omega) ?_|refine z_w (by omega) ?_|refine z_x (by omega) ?_|refine z_y (by omega) ?_|refine z_z (by omega) ?_|refine z_A ?_|refine z_B ?_|refine z_C ?_|refine z_D ?_|refine z_E ?_|refine z_F ?_|refine z_G ?_|refine z_H ?_|refine z_I ?_)
    refine st szI rfl p1 p2 ?_
    rw [← hw1]
    (repeat with_reducible first | refine fd rd2 (by decide) ?_|refine z_a ?_|refine z_b ?_|refine z_c ?_|refine z_d ?_|refine z_e ?_|refine z_f ?_|refine z_g ?_|refine z_h ?_|refine z_i ?_|refine z_j ?_|refine z_k ?_|refine z_l ?_|refine z_m (by omega) ?_|refine z_n (by omega) ?_|refine z_o (by omega) ?_|refine z_p (by omega) ?_|refine z_q (by omega) ?_|refine z_r (by omega) ?_|refine z_s (by omega) ?_|refine z_t (by omega) ?_|refine z_u (by omega) ?_|refine z_v (by omega) ?_|refine z_w (by omega) ?_|refine z_x (by omega) ?_|refine z_y (by omega) ?_|refine z_z (by omega) ?_|refine z_A ?_|refine z_B ?_|refine z_C ?_|refine z_D ?_|refine z_E ?_|refine z_F ?_|refine z_G ?_|refine z_H ?_|refine z_I ?_)
    refine st szBo rfl p3 p4 ?_
    (repeat with_reducible first|refine z_a ?_|refine z_b ?_|refine z_c ?_|refine z_d ?_|refine z_e ?_|refine z_f ?_|refine z_g ?_|refine z_h ?_|refine z_i ?_|refine z_j ?_|refine z_k ?_|refine z_l ?_|refine z_m (by omega) ?_|refine z_n (by omega) ?_|refine z_o (by omega) ?_|refine z_p (by omega) ?_|refine z_q (by omega) ?_|refine z_r (by omega) ?_|refine z_s (by omega) ?_|refine z_t (by omega) ?_|refine z_u (by omega) ?_|refine z_v (by omega) ?_|refine z_w (by omega) ?_|refine z_x (by omega) ?_|refine z_y (by omega) ?_|refine z_z (by omega) ?_|refine z_A ?_|refine z_B ?_|refine z_C ?_|refine z_D ?_|refine z_E ?_|refine z_F ?_|refine z_G ?_|refine z_H ?_|refine z_I ?_)
    exact ⟨rfl, p5, (Turns.of_below hdr).trans (p6.mono fun _ _ e => .inl e)⟩
theorem texts45 {w : World} {g : Nat} {v : Value} {bs : List UInt8} {st : St} (h : RdAt w g v bs st) (hbl : bs.length ≤ 1000000) :
    CallP Try.prog 45 #[.pointer (some ⟨g, 0, none⟩)] (fun r w' => Own 9 w' r (strs (rTexts bs st).1) ∧ Fresh w.heap.size r ∧ RdAt w' g v bs (rTexts bs st).2 ∧ Turns (fun k => k = g) w w') w := by
  refine ⟨S45.calls _ _ _ ?_⟩
  unfold S45
  have hle := rTexts_le h.le
  obtain ⟨at_, bad⟩ := st
  have c2 : w.cell? ⟨g, 2, none⟩ = some (.bool bad) := h.blk.cell 2
  (repeat with_reducible first | refine fd rd2 (by decide) ?_| refine ld oneBo c2 ?_|refine z_a ?_|refine z_b ?_|refine z_c ?_|refine z_d ?_|refine z_e ?_|refine z_f ?_|refine z_g ?_|refine z_h ?_|refine z_i ?_|refine z_j ?_|refine z_k ?_|refine z_l ?_|refine z_m (by omega) ?_|refine z_n (by omega) ?_|refine z_o (by omega) ?_|refine z_p (by omega) ?_|refine z_q (by omega) ?_|refine z_r (by omega) ?_|refine z_s (by omega) ?_|refine z_t (by omega) ?_|refine z_u (by omega) ?_|refine z_v (by omega) ?_|refine z_w (by omega) ?_|refine z_x (by omega) ?_|refine z_y (by omega) ?_|refine z_z (by omega) ?_|refine z_A ?_|refine z_B ?_|refine z_C ?_|refine z_D ?_|refine z_E ?_|refine z_F ?_|refine z_G ?_|refine z_H ?_|refine z_I ?_)
  cases bad with
  | true =>
    (repeat with_reducible first|refine z_a ?_|refine z_b ?_|refine z_c ?_|refine z_d ?_|refine z_e ?_|refine z_f ?_|refine z_g ?_|refine z_h ?_|refine z_i ?_|refine z_j ?_|refine z_k ?_|refine z_l ?_|refine z_m (by omega) ?_|refine z_n (by omega) ?_|refine z_o (by omega) ?_|refine z_p (by omega) ?_|refine z_q (by omega) ?_|refine z_r (by omega) ?_|refine z_s (by omega) ?_|refine z_t (by omega) ?_|refine z_u (by omega) ?_|refine z_v (by omega) ?_|refine z_w (by omega) ?_|refine z_x (by omega) ?_|refine z_y (by omega) ?_|refine z_z (by omega) ?_|refine z_A ?_|refine z_B ?_|refine z_C ?_|refine z_D ?_|refine z_E ?_|refine z_F ?_|refine z_G ?_|refine z_H ?_|refine z_I ?_)
    have e : rTexts bs (at_, true) = ([], (at_, true)) := by unfold rTexts; rw [if_pos rfl]
    rw [e]
    exact ⟨Own.nil 9 w, Fresh.nil _, h, Turns.refl _ w⟩
  | false =>
  have e : rTexts bs (at_, false) = ((textsAt bs at_ bs.length bs.length).1, (textsAt bs at_ bs.length bs.length).2.1, decide ((textsAt bs at_ bs.length bs.length).2.2 ≠ 0)) := by unfold rTexts; rw [if_neg (by simp)]
  rw [e] at hle ⊢
  (repeat with_reducible first|refine z_a ?_|refine z_b ?_|refine z_c ?_|refine z_d ?_|refine z_e ?_|refine z_f ?_|refine z_g ?_|refine z_h ?_|refine z_i ?_|refine z_j ?_|refine z_k ?_|refine z_l ?_|refine z_m (by omega) ?_|refine z_n (by omega) ?_|refine z_o (by omega) ?_|refine z_p (by omega) ?_|refine z_q (by omega) ?_|refine z_r (by omega) ?_|refine z_s (by omega) ?_|refine z_t (by omega) ?_|refine z_u (by omega) ?_|refine z_v (by omega) ?_|refine z_w (by omega) ?_|refine z_x (by omega) ?_|refine z_y (by omega) ?_|refine z_z (by omega) ?_|refine z_A ?_|refine z_B ?_|refine z_C ?_|refine z_D ?_|refine z_E ?_|refine z_F ?_|refine z_G ?_|refine z_H ?_|refine z_I ?_)
  have hdr : Below w.heap.size w w.drew := (Below.refl _ _).drew
  obtain ⟨A, c, hv, _⟩ := h.rd.slice
  have k0 : ∀ w', Below w.heap.size w w' → w'.cell? ⟨g, 0, none⟩ = some v := fun w' hb => (h.blk.below' hb).cell 0
  have k1 : ∀ w', Below w.heap.size w w' → w'.cell? ⟨g, 1, none⟩ = some (.int .i64 at_) := fun w' hb => (h.blk.below' hb).cell 1
  have k0' : ∀ w', Below w.heap.size w w' → w'.cell? ⟨g, 0, none⟩ = some (.slice A bs.length c) := fun w' hb => by rw [← hv]; exact k0 w' hb
  have hd := h.below hdr
  refine draw (Below w.heap.size w) hdr ?_
  (repeat with_reducible first | refine yfd rd0 (by decide) ?_| refine yl1 oneBB k0' ?_| refine yfd rd1 (by decide) ?_| refine yl1 oneI k1 ?_| refine yln undB ?_|refine z_J ?_|refine z_a ?_|refine z_b ?_|refine z_c ?_|refine z_d ?_|refine z_e ?_|refine z_f ?_|refine z_g ?_|refine z_h ?_|refine z_i ?_|refine z_j ?_|refine z_k ?_|refine z_l ?_|refine z_K (by omega) ?_|refine z_L (by omega) ?_|refine z_M (by omega) ?_|refine z_N (by omega) ?_|refine z_O (by omega) ?_|refine z_P (by omega) ?_|refine z_Q (by omega) ?_|refine z_R (by omega) ?_|refine z_S (by omega) ?_|refine z_T (by omega) ?_|refine z_U (by omega) ?_|refine z_V (by omega) ?_|refine z_W (by omega) ?_|refine z_X (by omega) ?_|refine z_Y ?_|refine z_Z ?_|refine z_a1 ?_|refine z_b1 ?_|refine z_c1 ?_|refine z_d1 ?_|refine z_e1 ?_|refine z_f1 ?_|refine z_g1 ?_)
  rw [← hv]
  refine act ?_
  refine (GetTexts_spec v bs at_ bs.length bs.length w.drew hd.rd h.le hbl hbl).mono ?_
  rintro _ w1 ⟨x, rfl, hox, hfx, h1⟩
  have hb1 := below_then hdr h1
  have hd1 := h.below hb1
  refine ⟨_, hb1, fun _ h => h, ?_⟩
  (repeat with_reducible first|refine z_J ?_|refine z_a ?_|refine z_b ?_|refine z_c ?_|refine z_d ?_|refine z_e ?_|refine z_f ?_|refine z_g ?_|refine z_h ?_|refine z_i ?_|refine z_j ?_|refine z_k ?_|refine z_l ?_|refine z_K (by omega) ?_|refine z_L (by omega) ?_|refine z_M (by omega) ?_|refine z_N (by omega) ?_|refine z_O (by omega) ?_|refine z_P (by omega) ?_|refine z_Q (by omega) ?_|refine z_R (by omega) ?_|refine z_S (by omega) ?_|refine z_T (by omega) ?_|refine z_U (by omega) ?_|refine z_V (by omega) ?_|refine z_W (by omega) ?_|refine z_X (by omega) ?_|refine z_Y ?_|refine z_Z ?_|refine z_a1 ?_|refine z_b1 ?_|refine z_c1 ?_|refine z_d1 ?_|refine z_e1 ?_|refine z_f1 ?_|refine z_g1 ?_)
  have hsd := hdr.size
  have fin : ∀ b : Bool, (b = true ↔ (textsAt bs at_ bs.length bs.length).2.2 ≠ 0) → b = decide ((textsAt bs at_ bs.length bs.length).2.2 ≠ 0) := fun b hb => by
    rw [Bool.eq_iff_iff, hb, decide_eq_true_eq]
  refine bi_neq_c (fun h1 => ?a) (fun h1 => ?b)
  case' a => have hb' := fin true ⟨fun _ => by omega, fun _ => rfl⟩
  case' b => have hb' := fin false ⟨fun e => (by cases e), fun e => by omega⟩
  all_goals
    rw [← hb']
    obtain ⟨w2, hw2, p1, p2, p3, p4, p5, p6⟩ := hd1.put (textsAt bs at_ bs.length bs.length).2.1 _ hle
    (repeat with_reducible first | refine fd rd1 (by decide) ?_|refine z_a ?_|refine z_b ?_|refine z_c ?_|refine z_d ?_|refine z_e ?_|refine z_f ?_|refine z_g ?_|refine z_h ?_|refine z_i ?_|refine z_j ?_|refine z_k ?_|refine z_l ?_|refine z_m (by omega) ?_|refine z_n (by omega) ?_|refine z_o (by omega) ?_|refine z_p (by omega) ?_|refine z_q (by omega) ?_|refine z_r (by omega) ?_|refine z_s (by omega) ?_|refine z_t (by omega) ?_|refine z_u (by omega) ?_|refine z_v (by omega) ?_|refine z_w (by omega) ?_|refine z_x (by omega) ?_|refine z_y (by omega) ?_|refine z_z (by omega) ?_|refine z_A ?_|refine z_B ?_|refine z_C ?_|refine z_D ?_|refine z_E ?_|refine z_F ?_|refine z_G ?_|refine z_H ?_|refine z_I ?_)
    refine st szI rfl p1 p2 ?_
    rw [← hw2]
    (repeat with_reducible first | refine fd rd2 (by decide) ?_|refine z_a ?_|refine z_b ?_|refine z_c ?_|refine z_d ?_|refine z_e ?_|refine z_f ?_|refine z_g ?_|refine z_h ?_|refine z_i ?_|refine z_j ?_|refine z_k ?_|refine z_l ?_|refine z_m (by omega) ?_|refine z_n (by omega) ?_|refine z_o (by omega) ?_|refine z_p (by omega) ?_|refine z_q (by omega) ?_|refine z_r (by omega) ?_|refine z_s (by omega) ?_|refine z_t (by omega) ?_|refine z_u (by omega) ?_|refine z_v (by omega) ?_|refine z_w (by omega) ?_|refine z_x (by omega) ?_|refine z_y (by omega) ?_|refine z_z (by omega) ?_|refine z_A ?_|refine z_B ?_|refine z_C ?_|refine z_D ?_|refine z_E ?_|refine z_F ?_|refine z_G ?_|refine z_H ?_|refine z_I ?_)
    refine st szBo rfl p3 p4 ?_
    (repeat with_reducible first|refine z_a ?_|refine z_b ?_|refine z_c ?_|refine z_d ?_|refine z_e ?_|refine z_f ?_|refine z_g ?_|refine z_h ?_|refine z_i ?_|refine z_j ?_|refine z_k ?_|refine z_l ?_|refine z_m (by omega) ?_|refine z_n (by omega) ?_|refine z_o (by omega) ?_|refine z_p (by omega) ?_|refine z_q (by omega) ?_|refine z_r (by omega) ?_|refine z_s (by omega) ?_|refine z_t (by omega) ?_|refine z_u (by omega) ?_|refine z_v (by omega) ?_|refine z_w (by omega) ?_|refine z_x (by omega) ?_|refine z_y (by omega) ?_|refine z_z (by omega) ?_|refine z_A ?_|refine z_B ?_|refine z_C ?_|refine z_D ?_|refine z_E ?_|refine z_F ?_|refine z_G ?_|refine z_H ?_|refine z_I ?_)
    refine ⟨ownsRow_turns hox p6 fun k hk e => ?_, fun k hk => by have := hfx k hk; omega, p5, (Turns.of_below hb1).trans (p6.mono fun _ _ e => .inl e)⟩
    have := hfx k hk
    have := h.blk.lt
    omega
theorem Equal46 (v v' : Value) (l l' : List Rg) (w : World) (hv : RgR w [v] l) (hv' : RgR w [v'] l') : CallP Try.prog 46 #[v, v'] (fun r w' => r = .bool (decide (l = l')) ∧ Below w.heap.size w w') w := by
  obtain ⟨A, c, rfl, hc, hm⟩ := hv.slice
  obtain ⟨A', c', rfl, hc', hm'⟩ := hv'.slice
  refine ⟨S46.calls _ _ _ _ ?_⟩
  unfold S46
  refine ln und26 ?_
  refine ln und26 ?_
  refine bi_neq_c (fun h => ?_) (fun he => ?_)
  · (repeat with_reducible first|refine z_a ?_|refine z_b ?_|refine z_c ?_|refine z_d ?_|refine z_e ?_|refine z_f ?_|refine z_g ?_|refine z_h ?_|refine z_i ?_|refine z_j ?_|refine z_k ?_|refine z_l ?_|refine z_m (by omega) ?_|refine z_n (by omega) ?_|refine z_o (by omega) ?_|refine z_p (by omega) ?_|refine z_q (by omega) ?_|refine z_r (by omega) ?_|refine z_s (by omega) ?_|refine z_t (by omega) ?_|refine z_u (by omega) ?_|refine z_v (by omega) ?_|refine z_w (by omega) ?_|refine z_x (by omega) ?_|refine z_y (by omega) ?_|refine z_z (by omega) ?_|refine z_A ?_|refine z_B ?_|refine z_C ?_|refine z_D ?_|refine z_E ?_|refine z_F ?_|refine z_G ?_|refine z_H ?_|refine z_I ?_)
    exact ⟨fB fun e => h (by rw [e]), Below.refl _ _⟩
  have he : l.length = l'.length := by omega
  (repeat with_reducible first|refine z_a ?_|refine z_b ?_|refine z_c ?_|refine z_d ?_|refine z_e ?_|refine z_f ?_|refine z_g ?_|refine z_h ?_|refine z_i ?_|refine z_j ?_|refine z_k ?_|refine z_l ?_|refine z_m (by omega) ?_|refine z_n (by omega) ?_|refine z_o (by omega) ?_|refine z_p (by omega) ?_|refine z_q (by omega) ?_|refine z_r (by omega) ?_|refine z_s (by omega) ?_|refine z_t (by omega) ?_|refine z_u (by omega) ?_|refine z_v (by omega) ?_|refine z_w (by omega) ?_|refine z_x (by omega) ?_|refine z_y (by omega) ?_|refine z_z (by omega) ?_|refine z_A ?_|refine z_B ?_|refine z_C ?_|refine z_D ?_|refine z_E ?_|refine z_F ?_|refine z_G ?_|refine z_H ?_|refine z_I ?_)
  refine ln und26 ?_
  refine LoopP.inv1 (fun iv w' => ∃ k : Nat, k ≤ l.length ∧ iv = .int .i64 k ∧ l.take k = l'.take k ∧ Below w.heap.size w w') (fun iv _ => l.length - (intOf iv).toNat) ⟨0, by omega, rfl, rfl, Below.refl _ _⟩ ?_
  rintro _ w1 ⟨k, hk, rfl, ht, hb1⟩ J hJ
  dsimp only [List.headD_cons, List.tail_cons]
  refine bi_lss_c (fun h => ?_) (fun h => ?_)
  · have hk' : k < l.length := by omega
    have hk2 : k < l'.length := by omega
    have hdr : Below w1.heap.size w1 w1.drew := (Below.refl _ _).drew
    obtain ⟨a, rfl, hca⟩ := RgR.at (hv.kept hb1) k hk'
    obtain ⟨a', rfl, hca'⟩ := RgR.at (hv'.kept hb1) k hk2
    (repeat with_reducible first|refine z_a ?_|refine z_b ?_|refine z_c ?_|refine z_d ?_|refine z_e ?_|refine z_f ?_|refine z_g ?_|refine z_h ?_|refine z_i ?_|refine z_j ?_|refine z_k ?_|refine z_l ?_|refine z_m (by omega) ?_|refine z_n (by omega) ?_|refine z_o (by omega) ?_|refine z_p (by omega) ?_|refine z_q (by omega) ?_|refine z_r (by omega) ?_|refine z_s (by omega) ?_|refine z_t (by omega) ?_|refine z_u (by omega) ?_|refine z_v (by omega) ?_|refine z_w (by omega) ?_|refine z_x (by omega) ?_|refine z_y (by omega) ?_|refine z_z (by omega) ?_|refine z_A ?_|refine z_B ?_|refine z_C ?_|refine z_D ?_|refine z_E ?_|refine z_F ?_|refine z_G ?_|refine z_H ?_|refine z_I ?_)
    refine draw (Below w1.heap.size w1) hdr ?_
    refine yixA und26 sz23 k hk' ?_
    refine yldR (us := rgF l[k]) agg23 (keepC hca) (by rw [sz23]; rfl) ?_
    refine yixA und26 sz23 k hk2 ?_
    refine yldR (us := rgF l'[k]) agg23 (keepC hca') (by rw [sz23]; rfl) ?_
    refine yofPR (pr_neq23 l[k] l'[k]) ?_
    rcases Classical.em (l[k] = l'[k]) with hn | hn
    · rw [decide_eq_false (fun e => e hn)]
      (repeat with_reducible first|refine z_a ?_|refine z_b ?_|refine z_c ?_|refine z_d ?_|refine z_e ?_|refine z_f ?_|refine z_g ?_|refine z_h ?_|refine z_i ?_|refine z_j ?_|refine z_k ?_|refine z_l ?_|refine z_m (by omega) ?_|refine z_n (by omega) ?_|refine z_o (by omega) ?_|refine z_p (by omega) ?_|refine z_q (by omega) ?_|refine z_r (by omega) ?_|refine z_s (by omega) ?_|refine z_t (by omega) ?_|refine z_u (by omega) ?_|refine z_v (by omega) ?_|refine z_w (by omega) ?_|refine z_x (by omega) ?_|refine z_y (by omega) ?_|refine z_z (by omega) ?_|refine z_A ?_|refine z_B ?_|refine z_C ?_|refine z_D ?_|refine z_E ?_|refine z_F ?_|refine z_G ?_|refine z_H ?_|refine z_I ?_)
      refine hJ _ _ ⟨k + 1, by omega, by simp, ?_, below_then hb1 hdr⟩ (by simp [intOf]; omega)
      rw [List.take_succ_eq_append_getElem hk', List.take_succ_eq_append_getElem hk2, ht, hn]
    · rw [decide_eq_true hn]
      (repeat with_reducible first|refine z_a ?_|refine z_b ?_|refine z_c ?_|refine z_d ?_|refine z_e ?_|refine z_f ?_|refine z_g ?_|refine z_h ?_|refine z_i ?_|refine z_j ?_|refine z_k ?_|refine z_l ?_|refine z_m (by omega) ?_|refine z_n (by omega) ?_|refine z_o (by omega) ?_|refine z_p (by omega) ?_|refine z_q (by omega) ?_|refine z_r (by omega) ?_|refine z_s (by omega) ?_|refine z_t (by omega) ?_|refine z_u (by omega) ?_|refine z_v (by omega) ?_|refine z_w (by omega) ?_|refine z_x (by omega) ?_|refine z_y (by omega) ?_|refine z_z (by omega) ?_|refine z_A ?_|refine z_B ?_|refine z_C ?_|refine z_D ?_|refine z_E ?_|refine z_F ?_|refine z_G ?_|refine z_H ?_|refine z_I ?_)
      exact ⟨fB fun e => hn (by simp only [e]), below_then hb1 hdr⟩
  · have : k = l.length := by omega
    subst this
    rw [List.take_length, he, List.take_length] at ht
    (repeat with_reducible first|refine z_a ?_|refine z_b ?_|refine z_c ?_|refine z_d ?_|refine z_e ?_|refine z_f ?_|refine z_g ?_|refine z_h ?_|refine z_i ?_|refine z_j ?_|refine z_k ?_|refine z_l ?_|refine z_m (by omega) ?_|refine z_n (by omega) ?_|refine z_o (by omega) ?_|refine z_p (by omega) ?_|refine z_q (by omega) ?_|refine z_r (by omega) ?_|refine z_s (by omega) ?_|refine z_t (by omega) ?_|refine z_u (by omega) ?_|refine z_v (by omega) ?_|refine z_w (by omega) ?_|refine z_x (by omega) ?_|refine z_y (by omega) ?_|refine z_z (by omega) ?_|refine z_A ?_|refine z_B ?_|refine z_C ?_|refine z_D ?_|refine z_E ?_|refine z_F ?_|refine z_G ?_|refine z_H ?_|refine z_I ?_)
    exact ⟨tB ht, hb1⟩
section
variable {P : Program} {S : World → Prop}
/-- append(v, x) in a region that draws: any element. -/
theorem apOneB {K : (World → Prop) → Value → World → Prop} {w : World} {t ty e : TypeId} {cs : Array Bool} {z : Value} {size bytes : Nat} (ht : P.underlying t = some (.slice e)) (hinfo : (P.info? e).map (fun i => (i.zero, i.size, i.bytes)) = some (some z, size, bytes)) (hz : z.cells.size = size) (hsz : 0 < size)
    {v : Value} {xs : List Value} {n : Nat} (hown : w.ownsRow 0 e size v n xs) {x : Value} {us : List Value} (hl : us.length = size) (h1 : ∀ u ∈ us, u.oneCell' = true) (h63 : n + 1 ≤ 9223372036854775807) (hbytes : (n + 1) * bytes ≤ 140737488355328)
    (hb : (Instr.buildSlice t 1 #[(0, x)]).run P w = .ok (.slice (some ⟨w.heap.size, 0, none⟩) 1 1) (w.alloc (.cells us.toArray e)))
    (hS : ∀ w', Below w.heap.size w w' → S w')
    (k : ∀ v' w', w'.ownsRow 0 e size v' (n + 1) (xs ++ us) → (v'.ownBlock = v.ownBlock ∨ ∃ b, v'.ownBlock = some b ∧ w.heap.size ≤ b) → Turns (fun j => v.ownBlock = some j) w w' → ∃ S' : World → Prop, S' w' ∧ (∀ x, S' x → S x) ∧ K S' v' w') :
    ActP S (fun K w => LiftP P (Instr.buildSlice t 1 #[(0, x)]) K w) (fun S u w => ActP S (fun K w => NextP P (builtin .append #[t, t] ty cs #[v, u]) K w) K w) w := by
  refine act (lift hb ?_)
  have hB := Blk.new w e us.toArray
  have ha := (Below.refl w.heap.size w).alloc (Nat.le_refl _) (.cells us.toArray e)
  have hs := ha.size
  refine ⟨S, hS _ ha, fun _ h => h, act ?_⟩
  refine apGb ht hinfo hz hsz (ownsRow_turns hown (Turns.of_below (F := fun _ => False) ha) (fun _ _ h => h)) (a := ⟨w.heap.size, 0, none⟩) (m := 1) (c := 1) (news := us) (by rw [hl, Nat.one_mul]) (fun j u hu => by
    rw [add0, Nat.zero_add, hB.cell j]
    simpa using hu) h1 h63 hbytes ?_
  intro v' w' ho hbl hT
  exact k v' w' ho (hbl.imp id fun h => ⟨_, h, hs⟩) ((Turns.of_below ha).trans (hT.mono fun j _ e => .inl e))
end
end Go.Proofs.Ytcfncjejpjjhdaa.E
