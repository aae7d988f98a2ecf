import Derived.Test.YthicbfopjakiiaaMj
namespace Go.Proofs.Ythicbfopjakiiaa.E
open Go Go.RowKit
set_option linter.unusedSimpArgs false
set_option linter.unusedVariables false

def Let.ns (L : Let) : List Int := [L.frm, L.to, L.a, L.b, L.c, L.d, L.code]
theorem ns_good {L : Let} {is : List IntentT} (hk : 0 ≤ L.kind ∧ L.kind ≤ 255) (hn : ∀ n ∈ L.ns, okN n = true) (hi : ∀ x ∈ is, okN x.2.1 = true) : goodL L is = true := by
  unfold goodL
  have h1 : okN L.code = true := hn _ (by simp [Let.ns])
  have h2 : L.nums.all okN = true := List.all_eq_true.2 fun n h => hn n (by
    simp only [Let.nums, Let.ns, List.mem_cons, List.not_mem_nil, or_false] at h ⊢
    rcases h with h | h | h | h | h | h <;> simp [h])
  have h3 : (is.all fun x => okN x.2.1) = true := List.all_eq_true.2 hi
  have h4 : decide (0 ≤ L.code ∧ L.code ≤ 1099511627776) = true := h1
  rw [h2, h3, h4, decide_eq_true hk]; rfl
theorem ns_bad {L : Let} {is : List IntentT} {n : Int} (h : n ∈ L.ns) (hn : okN n = false) : goodL L is = false := by
  unfold goodL
  simp only [Let.ns, List.mem_cons, List.not_mem_nil, or_false] at h
  have key : ∀ m ∈ L.nums, okN m = false → L.nums.all okN = false := fun m hm e => List.all_eq_false.2 ⟨m, hm, by rw [e]; simp⟩
  rcases h with rfl | rfl | rfl | rfl | rfl | rfl | rfl
  · rw [key _ (by simp [Let.nums]) hn]; simp
  · rw [key _ (by simp [Let.nums]) hn]; simp
  · rw [key _ (by simp [Let.nums]) hn]; simp
  · rw [key _ (by simp [Let.nums]) hn]; simp
  · rw [key _ (by simp [Let.nums]) hn]; simp
  · rw [key _ (by simp [Let.nums]) hn]; simp
  · have : decide (0 ≤ L.code ∧ L.code ≤ 1099511627776) = false := hn
    rw [this]; simp
theorem packErr_bad {L : Let} {ps : List PairT} {is : List IntentT} (h : goodL L is = false) : packErr L ps is = 1 := by rw [packErr, if_pos h]
theorem refPack_spec (L : Let) (p q : Value) (ps : List PairT) (is : List IntentT) (w : World) (hp : Pairs w [p] ps) (hq : Intents w [q] is) :
    CallP Try.prog 64 #[.agg (L.cells p q)] (fun r w' => (∃ s, r = .tuple #[.string s, .int .i64 (packErr L ps is)]) ∧ Below w.heap.size w w') w := by
  obtain ⟨A, cA, rfl, hcA, hmA⟩ := hp.slice
  obtain ⟨A', cA', rfl, hcA', hmA'⟩ := hq.slice
  refine ⟨S64.calls _ _ _ ?_⟩
  unfold S64
  refine bxB (cs := L.cells (.slice A ps.length cA) (.slice A' is.length cA')) ?_
  intro g w1 hg hL ha
  have hp1 := keeps_Pairs _ _ _ _ ha hp
  have hq1 := keeps_Intents _ _ _ _ ha hq
  have hfin : ∀ {w'}, Below w1.heap.size w1 w' → Below w.heap.size w w' := fun h => below_then ha h
  have letter : ∀ {w'}, Below w1.heap.size w1 w' → Blk w' g 58 (L.cells (.slice A ps.length cA) (.slice A' is.length cA')) := fun h => hL.below' h
  clear hp hq hg
  have c0 : w1.cell? ⟨g, 0, none⟩ = some (.int .i64 L.kind) := hL.cell 0
  (repeat with_reducible first | refine fd l0 (by decide) ?_| refine ld one3 c0 ?_|refine z_a ?_|refine z_b ?_|refine z_c ?_|refine z_d ?_|refine z_e ?_|refine z_f ?_|refine z_g ?_|refine z_h ?_|refine z_i ?_|refine z_j ?_|refine z_k ?_|refine z_l ?_|refine z_m (by omega) ?_|refine z_n (by omega) ?_|refine z_o (by omega) ?_|refine z_p (by omega) ?_|refine z_q (by omega) ?_|refine z_r (by omega) ?_|refine z_s (by omega) ?_|refine z_t (by omega) ?_|refine z_u (by omega) ?_|refine z_v (by omega) ?_|refine z_w (by omega) ?_|refine z_x (by omega) ?_|refine z_y (by omega) ?_|refine z_z (by omega) ?_|refine z_A ?_|refine z_B ?_|refine z_C ?_|refine z_D ?_|refine z_E ?_|refine z_F ?_|refine z_G ?_|refine z_H ?_|refine z_I ?_|refine z_J ?_|refine z_K (by omega) (by decide) ?_|refine z_L (by omega) (by decide) ?_|refine z_M (by omega) ?_|refine z_N (by omega) ?_|refine z_O (by omega) ?_|refine z_P ?_|refine z_Q ?_|refine z_R ?_|refine z_S ?_|refine z_T ?_|refine z_U (by decide) ?_|refine z_V (by decide) ?_)
  refine bi_lss_c (fun hk => ?_) (fun hk => ?_)
  · (repeat with_reducible first|refine z_a ?_|refine z_b ?_|refine z_c ?_|refine z_d ?_|refine z_e ?_|refine z_f ?_|refine z_g ?_|refine z_h ?_|refine z_i ?_|refine z_j ?_|refine z_k ?_|refine z_l ?_|refine z_m (by omega) ?_|refine z_n (by omega) ?_|refine z_o (by omega) ?_|refine z_p (by omega) ?_|refine z_q (by omega) ?_|refine z_r (by omega) ?_|refine z_s (by omega) ?_|refine z_t (by omega) ?_|refine z_u (by omega) ?_|refine z_v (by omega) ?_|refine z_w (by omega) ?_|refine z_x (by omega) ?_|refine z_y (by omega) ?_|refine z_z (by omega) ?_|refine z_A ?_|refine z_B ?_|refine z_C ?_|refine z_D ?_|refine z_E ?_|refine z_F ?_|refine z_G ?_|refine z_H ?_|refine z_I ?_|refine z_J ?_|refine z_K (by omega) (by decide) ?_|refine z_L (by omega) (by decide) ?_|refine z_M (by omega) ?_|refine z_N (by omega) ?_|refine z_O (by omega) ?_|refine z_P ?_|refine z_Q ?_|refine z_R ?_|refine z_S ?_|refine z_T ?_|refine z_U (by decide) ?_|refine z_V (by decide) ?_)
    exact ⟨⟨⟨#[]⟩, by rw [packErr_bad (by unfold goodL; rw [decide_eq_false (by omega)]; rfl)]; rfl⟩, ha⟩
  (repeat with_reducible first | refine fd l0 (by decide) ?_| refine ld one3 c0 ?_|refine z_a ?_|refine z_b ?_|refine z_c ?_|refine z_d ?_|refine z_e ?_|refine z_f ?_|refine z_g ?_|refine z_h ?_|refine z_i ?_|refine z_j ?_|refine z_k ?_|refine z_l ?_|refine z_m (by omega) ?_|refine z_n (by omega) ?_|refine z_o (by omega) ?_|refine z_p (by omega) ?_|refine z_q (by omega) ?_|refine z_r (by omega) ?_|refine z_s (by omega) ?_|refine z_t (by omega) ?_|refine z_u (by omega) ?_|refine z_v (by omega) ?_|refine z_w (by omega) ?_|refine z_x (by omega) ?_|refine z_y (by omega) ?_|refine z_z (by omega) ?_|refine z_A ?_|refine z_B ?_|refine z_C ?_|refine z_D ?_|refine z_E ?_|refine z_F ?_|refine z_G ?_|refine z_H ?_|refine z_I ?_|refine z_J ?_|refine z_K (by omega) (by decide) ?_|refine z_L (by omega) (by decide) ?_|refine z_M (by omega) ?_|refine z_N (by omega) ?_|refine z_O (by omega) ?_|refine z_P ?_|refine z_Q ?_|refine z_R ?_|refine z_S ?_|refine z_T ?_|refine z_U (by decide) ?_|refine z_V (by decide) ?_)
  refine bi_gtr_c (fun hk2 => ?_) (fun hk2 => ?_)
  · (repeat with_reducible first|refine z_a ?_|refine z_b ?_|refine z_c ?_|refine z_d ?_|refine z_e ?_|refine z_f ?_|refine z_g ?_|refine z_h ?_|refine z_i ?_|refine z_j ?_|refine z_k ?_|refine z_l ?_|refine z_m (by omega) ?_|refine z_n (by omega) ?_|refine z_o (by omega) ?_|refine z_p (by omega) ?_|refine z_q (by omega) ?_|refine z_r (by omega) ?_|refine z_s (by omega) ?_|refine z_t (by omega) ?_|refine z_u (by omega) ?_|refine z_v (by omega) ?_|refine z_w (by omega) ?_|refine z_x (by omega) ?_|refine z_y (by omega) ?_|refine z_z (by omega) ?_|refine z_A ?_|refine z_B ?_|refine z_C ?_|refine z_D ?_|refine z_E ?_|refine z_F ?_|refine z_G ?_|refine z_H ?_|refine z_I ?_|refine z_J ?_|refine z_K (by omega) (by decide) ?_|refine z_L (by omega) (by decide) ?_|refine z_M (by omega) ?_|refine z_N (by omega) ?_|refine z_O (by omega) ?_|refine z_P ?_|refine z_Q ?_|refine z_R ?_|refine z_S ?_|refine z_T ?_|refine z_U (by decide) ?_|refine z_V (by decide) ?_)
    exact ⟨⟨⟨#[]⟩, by rw [packErr_bad (by unfold goodL; rw [decide_eq_false (by omega)]; rfl)]; rfl⟩, ha⟩
  (repeat with_reducible first|refine z_a ?_|refine z_b ?_|refine z_c ?_|refine z_d ?_|refine z_e ?_|refine z_f ?_|refine z_g ?_|refine z_h ?_|refine z_i ?_|refine z_j ?_|refine z_k ?_|refine z_l ?_|refine z_m (by omega) ?_|refine z_n (by omega) ?_|refine z_o (by omega) ?_|refine z_p (by omega) ?_|refine z_q (by omega) ?_|refine z_r (by omega) ?_|refine z_s (by omega) ?_|refine z_t (by omega) ?_|refine z_u (by omega) ?_|refine z_v (by omega) ?_|refine z_w (by omega) ?_|refine z_x (by omega) ?_|refine z_y (by omega) ?_|refine z_z (by omega) ?_|refine z_A ?_|refine z_B ?_|refine z_C ?_|refine z_D ?_|refine z_E ?_|refine z_F ?_|refine z_G ?_|refine z_H ?_|refine z_I ?_|refine z_J ?_|refine z_K (by omega) (by decide) ?_|refine z_L (by omega) (by decide) ?_|refine z_M (by omega) ?_|refine z_N (by omega) ?_|refine z_O (by omega) ?_|refine z_P ?_|refine z_Q ?_|refine z_R ?_|refine z_S ?_|refine z_T ?_|refine z_U (by decide) ?_|refine z_V (by decide) ?_)
  refine ldA agg58 hL (by exact sz58) ?_
  refine (numbers63_spec L _ _ w1).mono ?_
  rintro _ w2 ⟨⟨An, cn, rfl⟩, hn2, hb2⟩
  replace hn2 : Rd w2 (.slice An 7 cn) (L.ns.map (Value.int .i64)) := hn2
  have hnl : L.ns.length = 7 := rfl
  refine LoopP.inv1 (fun iv w' => ∃ k : Nat, k ≤ 7 ∧ iv = .int .i64 k ∧ w' = w2 ∧ ∀ n ∈ L.ns.take k, okN n = true) (fun iv _ => 7 - (intOf iv).toNat) ⟨0, by omega, rfl, rfl, by simp⟩ ?_
  rintro _ w2 ⟨k, hk7, rfl, rfl, hall⟩ J hJ
  dsimp only [List.headD_cons, List.tail_cons]
  refine ln und81 ?_
  refine bi_lss_c (fun h => ?_) (fun h => ?_)
  · have hk' : k < 7 := by omega
    obtain ⟨a, rfl, hca⟩ := Rd.atI hn2 k (by omega)
    (repeat with_reducible first | refine ix1 und81 sz3 hk' ?_| refine ld one3 hca ?_|refine z_a ?_|refine z_b ?_|refine z_c ?_|refine z_d ?_|refine z_e ?_|refine z_f ?_|refine z_g ?_|refine z_h ?_|refine z_i ?_|refine z_j ?_|refine z_k ?_|refine z_l ?_|refine z_m (by omega) ?_|refine z_n (by omega) ?_|refine z_o (by omega) ?_|refine z_p (by omega) ?_|refine z_q (by omega) ?_|refine z_r (by omega) ?_|refine z_s (by omega) ?_|refine z_t (by omega) ?_|refine z_u (by omega) ?_|refine z_v (by omega) ?_|refine z_w (by omega) ?_|refine z_x (by omega) ?_|refine z_y (by omega) ?_|refine z_z (by omega) ?_|refine z_A ?_|refine z_B ?_|refine z_C ?_|refine z_D ?_|refine z_E ?_|refine z_F ?_|refine z_G ?_|refine z_H ?_|refine z_I ?_|refine z_J ?_|refine z_K (by omega) (by decide) ?_|refine z_L (by omega) (by decide) ?_|refine z_M (by omega) ?_|refine z_N (by omega) ?_|refine z_O (by omega) ?_|refine z_P ?_|refine z_Q ?_|refine z_R ?_|refine z_S ?_|refine z_T ?_|refine z_U (by decide) ?_|refine z_V (by decide) ?_)
    refine (number79 _ _).mono ?_
    rintro _ _ ⟨rfl, rfl⟩
    cases hok : okN L.ns[k] with
    | false =>
      (repeat with_reducible first|refine z_a ?_|refine z_b ?_|refine z_c ?_|refine z_d ?_|refine z_e ?_|refine z_f ?_|refine z_g ?_|refine z_h ?_|refine z_i ?_|refine z_j ?_|refine z_k ?_|refine z_l ?_|refine z_m (by omega) ?_|refine z_n (by omega) ?_|refine z_o (by omega) ?_|refine z_p (by omega) ?_|refine z_q (by omega) ?_|refine z_r (by omega) ?_|refine z_s (by omega) ?_|refine z_t (by omega) ?_|refine z_u (by omega) ?_|refine z_v (by omega) ?_|refine z_w (by omega) ?_|refine z_x (by omega) ?_|refine z_y (by omega) ?_|refine z_z (by omega) ?_|refine z_A ?_|refine z_B ?_|refine z_C ?_|refine z_D ?_|refine z_E ?_|refine z_F ?_|refine z_G ?_|refine z_H ?_|refine z_I ?_|refine z_J ?_|refine z_K (by omega) (by decide) ?_|refine z_L (by omega) (by decide) ?_|refine z_M (by omega) ?_|refine z_N (by omega) ?_|refine z_O (by omega) ?_|refine z_P ?_|refine z_Q ?_|refine z_R ?_|refine z_S ?_|refine z_T ?_|refine z_U (by decide) ?_|refine z_V (by decide) ?_)
      exact ⟨⟨⟨#[]⟩, by rw [packErr_bad (ns_bad (List.getElem_mem _) hok)]; rfl⟩, hfin hb2⟩
    | true =>
      (repeat with_reducible first|refine z_a ?_|refine z_b ?_|refine z_c ?_|refine z_d ?_|refine z_e ?_|refine z_f ?_|refine z_g ?_|refine z_h ?_|refine z_i ?_|refine z_j ?_|refine z_k ?_|refine z_l ?_|refine z_m (by omega) ?_|refine z_n (by omega) ?_|refine z_o (by omega) ?_|refine z_p (by omega) ?_|refine z_q (by omega) ?_|refine z_r (by omega) ?_|refine z_s (by omega) ?_|refine z_t (by omega) ?_|refine z_u (by omega) ?_|refine z_v (by omega) ?_|refine z_w (by omega) ?_|refine z_x (by omega) ?_|refine z_y (by omega) ?_|refine z_z (by omega) ?_|refine z_A ?_|refine z_B ?_|refine z_C ?_|refine z_D ?_|refine z_E ?_|refine z_F ?_|refine z_G ?_|refine z_H ?_|refine z_I ?_|refine z_J ?_|refine z_K (by omega) (by decide) ?_|refine z_L (by omega) (by decide) ?_|refine z_M (by omega) ?_|refine z_N (by omega) ?_|refine z_O (by omega) ?_|refine z_P ?_|refine z_Q ?_|refine z_R ?_|refine z_S ?_|refine z_T ?_|refine z_U (by decide) ?_|refine z_V (by decide) ?_)
      refine hJ _ _ ⟨k + 1, by omega, by simp, rfl, fun n hn => ?_⟩ (by simp [intOf]; omega)
      rw [List.take_succ_eq_append_getElem (by omega)] at hn
      rcases List.mem_append.1 hn with hn | hn
      · exact hall n hn
      · simp only [List.mem_cons, List.not_mem_nil, or_false] at hn
        rw [hn]; exact hok
  have hk7 : k = 7 := by omega
  subst hk7
  rw [List.take_of_length_le (by omega)] at hall
  clear hJ
  (repeat with_reducible first|refine z_a ?_|refine z_b ?_|refine z_c ?_|refine z_d ?_|refine z_e ?_|refine z_f ?_|refine z_g ?_|refine z_h ?_|refine z_i ?_|refine z_j ?_|refine z_k ?_|refine z_l ?_|refine z_m (by omega) ?_|refine z_n (by omega) ?_|refine z_o (by omega) ?_|refine z_p (by omega) ?_|refine z_q (by omega) ?_|refine z_r (by omega) ?_|refine z_s (by omega) ?_|refine z_t (by omega) ?_|refine z_u (by omega) ?_|refine z_v (by omega) ?_|refine z_w (by omega) ?_|refine z_x (by omega) ?_|refine z_y (by omega) ?_|refine z_z (by omega) ?_|refine z_A ?_|refine z_B ?_|refine z_C ?_|refine z_D ?_|refine z_E ?_|refine z_F ?_|refine z_G ?_|refine z_H ?_|refine z_I ?_|refine z_J ?_|refine z_K (by omega) (by decide) ?_|refine z_L (by omega) (by decide) ?_|refine z_M (by omega) ?_|refine z_N (by omega) ?_|refine z_O (by omega) ?_|refine z_P ?_|refine z_Q ?_|refine z_R ?_|refine z_S ?_|refine z_T ?_|refine z_U (by decide) ?_|refine z_V (by decide) ?_)
  refine LoopP.inv1 (fun iv w' => ∃ k : Nat, k ≤ is.length ∧ iv = .int .i64 k ∧ w' = w2 ∧ ∀ x ∈ is.take k, okN x.2.1 = true) (fun iv _ => is.length - (intOf iv).toNat) ⟨0, by omega, rfl, rfl, by simp⟩ ?_
  rintro _ w2 ⟨k, hki, rfl, rfl, halli⟩ J hJ
  dsimp only [List.headD_cons, List.tail_cons]
  have c10 : w2.cell? ⟨g, 10, none⟩ = some (.slice A' is.length cA') := (letter hb2).cell 10
  (repeat with_reducible first | refine fd l10 (by decide) ?_| refine ld one56 c10 ?_|refine z_a ?_|refine z_b ?_|refine z_c ?_|refine z_d ?_|refine z_e ?_|refine z_f ?_|refine z_g ?_|refine z_h ?_|refine z_i ?_|refine z_j ?_|refine z_k ?_|refine z_l ?_|refine z_m (by omega) ?_|refine z_n (by omega) ?_|refine z_o (by omega) ?_|refine z_p (by omega) ?_|refine z_q (by omega) ?_|refine z_r (by omega) ?_|refine z_s (by omega) ?_|refine z_t (by omega) ?_|refine z_u (by omega) ?_|refine z_v (by omega) ?_|refine z_w (by omega) ?_|refine z_x (by omega) ?_|refine z_y (by omega) ?_|refine z_z (by omega) ?_|refine z_A ?_|refine z_B ?_|refine z_C ?_|refine z_D ?_|refine z_E ?_|refine z_F ?_|refine z_G ?_|refine z_H ?_|refine z_I ?_|refine z_J ?_|refine z_K (by omega) (by decide) ?_|refine z_L (by omega) (by decide) ?_|refine z_M (by omega) ?_|refine z_N (by omega) ?_|refine z_O (by omega) ?_|refine z_P ?_|refine z_Q ?_|refine z_R ?_|refine z_S ?_|refine z_T ?_|refine z_U (by decide) ?_|refine z_V (by decide) ?_)
  refine ln und56 ?_
  refine bi_lss_c (fun h => ?_) (fun h => ?_)
  · have hk' : k < is.length := by omega
    obtain ⟨a, us, rfl, hus, hcell, hrd⟩ := rRow.at (keeps_Intents _ _ _ _ hb2 hq1) k hk'
    obtain ⟨rfl, hz1⟩ := intent_cells hrd
    have k1 : w2.cell? ((a.add (k * 3)).add 1) = some (.int .i64 is[k].2.1) := hcell 1 _ rfl
    (repeat with_reducible first | refine fd l10 (by decide) ?_| refine ld one56 c10 ?_|refine z_a ?_|refine z_b ?_|refine z_c ?_|refine z_d ?_|refine z_e ?_|refine z_f ?_|refine z_g ?_|refine z_h ?_|refine z_i ?_|refine z_j ?_|refine z_k ?_|refine z_l ?_|refine z_m (by omega) ?_|refine z_n (by omega) ?_|refine z_o (by omega) ?_|refine z_p (by omega) ?_|refine z_q (by omega) ?_|refine z_r (by omega) ?_|refine z_s (by omega) ?_|refine z_t (by omega) ?_|refine z_u (by omega) ?_|refine z_v (by omega) ?_|refine z_w (by omega) ?_|refine z_x (by omega) ?_|refine z_y (by omega) ?_|refine z_z (by omega) ?_|refine z_A ?_|refine z_B ?_|refine z_C ?_|refine z_D ?_|refine z_E ?_|refine z_F ?_|refine z_G ?_|refine z_H ?_|refine z_I ?_|refine z_J ?_|refine z_K (by omega) (by decide) ?_|refine z_L (by omega) (by decide) ?_|refine z_M (by omega) ?_|refine z_N (by omega) ?_|refine z_O (by omega) ?_|refine z_P ?_|refine z_Q ?_|refine z_R ?_|refine z_S ?_|refine z_T ?_|refine z_U (by decide) ?_|refine z_V (by decide) ?_)
    refine ixN und56 sz68 k hk' ?_
    refine fdA q1' (by decide) ?_
    (repeat with_reducible first | refine ld one3 k1 ?_|refine z_a ?_|refine z_b ?_|refine z_c ?_|refine z_d ?_|refine z_e ?_|refine z_f ?_|refine z_g ?_|refine z_h ?_|refine z_i ?_|refine z_j ?_|refine z_k ?_|refine z_l ?_|refine z_m (by omega) ?_|refine z_n (by omega) ?_|refine z_o (by omega) ?_|refine z_p (by omega) ?_|refine z_q (by omega) ?_|refine z_r (by omega) ?_|refine z_s (by omega) ?_|refine z_t (by omega) ?_|refine z_u (by omega) ?_|refine z_v (by omega) ?_|refine z_w (by omega) ?_|refine z_x (by omega) ?_|refine z_y (by omega) ?_|refine z_z (by omega) ?_|refine z_A ?_|refine z_B ?_|refine z_C ?_|refine z_D ?_|refine z_E ?_|refine z_F ?_|refine z_G ?_|refine z_H ?_|refine z_I ?_|refine z_J ?_|refine z_K (by omega) (by decide) ?_|refine z_L (by omega) (by decide) ?_|refine z_M (by omega) ?_|refine z_N (by omega) ?_|refine z_O (by omega) ?_|refine z_P ?_|refine z_Q ?_|refine z_R ?_|refine z_S ?_|refine z_T ?_|refine z_U (by decide) ?_|refine z_V (by decide) ?_)
    refine (number79 _ _).mono ?_
    rintro _ _ ⟨rfl, rfl⟩
    cases hok : okN is[k].2.1 with
    | false =>
      (repeat with_reducible first|refine z_a ?_|refine z_b ?_|refine z_c ?_|refine z_d ?_|refine z_e ?_|refine z_f ?_|refine z_g ?_|refine z_h ?_|refine z_i ?_|refine z_j ?_|refine z_k ?_|refine z_l ?_|refine z_m (by omega) ?_|refine z_n (by omega) ?_|refine z_o (by omega) ?_|refine z_p (by omega) ?_|refine z_q (by omega) ?_|refine z_r (by omega) ?_|refine z_s (by omega) ?_|refine z_t (by omega) ?_|refine z_u (by omega) ?_|refine z_v (by omega) ?_|refine z_w (by omega) ?_|refine z_x (by omega) ?_|refine z_y (by omega) ?_|refine z_z (by omega) ?_|refine z_A ?_|refine z_B ?_|refine z_C ?_|refine z_D ?_|refine z_E ?_|refine z_F ?_|refine z_G ?_|refine z_H ?_|refine z_I ?_|refine z_J ?_|refine z_K (by omega) (by decide) ?_|refine z_L (by omega) (by decide) ?_|refine z_M (by omega) ?_|refine z_N (by omega) ?_|refine z_O (by omega) ?_|refine z_P ?_|refine z_Q ?_|refine z_R ?_|refine z_S ?_|refine z_T ?_|refine z_U (by decide) ?_|refine z_V (by decide) ?_)
      refine ⟨⟨⟨#[]⟩, ?_⟩, hfin hb2⟩
      rw [packErr_bad]
      · rfl
      · unfold goodL
        have : (is.all fun x => okN x.2.1) = false := List.all_eq_false.2 ⟨_, List.getElem_mem hk', by rw [hok]; simp⟩
        rw [this]; simp
    | true =>
      (repeat with_reducible first|refine z_a ?_|refine z_b ?_|refine z_c ?_|refine z_d ?_|refine z_e ?_|refine z_f ?_|refine z_g ?_|refine z_h ?_|refine z_i ?_|refine z_j ?_|refine z_k ?_|refine z_l ?_|refine z_m (by omega) ?_|refine z_n (by omega) ?_|refine z_o (by omega) ?_|refine z_p (by omega) ?_|refine z_q (by omega) ?_|refine z_r (by omega) ?_|refine z_s (by omega) ?_|refine z_t (by omega) ?_|refine z_u (by omega) ?_|refine z_v (by omega) ?_|refine z_w (by omega) ?_|refine z_x (by omega) ?_|refine z_y (by omega) ?_|refine z_z (by omega) ?_|refine z_A ?_|refine z_B ?_|refine z_C ?_|refine z_D ?_|refine z_E ?_|refine z_F ?_|refine z_G ?_|refine z_H ?_|refine z_I ?_|refine z_J ?_|refine z_K (by omega) (by decide) ?_|refine z_L (by omega) (by decide) ?_|refine z_M (by omega) ?_|refine z_N (by omega) ?_|refine z_O (by omega) ?_|refine z_P ?_|refine z_Q ?_|refine z_R ?_|refine z_S ?_|refine z_T ?_|refine z_U (by decide) ?_|refine z_V (by decide) ?_)
      refine hJ _ _ ⟨k + 1, by omega, by simp, rfl, fun n hn => ?_⟩ (by simp [intOf]; omega)
      rw [List.take_succ_eq_append_getElem (by omega)] at hn
      rcases List.mem_append.1 hn with hn | hn
      · exact halli n hn
      · simp only [List.mem_cons, List.not_mem_nil, or_false] at hn
        rw [hn]; exact hok
  have hkl : k = is.length := by omega
  subst hkl
  rw [List.take_length] at halli
  clear hJ
  have hgood := ns_good (L := L) (is := is) (by omega) hall halli
  have hnum : ∀ n ∈ L.ns, 0 ≤ n ∧ n ≤ 1099511627776 := fun n hn => by simpa [okN] using hall n hn
  have hvers : ∀ x ∈ is, 0 ≤ x.2.1 ∧ x.2.1 ≤ 1099511627776 := fun x hx => by simpa [okN] using halli x hx
  have c9 : w2.cell? ⟨g, 9, none⟩ = some (.slice A ps.length cA) := (letter hb2).cell 9
  have c0' : w2.cell? ⟨g, 0, none⟩ = some (.int .i64 L.kind) := (letter hb2).cell 0
  (repeat with_reducible first | refine fd l9 (by decide) ?_| refine ld one55 c9 ?_|refine z_a ?_|refine z_b ?_|refine z_c ?_|refine z_d ?_|refine z_e ?_|refine z_f ?_|refine z_g ?_|refine z_h ?_|refine z_i ?_|refine z_j ?_|refine z_k ?_|refine z_l ?_|refine z_m (by omega) ?_|refine z_n (by omega) ?_|refine z_o (by omega) ?_|refine z_p (by omega) ?_|refine z_q (by omega) ?_|refine z_r (by omega) ?_|refine z_s (by omega) ?_|refine z_t (by omega) ?_|refine z_u (by omega) ?_|refine z_v (by omega) ?_|refine z_w (by omega) ?_|refine z_x (by omega) ?_|refine z_y (by omega) ?_|refine z_z (by omega) ?_|refine z_A ?_|refine z_B ?_|refine z_C ?_|refine z_D ?_|refine z_E ?_|refine z_F ?_|refine z_G ?_|refine z_H ?_|refine z_I ?_|refine z_J ?_|refine z_K (by omega) (by decide) ?_|refine z_L (by omega) (by decide) ?_|refine z_M (by omega) ?_|refine z_N (by omega) ?_|refine z_O (by omega) ?_|refine z_P ?_|refine z_Q ?_|refine z_R ?_|refine z_S ?_|refine z_T ?_|refine z_U (by decide) ?_|refine z_V (by decide) ?_)
  refine ln und55 ?_
  have hlarge : (256 < ps.length ∨ 256 < is.length) → packErr L ps is = 4 := fun h => by
    rw [packErr, if_neg (by rw [hgood]; simp), if_pos (by omega)]
  refine bi_gtr_c (fun h => ?_) (fun h => ?_)
  · (repeat with_reducible first|refine z_a ?_|refine z_b ?_|refine z_c ?_|refine z_d ?_|refine z_e ?_|refine z_f ?_|refine z_g ?_|refine z_h ?_|refine z_i ?_|refine z_j ?_|refine z_k ?_|refine z_l ?_|refine z_m (by omega) ?_|refine z_n (by omega) ?_|refine z_o (by omega) ?_|refine z_p (by omega) ?_|refine z_q (by omega) ?_|refine z_r (by omega) ?_|refine z_s (by omega) ?_|refine z_t (by omega) ?_|refine z_u (by omega) ?_|refine z_v (by omega) ?_|refine z_w (by omega) ?_|refine z_x (by omega) ?_|refine z_y (by omega) ?_|refine z_z (by omega) ?_|refine z_A ?_|refine z_B ?_|refine z_C ?_|refine z_D ?_|refine z_E ?_|refine z_F ?_|refine z_G ?_|refine z_H ?_|refine z_I ?_|refine z_J ?_|refine z_K (by omega) (by decide) ?_|refine z_L (by omega) (by decide) ?_|refine z_M (by omega) ?_|refine z_N (by omega) ?_|refine z_O (by omega) ?_|refine z_P ?_|refine z_Q ?_|refine z_R ?_|refine z_S ?_|refine z_T ?_|refine z_U (by decide) ?_|refine z_V (by decide) ?_)
    exact ⟨⟨⟨#[]⟩, by rw [hlarge (by omega)]; rfl⟩, hfin hb2⟩
  (repeat with_reducible first | refine fd l10 (by decide) ?_| refine ld one56 c10 ?_|refine z_a ?_|refine z_b ?_|refine z_c ?_|refine z_d ?_|refine z_e ?_|refine z_f ?_|refine z_g ?_|refine z_h ?_|refine z_i ?_|refine z_j ?_|refine z_k ?_|refine z_l ?_|refine z_m (by omega) ?_|refine z_n (by omega) ?_|refine z_o (by omega) ?_|refine z_p (by omega) ?_|refine z_q (by omega) ?_|refine z_r (by omega) ?_|refine z_s (by omega) ?_|refine z_t (by omega) ?_|refine z_u (by omega) ?_|refine z_v (by omega) ?_|refine z_w (by omega) ?_|refine z_x (by omega) ?_|refine z_y (by omega) ?_|refine z_z (by omega) ?_|refine z_A ?_|refine z_B ?_|refine z_C ?_|refine z_D ?_|refine z_E ?_|refine z_F ?_|refine z_G ?_|refine z_H ?_|refine z_I ?_|refine z_J ?_|refine z_K (by omega) (by decide) ?_|refine z_L (by omega) (by decide) ?_|refine z_M (by omega) ?_|refine z_N (by omega) ?_|refine z_O (by omega) ?_|refine z_P ?_|refine z_Q ?_|refine z_R ?_|refine z_S ?_|refine z_T ?_|refine z_U (by decide) ?_|refine z_V (by decide) ?_)
  refine ln und56 ?_
  (repeat with_reducible first|refine z_a ?_|refine z_b ?_|refine z_c ?_|refine z_d ?_|refine z_e ?_|refine z_f ?_|refine z_g ?_|refine z_h ?_|refine z_i ?_|refine z_j ?_|refine z_k ?_|refine z_l ?_|refine z_m (by omega) ?_|refine z_n (by omega) ?_|refine z_o (by omega) ?_|refine z_p (by omega) ?_|refine z_q (by omega) ?_|refine z_r (by omega) ?_|refine z_s (by omega) ?_|refine z_t (by omega) ?_|refine z_u (by omega) ?_|refine z_v (by omega) ?_|refine z_w (by omega) ?_|refine z_x (by omega) ?_|refine z_y (by omega) ?_|refine z_z (by omega) ?_|refine z_A ?_|refine z_B ?_|refine z_C ?_|refine z_D ?_|refine z_E ?_|refine z_F ?_|refine z_G ?_|refine z_H ?_|refine z_I ?_|refine z_J ?_|refine z_K (by omega) (by decide) ?_|refine z_L (by omega) (by decide) ?_|refine z_M (by omega) ?_|refine z_N (by omega) ?_|refine z_O (by omega) ?_|refine z_P ?_|refine z_Q ?_|refine z_R ?_|refine z_S ?_|refine z_T ?_|refine z_U (by decide) ?_|refine z_V (by decide) ?_)
  refine bi_gtr_c (fun h => ?_) (fun h => ?_)
  · (repeat with_reducible first|refine z_a ?_|refine z_b ?_|refine z_c ?_|refine z_d ?_|refine z_e ?_|refine z_f ?_|refine z_g ?_|refine z_h ?_|refine z_i ?_|refine z_j ?_|refine z_k ?_|refine z_l ?_|refine z_m (by omega) ?_|refine z_n (by omega) ?_|refine z_o (by omega) ?_|refine z_p (by omega) ?_|refine z_q (by omega) ?_|refine z_r (by omega) ?_|refine z_s (by omega) ?_|refine z_t (by omega) ?_|refine z_u (by omega) ?_|refine z_v (by omega) ?_|refine z_w (by omega) ?_|refine z_x (by omega) ?_|refine z_y (by omega) ?_|refine z_z (by omega) ?_|refine z_A ?_|refine z_B ?_|refine z_C ?_|refine z_D ?_|refine z_E ?_|refine z_F ?_|refine z_G ?_|refine z_H ?_|refine z_I ?_|refine z_J ?_|refine z_K (by omega) (by decide) ?_|refine z_L (by omega) (by decide) ?_|refine z_M (by omega) ?_|refine z_N (by omega) ?_|refine z_O (by omega) ?_|refine z_P ?_|refine z_Q ?_|refine z_R ?_|refine z_S ?_|refine z_T ?_|refine z_U (by decide) ?_|refine z_V (by decide) ?_)
    exact ⟨⟨⟨#[]⟩, by rw [hlarge (by omega)]; rfl⟩, hfin hb2⟩
  have hps : ps.length ≤ 256 := by omega
  have his : is.length ≤ 256 := by omega
  have herr := packErr_form L ps is hgood hps his
  have hlen := packedB_len L ps is
  have hbig : 65536 < (packedB L ps is).length → ∃ s : ByteArray, Value.tuple #[.string ⟨#[]⟩, .int .i64 4] = .tuple #[.string s, .int .i64 (packErr L ps is)] := fun h => ⟨⟨#[]⟩, by rw [herr, if_pos h]; rfl⟩
  (repeat with_reducible first | refine fd l0 (by decide) ?_| refine ld one3 c0' ?_|refine z_a ?_|refine z_b ?_|refine z_c ?_|refine z_d ?_|refine z_e ?_|refine z_f ?_|refine z_g ?_|refine z_h ?_|refine z_i ?_|refine z_j ?_|refine z_k ?_|refine z_l ?_|refine z_m (by omega) ?_|refine z_n (by omega) ?_|refine z_o (by omega) ?_|refine z_p (by omega) ?_|refine z_q (by omega) ?_|refine z_r (by omega) ?_|refine z_s (by omega) ?_|refine z_t (by omega) ?_|refine z_u (by omega) ?_|refine z_v (by omega) ?_|refine z_w (by omega) ?_|refine z_x (by omega) ?_|refine z_y (by omega) ?_|refine z_z (by omega) ?_|refine z_A ?_|refine z_B ?_|refine z_C ?_|refine z_D ?_|refine z_E ?_|refine z_F ?_|refine z_G ?_|refine z_H ?_|refine z_I ?_|refine z_J ?_|refine z_K (by omega) (by decide) ?_|refine z_L (by omega) (by decide) ?_|refine z_M (by omega) ?_|refine z_N (by omega) ?_|refine z_O (by omega) ?_|refine z_P ?_|refine z_Q ?_|refine z_R ?_|refine z_S ?_|refine z_T ?_|refine z_U (by decide) ?_|refine z_V (by decide) ?_)
  have k0 : L.kind = ((L.kind.toNat : Nat) : Int) := by omega
  rw [k0]
  refine (refNum_spec L.kind.toNat w2 (by omega)).mono ?_
  rintro o3 w3 ⟨ho3, hf3, hb3⟩
  have n0 := num_le6 L.kind.toNat (by omega)
  have letter2 : ∀ {w'}, Below w2.heap.size w2 w' → Blk w' g 58 (L.cells (.slice A ps.length cA) (.slice A' is.length cA')) := fun h => letter (below_then hb2 h)
  have hfin2 : ∀ {w'}, Below w2.heap.size w2 w' → Below w.heap.size w w' := fun h => hfin (below_then hb2 h)
  have hp2 := keeps_Pairs _ _ _ _ hb2 hp1
  have hq2 := keeps_Intents _ _ _ _ hb2 hq1
  clear letter hfin hp1 hq1 hL ha c0 c9 c10 c0'
  -- the numbers
  refine LoopP.inv2 (fun o iv w' => ∃ k : Nat, k ≤ 7 ∧ iv = .int .i64 k ∧ Own 5 w' o ((Pack.num L.kind.toNat ++ numsB (L.ns.take k)).map u8) ∧ Fresh w2.heap.size o ∧ Below w2.heap.size w2 w') (fun _ iv _ => 7 - (intOf iv).toNat) ⟨0, by omega, rfl, by simpa [numsB] using ho3, hf3, hb3⟩ ?_
  clear ho3 hf3 hb3
  rintro o _ w4 ⟨k, hk, rfl, ho4, hf4, hb4⟩ J hJ
  dsimp only [List.headD_cons, List.tail_cons]
  have bN := flat_bound (fun n : Int => Pack.num n.toNat) 6 (L.ns.take k) (fun n hn => num_le6 _ (by have := hnum n (List.mem_of_mem_take hn); omega))
  rw [show (L.ns.take k).length = k by rw [List.length_take]; omega] at bN
  refine ln und81 ?_
  refine bi_lss_c (fun h => ?_) (fun h => ?_)
  · have hk' : k < 7 := by omega
    obtain ⟨a, rfl, hca⟩ := Rd.atI (hn2.below hb4) k (by omega)
    have hnk := hnum _ (List.getElem_mem (l := L.ns) (n := k) (by omega))
    (repeat with_reducible first | refine ix1 und81 sz3 hk' ?_| refine ld one3 hca ?_|refine z_a ?_|refine z_b ?_|refine z_c ?_|refine z_d ?_|refine z_e ?_|refine z_f ?_|refine z_g ?_|refine z_h ?_|refine z_i ?_|refine z_j ?_|refine z_k ?_|refine z_l ?_|refine z_m (by omega) ?_|refine z_n (by omega) ?_|refine z_o (by omega) ?_|refine z_p (by omega) ?_|refine z_q (by omega) ?_|refine z_r (by omega) ?_|refine z_s (by omega) ?_|refine z_t (by omega) ?_|refine z_u (by omega) ?_|refine z_v (by omega) ?_|refine z_w (by omega) ?_|refine z_x (by omega) ?_|refine z_y (by omega) ?_|refine z_z (by omega) ?_|refine z_A ?_|refine z_B ?_|refine z_C ?_|refine z_D ?_|refine z_E ?_|refine z_F ?_|refine z_G ?_|refine z_H ?_|refine z_I ?_|refine z_J ?_|refine z_K (by omega) (by decide) ?_|refine z_L (by omega) (by decide) ?_|refine z_M (by omega) ?_|refine z_N (by omega) ?_|refine z_O (by omega) ?_|refine z_P ?_|refine z_Q ?_|refine z_R ?_|refine z_S ?_|refine z_T ?_|refine z_U (by decide) ?_|refine z_V (by decide) ?_)
    rw [show L.ns[k] = ((L.ns[k].toNat : Nat) : Int) by omega]
    refine apNum ho4 hf4 hb4 (by omega) (by rw [List.length_append]; unfold numsB; omega) ?_
    intro o5 w5 ho5 hf5 hb5
    (repeat with_reducible first|refine z_a ?_|refine z_b ?_|refine z_c ?_|refine z_d ?_|refine z_e ?_|refine z_f ?_|refine z_g ?_|refine z_h ?_|refine z_i ?_|refine z_j ?_|refine z_k ?_|refine z_l ?_|refine z_m (by omega) ?_|refine z_n (by omega) ?_|refine z_o (by omega) ?_|refine z_p (by omega) ?_|refine z_q (by omega) ?_|refine z_r (by omega) ?_|refine z_s (by omega) ?_|refine z_t (by omega) ?_|refine z_u (by omega) ?_|refine z_v (by omega) ?_|refine z_w (by omega) ?_|refine z_x (by omega) ?_|refine z_y (by omega) ?_|refine z_z (by omega) ?_|refine z_A ?_|refine z_B ?_|refine z_C ?_|refine z_D ?_|refine z_E ?_|refine z_F ?_|refine z_G ?_|refine z_H ?_|refine z_I ?_|refine z_J ?_|refine z_K (by omega) (by decide) ?_|refine z_L (by omega) (by decide) ?_|refine z_M (by omega) ?_|refine z_N (by omega) ?_|refine z_O (by omega) ?_|refine z_P ?_|refine z_Q ?_|refine z_R ?_|refine z_S ?_|refine z_T ?_|refine z_U (by decide) ?_|refine z_V (by decide) ?_)
    refine hJ _ _ _ ⟨k + 1, by omega, by simp, ?_, hf5, hb5⟩ (by simp [intOf]; omega)
    rw [numsB, map_take_succ (fun n : Int => Pack.num n.toNat) L.ns k (by omega), ← List.append_assoc]
    exact ho5
  have hk7 : k = 7 := by omega
  subst hk7
  clear hJ
  rw [List.take_of_length_le (by omega)] at ho4 bN
  have eN : Pack.num L.kind.toNat ++ numsB L.ns = Pack.num L.kind.toNat ++ numsB L.nums ++ Pack.num L.code.toNat := by
    simp [numsB, Let.ns, Let.nums]
  have lN : (Pack.num L.kind.toNat ++ numsB L.ns).length ≤ 48 := by rw [List.length_append]; unfold numsB; omega
  have c12 : w4.cell? ⟨g, 12, none⟩ = some (.bool L.yes) := (letter2 hb4).cell 12
  (repeat with_reducible first | refine fd l12 (by decide) ?_| refine ld one4 c12 ?_|refine z_a ?_|refine z_b ?_|refine z_c ?_|refine z_d ?_|refine z_e ?_|refine z_f ?_|refine z_g ?_|refine z_h ?_|refine z_i ?_|refine z_j ?_|refine z_k ?_|refine z_l ?_|refine z_m (by omega) ?_|refine z_n (by omega) ?_|refine z_o (by omega) ?_|refine z_p (by omega) ?_|refine z_q (by omega) ?_|refine z_r (by omega) ?_|refine z_s (by omega) ?_|refine z_t (by omega) ?_|refine z_u (by omega) ?_|refine z_v (by omega) ?_|refine z_w (by omega) ?_|refine z_x (by omega) ?_|refine z_y (by omega) ?_|refine z_z (by omega) ?_|refine z_A ?_|refine z_B ?_|refine z_C ?_|refine z_D ?_|refine z_E ?_|refine z_F ?_|refine z_G ?_|refine z_H ?_|refine z_I ?_|refine z_J ?_|refine z_K (by omega) (by decide) ?_|refine z_L (by omega) (by decide) ?_|refine z_M (by omega) ?_|refine z_N (by omega) ?_|refine z_O (by omega) ?_|refine z_P ?_|refine z_Q ?_|refine z_R ?_|refine z_S ?_|refine z_T ?_|refine z_U (by decide) ?_|refine z_V (by decide) ?_)
  refine apFlag ho4 hf4 hb4 (by omega) ?_
  intro o5 w5 ho5 hf5 hb5
  have n5 := num_le6 (bitN L.yes) (by unfold bitN; split <;> omega)
  obtain ⟨bA, hbA⟩ : ∃ b, Pack.num L.kind.toNat ++ numsB L.ns ++ Pack.num (bitN L.yes) = b := ⟨_, rfl⟩
  have lA : bA.length ≤ 60 := by rw [← hbA, List.length_append]; omega
  have epk : packedB L ps is = bA ++ textsB L.texts ++ Pack.num ps.length ++ pairsB ps ++ Pack.num is.length ++ intentsB is := by
    rw [← hbA, eN, packedB]; simp only [List.append_assoc]
  rw [hbA] at ho5
  clear hbA eN lN bN hn2 ho4 hf4 hb4 c12 hlen
  have hlen : (packedB L ps is).length = bA.length + (textsB L.texts).length + (Pack.num ps.length).length + (pairsB ps).length + (Pack.num is.length).length + (intentsB is).length := by
    rw [epk]; simp only [List.length_append]
  have c7 : w5.cell? ⟨g, 7, none⟩ = some (.string L.s) := (letter2 hb5).cell 7
  have c8 : w5.cell? ⟨g, 8, none⟩ = some (.string L.t) := (letter2 hb5).cell 8
  have c13 : w5.cell? ⟨g, 13, none⟩ = some (.string L.body) := (letter2 hb5).cell 13
  (repeat with_reducible first | refine fd l7 (by decide) ?_| refine ld one9 c7 ?_| refine fd l8 (by decide) ?_| refine ld one9 c8 ?_| refine fd l13 (by decide) ?_| refine ld one9 c13 ?_|refine z_a ?_|refine z_b ?_|refine z_c ?_|refine z_d ?_|refine z_e ?_|refine z_f ?_|refine z_g ?_|refine z_h ?_|refine z_i ?_|refine z_j ?_|refine z_k ?_|refine z_l ?_|refine z_m (by omega) ?_|refine z_n (by omega) ?_|refine z_o (by omega) ?_|refine z_p (by omega) ?_|refine z_q (by omega) ?_|refine z_r (by omega) ?_|refine z_s (by omega) ?_|refine z_t (by omega) ?_|refine z_u (by omega) ?_|refine z_v (by omega) ?_|refine z_w (by omega) ?_|refine z_x (by omega) ?_|refine z_y (by omega) ?_|refine z_z (by omega) ?_|refine z_A ?_|refine z_B ?_|refine z_C ?_|refine z_D ?_|refine z_E ?_|refine z_F ?_|refine z_G ?_|refine z_H ?_|refine z_I ?_|refine z_J ?_|refine z_K (by omega) (by decide) ?_|refine z_L (by omega) (by decide) ?_|refine z_M (by omega) ?_|refine z_N (by omega) ?_|refine z_O (by omega) ?_|refine z_P ?_|refine z_Q ?_|refine z_R ?_|refine z_S ?_|refine z_T ?_|refine z_U (by decide) ?_|refine z_V (by decide) ?_)
  refine lift (v := .slice (some ⟨w5.heap.size, 0, none⟩) 3 3) (w' := w5.alloc (.cells #[.string L.s, .string L.t, .string L.body] 9)) (by kernel_rfl) ?_
  have hal := (Below.refl w5.heap.size w5).alloc (Nat.le_refl _) (.cells #[.string L.s, .string L.t, .string L.body] 9)
  have hT : Own 9 (w5.alloc (.cells #[.string L.s, .string L.t, .string L.body] 9)) (.slice (some ⟨w5.heap.size, 0, none⟩) 3 3) (L.texts.map Value.string) := Own.new w5 9 [.string L.s, .string L.t, .string L.body] (by simp)
  have hneT : (Value.slice (some ⟨w5.heap.size, 0, none⟩) 3 3).ownBlock = none ∨ (Value.slice (some ⟨w5.heap.size, 0, none⟩) 3 3).ownBlock ≠ o5.ownBlock := by
    right
    intro e
    have : w5.heap.size < w5.heap.size := ho5.ownLt e.symm
    omega
  have ho6 := ho5.below hal
  have hb6 := below_then hb5 hal
  clear c7 c8 c13 hal ho5 hb5
  generalize w5.alloc (.cells #[.string L.s, .string L.t, .string L.body] 9) = w6 at *
  generalize w5.heap.size = gT at *
  have hT3 : L.texts.length = 3 := rfl
  refine LoopP.inv2 (fun o iv w' => ∃ k : Nat, k ≤ 3 ∧ iv = .int .i64 k ∧ Own 5 w' o ((bA ++ textsB (L.texts.take k)).map u8) ∧ Fresh w2.heap.size o ∧ Below w2.heap.size w2 w' ∧ Own 9 w' (.slice (some ⟨gT, 0, none⟩) 3 3) (L.texts.map Value.string) ∧ ((Value.slice (some ⟨gT, 0, none⟩) 3 3).ownBlock = none ∨ (Value.slice (some ⟨gT, 0, none⟩) 3 3).ownBlock ≠ o.ownBlock) ∧ ∀ s ∈ L.texts.take k, s.size ≤ 65536) (fun _ iv _ => 3 - (intOf iv).toNat) ⟨0, by omega, rfl, by simpa [textsB] using ho6, hf5, hb6, hT, hneT, by simp⟩ ?_
  clear ho6 hf5 hb6 hT hneT
  rintro o _ w7 ⟨k, hk, rfl, ho7, hf7, hb7, hT7, hne7, hall7⟩ J hJ
  dsimp only [List.headD_cons, List.tail_cons]
  have bT := flat_bound Pack.text 65542 (L.texts.take k) (fun s hs => text_le s (hall7 s hs))
  rw [show (L.texts.take k).length = k by rw [List.length_take]; omega] at bT
  refine ln und37 ?_
  refine bi_lss_c (fun h => ?_) (fun h => ?_)
  · have hk' : k < 3 := by omega
    obtain ⟨_, e, hca, _⟩ := hT7.at k (by rw [List.length_map, hT3]; exact hk')
    cases e
    rw [List.getElem_map] at hca
    (repeat with_reducible first | refine ix1 und37 sz9 hk' ?_| refine ld one9 hca ?_|refine z_a ?_|refine z_b ?_|refine z_c ?_|refine z_d ?_|refine z_e ?_|refine z_f ?_|refine z_g ?_|refine z_h ?_|refine z_i ?_|refine z_j ?_|refine z_k ?_|refine z_l ?_|refine z_m (by omega) ?_|refine z_n (by omega) ?_|refine z_o (by omega) ?_|refine z_p (by omega) ?_|refine z_q (by omega) ?_|refine z_r (by omega) ?_|refine z_s (by omega) ?_|refine z_t (by omega) ?_|refine z_u (by omega) ?_|refine z_v (by omega) ?_|refine z_w (by omega) ?_|refine z_x (by omega) ?_|refine z_y (by omega) ?_|refine z_z (by omega) ?_|refine z_A ?_|refine z_B ?_|refine z_C ?_|refine z_D ?_|refine z_E ?_|refine z_F ?_|refine z_G ?_|refine z_H ?_|refine z_I ?_|refine z_J ?_|refine z_K (by omega) (by decide) ?_|refine z_L (by omega) (by decide) ?_|refine z_M (by omega) ?_|refine z_N (by omega) ?_|refine z_O (by omega) ?_|refine z_P ?_|refine z_Q ?_|refine z_R ?_|refine z_S ?_|refine z_T ?_|refine z_U (by decide) ?_|refine z_V (by decide) ?_)
    refine lns und9 ?_
    refine bi_gtr_c (fun hs => ?_) (fun hs => ?_)
    · (repeat with_reducible first|refine z_a ?_|refine z_b ?_|refine z_c ?_|refine z_d ?_|refine z_e ?_|refine z_f ?_|refine z_g ?_|refine z_h ?_|refine z_i ?_|refine z_j ?_|refine z_k ?_|refine z_l ?_|refine z_m (by omega) ?_|refine z_n (by omega) ?_|refine z_o (by omega) ?_|refine z_p (by omega) ?_|refine z_q (by omega) ?_|refine z_r (by omega) ?_|refine z_s (by omega) ?_|refine z_t (by omega) ?_|refine z_u (by omega) ?_|refine z_v (by omega) ?_|refine z_w (by omega) ?_|refine z_x (by omega) ?_|refine z_y (by omega) ?_|refine z_z (by omega) ?_|refine z_A ?_|refine z_B ?_|refine z_C ?_|refine z_D ?_|refine z_E ?_|refine z_F ?_|refine z_G ?_|refine z_H ?_|refine z_I ?_|refine z_J ?_|refine z_K (by omega) (by decide) ?_|refine z_L (by omega) (by decide) ?_|refine z_M (by omega) ?_|refine z_N (by omega) ?_|refine z_O (by omega) ?_|refine z_P ?_|refine z_Q ?_|refine z_R ?_|refine z_S ?_|refine z_T ?_|refine z_U (by decide) ?_|refine z_V (by decide) ?_)
      have h1 := flat_mem_le Pack.text (List.getElem_mem (l := L.texts) (n := k) (by omega))
      have h2 := text_ge (L.texts[k]'(by omega))
      exact ⟨hbig (by rw [hlen]; unfold textsB; omega), hfin2 hb7⟩
    have hs' : (L.texts[k]'(by omega)).size ≤ 65536 := by omega
    (repeat with_reducible first | refine ix1 und37 sz9 hk' ?_| refine ld one9 hca ?_|refine z_a ?_|refine z_b ?_|refine z_c ?_|refine z_d ?_|refine z_e ?_|refine z_f ?_|refine z_g ?_|refine z_h ?_|refine z_i ?_|refine z_j ?_|refine z_k ?_|refine z_l ?_|refine z_m (by omega) ?_|refine z_n (by omega) ?_|refine z_o (by omega) ?_|refine z_p (by omega) ?_|refine z_q (by omega) ?_|refine z_r (by omega) ?_|refine z_s (by omega) ?_|refine z_t (by omega) ?_|refine z_u (by omega) ?_|refine z_v (by omega) ?_|refine z_w (by omega) ?_|refine z_x (by omega) ?_|refine z_y (by omega) ?_|refine z_z (by omega) ?_|refine z_A ?_|refine z_B ?_|refine z_C ?_|refine z_D ?_|refine z_E ?_|refine z_F ?_|refine z_G ?_|refine z_H ?_|refine z_I ?_|refine z_J ?_|refine z_K (by omega) (by decide) ?_|refine z_L (by omega) (by decide) ?_|refine z_M (by omega) ?_|refine z_N (by omega) ?_|refine z_O (by omega) ?_|refine z_P ?_|refine z_Q ?_|refine z_R ?_|refine z_S ?_|refine z_T ?_|refine z_U (by decide) ?_|refine z_V (by decide) ?_)
    refine apTextK ho7 hf7 hb7 hs' (by rw [List.length_append]; unfold textsB; omega) hT7 hne7 ?_
    intro o8 w8 ho8 hf8 hb8 hT8 hne8
    (repeat with_reducible first|refine z_a ?_|refine z_b ?_|refine z_c ?_|refine z_d ?_|refine z_e ?_|refine z_f ?_|refine z_g ?_|refine z_h ?_|refine z_i ?_|refine z_j ?_|refine z_k ?_|refine z_l ?_|refine z_m (by omega) ?_|refine z_n (by omega) ?_|refine z_o (by omega) ?_|refine z_p (by omega) ?_|refine z_q (by omega) ?_|refine z_r (by omega) ?_|refine z_s (by omega) ?_|refine z_t (by omega) ?_|refine z_u (by omega) ?_|refine z_v (by omega) ?_|refine z_w (by omega) ?_|refine z_x (by omega) ?_|refine z_y (by omega) ?_|refine z_z (by omega) ?_|refine z_A ?_|refine z_B ?_|refine z_C ?_|refine z_D ?_|refine z_E ?_|refine z_F ?_|refine z_G ?_|refine z_H ?_|refine z_I ?_|refine z_J ?_|refine z_K (by omega) (by decide) ?_|refine z_L (by omega) (by decide) ?_|refine z_M (by omega) ?_|refine z_N (by omega) ?_|refine z_O (by omega) ?_|refine z_P ?_|refine z_Q ?_|refine z_R ?_|refine z_S ?_|refine z_T ?_|refine z_U (by decide) ?_|refine z_V (by decide) ?_)
    refine hJ _ _ _ ⟨k + 1, by omega, by simp, ?_, hf8, hb8, hT8, hne8, fun s hs => ?_⟩ (by simp [intOf]; omega)
    · rw [textsB, map_take_succ Pack.text L.texts k (by omega), ← List.append_assoc]
      exact ho8
    · rw [List.take_succ_eq_append_getElem (by omega)] at hs
      rcases List.mem_append.1 hs with hs | hs
      · exact hall7 s hs
      · simp only [List.mem_cons, List.not_mem_nil, or_false] at hs
        rw [hs]; exact hs'
  have hk3 : k = 3 := by omega
  subst hk3
  clear hJ hT7 hne7
  rw [List.take_of_length_le (by omega)] at ho7 bT
  have c9 : w7.cell? ⟨g, 9, none⟩ = some (.slice A ps.length cA) := (letter2 hb7).cell 9
  (repeat with_reducible first | refine fd l9 (by decide) ?_| refine ld one55 c9 ?_|refine z_a ?_|refine z_b ?_|refine z_c ?_|refine z_d ?_|refine z_e ?_|refine z_f ?_|refine z_g ?_|refine z_h ?_|refine z_i ?_|refine z_j ?_|refine z_k ?_|refine z_l ?_|refine z_m (by omega) ?_|refine z_n (by omega) ?_|refine z_o (by omega) ?_|refine z_p (by omega) ?_|refine z_q (by omega) ?_|refine z_r (by omega) ?_|refine z_s (by omega) ?_|refine z_t (by omega) ?_|refine z_u (by omega) ?_|refine z_v (by omega) ?_|refine z_w (by omega) ?_|refine z_x (by omega) ?_|refine z_y (by omega) ?_|refine z_z (by omega) ?_|refine z_A ?_|refine z_B ?_|refine z_C ?_|refine z_D ?_|refine z_E ?_|refine z_F ?_|refine z_G ?_|refine z_H ?_|refine z_I ?_|refine z_J ?_|refine z_K (by omega) (by decide) ?_|refine z_L (by omega) (by decide) ?_|refine z_M (by omega) ?_|refine z_N (by omega) ?_|refine z_O (by omega) ?_|refine z_P ?_|refine z_Q ?_|refine z_R ?_|refine z_S ?_|refine z_T ?_|refine z_U (by decide) ?_|refine z_V (by decide) ?_)
  refine ln und55 ?_
  refine apNum ho7 hf7 hb7 (by omega) (by rw [List.length_append]; unfold textsB; omega) ?_
  intro o8 w8 ho8 hf8 hb8
  have n8 := num_le6 ps.length (by omega)
  obtain ⟨bB, hbB⟩ : ∃ b, bA ++ textsB L.texts ++ Pack.num ps.length = b := ⟨_, rfl⟩
  have lB : bB.length ≤ 300000 := by rw [← hbB, List.length_append, List.length_append]; unfold textsB; omega
  have lB' : bB.length = bA.length + (textsB L.texts).length + (Pack.num ps.length).length := by rw [← hbB]; simp only [List.length_append]
  rw [hbB] at ho8 epk
  clear hbB bT ho7 hf7 hb7 c9
  -- the pairs
  refine LoopP.inv2 (fun o iv w' => ∃ k : Nat, k ≤ ps.length ∧ iv = .int .i64 k ∧ Own 5 w' o ((bB ++ pairsB (ps.take k)).map u8) ∧ Fresh w2.heap.size o ∧ Below w2.heap.size w2 w' ∧ (pairsB (ps.take k)).length ≤ k * 131084) (fun _ iv _ => ps.length - (intOf iv).toNat) ⟨0, by omega, rfl, by simpa [pairsB] using ho8, hf8, hb8, by simp [pairsB]⟩ ?_
  clear ho8 hf8 hb8
  rintro o _ w9 ⟨k, hk, rfl, ho9, hf9, hb9, bP⟩ J hJ
  dsimp only [List.headD_cons, List.tail_cons]
  have c9 : w9.cell? ⟨g, 9, none⟩ = some (.slice A ps.length cA) := (letter2 hb9).cell 9
  (repeat with_reducible first | refine fd l9 (by decide) ?_| refine ld one55 c9 ?_|refine z_a ?_|refine z_b ?_|refine z_c ?_|refine z_d ?_|refine z_e ?_|refine z_f ?_|refine z_g ?_|refine z_h ?_|refine z_i ?_|refine z_j ?_|refine z_k ?_|refine z_l ?_|refine z_m (by omega) ?_|refine z_n (by omega) ?_|refine z_o (by omega) ?_|refine z_p (by omega) ?_|refine z_q (by omega) ?_|refine z_r (by omega) ?_|refine z_s (by omega) ?_|refine z_t (by omega) ?_|refine z_u (by omega) ?_|refine z_v (by omega) ?_|refine z_w (by omega) ?_|refine z_x (by omega) ?_|refine z_y (by omega) ?_|refine z_z (by omega) ?_|refine z_A ?_|refine z_B ?_|refine z_C ?_|refine z_D ?_|refine z_E ?_|refine z_F ?_|refine z_G ?_|refine z_H ?_|refine z_I ?_|refine z_J ?_|refine z_K (by omega) (by decide) ?_|refine z_L (by omega) (by decide) ?_|refine z_M (by omega) ?_|refine z_N (by omega) ?_|refine z_O (by omega) ?_|refine z_P ?_|refine z_Q ?_|refine z_R ?_|refine z_S ?_|refine z_T ?_|refine z_U (by decide) ?_|refine z_V (by decide) ?_)
  refine ln und55 ?_
  refine bi_lss_c (fun h => ?_) (fun h => ?_)
  · have hk' : k < ps.length := by omega
    have hP : (pairsB (ps.take k)).length ≤ (pairsB ps).length := flat_take_le _ ps k
    (repeat with_reducible first|refine z_a ?_|refine z_b ?_|refine z_c ?_|refine z_d ?_|refine z_e ?_|refine z_f ?_|refine z_g ?_|refine z_h ?_|refine z_i ?_|refine z_j ?_|refine z_k ?_|refine z_l ?_|refine z_m (by omega) ?_|refine z_n (by omega) ?_|refine z_o (by omega) ?_|refine z_p (by omega) ?_|refine z_q (by omega) ?_|refine z_r (by omega) ?_|refine z_s (by omega) ?_|refine z_t (by omega) ?_|refine z_u (by omega) ?_|refine z_v (by omega) ?_|refine z_w (by omega) ?_|refine z_x (by omega) ?_|refine z_y (by omega) ?_|refine z_z (by omega) ?_|refine z_A ?_|refine z_B ?_|refine z_C ?_|refine z_D ?_|refine z_E ?_|refine z_F ?_|refine z_G ?_|refine z_H ?_|refine z_I ?_|refine z_J ?_|refine z_K (by omega) (by decide) ?_|refine z_L (by omega) (by decide) ?_|refine z_M (by omega) ?_|refine z_N (by omega) ?_|refine z_O (by omega) ?_|refine z_P ?_|refine z_Q ?_|refine z_R ?_|refine z_S ?_|refine z_T ?_|refine z_U (by decide) ?_|refine z_V (by decide) ?_)
    refine lnO undB ho9 ?_
    rw [List.length_map]
    refine bi_gtr_c (fun hs => ?_) (fun hs => ?_)
    · (repeat with_reducible first|refine z_a ?_|refine z_b ?_|refine z_c ?_|refine z_d ?_|refine z_e ?_|refine z_f ?_|refine z_g ?_|refine z_h ?_|refine z_i ?_|refine z_j ?_|refine z_k ?_|refine z_l ?_|refine z_m (by omega) ?_|refine z_n (by omega) ?_|refine z_o (by omega) ?_|refine z_p (by omega) ?_|refine z_q (by omega) ?_|refine z_r (by omega) ?_|refine z_s (by omega) ?_|refine z_t (by omega) ?_|refine z_u (by omega) ?_|refine z_v (by omega) ?_|refine z_w (by omega) ?_|refine z_x (by omega) ?_|refine z_y (by omega) ?_|refine z_z (by omega) ?_|refine z_A ?_|refine z_B ?_|refine z_C ?_|refine z_D ?_|refine z_E ?_|refine z_F ?_|refine z_G ?_|refine z_H ?_|refine z_I ?_|refine z_J ?_|refine z_K (by omega) (by decide) ?_|refine z_L (by omega) (by decide) ?_|refine z_M (by omega) ?_|refine z_N (by omega) ?_|refine z_O (by omega) ?_|refine z_P ?_|refine z_Q ?_|refine z_R ?_|refine z_S ?_|refine z_T ?_|refine z_U (by decide) ?_|refine z_V (by decide) ?_)
      exact ⟨hbig (by rw [hlen]; rw [List.length_append] at hs; omega), hfin2 hb9⟩
    obtain ⟨a, us, rfl, hus, hcell, hrd⟩ := rRow.at (keeps_Pairs _ _ _ _ hb9 hp2) k hk'
    obtain ⟨rfl, hz1, hz2⟩ := pair_cells hrd
    have k0 : w9.cell? ((a.add (k * 2)).add 0) = some (.string ps[k].1) := hcell 0 _ rfl
    have k1 : w9.cell? ((a.add (k * 2)).add 1) = some (.string ps[k].2.1) := hcell 1 _ rfl
    have hm : (Pack.text ps[k].1 ++ Pack.text ps[k].2.1).length ≤ (pairsB ps).length := flat_mem_le (fun p : PairT => Pack.text p.1 ++ Pack.text p.2.1) (List.getElem_mem hk')
    rw [List.length_append] at hm
    have g0 := text_ge ps[k].1
    have g1 := text_ge ps[k].2.1
    (repeat with_reducible first | refine fd l9 (by decide) ?_| refine ld one55 c9 ?_|refine z_a ?_|refine z_b ?_|refine z_c ?_|refine z_d ?_|refine z_e ?_|refine z_f ?_|refine z_g ?_|refine z_h ?_|refine z_i ?_|refine z_j ?_|refine z_k ?_|refine z_l ?_|refine z_m (by omega) ?_|refine z_n (by omega) ?_|refine z_o (by omega) ?_|refine z_p (by omega) ?_|refine z_q (by omega) ?_|refine z_r (by omega) ?_|refine z_s (by omega) ?_|refine z_t (by omega) ?_|refine z_u (by omega) ?_|refine z_v (by omega) ?_|refine z_w (by omega) ?_|refine z_x (by omega) ?_|refine z_y (by omega) ?_|refine z_z (by omega) ?_|refine z_A ?_|refine z_B ?_|refine z_C ?_|refine z_D ?_|refine z_E ?_|refine z_F ?_|refine z_G ?_|refine z_H ?_|refine z_I ?_|refine z_J ?_|refine z_K (by omega) (by decide) ?_|refine z_L (by omega) (by decide) ?_|refine z_M (by omega) ?_|refine z_N (by omega) ?_|refine z_O (by omega) ?_|refine z_P ?_|refine z_Q ?_|refine z_R ?_|refine z_S ?_|refine z_T ?_|refine z_U (by decide) ?_|refine z_V (by decide) ?_)
    refine ixN und55 sz64 k hk' ?_
    (repeat with_reducible first|refine z_a ?_|refine z_b ?_|refine z_c ?_|refine z_d ?_|refine z_e ?_|refine z_f ?_|refine z_g ?_|refine z_h ?_|refine z_i ?_|refine z_j ?_|refine z_k ?_|refine z_l ?_|refine z_m (by omega) ?_|refine z_n (by omega) ?_|refine z_o (by omega) ?_|refine z_p (by omega) ?_|refine z_q (by omega) ?_|refine z_r (by omega) ?_|refine z_s (by omega) ?_|refine z_t (by omega) ?_|refine z_u (by omega) ?_|refine z_v (by omega) ?_|refine z_w (by omega) ?_|refine z_x (by omega) ?_|refine z_y (by omega) ?_|refine z_z (by omega) ?_|refine z_A ?_|refine z_B ?_|refine z_C ?_|refine z_D ?_|refine z_E ?_|refine z_F ?_|refine z_G ?_|refine z_H ?_|refine z_I ?_|refine z_J ?_|refine z_K (by omega) (by decide) ?_|refine z_L (by omega) (by decide) ?_|refine z_M (by omega) ?_|refine z_N (by omega) ?_|refine z_O (by omega) ?_|refine z_P ?_|refine z_Q ?_|refine z_R ?_|refine z_S ?_|refine z_T ?_|refine z_U (by decide) ?_|refine z_V (by decide) ?_)
    refine fdA p0' (by decide) ?_
    (repeat with_reducible first | refine ld one9 k0 ?_|refine z_a ?_|refine z_b ?_|refine z_c ?_|refine z_d ?_|refine z_e ?_|refine z_f ?_|refine z_g ?_|refine z_h ?_|refine z_i ?_|refine z_j ?_|refine z_k ?_|refine z_l ?_|refine z_m (by omega) ?_|refine z_n (by omega) ?_|refine z_o (by omega) ?_|refine z_p (by omega) ?_|refine z_q (by omega) ?_|refine z_r (by omega) ?_|refine z_s (by omega) ?_|refine z_t (by omega) ?_|refine z_u (by omega) ?_|refine z_v (by omega) ?_|refine z_w (by omega) ?_|refine z_x (by omega) ?_|refine z_y (by omega) ?_|refine z_z (by omega) ?_|refine z_A ?_|refine z_B ?_|refine z_C ?_|refine z_D ?_|refine z_E ?_|refine z_F ?_|refine z_G ?_|refine z_H ?_|refine z_I ?_|refine z_J ?_|refine z_K (by omega) (by decide) ?_|refine z_L (by omega) (by decide) ?_|refine z_M (by omega) ?_|refine z_N (by omega) ?_|refine z_O (by omega) ?_|refine z_P ?_|refine z_Q ?_|refine z_R ?_|refine z_S ?_|refine z_T ?_|refine z_U (by decide) ?_|refine z_V (by decide) ?_)
    refine lns und9 ?_
    (repeat with_reducible first|refine z_a ?_|refine z_b ?_|refine z_c ?_|refine z_d ?_|refine z_e ?_|refine z_f ?_|refine z_g ?_|refine z_h ?_|refine z_i ?_|refine z_j ?_|refine z_k ?_|refine z_l ?_|refine z_m (by omega) ?_|refine z_n (by omega) ?_|refine z_o (by omega) ?_|refine z_p (by omega) ?_|refine z_q (by omega) ?_|refine z_r (by omega) ?_|refine z_s (by omega) ?_|refine z_t (by omega) ?_|refine z_u (by omega) ?_|refine z_v (by omega) ?_|refine z_w (by omega) ?_|refine z_x (by omega) ?_|refine z_y (by omega) ?_|refine z_z (by omega) ?_|refine z_A ?_|refine z_B ?_|refine z_C ?_|refine z_D ?_|refine z_E ?_|refine z_F ?_|refine z_G ?_|refine z_H ?_|refine z_I ?_|refine z_J ?_|refine z_K (by omega) (by decide) ?_|refine z_L (by omega) (by decide) ?_|refine z_M (by omega) ?_|refine z_N (by omega) ?_|refine z_O (by omega) ?_|refine z_P ?_|refine z_Q ?_|refine z_R ?_|refine z_S ?_|refine z_T ?_|refine z_U (by decide) ?_|refine z_V (by decide) ?_)
    refine bi_gtr_c (fun hs1 => ?_) (fun hs1 => ?_)
    · (repeat with_reducible first|refine z_a ?_|refine z_b ?_|refine z_c ?_|refine z_d ?_|refine z_e ?_|refine z_f ?_|refine z_g ?_|refine z_h ?_|refine z_i ?_|refine z_j ?_|refine z_k ?_|refine z_l ?_|refine z_m (by omega) ?_|refine z_n (by omega) ?_|refine z_o (by omega) ?_|refine z_p (by omega) ?_|refine z_q (by omega) ?_|refine z_r (by omega) ?_|refine z_s (by omega) ?_|refine z_t (by omega) ?_|refine z_u (by omega) ?_|refine z_v (by omega) ?_|refine z_w (by omega) ?_|refine z_x (by omega) ?_|refine z_y (by omega) ?_|refine z_z (by omega) ?_|refine z_A ?_|refine z_B ?_|refine z_C ?_|refine z_D ?_|refine z_E ?_|refine z_F ?_|refine z_G ?_|refine z_H ?_|refine z_I ?_|refine z_J ?_|refine z_K (by omega) (by decide) ?_|refine z_L (by omega) (by decide) ?_|refine z_M (by omega) ?_|refine z_N (by omega) ?_|refine z_O (by omega) ?_|refine z_P ?_|refine z_Q ?_|refine z_R ?_|refine z_S ?_|refine z_T ?_|refine z_U (by decide) ?_|refine z_V (by decide) ?_)
      exact ⟨hbig (by rw [hlen]; omega), hfin2 hb9⟩
    (repeat with_reducible first | refine fd l9 (by decide) ?_| refine ld one55 c9 ?_|refine z_a ?_|refine z_b ?_|refine z_c ?_|refine z_d ?_|refine z_e ?_|refine z_f ?_|refine z_g ?_|refine z_h ?_|refine z_i ?_|refine z_j ?_|refine z_k ?_|refine z_l ?_|refine z_m (by omega) ?_|refine z_n (by omega) ?_|refine z_o (by omega) ?_|refine z_p (by omega) ?_|refine z_q (by omega) ?_|refine z_r (by omega) ?_|refine z_s (by omega) ?_|refine z_t (by omega) ?_|refine z_u (by omega) ?_|refine z_v (by omega) ?_|refine z_w (by omega) ?_|refine z_x (by omega) ?_|refine z_y (by omega) ?_|refine z_z (by omega) ?_|refine z_A ?_|refine z_B ?_|refine z_C ?_|refine z_D ?_|refine z_E ?_|refine z_F ?_|refine z_G ?_|refine z_H ?_|refine z_I ?_|refine z_J ?_|refine z_K (by omega) (by decide) ?_|refine z_L (by omega) (by decide) ?_|refine z_M (by omega) ?_|refine z_N (by omega) ?_|refine z_O (by omega) ?_|refine z_P ?_|refine z_Q ?_|refine z_R ?_|refine z_S ?_|refine z_T ?_|refine z_U (by decide) ?_|refine z_V (by decide) ?_)
    refine ixN und55 sz64 k hk' ?_
    (repeat with_reducible first|refine z_a ?_|refine z_b ?_|refine z_c ?_|refine z_d ?_|refine z_e ?_|refine z_f ?_|refine z_g ?_|refine z_h ?_|refine z_i ?_|refine z_j ?_|refine z_k ?_|refine z_l ?_|refine z_m (by omega) ?_|refine z_n (by omega) ?_|refine z_o (by omega) ?_|refine z_p (by omega) ?_|refine z_q (by omega) ?_|refine z_r (by omega) ?_|refine z_s (by omega) ?_|refine z_t (by omega) ?_|refine z_u (by omega) ?_|refine z_v (by omega) ?_|refine z_w (by omega) ?_|refine z_x (by omega) ?_|refine z_y (by omega) ?_|refine z_z (by omega) ?_|refine z_A ?_|refine z_B ?_|refine z_C ?_|refine z_D ?_|refine z_E ?_|refine z_F ?_|refine z_G ?_|refine z_H ?_|refine z_I ?_|refine z_J ?_|refine z_K (by omega) (by decide) ?_|refine z_L (by omega) (by decide) ?_|refine z_M (by omega) ?_|refine z_N (by omega) ?_|refine z_O (by omega) ?_|refine z_P ?_|refine z_Q ?_|refine z_R ?_|refine z_S ?_|refine z_T ?_|refine z_U (by decide) ?_|refine z_V (by decide) ?_)
    refine fdA p1' (by decide) ?_
    (repeat with_reducible first | refine ld one9 k1 ?_|refine z_a ?_|refine z_b ?_|refine z_c ?_|refine z_d ?_|refine z_e ?_|refine z_f ?_|refine z_g ?_|refine z_h ?_|refine z_i ?_|refine z_j ?_|refine z_k ?_|refine z_l ?_|refine z_m (by omega) ?_|refine z_n (by omega) ?_|refine z_o (by omega) ?_|refine z_p (by omega) ?_|refine z_q (by omega) ?_|refine z_r (by omega) ?_|refine z_s (by omega) ?_|refine z_t (by omega) ?_|refine z_u (by omega) ?_|refine z_v (by omega) ?_|refine z_w (by omega) ?_|refine z_x (by omega) ?_|refine z_y (by omega) ?_|refine z_z (by omega) ?_|refine z_A ?_|refine z_B ?_|refine z_C ?_|refine z_D ?_|refine z_E ?_|refine z_F ?_|refine z_G ?_|refine z_H ?_|refine z_I ?_|refine z_J ?_|refine z_K (by omega) (by decide) ?_|refine z_L (by omega) (by decide) ?_|refine z_M (by omega) ?_|refine z_N (by omega) ?_|refine z_O (by omega) ?_|refine z_P ?_|refine z_Q ?_|refine z_R ?_|refine z_S ?_|refine z_T ?_|refine z_U (by decide) ?_|refine z_V (by decide) ?_)
    refine lns und9 ?_
    (repeat with_reducible first|refine z_a ?_|refine z_b ?_|refine z_c ?_|refine z_d ?_|refine z_e ?_|refine z_f ?_|refine z_g ?_|refine z_h ?_|refine z_i ?_|refine z_j ?_|refine z_k ?_|refine z_l ?_|refine z_m (by omega) ?_|refine z_n (by omega) ?_|refine z_o (by omega) ?_|refine z_p (by omega) ?_|refine z_q (by omega) ?_|refine z_r (by omega) ?_|refine z_s (by omega) ?_|refine z_t (by omega) ?_|refine z_u (by omega) ?_|refine z_v (by omega) ?_|refine z_w (by omega) ?_|refine z_x (by omega) ?_|refine z_y (by omega) ?_|refine z_z (by omega) ?_|refine z_A ?_|refine z_B ?_|refine z_C ?_|refine z_D ?_|refine z_E ?_|refine z_F ?_|refine z_G ?_|refine z_H ?_|refine z_I ?_|refine z_J ?_|refine z_K (by omega) (by decide) ?_|refine z_L (by omega) (by decide) ?_|refine z_M (by omega) ?_|refine z_N (by omega) ?_|refine z_O (by omega) ?_|refine z_P ?_|refine z_Q ?_|refine z_R ?_|refine z_S ?_|refine z_T ?_|refine z_U (by decide) ?_|refine z_V (by decide) ?_)
    refine bi_gtr_c (fun hs2 => ?_) (fun hs2 => ?_)
    · (repeat with_reducible first|refine z_a ?_|refine z_b ?_|refine z_c ?_|refine z_d ?_|refine z_e ?_|refine z_f ?_|refine z_g ?_|refine z_h ?_|refine z_i ?_|refine z_j ?_|refine z_k ?_|refine z_l ?_|refine z_m (by omega) ?_|refine z_n (by omega) ?_|refine z_o (by omega) ?_|refine z_p (by omega) ?_|refine z_q (by omega) ?_|refine z_r (by omega) ?_|refine z_s (by omega) ?_|refine z_t (by omega) ?_|refine z_u (by omega) ?_|refine z_v (by omega) ?_|refine z_w (by omega) ?_|refine z_x (by omega) ?_|refine z_y (by omega) ?_|refine z_z (by omega) ?_|refine z_A ?_|refine z_B ?_|refine z_C ?_|refine z_D ?_|refine z_E ?_|refine z_F ?_|refine z_G ?_|refine z_H ?_|refine z_I ?_|refine z_J ?_|refine z_K (by omega) (by decide) ?_|refine z_L (by omega) (by decide) ?_|refine z_M (by omega) ?_|refine z_N (by omega) ?_|refine z_O (by omega) ?_|refine z_P ?_|refine z_Q ?_|refine z_R ?_|refine z_S ?_|refine z_T ?_|refine z_U (by decide) ?_|refine z_V (by decide) ?_)
      exact ⟨hbig (by rw [hlen]; omega), hfin2 hb9⟩
    (repeat with_reducible first | refine fd l9 (by decide) ?_| refine ld one55 c9 ?_|refine z_a ?_|refine z_b ?_|refine z_c ?_|refine z_d ?_|refine z_e ?_|refine z_f ?_|refine z_g ?_|refine z_h ?_|refine z_i ?_|refine z_j ?_|refine z_k ?_|refine z_l ?_|refine z_m (by omega) ?_|refine z_n (by omega) ?_|refine z_o (by omega) ?_|refine z_p (by omega) ?_|refine z_q (by omega) ?_|refine z_r (by omega) ?_|refine z_s (by omega) ?_|refine z_t (by omega) ?_|refine z_u (by omega) ?_|refine z_v (by omega) ?_|refine z_w (by omega) ?_|refine z_x (by omega) ?_|refine z_y (by omega) ?_|refine z_z (by omega) ?_|refine z_A ?_|refine z_B ?_|refine z_C ?_|refine z_D ?_|refine z_E ?_|refine z_F ?_|refine z_G ?_|refine z_H ?_|refine z_I ?_|refine z_J ?_|refine z_K (by omega) (by decide) ?_|refine z_L (by omega) (by decide) ?_|refine z_M (by omega) ?_|refine z_N (by omega) ?_|refine z_O (by omega) ?_|refine z_P ?_|refine z_Q ?_|refine z_R ?_|refine z_S ?_|refine z_T ?_|refine z_U (by decide) ?_|refine z_V (by decide) ?_)
    refine ixN und55 sz64 k hk' ?_
    refine fdA p0' (by decide) ?_
    (repeat with_reducible first | refine ld one9 k0 ?_|refine z_a ?_|refine z_b ?_|refine z_c ?_|refine z_d ?_|refine z_e ?_|refine z_f ?_|refine z_g ?_|refine z_h ?_|refine z_i ?_|refine z_j ?_|refine z_k ?_|refine z_l ?_|refine z_m (by omega) ?_|refine z_n (by omega) ?_|refine z_o (by omega) ?_|refine z_p (by omega) ?_|refine z_q (by omega) ?_|refine z_r (by omega) ?_|refine z_s (by omega) ?_|refine z_t (by omega) ?_|refine z_u (by omega) ?_|refine z_v (by omega) ?_|refine z_w (by omega) ?_|refine z_x (by omega) ?_|refine z_y (by omega) ?_|refine z_z (by omega) ?_|refine z_A ?_|refine z_B ?_|refine z_C ?_|refine z_D ?_|refine z_E ?_|refine z_F ?_|refine z_G ?_|refine z_H ?_|refine z_I ?_|refine z_J ?_|refine z_K (by omega) (by decide) ?_|refine z_L (by omega) (by decide) ?_|refine z_M (by omega) ?_|refine z_N (by omega) ?_|refine z_O (by omega) ?_|refine z_P ?_|refine z_Q ?_|refine z_R ?_|refine z_S ?_|refine z_T ?_|refine z_U (by decide) ?_|refine z_V (by decide) ?_)
    have t0 := text_le ps[k].1 (by omega)
    have t1 := text_le ps[k].2.1 (by omega)
    refine apText ho9 hf9 hb9 (by omega) (by rw [List.length_append]; omega) ?_
    intro oa wa hoa hfa hba
    have c9a : wa.cell? ⟨g, 9, none⟩ = some (.slice (some a) ps.length cA) := (letter2 hba).cell 9
    obtain ⟨a', us', ea, _, hcell', hrd'⟩ := rRow.at (keeps_Pairs _ _ _ _ hba hp2) k hk'
    cases ea
    obtain ⟨rfl, _, _⟩ := pair_cells hrd'
    have k1a : wa.cell? ((a.add (k * 2)).add 1) = some (.string ps[k].2.1) := hcell' 1 _ rfl
    (repeat with_reducible first | refine fd l9 (by decide) ?_| refine ld one55 c9a ?_|refine z_a ?_|refine z_b ?_|refine z_c ?_|refine z_d ?_|refine z_e ?_|refine z_f ?_|refine z_g ?_|refine z_h ?_|refine z_i ?_|refine z_j ?_|refine z_k ?_|refine z_l ?_|refine z_m (by omega) ?_|refine z_n (by omega) ?_|refine z_o (by omega) ?_|refine z_p (by omega) ?_|refine z_q (by omega) ?_|refine z_r (by omega) ?_|refine z_s (by omega) ?_|refine z_t (by omega) ?_|refine z_u (by omega) ?_|refine z_v (by omega) ?_|refine z_w (by omega) ?_|refine z_x (by omega) ?_|refine z_y (by omega) ?_|refine z_z (by omega) ?_|refine z_A ?_|refine z_B ?_|refine z_C ?_|refine z_D ?_|refine z_E ?_|refine z_F ?_|refine z_G ?_|refine z_H ?_|refine z_I ?_|refine z_J ?_|refine z_K (by omega) (by decide) ?_|refine z_L (by omega) (by decide) ?_|refine z_M (by omega) ?_|refine z_N (by omega) ?_|refine z_O (by omega) ?_|refine z_P ?_|refine z_Q ?_|refine z_R ?_|refine z_S ?_|refine z_T ?_|refine z_U (by decide) ?_|refine z_V (by decide) ?_)
    refine ixN und55 sz64 k hk' ?_
    refine fdA p1' (by decide) ?_
    (repeat with_reducible first | refine ld one9 k1a ?_|refine z_a ?_|refine z_b ?_|refine z_c ?_|refine z_d ?_|refine z_e ?_|refine z_f ?_|refine z_g ?_|refine z_h ?_|refine z_i ?_|refine z_j ?_|refine z_k ?_|refine z_l ?_|refine z_m (by omega) ?_|refine z_n (by omega) ?_|refine z_o (by omega) ?_|refine z_p (by omega) ?_|refine z_q (by omega) ?_|refine z_r (by omega) ?_|refine z_s (by omega) ?_|refine z_t (by omega) ?_|refine z_u (by omega) ?_|refine z_v (by omega) ?_|refine z_w (by omega) ?_|refine z_x (by omega) ?_|refine z_y (by omega) ?_|refine z_z (by omega) ?_|refine z_A ?_|refine z_B ?_|refine z_C ?_|refine z_D ?_|refine z_E ?_|refine z_F ?_|refine z_G ?_|refine z_H ?_|refine z_I ?_|refine z_J ?_|refine z_K (by omega) (by decide) ?_|refine z_L (by omega) (by decide) ?_|refine z_M (by omega) ?_|refine z_N (by omega) ?_|refine z_O (by omega) ?_|refine z_P ?_|refine z_Q ?_|refine z_R ?_|refine z_S ?_|refine z_T ?_|refine z_U (by decide) ?_|refine z_V (by decide) ?_)
    refine apText hoa hfa hba (by omega) (by simp only [List.length_append]; omega) ?_
    intro ob wb hob hfb hbb
    (repeat with_reducible first|refine z_a ?_|refine z_b ?_|refine z_c ?_|refine z_d ?_|refine z_e ?_|refine z_f ?_|refine z_g ?_|refine z_h ?_|refine z_i ?_|refine z_j ?_|refine z_k ?_|refine z_l ?_|refine z_m (by omega) ?_|refine z_n (by omega) ?_|refine z_o (by omega) ?_|refine z_p (by omega) ?_|refine z_q (by omega) ?_|refine z_r (by omega) ?_|refine z_s (by omega) ?_|refine z_t (by omega) ?_|refine z_u (by omega) ?_|refine z_v (by omega) ?_|refine z_w (by omega) ?_|refine z_x (by omega) ?_|refine z_y (by omega) ?_|refine z_z (by omega) ?_|refine z_A ?_|refine z_B ?_|refine z_C ?_|refine z_D ?_|refine z_E ?_|refine z_F ?_|refine z_G ?_|refine z_H ?_|refine z_I ?_|refine z_J ?_|refine z_K (by omega) (by decide) ?_|refine z_L (by omega) (by decide) ?_|refine z_M (by omega) ?_|refine z_N (by omega) ?_|refine z_O (by omega) ?_|refine z_P ?_|refine z_Q ?_|refine z_R ?_|refine z_S ?_|refine z_T ?_|refine z_U (by decide) ?_|refine z_V (by decide) ?_)
    have e := map_take_succ (fun p : PairT => Pack.text p.1 ++ Pack.text p.2.1) ps k hk'
    refine hJ _ _ _ ⟨k + 1, by omega, by simp, ?_, hfb, hbb, ?_⟩ (by simp [intOf]; omega)
    · rw [pairsB, e, ← List.append_assoc, ← List.append_assoc]
      exact hob
    · have e' : pairsB (ps.take (k + 1)) = pairsB (ps.take k) ++ (Pack.text ps[k].1 ++ Pack.text ps[k].2.1) := e
      rw [e', List.length_append, List.length_append]
      omega
  have hkp : k = ps.length := by omega
  subst hkp
  clear hJ c9
  rw [List.take_length] at ho9 bP
  have c10 : w9.cell? ⟨g, 10, none⟩ = some (.slice A' is.length cA') := (letter2 hb9).cell 10
  (repeat with_reducible first | refine fd l10 (by decide) ?_| refine ld one56 c10 ?_|refine z_a ?_|refine z_b ?_|refine z_c ?_|refine z_d ?_|refine z_e ?_|refine z_f ?_|refine z_g ?_|refine z_h ?_|refine z_i ?_|refine z_j ?_|refine z_k ?_|refine z_l ?_|refine z_m (by omega) ?_|refine z_n (by omega) ?_|refine z_o (by omega) ?_|refine z_p (by omega) ?_|refine z_q (by omega) ?_|refine z_r (by omega) ?_|refine z_s (by omega) ?_|refine z_t (by omega) ?_|refine z_u (by omega) ?_|refine z_v (by omega) ?_|refine z_w (by omega) ?_|refine z_x (by omega) ?_|refine z_y (by omega) ?_|refine z_z (by omega) ?_|refine z_A ?_|refine z_B ?_|refine z_C ?_|refine z_D ?_|refine z_E ?_|refine z_F ?_|refine z_G ?_|refine z_H ?_|refine z_I ?_|refine z_J ?_|refine z_K (by omega) (by decide) ?_|refine z_L (by omega) (by decide) ?_|refine z_M (by omega) ?_|refine z_N (by omega) ?_|refine z_O (by omega) ?_|refine z_P ?_|refine z_Q ?_|refine z_R ?_|refine z_S ?_|refine z_T ?_|refine z_U (by decide) ?_|refine z_V (by decide) ?_)
  refine ln und56 ?_
  refine apNum ho9 hf9 hb9 (by omega) (by rw [List.length_append]; omega) ?_
  intro oc wc hoc hfc hbc
  have nI := num_le6 is.length (by omega)
  obtain ⟨bC, hbC⟩ : ∃ b, bB ++ pairsB ps ++ Pack.num is.length = b := ⟨_, rfl⟩
  have lC : bC.length ≤ 40000000 := by rw [← hbC, List.length_append, List.length_append]; omega
  have lC' : bC.length = bB.length + (pairsB ps).length + (Pack.num is.length).length := by rw [← hbC]; simp only [List.length_append]
  rw [hbC] at hoc epk
  clear hbC ho9 hf9 hb9 c10 bP
  -- the intents
  refine LoopP.inv2 (fun o iv w' => ∃ k : Nat, k ≤ is.length ∧ iv = .int .i64 k ∧ Own 5 w' o ((bC ++ intentsB (is.take k)).map u8) ∧ Fresh w2.heap.size o ∧ Below w2.heap.size w2 w' ∧ (intentsB (is.take k)).length ≤ k * 65554) (fun _ iv _ => is.length - (intOf iv).toNat) ⟨0, by omega, rfl, by simpa [intentsB] using hoc, hfc, hbc, by simp [intentsB]⟩ ?_
  clear hoc hfc hbc
  rintro o _ w9 ⟨k, hk, rfl, ho9, hf9, hb9, bI⟩ J hJ
  dsimp only [List.headD_cons, List.tail_cons]
  have c10 : w9.cell? ⟨g, 10, none⟩ = some (.slice A' is.length cA') := (letter2 hb9).cell 10
  (repeat with_reducible first | refine fd l10 (by decide) ?_| refine ld one56 c10 ?_|refine z_a ?_|refine z_b ?_|refine z_c ?_|refine z_d ?_|refine z_e ?_|refine z_f ?_|refine z_g ?_|refine z_h ?_|refine z_i ?_|refine z_j ?_|refine z_k ?_|refine z_l ?_|refine z_m (by omega) ?_|refine z_n (by omega) ?_|refine z_o (by omega) ?_|refine z_p (by omega) ?_|refine z_q (by omega) ?_|refine z_r (by omega) ?_|refine z_s (by omega) ?_|refine z_t (by omega) ?_|refine z_u (by omega) ?_|refine z_v (by omega) ?_|refine z_w (by omega) ?_|refine z_x (by omega) ?_|refine z_y (by omega) ?_|refine z_z (by omega) ?_|refine z_A ?_|refine z_B ?_|refine z_C ?_|refine z_D ?_|refine z_E ?_|refine z_F ?_|refine z_G ?_|refine z_H ?_|refine z_I ?_|refine z_J ?_|refine z_K (by omega) (by decide) ?_|refine z_L (by omega) (by decide) ?_|refine z_M (by omega) ?_|refine z_N (by omega) ?_|refine z_O (by omega) ?_|refine z_P ?_|refine z_Q ?_|refine z_R ?_|refine z_S ?_|refine z_T ?_|refine z_U (by decide) ?_|refine z_V (by decide) ?_)
  refine ln und56 ?_
  refine bi_lss_c (fun h => ?_) (fun h => ?_)
  · have hk' : k < is.length := by omega
    have hI : (intentsB (is.take k)).length ≤ (intentsB is).length := flat_take_le _ is k
    (repeat with_reducible first|refine z_a ?_|refine z_b ?_|refine z_c ?_|refine z_d ?_|refine z_e ?_|refine z_f ?_|refine z_g ?_|refine z_h ?_|refine z_i ?_|refine z_j ?_|refine z_k ?_|refine z_l ?_|refine z_m (by omega) ?_|refine z_n (by omega) ?_|refine z_o (by omega) ?_|refine z_p (by omega) ?_|refine z_q (by omega) ?_|refine z_r (by omega) ?_|refine z_s (by omega) ?_|refine z_t (by omega) ?_|refine z_u (by omega) ?_|refine z_v (by omega) ?_|refine z_w (by omega) ?_|refine z_x (by omega) ?_|refine z_y (by omega) ?_|refine z_z (by omega) ?_|refine z_A ?_|refine z_B ?_|refine z_C ?_|refine z_D ?_|refine z_E ?_|refine z_F ?_|refine z_G ?_|refine z_H ?_|refine z_I ?_|refine z_J ?_|refine z_K (by omega) (by decide) ?_|refine z_L (by omega) (by decide) ?_|refine z_M (by omega) ?_|refine z_N (by omega) ?_|refine z_O (by omega) ?_|refine z_P ?_|refine z_Q ?_|refine z_R ?_|refine z_S ?_|refine z_T ?_|refine z_U (by decide) ?_|refine z_V (by decide) ?_)
    refine lnO undB ho9 ?_
    rw [List.length_map]
    refine bi_gtr_c (fun hs => ?_) (fun hs => ?_)
    · (repeat with_reducible first|refine z_a ?_|refine z_b ?_|refine z_c ?_|refine z_d ?_|refine z_e ?_|refine z_f ?_|refine z_g ?_|refine z_h ?_|refine z_i ?_|refine z_j ?_|refine z_k ?_|refine z_l ?_|refine z_m (by omega) ?_|refine z_n (by omega) ?_|refine z_o (by omega) ?_|refine z_p (by omega) ?_|refine z_q (by omega) ?_|refine z_r (by omega) ?_|refine z_s (by omega) ?_|refine z_t (by omega) ?_|refine z_u (by omega) ?_|refine z_v (by omega) ?_|refine z_w (by omega) ?_|refine z_x (by omega) ?_|refine z_y (by omega) ?_|refine z_z (by omega) ?_|refine z_A ?_|refine z_B ?_|refine z_C ?_|refine z_D ?_|refine z_E ?_|refine z_F ?_|refine z_G ?_|refine z_H ?_|refine z_I ?_|refine z_J ?_|refine z_K (by omega) (by decide) ?_|refine z_L (by omega) (by decide) ?_|refine z_M (by omega) ?_|refine z_N (by omega) ?_|refine z_O (by omega) ?_|refine z_P ?_|refine z_Q ?_|refine z_R ?_|refine z_S ?_|refine z_T ?_|refine z_U (by decide) ?_|refine z_V (by decide) ?_)
      exact ⟨hbig (by rw [hlen]; rw [List.length_append] at hs; omega), hfin2 hb9⟩
    obtain ⟨a, us, rfl, hus, hcell, hrd⟩ := rRow.at (keeps_Intents _ _ _ _ hb9 hq2) k hk'
    obtain ⟨rfl, hz1⟩ := intent_cells hrd
    have k0 : w9.cell? ((a.add (k * 3)).add 0) = some (.string is[k].1) := hcell 0 _ rfl
    have hm : (Pack.text is[k].1 ++ (Pack.num is[k].2.1.toNat ++ Pack.num (bitN is[k].2.2.1))).length ≤ (intentsB is).length := flat_mem_le (fun p : IntentT => Pack.text p.1 ++ (Pack.num p.2.1.toNat ++ Pack.num (bitN p.2.2.1))) (List.getElem_mem hk')
    rw [List.length_append] at hm
    have g0 := text_ge is[k].1
    have hv := hvers _ (List.getElem_mem hk')
    (repeat with_reducible first | refine fd l10 (by decide) ?_| refine ld one56 c10 ?_|refine z_a ?_|refine z_b ?_|refine z_c ?_|refine z_d ?_|refine z_e ?_|refine z_f ?_|refine z_g ?_|refine z_h ?_|refine z_i ?_|refine z_j ?_|refine z_k ?_|refine z_l ?_|refine z_m (by omega) ?_|refine z_n (by omega) ?_|refine z_o (by omega) ?_|refine z_p (by omega) ?_|refine z_q (by omega) ?_|refine z_r (by omega) ?_|refine z_s (by omega) ?_|refine z_t (by omega) ?_|refine z_u (by omega) ?_|refine z_v (by omega) ?_|refine z_w (by omega) ?_|refine z_x (by omega) ?_|refine z_y (by omega) ?_|refine z_z (by omega) ?_|refine z_A ?_|refine z_B ?_|refine z_C ?_|refine z_D ?_|refine z_E ?_|refine z_F ?_|refine z_G ?_|refine z_H ?_|refine z_I ?_|refine z_J ?_|refine z_K (by omega) (by decide) ?_|refine z_L (by omega) (by decide) ?_|refine z_M (by omega) ?_|refine z_N (by omega) ?_|refine z_O (by omega) ?_|refine z_P ?_|refine z_Q ?_|refine z_R ?_|refine z_S ?_|refine z_T ?_|refine z_U (by decide) ?_|refine z_V (by decide) ?_)
    refine ixN und56 sz68 k hk' ?_
    (repeat with_reducible first|refine z_a ?_|refine z_b ?_|refine z_c ?_|refine z_d ?_|refine z_e ?_|refine z_f ?_|refine z_g ?_|refine z_h ?_|refine z_i ?_|refine z_j ?_|refine z_k ?_|refine z_l ?_|refine z_m (by omega) ?_|refine z_n (by omega) ?_|refine z_o (by omega) ?_|refine z_p (by omega) ?_|refine z_q (by omega) ?_|refine z_r (by omega) ?_|refine z_s (by omega) ?_|refine z_t (by omega) ?_|refine z_u (by omega) ?_|refine z_v (by omega) ?_|refine z_w (by omega) ?_|refine z_x (by omega) ?_|refine z_y (by omega) ?_|refine z_z (by omega) ?_|refine z_A ?_|refine z_B ?_|refine z_C ?_|refine z_D ?_|refine z_E ?_|refine z_F ?_|refine z_G ?_|refine z_H ?_|refine z_I ?_|refine z_J ?_|refine z_K (by omega) (by decide) ?_|refine z_L (by omega) (by decide) ?_|refine z_M (by omega) ?_|refine z_N (by omega) ?_|refine z_O (by omega) ?_|refine z_P ?_|refine z_Q ?_|refine z_R ?_|refine z_S ?_|refine z_T ?_|refine z_U (by decide) ?_|refine z_V (by decide) ?_)
    refine fdA q0' (by decide) ?_
    (repeat with_reducible first | refine ld one9 k0 ?_|refine z_a ?_|refine z_b ?_|refine z_c ?_|refine z_d ?_|refine z_e ?_|refine z_f ?_|refine z_g ?_|refine z_h ?_|refine z_i ?_|refine z_j ?_|refine z_k ?_|refine z_l ?_|refine z_m (by omega) ?_|refine z_n (by omega) ?_|refine z_o (by omega) ?_|refine z_p (by omega) ?_|refine z_q (by omega) ?_|refine z_r (by omega) ?_|refine z_s (by omega) ?_|refine z_t (by omega) ?_|refine z_u (by omega) ?_|refine z_v (by omega) ?_|refine z_w (by omega) ?_|refine z_x (by omega) ?_|refine z_y (by omega) ?_|refine z_z (by omega) ?_|refine z_A ?_|refine z_B ?_|refine z_C ?_|refine z_D ?_|refine z_E ?_|refine z_F ?_|refine z_G ?_|refine z_H ?_|refine z_I ?_|refine z_J ?_|refine z_K (by omega) (by decide) ?_|refine z_L (by omega) (by decide) ?_|refine z_M (by omega) ?_|refine z_N (by omega) ?_|refine z_O (by omega) ?_|refine z_P ?_|refine z_Q ?_|refine z_R ?_|refine z_S ?_|refine z_T ?_|refine z_U (by decide) ?_|refine z_V (by decide) ?_)
    refine lns und9 ?_
    (repeat with_reducible first|refine z_a ?_|refine z_b ?_|refine z_c ?_|refine z_d ?_|refine z_e ?_|refine z_f ?_|refine z_g ?_|refine z_h ?_|refine z_i ?_|refine z_j ?_|refine z_k ?_|refine z_l ?_|refine z_m (by omega) ?_|refine z_n (by omega) ?_|refine z_o (by omega) ?_|refine z_p (by omega) ?_|refine z_q (by omega) ?_|refine z_r (by omega) ?_|refine z_s (by omega) ?_|refine z_t (by omega) ?_|refine z_u (by omega) ?_|refine z_v (by omega) ?_|refine z_w (by omega) ?_|refine z_x (by omega) ?_|refine z_y (by omega) ?_|refine z_z (by omega) ?_|refine z_A ?_|refine z_B ?_|refine z_C ?_|refine z_D ?_|refine z_E ?_|refine z_F ?_|refine z_G ?_|refine z_H ?_|refine z_I ?_|refine z_J ?_|refine z_K (by omega) (by decide) ?_|refine z_L (by omega) (by decide) ?_|refine z_M (by omega) ?_|refine z_N (by omega) ?_|refine z_O (by omega) ?_|refine z_P ?_|refine z_Q ?_|refine z_R ?_|refine z_S ?_|refine z_T ?_|refine z_U (by decide) ?_|refine z_V (by decide) ?_)
    refine bi_gtr_c (fun hs1 => ?_) (fun hs1 => ?_)
    · (repeat with_reducible first|refine z_a ?_|refine z_b ?_|refine z_c ?_|refine z_d ?_|refine z_e ?_|refine z_f ?_|refine z_g ?_|refine z_h ?_|refine z_i ?_|refine z_j ?_|refine z_k ?_|refine z_l ?_|refine z_m (by omega) ?_|refine z_n (by omega) ?_|refine z_o (by omega) ?_|refine z_p (by omega) ?_|refine z_q (by omega) ?_|refine z_r (by omega) ?_|refine z_s (by omega) ?_|refine z_t (by omega) ?_|refine z_u (by omega) ?_|refine z_v (by omega) ?_|refine z_w (by omega) ?_|refine z_x (by omega) ?_|refine z_y (by omega) ?_|refine z_z (by omega) ?_|refine z_A ?_|refine z_B ?_|refine z_C ?_|refine z_D ?_|refine z_E ?_|refine z_F ?_|refine z_G ?_|refine z_H ?_|refine z_I ?_|refine z_J ?_|refine z_K (by omega) (by decide) ?_|refine z_L (by omega) (by decide) ?_|refine z_M (by omega) ?_|refine z_N (by omega) ?_|refine z_O (by omega) ?_|refine z_P ?_|refine z_Q ?_|refine z_R ?_|refine z_S ?_|refine z_T ?_|refine z_U (by decide) ?_|refine z_V (by decide) ?_)
      exact ⟨hbig (by rw [hlen]; omega), hfin2 hb9⟩
    (repeat with_reducible first | refine fd l10 (by decide) ?_| refine ld one56 c10 ?_|refine z_a ?_|refine z_b ?_|refine z_c ?_|refine z_d ?_|refine z_e ?_|refine z_f ?_|refine z_g ?_|refine z_h ?_|refine z_i ?_|refine z_j ?_|refine z_k ?_|refine z_l ?_|refine z_m (by omega) ?_|refine z_n (by omega) ?_|refine z_o (by omega) ?_|refine z_p (by omega) ?_|refine z_q (by omega) ?_|refine z_r (by omega) ?_|refine z_s (by omega) ?_|refine z_t (by omega) ?_|refine z_u (by omega) ?_|refine z_v (by omega) ?_|refine z_w (by omega) ?_|refine z_x (by omega) ?_|refine z_y (by omega) ?_|refine z_z (by omega) ?_|refine z_A ?_|refine z_B ?_|refine z_C ?_|refine z_D ?_|refine z_E ?_|refine z_F ?_|refine z_G ?_|refine z_H ?_|refine z_I ?_|refine z_J ?_|refine z_K (by omega) (by decide) ?_|refine z_L (by omega) (by decide) ?_|refine z_M (by omega) ?_|refine z_N (by omega) ?_|refine z_O (by omega) ?_|refine z_P ?_|refine z_Q ?_|refine z_R ?_|refine z_S ?_|refine z_T ?_|refine z_U (by decide) ?_|refine z_V (by decide) ?_)
    refine ixN und56 sz68 k hk' ?_
    refine fdA q0' (by decide) ?_
    (repeat with_reducible first | refine ld one9 k0 ?_|refine z_a ?_|refine z_b ?_|refine z_c ?_|refine z_d ?_|refine z_e ?_|refine z_f ?_|refine z_g ?_|refine z_h ?_|refine z_i ?_|refine z_j ?_|refine z_k ?_|refine z_l ?_|refine z_m (by omega) ?_|refine z_n (by omega) ?_|refine z_o (by omega) ?_|refine z_p (by omega) ?_|refine z_q (by omega) ?_|refine z_r (by omega) ?_|refine z_s (by omega) ?_|refine z_t (by omega) ?_|refine z_u (by omega) ?_|refine z_v (by omega) ?_|refine z_w (by omega) ?_|refine z_x (by omega) ?_|refine z_y (by omega) ?_|refine z_z (by omega) ?_|refine z_A ?_|refine z_B ?_|refine z_C ?_|refine z_D ?_|refine z_E ?_|refine z_F ?_|refine z_G ?_|refine z_H ?_|refine z_I ?_|refine z_J ?_|refine z_K (by omega) (by decide) ?_|refine z_L (by omega) (by decide) ?_|refine z_M (by omega) ?_|refine z_N (by omega) ?_|refine z_O (by omega) ?_|refine z_P ?_|refine z_Q ?_|refine z_R ?_|refine z_S ?_|refine z_T ?_|refine z_U (by decide) ?_|refine z_V (by decide) ?_)
    have t0 := text_le is[k].1 (by omega)
    have t1 := num_le6 is[k].2.1.toNat (by omega)
    have t2 := num_le6 (bitN is[k].2.2.1) (by unfold bitN; split <;> omega)
    refine apText ho9 hf9 hb9 (by omega) (by rw [List.length_append]; omega) ?_
    intro oa wa hoa hfa hba
    have c10a : wa.cell? ⟨g, 10, none⟩ = some (.slice (some a) is.length cA') := (letter2 hba).cell 10
    obtain ⟨a', us', ea, _, hcell', hrd'⟩ := rRow.at (keeps_Intents _ _ _ _ hba hq2) k hk'
    cases ea
    obtain ⟨rfl, _⟩ := intent_cells hrd'
    have k1a : wa.cell? ((a.add (k * 3)).add 1) = some (.int .i64 is[k].2.1) := hcell' 1 _ rfl
    (repeat with_reducible first | refine fd l10 (by decide) ?_| refine ld one56 c10a ?_|refine z_a ?_|refine z_b ?_|refine z_c ?_|refine z_d ?_|refine z_e ?_|refine z_f ?_|refine z_g ?_|refine z_h ?_|refine z_i ?_|refine z_j ?_|refine z_k ?_|refine z_l ?_|refine z_m (by omega) ?_|refine z_n (by omega) ?_|refine z_o (by omega) ?_|refine z_p (by omega) ?_|refine z_q (by omega) ?_|refine z_r (by omega) ?_|refine z_s (by omega) ?_|refine z_t (by omega) ?_|refine z_u (by omega) ?_|refine z_v (by omega) ?_|refine z_w (by omega) ?_|refine z_x (by omega) ?_|refine z_y (by omega) ?_|refine z_z (by omega) ?_|refine z_A ?_|refine z_B ?_|refine z_C ?_|refine z_D ?_|refine z_E ?_|refine z_F ?_|refine z_G ?_|refine z_H ?_|refine z_I ?_|refine z_J ?_|refine z_K (by omega) (by decide) ?_|refine z_L (by omega) (by decide) ?_|refine z_M (by omega) ?_|refine z_N (by omega) ?_|refine z_O (by omega) ?_|refine z_P ?_|refine z_Q ?_|refine z_R ?_|refine z_S ?_|refine z_T ?_|refine z_U (by decide) ?_|refine z_V (by decide) ?_)
    refine ixN und56 sz68 k hk' ?_
    refine fdA q1' (by decide) ?_
    (repeat with_reducible first | refine ld one3 k1a ?_|refine z_a ?_|refine z_b ?_|refine z_c ?_|refine z_d ?_|refine z_e ?_|refine z_f ?_|refine z_g ?_|refine z_h ?_|refine z_i ?_|refine z_j ?_|refine z_k ?_|refine z_l ?_|refine z_m (by omega) ?_|refine z_n (by omega) ?_|refine z_o (by omega) ?_|refine z_p (by omega) ?_|refine z_q (by omega) ?_|refine z_r (by omega) ?_|refine z_s (by omega) ?_|refine z_t (by omega) ?_|refine z_u (by omega) ?_|refine z_v (by omega) ?_|refine z_w (by omega) ?_|refine z_x (by omega) ?_|refine z_y (by omega) ?_|refine z_z (by omega) ?_|refine z_A ?_|refine z_B ?_|refine z_C ?_|refine z_D ?_|refine z_E ?_|refine z_F ?_|refine z_G ?_|refine z_H ?_|refine z_I ?_|refine z_J ?_|refine z_K (by omega) (by decide) ?_|refine z_L (by omega) (by decide) ?_|refine z_M (by omega) ?_|refine z_N (by omega) ?_|refine z_O (by omega) ?_|refine z_P ?_|refine z_Q ?_|refine z_R ?_|refine z_S ?_|refine z_T ?_|refine z_U (by decide) ?_|refine z_V (by decide) ?_)
    rw [show is[k].2.1 = ((is[k].2.1.toNat : Nat) : Int) by omega]
    refine apNum hoa hfa hba (by omega) (by simp only [List.length_append]; omega) ?_
    intro ob wb hob hfb hbb
    have c10b : wb.cell? ⟨g, 10, none⟩ = some (.slice (some a) is.length cA') := (letter2 hbb).cell 10
    obtain ⟨a', us', ea, _, hcell', hrd'⟩ := rRow.at (keeps_Intents _ _ _ _ hbb hq2) k hk'
    cases ea
    obtain ⟨rfl, _⟩ := intent_cells hrd'
    have k2b : wb.cell? ((a.add (k * 3)).add 2) = some (.bool is[k].2.2.1) := hcell' 2 _ rfl
    (repeat with_reducible first | refine fd l10 (by decide) ?_| refine ld one56 c10b ?_|refine z_a ?_|refine z_b ?_|refine z_c ?_|refine z_d ?_|refine z_e ?_|refine z_f ?_|refine z_g ?_|refine z_h ?_|refine z_i ?_|refine z_j ?_|refine z_k ?_|refine z_l ?_|refine z_m (by omega) ?_|refine z_n (by omega) ?_|refine z_o (by omega) ?_|refine z_p (by omega) ?_|refine z_q (by omega) ?_|refine z_r (by omega) ?_|refine z_s (by omega) ?_|refine z_t (by omega) ?_|refine z_u (by omega) ?_|refine z_v (by omega) ?_|refine z_w (by omega) ?_|refine z_x (by omega) ?_|refine z_y (by omega) ?_|refine z_z (by omega) ?_|refine z_A ?_|refine z_B ?_|refine z_C ?_|refine z_D ?_|refine z_E ?_|refine z_F ?_|refine z_G ?_|refine z_H ?_|refine z_I ?_|refine z_J ?_|refine z_K (by omega) (by decide) ?_|refine z_L (by omega) (by decide) ?_|refine z_M (by omega) ?_|refine z_N (by omega) ?_|refine z_O (by omega) ?_|refine z_P ?_|refine z_Q ?_|refine z_R ?_|refine z_S ?_|refine z_T ?_|refine z_U (by decide) ?_|refine z_V (by decide) ?_)
    refine ixN und56 sz68 k hk' ?_
    refine fdA q2' (by decide) ?_
    (repeat with_reducible first | refine ld one4 k2b ?_|refine z_a ?_|refine z_b ?_|refine z_c ?_|refine z_d ?_|refine z_e ?_|refine z_f ?_|refine z_g ?_|refine z_h ?_|refine z_i ?_|refine z_j ?_|refine z_k ?_|refine z_l ?_|refine z_m (by omega) ?_|refine z_n (by omega) ?_|refine z_o (by omega) ?_|refine z_p (by omega) ?_|refine z_q (by omega) ?_|refine z_r (by omega) ?_|refine z_s (by omega) ?_|refine z_t (by omega) ?_|refine z_u (by omega) ?_|refine z_v (by omega) ?_|refine z_w (by omega) ?_|refine z_x (by omega) ?_|refine z_y (by omega) ?_|refine z_z (by omega) ?_|refine z_A ?_|refine z_B ?_|refine z_C ?_|refine z_D ?_|refine z_E ?_|refine z_F ?_|refine z_G ?_|refine z_H ?_|refine z_I ?_|refine z_J ?_|refine z_K (by omega) (by decide) ?_|refine z_L (by omega) (by decide) ?_|refine z_M (by omega) ?_|refine z_N (by omega) ?_|refine z_O (by omega) ?_|refine z_P ?_|refine z_Q ?_|refine z_R ?_|refine z_S ?_|refine z_T ?_|refine z_U (by decide) ?_|refine z_V (by decide) ?_)
    refine apFlag hob hfb hbb (by simp only [List.length_append]; omega) ?_
    intro oc wc hoc hfc hbc
    (repeat with_reducible first|refine z_a ?_|refine z_b ?_|refine z_c ?_|refine z_d ?_|refine z_e ?_|refine z_f ?_|refine z_g ?_|refine z_h ?_|refine z_i ?_|refine z_j ?_|refine z_k ?_|refine z_l ?_|refine z_m (by omega) ?_|refine z_n (by omega) ?_|refine z_o (by omega) ?_|refine z_p (by omega) ?_|refine z_q (by omega) ?_|refine z_r (by omega) ?_|refine z_s (by omega) ?_|refine z_t (by omega) ?_|refine z_u (by omega) ?_|refine z_v (by omega) ?_|refine z_w (by omega) ?_|refine z_x (by omega) ?_|refine z_y (by omega) ?_|refine z_z (by omega) ?_|refine z_A ?_|refine z_B ?_|refine z_C ?_|refine z_D ?_|refine z_E ?_|refine z_F ?_|refine z_G ?_|refine z_H ?_|refine z_I ?_|refine z_J ?_|refine z_K (by omega) (by decide) ?_|refine z_L (by omega) (by decide) ?_|refine z_M (by omega) ?_|refine z_N (by omega) ?_|refine z_O (by omega) ?_|refine z_P ?_|refine z_Q ?_|refine z_R ?_|refine z_S ?_|refine z_T ?_|refine z_U (by decide) ?_|refine z_V (by decide) ?_)
    have e := map_take_succ (fun p : IntentT => Pack.text p.1 ++ (Pack.num p.2.1.toNat ++ Pack.num (bitN p.2.2.1))) is k hk'
    refine hJ _ _ _ ⟨k + 1, by omega, by simp, ?_, hfc, hbc, ?_⟩ (by simp [intOf]; omega)
    · rw [intentsB, e]
      simp only [List.append_assoc] at hoc ⊢
      exact hoc
    · have e' : intentsB (is.take (k + 1)) = intentsB (is.take k) ++ (Pack.text is[k].1 ++ (Pack.num is[k].2.1.toNat ++ Pack.num (bitN is[k].2.2.1))) := e
      rw [e', List.length_append, List.length_append, List.length_append]
      omega
  have hki : k = is.length := by omega
  subst hki
  clear hJ c10
  rw [List.take_length] at ho9
  rw [← epk] at ho9
  obtain ⟨Ao, co, hoe⟩ := ho9.slice
  have hrb := ho9.rdB
  rw [hoe] at hrb ⊢
  rw [List.length_map] at hrb ⊢
  (repeat with_reducible first|refine z_a ?_|refine z_b ?_|refine z_c ?_|refine z_d ?_|refine z_e ?_|refine z_f ?_|refine z_g ?_|refine z_h ?_|refine z_i ?_|refine z_j ?_|refine z_k ?_|refine z_l ?_|refine z_m (by omega) ?_|refine z_n (by omega) ?_|refine z_o (by omega) ?_|refine z_p (by omega) ?_|refine z_q (by omega) ?_|refine z_r (by omega) ?_|refine z_s (by omega) ?_|refine z_t (by omega) ?_|refine z_u (by omega) ?_|refine z_v (by omega) ?_|refine z_w (by omega) ?_|refine z_x (by omega) ?_|refine z_y (by omega) ?_|refine z_z (by omega) ?_|refine z_A ?_|refine z_B ?_|refine z_C ?_|refine z_D ?_|refine z_E ?_|refine z_F ?_|refine z_G ?_|refine z_H ?_|refine z_I ?_|refine z_J ?_|refine z_K (by omega) (by decide) ?_|refine z_L (by omega) (by decide) ?_|refine z_M (by omega) ?_|refine z_N (by omega) ?_|refine z_O (by omega) ?_|refine z_P ?_|refine z_Q ?_|refine z_R ?_|refine z_S ?_|refine z_T ?_|refine z_U (by decide) ?_|refine z_V (by decide) ?_)
  refine ln undB ?_
  refine bi_gtr_c (fun hs => ?_) (fun hs => ?_)
  · (repeat with_reducible first|refine z_a ?_|refine z_b ?_|refine z_c ?_|refine z_d ?_|refine z_e ?_|refine z_f ?_|refine z_g ?_|refine z_h ?_|refine z_i ?_|refine z_j ?_|refine z_k ?_|refine z_l ?_|refine z_m (by omega) ?_|refine z_n (by omega) ?_|refine z_o (by omega) ?_|refine z_p (by omega) ?_|refine z_q (by omega) ?_|refine z_r (by omega) ?_|refine z_s (by omega) ?_|refine z_t (by omega) ?_|refine z_u (by omega) ?_|refine z_v (by omega) ?_|refine z_w (by omega) ?_|refine z_x (by omega) ?_|refine z_y (by omega) ?_|refine z_z (by omega) ?_|refine z_A ?_|refine z_B ?_|refine z_C ?_|refine z_D ?_|refine z_E ?_|refine z_F ?_|refine z_G ?_|refine z_H ?_|refine z_I ?_|refine z_J ?_|refine z_K (by omega) (by decide) ?_|refine z_L (by omega) (by decide) ?_|refine z_M (by omega) ?_|refine z_N (by omega) ?_|refine z_O (by omega) ?_|refine z_P ?_|refine z_Q ?_|refine z_R ?_|refine z_S ?_|refine z_T ?_|refine z_U (by decide) ?_|refine z_V (by decide) ?_)
    exact ⟨hbig (by omega), hfin2 hb9⟩
  · (repeat with_reducible first|refine z_a ?_|refine z_b ?_|refine z_c ?_|refine z_d ?_|refine z_e ?_|refine z_f ?_|refine z_g ?_|refine z_h ?_|refine z_i ?_|refine z_j ?_|refine z_k ?_|refine z_l ?_|refine z_m (by omega) ?_|refine z_n (by omega) ?_|refine z_o (by omega) ?_|refine z_p (by omega) ?_|refine z_q (by omega) ?_|refine z_r (by omega) ?_|refine z_s (by omega) ?_|refine z_t (by omega) ?_|refine z_u (by omega) ?_|refine z_v (by omega) ?_|refine z_w (by omega) ?_|refine z_x (by omega) ?_|refine z_y (by omega) ?_|refine z_z (by omega) ?_|refine z_A ?_|refine z_B ?_|refine z_C ?_|refine z_D ?_|refine z_E ?_|refine z_F ?_|refine z_G ?_|refine z_H ?_|refine z_I ?_|refine z_J ?_|refine z_K (by omega) (by decide) ?_|refine z_L (by omega) (by decide) ?_|refine z_M (by omega) ?_|refine z_N (by omega) ?_|refine z_O (by omega) ?_|refine z_P ?_|refine z_Q ?_|refine z_R ?_|refine z_S ?_|refine z_T ?_|refine z_U (by decide) ?_|refine z_V (by decide) ?_)
    refine cvBS undB und5 und9 hrb ?_
    exact ⟨⟨⟨(packedB L ps is).toArray⟩, by rw [herr, if_neg (by omega)]; rfl⟩, hfin2 hb9⟩
end Go.Proofs.Ythicbfopjakiiaa.E
