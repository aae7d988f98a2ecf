import Derived.IntWalk
import Derived.Test.YthicbfopjakiiaaM3
import Derived.Test.YthicbfopjakiiaaS1
namespace Go.Proofs.Ythicbfopjakiiaa.Frame
theorem flat_take (bss : List (List UInt8)) (k : Nat) (h : k < bss.length) : (bss.take (k + 1)).flatten = (bss.take k).flatten ++ bss[k] := by
  rw [List.take_succ_eq_append_getElem h, List.flatten_append, List.flatten_cons, List.flatten_nil, List.append_nil]
theorem flat_le (bss : List (List UInt8)) (k : Nat) : (bss.take k).flatten.length ≤ bss.flatten.length := by
  have h := congrArg (fun x => x.flatten.length) (List.take_append_drop k bss)
  simp only [List.flatten_append, List.length_append] at h
  omega
end Go.Proofs.Ythicbfopjakiiaa.Frame
namespace Go.Proofs.Ythicbfopjakiiaa.E
open Go Go.RowKit
set_option linter.unusedSimpArgs false
set_option linter.unusedVariables false
theorem undSS : Try.prog.underlying 133 = some (.slice 30) := by kernel_rfl
theorem undB : Try.prog.underlying 30 = some (.slice 5) := by kernel_rfl
theorem und5 : Try.prog.underlying 5 = some (.int .u8) := by kernel_rfl
theorem und3 : Try.prog.underlying 3 = some (.int .i64) := by kernel_rfl
theorem und9 : Try.prog.underlying 9 = some .string := by kernel_rfl
theorem szB : (Try.prog.info? 30).map (·.size) = some 1 := by kernel_rfl
theorem sz5 : (Try.prog.info? 5).map (·.size) = some 1 := by kernel_rfl
theorem sz3 : (Try.prog.info? 3).map (·.size) = some 1 := by kernel_rfl
theorem oneBB : oneB Try.prog 30 = true := by kernel_rfl
theorem one3 : oneB Try.prog 3 = true := by kernel_rfl
theorem one9 : oneB Try.prog 9 = true := by kernel_rfl
theorem inf5 : (Try.prog.info? 5).map (fun i => (i.zero, i.size, i.bytes)) = some (some (.int .u8 0), 1, 1) := by kernel_rfl
theorem tot_cast (a b : Nat) : ((a : Int) + (b : Int)) = ((a + b : Nat) : Int) := by omega

theorem Grow_spec (n : Nat) (hn : n ≤ 1000000000) (w : World) : CallP Try.prog 84 #[.slice none 0 0, .int .i64 n] (fun r w' => Own 5 w' r [] ∧ Fresh w.heap.size r ∧ Below w.heap.size w w') w := by
  refine ⟨S84.calls _ _ _ _ ?_⟩
  unfold S84
  refine JoinP.plain ?_
  (repeat with_reducible first|refine z_a ?_|refine z_b ?_|refine z_c ?_|refine z_d ?_|refine z_e ?_|refine z_f ?_|refine z_g ?_|refine z_h ?_|refine z_i ?_|refine z_j ?_|refine z_k ?_|refine z_l ?_|refine z_m (by omega) ?_|refine z_n (by omega) ?_|refine z_o (by omega) ?_|refine z_p (by omega) ?_|refine z_q (by omega) ?_|refine z_r (by omega) ?_|refine z_s (by omega) ?_|refine z_t (by omega) ?_|refine z_u (by omega) ?_|refine z_v (by omega) ?_|refine z_w (by omega) ?_|refine z_x (by omega) ?_|refine z_y (by omega) ?_|refine z_z (by omega) ?_|refine z_A ?_|refine z_B ?_|refine z_C ?_|refine z_D ?_|refine z_E ?_|refine z_F ?_|refine z_G ?_|refine z_H ?_|refine z_I ?_|refine z_J ?_|refine z_K (by omega) (by decide) ?_|refine z_L (by omega) (by decide) ?_|refine z_M (by omega) ?_|refine z_N (by omega) ?_|refine z_O (by omega) ?_|refine z_P ?_|refine z_Q ?_|refine z_R ?_|refine z_S ?_|refine z_T ?_|refine z_U (by decide) ?_|refine z_V (by decide) ?_)
  refine JoinP.plain ?_
  refine cpx undB ?_
  refine ln undB ?_
  (repeat with_reducible first|refine z_a ?_|refine z_b ?_|refine z_c ?_|refine z_d ?_|refine z_e ?_|refine z_f ?_|refine z_g ?_|refine z_h ?_|refine z_i ?_|refine z_j ?_|refine z_k ?_|refine z_l ?_|refine z_m (by omega) ?_|refine z_n (by omega) ?_|refine z_o (by omega) ?_|refine z_p (by omega) ?_|refine z_q (by omega) ?_|refine z_r (by omega) ?_|refine z_s (by omega) ?_|refine z_t (by omega) ?_|refine z_u (by omega) ?_|refine z_v (by omega) ?_|refine z_w (by omega) ?_|refine z_x (by omega) ?_|refine z_y (by omega) ?_|refine z_z (by omega) ?_|refine z_A ?_|refine z_B ?_|refine z_C ?_|refine z_D ?_|refine z_E ?_|refine z_F ?_|refine z_G ?_|refine z_H ?_|refine z_I ?_|refine z_J ?_|refine z_K (by omega) (by decide) ?_|refine z_L (by omega) (by decide) ?_|refine z_M (by omega) ?_|refine z_N (by omega) ?_|refine z_O (by omega) ?_|refine z_P ?_|refine z_Q ?_|refine z_R ?_|refine z_S ?_|refine z_T ?_|refine z_U (by decide) ?_|refine z_V (by decide) ?_)
  (first | refine bi_lss_c (fun h => ?_) (fun h => ?_) | refine bi_eql_c (fun h => ?_) (fun h => ?_) | refine bi_neq_c (fun h => ?_) (fun h => ?_) | refine bi_gtr_c (fun h => ?_) (fun h => ?_) | refine bi_leq_c (fun h => ?_) (fun h => ?_) | refine bi_geq_c (fun h => ?_) (fun h => ?_) | refine bi_seql_c (fun h => ?_) (fun h => ?_) | refine bi_sneq_c (fun h => ?_) (fun h => ?_))
  · (repeat with_reducible first|refine z_a ?_|refine z_b ?_|refine z_c ?_|refine z_d ?_|refine z_e ?_|refine z_f ?_|refine z_g ?_|refine z_h ?_|refine z_i ?_|refine z_j ?_|refine z_k ?_|refine z_l ?_|refine z_m (by omega) ?_|refine z_n (by omega) ?_|refine z_o (by omega) ?_|refine z_p (by omega) ?_|refine z_q (by omega) ?_|refine z_r (by omega) ?_|refine z_s (by omega) ?_|refine z_t (by omega) ?_|refine z_u (by omega) ?_|refine z_v (by omega) ?_|refine z_w (by omega) ?_|refine z_x (by omega) ?_|refine z_y (by omega) ?_|refine z_z (by omega) ?_|refine z_A ?_|refine z_B ?_|refine z_C ?_|refine z_D ?_|refine z_E ?_|refine z_F ?_|refine z_G ?_|refine z_H ?_|refine z_I ?_|refine z_J ?_|refine z_K (by omega) (by decide) ?_|refine z_L (by omega) (by decide) ?_|refine z_M (by omega) ?_|refine z_N (by omega) ?_|refine z_O (by omega) ?_|refine z_P ?_|refine z_Q ?_|refine z_R ?_|refine z_S ?_|refine z_T ?_|refine z_U (by decide) ?_|refine z_V (by decide) ?_)
    refine cpx undB ?_
    refine ofPR (pr_cut undB sz5 .no (.at _ _) .no (Nat.le_refl _) (fun h => by cases h) (Nat.le_refl _) (Nat.le_refl _) (.inl rfl)) ?_
    rw [show ((n : Int) - (((0 : Nat) : Int) - ((0 : Nat) : Int))) = (n : Int) from by omega]
    obtain ⟨i, hi, hzz⟩ := Option.map_eq_some_iff.1 inf5
    simp only [Prod.mk.injEq] at hzz
    obtain ⟨hz0, hz1, hz2⟩ := hzz
    have hr := Lib.run_append_nil_zeros (P := Try.prog) w 30 3 30 5 i (.int .u8 0) .i64 .i64 undB und3 hi hz0 n (by omega) (by omega) (by omega) (by rw [hz2]; omega)
    refine nextV (v := .slice (some ⟨w.heap.size, 0, none⟩) n (grownCap w n 0 5)) (w' := w.drew.alloc (.cells (Builtin.zeroCells (Value.int .u8 0).cells n ++ Builtin.zeroCells (Value.int .u8 0).cells (grownCap w n 0 5 - n)) 5)) ?_ ?_
    · simp only [builtin] at hr ⊢
      rw [show sliced none 0 0 0 1 = .slice none 0 0 from rfl]
      simp [hr]
    have hge := grownCap_ge w n 0 5
    have hle := grownCap_le_maxLen w n 0 5 (by simp only [maxLen]; omega)
    refine ln undB ?_
    refine ofPR (pr_cut undB sz5 .no (.at _ _) .no (Nat.zero_le _) (fun h => by cases h) (Nat.zero_le _) (Nat.le_refl _) (.inl rfl)) ?_
    have hbl := Blk.new w.drew 5 (Builtin.zeroCells (Value.int .u8 0).cells n ++ Builtin.zeroCells (Value.int .u8 0).cells (grownCap w n 0 5 - n))
    refine ⟨?_, ?_, ?_⟩
    · rw [sliced, show (if grownCap w n 0 5 = 0 then (some (⟨w.heap.size, 0, none⟩ : Addr)) else (some (⟨w.heap.size, 0, none⟩ : Addr)).map (·.add (0 * 1))) = some ⟨w.heap.size, 0, none⟩ from by split <;> simp [Addr.add]]
      refine Own.of_blk hbl rfl (Nat.zero_le _) (by simp only [maxLen] at hle; omega) ?_ rfl
      simp [Builtin.zeroCells, Value.cells]
      omega
    · intro k hk
      simp only [List.headD_cons] at hk
      rw [sliced, show (if grownCap w n 0 5 = 0 then (some (⟨w.heap.size, 0, none⟩ : Addr)) else (some (⟨w.heap.size, 0, none⟩ : Addr)).map (·.add (0 * 1))) = some ⟨w.heap.size, 0, none⟩ from by split <;> simp [Addr.add]] at hk
      cases hk
      exact Nat.le_refl _
    · exact (Below.refl _ w).drew.alloc (Nat.le_refl _) _
  · (repeat with_reducible first|refine z_a ?_|refine z_b ?_|refine z_c ?_|refine z_d ?_|refine z_e ?_|refine z_f ?_|refine z_g ?_|refine z_h ?_|refine z_i ?_|refine z_j ?_|refine z_k ?_|refine z_l ?_|refine z_m (by omega) ?_|refine z_n (by omega) ?_|refine z_o (by omega) ?_|refine z_p (by omega) ?_|refine z_q (by omega) ?_|refine z_r (by omega) ?_|refine z_s (by omega) ?_|refine z_t (by omega) ?_|refine z_u (by omega) ?_|refine z_v (by omega) ?_|refine z_w (by omega) ?_|refine z_x (by omega) ?_|refine z_y (by omega) ?_|refine z_z (by omega) ?_|refine z_A ?_|refine z_B ?_|refine z_C ?_|refine z_D ?_|refine z_E ?_|refine z_F ?_|refine z_G ?_|refine z_H ?_|refine z_I ?_|refine z_J ?_|refine z_K (by omega) (by decide) ?_|refine z_L (by omega) (by decide) ?_|refine z_M (by omega) ?_|refine z_N (by omega) ?_|refine z_O (by omega) ?_|refine z_P ?_|refine z_Q ?_|refine z_R ?_|refine z_S ?_|refine z_T ?_|refine z_U (by decide) ?_|refine z_V (by decide) ?_)
    exact ⟨Own.nil 5 w, Fresh.nil _, Below.refl _ w⟩

theorem Concat_spec (v : Value) (bss : List (List UInt8)) (w : World) (hv : RdSS w v bss) (hl : bss.length ≤ 1000000) (ht : bss.flatten.length ≤ 1000000000) :
    CallP Try.prog 71 #[v] (fun r w' => Own 5 w' r (bss.flatten.map u8) ∧ Fresh w.heap.size r ∧ Below w.heap.size w w') w := by
  obtain ⟨A, c, rfl, hc1, hc2⟩ := hv.slice
  refine ⟨S71.calls _ _ _ ?_⟩
  unfold S71
  refine ln undSS ?_
  refine LoopP.inv2 (fun x i w' => ∃ k : Nat, k ≤ bss.length ∧ i = .int .i64 k ∧ x = .int .i64 ((bss.take k).flatten.length : Nat) ∧ w = w') (fun _ i _ => bss.length - (intOf i).toNat) ⟨0, by omega, rfl, rfl, rfl⟩ ?_
  rintro _ _ _ ⟨k, hk, rfl, rfl, rfl⟩ J hJ
  dsimp only [List.headD_cons, List.tail_cons]
  have hk1 := Frame.flat_le bss k
  (repeat with_reducible first|refine z_a ?_|refine z_b ?_|refine z_c ?_|refine z_d ?_|refine z_e ?_|refine z_f ?_|refine z_g ?_|refine z_h ?_|refine z_i ?_|refine z_j ?_|refine z_k ?_|refine z_l ?_|refine z_m (by omega) ?_|refine z_n (by omega) ?_|refine z_o (by omega) ?_|refine z_p (by omega) ?_|refine z_q (by omega) ?_|refine z_r (by omega) ?_|refine z_s (by omega) ?_|refine z_t (by omega) ?_|refine z_u (by omega) ?_|refine z_v (by omega) ?_|refine z_w (by omega) ?_|refine z_x (by omega) ?_|refine z_y (by omega) ?_|refine z_z (by omega) ?_|refine z_A ?_|refine z_B ?_|refine z_C ?_|refine z_D ?_|refine z_E ?_|refine z_F ?_|refine z_G ?_|refine z_H ?_|refine z_I ?_|refine z_J ?_|refine z_K (by omega) (by decide) ?_|refine z_L (by omega) (by decide) ?_|refine z_M (by omega) ?_|refine z_N (by omega) ?_|refine z_O (by omega) ?_|refine z_P ?_|refine z_Q ?_|refine z_R ?_|refine z_S ?_|refine z_T ?_|refine z_U (by decide) ?_|refine z_V (by decide) ?_)
  (first | refine bi_lss_c (fun h => ?_) (fun h => ?_) | refine bi_eql_c (fun h => ?_) (fun h => ?_) | refine bi_neq_c (fun h => ?_) (fun h => ?_) | refine bi_gtr_c (fun h => ?_) (fun h => ?_) | refine bi_leq_c (fun h => ?_) (fun h => ?_) | refine bi_geq_c (fun h => ?_) (fun h => ?_) | refine bi_seql_c (fun h => ?_) (fun h => ?_) | refine bi_sneq_c (fun h => ?_) (fun h => ?_))
  · have hk' : k < bss.length := by omega
    have hk2 := Frame.flat_le bss (k + 1)
    rw [Frame.flat_take bss k hk', List.length_append] at hk2
    obtain ⟨a, A', n', c', rfl, hca, hrb⟩ := hv.at k hk'
    obtain ⟨A2, c2, he, _⟩ := hrb.slice
    cases he
    (repeat with_reducible first|refine z_a ?_|refine z_b ?_|refine z_c ?_|refine z_d ?_|refine z_e ?_|refine z_f ?_|refine z_g ?_|refine z_h ?_|refine z_i ?_|refine z_j ?_|refine z_k ?_|refine z_l ?_|refine z_m (by omega) ?_|refine z_n (by omega) ?_|refine z_o (by omega) ?_|refine z_p (by omega) ?_|refine z_q (by omega) ?_|refine z_r (by omega) ?_|refine z_s (by omega) ?_|refine z_t (by omega) ?_|refine z_u (by omega) ?_|refine z_v (by omega) ?_|refine z_w (by omega) ?_|refine z_x (by omega) ?_|refine z_y (by omega) ?_|refine z_z (by omega) ?_|refine z_A ?_|refine z_B ?_|refine z_C ?_|refine z_D ?_|refine z_E ?_|refine z_F ?_|refine z_G ?_|refine z_H ?_|refine z_I ?_|refine z_J ?_|refine z_K (by omega) (by decide) ?_|refine z_L (by omega) (by decide) ?_|refine z_M (by omega) ?_|refine z_N (by omega) ?_|refine z_O (by omega) ?_|refine z_P ?_|refine z_Q ?_|refine z_R ?_|refine z_S ?_|refine z_T ?_|refine z_U (by decide) ?_|refine z_V (by decide) ?_)
    refine JoinP.plain ?_
    (repeat with_reducible first | refine ix1 undSS szB hk' ?_| refine ld oneBB hca ?_| refine ln undB ?_|refine z_a ?_|refine z_b ?_|refine z_c ?_|refine z_d ?_|refine z_e ?_|refine z_f ?_|refine z_g ?_|refine z_h ?_|refine z_i ?_|refine z_j ?_|refine z_k ?_|refine z_l ?_|refine z_m (by omega) ?_|refine z_n (by omega) ?_|refine z_o (by omega) ?_|refine z_p (by omega) ?_|refine z_q (by omega) ?_|refine z_r (by omega) ?_|refine z_s (by omega) ?_|refine z_t (by omega) ?_|refine z_u (by omega) ?_|refine z_v (by omega) ?_|refine z_w (by omega) ?_|refine z_x (by omega) ?_|refine z_y (by omega) ?_|refine z_z (by omega) ?_|refine z_A ?_|refine z_B ?_|refine z_C ?_|refine z_D ?_|refine z_E ?_|refine z_F ?_|refine z_G ?_|refine z_H ?_|refine z_I ?_|refine z_J ?_|refine z_K (by omega) (by decide) ?_|refine z_L (by omega) (by decide) ?_|refine z_M (by omega) ?_|refine z_N (by omega) ?_|refine z_O (by omega) ?_|refine z_P ?_|refine z_Q ?_|refine z_R ?_|refine z_S ?_|refine z_T ?_|refine z_U (by decide) ?_|refine z_V (by decide) ?_)
    dsimp only [List.headD_cons, List.tail_cons]
    (repeat with_reducible first|refine z_a ?_|refine z_b ?_|refine z_c ?_|refine z_d ?_|refine z_e ?_|refine z_f ?_|refine z_g ?_|refine z_h ?_|refine z_i ?_|refine z_j ?_|refine z_k ?_|refine z_l ?_|refine z_m (by omega) ?_|refine z_n (by omega) ?_|refine z_o (by omega) ?_|refine z_p (by omega) ?_|refine z_q (by omega) ?_|refine z_r (by omega) ?_|refine z_s (by omega) ?_|refine z_t (by omega) ?_|refine z_u (by omega) ?_|refine z_v (by omega) ?_|refine z_w (by omega) ?_|refine z_x (by omega) ?_|refine z_y (by omega) ?_|refine z_z (by omega) ?_|refine z_A ?_|refine z_B ?_|refine z_C ?_|refine z_D ?_|refine z_E ?_|refine z_F ?_|refine z_G ?_|refine z_H ?_|refine z_I ?_|refine z_J ?_|refine z_K (by omega) (by decide) ?_|refine z_L (by omega) (by decide) ?_|refine z_M (by omega) ?_|refine z_N (by omega) ?_|refine z_O (by omega) ?_|refine z_P ?_|refine z_Q ?_|refine z_R ?_|refine z_S ?_|refine z_T ?_|refine z_U (by decide) ?_|refine z_V (by decide) ?_)
    refine hJ _ _ _ ⟨k + 1, by omega, by simp, ?_, rfl⟩ (by simp [intOf]; omega)
    rw [Frame.flat_take bss k hk', List.length_append, tot_cast]
  · have hkl : k = bss.length := by omega
    subst hkl
    (repeat with_reducible first|refine z_a ?_|refine z_b ?_|refine z_c ?_|refine z_d ?_|refine z_e ?_|refine z_f ?_|refine z_g ?_|refine z_h ?_|refine z_i ?_|refine z_j ?_|refine z_k ?_|refine z_l ?_|refine z_m (by omega) ?_|refine z_n (by omega) ?_|refine z_o (by omega) ?_|refine z_p (by omega) ?_|refine z_q (by omega) ?_|refine z_r (by omega) ?_|refine z_s (by omega) ?_|refine z_t (by omega) ?_|refine z_u (by omega) ?_|refine z_v (by omega) ?_|refine z_w (by omega) ?_|refine z_x (by omega) ?_|refine z_y (by omega) ?_|refine z_z (by omega) ?_|refine z_A ?_|refine z_B ?_|refine z_C ?_|refine z_D ?_|refine z_E ?_|refine z_F ?_|refine z_G ?_|refine z_H ?_|refine z_I ?_|refine z_J ?_|refine z_K (by omega) (by decide) ?_|refine z_L (by omega) (by decide) ?_|refine z_M (by omega) ?_|refine z_N (by omega) ?_|refine z_O (by omega) ?_|refine z_P ?_|refine z_Q ?_|refine z_R ?_|refine z_S ?_|refine z_T ?_|refine z_U (by decide) ?_|refine z_V (by decide) ?_)
    rw [List.take_length]
    refine (Grow_spec _ ht w).mono ?_
    rintro v1 w1 ⟨ho1, hf1, hb1⟩
    refine ln undSS ?_
    refine LoopP.inv2 (fun x i w' => ∃ k : Nat, k ≤ bss.length ∧ i = .int .i64 k ∧ Own 5 w' x ((bss.take k).flatten.map u8) ∧ Fresh w.heap.size x ∧ Below w.heap.size w w') (fun _ i _ => bss.length - (intOf i).toNat) ⟨0, by omega, rfl, by simpa using ho1, hf1, hb1⟩ ?_
    rintro x _ w2 ⟨k, hk, rfl, ho2, hf2, hb2⟩ J' hJ'
    dsimp only [List.headD_cons, List.tail_cons]
    (repeat with_reducible first|refine z_a ?_|refine z_b ?_|refine z_c ?_|refine z_d ?_|refine z_e ?_|refine z_f ?_|refine z_g ?_|refine z_h ?_|refine z_i ?_|refine z_j ?_|refine z_k ?_|refine z_l ?_|refine z_m (by omega) ?_|refine z_n (by omega) ?_|refine z_o (by omega) ?_|refine z_p (by omega) ?_|refine z_q (by omega) ?_|refine z_r (by omega) ?_|refine z_s (by omega) ?_|refine z_t (by omega) ?_|refine z_u (by omega) ?_|refine z_v (by omega) ?_|refine z_w (by omega) ?_|refine z_x (by omega) ?_|refine z_y (by omega) ?_|refine z_z (by omega) ?_|refine z_A ?_|refine z_B ?_|refine z_C ?_|refine z_D ?_|refine z_E ?_|refine z_F ?_|refine z_G ?_|refine z_H ?_|refine z_I ?_|refine z_J ?_|refine z_K (by omega) (by decide) ?_|refine z_L (by omega) (by decide) ?_|refine z_M (by omega) ?_|refine z_N (by omega) ?_|refine z_O (by omega) ?_|refine z_P ?_|refine z_Q ?_|refine z_R ?_|refine z_S ?_|refine z_T ?_|refine z_U (by decide) ?_|refine z_V (by decide) ?_)
    (first | refine bi_lss_c (fun h => ?_) (fun h => ?_) | refine bi_eql_c (fun h => ?_) (fun h => ?_) | refine bi_neq_c (fun h => ?_) (fun h => ?_) | refine bi_gtr_c (fun h => ?_) (fun h => ?_) | refine bi_leq_c (fun h => ?_) (fun h => ?_) | refine bi_geq_c (fun h => ?_) (fun h => ?_) | refine bi_seql_c (fun h => ?_) (fun h => ?_) | refine bi_sneq_c (fun h => ?_) (fun h => ?_))
    · have hk' : k < bss.length := by omega
      have hk2 := Frame.flat_le bss (k + 1)
      rw [Frame.flat_take bss k hk', List.length_append] at hk2
      obtain ⟨a, A', n', c', rfl, hca, hrb⟩ := (hv.below hb2).at k hk'
      (repeat with_reducible first | refine ix1 undSS szB hk' ?_| refine ld oneBB hca ?_|refine z_a ?_|refine z_b ?_|refine z_c ?_|refine z_d ?_|refine z_e ?_|refine z_f ?_|refine z_g ?_|refine z_h ?_|refine z_i ?_|refine z_j ?_|refine z_k ?_|refine z_l ?_|refine z_m (by omega) ?_|refine z_n (by omega) ?_|refine z_o (by omega) ?_|refine z_p (by omega) ?_|refine z_q (by omega) ?_|refine z_r (by omega) ?_|refine z_s (by omega) ?_|refine z_t (by omega) ?_|refine z_u (by omega) ?_|refine z_v (by omega) ?_|refine z_w (by omega) ?_|refine z_x (by omega) ?_|refine z_y (by omega) ?_|refine z_z (by omega) ?_|refine z_A ?_|refine z_B ?_|refine z_C ?_|refine z_D ?_|refine z_E ?_|refine z_F ?_|refine z_G ?_|refine z_H ?_|refine z_I ?_|refine z_J ?_|refine z_K (by omega) (by decide) ?_|refine z_L (by omega) (by decide) ?_|refine z_M (by omega) ?_|refine z_N (by omega) ?_|refine z_O (by omega) ?_|refine z_P ?_|refine z_Q ?_|refine z_R ?_|refine z_S ?_|refine z_T ?_|refine z_U (by decide) ?_|refine z_V (by decide) ?_)
      refine apF w.heap.size undB inf5 (by rfl) (by decide) ho2 hf2 hb2.size hrb (u8_one _) (by simp only [List.length_map]; omega) ?_
      intro v3 w3 ho3 hf3 hb3 _
      (repeat with_reducible first|refine z_a ?_|refine z_b ?_|refine z_c ?_|refine z_d ?_|refine z_e ?_|refine z_f ?_|refine z_g ?_|refine z_h ?_|refine z_i ?_|refine z_j ?_|refine z_k ?_|refine z_l ?_|refine z_m (by omega) ?_|refine z_n (by omega) ?_|refine z_o (by omega) ?_|refine z_p (by omega) ?_|refine z_q (by omega) ?_|refine z_r (by omega) ?_|refine z_s (by omega) ?_|refine z_t (by omega) ?_|refine z_u (by omega) ?_|refine z_v (by omega) ?_|refine z_w (by omega) ?_|refine z_x (by omega) ?_|refine z_y (by omega) ?_|refine z_z (by omega) ?_|refine z_A ?_|refine z_B ?_|refine z_C ?_|refine z_D ?_|refine z_E ?_|refine z_F ?_|refine z_G ?_|refine z_H ?_|refine z_I ?_|refine z_J ?_|refine z_K (by omega) (by decide) ?_|refine z_L (by omega) (by decide) ?_|refine z_M (by omega) ?_|refine z_N (by omega) ?_|refine z_O (by omega) ?_|refine z_P ?_|refine z_Q ?_|refine z_R ?_|refine z_S ?_|refine z_T ?_|refine z_U (by decide) ?_|refine z_V (by decide) ?_)
      refine hJ' _ _ _ ⟨k + 1, by omega, by simp, ?_, hf3, hb2.trans hb3⟩ (by simp [intOf]; omega)
      rw [Frame.flat_take bss k hk', List.map_append]
      exact ho3
    · have hkl : k = bss.length := by omega
      subst hkl
      (repeat with_reducible first|refine z_a ?_|refine z_b ?_|refine z_c ?_|refine z_d ?_|refine z_e ?_|refine z_f ?_|refine z_g ?_|refine z_h ?_|refine z_i ?_|refine z_j ?_|refine z_k ?_|refine z_l ?_|refine z_m (by omega) ?_|refine z_n (by omega) ?_|refine z_o (by omega) ?_|refine z_p (by omega) ?_|refine z_q (by omega) ?_|refine z_r (by omega) ?_|refine z_s (by omega) ?_|refine z_t (by omega) ?_|refine z_u (by omega) ?_|refine z_v (by omega) ?_|refine z_w (by omega) ?_|refine z_x (by omega) ?_|refine z_y (by omega) ?_|refine z_z (by omega) ?_|refine z_A ?_|refine z_B ?_|refine z_C ?_|refine z_D ?_|refine z_E ?_|refine z_F ?_|refine z_G ?_|refine z_H ?_|refine z_I ?_|refine z_J ?_|refine z_K (by omega) (by decide) ?_|refine z_L (by omega) (by decide) ?_|refine z_M (by omega) ?_|refine z_N (by omega) ?_|refine z_O (by omega) ?_|refine z_P ?_|refine z_Q ?_|refine z_R ?_|refine z_S ?_|refine z_T ?_|refine z_U (by decide) ?_|refine z_V (by decide) ?_)
      rw [List.take_length] at ho2
      exact ⟨ho2, hf2, hb2⟩

end Go.Proofs.Ythicbfopjakiiaa.E
namespace Go.Proofs.Ythicbfopjakiiaa.Pack
def num (n : Nat) : List UInt8 := if h : n ≤ 127 then [UInt8.ofNat n] else (UInt8.ofNat n ||| 128) :: num (n / 128)
termination_by n
decreasing_by all_goals omega
theorem num_small (n : Nat) (h : n ≤ 127) : num n = [UInt8.ofNat n] := by rw [num, dif_pos h]
theorem num_big (n : Nat) (h : ¬ n ≤ 127) : num n = (UInt8.ofNat n ||| 128) :: num (n / 128) := by rw [num, dif_neg h]
theorem num_length (n : Nat) : (num n).length ≤ n + 1 := by
  induction n using Nat.strongRecOn with
  | _ n ih =>
    by_cases h : n ≤ 127
    · rw [num_small n h]; simp
    · rw [num_big n h, List.length_cons]
      have := ih (n / 128) (by omega)
      omega
def text (s : ByteArray) : List UInt8 := num s.data.toList.length ++ s.data.toList
def texts (l : List ByteArray) : List UInt8 := num l.length ++ (l.map text).flatten
theorem num_log (k : Nat) : ∀ n, n < 128 ^ (k + 1) → (num n).length ≤ k + 1 := by
  induction k with
  | zero =>
    intro n h
    rw [num_small n (by simp at h; omega)]; simp
  | succ k ih =>
    intro n h
    by_cases hs : n ≤ 127
    · rw [num_small n hs]; simp
    · rw [num_big n hs, List.length_cons]
      have := ih (n / 128) (by rw [Nat.pow_succ] at h; omega)
      omega
theorem text_length (s : ByteArray) (h : s.size ≤ 100000) : (text s).length ≤ 200001 := by
  have e : s.data.toList.length = s.size := by rw [Array.length_toList]; rfl
  have := num_length s.data.toList.length
  rw [text, List.length_append]
  omega
theorem flat_length (l : List ByteArray) (h : ∀ s ∈ l, s.size ≤ 100000) : (l.map text).flatten.length ≤ l.length * 200001 := by
  induction l with
  | nil => simp
  | cons s l ih =>
    have h1 := ih (fun t ht => h t (by simp [ht]))
    have h2 := text_length s (h s (by simp))
    simp only [List.map_cons, List.flatten_cons, List.length_append, List.length_cons]
    omega
theorem texts_length (l : List ByteArray) (h : ∀ s ∈ l, s.size ≤ 100000) : (texts l).length ≤ l.length + 1 + l.length * 200001 := by
  have := flat_length l h
  have := num_length l.length
  rw [texts, List.length_append]
  omega
end Go.Proofs.Ythicbfopjakiiaa.Pack
namespace Go.Proofs.Ythicbfopjakiiaa.Be4
def put (n : Nat) : List UInt8 := [UInt8.ofNat (n / 16777216), UInt8.ofNat (n / 65536), UInt8.ofNat (n / 256), UInt8.ofNat n]
theorem wrap_u8 (n : Nat) : IntKind.u8.wrap (n : Int) = ((UInt8.ofNat n).toNat : Int) := by
  rw [UInt8.toNat_ofNat']
  simp [IntKind.wrap, IntKind.signed, IntKind.bits]
theorem or_u32 (a b : BitVec 32) : Go.bits .or .u32 (a.toNat : Int) (b.toNat : Int) = ((a ||| b).toNat : Int) := by
  show IntKind.u32.wrap _ = _
  have h : ∀ x : BitVec 32, IntKind.u32.wrap (x.toNat : Int) = x.toNat := fun x => IntWalk.u32_in _ (by have := x.isLt; omega)
  have h2 : ∀ x : BitVec 32, BitVec.ofInt 32 (x.toNat : Int) = x := fun x => by simp
  simp only [IntKind.bits, h2, h]
  rfl
/-- n << 8 | c -/
theorem step (n : Nat) (c : UInt8) (h : n < 16777216) : Go.bits .or .u32 (IntKind.u32.wrap ((n : Int) * 2 ^ (8 : Int).toNat)) (c.toNat : Int) = ((n * 256 + c.toNat : Nat) : Int) := by
  have hc := c.toNat_lt
  rw [show ((n : Int) * 2 ^ (8 : Int).toNat) = ((n * 256 : Nat) : Int) from by
    have : (2 : Int) ^ (8 : Int).toNat = 256 := by decide
    rw [this]; omega]
  rw [IntWalk.u32_in _ (by omega)]
  have e1 : ((n * 256 : Nat) : Int) = ((BitVec.ofNat 32 (n * 256)).toNat : Int) := by rw [BitVec.toNat_ofNat, Nat.mod_eq_of_lt (by omega)]
  have e2 : (c.toNat : Int) = ((BitVec.ofNat 32 c.toNat).toNat : Int) := by rw [BitVec.toNat_ofNat, Nat.mod_eq_of_lt (by omega)]
  rw [e1, e2, or_u32, BitVec.toNat_or, BitVec.toNat_ofNat, BitVec.toNat_ofNat, Nat.mod_eq_of_lt (by omega), Nat.mod_eq_of_lt (by omega)]
  rw [show n * 256 = n <<< 8 from by rw [Nat.shiftLeft_eq], ← Nat.shiftLeft_add_eq_or_of_lt (by omega)]
end Go.Proofs.Ythicbfopjakiiaa.Be4
namespace Go.Proofs.Ythicbfopjakiiaa.E
open Go Go.RowKit
set_option linter.unusedSimpArgs false
set_option linter.unusedVariables false

theorem und37 : Try.prog.underlying 37 = some (.slice 9) := by kernel_rfl
theorem sz9 : (Try.prog.info? 9).map (·.size) = some 1 := by kernel_rfl
theorem one37 : oneB Try.prog 37 = true := by kernel_rfl
theorem sz37 : (Try.prog.info? 37).map (·.size) = some 1 := by kernel_rfl
theorem inf9 : (Try.prog.info? 9).map (fun i => (i.zero, i.size, i.bytes)) = some (some (.string ⟨#[]⟩), 1, 16) := by kernel_rfl
theorem g0 : fofs Try.prog 101 0 = some (0, 1) := by kernel_rfl
theorem g1 : fofs Try.prog 101 1 = some (1, 1) := by kernel_rfl
theorem g2 : fofs Try.prog 101 2 = some (2, 1) := by kernel_rfl

section
variable {K : Value → World → Prop} {w : World} {x y : Operand} {m : Nat}
theorem cv35 (k : K (.int .u8 ((UInt8.ofNat m).toNat : Int)) w) : LiftP Try.prog (convert 3 5 (.int .i64 m)) K w :=
  cv und3 und5 (by rw [Be4.wrap_u8]; exact k)
theorem or128 {c : UInt8} (k : K (.int .u8 ((c ||| 128).toNat : Int)) w) : LiftP Try.prog (binS .or 5 x y (.int .u8 c.toNat) (.int .u8 128)) K w :=
  bi_or (by rw [show (128 : Int) = ((128 : UInt8).toNat : Int) from rfl, or_u8]; exact k)
theorem shr7 (k : K (.int .i64 ((m / 128 : Nat) : Int)) w) : LiftP Try.prog (binS .shr 3 x y (.int .i64 m) (.int .u64 7)) K w :=
  bi_shr (by omega) (by decide) (by rw [show ((m : Int) / 2 ^ (7 : Int).toNat) = ((m / 128 : Nat) : Int) from by
                                      have : (2 : Int) ^ (7 : Int).toNat = 128 := by decide
                                      rw [this]; omega]; exact k)
end
theorem Num_spec (n : Nat) (hn : n ≤ 1099511627776) (w : World) : CallP Try.prog 55 #[.int .i64 n] (fun r w' => Own 5 w' r ((Pack.num n).map u8) ∧ Fresh w.heap.size r ∧ Below w.heap.size w w') w := by
  refine ⟨S55.calls _ _ _ ?_⟩
  unfold S55
  (repeat with_reducible first|refine z_a ?_|refine z_b ?_|refine z_c ?_|refine z_d ?_|refine z_e ?_|refine z_f ?_|refine z_g ?_|refine z_h ?_|refine z_i ?_|refine z_j ?_|refine z_k ?_|refine z_l ?_|refine z_m (by omega) ?_|refine z_n (by omega) ?_|refine z_o (by omega) ?_|refine z_p (by omega) ?_|refine z_q (by omega) ?_|refine z_r (by omega) ?_|refine z_s (by omega) ?_|refine z_t (by omega) ?_|refine z_u (by omega) ?_|refine z_v (by omega) ?_|refine z_w (by omega) ?_|refine z_x (by omega) ?_|refine z_y (by omega) ?_|refine z_z (by omega) ?_|refine z_A ?_|refine z_B ?_|refine z_C ?_|refine z_D ?_|refine z_E ?_|refine z_F ?_|refine z_G ?_|refine z_H ?_|refine z_I ?_|refine z_J ?_|refine z_K (by omega) (by decide) ?_|refine z_L (by omega) (by decide) ?_|refine z_M (by omega) ?_|refine z_N (by omega) ?_|refine z_O (by omega) ?_|refine z_P ?_|refine z_Q ?_|refine z_R ?_|refine z_S ?_|refine z_T ?_|refine z_U (by decide) ?_|refine z_V (by decide) ?_)
  refine LoopP.inv2 (fun x o w' => ∃ (m : Nat) (pre : List UInt8), x = .int .i64 m ∧ Pack.num n = pre ++ Pack.num m ∧ pre.length + m ≤ n ∧ Own 5 w' o (pre.map u8) ∧ Fresh w.heap.size o ∧ Below w.heap.size w w') (fun x _ _ => (intOf x).toNat)
    ⟨n, [], rfl, rfl, by simp, Own.nil 5 w, Fresh.nil _, Below.refl _ w⟩ ?_
  rintro _ o w1 ⟨m, pre, rfl, hnum, hlen, ho, hf, hb⟩ J hJ
  dsimp only [List.headD_cons, List.tail_cons]
  (first | refine bi_lss_c (fun h => ?_) (fun h => ?_) | refine bi_eql_c (fun h => ?_) (fun h => ?_) | refine bi_neq_c (fun h => ?_) (fun h => ?_) | refine bi_gtr_c (fun h => ?_) (fun h => ?_) | refine bi_leq_c (fun h => ?_) (fun h => ?_) | refine bi_geq_c (fun h => ?_) (fun h => ?_) | refine bi_seql_c (fun h => ?_) (fun h => ?_) | refine bi_sneq_c (fun h => ?_) (fun h => ?_))
  · (repeat with_reducible first | refine cv35 ?_| refine or128 ?_| refine shr7 ?_|refine z_a ?_|refine z_b ?_|refine z_c ?_|refine z_d ?_|refine z_e ?_|refine z_f ?_|refine z_g ?_|refine z_h ?_|refine z_i ?_|refine z_j ?_|refine z_k ?_|refine z_l ?_|refine z_m (by omega) ?_|refine z_n (by omega) ?_|refine z_o (by omega) ?_|refine z_p (by omega) ?_|refine z_q (by omega) ?_|refine z_r (by omega) ?_|refine z_s (by omega) ?_|refine z_t (by omega) ?_|refine z_u (by omega) ?_|refine z_v (by omega) ?_|refine z_w (by omega) ?_|refine z_x (by omega) ?_|refine z_y (by omega) ?_|refine z_z (by omega) ?_|refine z_A ?_|refine z_B ?_|refine z_C ?_|refine z_D ?_|refine z_E ?_|refine z_F ?_|refine z_G ?_|refine z_H ?_|refine z_I ?_|refine z_J ?_|refine z_K (by omega) (by decide) ?_|refine z_L (by omega) (by decide) ?_|refine z_M (by omega) ?_|refine z_N (by omega) ?_|refine z_O (by omega) ?_|refine z_P ?_|refine z_Q ?_|refine z_R ?_|refine z_S ?_|refine z_T ?_|refine z_U (by decide) ?_|refine z_V (by decide) ?_)
    refine lift (v := .slice (some ⟨w1.heap.size, 0, none⟩) 1 1) (w' := w1.alloc (.cells #[.int .u8 ((UInt8.ofNat m ||| 128).toNat : Int)] 5)) (by kernel_rfl) ?_
    have ha := (Below.refl w1.heap.size w1).alloc (Nat.le_refl _) (.cells #[.int .u8 ((UInt8.ofNat m ||| 128).toNat : Int)] 5)
    refine apF w.heap.size undB inf5 (by rfl) (by decide) (ho.below ha) hf (below_then hb ha).size (Own.new w1 5 [.int .u8 ((UInt8.ofNat m ||| 128).toNat : Int)] (by simp)).rd (by simp [Value.oneCell']) (by simp; omega) ?_
    intro v2 w2 ho2 hf2 hb2 _
    (repeat with_reducible first | refine shr7 ?_|refine z_a ?_|refine z_b ?_|refine z_c ?_|refine z_d ?_|refine z_e ?_|refine z_f ?_|refine z_g ?_|refine z_h ?_|refine z_i ?_|refine z_j ?_|refine z_k ?_|refine z_l ?_|refine z_m (by omega) ?_|refine z_n (by omega) ?_|refine z_o (by omega) ?_|refine z_p (by omega) ?_|refine z_q (by omega) ?_|refine z_r (by omega) ?_|refine z_s (by omega) ?_|refine z_t (by omega) ?_|refine z_u (by omega) ?_|refine z_v (by omega) ?_|refine z_w (by omega) ?_|refine z_x (by omega) ?_|refine z_y (by omega) ?_|refine z_z (by omega) ?_|refine z_A ?_|refine z_B ?_|refine z_C ?_|refine z_D ?_|refine z_E ?_|refine z_F ?_|refine z_G ?_|refine z_H ?_|refine z_I ?_|refine z_J ?_|refine z_K (by omega) (by decide) ?_|refine z_L (by omega) (by decide) ?_|refine z_M (by omega) ?_|refine z_N (by omega) ?_|refine z_O (by omega) ?_|refine z_P ?_|refine z_Q ?_|refine z_R ?_|refine z_S ?_|refine z_T ?_|refine z_U (by decide) ?_|refine z_V (by decide) ?_)
    refine hJ _ _ _ ⟨m / 128, pre ++ [UInt8.ofNat m ||| 128], rfl, ?_, by simp; omega, by rw [List.map_append]; exact ho2, hf2, (below_then hb ha).trans hb2⟩ (by simp [intOf]; omega)
    rw [hnum, Pack.num_big m (by omega)]
    simp
  · (repeat with_reducible first | refine cv35 ?_|refine z_a ?_|refine z_b ?_|refine z_c ?_|refine z_d ?_|refine z_e ?_|refine z_f ?_|refine z_g ?_|refine z_h ?_|refine z_i ?_|refine z_j ?_|refine z_k ?_|refine z_l ?_|refine z_m (by omega) ?_|refine z_n (by omega) ?_|refine z_o (by omega) ?_|refine z_p (by omega) ?_|refine z_q (by omega) ?_|refine z_r (by omega) ?_|refine z_s (by omega) ?_|refine z_t (by omega) ?_|refine z_u (by omega) ?_|refine z_v (by omega) ?_|refine z_w (by omega) ?_|refine z_x (by omega) ?_|refine z_y (by omega) ?_|refine z_z (by omega) ?_|refine z_A ?_|refine z_B ?_|refine z_C ?_|refine z_D ?_|refine z_E ?_|refine z_F ?_|refine z_G ?_|refine z_H ?_|refine z_I ?_|refine z_J ?_|refine z_K (by omega) (by decide) ?_|refine z_L (by omega) (by decide) ?_|refine z_M (by omega) ?_|refine z_N (by omega) ?_|refine z_O (by omega) ?_|refine z_P ?_|refine z_Q ?_|refine z_R ?_|refine z_S ?_|refine z_T ?_|refine z_U (by decide) ?_|refine z_V (by decide) ?_)
    refine lift (v := .slice (some ⟨w1.heap.size, 0, none⟩) 1 1) (w' := w1.alloc (.cells #[.int .u8 ((UInt8.ofNat m).toNat : Int)] 5)) (by kernel_rfl) ?_
    have ha := (Below.refl w1.heap.size w1).alloc (Nat.le_refl _) (.cells #[.int .u8 ((UInt8.ofNat m).toNat : Int)] 5)
    refine apF w.heap.size undB inf5 (by rfl) (by decide) (ho.below ha) hf (below_then hb ha).size (Own.new w1 5 [.int .u8 ((UInt8.ofNat m).toNat : Int)] (by simp)).rd (by simp [Value.oneCell']) (by simp; omega) ?_
    intro v2 w2 ho2 hf2 hb2 _
    refine ⟨?_, hf2, (below_then hb ha).trans hb2⟩
    rw [hnum, Pack.num_small m (by omega), List.map_append]
    exact ho2
theorem Text_spec (s : ByteArray) (hs : s.size ≤ 1000000) (w : World) : CallP Try.prog 72 #[.string s] (fun r w' => Own 5 w' r ((Pack.text s).map u8) ∧ Below w.heap.size w w') w := by
  have hsz : s.data.toList.length = s.size := by rw [Array.length_toList]; rfl
  refine ⟨S72.calls _ _ _ ?_⟩
  unfold S72
  refine lns und9 ?_
  refine (Num_spec s.size (by omega) w).mono ?_
  rintro v1 w1 ⟨ho1, hf1, hb1⟩
  have hnl := Pack.num_length s.size
  refine apS w.heap.size undB und9 inf5 ho1 hf1 hb1.size (by omega) ?_
  intro v2 w2 ho2 hb2
  refine ⟨?_, hb1.trans hb2⟩
  rw [Pack.text, hsz]
  exact ho2
theorem Texts_spec (v : Value) (ts : List ByteArray) (w : World) (hv : Rd w v (ts.map Value.string)) (hl : ts.length ≤ 1000) (hs : ∀ s ∈ ts, s.size ≤ 100000) :
    CallP Try.prog 56 #[v] (fun r w' => Own 5 w' r ((Pack.texts ts).map u8) ∧ Fresh w.heap.size r ∧ Below w.heap.size w w') w := by
  obtain ⟨A, c, rfl, hc1, hc2⟩ := hv.slice
  simp only [List.length_map] at hc1 hv ⊢
  have hlen : ∀ k, k ≤ ts.length → ((ts.take k).map Pack.text).flatten.length ≤ k * 200001 := by
    intro k
    induction k with
    | zero => intro _; simp
    | succ k ih =>
      intro hk
      rw [List.take_succ_eq_append_getElem (by omega), List.map_append, List.flatten_append, List.length_append]
      have h1 := ih (by omega)
      have h2 := hs ts[k] (List.getElem_mem _)
      have h3 : (Pack.text ts[k]).length ≤ 200001 := by
        have := Pack.num_length ts[k].data.toList.length
        have e : ts[k].data.toList.length = ts[k].size := by rw [Array.length_toList]; rfl
        rw [Pack.text, List.length_append]
        omega
      simp only [List.map_cons, List.map_nil, List.flatten_cons, List.flatten_nil, List.append_nil]
      omega
  refine ⟨S56.calls _ _ _ ?_⟩
  unfold S56
  refine ln und37 ?_
  refine (Num_spec ts.length (by omega) w).mono ?_
  rintro v1 w1 ⟨ho1, hf1, hb1⟩
  have hnl := Pack.num_length ts.length
  refine ln und37 ?_
  refine LoopP.inv2 (fun o i w' => ∃ k : Nat, k ≤ ts.length ∧ i = .int .i64 k ∧ Own 5 w' o ((Pack.num ts.length ++ ((ts.take k).map Pack.text).flatten).map u8) ∧ Fresh w.heap.size o ∧ Below w.heap.size w w') (fun _ i _ => ts.length - (intOf i).toNat)
    ⟨0, by omega, rfl, by simpa using ho1, hf1, hb1⟩ ?_
  rintro o _ w2 ⟨k, hk, rfl, ho2, hf2, hb2⟩ J hJ
  dsimp only [List.headD_cons, List.tail_cons]
  (first | refine bi_lss_c (fun h => ?_) (fun h => ?_) | refine bi_eql_c (fun h => ?_) (fun h => ?_) | refine bi_neq_c (fun h => ?_) (fun h => ?_) | refine bi_gtr_c (fun h => ?_) (fun h => ?_) | refine bi_leq_c (fun h => ?_) (fun h => ?_) | refine bi_geq_c (fun h => ?_) (fun h => ?_) | refine bi_seql_c (fun h => ?_) (fun h => ?_) | refine bi_sneq_c (fun h => ?_) (fun h => ?_))
  · have hk' : k < ts.length := by omega
    have hk'' : k < (ts.map Value.string).length := by simpa using hk'
    obtain ⟨a, rfl, hca⟩ := (hv.below hb2).at k hk''
    rw [List.getElem_map] at hca
    have h1 := hlen k hk
    have h2 := hs ts[k] (List.getElem_mem _)
    (repeat with_reducible first | refine ix1 und37 sz9 hk' ?_| refine ld one9 hca ?_|refine z_a ?_|refine z_b ?_|refine z_c ?_|refine z_d ?_|refine z_e ?_|refine z_f ?_|refine z_g ?_|refine z_h ?_|refine z_i ?_|refine z_j ?_|refine z_k ?_|refine z_l ?_|refine z_m (by omega) ?_|refine z_n (by omega) ?_|refine z_o (by omega) ?_|refine z_p (by omega) ?_|refine z_q (by omega) ?_|refine z_r (by omega) ?_|refine z_s (by omega) ?_|refine z_t (by omega) ?_|refine z_u (by omega) ?_|refine z_v (by omega) ?_|refine z_w (by omega) ?_|refine z_x (by omega) ?_|refine z_y (by omega) ?_|refine z_z (by omega) ?_|refine z_A ?_|refine z_B ?_|refine z_C ?_|refine z_D ?_|refine z_E ?_|refine z_F ?_|refine z_G ?_|refine z_H ?_|refine z_I ?_|refine z_J ?_|refine z_K (by omega) (by decide) ?_|refine z_L (by omega) (by decide) ?_|refine z_M (by omega) ?_|refine z_N (by omega) ?_|refine z_O (by omega) ?_|refine z_P ?_|refine z_Q ?_|refine z_R ?_|refine z_S ?_|refine z_T ?_|refine z_U (by decide) ?_|refine z_V (by decide) ?_)
    refine (Text_spec ts[k] (by omega) w2).mono ?_
    rintro v3 w3 ⟨ho3, hb3⟩
    have hb3' := below_then hb2 hb3
    have h3 : (Pack.text ts[k]).length ≤ 200001 := by
      have := Pack.num_length ts[k].data.toList.length
      have e : ts[k].data.toList.length = ts[k].size := by rw [Array.length_toList]; rfl
      rw [Pack.text, List.length_append]
      omega
    refine apF w.heap.size undB inf5 (by rfl) (by decide) (ho2.below hb3) hf2 hb3'.size ho3.rd (u8_one _) (by simp only [List.length_map, List.length_append]; omega) ?_
    intro v4 w4 ho4 hf4 hb4 _
    (repeat with_reducible first|refine z_a ?_|refine z_b ?_|refine z_c ?_|refine z_d ?_|refine z_e ?_|refine z_f ?_|refine z_g ?_|refine z_h ?_|refine z_i ?_|refine z_j ?_|refine z_k ?_|refine z_l ?_|refine z_m (by omega) ?_|refine z_n (by omega) ?_|refine z_o (by omega) ?_|refine z_p (by omega) ?_|refine z_q (by omega) ?_|refine z_r (by omega) ?_|refine z_s (by omega) ?_|refine z_t (by omega) ?_|refine z_u (by omega) ?_|refine z_v (by omega) ?_|refine z_w (by omega) ?_|refine z_x (by omega) ?_|refine z_y (by omega) ?_|refine z_z (by omega) ?_|refine z_A ?_|refine z_B ?_|refine z_C ?_|refine z_D ?_|refine z_E ?_|refine z_F ?_|refine z_G ?_|refine z_H ?_|refine z_I ?_|refine z_J ?_|refine z_K (by omega) (by decide) ?_|refine z_L (by omega) (by decide) ?_|refine z_M (by omega) ?_|refine z_N (by omega) ?_|refine z_O (by omega) ?_|refine z_P ?_|refine z_Q ?_|refine z_R ?_|refine z_S ?_|refine z_T ?_|refine z_U (by decide) ?_|refine z_V (by decide) ?_)
    refine hJ _ _ _ ⟨k + 1, by omega, by simp, ?_, hf4, hb3'.trans hb4⟩ (by simp [intOf]; omega)
    have e : ((ts.take (k + 1)).map Pack.text).flatten = ((ts.take k).map Pack.text).flatten ++ Pack.text ts[k] := by
      rw [List.take_succ_eq_append_getElem hk', List.map_append, List.flatten_append]; simp
    rw [← List.map_append, List.append_assoc] at ho4
    rw [e]
    exact ho4
  · have hkl : k = ts.length := by omega
    subst hkl
    (repeat with_reducible first|refine z_a ?_|refine z_b ?_|refine z_c ?_|refine z_d ?_|refine z_e ?_|refine z_f ?_|refine z_g ?_|refine z_h ?_|refine z_i ?_|refine z_j ?_|refine z_k ?_|refine z_l ?_|refine z_m (by omega) ?_|refine z_n (by omega) ?_|refine z_o (by omega) ?_|refine z_p (by omega) ?_|refine z_q (by omega) ?_|refine z_r (by omega) ?_|refine z_s (by omega) ?_|refine z_t (by omega) ?_|refine z_u (by omega) ?_|refine z_v (by omega) ?_|refine z_w (by omega) ?_|refine z_x (by omega) ?_|refine z_y (by omega) ?_|refine z_z (by omega) ?_|refine z_A ?_|refine z_B ?_|refine z_C ?_|refine z_D ?_|refine z_E ?_|refine z_F ?_|refine z_G ?_|refine z_H ?_|refine z_I ?_|refine z_J ?_|refine z_K (by omega) (by decide) ?_|refine z_L (by omega) (by decide) ?_|refine z_M (by omega) ?_|refine z_N (by omega) ?_|refine z_O (by omega) ?_|refine z_P ?_|refine z_Q ?_|refine z_R ?_|refine z_S ?_|refine z_T ?_|refine z_U (by decide) ?_|refine z_V (by decide) ?_)
    rw [List.take_length] at ho2
    exact ⟨ho2, hf2, hb2⟩

/-- An end in memory, behind B. -/
def EndAt (B : Nat) (w : World) (g mark sent : Nat) (ts : List ByteArray) : Prop :=
  B ≤ g ∧ ∃ A c, Blk w g 101 #[.int .i64 mark, .int .i64 sent, .slice A ts.length c] ∧ Own 9 w (.slice A ts.length c) (ts.map Value.string) ∧ Fresh B (.slice A ts.length c) ∧ (Value.slice A ts.length c).ownBlock ≠ some g
theorem EndAt.below {B : Nat} {w w' : World} {g mark sent : Nat} {ts : List ByteArray} (h : EndAt B w g mark sent ts) (hb : Below w.heap.size w w') : EndAt B w' g mark sent ts := by
  obtain ⟨h0, A, c, h1, h2, h3, h4⟩ := h
  exact ⟨h0, A, c, h1.below' hb, h2.below hb, h3, h4⟩
theorem EndAt.lt {B : Nat} {w : World} {g mark sent : Nat} {ts : List ByteArray} (h : EndAt B w g mark sent ts) : g < w.heap.size := h.2.choose_spec.choose_spec.1.lt

theorem New_spec (w : World) : CallP Try.prog 12 #[] (fun r w' => ∃ g, r = .pointer (some ⟨g, 0, none⟩) ∧ EndAt w.heap.size w' g 0 0 [] ∧ Below w.heap.size w w') w := by
  refine ⟨S12.calls _ _ ?_⟩
  unfold S12
  refine bd (cells := #[.int .i64 0, .int .i64 0, .slice none 0 0]) (by kernel_rfl) ?_
  refine bx ?_
  exact ⟨_, rfl, ⟨Nat.le_refl _, none, 0, Blk.new w 101 _, Own.nil 9 _, Fresh.nil _, by simp [Value.ownBlock]⟩, (Below.refl _ w).alloc (Nat.le_refl _) _⟩

theorem Waiting_spec (B : Nat) (w : World) (g mark sent : Nat) (ts : List ByteArray) (h : EndAt B w g mark sent ts) :
    CallP Try.prog 14 #[.pointer (some ⟨g, 0, none⟩)] (fun r w' => r = .int .i64 ts.length ∧ w = w') w := by
  obtain ⟨hB, A, c, hbl, ho, hf, hd⟩ := h
  refine ⟨S14.calls _ _ _ ?_⟩
  unfold S14
  have c2 : w.cell? ⟨g, 2, none⟩ = some (.slice A ts.length c) := hbl.cell 2
  (repeat with_reducible first | refine fd g2 (by decide) ?_| refine ld one37 c2 ?_|refine z_a ?_|refine z_b ?_|refine z_c ?_|refine z_d ?_|refine z_e ?_|refine z_f ?_|refine z_g ?_|refine z_h ?_|refine z_i ?_|refine z_j ?_|refine z_k ?_|refine z_l ?_|refine z_m (by omega) ?_|refine z_n (by omega) ?_|refine z_o (by omega) ?_|refine z_p (by omega) ?_|refine z_q (by omega) ?_|refine z_r (by omega) ?_|refine z_s (by omega) ?_|refine z_t (by omega) ?_|refine z_u (by omega) ?_|refine z_v (by omega) ?_|refine z_w (by omega) ?_|refine z_x (by omega) ?_|refine z_y (by omega) ?_|refine z_z (by omega) ?_|refine z_A ?_|refine z_B ?_|refine z_C ?_|refine z_D ?_|refine z_E ?_|refine z_F ?_|refine z_G ?_|refine z_H ?_|refine z_I ?_|refine z_J ?_|refine z_K (by omega) (by decide) ?_|refine z_L (by omega) (by decide) ?_|refine z_M (by omega) ?_|refine z_N (by omega) ?_|refine z_O (by omega) ?_|refine z_P ?_|refine z_Q ?_|refine z_R ?_|refine z_S ?_|refine z_T ?_|refine z_U (by decide) ?_|refine z_V (by decide) ?_)
  refine ln und37 ?_
  exact ⟨rfl, rfl⟩

theorem first_spec (B : Nat) (w : World) (g mark sent : Nat) (ts : List ByteArray) (h : EndAt B w g mark sent ts) (hs : ts.length ≤ sent) (hm : sent ≤ 1099511627776) :
    CallP Try.prog 49 #[.pointer (some ⟨g, 0, none⟩)] (fun r w' => r = .int .i64 ((sent - ts.length + 1 : Nat) : Int) ∧ Below w.heap.size w w') w := by
  obtain ⟨hB, A, c, hbl, ho, hf, hd⟩ := h
  refine ⟨S49.calls _ _ _ ?_⟩
  unfold S49
  refine draw (Below w.heap.size w) (Below.refl _ _).drew ?_
  have c1 : ∀ w', Below w.heap.size w w' → w'.cell? ⟨g, 1, none⟩ = some (.int .i64 sent) := fun w' h => (hbl.below' h).cell 1
  have c2 : ∀ w', Below w.heap.size w w' → w'.cell? ⟨g, 2, none⟩ = some (.slice A ts.length c) := fun w' h => (hbl.below' h).cell 2
  (repeat with_reducible first | refine yfd g1 (by decide) ?_| refine yl1 one3 c1 ?_| refine yfd g2 (by decide) ?_| refine yl1 one37 c2 ?_| refine yln und37 ?_|refine z_W ?_|refine z_a ?_|refine z_b ?_|refine z_c ?_|refine z_d ?_|refine z_e ?_|refine z_f ?_|refine z_g ?_|refine z_h ?_|refine z_i ?_|refine z_j ?_|refine z_k ?_|refine z_l ?_|refine z_X (by omega) ?_|refine z_Y (by omega) ?_|refine z_Z (by omega) ?_|refine z_a1 (by omega) ?_|refine z_b1 (by omega) ?_|refine z_c1 (by omega) ?_|refine z_d1 (by omega) ?_|refine z_e1 (by omega) ?_|refine z_f1 (by omega) ?_|refine z_g1 (by omega) ?_|refine z_h1 (by omega) ?_|refine z_i1 (by omega) ?_|refine z_j1 (by omega) ?_|refine z_k1 (by omega) ?_|refine z_l1 ?_|refine z_m1 ?_|refine z_n1 ?_|refine z_o1 ?_|refine z_p1 ?_|refine z_q1 ?_|refine z_r1 ?_|refine z_s1 ?_|refine z_t1 ?_|refine z_u1 ?_|refine z_v1 (by omega) (by decide) ?_|refine z_w1 (by omega) (by decide) ?_|refine z_x1 (by omega) ?_|refine z_y1 (by omega) ?_|refine z_z1 (by omega) ?_|refine z_A1 ?_|refine z_B1 ?_|refine z_C1 ?_|refine z_D1 ?_|refine z_E1 ?_|refine z_F1 (by decide) ?_|refine z_G1 (by decide) ?_)
  exact ⟨by rw [show ((sent : Int) - (ts.length : Int) + 1) = ((sent - ts.length + 1 : Nat) : Int) from by omega], (Below.refl _ _).drew⟩

/-- What Send answers, and leaves. -/
def sendAns (sent : Nat) (ts : List ByteArray) (s : ByteArray) : Nat × Nat × Nat × List ByteArray :=
  if 65536 < s.size then (0, 4, sent, ts) else if 256 ≤ ts.length ∨ 1099511627776 ≤ sent then (0, 17, sent, ts) else (sent + 1, 0, sent + 1, ts ++ [s])
theorem Send_spec (B : Nat) (w : World) (g mark sent : Nat) (ts : List ByteArray) (s : ByteArray) (h : EndAt B w g mark sent ts) (hm : sent ≤ 1099511627776) (hss : s.size ≤ 1000000000) :
    CallP Try.prog 13 #[.pointer (some ⟨g, 0, none⟩), .string s] (fun r w' => r = .tuple #[.int .i64 (sendAns sent ts s).1, .int .i64 (sendAns sent ts s).2.1] ∧ EndAt B w' g mark (sendAns sent ts s).2.2.1 (sendAns sent ts s).2.2.2 ∧ Below B w w') w := by
  have h0 := h
  have hlt := h.lt
  obtain ⟨hB, A, c, hbl, ho, hf, hd⟩ := h
  have c1 : w.cell? ⟨g, 1, none⟩ = some (.int .i64 sent) := hbl.cell 1
  have c2 : w.cell? ⟨g, 2, none⟩ = some (.slice A ts.length c) := hbl.cell 2
  refine ⟨S13.calls _ _ _ _ ?_⟩
  unfold S13
  refine lns und9 ?_
  (first | refine bi_lss_c (fun h => ?_) (fun h => ?_) | refine bi_eql_c (fun h => ?_) (fun h => ?_) | refine bi_neq_c (fun h => ?_) (fun h => ?_) | refine bi_gtr_c (fun h => ?_) (fun h => ?_) | refine bi_leq_c (fun h => ?_) (fun h => ?_) | refine bi_geq_c (fun h => ?_) (fun h => ?_) | refine bi_seql_c (fun h => ?_) (fun h => ?_) | refine bi_sneq_c (fun h => ?_) (fun h => ?_))
  · (repeat with_reducible first|refine z_a ?_|refine z_b ?_|refine z_c ?_|refine z_d ?_|refine z_e ?_|refine z_f ?_|refine z_g ?_|refine z_h ?_|refine z_i ?_|refine z_j ?_|refine z_k ?_|refine z_l ?_|refine z_m (by omega) ?_|refine z_n (by omega) ?_|refine z_o (by omega) ?_|refine z_p (by omega) ?_|refine z_q (by omega) ?_|refine z_r (by omega) ?_|refine z_s (by omega) ?_|refine z_t (by omega) ?_|refine z_u (by omega) ?_|refine z_v (by omega) ?_|refine z_w (by omega) ?_|refine z_x (by omega) ?_|refine z_y (by omega) ?_|refine z_z (by omega) ?_|refine z_A ?_|refine z_B ?_|refine z_C ?_|refine z_D ?_|refine z_E ?_|refine z_F ?_|refine z_G ?_|refine z_H ?_|refine z_I ?_|refine z_J ?_|refine z_K (by omega) (by decide) ?_|refine z_L (by omega) (by decide) ?_|refine z_M (by omega) ?_|refine z_N (by omega) ?_|refine z_O (by omega) ?_|refine z_P ?_|refine z_Q ?_|refine z_R ?_|refine z_S ?_|refine z_T ?_|refine z_U (by decide) ?_|refine z_V (by decide) ?_)
    rw [sendAns, if_pos (by omega)]
    exact ⟨rfl, h0, Below.refl _ w⟩
  (repeat with_reducible first|refine z_a ?_|refine z_b ?_|refine z_c ?_|refine z_d ?_|refine z_e ?_|refine z_f ?_|refine z_g ?_|refine z_h ?_|refine z_i ?_|refine z_j ?_|refine z_k ?_|refine z_l ?_|refine z_m (by omega) ?_|refine z_n (by omega) ?_|refine z_o (by omega) ?_|refine z_p (by omega) ?_|refine z_q (by omega) ?_|refine z_r (by omega) ?_|refine z_s (by omega) ?_|refine z_t (by omega) ?_|refine z_u (by omega) ?_|refine z_v (by omega) ?_|refine z_w (by omega) ?_|refine z_x (by omega) ?_|refine z_y (by omega) ?_|refine z_z (by omega) ?_|refine z_A ?_|refine z_B ?_|refine z_C ?_|refine z_D ?_|refine z_E ?_|refine z_F ?_|refine z_G ?_|refine z_H ?_|refine z_I ?_|refine z_J ?_|refine z_K (by omega) (by decide) ?_|refine z_L (by omega) (by decide) ?_|refine z_M (by omega) ?_|refine z_N (by omega) ?_|refine z_O (by omega) ?_|refine z_P ?_|refine z_Q ?_|refine z_R ?_|refine z_S ?_|refine z_T ?_|refine z_U (by decide) ?_|refine z_V (by decide) ?_)
  refine JoinP.cut (fun vs w' => vs = [.bool (decide (256 ≤ ts.length ∨ 1099511627776 ≤ sent))] ∧ w = w') (fun J hJ => ?_) ?_
  · (repeat with_reducible first | refine fd g2 (by decide) ?_| refine ld one37 c2 ?_| refine ln und37 ?_|refine z_a ?_|refine z_b ?_|refine z_c ?_|refine z_d ?_|refine z_e ?_|refine z_f ?_|refine z_g ?_|refine z_h ?_|refine z_i ?_|refine z_j ?_|refine z_k ?_|refine z_l ?_|refine z_m (by omega) ?_|refine z_n (by omega) ?_|refine z_o (by omega) ?_|refine z_p (by omega) ?_|refine z_q (by omega) ?_|refine z_r (by omega) ?_|refine z_s (by omega) ?_|refine z_t (by omega) ?_|refine z_u (by omega) ?_|refine z_v (by omega) ?_|refine z_w (by omega) ?_|refine z_x (by omega) ?_|refine z_y (by omega) ?_|refine z_z (by omega) ?_|refine z_A ?_|refine z_B ?_|refine z_C ?_|refine z_D ?_|refine z_E ?_|refine z_F ?_|refine z_G ?_|refine z_H ?_|refine z_I ?_|refine z_J ?_|refine z_K (by omega) (by decide) ?_|refine z_L (by omega) (by decide) ?_|refine z_M (by omega) ?_|refine z_N (by omega) ?_|refine z_O (by omega) ?_|refine z_P ?_|refine z_Q ?_|refine z_R ?_|refine z_S ?_|refine z_T ?_|refine z_U (by decide) ?_|refine z_V (by decide) ?_)
    (first | refine bi_lss_c (fun h => ?_) (fun h => ?_) | refine bi_eql_c (fun h => ?_) (fun h => ?_) | refine bi_neq_c (fun h => ?_) (fun h => ?_) | refine bi_gtr_c (fun h => ?_) (fun h => ?_) | refine bi_leq_c (fun h => ?_) (fun h => ?_) | refine bi_geq_c (fun h => ?_) (fun h => ?_) | refine bi_seql_c (fun h => ?_) (fun h => ?_) | refine bi_sneq_c (fun h => ?_) (fun h => ?_))
    · (repeat with_reducible first|refine z_a ?_|refine z_b ?_|refine z_c ?_|refine z_d ?_|refine z_e ?_|refine z_f ?_|refine z_g ?_|refine z_h ?_|refine z_i ?_|refine z_j ?_|refine z_k ?_|refine z_l ?_|refine z_m (by omega) ?_|refine z_n (by omega) ?_|refine z_o (by omega) ?_|refine z_p (by omega) ?_|refine z_q (by omega) ?_|refine z_r (by omega) ?_|refine z_s (by omega) ?_|refine z_t (by omega) ?_|refine z_u (by omega) ?_|refine z_v (by omega) ?_|refine z_w (by omega) ?_|refine z_x (by omega) ?_|refine z_y (by omega) ?_|refine z_z (by omega) ?_|refine z_A ?_|refine z_B ?_|refine z_C ?_|refine z_D ?_|refine z_E ?_|refine z_F ?_|refine z_G ?_|refine z_H ?_|refine z_I ?_|refine z_J ?_|refine z_K (by omega) (by decide) ?_|refine z_L (by omega) (by decide) ?_|refine z_M (by omega) ?_|refine z_N (by omega) ?_|refine z_O (by omega) ?_|refine z_P ?_|refine z_Q ?_|refine z_R ?_|refine z_S ?_|refine z_T ?_|refine z_U (by decide) ?_|refine z_V (by decide) ?_)
      exact hJ _ _ ⟨by rw [decide_eq_true (Or.inl (by omega))], rfl⟩
    (repeat with_reducible first | refine fd g1 (by decide) ?_| refine ld one3 c1 ?_|refine z_a ?_|refine z_b ?_|refine z_c ?_|refine z_d ?_|refine z_e ?_|refine z_f ?_|refine z_g ?_|refine z_h ?_|refine z_i ?_|refine z_j ?_|refine z_k ?_|refine z_l ?_|refine z_m (by omega) ?_|refine z_n (by omega) ?_|refine z_o (by omega) ?_|refine z_p (by omega) ?_|refine z_q (by omega) ?_|refine z_r (by omega) ?_|refine z_s (by omega) ?_|refine z_t (by omega) ?_|refine z_u (by omega) ?_|refine z_v (by omega) ?_|refine z_w (by omega) ?_|refine z_x (by omega) ?_|refine z_y (by omega) ?_|refine z_z (by omega) ?_|refine z_A ?_|refine z_B ?_|refine z_C ?_|refine z_D ?_|refine z_E ?_|refine z_F ?_|refine z_G ?_|refine z_H ?_|refine z_I ?_|refine z_J ?_|refine z_K (by omega) (by decide) ?_|refine z_L (by omega) (by decide) ?_|refine z_M (by omega) ?_|refine z_N (by omega) ?_|refine z_O (by omega) ?_|refine z_P ?_|refine z_Q ?_|refine z_R ?_|refine z_S ?_|refine z_T ?_|refine z_U (by decide) ?_|refine z_V (by decide) ?_)
    (first | refine bi_lss_c (fun h => ?_) (fun h => ?_) | refine bi_eql_c (fun h => ?_) (fun h => ?_) | refine bi_neq_c (fun h => ?_) (fun h => ?_) | refine bi_gtr_c (fun h => ?_) (fun h => ?_) | refine bi_leq_c (fun h => ?_) (fun h => ?_) | refine bi_geq_c (fun h => ?_) (fun h => ?_) | refine bi_seql_c (fun h => ?_) (fun h => ?_) | refine bi_sneq_c (fun h => ?_) (fun h => ?_))
    · exact hJ _ _ ⟨by rw [decide_eq_true (Or.inr (by omega))], rfl⟩
    · exact hJ _ _ ⟨by rw [decide_eq_false (by omega)], rfl⟩
  rintro _ _ ⟨rfl, rfl⟩
  dsimp only [List.headD_cons, List.tail_cons]
  refine CondP.dec (fun hh => ?_) (fun hh => ?_)
  · rw [sendAns, if_neg (by omega), if_pos hh]
    exact ⟨rfl, h0, Below.refl _ w⟩
  (repeat with_reducible first | refine fd g1 (by decide) ?_| refine ld one3 c1 ?_|refine z_a ?_|refine z_b ?_|refine z_c ?_|refine z_d ?_|refine z_e ?_|refine z_f ?_|refine z_g ?_|refine z_h ?_|refine z_i ?_|refine z_j ?_|refine z_k ?_|refine z_l ?_|refine z_m (by omega) ?_|refine z_n (by omega) ?_|refine z_o (by omega) ?_|refine z_p (by omega) ?_|refine z_q (by omega) ?_|refine z_r (by omega) ?_|refine z_s (by omega) ?_|refine z_t (by omega) ?_|refine z_u (by omega) ?_|refine z_v (by omega) ?_|refine z_w (by omega) ?_|refine z_x (by omega) ?_|refine z_y (by omega) ?_|refine z_z (by omega) ?_|refine z_A ?_|refine z_B ?_|refine z_C ?_|refine z_D ?_|refine z_E ?_|refine z_F ?_|refine z_G ?_|refine z_H ?_|refine z_I ?_|refine z_J ?_|refine z_K (by omega) (by decide) ?_|refine z_L (by omega) (by decide) ?_|refine z_M (by omega) ?_|refine z_N (by omega) ?_|refine z_O (by omega) ?_|refine z_P ?_|refine z_Q ?_|refine z_R ?_|refine z_S ?_|refine z_T ?_|refine z_U (by decide) ?_|refine z_V (by decide) ?_)
  rw [show ((sent : Int) + 1) = ((sent + 1 : Nat) : Int) from by omega]
  refine st sz3 rfl (by rw [hbl.cell 1]; rfl) (hbl.frozen 1) ?_
  have hbl1 : Blk (w.setCell ⟨g, 1, none⟩ (.int .i64 ((sent + 1 : Nat) : Int))) g 101 #[.int .i64 mark, .int .i64 (sent + 1 : Nat), .slice A ts.length c] := hbl.set_ 1 _
  have ho1 := ho.far (p := ⟨g, 1, none⟩) hd (.int .i64 ((sent + 1 : Nat) : Int))
  have hb1 : Below B w (w.setCell ⟨g, 1, none⟩ (.int .i64 ((sent + 1 : Nat) : Int))) := (Below.refl B w).setCell hB _
  generalize w.setCell ⟨g, 1, none⟩ (.int .i64 ((sent + 1 : Nat) : Int)) = w1 at *
  have c2' : w1.cell? ⟨g, 2, none⟩ = some (.slice A ts.length c) := hbl1.cell 2
  (repeat with_reducible first | refine fd g2 (by decide) ?_| refine ld one37 c2' ?_|refine z_a ?_|refine z_b ?_|refine z_c ?_|refine z_d ?_|refine z_e ?_|refine z_f ?_|refine z_g ?_|refine z_h ?_|refine z_i ?_|refine z_j ?_|refine z_k ?_|refine z_l ?_|refine z_m (by omega) ?_|refine z_n (by omega) ?_|refine z_o (by omega) ?_|refine z_p (by omega) ?_|refine z_q (by omega) ?_|refine z_r (by omega) ?_|refine z_s (by omega) ?_|refine z_t (by omega) ?_|refine z_u (by omega) ?_|refine z_v (by omega) ?_|refine z_w (by omega) ?_|refine z_x (by omega) ?_|refine z_y (by omega) ?_|refine z_z (by omega) ?_|refine z_A ?_|refine z_B ?_|refine z_C ?_|refine z_D ?_|refine z_E ?_|refine z_F ?_|refine z_G ?_|refine z_H ?_|refine z_I ?_|refine z_J ?_|refine z_K (by omega) (by decide) ?_|refine z_L (by omega) (by decide) ?_|refine z_M (by omega) ?_|refine z_N (by omega) ?_|refine z_O (by omega) ?_|refine z_P ?_|refine z_Q ?_|refine z_R ?_|refine z_S ?_|refine z_T ?_|refine z_U (by decide) ?_|refine z_V (by decide) ?_)
  refine lift (v := .slice (some ⟨w1.heap.size, 0, none⟩) 1 1) (w' := w1.alloc (.cells #[.string s] 9)) (by kernel_rfl) ?_
  have ha := (Below.refl w1.heap.size w1).alloc (Nat.le_refl _) (.cells #[.string s] 9)
  have hbl2 := hbl1.below' ha
  have ho2 := ho1.below ha
  have hgl := hbl1.lt
  have hBs : B ≤ w1.heap.size := by omega
  have hb2 : Below B w (w1.alloc (.cells #[.string s] 9)) := hb1.trans (ha.mono hBs)
  have hrs : Rd (w1.alloc (.cells #[.string s] 9)) (.slice (some ⟨w1.heap.size, 0, none⟩) 1 1) [.string s] := (Own.new w1 9 [.string s] (by simp)).rd
  generalize w1.alloc (.cells #[.string s] 9) = w2 at *
  refine ap und37 inf9 (by rfl) (by decide) ho2 hrs (by simp [Value.oneCell']) (by simp; omega) ?_
  intro v3 w3 ho3 hg3 hbl3
  have hblk3 : Blk w3 g 101 #[.int .i64 mark, .int .i64 (sent + 1 : Nat), .slice A ts.length c] := (hg3.block g hbl2.lt (fun he => hd he.symm)).trans hbl2
  have hb3 : Below B w w3 := hb2.trans ((Below.refl B w2).grown hg3 (by have := hbl2.lt; omega) (fun k hk => hf k hk))
  have hf3 : Fresh B v3 := fun k hk => by
    rcases hbl3 with h | h
    · rw [h] at hk; exact hf k hk
    · rw [h] at hk; cases hk; have := hbl2.lt; omega
  have hd3 : v3.ownBlock ≠ some g := fun he => by
    rcases hbl3 with h | h
    · exact hd (h ▸ he)
    · rw [h] at he; have := hbl2.lt; cases he; omega
  obtain ⟨A3, c3, rfl⟩ := ho3.slice
  (repeat with_reducible first | refine fd g2 (by decide) ?_|refine z_a ?_|refine z_b ?_|refine z_c ?_|refine z_d ?_|refine z_e ?_|refine z_f ?_|refine z_g ?_|refine z_h ?_|refine z_i ?_|refine z_j ?_|refine z_k ?_|refine z_l ?_|refine z_m (by omega) ?_|refine z_n (by omega) ?_|refine z_o (by omega) ?_|refine z_p (by omega) ?_|refine z_q (by omega) ?_|refine z_r (by omega) ?_|refine z_s (by omega) ?_|refine z_t (by omega) ?_|refine z_u (by omega) ?_|refine z_v (by omega) ?_|refine z_w (by omega) ?_|refine z_x (by omega) ?_|refine z_y (by omega) ?_|refine z_z (by omega) ?_|refine z_A ?_|refine z_B ?_|refine z_C ?_|refine z_D ?_|refine z_E ?_|refine z_F ?_|refine z_G ?_|refine z_H ?_|refine z_I ?_|refine z_J ?_|refine z_K (by omega) (by decide) ?_|refine z_L (by omega) (by decide) ?_|refine z_M (by omega) ?_|refine z_N (by omega) ?_|refine z_O (by omega) ?_|refine z_P ?_|refine z_Q ?_|refine z_R ?_|refine z_S ?_|refine z_T ?_|refine z_U (by decide) ?_|refine z_V (by decide) ?_)
  refine st sz37 rfl (by rw [hblk3.cell 2]; rfl) (hblk3.frozen 2) ?_
  have hbl4 := hblk3.set_ 2 (.slice A3 (ts.map Value.string ++ [Value.string s]).length c3)
  have ho4 := ho3.far (p := ⟨g, 2, none⟩) hd3 (.slice A3 (ts.map Value.string ++ [Value.string s]).length c3)
  have hb4 := hb3.setCell (p := ⟨g, 2, none⟩) hB (.slice A3 (ts.map Value.string ++ [Value.string s]).length c3)
  generalize w3.setCell ⟨g, 2, none⟩ (.slice A3 (ts.map Value.string ++ [Value.string s]).length c3) = w4 at *
  have hcell : w4.cell? ⟨g, 1, none⟩ = some (.int .i64 ((sent + 1 : Nat) : Int)) := hbl4.cell 1
  (repeat with_reducible first | refine fd g1 (by decide) ?_| refine ld one3 hcell ?_|refine z_a ?_|refine z_b ?_|refine z_c ?_|refine z_d ?_|refine z_e ?_|refine z_f ?_|refine z_g ?_|refine z_h ?_|refine z_i ?_|refine z_j ?_|refine z_k ?_|refine z_l ?_|refine z_m (by omega) ?_|refine z_n (by omega) ?_|refine z_o (by omega) ?_|refine z_p (by omega) ?_|refine z_q (by omega) ?_|refine z_r (by omega) ?_|refine z_s (by omega) ?_|refine z_t (by omega) ?_|refine z_u (by omega) ?_|refine z_v (by omega) ?_|refine z_w (by omega) ?_|refine z_x (by omega) ?_|refine z_y (by omega) ?_|refine z_z (by omega) ?_|refine z_A ?_|refine z_B ?_|refine z_C ?_|refine z_D ?_|refine z_E ?_|refine z_F ?_|refine z_G ?_|refine z_H ?_|refine z_I ?_|refine z_J ?_|refine z_K (by omega) (by decide) ?_|refine z_L (by omega) (by decide) ?_|refine z_M (by omega) ?_|refine z_N (by omega) ?_|refine z_O (by omega) ?_|refine z_P ?_|refine z_Q ?_|refine z_R ?_|refine z_S ?_|refine z_T ?_|refine z_U (by decide) ?_|refine z_V (by decide) ?_)
  have hnl : (ts.map Value.string ++ [Value.string s]).length = (ts ++ [s]).length := by simp
  rw [hnl] at hbl4 ho4 hf3 hd3
  rw [sendAns, if_neg (by omega), if_neg hh]
  exact ⟨rfl, ⟨hB, A3, c3, hbl4, by simpa using ho4, hf3, hd3⟩, hb4⟩
end Go.Proofs.Ythicbfopjakiiaa.E
namespace Go.Proofs.Ythicbfopjakiiaa.E
open Go Go.RowKit
set_option linter.unusedSimpArgs false
set_option linter.unusedVariables false

theorem und44 : Try.prog.underlying 44 = some (.slice 99) := by kernel_rfl
theorem sz99 : (Try.prog.info? 99).map (·.size) = some 2 := by kernel_rfl
theorem inf99 : (Try.prog.info? 99).map (fun i => (i.zero, i.size, i.bytes)) = some (some (.agg #[.int .i64 0, .string ⟨#[]⟩]), 2, 24) := by kernel_rfl
theorem i0 : fofs Try.prog 99 0 = some (0, 1) := by kernel_rfl
theorem i1 : fofs Try.prog 99 1 = some (1, 1) := by kernel_rfl
theorem undP : Try.prog.underlying 23 = some (.pointer 101) := by kernel_rfl

theorem Acked_spec (B : Nat) (w : World) (g mark sent : Nat) (ts : List ByteArray) (m : Int) (h : EndAt B w g mark sent ts) (hs : ts.length ≤ sent) (hm : sent ≤ 1099511627776) (hl : ts.length ≤ 1000000) :
    CallP Try.prog 15 #[.pointer (some ⟨g, 0, none⟩), .int .i64 m] (fun r w' => ∃ n : Nat, r = .int .i64 n ∧ (n = if m < ((sent - ts.length + 1 : Nat) : Int) ∨ (sent : Int) < m then 0 else m.toNat - (sent - ts.length)) ∧ EndAt B w' g mark sent (ts.drop n) ∧ Below B w w') w := by
  refine ⟨S15.calls _ _ _ _ ?_⟩
  unfold S15
  refine (first_spec B w g mark sent ts h hs hm).mono ?_
  rintro _ w1 ⟨rfl, hb1⟩
  have h1 := h.below hb1
  have hBw : B ≤ w.heap.size := by have := h.1; have := h.lt; omega
  have hbB1 := hb1.mono hBw
  obtain ⟨hB, A, c, hbl, ho, hf, hd⟩ := h1
  have c1 : w1.cell? ⟨g, 1, none⟩ = some (.int .i64 sent) := hbl.cell 1
  (first | refine bi_lss_c (fun h => ?_) (fun h => ?_) | refine bi_eql_c (fun h => ?_) (fun h => ?_) | refine bi_neq_c (fun h => ?_) (fun h => ?_) | refine bi_gtr_c (fun h => ?_) (fun h => ?_) | refine bi_leq_c (fun h => ?_) (fun h => ?_) | refine bi_geq_c (fun h => ?_) (fun h => ?_) | refine bi_seql_c (fun h => ?_) (fun h => ?_) | refine bi_sneq_c (fun h => ?_) (fun h => ?_))
  · (repeat with_reducible first|refine z_a ?_|refine z_b ?_|refine z_c ?_|refine z_d ?_|refine z_e ?_|refine z_f ?_|refine z_g ?_|refine z_h ?_|refine z_i ?_|refine z_j ?_|refine z_k ?_|refine z_l ?_|refine z_m (by omega) ?_|refine z_n (by omega) ?_|refine z_o (by omega) ?_|refine z_p (by omega) ?_|refine z_q (by omega) ?_|refine z_r (by omega) ?_|refine z_s (by omega) ?_|refine z_t (by omega) ?_|refine z_u (by omega) ?_|refine z_v (by omega) ?_|refine z_w (by omega) ?_|refine z_x (by omega) ?_|refine z_y (by omega) ?_|refine z_z (by omega) ?_|refine z_A ?_|refine z_B ?_|refine z_C ?_|refine z_D ?_|refine z_E ?_|refine z_F ?_|refine z_G ?_|refine z_H ?_|refine z_I ?_|refine z_J ?_|refine z_K (by omega) (by decide) ?_|refine z_L (by omega) (by decide) ?_|refine z_M (by omega) ?_|refine z_N (by omega) ?_|refine z_O (by omega) ?_|refine z_P ?_|refine z_Q ?_|refine z_R ?_|refine z_S ?_|refine z_T ?_|refine z_U (by decide) ?_|refine z_V (by decide) ?_)
    exact ⟨0, rfl, by rw [if_pos (.inl (by omega))], ⟨hB, A, c, hbl, ho, hf, hd⟩, hbB1⟩
  (repeat with_reducible first | refine fd g1 (by decide) ?_| refine ld one3 c1 ?_|refine z_a ?_|refine z_b ?_|refine z_c ?_|refine z_d ?_|refine z_e ?_|refine z_f ?_|refine z_g ?_|refine z_h ?_|refine z_i ?_|refine z_j ?_|refine z_k ?_|refine z_l ?_|refine z_m (by omega) ?_|refine z_n (by omega) ?_|refine z_o (by omega) ?_|refine z_p (by omega) ?_|refine z_q (by omega) ?_|refine z_r (by omega) ?_|refine z_s (by omega) ?_|refine z_t (by omega) ?_|refine z_u (by omega) ?_|refine z_v (by omega) ?_|refine z_w (by omega) ?_|refine z_x (by omega) ?_|refine z_y (by omega) ?_|refine z_z (by omega) ?_|refine z_A ?_|refine z_B ?_|refine z_C ?_|refine z_D ?_|refine z_E ?_|refine z_F ?_|refine z_G ?_|refine z_H ?_|refine z_I ?_|refine z_J ?_|refine z_K (by omega) (by decide) ?_|refine z_L (by omega) (by decide) ?_|refine z_M (by omega) ?_|refine z_N (by omega) ?_|refine z_O (by omega) ?_|refine z_P ?_|refine z_Q ?_|refine z_R ?_|refine z_S ?_|refine z_T ?_|refine z_U (by decide) ?_|refine z_V (by decide) ?_)
  (first | refine bi_lss_c (fun h => ?_) (fun h => ?_) | refine bi_eql_c (fun h => ?_) (fun h => ?_) | refine bi_neq_c (fun h => ?_) (fun h => ?_) | refine bi_gtr_c (fun h => ?_) (fun h => ?_) | refine bi_leq_c (fun h => ?_) (fun h => ?_) | refine bi_geq_c (fun h => ?_) (fun h => ?_) | refine bi_seql_c (fun h => ?_) (fun h => ?_) | refine bi_sneq_c (fun h => ?_) (fun h => ?_))
  · (repeat with_reducible first|refine z_a ?_|refine z_b ?_|refine z_c ?_|refine z_d ?_|refine z_e ?_|refine z_f ?_|refine z_g ?_|refine z_h ?_|refine z_i ?_|refine z_j ?_|refine z_k ?_|refine z_l ?_|refine z_m (by omega) ?_|refine z_n (by omega) ?_|refine z_o (by omega) ?_|refine z_p (by omega) ?_|refine z_q (by omega) ?_|refine z_r (by omega) ?_|refine z_s (by omega) ?_|refine z_t (by omega) ?_|refine z_u (by omega) ?_|refine z_v (by omega) ?_|refine z_w (by omega) ?_|refine z_x (by omega) ?_|refine z_y (by omega) ?_|refine z_z (by omega) ?_|refine z_A ?_|refine z_B ?_|refine z_C ?_|refine z_D ?_|refine z_E ?_|refine z_F ?_|refine z_G ?_|refine z_H ?_|refine z_I ?_|refine z_J ?_|refine z_K (by omega) (by decide) ?_|refine z_L (by omega) (by decide) ?_|refine z_M (by omega) ?_|refine z_N (by omega) ?_|refine z_O (by omega) ?_|refine z_P ?_|refine z_Q ?_|refine z_R ?_|refine z_S ?_|refine z_T ?_|refine z_U (by decide) ?_|refine z_V (by decide) ?_)
    exact ⟨0, rfl, by rw [if_pos (.inr (by omega))], ⟨hB, A, c, hbl, ho, hf, hd⟩, hbB1⟩
  (repeat with_reducible first|refine z_a ?_|refine z_b ?_|refine z_c ?_|refine z_d ?_|refine z_e ?_|refine z_f ?_|refine z_g ?_|refine z_h ?_|refine z_i ?_|refine z_j ?_|refine z_k ?_|refine z_l ?_|refine z_m (by omega) ?_|refine z_n (by omega) ?_|refine z_o (by omega) ?_|refine z_p (by omega) ?_|refine z_q (by omega) ?_|refine z_r (by omega) ?_|refine z_s (by omega) ?_|refine z_t (by omega) ?_|refine z_u (by omega) ?_|refine z_v (by omega) ?_|refine z_w (by omega) ?_|refine z_x (by omega) ?_|refine z_y (by omega) ?_|refine z_z (by omega) ?_|refine z_A ?_|refine z_B ?_|refine z_C ?_|refine z_D ?_|refine z_E ?_|refine z_F ?_|refine z_G ?_|refine z_H ?_|refine z_I ?_|refine z_J ?_|refine z_K (by omega) (by decide) ?_|refine z_L (by omega) (by decide) ?_|refine z_M (by omega) ?_|refine z_N (by omega) ?_|refine z_O (by omega) ?_|refine z_P ?_|refine z_Q ?_|refine z_R ?_|refine z_S ?_|refine z_T ?_|refine z_U (by decide) ?_|refine z_V (by decide) ?_)
  refine (first_spec B w1 g mark sent ts ⟨hB, A, c, hbl, ho, hf, hd⟩ hs hm).mono ?_
  rintro _ w2 ⟨rfl, hb2⟩
  have hB1 : B ≤ w1.heap.size := by have := hbl.lt; omega
  have hbB2 := hbB1.trans (hb2.mono hB1)
  have hbl2 := hbl.below' hb2
  have ho2 := ho.below hb2
  obtain ⟨n, rfl⟩ : ∃ n : Nat, m = n := ⟨m.toNat, by omega⟩
  have c2 : w2.cell? ⟨g, 2, none⟩ = some (.slice A ts.length c) := hbl2.cell 2
  (repeat with_reducible first|refine z_a ?_|refine z_b ?_|refine z_c ?_|refine z_d ?_|refine z_e ?_|refine z_f ?_|refine z_g ?_|refine z_h ?_|refine z_i ?_|refine z_j ?_|refine z_k ?_|refine z_l ?_|refine z_m (by omega) ?_|refine z_n (by omega) ?_|refine z_o (by omega) ?_|refine z_p (by omega) ?_|refine z_q (by omega) ?_|refine z_r (by omega) ?_|refine z_s (by omega) ?_|refine z_t (by omega) ?_|refine z_u (by omega) ?_|refine z_v (by omega) ?_|refine z_w (by omega) ?_|refine z_x (by omega) ?_|refine z_y (by omega) ?_|refine z_z (by omega) ?_|refine z_A ?_|refine z_B ?_|refine z_C ?_|refine z_D ?_|refine z_E ?_|refine z_F ?_|refine z_G ?_|refine z_H ?_|refine z_I ?_|refine z_J ?_|refine z_K (by omega) (by decide) ?_|refine z_L (by omega) (by decide) ?_|refine z_M (by omega) ?_|refine z_N (by omega) ?_|refine z_O (by omega) ?_|refine z_P ?_|refine z_Q ?_|refine z_R ?_|refine z_S ?_|refine z_T ?_|refine z_U (by decide) ?_|refine z_V (by decide) ?_)
  rw [show ((n : Int) - ((sent - ts.length + 1 : Nat) : Int) + 1) = ((n - (sent - ts.length) : Nat) : Int) from by omega]
  (repeat with_reducible first | refine fd g2 (by decide) ?_| refine ld one37 c2 ?_|refine z_a ?_|refine z_b ?_|refine z_c ?_|refine z_d ?_|refine z_e ?_|refine z_f ?_|refine z_g ?_|refine z_h ?_|refine z_i ?_|refine z_j ?_|refine z_k ?_|refine z_l ?_|refine z_m (by omega) ?_|refine z_n (by omega) ?_|refine z_o (by omega) ?_|refine z_p (by omega) ?_|refine z_q (by omega) ?_|refine z_r (by omega) ?_|refine z_s (by omega) ?_|refine z_t (by omega) ?_|refine z_u (by omega) ?_|refine z_v (by omega) ?_|refine z_w (by omega) ?_|refine z_x (by omega) ?_|refine z_y (by omega) ?_|refine z_z (by omega) ?_|refine z_A ?_|refine z_B ?_|refine z_C ?_|refine z_D ?_|refine z_E ?_|refine z_F ?_|refine z_G ?_|refine z_H ?_|refine z_I ?_|refine z_J ?_|refine z_K (by omega) (by decide) ?_|refine z_L (by omega) (by decide) ?_|refine z_M (by omega) ?_|refine z_N (by omega) ?_|refine z_O (by omega) ?_|refine z_P ?_|refine z_Q ?_|refine z_R ?_|refine z_S ?_|refine z_T ?_|refine z_U (by decide) ?_|refine z_V (by decide) ?_)
  have hr2 := ho2.rd
  refine ct und37 sz9 hr2 (.at _ _) .no (by omega) (by simp) ?_
  intro v3 hr3
  have e3 : ((ts.map Value.string).take ts.length).drop (n - (sent - ts.length)) = (ts.drop (n - (sent - ts.length))).map Value.string := by
    rw [List.take_of_length_le (by simp), List.map_drop]
  rw [e3] at hr3
  refine ap und37 inf9 (by rfl) (by decide) (Own.nil 9 w2) hr3 (by intro u hu; obtain ⟨s, _, rfl⟩ := List.mem_map.1 hu; rfl) (by simp; omega) ?_
  intro v4 w4 ho4 hg4 hbl4
  have hb4 : Below w2.heap.size w2 w4 := (Below.refl _ w2).grown hg4 (Nat.le_refl _) (fun k hk => by cases hk)
  have hblk4 := hbl2.below' hb4
  have hgl := hbl2.lt
  have hB2 : B ≤ w2.heap.size := by omega
  rw [List.nil_append] at ho4
  have hd4 : v4.ownBlock ≠ some g := fun he => by
    rcases hbl4 with h | h
    · rw [h] at he; cases he
    · rw [h] at he; cases he; omega
  have hf4 : Fresh B v4 := fun k hk => by
    rcases hbl4 with h | h
    · rw [h] at hk; cases hk
    · rw [h] at hk; cases hk; omega
  obtain ⟨A4, c4, rfl⟩ := ho4.slice
  rw [List.length_map] at ho4 hd4 hf4 ⊢
  (repeat with_reducible first | refine fd g2 (by decide) ?_|refine z_a ?_|refine z_b ?_|refine z_c ?_|refine z_d ?_|refine z_e ?_|refine z_f ?_|refine z_g ?_|refine z_h ?_|refine z_i ?_|refine z_j ?_|refine z_k ?_|refine z_l ?_|refine z_m (by omega) ?_|refine z_n (by omega) ?_|refine z_o (by omega) ?_|refine z_p (by omega) ?_|refine z_q (by omega) ?_|refine z_r (by omega) ?_|refine z_s (by omega) ?_|refine z_t (by omega) ?_|refine z_u (by omega) ?_|refine z_v (by omega) ?_|refine z_w (by omega) ?_|refine z_x (by omega) ?_|refine z_y (by omega) ?_|refine z_z (by omega) ?_|refine z_A ?_|refine z_B ?_|refine z_C ?_|refine z_D ?_|refine z_E ?_|refine z_F ?_|refine z_G ?_|refine z_H ?_|refine z_I ?_|refine z_J ?_|refine z_K (by omega) (by decide) ?_|refine z_L (by omega) (by decide) ?_|refine z_M (by omega) ?_|refine z_N (by omega) ?_|refine z_O (by omega) ?_|refine z_P ?_|refine z_Q ?_|refine z_R ?_|refine z_S ?_|refine z_T ?_|refine z_U (by decide) ?_|refine z_V (by decide) ?_)
  refine st sz37 rfl (by rw [hblk4.cell 2]; rfl) (hblk4.frozen 2) ?_
  refine ⟨n - (sent - ts.length), rfl, by rw [if_neg (by omega)]; omega, ⟨hB, A4, c4, hblk4.set_ 2 _, ho4.far (p := ⟨g, 2, none⟩) hd4 _, hf4, hd4⟩, ?_⟩
  exact (hbB2.trans (hb4.mono hB2)).setCell (p := ⟨g, 2, none⟩) hB _

theorem Take_spec (B : Nat) (w : World) (g mark sent : Nat) (ts : List ByteArray) (m : Nat) (s : Value) (h : EndAt B w g mark sent ts) (hm : m ≤ 1099511627776) :
    CallP Try.prog 24 #[.pointer (some ⟨g, 0, none⟩), .int .i64 m, s] (fun r w' => r = .bool (decide (m = mark + 1)) ∧ EndAt B w' g (if m = mark + 1 then m else mark) sent ts ∧ Below B w w') w := by
  have h0 := h
  obtain ⟨hB, A, c, hbl, ho, hf, hd⟩ := h
  have c0 : w.cell? ⟨g, 0, none⟩ = some (.int .i64 mark) := hbl.cell 0
  refine ⟨S24.calls _ _ _ _ _ ?_⟩
  unfold S24
  (repeat with_reducible first | refine fd g0 (by decide) ?_| refine ld one3 c0 ?_|refine z_a ?_|refine z_b ?_|refine z_c ?_|refine z_d ?_|refine z_e ?_|refine z_f ?_|refine z_g ?_|refine z_h ?_|refine z_i ?_|refine z_j ?_|refine z_k ?_|refine z_l ?_|refine z_m (by omega) ?_|refine z_n (by omega) ?_|refine z_o (by omega) ?_|refine z_p (by omega) ?_|refine z_q (by omega) ?_|refine z_r (by omega) ?_|refine z_s (by omega) ?_|refine z_t (by omega) ?_|refine z_u (by omega) ?_|refine z_v (by omega) ?_|refine z_w (by omega) ?_|refine z_x (by omega) ?_|refine z_y (by omega) ?_|refine z_z (by omega) ?_|refine z_A ?_|refine z_B ?_|refine z_C ?_|refine z_D ?_|refine z_E ?_|refine z_F ?_|refine z_G ?_|refine z_H ?_|refine z_I ?_|refine z_J ?_|refine z_K (by omega) (by decide) ?_|refine z_L (by omega) (by decide) ?_|refine z_M (by omega) ?_|refine z_N (by omega) ?_|refine z_O (by omega) ?_|refine z_P ?_|refine z_Q ?_|refine z_R ?_|refine z_S ?_|refine z_T ?_|refine z_U (by decide) ?_|refine z_V (by decide) ?_)
  (first | refine bi_lss_c (fun h => ?_) (fun h => ?_) | refine bi_eql_c (fun h => ?_) (fun h => ?_) | refine bi_neq_c (fun h => ?_) (fun h => ?_) | refine bi_gtr_c (fun h => ?_) (fun h => ?_) | refine bi_leq_c (fun h => ?_) (fun h => ?_) | refine bi_geq_c (fun h => ?_) (fun h => ?_) | refine bi_seql_c (fun h => ?_) (fun h => ?_) | refine bi_sneq_c (fun h => ?_) (fun h => ?_))
  · (repeat with_reducible first|refine z_a ?_|refine z_b ?_|refine z_c ?_|refine z_d ?_|refine z_e ?_|refine z_f ?_|refine z_g ?_|refine z_h ?_|refine z_i ?_|refine z_j ?_|refine z_k ?_|refine z_l ?_|refine z_m (by omega) ?_|refine z_n (by omega) ?_|refine z_o (by omega) ?_|refine z_p (by omega) ?_|refine z_q (by omega) ?_|refine z_r (by omega) ?_|refine z_s (by omega) ?_|refine z_t (by omega) ?_|refine z_u (by omega) ?_|refine z_v (by omega) ?_|refine z_w (by omega) ?_|refine z_x (by omega) ?_|refine z_y (by omega) ?_|refine z_z (by omega) ?_|refine z_A ?_|refine z_B ?_|refine z_C ?_|refine z_D ?_|refine z_E ?_|refine z_F ?_|refine z_G ?_|refine z_H ?_|refine z_I ?_|refine z_J ?_|refine z_K (by omega) (by decide) ?_|refine z_L (by omega) (by decide) ?_|refine z_M (by omega) ?_|refine z_N (by omega) ?_|refine z_O (by omega) ?_|refine z_P ?_|refine z_Q ?_|refine z_R ?_|refine z_S ?_|refine z_T ?_|refine z_U (by decide) ?_|refine z_V (by decide) ?_)
    rw [decide_eq_false (by omega), if_neg (by omega)]
    exact ⟨rfl, h0, Below.refl _ w⟩
  (repeat with_reducible first | refine fd g0 (by decide) ?_|refine z_a ?_|refine z_b ?_|refine z_c ?_|refine z_d ?_|refine z_e ?_|refine z_f ?_|refine z_g ?_|refine z_h ?_|refine z_i ?_|refine z_j ?_|refine z_k ?_|refine z_l ?_|refine z_m (by omega) ?_|refine z_n (by omega) ?_|refine z_o (by omega) ?_|refine z_p (by omega) ?_|refine z_q (by omega) ?_|refine z_r (by omega) ?_|refine z_s (by omega) ?_|refine z_t (by omega) ?_|refine z_u (by omega) ?_|refine z_v (by omega) ?_|refine z_w (by omega) ?_|refine z_x (by omega) ?_|refine z_y (by omega) ?_|refine z_z (by omega) ?_|refine z_A ?_|refine z_B ?_|refine z_C ?_|refine z_D ?_|refine z_E ?_|refine z_F ?_|refine z_G ?_|refine z_H ?_|refine z_I ?_|refine z_J ?_|refine z_K (by omega) (by decide) ?_|refine z_L (by omega) (by decide) ?_|refine z_M (by omega) ?_|refine z_N (by omega) ?_|refine z_O (by omega) ?_|refine z_P ?_|refine z_Q ?_|refine z_R ?_|refine z_S ?_|refine z_T ?_|refine z_U (by decide) ?_|refine z_V (by decide) ?_)
  refine st sz3 rfl (by rw [c0]; rfl) (hbl.frozen 0) ?_
  rw [decide_eq_true (by omega), if_pos (by omega)]
  exact ⟨rfl, ⟨hB, A, c, hbl.set_ 0 _, ho.far (p := ⟨g, 0, none⟩) hd _, hf, hd⟩, (Below.refl B w).setCell (p := ⟨g, 0, none⟩) hB _⟩

def items : Nat → List ByteArray → List Value
  | _, [] => []
  | f, s :: r => .int .i64 (f : Nat) :: .string s :: items (f + 1) r
theorem items_snoc (l : List ByteArray) : ∀ (f : Nat) (s : ByteArray), items f (l ++ [s]) = items f l ++ [.int .i64 ((f + l.length : Nat) : Int), .string s] := by
  induction l with
  | nil => intro f s; simp [items]
  | cons t l ih =>
    intro f s
    simp only [List.cons_append, items, List.length_cons]
    rw [ih, show f + 1 + l.length = f + (l.length + 1) from by omega]
theorem Post_spec (B : Nat) (w : World) (g mark sent : Nat) (ts : List ByteArray) (n : Int) (h : EndAt B w g mark sent ts) (hs : ts.length ≤ sent) (hm : sent ≤ 1099511627776) (hl : ts.length ≤ 1000000) :
    CallP Try.prog 22 #[.pointer (some ⟨g, 0, none⟩), .int .i64 n] (fun r w' => w'.ownsRow 0 99 2 r (min n.toNat ts.length) (items (sent - ts.length + 1) (ts.take n.toNat)) ∧ Fresh w.heap.size r ∧ Below w.heap.size w w') w := by
  have h0 := h
  obtain ⟨hB, A, c, hbl, ho, hf, hd⟩ := h
  refine ⟨S22.calls _ _ _ _ ?_⟩
  unfold S22
  refine draw (Below w.heap.size w) (Below.refl _ _).drew ?_
  have hdr : Below w.heap.size w w.drew := (Below.refl _ _).drew
  have c2 : ∀ w', Below w.heap.size w w' → w'.cell? ⟨g, 2, none⟩ = some (.slice A ts.length c) := fun w' h => (hbl.below' h).cell 2
  (repeat with_reducible first | refine yfd g2 (by decide) ?_| refine yl1 one37 c2 ?_| refine yln und37 ?_| refine ymx ?_| refine ymn ?_|refine z_W ?_|refine z_a ?_|refine z_b ?_|refine z_c ?_|refine z_d ?_|refine z_e ?_|refine z_f ?_|refine z_g ?_|refine z_h ?_|refine z_i ?_|refine z_j ?_|refine z_k ?_|refine z_l ?_|refine z_X (by omega) ?_|refine z_Y (by omega) ?_|refine z_Z (by omega) ?_|refine z_a1 (by omega) ?_|refine z_b1 (by omega) ?_|refine z_c1 (by omega) ?_|refine z_d1 (by omega) ?_|refine z_e1 (by omega) ?_|refine z_f1 (by omega) ?_|refine z_g1 (by omega) ?_|refine z_h1 (by omega) ?_|refine z_i1 (by omega) ?_|refine z_j1 (by omega) ?_|refine z_k1 (by omega) ?_|refine z_l1 ?_|refine z_m1 ?_|refine z_n1 ?_|refine z_o1 ?_|refine z_p1 ?_|refine z_q1 ?_|refine z_r1 ?_|refine z_s1 ?_|refine z_t1 ?_|refine z_u1 ?_|refine z_v1 (by omega) (by decide) ?_|refine z_w1 (by omega) (by decide) ?_|refine z_x1 (by omega) ?_|refine z_y1 (by omega) ?_|refine z_z1 (by omega) ?_|refine z_A1 ?_|refine z_B1 ?_|refine z_C1 ?_|refine z_D1 ?_|refine z_E1 ?_|refine z_F1 (by decide) ?_|refine z_G1 (by decide) ?_)
  rw [show min (max n 0) (ts.length : Int) = ((min n.toNat ts.length : Nat) : Int) from by omega]
  have hr := ho.rd
  have hc1 : ts.length ≤ c := by
    obtain ⟨A1, c1', he, hc1, hc2⟩ := hr.slice
    simp only [Value.slice.injEq] at he
    rw [he.2.2]
    simpa using hc1
  refine yct und37 sz9 (by simp) hc1 (fun w' h => hr.below h) .no (.at _ _) (Nat.zero_le _) (by simp; omega) ?_
  intro v1 hr1
  rw [List.drop_zero, ← List.map_take] at hr1
  obtain ⟨A2, c2', rfl, hc3, hc4⟩ := (hr1 _ hdr).slice
  simp only [List.length_map, List.length_take, Nat.min_assoc, Nat.min_self] at hr1 hc3 ⊢
  refine yln und37 ?_
  refine LoopP.inv2 (fun o i w' => ∃ k : Nat, k ≤ min n.toNat ts.length ∧ i = .int .i64 k ∧ w'.ownsRow 0 99 2 o k (items (sent - ts.length + 1) (ts.take k)) ∧ Fresh w.heap.size o ∧ Below w.heap.size w w') (fun _ i _ => min n.toNat ts.length - (intOf i).toNat)
    ⟨0, by omega, rfl, World.ownsRow_nil _ _ _ _, Fresh.nil _, hdr⟩ ?_
  rintro o _ w2 ⟨k, hk, rfl, ho2, hf2, hb2⟩ J hJ
  dsimp only [List.headD_cons, List.tail_cons]
  (first | refine bi_lss_c (fun h => ?_) (fun h => ?_) | refine bi_eql_c (fun h => ?_) (fun h => ?_) | refine bi_neq_c (fun h => ?_) (fun h => ?_) | refine bi_gtr_c (fun h => ?_) (fun h => ?_) | refine bi_leq_c (fun h => ?_) (fun h => ?_) | refine bi_geq_c (fun h => ?_) (fun h => ?_) | refine bi_seql_c (fun h => ?_) (fun h => ?_) | refine bi_sneq_c (fun h => ?_) (fun h => ?_))
  · have hk' : k < min n.toNat ts.length := by omega
    have hk2 : k < ((ts.take (min n.toNat ts.length)).map Value.string).length := by simp; omega
    obtain ⟨a, rfl, hca⟩ := (hr1 _ hb2).at k hk2
    rw [List.getElem_map, List.getElem_take] at hca
    (repeat with_reducible first | refine ix1 und37 sz9 hk' ?_| refine ld one9 hca ?_|refine z_a ?_|refine z_b ?_|refine z_c ?_|refine z_d ?_|refine z_e ?_|refine z_f ?_|refine z_g ?_|refine z_h ?_|refine z_i ?_|refine z_j ?_|refine z_k ?_|refine z_l ?_|refine z_m (by omega) ?_|refine z_n (by omega) ?_|refine z_o (by omega) ?_|refine z_p (by omega) ?_|refine z_q (by omega) ?_|refine z_r (by omega) ?_|refine z_s (by omega) ?_|refine z_t (by omega) ?_|refine z_u (by omega) ?_|refine z_v (by omega) ?_|refine z_w (by omega) ?_|refine z_x (by omega) ?_|refine z_y (by omega) ?_|refine z_z (by omega) ?_|refine z_A ?_|refine z_B ?_|refine z_C ?_|refine z_D ?_|refine z_E ?_|refine z_F ?_|refine z_G ?_|refine z_H ?_|refine z_I ?_|refine z_J ?_|refine z_K (by omega) (by decide) ?_|refine z_L (by omega) (by decide) ?_|refine z_M (by omega) ?_|refine z_N (by omega) ?_|refine z_O (by omega) ?_|refine z_P ?_|refine z_Q ?_|refine z_R ?_|refine z_S ?_|refine z_T ?_|refine z_U (by decide) ?_|refine z_V (by decide) ?_)
    refine (first_spec B w2 g mark sent ts (h0.below hb2) hs hm).mono ?_
    rintro _ w3 ⟨rfl, hb3⟩
    have hb3' := below_then hb2 hb3
    (repeat with_reducible first|refine z_a ?_|refine z_b ?_|refine z_c ?_|refine z_d ?_|refine z_e ?_|refine z_f ?_|refine z_g ?_|refine z_h ?_|refine z_i ?_|refine z_j ?_|refine z_k ?_|refine z_l ?_|refine z_m (by omega) ?_|refine z_n (by omega) ?_|refine z_o (by omega) ?_|refine z_p (by omega) ?_|refine z_q (by omega) ?_|refine z_r (by omega) ?_|refine z_s (by omega) ?_|refine z_t (by omega) ?_|refine z_u (by omega) ?_|refine z_v (by omega) ?_|refine z_w (by omega) ?_|refine z_x (by omega) ?_|refine z_y (by omega) ?_|refine z_z (by omega) ?_|refine z_A ?_|refine z_B ?_|refine z_C ?_|refine z_D ?_|refine z_E ?_|refine z_F ?_|refine z_G ?_|refine z_H ?_|refine z_I ?_|refine z_J ?_|refine z_K (by omega) (by decide) ?_|refine z_L (by omega) (by decide) ?_|refine z_M (by omega) ?_|refine z_N (by omega) ?_|refine z_O (by omega) ?_|refine z_P ?_|refine z_Q ?_|refine z_R ?_|refine z_S ?_|refine z_T ?_|refine z_U (by decide) ?_|refine z_V (by decide) ?_)
    rw [show (((sent - ts.length + 1 : Nat) : Int) + (k : Int)) = ((sent - ts.length + 1 + k : Nat) : Int) from by omega]
    refine bd (cells := #[.int .i64 ((sent - ts.length + 1 + k : Nat) : Int), .string ts[k]]) (by kernel_rfl) ?_
    refine lift (v := .slice (some ⟨w3.heap.size, 0, none⟩) 1 1) (w' := w3.alloc (.cells #[.int .i64 ((sent - ts.length + 1 + k : Nat) : Int), .string ts[k]] 99)) (by kernel_rfl) ?_
    have ha := (Below.refl w3.heap.size w3).alloc (Nat.le_refl _) (.cells #[.int .i64 ((sent - ts.length + 1 + k : Nat) : Int), .string ts[k]] 99)
    have hnew := Blk.new w3 99 #[.int .i64 ((sent - ts.length + 1 + k : Nat) : Int), .string ts[k]]
    have ho3 : (w3.alloc (.cells #[.int .i64 ((sent - ts.length + 1 + k : Nat) : Int), .string ts[k]] 99)).ownsRow 0 99 2 o k (items (sent - ts.length + 1) (ts.take k)) := by
      refine World.ownsRow.alloc (World.ownsRow.kept ho2 (row := none) ⟨hb3.os, hb3.tape, hb3.output, hb3.size, fun k hk _ => hb3.block k hk⟩ (by cases h : o.ownBlock <;> simp)) _
    refine apG w.heap.size und44 inf99 (by rfl) (by decide) ho3 hf2 (below_then hb3' ha).size (m := 1) (news := [.int .i64 ((sent - ts.length + 1 + k : Nat) : Int), .string ts[k]]) (by simp) (fun j u hu => ?_) (by simp [Value.oneCell']) (by omega) (by omega) ?_
    · rw [add0, Nat.zero_add, hnew.cell]; simpa using hu
    intro v4 w4 ho4 hf4 hb4 _
    (repeat with_reducible first|refine z_a ?_|refine z_b ?_|refine z_c ?_|refine z_d ?_|refine z_e ?_|refine z_f ?_|refine z_g ?_|refine z_h ?_|refine z_i ?_|refine z_j ?_|refine z_k ?_|refine z_l ?_|refine z_m (by omega) ?_|refine z_n (by omega) ?_|refine z_o (by omega) ?_|refine z_p (by omega) ?_|refine z_q (by omega) ?_|refine z_r (by omega) ?_|refine z_s (by omega) ?_|refine z_t (by omega) ?_|refine z_u (by omega) ?_|refine z_v (by omega) ?_|refine z_w (by omega) ?_|refine z_x (by omega) ?_|refine z_y (by omega) ?_|refine z_z (by omega) ?_|refine z_A ?_|refine z_B ?_|refine z_C ?_|refine z_D ?_|refine z_E ?_|refine z_F ?_|refine z_G ?_|refine z_H ?_|refine z_I ?_|refine z_J ?_|refine z_K (by omega) (by decide) ?_|refine z_L (by omega) (by decide) ?_|refine z_M (by omega) ?_|refine z_N (by omega) ?_|refine z_O (by omega) ?_|refine z_P ?_|refine z_Q ?_|refine z_R ?_|refine z_S ?_|refine z_T ?_|refine z_U (by decide) ?_|refine z_V (by decide) ?_)
    refine hJ _ _ _ ⟨k + 1, by omega, by simp, ?_, hf4, (below_then hb3' ha).trans hb4⟩ (by simp [intOf]; omega)
    rw [List.take_succ_eq_append_getElem (by omega), items_snoc, List.length_take, Nat.min_eq_left (by omega)]
    exact ho4
  · have hke : k = min n.toNat ts.length := by omega
    (repeat with_reducible first|refine z_a ?_|refine z_b ?_|refine z_c ?_|refine z_d ?_|refine z_e ?_|refine z_f ?_|refine z_g ?_|refine z_h ?_|refine z_i ?_|refine z_j ?_|refine z_k ?_|refine z_l ?_|refine z_m (by omega) ?_|refine z_n (by omega) ?_|refine z_o (by omega) ?_|refine z_p (by omega) ?_|refine z_q (by omega) ?_|refine z_r (by omega) ?_|refine z_s (by omega) ?_|refine z_t (by omega) ?_|refine z_u (by omega) ?_|refine z_v (by omega) ?_|refine z_w (by omega) ?_|refine z_x (by omega) ?_|refine z_y (by omega) ?_|refine z_z (by omega) ?_|refine z_A ?_|refine z_B ?_|refine z_C ?_|refine z_D ?_|refine z_E ?_|refine z_F ?_|refine z_G ?_|refine z_H ?_|refine z_I ?_|refine z_J ?_|refine z_K (by omega) (by decide) ?_|refine z_L (by omega) (by decide) ?_|refine z_M (by omega) ?_|refine z_N (by omega) ?_|refine z_O (by omega) ?_|refine z_P ?_|refine z_Q ?_|refine z_R ?_|refine z_S ?_|refine z_T ?_|refine z_U (by decide) ?_|refine z_V (by decide) ?_)
    refine ⟨?_, hf2, hb2⟩
    have e : ts.take n.toNat = ts.take (min n.toNat ts.length) := by
      rcases Nat.le_total n.toNat ts.length with h | h
      · rw [Nat.min_eq_left h]
      · rw [Nat.min_eq_right h, List.take_of_length_le h, List.take_length]
    rw [e, ← hke]
    exact ho2

theorem Join_spec (v : Value) (bss : List (List UInt8)) (w : World) (hv : RdSS w v bss) (hl : bss.length ≤ 1000000) (ht : bss.flatten.length ≤ 1000000000) :
    CallP Try.prog 54 #[v] (fun r w' => Own 5 w' r (bss.flatten.map u8) ∧ Fresh w.heap.size r ∧ Below w.heap.size w w') w := by
  refine ⟨S54.calls _ _ _ ?_⟩
  unfold S54
  exact (Concat_spec v bss w hv hl ht).mono fun _ _ h => h
theorem Save_spec (B : Nat) (w : World) (g mark sent : Nat) (ts : List ByteArray) (h : EndAt B w g mark sent ts) (hmk : mark ≤ 1099511627776) (hm : sent ≤ 1099511627776) (hl : ts.length ≤ 256) (hss : ∀ s ∈ ts, s.size ≤ 65536) :
    CallP Try.prog 19 #[.pointer (some ⟨g, 0, none⟩)] (fun r w' => r = .string ⟨(Pack.num mark ++ Pack.num sent ++ Pack.texts ts).toArray⟩ ∧ Below w.heap.size w w') w := by
  obtain ⟨hB, A, c, hbl, ho, hf, hd⟩ := h
  refine ⟨S19.calls _ _ _ ?_⟩
  unfold S19
  have hdr : Below w.heap.size w w.drew := (Below.refl _ _).drew
  have c0 : ∀ w', Below w.heap.size w w' → w'.cell? ⟨g, 0, none⟩ = some (.int .i64 mark) := fun w' h => (hbl.below' h).cell 0
  have c1 : ∀ w', Below w.heap.size w w' → w'.cell? ⟨g, 1, none⟩ = some (.int .i64 sent) := fun w' h => (hbl.below' h).cell 1
  have c2 : ∀ w', Below w.heap.size w w' → w'.cell? ⟨g, 2, none⟩ = some (.slice A ts.length c) := fun w' h => (hbl.below' h).cell 2
  refine draw (Below w.heap.size w) hdr ?_
  (repeat with_reducible first | refine yfd g0 (by decide) ?_| refine yfd g1 (by decide) ?_| refine yfd g2 (by decide) ?_| refine yl1 one3 c0 ?_| refine yl1 one3 c1 ?_| refine yl1 one37 c2 ?_|refine z_W ?_|refine z_a ?_|refine z_b ?_|refine z_c ?_|refine z_d ?_|refine z_e ?_|refine z_f ?_|refine z_g ?_|refine z_h ?_|refine z_i ?_|refine z_j ?_|refine z_k ?_|refine z_l ?_|refine z_X (by omega) ?_|refine z_Y (by omega) ?_|refine z_Z (by omega) ?_|refine z_a1 (by omega) ?_|refine z_b1 (by omega) ?_|refine z_c1 (by omega) ?_|refine z_d1 (by omega) ?_|refine z_e1 (by omega) ?_|refine z_f1 (by omega) ?_|refine z_g1 (by omega) ?_|refine z_h1 (by omega) ?_|refine z_i1 (by omega) ?_|refine z_j1 (by omega) ?_|refine z_k1 (by omega) ?_|refine z_l1 ?_|refine z_m1 ?_|refine z_n1 ?_|refine z_o1 ?_|refine z_p1 ?_|refine z_q1 ?_|refine z_r1 ?_|refine z_s1 ?_|refine z_t1 ?_|refine z_u1 ?_|refine z_v1 (by omega) (by decide) ?_|refine z_w1 (by omega) (by decide) ?_|refine z_x1 (by omega) ?_|refine z_y1 (by omega) ?_|refine z_z1 (by omega) ?_|refine z_A1 ?_|refine z_B1 ?_|refine z_C1 ?_|refine z_D1 ?_|refine z_E1 ?_|refine z_F1 (by decide) ?_|refine z_G1 (by decide) ?_)
  refine act ?_
  refine (Num_spec mark hmk _).mono ?_
  rintro v1 w1 ⟨ho1, hf1, hb1⟩
  have hb1' := below_then hdr hb1
  refine ⟨Below w1.heap.size w1, Below.refl _ _, fun w' h => below_then hb1' h, ?_⟩
  refine act ?_
  refine (Num_spec sent hm _).mono ?_
  rintro v2 w2 ⟨ho2, hf2, hb2⟩
  have hb2' := below_then hb1' hb2
  refine ⟨Below w2.heap.size w2, Below.refl _ _, fun w' h => below_then hb2 h, ?_⟩
  refine act ?_
  refine (Texts_spec _ ts w2 (ho.below hb2').rd (by omega) (fun s h => by have := hss s h; omega)).mono ?_
  rintro v3 w3 ⟨ho3, hf3, hb3⟩
  have hb3' := below_then hb2' hb3
  refine ⟨Below w3.heap.size w3, Below.refl _ _, fun w' h => below_then hb3 h, ?_⟩
  have hr1 := (ho1.rdB.below hb2).below hb3
  have hr2 := ho2.rdB.below hb3
  have hr3 := ho3.rdB
  obtain ⟨A1, c1', rfl⟩ := ho1.slice
  obtain ⟨A2, c2', rfl⟩ := ho2.slice
  obtain ⟨A3, c3', rfl⟩ := ho3.slice
  simp only [List.length_map] at hr1 hr2 hr3 ⊢
  refine act ?_
  refine lift (v := .slice (some ⟨w3.heap.size, 0, none⟩) 3 3) (w' := w3.alloc (.cells #[.slice A1 (Pack.num mark).length c1', .slice A2 (Pack.num sent).length c2', .slice A3 (Pack.texts ts).length c3'] 30)) (by kernel_rfl) ?_
  have ha : Below w3.heap.size w3 (w3.alloc (.cells #[.slice A1 (Pack.num mark).length c1', .slice A2 (Pack.num sent).length c2', .slice A3 (Pack.texts ts).length c3'] 30)) := (Below.refl _ _).alloc (Nat.le_refl _) _
  have hss4 : RdSS (w3.alloc (.cells #[.slice A1 (Pack.num mark).length c1', .slice A2 (Pack.num sent).length c2', .slice A3 (Pack.texts ts).length c3'] 30)) (.slice (some ⟨w3.heap.size, 0, none⟩) 3 3) [Pack.num mark, Pack.num sent, Pack.texts ts] := by
    refine RdSS.of (cs := [.slice A1 (Pack.num mark).length c1', .slice A2 (Pack.num sent).length c2', .slice A3 (Pack.texts ts).length c3']) (Own.new w3 30 _ (by simp)).rd rfl ?_
    intro i h1 h2
    match i, h1 with
    | 0, _ => exact hr1.below ha
    | 1, _ => exact hr2.below ha
    | 2, _ => exact hr3.below ha
  generalize w3.alloc (.cells #[.slice A1 (Pack.num mark).length c1', .slice A2 (Pack.num sent).length c2', .slice A3 (Pack.texts ts).length c3'] 30) = w4 at *
  refine ⟨Below w4.heap.size w4, Below.refl _ _, fun w' h => below_then ha h, ?_⟩
  have hb4' := below_then hb3' ha
  refine act ?_
  refine (Join_spec _ _ w4 hss4 (by simp) ?_).mono ?_
  · have e1 := Pack.num_log 5 mark (by omega)
    have e2 := Pack.num_log 5 sent (by omega)
    have e3 := Pack.texts_length ts (fun s h => by have := hss s h; omega)
    simp only [List.flatten_cons, List.flatten_nil, List.append_nil, List.length_append]
    omega
  rintro v5 w5 ⟨ho5, hf5, hb5⟩
  have hb5' := below_then hb4' hb5
  refine ⟨Below w5.heap.size w5, Below.refl _ _, fun w' h => below_then hb5 h, ?_⟩
  refine ycvBS undB und5 und9 (fun w' h => ho5.rdB.below h) ?_
  refine ⟨?_, hb5'⟩
  simp
end Go.Proofs.Ythicbfopjakiiaa.E
