import Derived.Test.YtcfncjejpjjhdaaM3
import Derived.Test.YtcfncjejpjjhdaaM4
import Derived.Test.YtcfncjejpjjhdaaS3
import Derived.Lib.ConvBytes
import Derived.Test.YtcfncjejpjjhdaaM8
namespace Go.Proofs.Ytcfncjejpjjhdaa.E
open Go Go.RowKit
set_option linter.unusedSimpArgs false
set_option linter.unusedVariables false

theorem undSS : Try.prog.underlying 111 = some (.slice 84) := by kernel_rfl
theorem undB : Try.prog.underlying 84 = some (.slice 5) := by kernel_rfl
theorem undU8 : Try.prog.underlying 5 = some (.int .u8) := by kernel_rfl
theorem undI3 : Try.prog.underlying 3 = some (.int .i64) := by kernel_rfl
theorem undT9 : Try.prog.underlying 9 = some .string := by kernel_rfl
theorem szB : (Try.prog.info? 84).map (·.size) = some 1 := by kernel_rfl
theorem szU8 : (Try.prog.info? 5).map (·.size) = some 1 := by kernel_rfl
theorem oneBB : oneB Try.prog 84 = true := by kernel_rfl
theorem oneT9 : oneB Try.prog 9 = true := by kernel_rfl
theorem infU8 : (Try.prog.info? 5).map (fun i => (i.zero, i.size, i.bytes)) = some (some (.int .u8 0), 1, 1) := by kernel_rfl
theorem tot_cast (a b : Nat) : ((a : Int) + (b : Int)) = ((a + b : Nat) : Int) := by omega

theorem Grow_spec (n : Nat) (hn : n ≤ 1000000000) (w : World) : CallP Try.prog 75 #[.slice none 0 0, .int .i64 n] (fun r w' => Own 5 w' r [] ∧ Fresh w.heap.size r ∧ Below w.heap.size w w') w := by
  refine ⟨S75.calls _ _ _ _ ?_⟩
  unfold S75
  refine JoinP.plain ?_
  (repeat with_reducible first|refine z_a ?_|refine z_b ?_|refine z_c ?_|refine z_d ?_|refine z_e ?_|refine z_f ?_|refine z_g ?_|refine z_h ?_|refine z_i ?_|refine z_j ?_|refine z_k ?_|refine z_l ?_|refine z_m (by omega) ?_|refine z_n (by omega) ?_|refine z_o (by omega) ?_|refine z_p (by omega) ?_|refine z_q (by omega) ?_|refine z_r (by omega) ?_|refine z_s (by omega) ?_|refine z_t (by omega) ?_|refine z_u (by omega) ?_|refine z_v (by omega) ?_|refine z_w (by omega) ?_|refine z_x (by omega) ?_|refine z_y (by omega) ?_|refine z_z (by omega) ?_|refine z_A ?_|refine z_B ?_|refine z_C ?_|refine z_D ?_|refine z_E ?_|refine z_F ?_|refine z_G ?_|refine z_h1 ?_|refine z_i1 ?_|refine z_j1 ?_|refine z_k1 (by omega) (by decide) ?_|refine z_l1 (by omega) (by decide) ?_|refine z_m1 (by omega) ?_|refine z_n1 (by omega) ?_|refine z_o1 (by omega) ?_|refine z_p1 ?_|refine z_q1 ?_|refine z_H ?_|refine z_I ?_|refine z_r1 ?_|refine z_s1 (by decide) ?_|refine z_t1 (by decide) ?_)
  refine JoinP.plain ?_
  refine cpx undB ?_
  refine ln undB ?_
  (repeat with_reducible first|refine z_a ?_|refine z_b ?_|refine z_c ?_|refine z_d ?_|refine z_e ?_|refine z_f ?_|refine z_g ?_|refine z_h ?_|refine z_i ?_|refine z_j ?_|refine z_k ?_|refine z_l ?_|refine z_m (by omega) ?_|refine z_n (by omega) ?_|refine z_o (by omega) ?_|refine z_p (by omega) ?_|refine z_q (by omega) ?_|refine z_r (by omega) ?_|refine z_s (by omega) ?_|refine z_t (by omega) ?_|refine z_u (by omega) ?_|refine z_v (by omega) ?_|refine z_w (by omega) ?_|refine z_x (by omega) ?_|refine z_y (by omega) ?_|refine z_z (by omega) ?_|refine z_A ?_|refine z_B ?_|refine z_C ?_|refine z_D ?_|refine z_E ?_|refine z_F ?_|refine z_G ?_|refine z_h1 ?_|refine z_i1 ?_|refine z_j1 ?_|refine z_k1 (by omega) (by decide) ?_|refine z_l1 (by omega) (by decide) ?_|refine z_m1 (by omega) ?_|refine z_n1 (by omega) ?_|refine z_o1 (by omega) ?_|refine z_p1 ?_|refine z_q1 ?_|refine z_H ?_|refine z_I ?_|refine z_r1 ?_|refine z_s1 (by decide) ?_|refine z_t1 (by decide) ?_)
  (first | refine bi_lss_c (fun h => ?_) (fun h => ?_) | refine bi_eql_c (fun h => ?_) (fun h => ?_) | refine bi_neq_c (fun h => ?_) (fun h => ?_) | refine bi_gtr_c (fun h => ?_) (fun h => ?_) | refine bi_leq_c (fun h => ?_) (fun h => ?_) | refine bi_geq_c (fun h => ?_) (fun h => ?_) | refine bi_seql_c (fun h => ?_) (fun h => ?_) | refine bi_sneq_c (fun h => ?_) (fun h => ?_))
  · (repeat with_reducible first|refine z_a ?_|refine z_b ?_|refine z_c ?_|refine z_d ?_|refine z_e ?_|refine z_f ?_|refine z_g ?_|refine z_h ?_|refine z_i ?_|refine z_j ?_|refine z_k ?_|refine z_l ?_|refine z_m (by omega) ?_|refine z_n (by omega) ?_|refine z_o (by omega) ?_|refine z_p (by omega) ?_|refine z_q (by omega) ?_|refine z_r (by omega) ?_|refine z_s (by omega) ?_|refine z_t (by omega) ?_|refine z_u (by omega) ?_|refine z_v (by omega) ?_|refine z_w (by omega) ?_|refine z_x (by omega) ?_|refine z_y (by omega) ?_|refine z_z (by omega) ?_|refine z_A ?_|refine z_B ?_|refine z_C ?_|refine z_D ?_|refine z_E ?_|refine z_F ?_|refine z_G ?_|refine z_h1 ?_|refine z_i1 ?_|refine z_j1 ?_|refine z_k1 (by omega) (by decide) ?_|refine z_l1 (by omega) (by decide) ?_|refine z_m1 (by omega) ?_|refine z_n1 (by omega) ?_|refine z_o1 (by omega) ?_|refine z_p1 ?_|refine z_q1 ?_|refine z_H ?_|refine z_I ?_|refine z_r1 ?_|refine z_s1 (by decide) ?_|refine z_t1 (by decide) ?_)
    refine cpx undB ?_
    refine ofPR (pr_cut undB szU8 .no (.at _ _) .no (Nat.le_refl _) (fun h => by cases h) (Nat.le_refl _) (Nat.le_refl _) (.inl rfl)) ?_
    rw [show ((n : Int) - (((0 : Nat) : Int) - ((0 : Nat) : Int))) = (n : Int) from by omega]
    obtain ⟨i, hi, hzz⟩ := Option.map_eq_some_iff.1 infU8
    simp only [Prod.mk.injEq] at hzz
    obtain ⟨hz0, hz1, hz2⟩ := hzz
    have hr := Lib.run_append_nil_zeros (P := Try.prog) w 84 3 84 5 i (.int .u8 0) .i64 .i64 undB undI3 hi hz0 n (by omega) (by omega) (by omega) (by rw [hz2]; omega)
    refine nextV (v := .slice (some ⟨w.heap.size, 0, none⟩) n (grownCap w n 0 5)) (w' := w.drew.alloc (.cells (Builtin.zeroCells (Value.int .u8 0).cells n ++ Builtin.zeroCells (Value.int .u8 0).cells (grownCap w n 0 5 - n)) 5)) ?_ ?_
    · simp only [builtin] at hr ⊢
      rw [show sliced none 0 0 0 1 = .slice none 0 0 from rfl]
      simp [hr]
    have hge := grownCap_ge w n 0 5
    have hle := grownCap_le_maxLen w n 0 5 (by simp only [maxLen]; omega)
    refine ln undB ?_
    refine ofPR (pr_cut undB szU8 .no (.at _ _) .no (Nat.zero_le _) (fun h => by cases h) (Nat.zero_le _) (Nat.le_refl _) (.inl rfl)) ?_
    have hbl := Blk.new w.drew 5 (Builtin.zeroCells (Value.int .u8 0).cells n ++ Builtin.zeroCells (Value.int .u8 0).cells (grownCap w n 0 5 - n))
    refine ⟨?_, ?_, ?_⟩
    · rw [sliced, show (if grownCap w n 0 5 = 0 then (some (⟨w.heap.size, 0, none⟩ : Addr)) else (some (⟨w.heap.size, 0, none⟩ : Addr)).map (·.add (0 * 1))) = some ⟨w.heap.size, 0, none⟩ from by split <;> simp [Addr.add]]
      refine Own.of_blk hbl rfl (Nat.zero_le _) (by simp only [maxLen] at hle; omega) ?_ rfl
      simp [Builtin.zeroCells, Value.cells]
      omega
    · intro k hk
      simp only [List.headD_cons] at hk
      rw [sliced, show (if grownCap w n 0 5 = 0 then (some (⟨w.heap.size, 0, none⟩ : Addr)) else (some (⟨w.heap.size, 0, none⟩ : Addr)).map (·.add (0 * 1))) = some ⟨w.heap.size, 0, none⟩ from by split <;> simp [Addr.add]] at hk
      cases hk
      exact Nat.le_refl _
    · exact (Below.refl _ w).drew.alloc (Nat.le_refl _) _
  · (repeat with_reducible first|refine z_a ?_|refine z_b ?_|refine z_c ?_|refine z_d ?_|refine z_e ?_|refine z_f ?_|refine z_g ?_|refine z_h ?_|refine z_i ?_|refine z_j ?_|refine z_k ?_|refine z_l ?_|refine z_m (by omega) ?_|refine z_n (by omega) ?_|refine z_o (by omega) ?_|refine z_p (by omega) ?_|refine z_q (by omega) ?_|refine z_r (by omega) ?_|refine z_s (by omega) ?_|refine z_t (by omega) ?_|refine z_u (by omega) ?_|refine z_v (by omega) ?_|refine z_w (by omega) ?_|refine z_x (by omega) ?_|refine z_y (by omega) ?_|refine z_z (by omega) ?_|refine z_A ?_|refine z_B ?_|refine z_C ?_|refine z_D ?_|refine z_E ?_|refine z_F ?_|refine z_G ?_|refine z_h1 ?_|refine z_i1 ?_|refine z_j1 ?_|refine z_k1 (by omega) (by decide) ?_|refine z_l1 (by omega) (by decide) ?_|refine z_m1 (by omega) ?_|refine z_n1 (by omega) ?_|refine z_o1 (by omega) ?_|refine z_p1 ?_|refine z_q1 ?_|refine z_H ?_|refine z_I ?_|refine z_r1 ?_|refine z_s1 (by decide) ?_|refine z_t1 (by decide) ?_)
    exact ⟨Own.nil 5 w, Fresh.nil _, Below.refl _ w⟩

theorem Concat_spec (v : Value) (bss : List (List UInt8)) (w : World) (hv : RdSS w v bss) (hl : bss.length ≤ 1000000) (ht : bss.flatten.length ≤ 1000000000) :
    CallP Try.prog 66 #[v] (fun r w' => Own 5 w' r (bss.flatten.map u8) ∧ Fresh w.heap.size r ∧ Below w.heap.size w w') w := by
  obtain ⟨A, c, rfl, hc1, hc2⟩ := hv.slice
  refine ⟨S66.calls _ _ _ ?_⟩
  unfold S66
  refine ln undSS ?_
  refine LoopP.inv2 (fun x i w' => ∃ k : Nat, k ≤ bss.length ∧ i = .int .i64 k ∧ x = .int .i64 ((bss.take k).flatten.length : Nat) ∧ w = w') (fun _ i _ => bss.length - (intOf i).toNat) ⟨0, by omega, rfl, rfl, rfl⟩ ?_
  rintro _ _ _ ⟨k, hk, rfl, rfl, rfl⟩ J hJ
  dsimp only [List.headD_cons, List.tail_cons]
  have hk1 := Frame.flat_le bss k
  (repeat with_reducible first|refine z_a ?_|refine z_b ?_|refine z_c ?_|refine z_d ?_|refine z_e ?_|refine z_f ?_|refine z_g ?_|refine z_h ?_|refine z_i ?_|refine z_j ?_|refine z_k ?_|refine z_l ?_|refine z_m (by omega) ?_|refine z_n (by omega) ?_|refine z_o (by omega) ?_|refine z_p (by omega) ?_|refine z_q (by omega) ?_|refine z_r (by omega) ?_|refine z_s (by omega) ?_|refine z_t (by omega) ?_|refine z_u (by omega) ?_|refine z_v (by omega) ?_|refine z_w (by omega) ?_|refine z_x (by omega) ?_|refine z_y (by omega) ?_|refine z_z (by omega) ?_|refine z_A ?_|refine z_B ?_|refine z_C ?_|refine z_D ?_|refine z_E ?_|refine z_F ?_|refine z_G ?_|refine z_h1 ?_|refine z_i1 ?_|refine z_j1 ?_|refine z_k1 (by omega) (by decide) ?_|refine z_l1 (by omega) (by decide) ?_|refine z_m1 (by omega) ?_|refine z_n1 (by omega) ?_|refine z_o1 (by omega) ?_|refine z_p1 ?_|refine z_q1 ?_|refine z_H ?_|refine z_I ?_|refine z_r1 ?_|refine z_s1 (by decide) ?_|refine z_t1 (by decide) ?_)
  (first | refine bi_lss_c (fun h => ?_) (fun h => ?_) | refine bi_eql_c (fun h => ?_) (fun h => ?_) | refine bi_neq_c (fun h => ?_) (fun h => ?_) | refine bi_gtr_c (fun h => ?_) (fun h => ?_) | refine bi_leq_c (fun h => ?_) (fun h => ?_) | refine bi_geq_c (fun h => ?_) (fun h => ?_) | refine bi_seql_c (fun h => ?_) (fun h => ?_) | refine bi_sneq_c (fun h => ?_) (fun h => ?_))
  · have hk' : k < bss.length := by omega
    have hk2 := Frame.flat_le bss (k + 1)
    rw [Frame.flat_take bss k hk', List.length_append] at hk2
    obtain ⟨a, A', n', c', rfl, hca, hrb⟩ := hv.at k hk'
    obtain ⟨A2, c2, he, _⟩ := hrb.slice
    cases he
    (repeat with_reducible first|refine z_a ?_|refine z_b ?_|refine z_c ?_|refine z_d ?_|refine z_e ?_|refine z_f ?_|refine z_g ?_|refine z_h ?_|refine z_i ?_|refine z_j ?_|refine z_k ?_|refine z_l ?_|refine z_m (by omega) ?_|refine z_n (by omega) ?_|refine z_o (by omega) ?_|refine z_p (by omega) ?_|refine z_q (by omega) ?_|refine z_r (by omega) ?_|refine z_s (by omega) ?_|refine z_t (by omega) ?_|refine z_u (by omega) ?_|refine z_v (by omega) ?_|refine z_w (by omega) ?_|refine z_x (by omega) ?_|refine z_y (by omega) ?_|refine z_z (by omega) ?_|refine z_A ?_|refine z_B ?_|refine z_C ?_|refine z_D ?_|refine z_E ?_|refine z_F ?_|refine z_G ?_|refine z_h1 ?_|refine z_i1 ?_|refine z_j1 ?_|refine z_k1 (by omega) (by decide) ?_|refine z_l1 (by omega) (by decide) ?_|refine z_m1 (by omega) ?_|refine z_n1 (by omega) ?_|refine z_o1 (by omega) ?_|refine z_p1 ?_|refine z_q1 ?_|refine z_H ?_|refine z_I ?_|refine z_r1 ?_|refine z_s1 (by decide) ?_|refine z_t1 (by decide) ?_)
    refine JoinP.plain ?_
    (repeat with_reducible first | refine ix1 undSS szB hk' ?_| refine ld oneBB hca ?_| refine ln undB ?_|refine z_a ?_|refine z_b ?_|refine z_c ?_|refine z_d ?_|refine z_e ?_|refine z_f ?_|refine z_g ?_|refine z_h ?_|refine z_i ?_|refine z_j ?_|refine z_k ?_|refine z_l ?_|refine z_m (by omega) ?_|refine z_n (by omega) ?_|refine z_o (by omega) ?_|refine z_p (by omega) ?_|refine z_q (by omega) ?_|refine z_r (by omega) ?_|refine z_s (by omega) ?_|refine z_t (by omega) ?_|refine z_u (by omega) ?_|refine z_v (by omega) ?_|refine z_w (by omega) ?_|refine z_x (by omega) ?_|refine z_y (by omega) ?_|refine z_z (by omega) ?_|refine z_A ?_|refine z_B ?_|refine z_C ?_|refine z_D ?_|refine z_E ?_|refine z_F ?_|refine z_G ?_|refine z_h1 ?_|refine z_i1 ?_|refine z_j1 ?_|refine z_k1 (by omega) (by decide) ?_|refine z_l1 (by omega) (by decide) ?_|refine z_m1 (by omega) ?_|refine z_n1 (by omega) ?_|refine z_o1 (by omega) ?_|refine z_p1 ?_|refine z_q1 ?_|refine z_H ?_|refine z_I ?_|refine z_r1 ?_|refine z_s1 (by decide) ?_|refine z_t1 (by decide) ?_)
    dsimp only [List.headD_cons, List.tail_cons]
    (repeat with_reducible first|refine z_a ?_|refine z_b ?_|refine z_c ?_|refine z_d ?_|refine z_e ?_|refine z_f ?_|refine z_g ?_|refine z_h ?_|refine z_i ?_|refine z_j ?_|refine z_k ?_|refine z_l ?_|refine z_m (by omega) ?_|refine z_n (by omega) ?_|refine z_o (by omega) ?_|refine z_p (by omega) ?_|refine z_q (by omega) ?_|refine z_r (by omega) ?_|refine z_s (by omega) ?_|refine z_t (by omega) ?_|refine z_u (by omega) ?_|refine z_v (by omega) ?_|refine z_w (by omega) ?_|refine z_x (by omega) ?_|refine z_y (by omega) ?_|refine z_z (by omega) ?_|refine z_A ?_|refine z_B ?_|refine z_C ?_|refine z_D ?_|refine z_E ?_|refine z_F ?_|refine z_G ?_|refine z_h1 ?_|refine z_i1 ?_|refine z_j1 ?_|refine z_k1 (by omega) (by decide) ?_|refine z_l1 (by omega) (by decide) ?_|refine z_m1 (by omega) ?_|refine z_n1 (by omega) ?_|refine z_o1 (by omega) ?_|refine z_p1 ?_|refine z_q1 ?_|refine z_H ?_|refine z_I ?_|refine z_r1 ?_|refine z_s1 (by decide) ?_|refine z_t1 (by decide) ?_)
    refine hJ _ _ _ ⟨k + 1, by omega, by simp, ?_, rfl⟩ (by simp [intOf]; omega)
    rw [Frame.flat_take bss k hk', List.length_append, tot_cast]
  · have hkl : k = bss.length := by omega
    subst hkl
    (repeat with_reducible first|refine z_a ?_|refine z_b ?_|refine z_c ?_|refine z_d ?_|refine z_e ?_|refine z_f ?_|refine z_g ?_|refine z_h ?_|refine z_i ?_|refine z_j ?_|refine z_k ?_|refine z_l ?_|refine z_m (by omega) ?_|refine z_n (by omega) ?_|refine z_o (by omega) ?_|refine z_p (by omega) ?_|refine z_q (by omega) ?_|refine z_r (by omega) ?_|refine z_s (by omega) ?_|refine z_t (by omega) ?_|refine z_u (by omega) ?_|refine z_v (by omega) ?_|refine z_w (by omega) ?_|refine z_x (by omega) ?_|refine z_y (by omega) ?_|refine z_z (by omega) ?_|refine z_A ?_|refine z_B ?_|refine z_C ?_|refine z_D ?_|refine z_E ?_|refine z_F ?_|refine z_G ?_|refine z_h1 ?_|refine z_i1 ?_|refine z_j1 ?_|refine z_k1 (by omega) (by decide) ?_|refine z_l1 (by omega) (by decide) ?_|refine z_m1 (by omega) ?_|refine z_n1 (by omega) ?_|refine z_o1 (by omega) ?_|refine z_p1 ?_|refine z_q1 ?_|refine z_H ?_|refine z_I ?_|refine z_r1 ?_|refine z_s1 (by decide) ?_|refine z_t1 (by decide) ?_)
    rw [List.take_length]
    refine (Grow_spec _ ht w).mono ?_
    rintro v1 w1 ⟨ho1, hf1, hb1⟩
    refine ln undSS ?_
    refine LoopP.inv2 (fun x i w' => ∃ k : Nat, k ≤ bss.length ∧ i = .int .i64 k ∧ Own 5 w' x ((bss.take k).flatten.map u8) ∧ Fresh w.heap.size x ∧ Below w.heap.size w w') (fun _ i _ => bss.length - (intOf i).toNat) ⟨0, by omega, rfl, by simpa using ho1, hf1, hb1⟩ ?_
    rintro x _ w2 ⟨k, hk, rfl, ho2, hf2, hb2⟩ J' hJ'
    dsimp only [List.headD_cons, List.tail_cons]
    (repeat with_reducible first|refine z_a ?_|refine z_b ?_|refine z_c ?_|refine z_d ?_|refine z_e ?_|refine z_f ?_|refine z_g ?_|refine z_h ?_|refine z_i ?_|refine z_j ?_|refine z_k ?_|refine z_l ?_|refine z_m (by omega) ?_|refine z_n (by omega) ?_|refine z_o (by omega) ?_|refine z_p (by omega) ?_|refine z_q (by omega) ?_|refine z_r (by omega) ?_|refine z_s (by omega) ?_|refine z_t (by omega) ?_|refine z_u (by omega) ?_|refine z_v (by omega) ?_|refine z_w (by omega) ?_|refine z_x (by omega) ?_|refine z_y (by omega) ?_|refine z_z (by omega) ?_|refine z_A ?_|refine z_B ?_|refine z_C ?_|refine z_D ?_|refine z_E ?_|refine z_F ?_|refine z_G ?_|refine z_h1 ?_|refine z_i1 ?_|refine z_j1 ?_|refine z_k1 (by omega) (by decide) ?_|refine z_l1 (by omega) (by decide) ?_|refine z_m1 (by omega) ?_|refine z_n1 (by omega) ?_|refine z_o1 (by omega) ?_|refine z_p1 ?_|refine z_q1 ?_|refine z_H ?_|refine z_I ?_|refine z_r1 ?_|refine z_s1 (by decide) ?_|refine z_t1 (by decide) ?_)
    (first | refine bi_lss_c (fun h => ?_) (fun h => ?_) | refine bi_eql_c (fun h => ?_) (fun h => ?_) | refine bi_neq_c (fun h => ?_) (fun h => ?_) | refine bi_gtr_c (fun h => ?_) (fun h => ?_) | refine bi_leq_c (fun h => ?_) (fun h => ?_) | refine bi_geq_c (fun h => ?_) (fun h => ?_) | refine bi_seql_c (fun h => ?_) (fun h => ?_) | refine bi_sneq_c (fun h => ?_) (fun h => ?_))
    · have hk' : k < bss.length := by omega
      have hk2 := Frame.flat_le bss (k + 1)
      rw [Frame.flat_take bss k hk', List.length_append] at hk2
      obtain ⟨a, A', n', c', rfl, hca, hrb⟩ := (hv.below hb2).at k hk'
      (repeat with_reducible first | refine ix1 undSS szB hk' ?_| refine ld oneBB hca ?_|refine z_a ?_|refine z_b ?_|refine z_c ?_|refine z_d ?_|refine z_e ?_|refine z_f ?_|refine z_g ?_|refine z_h ?_|refine z_i ?_|refine z_j ?_|refine z_k ?_|refine z_l ?_|refine z_m (by omega) ?_|refine z_n (by omega) ?_|refine z_o (by omega) ?_|refine z_p (by omega) ?_|refine z_q (by omega) ?_|refine z_r (by omega) ?_|refine z_s (by omega) ?_|refine z_t (by omega) ?_|refine z_u (by omega) ?_|refine z_v (by omega) ?_|refine z_w (by omega) ?_|refine z_x (by omega) ?_|refine z_y (by omega) ?_|refine z_z (by omega) ?_|refine z_A ?_|refine z_B ?_|refine z_C ?_|refine z_D ?_|refine z_E ?_|refine z_F ?_|refine z_G ?_|refine z_h1 ?_|refine z_i1 ?_|refine z_j1 ?_|refine z_k1 (by omega) (by decide) ?_|refine z_l1 (by omega) (by decide) ?_|refine z_m1 (by omega) ?_|refine z_n1 (by omega) ?_|refine z_o1 (by omega) ?_|refine z_p1 ?_|refine z_q1 ?_|refine z_H ?_|refine z_I ?_|refine z_r1 ?_|refine z_s1 (by decide) ?_|refine z_t1 (by decide) ?_)
      refine apF w.heap.size undB infU8 (by rfl) (by decide) ho2 hf2 hb2.size hrb (u8_one _) (by simp only [List.length_map]; omega) ?_
      intro v3 w3 ho3 hf3 hb3 _
      (repeat with_reducible first|refine z_a ?_|refine z_b ?_|refine z_c ?_|refine z_d ?_|refine z_e ?_|refine z_f ?_|refine z_g ?_|refine z_h ?_|refine z_i ?_|refine z_j ?_|refine z_k ?_|refine z_l ?_|refine z_m (by omega) ?_|refine z_n (by omega) ?_|refine z_o (by omega) ?_|refine z_p (by omega) ?_|refine z_q (by omega) ?_|refine z_r (by omega) ?_|refine z_s (by omega) ?_|refine z_t (by omega) ?_|refine z_u (by omega) ?_|refine z_v (by omega) ?_|refine z_w (by omega) ?_|refine z_x (by omega) ?_|refine z_y (by omega) ?_|refine z_z (by omega) ?_|refine z_A ?_|refine z_B ?_|refine z_C ?_|refine z_D ?_|refine z_E ?_|refine z_F ?_|refine z_G ?_|refine z_h1 ?_|refine z_i1 ?_|refine z_j1 ?_|refine z_k1 (by omega) (by decide) ?_|refine z_l1 (by omega) (by decide) ?_|refine z_m1 (by omega) ?_|refine z_n1 (by omega) ?_|refine z_o1 (by omega) ?_|refine z_p1 ?_|refine z_q1 ?_|refine z_H ?_|refine z_I ?_|refine z_r1 ?_|refine z_s1 (by decide) ?_|refine z_t1 (by decide) ?_)
      refine hJ' _ _ _ ⟨k + 1, by omega, by simp, ?_, hf3, hb2.trans hb3⟩ (by simp [intOf]; omega)
      rw [Frame.flat_take bss k hk', List.map_append]
      exact ho3
    · have hkl : k = bss.length := by omega
      subst hkl
      (repeat with_reducible first|refine z_a ?_|refine z_b ?_|refine z_c ?_|refine z_d ?_|refine z_e ?_|refine z_f ?_|refine z_g ?_|refine z_h ?_|refine z_i ?_|refine z_j ?_|refine z_k ?_|refine z_l ?_|refine z_m (by omega) ?_|refine z_n (by omega) ?_|refine z_o (by omega) ?_|refine z_p (by omega) ?_|refine z_q (by omega) ?_|refine z_r (by omega) ?_|refine z_s (by omega) ?_|refine z_t (by omega) ?_|refine z_u (by omega) ?_|refine z_v (by omega) ?_|refine z_w (by omega) ?_|refine z_x (by omega) ?_|refine z_y (by omega) ?_|refine z_z (by omega) ?_|refine z_A ?_|refine z_B ?_|refine z_C ?_|refine z_D ?_|refine z_E ?_|refine z_F ?_|refine z_G ?_|refine z_h1 ?_|refine z_i1 ?_|refine z_j1 ?_|refine z_k1 (by omega) (by decide) ?_|refine z_l1 (by omega) (by decide) ?_|refine z_m1 (by omega) ?_|refine z_n1 (by omega) ?_|refine z_o1 (by omega) ?_|refine z_p1 ?_|refine z_q1 ?_|refine z_H ?_|refine z_I ?_|refine z_r1 ?_|refine z_s1 (by decide) ?_|refine z_t1 (by decide) ?_)
      rw [List.take_length] at ho2
      exact ⟨ho2, hf2, hb2⟩

theorem undTx : Try.prog.underlying 73 = some (.slice 9) := by kernel_rfl
theorem szT9 : (Try.prog.info? 9).map (·.size) = some 1 := by kernel_rfl
theorem infT9 : (Try.prog.info? 9).map (fun i => (i.zero, i.size, i.bytes)) = some (some (.string ⟨#[]⟩), 1, 16) := by kernel_rfl

section
variable {K : Value → World → Prop} {w : World} {x y : Operand} {m : Nat}
theorem cv35 (k : K (.int .u8 ((UInt8.ofNat m).toNat : Int)) w) : LiftP Try.prog (convert 3 5 (.int .i64 m)) K w :=
  cv undI3 undU8 (by rw [Be4.wrap_u8]; exact k)
theorem or128 {c : UInt8} (k : K (.int .u8 ((c ||| 128).toNat : Int)) w) : LiftP Try.prog (binS .or 5 x y (.int .u8 c.toNat) (.int .u8 128)) K w :=
  bi_or (by rw [show (128 : Int) = ((128 : UInt8).toNat : Int) from rfl, or_u8]; exact k)
theorem shr7 (k : K (.int .i64 ((m / 128 : Nat) : Int)) w) : LiftP Try.prog (binS .shr 3 x y (.int .i64 m) (.int .u64 7)) K w :=
  bi_shr (by omega) (by decide) (by rw [show ((m : Int) / 2 ^ (7 : Int).toNat) = ((m / 128 : Nat) : Int) from by
                                      have : (2 : Int) ^ (7 : Int).toNat = 128 := by decide
                                      rw [this]; omega]; exact k)
end
theorem Num_spec (n : Nat) (hn : n ≤ 1099511627776) (w : World) : CallP Try.prog 48 #[.int .i64 n] (fun r w' => Own 5 w' r ((Pack.num n).map u8) ∧ Fresh w.heap.size r ∧ Below w.heap.size w w') w := by
  refine ⟨S48.calls _ _ _ ?_⟩
  unfold S48
  (repeat with_reducible first|refine z_a ?_|refine z_b ?_|refine z_c ?_|refine z_d ?_|refine z_e ?_|refine z_f ?_|refine z_g ?_|refine z_h ?_|refine z_i ?_|refine z_j ?_|refine z_k ?_|refine z_l ?_|refine z_m (by omega) ?_|refine z_n (by omega) ?_|refine z_o (by omega) ?_|refine z_p (by omega) ?_|refine z_q (by omega) ?_|refine z_r (by omega) ?_|refine z_s (by omega) ?_|refine z_t (by omega) ?_|refine z_u (by omega) ?_|refine z_v (by omega) ?_|refine z_w (by omega) ?_|refine z_x (by omega) ?_|refine z_y (by omega) ?_|refine z_z (by omega) ?_|refine z_A ?_|refine z_B ?_|refine z_C ?_|refine z_D ?_|refine z_E ?_|refine z_F ?_|refine z_G ?_|refine z_h1 ?_|refine z_i1 ?_|refine z_j1 ?_|refine z_k1 (by omega) (by decide) ?_|refine z_l1 (by omega) (by decide) ?_|refine z_m1 (by omega) ?_|refine z_n1 (by omega) ?_|refine z_o1 (by omega) ?_|refine z_p1 ?_|refine z_q1 ?_|refine z_H ?_|refine z_I ?_|refine z_r1 ?_|refine z_s1 (by decide) ?_|refine z_t1 (by decide) ?_)
  refine LoopP.inv2 (fun x o w' => ∃ (m : Nat) (pre : List UInt8), x = .int .i64 m ∧ Pack.num n = pre ++ Pack.num m ∧ pre.length + m ≤ n ∧ Own 5 w' o (pre.map u8) ∧ Fresh w.heap.size o ∧ Below w.heap.size w w') (fun x _ _ => (intOf x).toNat)
    ⟨n, [], rfl, rfl, by simp, Own.nil 5 w, Fresh.nil _, Below.refl _ w⟩ ?_
  rintro _ o w1 ⟨m, pre, rfl, hnum, hlen, ho, hf, hb⟩ J hJ
  dsimp only [List.headD_cons, List.tail_cons]
  (first | refine bi_lss_c (fun h => ?_) (fun h => ?_) | refine bi_eql_c (fun h => ?_) (fun h => ?_) | refine bi_neq_c (fun h => ?_) (fun h => ?_) | refine bi_gtr_c (fun h => ?_) (fun h => ?_) | refine bi_leq_c (fun h => ?_) (fun h => ?_) | refine bi_geq_c (fun h => ?_) (fun h => ?_) | refine bi_seql_c (fun h => ?_) (fun h => ?_) | refine bi_sneq_c (fun h => ?_) (fun h => ?_))
  · (repeat with_reducible first | refine cv35 ?_| refine or128 ?_| refine shr7 ?_|refine z_a ?_|refine z_b ?_|refine z_c ?_|refine z_d ?_|refine z_e ?_|refine z_f ?_|refine z_g ?_|refine z_h ?_|refine z_i ?_|refine z_j ?_|refine z_k ?_|refine z_l ?_|refine z_m (by omega) ?_|refine z_n (by omega) ?_|refine z_o (by omega) ?_|refine z_p (by omega) ?_|refine z_q (by omega) ?_|refine z_r (by omega) ?_|refine z_s (by omega) ?_|refine z_t (by omega) ?_|refine z_u (by omega) ?_|refine z_v (by omega) ?_|refine z_w (by omega) ?_|refine z_x (by omega) ?_|refine z_y (by omega) ?_|refine z_z (by omega) ?_|refine z_A ?_|refine z_B ?_|refine z_C ?_|refine z_D ?_|refine z_E ?_|refine z_F ?_|refine z_G ?_|refine z_h1 ?_|refine z_i1 ?_|refine z_j1 ?_|refine z_k1 (by omega) (by decide) ?_|refine z_l1 (by omega) (by decide) ?_|refine z_m1 (by omega) ?_|refine z_n1 (by omega) ?_|refine z_o1 (by omega) ?_|refine z_p1 ?_|refine z_q1 ?_|refine z_H ?_|refine z_I ?_|refine z_r1 ?_|refine z_s1 (by decide) ?_|refine z_t1 (by decide) ?_)
    refine lift (v := .slice (some ⟨w1.heap.size, 0, none⟩) 1 1) (w' := w1.alloc (.cells #[.int .u8 ((UInt8.ofNat m ||| 128).toNat : Int)] 5)) (by kernel_rfl) ?_
    have ha := (Below.refl w1.heap.size w1).alloc (Nat.le_refl _) (.cells #[.int .u8 ((UInt8.ofNat m ||| 128).toNat : Int)] 5)
    refine apF w.heap.size undB infU8 (by rfl) (by decide) (ho.below ha) hf (below_then hb ha).size (Own.new w1 5 [.int .u8 ((UInt8.ofNat m ||| 128).toNat : Int)] (by simp)).rd (by simp [Value.oneCell']) (by simp; omega) ?_
    intro v2 w2 ho2 hf2 hb2 _
    (repeat with_reducible first | refine shr7 ?_|refine z_a ?_|refine z_b ?_|refine z_c ?_|refine z_d ?_|refine z_e ?_|refine z_f ?_|refine z_g ?_|refine z_h ?_|refine z_i ?_|refine z_j ?_|refine z_k ?_|refine z_l ?_|refine z_m (by omega) ?_|refine z_n (by omega) ?_|refine z_o (by omega) ?_|refine z_p (by omega) ?_|refine z_q (by omega) ?_|refine z_r (by omega) ?_|refine z_s (by omega) ?_|refine z_t (by omega) ?_|refine z_u (by omega) ?_|refine z_v (by omega) ?_|refine z_w (by omega) ?_|refine z_x (by omega) ?_|refine z_y (by omega) ?_|refine z_z (by omega) ?_|refine z_A ?_|refine z_B ?_|refine z_C ?_|refine z_D ?_|refine z_E ?_|refine z_F ?_|refine z_G ?_|refine z_h1 ?_|refine z_i1 ?_|refine z_j1 ?_|refine z_k1 (by omega) (by decide) ?_|refine z_l1 (by omega) (by decide) ?_|refine z_m1 (by omega) ?_|refine z_n1 (by omega) ?_|refine z_o1 (by omega) ?_|refine z_p1 ?_|refine z_q1 ?_|refine z_H ?_|refine z_I ?_|refine z_r1 ?_|refine z_s1 (by decide) ?_|refine z_t1 (by decide) ?_)
    refine hJ _ _ _ ⟨m / 128, pre ++ [UInt8.ofNat m ||| 128], rfl, ?_, by simp; omega, by rw [List.map_append]; exact ho2, hf2, (below_then hb ha).trans hb2⟩ (by simp [intOf]; omega)
    rw [hnum, Pack.num_big m (by omega)]
    simp
  · (repeat with_reducible first | refine cv35 ?_|refine z_a ?_|refine z_b ?_|refine z_c ?_|refine z_d ?_|refine z_e ?_|refine z_f ?_|refine z_g ?_|refine z_h ?_|refine z_i ?_|refine z_j ?_|refine z_k ?_|refine z_l ?_|refine z_m (by omega) ?_|refine z_n (by omega) ?_|refine z_o (by omega) ?_|refine z_p (by omega) ?_|refine z_q (by omega) ?_|refine z_r (by omega) ?_|refine z_s (by omega) ?_|refine z_t (by omega) ?_|refine z_u (by omega) ?_|refine z_v (by omega) ?_|refine z_w (by omega) ?_|refine z_x (by omega) ?_|refine z_y (by omega) ?_|refine z_z (by omega) ?_|refine z_A ?_|refine z_B ?_|refine z_C ?_|refine z_D ?_|refine z_E ?_|refine z_F ?_|refine z_G ?_|refine z_h1 ?_|refine z_i1 ?_|refine z_j1 ?_|refine z_k1 (by omega) (by decide) ?_|refine z_l1 (by omega) (by decide) ?_|refine z_m1 (by omega) ?_|refine z_n1 (by omega) ?_|refine z_o1 (by omega) ?_|refine z_p1 ?_|refine z_q1 ?_|refine z_H ?_|refine z_I ?_|refine z_r1 ?_|refine z_s1 (by decide) ?_|refine z_t1 (by decide) ?_)
    refine lift (v := .slice (some ⟨w1.heap.size, 0, none⟩) 1 1) (w' := w1.alloc (.cells #[.int .u8 ((UInt8.ofNat m).toNat : Int)] 5)) (by kernel_rfl) ?_
    have ha := (Below.refl w1.heap.size w1).alloc (Nat.le_refl _) (.cells #[.int .u8 ((UInt8.ofNat m).toNat : Int)] 5)
    refine apF w.heap.size undB infU8 (by rfl) (by decide) (ho.below ha) hf (below_then hb ha).size (Own.new w1 5 [.int .u8 ((UInt8.ofNat m).toNat : Int)] (by simp)).rd (by simp [Value.oneCell']) (by simp; omega) ?_
    intro v2 w2 ho2 hf2 hb2 _
    refine ⟨?_, hf2, (below_then hb ha).trans hb2⟩
    rw [hnum, Pack.num_small m (by omega), List.map_append]
    exact ho2
theorem Text_spec (s : ByteArray) (hs : s.size ≤ 1000000) (w : World) : CallP Try.prog 67 #[.string s] (fun r w' => Own 5 w' r ((Pack.text s).map u8) ∧ Below w.heap.size w w') w := by
  have hsz : s.data.toList.length = s.size := by rw [Array.length_toList]; rfl
  refine ⟨S67.calls _ _ _ ?_⟩
  unfold S67
  refine lns undT9 ?_
  refine (Num_spec s.size (by omega) w).mono ?_
  rintro v1 w1 ⟨ho1, hf1, hb1⟩
  have hnl := Pack.num_length s.size
  refine apS w.heap.size undB undT9 infU8 ho1 hf1 hb1.size (by omega) ?_
  intro v2 w2 ho2 hb2
  refine ⟨?_, hb1.trans hb2⟩
  rw [Pack.text, hsz]
  exact ho2
theorem Texts_spec (v : Value) (ts : List ByteArray) (w : World) (hv : Rd w v (ts.map Value.string)) (hl : ts.length ≤ 1000000) (hs : ∀ s ∈ ts, s.size ≤ 100000) :
    CallP Try.prog 50 #[v] (fun r w' => Own 5 w' r ((Pack.texts ts).map u8) ∧ Fresh w.heap.size r ∧ Below w.heap.size w w') w := by
  obtain ⟨A, c, rfl, hc1, hc2⟩ := hv.slice
  simp only [List.length_map] at hc1 hv ⊢
  have hlen : ∀ k, k ≤ ts.length → ((ts.take k).map Pack.text).flatten.length ≤ k * 200001 := by
    intro k
    induction k with
    | zero => intro _; simp
    | succ k ih =>
      intro hk
      rw [List.take_succ_eq_append_getElem (by omega), List.map_append, List.flatten_append, List.length_append]
      have h1 := ih (by omega)
      have h2 := hs ts[k] (List.getElem_mem _)
      have h3 : (Pack.text ts[k]).length ≤ 200001 := by
        have := Pack.num_length ts[k].data.toList.length
        have e : ts[k].data.toList.length = ts[k].size := by rw [Array.length_toList]; rfl
        rw [Pack.text, List.length_append]
        omega
      simp only [List.map_cons, List.map_nil, List.flatten_cons, List.flatten_nil, List.append_nil]
      omega
  refine ⟨S50.calls _ _ _ ?_⟩
  unfold S50
  refine ln undTx ?_
  refine (Num_spec ts.length (by omega) w).mono ?_
  rintro v1 w1 ⟨ho1, hf1, hb1⟩
  have hnl := Pack.num_length ts.length
  refine ln undTx ?_
  refine LoopP.inv2 (fun o i w' => ∃ k : Nat, k ≤ ts.length ∧ i = .int .i64 k ∧ Own 5 w' o ((Pack.num ts.length ++ ((ts.take k).map Pack.text).flatten).map u8) ∧ Fresh w.heap.size o ∧ Below w.heap.size w w') (fun _ i _ => ts.length - (intOf i).toNat)
    ⟨0, by omega, rfl, by simpa using ho1, hf1, hb1⟩ ?_
  rintro o _ w2 ⟨k, hk, rfl, ho2, hf2, hb2⟩ J hJ
  dsimp only [List.headD_cons, List.tail_cons]
  (first | refine bi_lss_c (fun h => ?_) (fun h => ?_) | refine bi_eql_c (fun h => ?_) (fun h => ?_) | refine bi_neq_c (fun h => ?_) (fun h => ?_) | refine bi_gtr_c (fun h => ?_) (fun h => ?_) | refine bi_leq_c (fun h => ?_) (fun h => ?_) | refine bi_geq_c (fun h => ?_) (fun h => ?_) | refine bi_seql_c (fun h => ?_) (fun h => ?_) | refine bi_sneq_c (fun h => ?_) (fun h => ?_))
  · have hk' : k < ts.length := by omega
    have hk'' : k < (ts.map Value.string).length := by simpa using hk'
    obtain ⟨a, rfl, hca⟩ := (hv.below hb2).at k hk''
    rw [List.getElem_map] at hca
    have h1 := hlen k hk
    have h2 := hs ts[k] (List.getElem_mem _)
    (repeat with_reducible first | refine ix1 undTx szT9 hk' ?_| refine ld oneT9 hca ?_|refine z_a ?_|refine z_b ?_|refine z_c ?_|refine z_d ?_|refine z_e ?_|refine z_f ?_|refine z_g ?_|refine z_h ?_|refine z_i ?_|refine z_j ?_|refine z_k ?_|refine z_l ?_|refine z_m (by omega) ?_|refine z_n (by omega) ?_|refine z_o (by omega) ?_|refine z_p (by omega) ?_|refine z_q (by omega) ?_|refine z_r (by omega) ?_|refine z_s (by omega) ?_|refine z_t (by omega) ?_|refine z_u (by omega) ?_|refine z_v (by omega) ?_|refine z_w (by omega) ?_|refine z_x (by omega) ?_|refine z_y (by omega) ?_|refine z_z (by omega) ?_|refine z_A ?_|refine z_B ?_|refine z_C ?_|refine z_D ?_|refine z_E ?_|refine z_F ?_|refine z_G ?_|refine z_h1 ?_|refine z_i1 ?_|refine z_j1 ?_|refine z_k1 (by omega) (by decide) ?_|refine z_l1 (by omega) (by decide) ?_|refine z_m1 (by omega) ?_|refine z_n1 (by omega) ?_|refine z_o1 (by omega) ?_|refine z_p1 ?_|refine z_q1 ?_|refine z_H ?_|refine z_I ?_|refine z_r1 ?_|refine z_s1 (by decide) ?_|refine z_t1 (by decide) ?_)
    refine (Text_spec ts[k] (by omega) w2).mono ?_
    rintro v3 w3 ⟨ho3, hb3⟩
    have hb3' := below_then hb2 hb3
    have h3 : (Pack.text ts[k]).length ≤ 200001 := by
      have := Pack.num_length ts[k].data.toList.length
      have e : ts[k].data.toList.length = ts[k].size := by rw [Array.length_toList]; rfl
      rw [Pack.text, List.length_append]
      omega
    refine apF w.heap.size undB infU8 (by rfl) (by decide) (ho2.below hb3) hf2 hb3'.size ho3.rd (u8_one _) (by simp only [List.length_map, List.length_append]; omega) ?_
    intro v4 w4 ho4 hf4 hb4 _
    (repeat with_reducible first|refine z_a ?_|refine z_b ?_|refine z_c ?_|refine z_d ?_|refine z_e ?_|refine z_f ?_|refine z_g ?_|refine z_h ?_|refine z_i ?_|refine z_j ?_|refine z_k ?_|refine z_l ?_|refine z_m (by omega) ?_|refine z_n (by omega) ?_|refine z_o (by omega) ?_|refine z_p (by omega) ?_|refine z_q (by omega) ?_|refine z_r (by omega) ?_|refine z_s (by omega) ?_|refine z_t (by omega) ?_|refine z_u (by omega) ?_|refine z_v (by omega) ?_|refine z_w (by omega) ?_|refine z_x (by omega) ?_|refine z_y (by omega) ?_|refine z_z (by omega) ?_|refine z_A ?_|refine z_B ?_|refine z_C ?_|refine z_D ?_|refine z_E ?_|refine z_F ?_|refine z_G ?_|refine z_h1 ?_|refine z_i1 ?_|refine z_j1 ?_|refine z_k1 (by omega) (by decide) ?_|refine z_l1 (by omega) (by decide) ?_|refine z_m1 (by omega) ?_|refine z_n1 (by omega) ?_|refine z_o1 (by omega) ?_|refine z_p1 ?_|refine z_q1 ?_|refine z_H ?_|refine z_I ?_|refine z_r1 ?_|refine z_s1 (by decide) ?_|refine z_t1 (by decide) ?_)
    refine hJ _ _ _ ⟨k + 1, by omega, by simp, ?_, hf4, hb3'.trans hb4⟩ (by simp [intOf]; omega)
    have e : ((ts.take (k + 1)).map Pack.text).flatten = ((ts.take k).map Pack.text).flatten ++ Pack.text ts[k] := by
      rw [List.take_succ_eq_append_getElem hk', List.map_append, List.flatten_append]; simp
    rw [← List.map_append, List.append_assoc] at ho4
    rw [e]
    exact ho4
  · have hkl : k = ts.length := by omega
    subst hkl
    (repeat with_reducible first|refine z_a ?_|refine z_b ?_|refine z_c ?_|refine z_d ?_|refine z_e ?_|refine z_f ?_|refine z_g ?_|refine z_h ?_|refine z_i ?_|refine z_j ?_|refine z_k ?_|refine z_l ?_|refine z_m (by omega) ?_|refine z_n (by omega) ?_|refine z_o (by omega) ?_|refine z_p (by omega) ?_|refine z_q (by omega) ?_|refine z_r (by omega) ?_|refine z_s (by omega) ?_|refine z_t (by omega) ?_|refine z_u (by omega) ?_|refine z_v (by omega) ?_|refine z_w (by omega) ?_|refine z_x (by omega) ?_|refine z_y (by omega) ?_|refine z_z (by omega) ?_|refine z_A ?_|refine z_B ?_|refine z_C ?_|refine z_D ?_|refine z_E ?_|refine z_F ?_|refine z_G ?_|refine z_h1 ?_|refine z_i1 ?_|refine z_j1 ?_|refine z_k1 (by omega) (by decide) ?_|refine z_l1 (by omega) (by decide) ?_|refine z_m1 (by omega) ?_|refine z_n1 (by omega) ?_|refine z_o1 (by omega) ?_|refine z_p1 ?_|refine z_q1 ?_|refine z_H ?_|refine z_I ?_|refine z_r1 ?_|refine z_s1 (by decide) ?_|refine z_t1 (by decide) ?_)
    rw [List.take_length] at ho2
    exact ⟨ho2, hf2, hb2⟩

/-- An end in memory, behind B. -/
theorem Join_spec (v : Value) (bss : List (List UInt8)) (w : World) (hv : RdSS w v bss) (hl : bss.length ≤ 1000000) (ht : bss.flatten.length ≤ 1000000000) :
    CallP Try.prog 49 #[v] (fun r w' => Own 5 w' r (bss.flatten.map u8) ∧ Fresh w.heap.size r ∧ Below w.heap.size w w') w := by
  refine ⟨S49.calls _ _ _ ?_⟩
  unfold S49
  exact (Concat_spec v bss w hv hl ht).mono fun _ _ h => h
theorem or_i64 (a b : Nat) (ha : a < 9223372036854775808) (hb : b < 9223372036854775808) : Go.bits .or .i64 (a : Int) (b : Int) = ((a ||| b : Nat) : Int) := by
  have h : a ||| b < 9223372036854775808 := Nat.or_lt_two_pow (n := 63) ha hb
  show IntKind.i64.wrap _ = _
  have e : ∀ n : Nat, n < 9223372036854775808 → (BitVec.ofInt 64 (n : Int)).toNat = n := fun n hn => by simp; omega
  have e3 : ((BitVec.ofInt 64 (a : Int)) ||| (BitVec.ofInt 64 (b : Int))).toNat = a ||| b := by rw [BitVec.toNat_or, e a ha, e b hb]
  have e2 : IntKind.i64.wrap ((a ||| b : Nat) : Int) = ((a ||| b : Nat) : Int) := IntWalk.i64_in _ (by omega)
  rw [← e2, ← e3]
  rfl
theorem and127 (c : UInt8) : Go.bits .and .u8 (c.toNat : Int) 127 = ((c.toNat % 128 : Nat) : Int) := by
  have : ∀ i : Fin 256, Go.bits .and .u8 (i.val : Int) 127 = ((i.val % 128 : Nat) : Int) := by decide +kernel
  exact this ⟨c.toNat, c.toNat_lt⟩
/-- The number that stands at a place: number, place behind, error. -/
def getAt (bs : List UInt8) (at_ : Nat) : Nat × Nat × Nat :=
  ((Pack.getFrom 0 (bs.drop at_)).1, if (Pack.getFrom 0 (bs.drop at_)).2.2 = 0 then at_ + (Pack.getFrom 0 (bs.drop at_)).2.1 else 0, (Pack.getFrom 0 (bs.drop at_)).2.2)

theorem shlk {K : Value → World → Prop} {w : World} {x y : Operand} {m k : Nat} (hk : k ≤ 8) (hm : m < 128) (kk : K (.int .i64 ((m * 128 ^ k : Nat) : Int)) w) : LiftP Try.prog (binS .shl 3 x y (.int .i64 m) (.int .i64 (7 * (k : Int)))) K w :=
  bi_shl (by omega) (by show 7 * (k : Int) ≤ 64; omega) (by
    have h1 : 128 ^ k ≤ 128 ^ 8 := Nat.pow_le_pow_right (by decide) hk
    have h2 : m * 128 ^ k ≤ 127 * 128 ^ 8 := Nat.mul_le_mul (by omega) h1
    have e : ((m : Int) * 2 ^ (7 * (k : Int)).toNat) = ((m * 128 ^ k : Nat) : Int) := by
      have e0 : ((2 : Int) ^ (7 * k)) = ((128 ^ k : Nat) : Int) := by
        rw [show (128 : Nat) ^ k = 2 ^ (7 * k) from by rw [Nat.pow_mul], Int.natCast_pow]
        rfl
      rw [show (7 * (k : Int)).toNat = 7 * k from by omega, e0, Int.natCast_mul]
    rw [e, IntWalk.i64_in _ (by omega)]
    exact kk)
theorem ork {K : Value → World → Prop} {w : World} {x y : Operand} {a m k : Nat} (hk : k ≤ 8) (hm : m < 128) (ha : a < 128 ^ k) (kk : K (.int .i64 ((a + m * 128 ^ k : Nat) : Int)) w) : LiftP Try.prog (binS .or 3 x y (.int .i64 a) (.int .i64 ((m * 128 ^ k : Nat) : Int))) K w :=
  bi_or (by
    have h1 : 128 ^ k ≤ 128 ^ 8 := Nat.pow_le_pow_right (by decide) hk
    have h2 : m * 128 ^ k ≤ 127 * 128 ^ 8 := Nat.mul_le_mul (by omega) h1
    have e : a ||| m * 128 ^ k = a + m * 128 ^ k := by
      have e1 : m * 128 ^ k = m <<< (7 * k) := by rw [Nat.shiftLeft_eq, Nat.pow_mul]
      have := Nat.shiftLeft_add_eq_or_of_lt (i := 7 * k) (b := a) (by rw [Nat.pow_mul]; exact ha) m
      rw [e1, Nat.or_comm, ← this, Nat.add_comm]
    rw [or_i64 _ _ (by omega) (by omega), e]
    exact kk)

theorem oneU8 : oneB Try.prog 5 = true := by kernel_rfl
theorem GetNum_spec (v : Value) (bs : List UInt8) (i : Nat) (w : World) (hv : RdB w v bs) (hi : i ≤ bs.length) (hl : bs.length ≤ 1000000) :
    CallP Try.prog 60 #[v, .int .i64 i] (fun r w' => r = .tuple #[.int .i64 (getAt bs i).1, .int .i64 (getAt bs i).2.1, .int .i64 (getAt bs i).2.2] ∧ w = w') w := by
  obtain ⟨A, c, rfl, hc1, hc2, _⟩ := hv.slice
  refine ⟨S60.calls _ _ _ _ ?_⟩
  unfold S60
  (repeat with_reducible first | refine ln undB ?_|refine z_a ?_|refine z_b ?_|refine z_c ?_|refine z_d ?_|refine z_e ?_|refine z_f ?_|refine z_g ?_|refine z_h ?_|refine z_i ?_|refine z_j ?_|refine z_k ?_|refine z_l ?_|refine z_m (by omega) ?_|refine z_n (by omega) ?_|refine z_o (by omega) ?_|refine z_p (by omega) ?_|refine z_q (by omega) ?_|refine z_r (by omega) ?_|refine z_s (by omega) ?_|refine z_t (by omega) ?_|refine z_u (by omega) ?_|refine z_v (by omega) ?_|refine z_w (by omega) ?_|refine z_x (by omega) ?_|refine z_y (by omega) ?_|refine z_z (by omega) ?_|refine z_A ?_|refine z_B ?_|refine z_C ?_|refine z_D ?_|refine z_E ?_|refine z_F ?_|refine z_G ?_|refine z_h1 ?_|refine z_i1 ?_|refine z_j1 ?_|refine z_k1 (by omega) (by decide) ?_|refine z_l1 (by omega) (by decide) ?_|refine z_m1 (by omega) ?_|refine z_n1 (by omega) ?_|refine z_o1 (by omega) ?_|refine z_p1 ?_|refine z_q1 ?_|refine z_H ?_|refine z_I ?_|refine z_r1 ?_|refine z_s1 (by decide) ?_|refine z_t1 (by decide) ?_)
  refine ctB undB szU8 hv (.at _ _) .no hi (Nat.le_refl _) ?_
  intro v2 hr
  rw [List.take_length] at hr
  unfold getAt
  have hdl : (bs.drop i).length ≤ 1000000 := by rw [List.length_drop]; omega
  generalize bs.drop i = cs at *
  obtain ⟨A2, c2, rfl, _⟩ := hr.slice
  refine ln undB ?_
  refine LoopP.inv2 (fun x y w' => ∃ k acc : Nat, k ≤ cs.length ∧ k ≤ 8 ∧ y = .int .i64 k ∧ x = .int .i64 acc ∧ acc < 128 ^ k ∧ (Pack.getFrom 0 cs = if (Pack.getFrom k (cs.drop k)).2.2 = 0 then (acc + 128 ^ k * (Pack.getFrom k (cs.drop k)).1, k + (Pack.getFrom k (cs.drop k)).2.1, 0) else (0, 0, (Pack.getFrom k (cs.drop k)).2.2)) ∧ w = w') (fun _ y _ => cs.length - (intOf y).toNat)
    ⟨0, 0, by omega, by omega, rfl, rfl, by simp, ?_, rfl⟩ ?_
  · rw [List.drop_zero]
    have he : (Pack.getFrom 0 cs).2.2 ≠ 0 → Pack.getFrom 0 cs = (0, 0, (Pack.getFrom 0 cs).2.2) := Pack.getFrom_err cs 0
    generalize Pack.getFrom 0 cs = g at *
    split
    · rename_i h0
      obtain ⟨g1, g2, g3⟩ := g
      simp only at h0
      subst h0
      simp
    · rename_i h0
      exact he h0
  rintro _ _ _ ⟨k, acc, hk, hk8, rfl, rfl, hacc, hinv, rfl⟩ J hJ
  dsimp only [List.headD_cons, List.tail_cons]
  (first | refine bi_lss_c (fun h => ?_) (fun h => ?_) | refine bi_eql_c (fun h => ?_) (fun h => ?_) | refine bi_neq_c (fun h => ?_) (fun h => ?_) | refine bi_gtr_c (fun h => ?_) (fun h => ?_) | refine bi_leq_c (fun h => ?_) (fun h => ?_) | refine bi_geq_c (fun h => ?_) (fun h => ?_) | refine bi_seql_c (fun h => ?_) (fun h => ?_) | refine bi_sneq_c (fun h => ?_) (fun h => ?_))
  · have hk' : k < cs.length := by omega
    obtain ⟨a, rfl, hca⟩ := hr.at k hk'
    have hc := cs[k].toNat_lt
    have hdrop : cs.drop k = cs[k] :: cs.drop (k + 1) := List.drop_eq_getElem_cons hk'
    rw [hdrop] at hinv
    generalize cs[k] = ch at *
    (repeat with_reducible first | refine ix1 undB szU8 hk' ?_| refine ld oneU8 hca ?_|refine z_a ?_|refine z_b ?_|refine z_c ?_|refine z_d ?_|refine z_e ?_|refine z_f ?_|refine z_g ?_|refine z_h ?_|refine z_i ?_|refine z_j ?_|refine z_k ?_|refine z_l ?_|refine z_m (by omega) ?_|refine z_n (by omega) ?_|refine z_o (by omega) ?_|refine z_p (by omega) ?_|refine z_q (by omega) ?_|refine z_r (by omega) ?_|refine z_s (by omega) ?_|refine z_t (by omega) ?_|refine z_u (by omega) ?_|refine z_v (by omega) ?_|refine z_w (by omega) ?_|refine z_x (by omega) ?_|refine z_y (by omega) ?_|refine z_z (by omega) ?_|refine z_A ?_|refine z_B ?_|refine z_C ?_|refine z_D ?_|refine z_E ?_|refine z_F ?_|refine z_G ?_|refine z_h1 ?_|refine z_i1 ?_|refine z_j1 ?_|refine z_k1 (by omega) (by decide) ?_|refine z_l1 (by omega) (by decide) ?_|refine z_m1 (by omega) ?_|refine z_n1 (by omega) ?_|refine z_o1 (by omega) ?_|refine z_p1 ?_|refine z_q1 ?_|refine z_H ?_|refine z_I ?_|refine z_r1 ?_|refine z_s1 (by decide) ?_|refine z_t1 (by decide) ?_)
    rw [and127]
    refine cv undU8 undI3 ?_
    rw [IntWalk.i64_in _ (by omega)]
    (repeat with_reducible first | refine shlk hk8 (by omega) ?_| refine ork hk8 (by omega) hacc ?_|refine z_a ?_|refine z_b ?_|refine z_c ?_|refine z_d ?_|refine z_e ?_|refine z_f ?_|refine z_g ?_|refine z_h ?_|refine z_i ?_|refine z_j ?_|refine z_k ?_|refine z_l ?_|refine z_m (by omega) ?_|refine z_n (by omega) ?_|refine z_o (by omega) ?_|refine z_p (by omega) ?_|refine z_q (by omega) ?_|refine z_r (by omega) ?_|refine z_s (by omega) ?_|refine z_t (by omega) ?_|refine z_u (by omega) ?_|refine z_v (by omega) ?_|refine z_w (by omega) ?_|refine z_x (by omega) ?_|refine z_y (by omega) ?_|refine z_z (by omega) ?_|refine z_A ?_|refine z_B ?_|refine z_C ?_|refine z_D ?_|refine z_E ?_|refine z_F ?_|refine z_G ?_|refine z_h1 ?_|refine z_i1 ?_|refine z_j1 ?_|refine z_k1 (by omega) (by decide) ?_|refine z_l1 (by omega) (by decide) ?_|refine z_m1 (by omega) ?_|refine z_n1 (by omega) ?_|refine z_o1 (by omega) ?_|refine z_p1 ?_|refine z_q1 ?_|refine z_H ?_|refine z_I ?_|refine z_r1 ?_|refine z_s1 (by decide) ?_|refine z_t1 (by decide) ?_)
    refine JoinP.cut (fun vs w' => vs = [.bool (decide ((128 ≤ ch.toNat ∧ k = 8) ∨ (ch.toNat = 0 ∧ 0 < k)))] ∧ w = w') (fun J2 hJ2 => ?_) ?_
    · (first | refine bi_lss_c (fun h => ?_) (fun h => ?_) | refine bi_eql_c (fun h => ?_) (fun h => ?_) | refine bi_neq_c (fun h => ?_) (fun h => ?_) | refine bi_gtr_c (fun h => ?_) (fun h => ?_) | refine bi_leq_c (fun h => ?_) (fun h => ?_) | refine bi_geq_c (fun h => ?_) (fun h => ?_) | refine bi_seql_c (fun h => ?_) (fun h => ?_) | refine bi_sneq_c (fun h => ?_) (fun h => ?_))
      · (repeat with_reducible first|refine z_a ?_|refine z_b ?_|refine z_c ?_|refine z_d ?_|refine z_e ?_|refine z_f ?_|refine z_g ?_|refine z_h ?_|refine z_i ?_|refine z_j ?_|refine z_k ?_|refine z_l ?_|refine z_m (by omega) ?_|refine z_n (by omega) ?_|refine z_o (by omega) ?_|refine z_p (by omega) ?_|refine z_q (by omega) ?_|refine z_r (by omega) ?_|refine z_s (by omega) ?_|refine z_t (by omega) ?_|refine z_u (by omega) ?_|refine z_v (by omega) ?_|refine z_w (by omega) ?_|refine z_x (by omega) ?_|refine z_y (by omega) ?_|refine z_z (by omega) ?_|refine z_A ?_|refine z_B ?_|refine z_C ?_|refine z_D ?_|refine z_E ?_|refine z_F ?_|refine z_G ?_|refine z_h1 ?_|refine z_i1 ?_|refine z_j1 ?_|refine z_k1 (by omega) (by decide) ?_|refine z_l1 (by omega) (by decide) ?_|refine z_m1 (by omega) ?_|refine z_n1 (by omega) ?_|refine z_o1 (by omega) ?_|refine z_p1 ?_|refine z_q1 ?_|refine z_H ?_|refine z_I ?_|refine z_r1 ?_|refine z_s1 (by decide) ?_|refine z_t1 (by decide) ?_)
        (first | refine bi_lss_c (fun h => ?_) (fun h => ?_) | refine bi_eql_c (fun h => ?_) (fun h => ?_) | refine bi_neq_c (fun h => ?_) (fun h => ?_) | refine bi_gtr_c (fun h => ?_) (fun h => ?_) | refine bi_leq_c (fun h => ?_) (fun h => ?_) | refine bi_geq_c (fun h => ?_) (fun h => ?_) | refine bi_seql_c (fun h => ?_) (fun h => ?_) | refine bi_sneq_c (fun h => ?_) (fun h => ?_))
        · (repeat with_reducible first|refine z_a ?_|refine z_b ?_|refine z_c ?_|refine z_d ?_|refine z_e ?_|refine z_f ?_|refine z_g ?_|refine z_h ?_|refine z_i ?_|refine z_j ?_|refine z_k ?_|refine z_l ?_|refine z_m (by omega) ?_|refine z_n (by omega) ?_|refine z_o (by omega) ?_|refine z_p (by omega) ?_|refine z_q (by omega) ?_|refine z_r (by omega) ?_|refine z_s (by omega) ?_|refine z_t (by omega) ?_|refine z_u (by omega) ?_|refine z_v (by omega) ?_|refine z_w (by omega) ?_|refine z_x (by omega) ?_|refine z_y (by omega) ?_|refine z_z (by omega) ?_|refine z_A ?_|refine z_B ?_|refine z_C ?_|refine z_D ?_|refine z_E ?_|refine z_F ?_|refine z_G ?_|refine z_h1 ?_|refine z_i1 ?_|refine z_j1 ?_|refine z_k1 (by omega) (by decide) ?_|refine z_l1 (by omega) (by decide) ?_|refine z_m1 (by omega) ?_|refine z_n1 (by omega) ?_|refine z_o1 (by omega) ?_|refine z_p1 ?_|refine z_q1 ?_|refine z_H ?_|refine z_I ?_|refine z_r1 ?_|refine z_s1 (by decide) ?_|refine z_t1 (by decide) ?_)
          exact hJ2 _ _ ⟨by rw [decide_eq_true (.inl (by omega))], rfl⟩
        · (repeat with_reducible first|refine z_a ?_|refine z_b ?_|refine z_c ?_|refine z_d ?_|refine z_e ?_|refine z_f ?_|refine z_g ?_|refine z_h ?_|refine z_i ?_|refine z_j ?_|refine z_k ?_|refine z_l ?_|refine z_m (by omega) ?_|refine z_n (by omega) ?_|refine z_o (by omega) ?_|refine z_p (by omega) ?_|refine z_q (by omega) ?_|refine z_r (by omega) ?_|refine z_s (by omega) ?_|refine z_t (by omega) ?_|refine z_u (by omega) ?_|refine z_v (by omega) ?_|refine z_w (by omega) ?_|refine z_x (by omega) ?_|refine z_y (by omega) ?_|refine z_z (by omega) ?_|refine z_A ?_|refine z_B ?_|refine z_C ?_|refine z_D ?_|refine z_E ?_|refine z_F ?_|refine z_G ?_|refine z_h1 ?_|refine z_i1 ?_|refine z_j1 ?_|refine z_k1 (by omega) (by decide) ?_|refine z_l1 (by omega) (by decide) ?_|refine z_m1 (by omega) ?_|refine z_n1 (by omega) ?_|refine z_o1 (by omega) ?_|refine z_p1 ?_|refine z_q1 ?_|refine z_H ?_|refine z_I ?_|refine z_r1 ?_|refine z_s1 (by decide) ?_|refine z_t1 (by decide) ?_)
          exact hJ2 _ _ ⟨by rw [decide_eq_false (by omega)], rfl⟩
      · (repeat with_reducible first|refine z_a ?_|refine z_b ?_|refine z_c ?_|refine z_d ?_|refine z_e ?_|refine z_f ?_|refine z_g ?_|refine z_h ?_|refine z_i ?_|refine z_j ?_|refine z_k ?_|refine z_l ?_|refine z_m (by omega) ?_|refine z_n (by omega) ?_|refine z_o (by omega) ?_|refine z_p (by omega) ?_|refine z_q (by omega) ?_|refine z_r (by omega) ?_|refine z_s (by omega) ?_|refine z_t (by omega) ?_|refine z_u (by omega) ?_|refine z_v (by omega) ?_|refine z_w (by omega) ?_|refine z_x (by omega) ?_|refine z_y (by omega) ?_|refine z_z (by omega) ?_|refine z_A ?_|refine z_B ?_|refine z_C ?_|refine z_D ?_|refine z_E ?_|refine z_F ?_|refine z_G ?_|refine z_h1 ?_|refine z_i1 ?_|refine z_j1 ?_|refine z_k1 (by omega) (by decide) ?_|refine z_l1 (by omega) (by decide) ?_|refine z_m1 (by omega) ?_|refine z_n1 (by omega) ?_|refine z_o1 (by omega) ?_|refine z_p1 ?_|refine z_q1 ?_|refine z_H ?_|refine z_I ?_|refine z_r1 ?_|refine z_s1 (by decide) ?_|refine z_t1 (by decide) ?_)
        (first | refine bi_lss_c (fun h => ?_) (fun h => ?_) | refine bi_eql_c (fun h => ?_) (fun h => ?_) | refine bi_neq_c (fun h => ?_) (fun h => ?_) | refine bi_gtr_c (fun h => ?_) (fun h => ?_) | refine bi_leq_c (fun h => ?_) (fun h => ?_) | refine bi_geq_c (fun h => ?_) (fun h => ?_) | refine bi_seql_c (fun h => ?_) (fun h => ?_) | refine bi_sneq_c (fun h => ?_) (fun h => ?_))
        · (repeat with_reducible first|refine z_a ?_|refine z_b ?_|refine z_c ?_|refine z_d ?_|refine z_e ?_|refine z_f ?_|refine z_g ?_|refine z_h ?_|refine z_i ?_|refine z_j ?_|refine z_k ?_|refine z_l ?_|refine z_m (by omega) ?_|refine z_n (by omega) ?_|refine z_o (by omega) ?_|refine z_p (by omega) ?_|refine z_q (by omega) ?_|refine z_r (by omega) ?_|refine z_s (by omega) ?_|refine z_t (by omega) ?_|refine z_u (by omega) ?_|refine z_v (by omega) ?_|refine z_w (by omega) ?_|refine z_x (by omega) ?_|refine z_y (by omega) ?_|refine z_z (by omega) ?_|refine z_A ?_|refine z_B ?_|refine z_C ?_|refine z_D ?_|refine z_E ?_|refine z_F ?_|refine z_G ?_|refine z_h1 ?_|refine z_i1 ?_|refine z_j1 ?_|refine z_k1 (by omega) (by decide) ?_|refine z_l1 (by omega) (by decide) ?_|refine z_m1 (by omega) ?_|refine z_n1 (by omega) ?_|refine z_o1 (by omega) ?_|refine z_p1 ?_|refine z_q1 ?_|refine z_H ?_|refine z_I ?_|refine z_r1 ?_|refine z_s1 (by decide) ?_|refine z_t1 (by decide) ?_)
          (first | refine bi_lss_c (fun h => ?_) (fun h => ?_) | refine bi_eql_c (fun h => ?_) (fun h => ?_) | refine bi_neq_c (fun h => ?_) (fun h => ?_) | refine bi_gtr_c (fun h => ?_) (fun h => ?_) | refine bi_leq_c (fun h => ?_) (fun h => ?_) | refine bi_geq_c (fun h => ?_) (fun h => ?_) | refine bi_seql_c (fun h => ?_) (fun h => ?_) | refine bi_sneq_c (fun h => ?_) (fun h => ?_))
          · (repeat with_reducible first|refine z_a ?_|refine z_b ?_|refine z_c ?_|refine z_d ?_|refine z_e ?_|refine z_f ?_|refine z_g ?_|refine z_h ?_|refine z_i ?_|refine z_j ?_|refine z_k ?_|refine z_l ?_|refine z_m (by omega) ?_|refine z_n (by omega) ?_|refine z_o (by omega) ?_|refine z_p (by omega) ?_|refine z_q (by omega) ?_|refine z_r (by omega) ?_|refine z_s (by omega) ?_|refine z_t (by omega) ?_|refine z_u (by omega) ?_|refine z_v (by omega) ?_|refine z_w (by omega) ?_|refine z_x (by omega) ?_|refine z_y (by omega) ?_|refine z_z (by omega) ?_|refine z_A ?_|refine z_B ?_|refine z_C ?_|refine z_D ?_|refine z_E ?_|refine z_F ?_|refine z_G ?_|refine z_h1 ?_|refine z_i1 ?_|refine z_j1 ?_|refine z_k1 (by omega) (by decide) ?_|refine z_l1 (by omega) (by decide) ?_|refine z_m1 (by omega) ?_|refine z_n1 (by omega) ?_|refine z_o1 (by omega) ?_|refine z_p1 ?_|refine z_q1 ?_|refine z_H ?_|refine z_I ?_|refine z_r1 ?_|refine z_s1 (by decide) ?_|refine z_t1 (by decide) ?_)
            exact hJ2 _ _ ⟨by rw [decide_eq_true (.inr (by omega))], rfl⟩
          · (repeat with_reducible first|refine z_a ?_|refine z_b ?_|refine z_c ?_|refine z_d ?_|refine z_e ?_|refine z_f ?_|refine z_g ?_|refine z_h ?_|refine z_i ?_|refine z_j ?_|refine z_k ?_|refine z_l ?_|refine z_m (by omega) ?_|refine z_n (by omega) ?_|refine z_o (by omega) ?_|refine z_p (by omega) ?_|refine z_q (by omega) ?_|refine z_r (by omega) ?_|refine z_s (by omega) ?_|refine z_t (by omega) ?_|refine z_u (by omega) ?_|refine z_v (by omega) ?_|refine z_w (by omega) ?_|refine z_x (by omega) ?_|refine z_y (by omega) ?_|refine z_z (by omega) ?_|refine z_A ?_|refine z_B ?_|refine z_C ?_|refine z_D ?_|refine z_E ?_|refine z_F ?_|refine z_G ?_|refine z_h1 ?_|refine z_i1 ?_|refine z_j1 ?_|refine z_k1 (by omega) (by decide) ?_|refine z_l1 (by omega) (by decide) ?_|refine z_m1 (by omega) ?_|refine z_n1 (by omega) ?_|refine z_o1 (by omega) ?_|refine z_p1 ?_|refine z_q1 ?_|refine z_H ?_|refine z_I ?_|refine z_r1 ?_|refine z_s1 (by decide) ?_|refine z_t1 (by decide) ?_)
            exact hJ2 _ _ ⟨by rw [decide_eq_false (by omega)], rfl⟩
        · (repeat with_reducible first|refine z_a ?_|refine z_b ?_|refine z_c ?_|refine z_d ?_|refine z_e ?_|refine z_f ?_|refine z_g ?_|refine z_h ?_|refine z_i ?_|refine z_j ?_|refine z_k ?_|refine z_l ?_|refine z_m (by omega) ?_|refine z_n (by omega) ?_|refine z_o (by omega) ?_|refine z_p (by omega) ?_|refine z_q (by omega) ?_|refine z_r (by omega) ?_|refine z_s (by omega) ?_|refine z_t (by omega) ?_|refine z_u (by omega) ?_|refine z_v (by omega) ?_|refine z_w (by omega) ?_|refine z_x (by omega) ?_|refine z_y (by omega) ?_|refine z_z (by omega) ?_|refine z_A ?_|refine z_B ?_|refine z_C ?_|refine z_D ?_|refine z_E ?_|refine z_F ?_|refine z_G ?_|refine z_h1 ?_|refine z_i1 ?_|refine z_j1 ?_|refine z_k1 (by omega) (by decide) ?_|refine z_l1 (by omega) (by decide) ?_|refine z_m1 (by omega) ?_|refine z_n1 (by omega) ?_|refine z_o1 (by omega) ?_|refine z_p1 ?_|refine z_q1 ?_|refine z_H ?_|refine z_I ?_|refine z_r1 ?_|refine z_s1 (by decide) ?_|refine z_t1 (by decide) ?_)
          exact hJ2 _ _ ⟨by rw [decide_eq_false (by omega)], rfl⟩
    rintro _ _ ⟨rfl, rfl⟩
    dsimp only [List.headD_cons, List.tail_cons]
    refine CondP.dec (fun hh => ?_) (fun hh => ?_)
    · have hg : Pack.getFrom k (ch :: cs.drop (k + 1)) = (0, 0, 3) := by rw [Pack.getFrom, if_pos hh]
      rw [hg] at hinv
      rw [hinv]
      exact ⟨rfl, rfl⟩
    (first | refine bi_lss_c (fun h => ?_) (fun h => ?_) | refine bi_eql_c (fun h => ?_) (fun h => ?_) | refine bi_neq_c (fun h => ?_) (fun h => ?_) | refine bi_gtr_c (fun h => ?_) (fun h => ?_) | refine bi_leq_c (fun h => ?_) (fun h => ?_) | refine bi_geq_c (fun h => ?_) (fun h => ?_) | refine bi_seql_c (fun h => ?_) (fun h => ?_) | refine bi_sneq_c (fun h => ?_) (fun h => ?_))
    · have hlt : ch.toNat < 128 := by omega
      have hg : Pack.getFrom k (ch :: cs.drop (k + 1)) = (ch.toNat, 1, 0) := by rw [Pack.getFrom, if_neg hh, if_pos hlt]
      rw [hg] at hinv
      (repeat with_reducible first|refine z_a ?_|refine z_b ?_|refine z_c ?_|refine z_d ?_|refine z_e ?_|refine z_f ?_|refine z_g ?_|refine z_h ?_|refine z_i ?_|refine z_j ?_|refine z_k ?_|refine z_l ?_|refine z_m (by omega) ?_|refine z_n (by omega) ?_|refine z_o (by omega) ?_|refine z_p (by omega) ?_|refine z_q (by omega) ?_|refine z_r (by omega) ?_|refine z_s (by omega) ?_|refine z_t (by omega) ?_|refine z_u (by omega) ?_|refine z_v (by omega) ?_|refine z_w (by omega) ?_|refine z_x (by omega) ?_|refine z_y (by omega) ?_|refine z_z (by omega) ?_|refine z_A ?_|refine z_B ?_|refine z_C ?_|refine z_D ?_|refine z_E ?_|refine z_F ?_|refine z_G ?_|refine z_h1 ?_|refine z_i1 ?_|refine z_j1 ?_|refine z_k1 (by omega) (by decide) ?_|refine z_l1 (by omega) (by decide) ?_|refine z_m1 (by omega) ?_|refine z_n1 (by omega) ?_|refine z_o1 (by omega) ?_|refine z_p1 ?_|refine z_q1 ?_|refine z_H ?_|refine z_I ?_|refine z_r1 ?_|refine z_s1 (by decide) ?_|refine z_t1 (by decide) ?_)
      rw [hinv]
      refine ⟨?_, rfl⟩
      simp only [if_true]
      rw [show ch.toNat % 128 = ch.toNat from by omega, Nat.mul_comm, show ((i : Int) + (k : Int) + 1) = ((i + (k + 1) : Nat) : Int) from by omega]
      rfl
    · have hlt : ¬ ch.toNat < 128 := by omega
      have hk7 : k < 8 := by
        rcases Nat.lt_or_ge k 8 with h | h
        · exact h
        · exact absurd (Or.inl ⟨by omega, by omega⟩) hh
      (repeat with_reducible first|refine z_a ?_|refine z_b ?_|refine z_c ?_|refine z_d ?_|refine z_e ?_|refine z_f ?_|refine z_g ?_|refine z_h ?_|refine z_i ?_|refine z_j ?_|refine z_k ?_|refine z_l ?_|refine z_m (by omega) ?_|refine z_n (by omega) ?_|refine z_o (by omega) ?_|refine z_p (by omega) ?_|refine z_q (by omega) ?_|refine z_r (by omega) ?_|refine z_s (by omega) ?_|refine z_t (by omega) ?_|refine z_u (by omega) ?_|refine z_v (by omega) ?_|refine z_w (by omega) ?_|refine z_x (by omega) ?_|refine z_y (by omega) ?_|refine z_z (by omega) ?_|refine z_A ?_|refine z_B ?_|refine z_C ?_|refine z_D ?_|refine z_E ?_|refine z_F ?_|refine z_G ?_|refine z_h1 ?_|refine z_i1 ?_|refine z_j1 ?_|refine z_k1 (by omega) (by decide) ?_|refine z_l1 (by omega) (by decide) ?_|refine z_m1 (by omega) ?_|refine z_n1 (by omega) ?_|refine z_o1 (by omega) ?_|refine z_p1 ?_|refine z_q1 ?_|refine z_H ?_|refine z_I ?_|refine z_r1 ?_|refine z_s1 (by decide) ?_|refine z_t1 (by decide) ?_)
      refine hJ _ _ _ ⟨k + 1, acc + ch.toNat % 128 * 128 ^ k, by omega, by omega, by simp, rfl, ?_, ?_, rfl⟩ (by simp [intOf]; omega)
      · rw [Nat.pow_succ]
        have : ch.toNat % 128 * 128 ^ k ≤ 127 * 128 ^ k := Nat.mul_le_mul (by omega) (Nat.le_refl _)
        omega
      · by_cases h0 : (Pack.getFrom (k + 1) (cs.drop (k + 1))).2.2 = 0
        · have hg : Pack.getFrom k (ch :: cs.drop (k + 1)) = (ch.toNat % 128 + 128 * (Pack.getFrom (k + 1) (cs.drop (k + 1))).1, (Pack.getFrom (k + 1) (cs.drop (k + 1))).2.1 + 1, 0) := by rw [Pack.getFrom, if_neg hh, if_neg hlt, if_pos h0]
          rw [hg] at hinv
          rw [hinv, if_pos h0]
          simp only [if_true]
          refine Prod.ext ?_ (Prod.ext ?_ rfl)
          · simp only
            rw [Nat.mul_add, Nat.pow_succ, Nat.mul_comm (128 ^ k) (ch.toNat % 128), Nat.add_assoc, Nat.mul_assoc]
          · simp only; omega
        · have hg : Pack.getFrom k (ch :: cs.drop (k + 1)) = (0, 0, (Pack.getFrom (k + 1) (cs.drop (k + 1))).2.2) := by rw [Pack.getFrom, if_neg hh, if_neg hlt, if_neg h0]
          rw [hg] at hinv
          rw [hinv, if_neg h0]
          simp only
          rw [if_neg h0]
  · (repeat with_reducible first|refine z_a ?_|refine z_b ?_|refine z_c ?_|refine z_d ?_|refine z_e ?_|refine z_f ?_|refine z_g ?_|refine z_h ?_|refine z_i ?_|refine z_j ?_|refine z_k ?_|refine z_l ?_|refine z_m (by omega) ?_|refine z_n (by omega) ?_|refine z_o (by omega) ?_|refine z_p (by omega) ?_|refine z_q (by omega) ?_|refine z_r (by omega) ?_|refine z_s (by omega) ?_|refine z_t (by omega) ?_|refine z_u (by omega) ?_|refine z_v (by omega) ?_|refine z_w (by omega) ?_|refine z_x (by omega) ?_|refine z_y (by omega) ?_|refine z_z (by omega) ?_|refine z_A ?_|refine z_B ?_|refine z_C ?_|refine z_D ?_|refine z_E ?_|refine z_F ?_|refine z_G ?_|refine z_h1 ?_|refine z_i1 ?_|refine z_j1 ?_|refine z_k1 (by omega) (by decide) ?_|refine z_l1 (by omega) (by decide) ?_|refine z_m1 (by omega) ?_|refine z_n1 (by omega) ?_|refine z_o1 (by omega) ?_|refine z_p1 ?_|refine z_q1 ?_|refine z_H ?_|refine z_I ?_|refine z_r1 ?_|refine z_s1 (by decide) ?_|refine z_t1 (by decide) ?_)
    have hkl : k = cs.length := by omega
    rw [hkl, List.drop_length] at hinv
    rw [hinv]
    exact ⟨rfl, rfl⟩
theorem getAt_le (bs : List UInt8) (i : Nat) (hi : i ≤ bs.length) (h : (getAt bs i).2.2 = 0) : i < (getAt bs i).2.1 ∧ (getAt bs i).2.1 ≤ bs.length := by
  unfold getAt at *
  simp only at h ⊢
  obtain ⟨_, _, h3, h4⟩ := Pack.getFrom_num _ 0 h
  rw [List.length_drop] at h3
  rw [if_pos h]
  omega
theorem getAt_err (bs : List UInt8) (i : Nat) (h : (getAt bs i).2.2 ≠ 0) : (getAt bs i).2.1 = 0 := by
  unfold getAt at *
  simp only at h ⊢
  rw [if_neg h]
/-- The text that stands at a place: its bytes, the place behind, the error. -/
def textAt (bs : List UInt8) (i most : Nat) : List UInt8 × Nat × Nat :=
  if (getAt bs i).2.2 ≠ 0 then ([], 0, (getAt bs i).2.2) else if most < (getAt bs i).1 then ([], 0, 4) else if bs.length - (getAt bs i).2.1 < (getAt bs i).1 then ([], 0, 2)
  else ((bs.drop (getAt bs i).2.1).take (getAt bs i).1, (getAt bs i).2.1 + (getAt bs i).1, 0)
def strB (l : List UInt8) : ByteArray := ⟨l.toArray⟩

theorem GetText_spec (v : Value) (bs : List UInt8) (i most : Nat) (w : World) (hv : RdB w v bs) (hi : i ≤ bs.length) (hl : bs.length ≤ 1000000) :
    CallP Try.prog 70 #[v, .int .i64 i, .int .i64 most] (fun r w' => r = .tuple #[.string (strB (textAt bs i most).1), .int .i64 (textAt bs i most).2.1, .int .i64 (textAt bs i most).2.2] ∧ w = w') w := by
  obtain ⟨A, c, rfl, hc1, hc2, _⟩ := hv.slice
  refine ⟨S70.calls _ _ _ _ _ ?_⟩
  unfold S70
  refine (GetNum_spec _ bs i w hv hi hl).mono ?_
  rintro _ _ ⟨rfl, rfl⟩
  have hle := getAt_le bs i hi
  unfold textAt
  generalize getAt bs i = q at *
  obtain ⟨n, next, e⟩ := q
  simp only at hle ⊢
  (repeat with_reducible first|refine z_a ?_|refine z_b ?_|refine z_c ?_|refine z_d ?_|refine z_e ?_|refine z_f ?_|refine z_g ?_|refine z_h ?_|refine z_i ?_|refine z_j ?_|refine z_k ?_|refine z_l ?_|refine z_m (by omega) ?_|refine z_n (by omega) ?_|refine z_o (by omega) ?_|refine z_p (by omega) ?_|refine z_q (by omega) ?_|refine z_r (by omega) ?_|refine z_s (by omega) ?_|refine z_t (by omega) ?_|refine z_u (by omega) ?_|refine z_v (by omega) ?_|refine z_w (by omega) ?_|refine z_x (by omega) ?_|refine z_y (by omega) ?_|refine z_z (by omega) ?_|refine z_A ?_|refine z_B ?_|refine z_C ?_|refine z_D ?_|refine z_E ?_|refine z_F ?_|refine z_G ?_|refine z_h1 ?_|refine z_i1 ?_|refine z_j1 ?_|refine z_k1 (by omega) (by decide) ?_|refine z_l1 (by omega) (by decide) ?_|refine z_m1 (by omega) ?_|refine z_n1 (by omega) ?_|refine z_o1 (by omega) ?_|refine z_p1 ?_|refine z_q1 ?_|refine z_H ?_|refine z_I ?_|refine z_r1 ?_|refine z_s1 (by decide) ?_|refine z_t1 (by decide) ?_)
  (first | refine bi_lss_c (fun h => ?_) (fun h => ?_) | refine bi_eql_c (fun h => ?_) (fun h => ?_) | refine bi_neq_c (fun h => ?_) (fun h => ?_) | refine bi_gtr_c (fun h => ?_) (fun h => ?_) | refine bi_leq_c (fun h => ?_) (fun h => ?_) | refine bi_geq_c (fun h => ?_) (fun h => ?_) | refine bi_seql_c (fun h => ?_) (fun h => ?_) | refine bi_sneq_c (fun h => ?_) (fun h => ?_))
  · (repeat with_reducible first|refine z_a ?_|refine z_b ?_|refine z_c ?_|refine z_d ?_|refine z_e ?_|refine z_f ?_|refine z_g ?_|refine z_h ?_|refine z_i ?_|refine z_j ?_|refine z_k ?_|refine z_l ?_|refine z_m (by omega) ?_|refine z_n (by omega) ?_|refine z_o (by omega) ?_|refine z_p (by omega) ?_|refine z_q (by omega) ?_|refine z_r (by omega) ?_|refine z_s (by omega) ?_|refine z_t (by omega) ?_|refine z_u (by omega) ?_|refine z_v (by omega) ?_|refine z_w (by omega) ?_|refine z_x (by omega) ?_|refine z_y (by omega) ?_|refine z_z (by omega) ?_|refine z_A ?_|refine z_B ?_|refine z_C ?_|refine z_D ?_|refine z_E ?_|refine z_F ?_|refine z_G ?_|refine z_h1 ?_|refine z_i1 ?_|refine z_j1 ?_|refine z_k1 (by omega) (by decide) ?_|refine z_l1 (by omega) (by decide) ?_|refine z_m1 (by omega) ?_|refine z_n1 (by omega) ?_|refine z_o1 (by omega) ?_|refine z_p1 ?_|refine z_q1 ?_|refine z_H ?_|refine z_I ?_|refine z_r1 ?_|refine z_s1 (by decide) ?_|refine z_t1 (by decide) ?_)
    rw [if_pos (by omega)]
    exact ⟨rfl, rfl⟩
  (repeat with_reducible first|refine z_a ?_|refine z_b ?_|refine z_c ?_|refine z_d ?_|refine z_e ?_|refine z_f ?_|refine z_g ?_|refine z_h ?_|refine z_i ?_|refine z_j ?_|refine z_k ?_|refine z_l ?_|refine z_m (by omega) ?_|refine z_n (by omega) ?_|refine z_o (by omega) ?_|refine z_p (by omega) ?_|refine z_q (by omega) ?_|refine z_r (by omega) ?_|refine z_s (by omega) ?_|refine z_t (by omega) ?_|refine z_u (by omega) ?_|refine z_v (by omega) ?_|refine z_w (by omega) ?_|refine z_x (by omega) ?_|refine z_y (by omega) ?_|refine z_z (by omega) ?_|refine z_A ?_|refine z_B ?_|refine z_C ?_|refine z_D ?_|refine z_E ?_|refine z_F ?_|refine z_G ?_|refine z_h1 ?_|refine z_i1 ?_|refine z_j1 ?_|refine z_k1 (by omega) (by decide) ?_|refine z_l1 (by omega) (by decide) ?_|refine z_m1 (by omega) ?_|refine z_n1 (by omega) ?_|refine z_o1 (by omega) ?_|refine z_p1 ?_|refine z_q1 ?_|refine z_H ?_|refine z_I ?_|refine z_r1 ?_|refine z_s1 (by decide) ?_|refine z_t1 (by decide) ?_)
  have he : e = 0 := by omega
  subst he
  have hn := hle rfl
  (first | refine bi_lss_c (fun h => ?_) (fun h => ?_) | refine bi_eql_c (fun h => ?_) (fun h => ?_) | refine bi_neq_c (fun h => ?_) (fun h => ?_) | refine bi_gtr_c (fun h => ?_) (fun h => ?_) | refine bi_leq_c (fun h => ?_) (fun h => ?_) | refine bi_geq_c (fun h => ?_) (fun h => ?_) | refine bi_seql_c (fun h => ?_) (fun h => ?_) | refine bi_sneq_c (fun h => ?_) (fun h => ?_))
  · (repeat with_reducible first|refine z_a ?_|refine z_b ?_|refine z_c ?_|refine z_d ?_|refine z_e ?_|refine z_f ?_|refine z_g ?_|refine z_h ?_|refine z_i ?_|refine z_j ?_|refine z_k ?_|refine z_l ?_|refine z_m (by omega) ?_|refine z_n (by omega) ?_|refine z_o (by omega) ?_|refine z_p (by omega) ?_|refine z_q (by omega) ?_|refine z_r (by omega) ?_|refine z_s (by omega) ?_|refine z_t (by omega) ?_|refine z_u (by omega) ?_|refine z_v (by omega) ?_|refine z_w (by omega) ?_|refine z_x (by omega) ?_|refine z_y (by omega) ?_|refine z_z (by omega) ?_|refine z_A ?_|refine z_B ?_|refine z_C ?_|refine z_D ?_|refine z_E ?_|refine z_F ?_|refine z_G ?_|refine z_h1 ?_|refine z_i1 ?_|refine z_j1 ?_|refine z_k1 (by omega) (by decide) ?_|refine z_l1 (by omega) (by decide) ?_|refine z_m1 (by omega) ?_|refine z_n1 (by omega) ?_|refine z_o1 (by omega) ?_|refine z_p1 ?_|refine z_q1 ?_|refine z_H ?_|refine z_I ?_|refine z_r1 ?_|refine z_s1 (by decide) ?_|refine z_t1 (by decide) ?_)
    rw [if_neg (by omega), if_pos (by omega)]
    exact ⟨rfl, rfl⟩
  (repeat with_reducible first | refine ln undB ?_|refine z_a ?_|refine z_b ?_|refine z_c ?_|refine z_d ?_|refine z_e ?_|refine z_f ?_|refine z_g ?_|refine z_h ?_|refine z_i ?_|refine z_j ?_|refine z_k ?_|refine z_l ?_|refine z_m (by omega) ?_|refine z_n (by omega) ?_|refine z_o (by omega) ?_|refine z_p (by omega) ?_|refine z_q (by omega) ?_|refine z_r (by omega) ?_|refine z_s (by omega) ?_|refine z_t (by omega) ?_|refine z_u (by omega) ?_|refine z_v (by omega) ?_|refine z_w (by omega) ?_|refine z_x (by omega) ?_|refine z_y (by omega) ?_|refine z_z (by omega) ?_|refine z_A ?_|refine z_B ?_|refine z_C ?_|refine z_D ?_|refine z_E ?_|refine z_F ?_|refine z_G ?_|refine z_h1 ?_|refine z_i1 ?_|refine z_j1 ?_|refine z_k1 (by omega) (by decide) ?_|refine z_l1 (by omega) (by decide) ?_|refine z_m1 (by omega) ?_|refine z_n1 (by omega) ?_|refine z_o1 (by omega) ?_|refine z_p1 ?_|refine z_q1 ?_|refine z_H ?_|refine z_I ?_|refine z_r1 ?_|refine z_s1 (by decide) ?_|refine z_t1 (by decide) ?_)
  (first | refine bi_lss_c (fun h => ?_) (fun h => ?_) | refine bi_eql_c (fun h => ?_) (fun h => ?_) | refine bi_neq_c (fun h => ?_) (fun h => ?_) | refine bi_gtr_c (fun h => ?_) (fun h => ?_) | refine bi_leq_c (fun h => ?_) (fun h => ?_) | refine bi_geq_c (fun h => ?_) (fun h => ?_) | refine bi_seql_c (fun h => ?_) (fun h => ?_) | refine bi_sneq_c (fun h => ?_) (fun h => ?_))
  · (repeat with_reducible first|refine z_a ?_|refine z_b ?_|refine z_c ?_|refine z_d ?_|refine z_e ?_|refine z_f ?_|refine z_g ?_|refine z_h ?_|refine z_i ?_|refine z_j ?_|refine z_k ?_|refine z_l ?_|refine z_m (by omega) ?_|refine z_n (by omega) ?_|refine z_o (by omega) ?_|refine z_p (by omega) ?_|refine z_q (by omega) ?_|refine z_r (by omega) ?_|refine z_s (by omega) ?_|refine z_t (by omega) ?_|refine z_u (by omega) ?_|refine z_v (by omega) ?_|refine z_w (by omega) ?_|refine z_x (by omega) ?_|refine z_y (by omega) ?_|refine z_z (by omega) ?_|refine z_A ?_|refine z_B ?_|refine z_C ?_|refine z_D ?_|refine z_E ?_|refine z_F ?_|refine z_G ?_|refine z_h1 ?_|refine z_i1 ?_|refine z_j1 ?_|refine z_k1 (by omega) (by decide) ?_|refine z_l1 (by omega) (by decide) ?_|refine z_m1 (by omega) ?_|refine z_n1 (by omega) ?_|refine z_o1 (by omega) ?_|refine z_p1 ?_|refine z_q1 ?_|refine z_H ?_|refine z_I ?_|refine z_r1 ?_|refine z_s1 (by decide) ?_|refine z_t1 (by decide) ?_)
    rw [if_neg (by omega), if_neg (by omega), if_pos (by omega)]
    exact ⟨rfl, rfl⟩
  (repeat with_reducible first|refine z_a ?_|refine z_b ?_|refine z_c ?_|refine z_d ?_|refine z_e ?_|refine z_f ?_|refine z_g ?_|refine z_h ?_|refine z_i ?_|refine z_j ?_|refine z_k ?_|refine z_l ?_|refine z_m (by omega) ?_|refine z_n (by omega) ?_|refine z_o (by omega) ?_|refine z_p (by omega) ?_|refine z_q (by omega) ?_|refine z_r (by omega) ?_|refine z_s (by omega) ?_|refine z_t (by omega) ?_|refine z_u (by omega) ?_|refine z_v (by omega) ?_|refine z_w (by omega) ?_|refine z_x (by omega) ?_|refine z_y (by omega) ?_|refine z_z (by omega) ?_|refine z_A ?_|refine z_B ?_|refine z_C ?_|refine z_D ?_|refine z_E ?_|refine z_F ?_|refine z_G ?_|refine z_h1 ?_|refine z_i1 ?_|refine z_j1 ?_|refine z_k1 (by omega) (by decide) ?_|refine z_l1 (by omega) (by decide) ?_|refine z_m1 (by omega) ?_|refine z_n1 (by omega) ?_|refine z_o1 (by omega) ?_|refine z_p1 ?_|refine z_q1 ?_|refine z_H ?_|refine z_I ?_|refine z_r1 ?_|refine z_s1 (by decide) ?_|refine z_t1 (by decide) ?_)
  rw [show ((next : Int) + (n : Int)) = ((next + n : Nat) : Int) from by omega]
  refine ctB undB szU8 hv (.at _ _) (.at _ _) (by omega) (by omega) ?_
  intro v2 hr2
  rw [show (bs.take (next + n)).drop next = (bs.drop next).take n from by rw [List.drop_take]; congr 1; omega] at hr2
  refine cvBS undB undU8 undT9 hr2 ?_
  (repeat with_reducible first|refine z_a ?_|refine z_b ?_|refine z_c ?_|refine z_d ?_|refine z_e ?_|refine z_f ?_|refine z_g ?_|refine z_h ?_|refine z_i ?_|refine z_j ?_|refine z_k ?_|refine z_l ?_|refine z_m (by omega) ?_|refine z_n (by omega) ?_|refine z_o (by omega) ?_|refine z_p (by omega) ?_|refine z_q (by omega) ?_|refine z_r (by omega) ?_|refine z_s (by omega) ?_|refine z_t (by omega) ?_|refine z_u (by omega) ?_|refine z_v (by omega) ?_|refine z_w (by omega) ?_|refine z_x (by omega) ?_|refine z_y (by omega) ?_|refine z_z (by omega) ?_|refine z_A ?_|refine z_B ?_|refine z_C ?_|refine z_D ?_|refine z_E ?_|refine z_F ?_|refine z_G ?_|refine z_h1 ?_|refine z_i1 ?_|refine z_j1 ?_|refine z_k1 (by omega) (by decide) ?_|refine z_l1 (by omega) (by decide) ?_|refine z_m1 (by omega) ?_|refine z_n1 (by omega) ?_|refine z_o1 (by omega) ?_|refine z_p1 ?_|refine z_q1 ?_|refine z_H ?_|refine z_I ?_|refine z_r1 ?_|refine z_s1 (by decide) ?_|refine z_t1 (by decide) ?_)
  rw [show ((next : Int) + (n : Int)) = ((next + n : Nat) : Int) from by omega]
  rw [if_neg (by omega), if_neg (by omega), if_neg (by omega)]
  exact ⟨rfl, rfl⟩

theorem textAt_le (bs : List UInt8) (i most : Nat) (hi : i ≤ bs.length) (h : (textAt bs i most).2.2 = 0) : (textAt bs i most).2.1 ≤ bs.length := by
  have hle := getAt_le bs i hi
  unfold textAt at *
  split at h
  · rename_i h1; exact absurd h h1
  rename_i h1
  split at h
  · simp at h
  rename_i h2
  split at h
  · simp at h
  rename_i h3
  rw [if_neg h1, if_neg h2, if_neg h3]
  have := hle (Classical.not_not.1 h1)
  simp only
  omega
theorem textAt_err (bs : List UInt8) (i most : Nat) (h : (textAt bs i most).2.2 ≠ 0) : textAt bs i most = ([], 0, (textAt bs i most).2.2) := by
  unfold textAt at *
  split
  · rfl
  split
  · rfl
  split
  · rfl
  rename_i h1 h2 h3
  rw [if_neg h1, if_neg h2, if_neg h3] at h
  exact absurd rfl h
/-- So many texts, one behind the other. -/
def textsFrom (bs : List UInt8) (most : Nat) : Nat → Nat → List (List UInt8) × Nat × Nat
  | 0, i => ([], i, 0)
  | k + 1, i => if (textAt bs i most).2.2 ≠ 0 then ([], 0, (textAt bs i most).2.2)
    else if (textsFrom bs most k (textAt bs i most).2.1).2.2 ≠ 0 then ([], 0, (textsFrom bs most k (textAt bs i most).2.1).2.2)
    else ((textAt bs i most).1 :: (textsFrom bs most k (textAt bs i most).2.1).1, (textsFrom bs most k (textAt bs i most).2.1).2.1, 0)
def textsAt (bs : List UInt8) (i count most : Nat) : List (List UInt8) × Nat × Nat :=
  if (getAt bs i).2.2 ≠ 0 then ([], 0, (getAt bs i).2.2) else if count < (getAt bs i).1 then ([], 0, 4) else textsFrom bs most (getAt bs i).1 (getAt bs i).2.1
def strs (l : List (List UInt8)) : List Value := l.map fun b => Value.string (strB b)
theorem textsFrom_err (bs : List UInt8) (most : Nat) : ∀ (k i : Nat), (textsFrom bs most k i).2.2 ≠ 0 → textsFrom bs most k i = ([], 0, (textsFrom bs most k i).2.2)
  | 0, i, h => absurd rfl h
  | k + 1, i, h => by
    rw [textsFrom] at h ⊢
    split
    · rfl
    rename_i h1
    rw [if_neg h1] at h
    split
    · rfl
    rename_i h2
    rw [if_neg h2] at h
    exact absurd rfl h

theorem GetTexts_spec (v : Value) (bs : List UInt8) (i count most : Nat) (w : World) (hv : RdB w v bs) (hi : i ≤ bs.length) (hl : bs.length ≤ 1000000) (hcount : count ≤ 1000000) :
    CallP Try.prog 61 #[v, .int .i64 i, .int .i64 count, .int .i64 most] (fun r w' => ∃ x, r = .tuple #[x, .int .i64 (textsAt bs i count most).2.1, .int .i64 (textsAt bs i count most).2.2] ∧ Own 9 w' x (strs (textsAt bs i count most).1) ∧ Fresh w.heap.size x ∧ Below w.heap.size w w') w := by
  obtain ⟨A, c, rfl, hc1, hc2, _⟩ := hv.slice
  have undTx : Try.prog.underlying 73 = some (.slice 9) := by kernel_rfl
  have infT9 : (Try.prog.info? 9).map (fun i => (i.zero, i.size, i.bytes)) = some (some (.string ⟨#[]⟩), 1, 16) := by kernel_rfl
  refine ⟨S61.calls _ _ _ _ _ _ ?_⟩
  unfold S61
  refine (GetNum_spec _ bs i w hv hi hl).mono ?_
  rintro _ _ ⟨rfl, rfl⟩
  have hle := getAt_le bs i hi
  unfold textsAt
  generalize getAt bs i = q at *
  obtain ⟨n, next, e⟩ := q
  simp only at hle ⊢
  (repeat with_reducible first|refine z_a ?_|refine z_b ?_|refine z_c ?_|refine z_d ?_|refine z_e ?_|refine z_f ?_|refine z_g ?_|refine z_h ?_|refine z_i ?_|refine z_j ?_|refine z_k ?_|refine z_l ?_|refine z_m (by omega) ?_|refine z_n (by omega) ?_|refine z_o (by omega) ?_|refine z_p (by omega) ?_|refine z_q (by omega) ?_|refine z_r (by omega) ?_|refine z_s (by omega) ?_|refine z_t (by omega) ?_|refine z_u (by omega) ?_|refine z_v (by omega) ?_|refine z_w (by omega) ?_|refine z_x (by omega) ?_|refine z_y (by omega) ?_|refine z_z (by omega) ?_|refine z_A ?_|refine z_B ?_|refine z_C ?_|refine z_D ?_|refine z_E ?_|refine z_F ?_|refine z_G ?_|refine z_h1 ?_|refine z_i1 ?_|refine z_j1 ?_|refine z_k1 (by omega) (by decide) ?_|refine z_l1 (by omega) (by decide) ?_|refine z_m1 (by omega) ?_|refine z_n1 (by omega) ?_|refine z_o1 (by omega) ?_|refine z_p1 ?_|refine z_q1 ?_|refine z_H ?_|refine z_I ?_|refine z_r1 ?_|refine z_s1 (by decide) ?_|refine z_t1 (by decide) ?_)
  refine JoinP.cut (fun vs w' => vs = [.int .i64 (if e = 0 ∧ count < n then 4 else e : Nat)] ∧ w = w') (fun J hJ => ?_) ?_
  · (first | refine bi_lss_c (fun h => ?_) (fun h => ?_) | refine bi_eql_c (fun h => ?_) (fun h => ?_) | refine bi_neq_c (fun h => ?_) (fun h => ?_) | refine bi_gtr_c (fun h => ?_) (fun h => ?_) | refine bi_leq_c (fun h => ?_) (fun h => ?_) | refine bi_geq_c (fun h => ?_) (fun h => ?_) | refine bi_seql_c (fun h => ?_) (fun h => ?_) | refine bi_sneq_c (fun h => ?_) (fun h => ?_))
    · (repeat with_reducible first|refine z_a ?_|refine z_b ?_|refine z_c ?_|refine z_d ?_|refine z_e ?_|refine z_f ?_|refine z_g ?_|refine z_h ?_|refine z_i ?_|refine z_j ?_|refine z_k ?_|refine z_l ?_|refine z_m (by omega) ?_|refine z_n (by omega) ?_|refine z_o (by omega) ?_|refine z_p (by omega) ?_|refine z_q (by omega) ?_|refine z_r (by omega) ?_|refine z_s (by omega) ?_|refine z_t (by omega) ?_|refine z_u (by omega) ?_|refine z_v (by omega) ?_|refine z_w (by omega) ?_|refine z_x (by omega) ?_|refine z_y (by omega) ?_|refine z_z (by omega) ?_|refine z_A ?_|refine z_B ?_|refine z_C ?_|refine z_D ?_|refine z_E ?_|refine z_F ?_|refine z_G ?_|refine z_h1 ?_|refine z_i1 ?_|refine z_j1 ?_|refine z_k1 (by omega) (by decide) ?_|refine z_l1 (by omega) (by decide) ?_|refine z_m1 (by omega) ?_|refine z_n1 (by omega) ?_|refine z_o1 (by omega) ?_|refine z_p1 ?_|refine z_q1 ?_|refine z_H ?_|refine z_I ?_|refine z_r1 ?_|refine z_s1 (by decide) ?_|refine z_t1 (by decide) ?_)
      (first | refine bi_lss_c (fun h => ?_) (fun h => ?_) | refine bi_eql_c (fun h => ?_) (fun h => ?_) | refine bi_neq_c (fun h => ?_) (fun h => ?_) | refine bi_gtr_c (fun h => ?_) (fun h => ?_) | refine bi_leq_c (fun h => ?_) (fun h => ?_) | refine bi_geq_c (fun h => ?_) (fun h => ?_) | refine bi_seql_c (fun h => ?_) (fun h => ?_) | refine bi_sneq_c (fun h => ?_) (fun h => ?_))
      · (repeat with_reducible first|refine z_a ?_|refine z_b ?_|refine z_c ?_|refine z_d ?_|refine z_e ?_|refine z_f ?_|refine z_g ?_|refine z_h ?_|refine z_i ?_|refine z_j ?_|refine z_k ?_|refine z_l ?_|refine z_m (by omega) ?_|refine z_n (by omega) ?_|refine z_o (by omega) ?_|refine z_p (by omega) ?_|refine z_q (by omega) ?_|refine z_r (by omega) ?_|refine z_s (by omega) ?_|refine z_t (by omega) ?_|refine z_u (by omega) ?_|refine z_v (by omega) ?_|refine z_w (by omega) ?_|refine z_x (by omega) ?_|refine z_y (by omega) ?_|refine z_z (by omega) ?_|refine z_A ?_|refine z_B ?_|refine z_C ?_|refine z_D ?_|refine z_E ?_|refine z_F ?_|refine z_G ?_|refine z_h1 ?_|refine z_i1 ?_|refine z_j1 ?_|refine z_k1 (by omega) (by decide) ?_|refine z_l1 (by omega) (by decide) ?_|refine z_m1 (by omega) ?_|refine z_n1 (by omega) ?_|refine z_o1 (by omega) ?_|refine z_p1 ?_|refine z_q1 ?_|refine z_H ?_|refine z_I ?_|refine z_r1 ?_|refine z_s1 (by decide) ?_|refine z_t1 (by decide) ?_)
        exact hJ _ _ ⟨by rw [if_pos ⟨by omega, by omega⟩]; rfl, rfl⟩
      · (repeat with_reducible first|refine z_a ?_|refine z_b ?_|refine z_c ?_|refine z_d ?_|refine z_e ?_|refine z_f ?_|refine z_g ?_|refine z_h ?_|refine z_i ?_|refine z_j ?_|refine z_k ?_|refine z_l ?_|refine z_m (by omega) ?_|refine z_n (by omega) ?_|refine z_o (by omega) ?_|refine z_p (by omega) ?_|refine z_q (by omega) ?_|refine z_r (by omega) ?_|refine z_s (by omega) ?_|refine z_t (by omega) ?_|refine z_u (by omega) ?_|refine z_v (by omega) ?_|refine z_w (by omega) ?_|refine z_x (by omega) ?_|refine z_y (by omega) ?_|refine z_z (by omega) ?_|refine z_A ?_|refine z_B ?_|refine z_C ?_|refine z_D ?_|refine z_E ?_|refine z_F ?_|refine z_G ?_|refine z_h1 ?_|refine z_i1 ?_|refine z_j1 ?_|refine z_k1 (by omega) (by decide) ?_|refine z_l1 (by omega) (by decide) ?_|refine z_m1 (by omega) ?_|refine z_n1 (by omega) ?_|refine z_o1 (by omega) ?_|refine z_p1 ?_|refine z_q1 ?_|refine z_H ?_|refine z_I ?_|refine z_r1 ?_|refine z_s1 (by decide) ?_|refine z_t1 (by decide) ?_)
        exact hJ _ _ ⟨by rw [if_neg (by omega)], rfl⟩
    · (repeat with_reducible first|refine z_a ?_|refine z_b ?_|refine z_c ?_|refine z_d ?_|refine z_e ?_|refine z_f ?_|refine z_g ?_|refine z_h ?_|refine z_i ?_|refine z_j ?_|refine z_k ?_|refine z_l ?_|refine z_m (by omega) ?_|refine z_n (by omega) ?_|refine z_o (by omega) ?_|refine z_p (by omega) ?_|refine z_q (by omega) ?_|refine z_r (by omega) ?_|refine z_s (by omega) ?_|refine z_t (by omega) ?_|refine z_u (by omega) ?_|refine z_v (by omega) ?_|refine z_w (by omega) ?_|refine z_x (by omega) ?_|refine z_y (by omega) ?_|refine z_z (by omega) ?_|refine z_A ?_|refine z_B ?_|refine z_C ?_|refine z_D ?_|refine z_E ?_|refine z_F ?_|refine z_G ?_|refine z_h1 ?_|refine z_i1 ?_|refine z_j1 ?_|refine z_k1 (by omega) (by decide) ?_|refine z_l1 (by omega) (by decide) ?_|refine z_m1 (by omega) ?_|refine z_n1 (by omega) ?_|refine z_o1 (by omega) ?_|refine z_p1 ?_|refine z_q1 ?_|refine z_H ?_|refine z_I ?_|refine z_r1 ?_|refine z_s1 (by decide) ?_|refine z_t1 (by decide) ?_)
      exact hJ _ _ ⟨by rw [if_neg (by omega)], rfl⟩
  rintro _ _ ⟨rfl, rfl⟩
  dsimp only [List.headD_cons, List.tail_cons]
  by_cases he : e = 0
  · subst he
    have hn := hle rfl
    by_cases hc : count < n
    · rw [if_pos ⟨rfl, hc⟩]
      (repeat with_reducible first|refine z_a ?_|refine z_b ?_|refine z_c ?_|refine z_d ?_|refine z_e ?_|refine z_f ?_|refine z_g ?_|refine z_h ?_|refine z_i ?_|refine z_j ?_|refine z_k ?_|refine z_l ?_|refine z_m (by omega) ?_|refine z_n (by omega) ?_|refine z_o (by omega) ?_|refine z_p (by omega) ?_|refine z_q (by omega) ?_|refine z_r (by omega) ?_|refine z_s (by omega) ?_|refine z_t (by omega) ?_|refine z_u (by omega) ?_|refine z_v (by omega) ?_|refine z_w (by omega) ?_|refine z_x (by omega) ?_|refine z_y (by omega) ?_|refine z_z (by omega) ?_|refine z_A ?_|refine z_B ?_|refine z_C ?_|refine z_D ?_|refine z_E ?_|refine z_F ?_|refine z_G ?_|refine z_h1 ?_|refine z_i1 ?_|refine z_j1 ?_|refine z_k1 (by omega) (by decide) ?_|refine z_l1 (by omega) (by decide) ?_|refine z_m1 (by omega) ?_|refine z_n1 (by omega) ?_|refine z_o1 (by omega) ?_|refine z_p1 ?_|refine z_q1 ?_|refine z_H ?_|refine z_I ?_|refine z_r1 ?_|refine z_s1 (by decide) ?_|refine z_t1 (by decide) ?_)
      rw [if_neg (by simp), if_pos hc]
      exact ⟨_, rfl, Own.nil 9 w, Fresh.nil _, Below.refl _ w⟩
    rw [if_neg (by omega), if_neg (by simp), if_neg hc]
    (repeat with_reducible first|refine z_a ?_|refine z_b ?_|refine z_c ?_|refine z_d ?_|refine z_e ?_|refine z_f ?_|refine z_g ?_|refine z_h ?_|refine z_i ?_|refine z_j ?_|refine z_k ?_|refine z_l ?_|refine z_m (by omega) ?_|refine z_n (by omega) ?_|refine z_o (by omega) ?_|refine z_p (by omega) ?_|refine z_q (by omega) ?_|refine z_r (by omega) ?_|refine z_s (by omega) ?_|refine z_t (by omega) ?_|refine z_u (by omega) ?_|refine z_v (by omega) ?_|refine z_w (by omega) ?_|refine z_x (by omega) ?_|refine z_y (by omega) ?_|refine z_z (by omega) ?_|refine z_A ?_|refine z_B ?_|refine z_C ?_|refine z_D ?_|refine z_E ?_|refine z_F ?_|refine z_G ?_|refine z_h1 ?_|refine z_i1 ?_|refine z_j1 ?_|refine z_k1 (by omega) (by decide) ?_|refine z_l1 (by omega) (by decide) ?_|refine z_m1 (by omega) ?_|refine z_n1 (by omega) ?_|refine z_o1 (by omega) ?_|refine z_p1 ?_|refine z_q1 ?_|refine z_H ?_|refine z_I ?_|refine z_r1 ?_|refine z_s1 (by decide) ?_|refine z_t1 (by decide) ?_)
    refine LoopP.inv3 (fun p x y w' => ∃ (k at_ : Nat) (acc : List (List UInt8)), k ≤ n ∧ at_ ≤ bs.length ∧ acc.length = k ∧ p = .int .i64 at_ ∧ y = .int .i64 k ∧ Own 9 w' x (strs acc) ∧ Fresh w.heap.size x ∧ Below w.heap.size w w' ∧
      textsFrom bs most n next = if (textsFrom bs most (n - k) at_).2.2 ≠ 0 then ([], 0, (textsFrom bs most (n - k) at_).2.2) else (acc ++ (textsFrom bs most (n - k) at_).1, (textsFrom bs most (n - k) at_).2.1, 0)) (fun _ _ y _ => n - (intOf y).toNat)
      ⟨0, next, [], by omega, hn.2, rfl, rfl, rfl, Own.nil 9 w, Fresh.nil _, Below.refl _ w, ?_⟩ ?_
    · rw [Nat.sub_zero]
      have := textsFrom_err bs most n next
      generalize textsFrom bs most n next = g at *
      obtain ⟨g1, g2, g3⟩ := g
      split
      · rename_i h0; exact this h0
      · rename_i h0; simp only at h0; have : g3 = 0 := Classical.not_not.1 h0; subst this; simp
    rintro _ x _ w1 ⟨k, at_, acc, hk, hat, hak, rfl, rfl, hox, hfx, hb1, hinv⟩ J hJ
    dsimp only [List.headD_cons, List.tail_cons]
    (first | refine bi_lss_c (fun h => ?_) (fun h => ?_) | refine bi_eql_c (fun h => ?_) (fun h => ?_) | refine bi_neq_c (fun h => ?_) (fun h => ?_) | refine bi_gtr_c (fun h => ?_) (fun h => ?_) | refine bi_leq_c (fun h => ?_) (fun h => ?_) | refine bi_geq_c (fun h => ?_) (fun h => ?_) | refine bi_seql_c (fun h => ?_) (fun h => ?_) | refine bi_sneq_c (fun h => ?_) (fun h => ?_))
    · have hk' : k < n := by omega
      have hnk : n - k = (n - (k + 1)) + 1 := by omega
      rw [hnk, textsFrom] at hinv
      (repeat with_reducible first|refine z_a ?_|refine z_b ?_|refine z_c ?_|refine z_d ?_|refine z_e ?_|refine z_f ?_|refine z_g ?_|refine z_h ?_|refine z_i ?_|refine z_j ?_|refine z_k ?_|refine z_l ?_|refine z_m (by omega) ?_|refine z_n (by omega) ?_|refine z_o (by omega) ?_|refine z_p (by omega) ?_|refine z_q (by omega) ?_|refine z_r (by omega) ?_|refine z_s (by omega) ?_|refine z_t (by omega) ?_|refine z_u (by omega) ?_|refine z_v (by omega) ?_|refine z_w (by omega) ?_|refine z_x (by omega) ?_|refine z_y (by omega) ?_|refine z_z (by omega) ?_|refine z_A ?_|refine z_B ?_|refine z_C ?_|refine z_D ?_|refine z_E ?_|refine z_F ?_|refine z_G ?_|refine z_h1 ?_|refine z_i1 ?_|refine z_j1 ?_|refine z_k1 (by omega) (by decide) ?_|refine z_l1 (by omega) (by decide) ?_|refine z_m1 (by omega) ?_|refine z_n1 (by omega) ?_|refine z_o1 (by omega) ?_|refine z_p1 ?_|refine z_q1 ?_|refine z_H ?_|refine z_I ?_|refine z_r1 ?_|refine z_s1 (by decide) ?_|refine z_t1 (by decide) ?_)
      refine (GetText_spec _ bs at_ most w1 (hv.below hb1) hat hl).mono ?_
      rintro _ _ ⟨rfl, rfl⟩
      have hte := textAt_err bs at_ most
      have htl := textAt_le bs at_ most hat
      generalize textAt bs at_ most = t at *
      obtain ⟨tb, tn, te⟩ := t
      simp only at hte htl hinv ⊢
      (repeat with_reducible first|refine z_a ?_|refine z_b ?_|refine z_c ?_|refine z_d ?_|refine z_e ?_|refine z_f ?_|refine z_g ?_|refine z_h ?_|refine z_i ?_|refine z_j ?_|refine z_k ?_|refine z_l ?_|refine z_m (by omega) ?_|refine z_n (by omega) ?_|refine z_o (by omega) ?_|refine z_p (by omega) ?_|refine z_q (by omega) ?_|refine z_r (by omega) ?_|refine z_s (by omega) ?_|refine z_t (by omega) ?_|refine z_u (by omega) ?_|refine z_v (by omega) ?_|refine z_w (by omega) ?_|refine z_x (by omega) ?_|refine z_y (by omega) ?_|refine z_z (by omega) ?_|refine z_A ?_|refine z_B ?_|refine z_C ?_|refine z_D ?_|refine z_E ?_|refine z_F ?_|refine z_G ?_|refine z_h1 ?_|refine z_i1 ?_|refine z_j1 ?_|refine z_k1 (by omega) (by decide) ?_|refine z_l1 (by omega) (by decide) ?_|refine z_m1 (by omega) ?_|refine z_n1 (by omega) ?_|refine z_o1 (by omega) ?_|refine z_p1 ?_|refine z_q1 ?_|refine z_H ?_|refine z_I ?_|refine z_r1 ?_|refine z_s1 (by decide) ?_|refine z_t1 (by decide) ?_)
      (first | refine bi_lss_c (fun h => ?_) (fun h => ?_) | refine bi_eql_c (fun h => ?_) (fun h => ?_) | refine bi_neq_c (fun h => ?_) (fun h => ?_) | refine bi_gtr_c (fun h => ?_) (fun h => ?_) | refine bi_leq_c (fun h => ?_) (fun h => ?_) | refine bi_geq_c (fun h => ?_) (fun h => ?_) | refine bi_seql_c (fun h => ?_) (fun h => ?_) | refine bi_sneq_c (fun h => ?_) (fun h => ?_))
      · (repeat with_reducible first|refine z_a ?_|refine z_b ?_|refine z_c ?_|refine z_d ?_|refine z_e ?_|refine z_f ?_|refine z_g ?_|refine z_h ?_|refine z_i ?_|refine z_j ?_|refine z_k ?_|refine z_l ?_|refine z_m (by omega) ?_|refine z_n (by omega) ?_|refine z_o (by omega) ?_|refine z_p (by omega) ?_|refine z_q (by omega) ?_|refine z_r (by omega) ?_|refine z_s (by omega) ?_|refine z_t (by omega) ?_|refine z_u (by omega) ?_|refine z_v (by omega) ?_|refine z_w (by omega) ?_|refine z_x (by omega) ?_|refine z_y (by omega) ?_|refine z_z (by omega) ?_|refine z_A ?_|refine z_B ?_|refine z_C ?_|refine z_D ?_|refine z_E ?_|refine z_F ?_|refine z_G ?_|refine z_h1 ?_|refine z_i1 ?_|refine z_j1 ?_|refine z_k1 (by omega) (by decide) ?_|refine z_l1 (by omega) (by decide) ?_|refine z_m1 (by omega) ?_|refine z_n1 (by omega) ?_|refine z_o1 (by omega) ?_|refine z_p1 ?_|refine z_q1 ?_|refine z_H ?_|refine z_I ?_|refine z_r1 ?_|refine z_s1 (by decide) ?_|refine z_t1 (by decide) ?_)
        have h1 : te ≠ 0 := by omega
        rw [if_pos h1] at hinv
        simp only at hinv
        rw [if_pos h1] at hinv
        rw [hinv]
        exact ⟨_, rfl, Own.nil 9 w1, Fresh.nil _, hb1⟩
      have h1 : te = 0 := by omega
      subst h1
      simp only [ne_eq, not_true_eq_false, if_false] at hinv
      (repeat with_reducible first|refine z_a ?_|refine z_b ?_|refine z_c ?_|refine z_d ?_|refine z_e ?_|refine z_f ?_|refine z_g ?_|refine z_h ?_|refine z_i ?_|refine z_j ?_|refine z_k ?_|refine z_l ?_|refine z_m (by omega) ?_|refine z_n (by omega) ?_|refine z_o (by omega) ?_|refine z_p (by omega) ?_|refine z_q (by omega) ?_|refine z_r (by omega) ?_|refine z_s (by omega) ?_|refine z_t (by omega) ?_|refine z_u (by omega) ?_|refine z_v (by omega) ?_|refine z_w (by omega) ?_|refine z_x (by omega) ?_|refine z_y (by omega) ?_|refine z_z (by omega) ?_|refine z_A ?_|refine z_B ?_|refine z_C ?_|refine z_D ?_|refine z_E ?_|refine z_F ?_|refine z_G ?_|refine z_h1 ?_|refine z_i1 ?_|refine z_j1 ?_|refine z_k1 (by omega) (by decide) ?_|refine z_l1 (by omega) (by decide) ?_|refine z_m1 (by omega) ?_|refine z_n1 (by omega) ?_|refine z_o1 (by omega) ?_|refine z_p1 ?_|refine z_q1 ?_|refine z_H ?_|refine z_I ?_|refine z_r1 ?_|refine z_s1 (by decide) ?_|refine z_t1 (by decide) ?_)
      refine lift (v := .slice (some ⟨w1.heap.size, 0, none⟩) 1 1) (w' := w1.alloc (.cells #[.string (strB tb)] 9)) (by kernel_rfl) ?_
      have ha := (Below.refl w1.heap.size w1).alloc (Nat.le_refl _) (.cells #[.string (strB tb)] 9)
      refine apF w.heap.size undTx infT9 (by rfl) (by decide) (hox.below ha) hfx (below_then hb1 ha).size (Own.new w1 9 [.string (strB tb)] (by simp)).rd (by simp [Value.oneCell']) (by simp [strs]; omega) ?_
      intro x2 w2 hox2 hfx2 hb2 _
      (repeat with_reducible first|refine z_a ?_|refine z_b ?_|refine z_c ?_|refine z_d ?_|refine z_e ?_|refine z_f ?_|refine z_g ?_|refine z_h ?_|refine z_i ?_|refine z_j ?_|refine z_k ?_|refine z_l ?_|refine z_m (by omega) ?_|refine z_n (by omega) ?_|refine z_o (by omega) ?_|refine z_p (by omega) ?_|refine z_q (by omega) ?_|refine z_r (by omega) ?_|refine z_s (by omega) ?_|refine z_t (by omega) ?_|refine z_u (by omega) ?_|refine z_v (by omega) ?_|refine z_w (by omega) ?_|refine z_x (by omega) ?_|refine z_y (by omega) ?_|refine z_z (by omega) ?_|refine z_A ?_|refine z_B ?_|refine z_C ?_|refine z_D ?_|refine z_E ?_|refine z_F ?_|refine z_G ?_|refine z_h1 ?_|refine z_i1 ?_|refine z_j1 ?_|refine z_k1 (by omega) (by decide) ?_|refine z_l1 (by omega) (by decide) ?_|refine z_m1 (by omega) ?_|refine z_n1 (by omega) ?_|refine z_o1 (by omega) ?_|refine z_p1 ?_|refine z_q1 ?_|refine z_H ?_|refine z_I ?_|refine z_r1 ?_|refine z_s1 (by decide) ?_|refine z_t1 (by decide) ?_)
      refine hJ _ _ _ _ ⟨k + 1, tn, acc ++ [tb], by omega, htl rfl, by simp; omega, rfl, by simp, by simpa [strs] using hox2, hfx2, (below_then hb1 ha).trans hb2, ?_⟩ (by simp [intOf]; omega)
      by_cases h0 : (textsFrom bs most (n - (k + 1)) tn).2.2 = 0
      · simp only [h0, not_true_eq_false, if_false] at hinv
        rw [hinv, if_neg (by simpa using h0)]
        simp
      · simp only [h0, not_false_eq_true, if_true] at hinv
        rw [hinv, if_pos h0]
    · have hkn : k = n := by omega
      subst hkn
      rw [Nat.sub_self, textsFrom, if_neg (by simp)] at hinv
      (repeat with_reducible first|refine z_a ?_|refine z_b ?_|refine z_c ?_|refine z_d ?_|refine z_e ?_|refine z_f ?_|refine z_g ?_|refine z_h ?_|refine z_i ?_|refine z_j ?_|refine z_k ?_|refine z_l ?_|refine z_m (by omega) ?_|refine z_n (by omega) ?_|refine z_o (by omega) ?_|refine z_p (by omega) ?_|refine z_q (by omega) ?_|refine z_r (by omega) ?_|refine z_s (by omega) ?_|refine z_t (by omega) ?_|refine z_u (by omega) ?_|refine z_v (by omega) ?_|refine z_w (by omega) ?_|refine z_x (by omega) ?_|refine z_y (by omega) ?_|refine z_z (by omega) ?_|refine z_A ?_|refine z_B ?_|refine z_C ?_|refine z_D ?_|refine z_E ?_|refine z_F ?_|refine z_G ?_|refine z_h1 ?_|refine z_i1 ?_|refine z_j1 ?_|refine z_k1 (by omega) (by decide) ?_|refine z_l1 (by omega) (by decide) ?_|refine z_m1 (by omega) ?_|refine z_n1 (by omega) ?_|refine z_o1 (by omega) ?_|refine z_p1 ?_|refine z_q1 ?_|refine z_H ?_|refine z_I ?_|refine z_r1 ?_|refine z_s1 (by decide) ?_|refine z_t1 (by decide) ?_)
      rw [hinv]
      exact ⟨x, rfl, by simpa using hox, hfx, hb1⟩
  · rw [if_neg (by omega)]
    (repeat with_reducible first|refine z_a ?_|refine z_b ?_|refine z_c ?_|refine z_d ?_|refine z_e ?_|refine z_f ?_|refine z_g ?_|refine z_h ?_|refine z_i ?_|refine z_j ?_|refine z_k ?_|refine z_l ?_|refine z_m (by omega) ?_|refine z_n (by omega) ?_|refine z_o (by omega) ?_|refine z_p (by omega) ?_|refine z_q (by omega) ?_|refine z_r (by omega) ?_|refine z_s (by omega) ?_|refine z_t (by omega) ?_|refine z_u (by omega) ?_|refine z_v (by omega) ?_|refine z_w (by omega) ?_|refine z_x (by omega) ?_|refine z_y (by omega) ?_|refine z_z (by omega) ?_|refine z_A ?_|refine z_B ?_|refine z_C ?_|refine z_D ?_|refine z_E ?_|refine z_F ?_|refine z_G ?_|refine z_h1 ?_|refine z_i1 ?_|refine z_j1 ?_|refine z_k1 (by omega) (by decide) ?_|refine z_l1 (by omega) (by decide) ?_|refine z_m1 (by omega) ?_|refine z_n1 (by omega) ?_|refine z_o1 (by omega) ?_|refine z_p1 ?_|refine z_q1 ?_|refine z_H ?_|refine z_I ?_|refine z_r1 ?_|refine z_s1 (by decide) ?_|refine z_t1 (by decide) ?_)
    rw [if_pos he]
    exact ⟨_, rfl, Own.nil 9 w, Fresh.nil _, Below.refl _ w⟩
theorem cvSB {P : Program} {K : Value → World → Prop} {w : World} {s d e : TypeId} (hs : P.underlying s = some .string) (hd : P.underlying d = some (.slice e)) (he : P.underlying e = some (.int .u8)) {b : ByteArray} (hbs : b.size ≤ 1000000)
    (k : ∀ v' w', RdB w' v' b.data.toList → Below w.heap.size w w' → K v' w') : LiftP P (convert s d (.string b)) K w := by
  have hge := grownCap_ge w b.size 0 e
  have hsz : b.data.toList.length = b.size := by rw [Array.length_toList]; rfl
  refine lift (Lib.run_convert_string_bytes w s d e b hs hd he) (k _ _ ⟨some ⟨w.heap.size, 0, none⟩, grownCap w b.size 0 e, ?_, ?_, ?_, fun i u hu => ⟨_, rfl, ?_⟩⟩ ?_)
  · rw [List.length_map, hsz]
  · rw [List.length_map, hsz]; exact hge
  · have := grownCap_le_maxLen w b.size 0 e (by simp only [maxLen]; omega)
    simp only [maxLen] at this
    omega
  · obtain ⟨hi, hu⟩ := List.getElem?_eq_some_iff.1 hu
    rw [List.length_map, hsz] at hi
    rw [add0, Nat.zero_add, Lib.bytesWorld_cell w e b i hi, ← hu, List.getElem_map]
    simp [u8, List.getD_eq_getElem?_getD, hsz, hi]
  · exact ⟨rfl, rfl, rfl, by rw [Lib.bytesWorld_size]; omega, fun k hk => Lib.bytesWorld_at_old w e b k hk⟩
end Go.Proofs.Ytcfncjejpjjhdaa.E
namespace Go.Proofs.Ytcfncjejpjjhdaa.E
open Go Go.RowKit
set_option linter.unusedSimpArgs false
set_option linter.unusedVariables false

theorem getAt_form (bs : List UInt8) (i : Nat) (h : (getAt bs i).2.2 = 0) : bs.drop i = Pack.num (getAt bs i).1 ++ bs.drop (getAt bs i).2.1 := by
  unfold getAt at *
  simp only at h ⊢
  obtain ⟨h1, _, h3, h4⟩ := Pack.getFrom_num _ 0 h
  rw [if_pos h, h1, ← List.drop_drop, List.take_append_drop]
theorem strB_list (l : List UInt8) : (strB l).data.toList = l := rfl
theorem textAt_form (bs : List UInt8) (i most : Nat) (hi : i ≤ bs.length) (h : (textAt bs i most).2.2 = 0) :
    bs.drop i = Pack.text (strB (textAt bs i most).1) ++ bs.drop (textAt bs i most).2.1 ∧ (textAt bs i most).1.length ≤ most := by
  have hle := getAt_le bs i hi
  have hf := getAt_form bs i
  unfold textAt at *
  split at h
  · rename_i h1; exact absurd h h1
  rename_i h1
  split at h
  · simp at h
  rename_i h2
  split at h
  · simp at h
  rename_i h3
  rw [if_neg h1, if_neg h2, if_neg h3]
  have := hle (Classical.not_not.1 h1)
  have hf := hf (Classical.not_not.1 h1)
  have hlen : ((bs.drop (getAt bs i).2.1).take (getAt bs i).1).length = (getAt bs i).1 := by
    rw [List.length_take, List.length_drop]; omega
  simp only
  refine ⟨?_, by omega⟩
  rw [Pack.text, strB_list, hlen, hf, List.append_assoc, ← List.drop_drop, List.take_append_drop]
theorem textsFrom_form (bs : List UInt8) (most : Nat) : ∀ (k i : Nat), i ≤ bs.length → (textsFrom bs most k i).2.2 = 0 →
    bs.drop i = ((textsFrom bs most k i).1.map fun b => Pack.text (strB b)).flatten ++ bs.drop (textsFrom bs most k i).2.1 ∧ (∀ s ∈ (textsFrom bs most k i).1, s.length ≤ most) ∧ (textsFrom bs most k i).1.length = k := by
  intro k
  induction k with
  | zero => intro i hi h; simp [textsFrom]
  | succ k ih =>
    intro i hi h
    rw [textsFrom] at h ⊢
    split at h
    · rename_i h1; exact absurd h h1
    rename_i h1
    split at h
    · rename_i h2; exact absurd h h2
    rename_i h2
    rw [if_neg h1, if_neg h2]
    have e1 := Classical.not_not.1 h1
    have e2 := Classical.not_not.1 h2
    obtain ⟨f1, f2⟩ := textAt_form bs i most hi e1
    obtain ⟨g1, g2, g3⟩ := ih _ (textAt_le bs i most hi e1) e2
    refine ⟨?_, ?_, by simp [g3]⟩
    · simp only [List.map_cons, List.flatten_cons, List.append_assoc]
      rw [← g1]; exact f1
    · intro s hs
      rcases List.mem_cons.1 hs with rfl | hs
      · exact f2
      · exact g2 s hs
theorem drop_then {α : Type} (bs : List α) (i : Nat) (a r : List α) (h : bs.drop i = a ++ r) : bs.drop (i + a.length) = r := by
  rw [← List.drop_drop, h, List.drop_left]
theorem getAt_num (bs : List UInt8) (i n : Nat) (r : List UInt8) (h : bs.drop i = Pack.num n ++ r) (hn : n ≤ 1099511627776) : getAt bs i = (n, i + (Pack.num n).length, 0) := by
  have := Pack.getFrom_of_num 0 n r (by simp; omega) (by omega) (by omega)
  unfold getAt
  rw [h, this]
  simp
theorem textAt_text (bs : List UInt8) (i most : Nat) (s : ByteArray) (r : List UInt8) (h : bs.drop i = Pack.text s ++ r) (hs : s.size ≤ most) (hm : most ≤ 1000000) : textAt bs i most = (s.data.toList, i + (Pack.text s).length, 0) := by
  have e : s.data.toList.length = s.size := by rw [Array.length_toList]; rfl
  have h' := h
  rw [Pack.text, List.append_assoc] at h'
  have h1 := getAt_num bs i _ _ h' (by omega)
  have h2 := drop_then _ _ _ _ h'
  have h3 : (bs.drop (i + (Pack.num s.data.toList.length).length)).length = (s.data.toList ++ r).length := by rw [h2]
  rw [List.length_drop, List.length_append] at h3
  unfold textAt
  rw [h1]
  simp only
  rw [if_neg (by omega), if_neg (by omega), if_neg (by omega), h2, List.take_left, Pack.text, List.length_append, Nat.add_assoc]
theorem textsFrom_texts (bs : List UInt8) (most : Nat) (hm : most ≤ 1000000) : ∀ (l : List ByteArray) (i : Nat) (r : List UInt8), bs.drop i = (l.map Pack.text).flatten ++ r → (∀ s ∈ l, s.size ≤ most) →
    textsFrom bs most l.length i = (l.map (·.data.toList), i + (l.map Pack.text).flatten.length, 0) := by
  intro l
  induction l with
  | nil => intro i r h hs; simp [textsFrom]
  | cons s l ih =>
    intro i r h hs
    have h' := h
    rw [List.map_cons, List.flatten_cons, List.append_assoc] at h'
    have h1 := textAt_text bs i most s _ h' (hs s (by simp)) hm
    have h2 := ih _ r (drop_then _ _ _ _ h') (fun t ht => hs t (by simp [ht]))
    rw [List.length_cons, textsFrom, h1]
    simp only
    rw [h2]
    simp only [ne_eq, not_true_eq_false, if_false, List.map_cons, List.flatten_cons, List.length_append, Nat.add_assoc]
theorem textsAt_form (bs : List UInt8) (i count most : Nat) (hi : i ≤ bs.length) (h : (textsAt bs i count most).2.2 = 0) :
    bs.drop i = Pack.texts ((textsAt bs i count most).1.map strB) ++ bs.drop (textsAt bs i count most).2.1 ∧ (textsAt bs i count most).1.length ≤ count ∧ (∀ s ∈ (textsAt bs i count most).1, s.length ≤ most) := by
  unfold textsAt at *
  split at h
  · rename_i h1; exact absurd h h1
  rename_i h1
  split at h
  · simp at h
  rename_i h2
  rw [if_neg h1, if_neg h2]
  have e1 := Classical.not_not.1 h1
  have hle := getAt_le bs i hi e1
  obtain ⟨g1, g2, g3⟩ := textsFrom_form bs most _ _ hle.2 h
  refine ⟨?_, by rw [g3]; omega, g2⟩
  rw [getAt_form bs i e1, g1, Pack.texts, List.length_map, g3, List.append_assoc, List.map_map]
  rfl
theorem textsFrom_le (bs : List UInt8) (most : Nat) : ∀ (k i : Nat), i ≤ bs.length → (textsFrom bs most k i).2.2 = 0 → (textsFrom bs most k i).2.1 ≤ bs.length
  | 0, i, hi, h => hi
  | k + 1, i, hi, h => by
    rw [textsFrom] at h ⊢
    split at h
    · rename_i h1; exact absurd h h1
    rename_i h1
    split at h
    · rename_i h2; exact absurd h h2
    rename_i h2
    rw [if_neg h1, if_neg h2]
    exact textsFrom_le bs most k _ (textAt_le bs i most hi (Classical.not_not.1 h1)) (Classical.not_not.1 h2)
theorem textsAt_le (bs : List UInt8) (i count most : Nat) (hi : i ≤ bs.length) (h : (textsAt bs i count most).2.2 = 0) : (textsAt bs i count most).2.1 ≤ bs.length := by
  unfold textsAt at *
  split at h
  · rename_i h1; exact absurd h h1
  rename_i h1
  split at h
  · simp at h
  rename_i h2
  rw [if_neg h1, if_neg h2]
  exact textsFrom_le bs most _ _ (getAt_le bs i hi (Classical.not_not.1 h1)).2 h
theorem textsAt_texts (bs : List UInt8) (i count most : Nat) (hm : most ≤ 1000000) (l : List ByteArray) (r : List UInt8) (h : bs.drop i = Pack.texts l ++ r) (hs : ∀ s ∈ l, s.size ≤ most) (hl : l.length ≤ count) (hc : count ≤ 1000000) :
    textsAt bs i count most = (l.map (·.data.toList), i + (Pack.texts l).length, 0) := by
  have h' := h
  rw [Pack.texts, List.append_assoc] at h'
  have h1 := getAt_num bs i _ _ h' (by omega)
  have h2 := drop_then _ _ _ _ h'
  unfold textsAt
  rw [h1]
  simp only
  rw [if_neg (by omega), if_neg (by omega), textsFrom_texts bs most hm l _ r h2 hs, Pack.texts, List.length_append, Nat.add_assoc]
end Go.Proofs.Ytcfncjejpjjhdaa.E
namespace Go.Proofs.Ytcfncjejpjjhdaa.E
set_option linter.unusedSimpArgs false
set_option linter.unusedVariables false

abbrev St := Nat × Bool
def rNum (bs : List UInt8) (most : Nat) (st : St) : Nat × St := if st.2 then (0, st) else ((getAt bs st.1).1, (getAt bs st.1).2.1, decide ((getAt bs st.1).2.2 ≠ 0 ∨ most < (getAt bs st.1).1))
def rTexts (bs : List UInt8) (st : St) : List Txt × St := if st.2 then ([], st) else ((textsAt bs st.1 bs.length bs.length).1, (textsAt bs st.1 bs.length bs.length).2.1, decide ((textsAt bs st.1 bs.length bs.length).2.2 ≠ 0))
def pairsT : List Txt → List Rg
  | a :: b :: r => (a, b) :: pairsT r
  | _ => []
def endsT (rs : List Rg) : List Txt := rs.flatMap fun r => [r.1, r.2]
def rFields (bs : List UInt8) : Nat → St → List Int × St
  | 0, st => ([], st)
  | k + 1, st => if st.2 then ([], st) else (((rNum bs 4 st).1 : Int) :: (rFields bs k (rNum bs 4 st).2).1, (rFields bs k (rNum bs 4 st).2).2)
/-- What is wrong with an index that was read. -/
def wrongL (x : Ln) (odd : Bool) : Prop := odd = true ∨ (x.st = 3 ∧ x.fs ≠ []) ∨ (x.st ≠ 3 ∧ ckI x.fs ≠ 0) ∨ x.st = 0 ∨ ¬ (x.st = 1 ↔ x.rs ≠ []) ∨ lst x.rs ≠ x.rs
def lineOf (bs : List UInt8) (st : St) : Ln × List Txt × St :=
  let s := rNum bs 3 st
  let k := rNum bs 2 s.2
  let f := rFields bs k.1 k.2
  let t := rTexts bs f.2
  (⟨f.1, s.1, pairsT t.1⟩, t.1, t.2)
open Classical in
noncomputable def rLine (bs : List UInt8) (st : St) : Ln × St := ((lineOf bs st).1, (lineOf bs st).2.2.1, (lineOf bs st).2.2.2 || decide (wrongL (lineOf bs st).1 (decide ((lineOf bs st).2.1.length % 2 = 1))))
noncomputable def rLines (bs : List UInt8) : Nat → St → BdV × St
  | 0, st => ([], st)
  | k + 1, st => if st.2 then ([], st) else ((rLine bs st).1 :: (rLines bs k (rLine bs st).2).1, (rLines bs k (rLine bs st).2).2)
noncomputable def loadB (bs : List UInt8) : Option BdV :=
  let n := rNum bs 6 (0, false)
  let r := rLines bs n.1 n.2
  if r.2.2 = true ∨ r.2.1 ≠ bs.length then none else some r.1
def saveL (x : Ln) : List UInt8 := Pack.num x.st.toNat ++ Pack.num x.fs.length ++ (x.fs.map fun n => Pack.num n.toNat).flatten ++ Pack.texts ((endsT x.rs).map strB)
def saveB (V : BdV) : List UInt8 := Pack.num V.length ++ (V.map saveL).flatten
theorem pairs_ends : ∀ rs : List Rg, pairsT (endsT rs) = rs
  | [] => rfl
  | r :: rs => by
    show pairsT (r.1 :: r.2 :: endsT rs) = _
    rw [pairsT, pairs_ends rs]
theorem ends_len (rs : List Rg) : (endsT rs).length = 2 * rs.length := by
  induction rs with
  | nil => rfl
  | cons r rs ih =>
    show (r.1 :: r.2 :: endsT rs).length = _
    simp only [List.length_cons, ih]; omega
theorem ends_pairs : ∀ l : List Txt, l.length % 2 ≠ 1 → endsT (pairsT l) = l
  | [], _ => rfl
  | [a], h => by simp at h
  | a :: b :: r, h => by
    rw [pairsT]
    show a :: b :: endsT (pairsT r) = _
    rw [ends_pairs r (by simp only [List.length_cons] at h; omega)]
theorem rNum_good {bs : List UInt8} {most : Nat} {st : St} (h : (rNum bs most st).2.2 = false) (hi : st.1 ≤ bs.length) :
    st.2 = false ∧ bs.drop st.1 = Pack.num (rNum bs most st).1 ++ bs.drop (rNum bs most st).2.1 ∧ (rNum bs most st).1 ≤ most ∧ (rNum bs most st).2.1 ≤ bs.length := by
  unfold rNum at *
  split at h
  · rename_i hb; rw [hb] at h; cases h
  · rename_i hb
    rw [if_neg hb]
    simp only [decide_eq_false_iff_not, not_or, Classical.not_not, Nat.not_lt] at h
    exact ⟨by simpa using hb, getAt_form bs _ h.1, h.2, (getAt_le bs _ hi h.1).2⟩
theorem rTexts_good {bs : List UInt8} {st : St} (h : (rTexts bs st).2.2 = false) (hi : st.1 ≤ bs.length) :
    st.2 = false ∧ bs.drop st.1 = Pack.texts ((rTexts bs st).1.map strB) ++ bs.drop (rTexts bs st).2.1 ∧ (rTexts bs st).1.length ≤ bs.length ∧ (rTexts bs st).2.1 ≤ bs.length := by
  unfold rTexts at *
  split at h
  · rename_i hb; rw [hb] at h; cases h
  · rename_i hb
    rw [if_neg hb]
    simp only [decide_eq_false_iff_not, ne_eq, Classical.not_not] at h
    obtain ⟨h1, h2, _⟩ := textsAt_form bs _ _ _ hi h
    exact ⟨by simpa using hb, h1, h2, textsAt_le bs _ _ _ hi h⟩
theorem rFields_good {bs : List UInt8} : ∀ {k : Nat} {st : St}, (rFields bs k st).2.2 = false → st.1 ≤ bs.length →
    st.2 = false ∧ bs.drop st.1 = ((rFields bs k st).1.map fun n => Pack.num n.toNat).flatten ++ bs.drop (rFields bs k st).2.1 ∧ (rFields bs k st).1.length = k ∧ (rFields bs k st).2.1 ≤ bs.length
  | 0, st, h, hi => ⟨h, by simp [rFields], rfl, hi⟩
  | k + 1, st, h, hi => by
    rw [rFields] at h ⊢
    split at h
    · rename_i hb; rw [hb] at h; cases h
    · rename_i hb
      rw [if_neg hb]
      simp only at h ⊢
      by_cases hg : (rNum bs 4 st).2.2 = false
      · obtain ⟨g1, g2, g3, g4⟩ := rNum_good hg hi
        obtain ⟨f1, f2, f3, f4⟩ := rFields_good h g4
        refine ⟨g1, ?_, by rw [List.length_cons, f3], f4⟩
        rw [g2, f2, List.map_cons, List.flatten_cons, List.append_assoc]
        rfl
      · exfalso
        have hg : (rNum bs 4 st).2.2 = true := by simpa using hg
        have : ∀ k, (rFields bs k (rNum bs 4 st).2).2.2 = true := fun k => by
          cases k with
          | zero => exact hg
          | succ k => rw [rFields, if_pos hg]; exact hg
        rw [this k] at h
        cases h
theorem badT {bs : List UInt8} (s : St) (hs : s.2 = true) : (rTexts bs s).2.2 = true := by unfold rTexts; rw [if_pos hs]; exact hs
theorem badF {bs : List UInt8} (k : Nat) (s : St) (hs : s.2 = true) : (rFields bs k s).2.2 = true := by
  cases k with
  | zero => exact hs
  | succ k => rw [rFields, if_pos hs]; exact hs
theorem badN {bs : List UInt8} (m : Nat) (s : St) (hs : s.2 = true) : (rNum bs m s).2.2 = true := by unfold rNum; rw [if_pos hs]; exact hs
theorem fls {b : Bool} (h : b = true → False) : b = false := by cases b with
  | false => rfl
  | true => exact (h rfl).elim
theorem rLine_aux {bs : List UInt8} {st : St} {a b : Nat × St} {f : List Int × St} {t : List Txt × St} (ha : rNum bs 3 st = a) (hb : rNum bs 2 a.2 = b) (hf : rFields bs b.1 b.2 = f) (ht : rTexts bs f.2 = t) (hT : t.2.2 = false) (h2 : ¬ wrongL ⟨f.1, a.1, pairsT t.1⟩ (decide (t.1.length % 2 = 1))) (hi : st.1 ≤ bs.length) :
    st.2 = false ∧ bs.drop st.1 = saveL ⟨f.1, a.1, pairsT t.1⟩ ++ bs.drop t.2.1 ∧ LnOk bs.length ⟨f.1, a.1, pairsT t.1⟩ ∧ t.2.1 ≤ bs.length := by
  have gF : f.2.2 = false := fls fun hc => by have := badT (bs := bs) _ hc; rw [ht, hT] at this; cases this
  have gK : b.2.2 = false := fls fun hc => by have := badF (bs := bs) b.1 _ hc; rw [hf, gF] at this; cases this
  have gS : a.2.2 = false := fls fun hc => by have := badN (bs := bs) 2 _ hc; rw [hb, gK] at this; cases this
  obtain ⟨s1, s2, s3, s4⟩ := rNum_good (bs := bs) (most := 3) (st := st) (by rw [ha]; exact gS) hi
  rw [ha] at s2 s3 s4
  obtain ⟨k1, k2, k3, k4⟩ := rNum_good (bs := bs) (most := 2) (st := a.2) (by rw [hb]; exact gK) s4
  rw [hb] at k2 k3 k4
  obtain ⟨f1, f2, f3, f4⟩ := rFields_good (bs := bs) (k := b.1) (st := b.2) (by rw [hf]; exact gF) k4
  rw [hf] at f2 f3 f4
  obtain ⟨t1, t2, t3, t4⟩ := rTexts_good (bs := bs) (st := f.2) (by rw [ht]; exact hT) f4
  rw [ht] at t2 t3 t4
  unfold wrongL at h2
  simp only [decide_eq_true_eq, not_or, Classical.not_not] at h2
  obtain ⟨w1, w2, w3, w4, w5, w6⟩ := h2
  refine ⟨s1, ?_, ?_, t4⟩
  · unfold saveL
    simp only
    rw [ends_pairs _ w1, s2, k2, f2, t2, f3]
    simp only [List.append_assoc]
    congr 1
  · have hst : (a.1 : Int) = 1 ∨ (a.1 : Int) = 2 ∨ (a.1 : Int) = 3 := by omega
    have hpl : (pairsT t.1).length ≤ t.1.length := by
      have := ends_len (pairsT t.1)
      rw [ends_pairs _ w1] at this
      omega
    refine ⟨hst, fun e => w5.1 e, fun e => ?_, fun e => ?_, fun e => ?_, ?_, by show (pairsT t.1).length ≤ _; omega⟩
    · exact Classical.byContradiction fun hn => e (w5.2 hn)
    · exact Classical.byContradiction fun hn => w2 ⟨e, hn⟩
    · exact Classical.byContradiction fun hn => w3 ⟨e, hn⟩
    · show Canon (pairsT t.1)
      rw [← w6]
      exact (lst_spec _).1
open Classical in
theorem rLine_good {bs : List UInt8} {st : St} (h : (rLine bs st).2.2 = false) (hi : st.1 ≤ bs.length) :
    st.2 = false ∧ bs.drop st.1 = saveL (rLine bs st).1 ++ bs.drop (rLine bs st).2.1 ∧ LnOk bs.length (rLine bs st).1 ∧ (rLine bs st).2.1 ≤ bs.length := by
  have h0 : ((lineOf bs st).2.2.2 || decide (wrongL (lineOf bs st).1 (decide ((lineOf bs st).2.1.length % 2 = 1)))) = false := h
  rw [Bool.or_eq_false_iff, decide_eq_false_iff_not] at h0
  exact rLine_aux rfl rfl rfl rfl h0.1 h0.2 hi
theorem rLines_good {bs : List UInt8} : ∀ {k : Nat} {st : St}, (rLines bs k st).2.2 = false → st.1 ≤ bs.length →
    st.2 = false ∧ bs.drop st.1 = ((rLines bs k st).1.map saveL).flatten ++ bs.drop (rLines bs k st).2.1 ∧ (rLines bs k st).1.length = k ∧ (∀ x ∈ (rLines bs k st).1, LnOk bs.length x) ∧ (rLines bs k st).2.1 ≤ bs.length
  | 0, st, h, hi => ⟨h, by simp [rLines], rfl, by simp [rLines], hi⟩
  | k + 1, st, h, hi => by
    rw [rLines] at h ⊢
    split at h
    · rename_i hb; rw [hb] at h; cases h
    · rename_i hb
      rw [if_neg hb]
      simp only at h ⊢
      by_cases hg : (rLine bs st).2.2 = false
      · obtain ⟨g1, g2, g3, g4⟩ := rLine_good hg hi
        obtain ⟨f1, f2, f3, f4, f5⟩ := rLines_good h g4
        refine ⟨g1, ?_, by rw [List.length_cons, f3], fun x hx => ?_, f5⟩
        · rw [g2, f2, List.map_cons, List.flatten_cons, List.append_assoc]
        · rcases List.mem_cons.1 hx with rfl | hx
          · exact g3
          · exact f4 x hx
      · exfalso
        have hg : (rLine bs st).2.2 = true := by simpa using hg
        have : ∀ k, (rLines bs k (rLine bs st).2).2.2 = true := fun k => by
          cases k with
          | zero => exact hg
          | succ k => rw [rLines, if_pos hg]; exact hg
        rw [this k] at h
        cases h
theorem load_form {bs : List UInt8} {V : BdV} (h : loadB bs = some V) : saveB V = bs ∧ BdOk bs.length V := by
  unfold loadB at h
  simp only at h
  split at h
  · cases h
  · rename_i hc
    simp only [not_or, Bool.not_eq_true, Classical.not_not] at hc
    obtain ⟨h1, h2⟩ := hc
    cases h
    have hN : (rNum bs 6 (0, false)).2.2 = false := by
      cases hq : (rNum bs 6 (0, false)).2.2 with
      | false => rfl
      | true =>
        have : ∀ k, (rLines bs k (rNum bs 6 (0, false)).2).2.2 = true := fun k => by
          cases k with
          | zero => exact hq
          | succ k => rw [rLines, if_pos hq]; exact hq
        rw [this] at h1
        cases h1
    obtain ⟨_, n2, n3, n4⟩ := rNum_good hN (Nat.zero_le _)
    obtain ⟨_, l2, l3, l4, _⟩ := rLines_good h1 n4
    refine ⟨?_, by rw [l3]; exact n3, l4⟩
    unfold saveB
    rw [l3]
    rw [h2, List.drop_length, List.append_nil] at l2
    rw [← l2, ← n2]
    rfl
theorem rNum_num {bs : List UInt8} {most i n : Nat} {r : List UInt8} (h : bs.drop i = Pack.num n ++ r) (hn : n ≤ most) (hm : most ≤ 1000000) : rNum bs most (i, false) = (n, i + (Pack.num n).length, false) := by
  have := getAt_num bs i n r h (by omega)
  unfold rNum
  simp only [Bool.false_eq_true, if_false, this]
  rw [decide_eq_false]
  omega
theorem rFields_nums {bs : List UInt8} : ∀ (fs : List Int) (i : Nat) (r : List UInt8), bs.drop i = (fs.map fun n => Pack.num n.toNat).flatten ++ r → (∀ n ∈ fs, 0 ≤ n ∧ n < 4) →
    rFields bs fs.length (i, false) = (fs, i + ((fs.map fun n => Pack.num n.toNat).flatten).length, false)
  | [], i, r, h, hf => by simp [rFields]
  | n :: fs, i, r, h, hf => by
    have hn := hf n (by simp)
    rw [List.map_cons, List.flatten_cons, List.append_assoc] at h
    have h1 := rNum_num (most := 4) h (by omega) (by omega)
    have h2 := rFields_nums fs _ r (drop_then _ _ _ _ h) fun m hm => hf m (by simp [hm])
    rw [List.length_cons, rFields, if_neg (by simp), h1]
    simp only
    rw [h2, List.map_cons, List.flatten_cons, List.length_append]
    simp only [Nat.add_assoc]
    rw [show ((n.toNat : Nat) : Int) = n by omega]
def shortR (r : Rg) : Prop := r.1.length ≤ 200 ∧ r.2.length ≤ 200
theorem strB_size (l : Txt) : (strB l).size = l.length := by
  show l.toArray.size = _
  simp
open Classical in
theorem rLine_save {bs : List UInt8} {i n : Nat} {x : Ln} {r : List UInt8} (h : bs.drop i = saveL x ++ r) (hx : LnOk n x) (hn : n ≤ 10000) (hs : ∀ q ∈ x.rs, shortR q) (hb : bs.length ≤ 1000000) : rLine bs (i, false) = (x, i + (saveL x).length, false) := by
  have h0 := h
  unfold saveL at h
  simp only [List.append_assoc] at h
  have hst : 0 ≤ x.st ∧ x.st ≤ 3 := by have := hx.st; omega
  have h1 := rNum_num (most := 3) h (by omega) (by omega)
  have d1 := drop_then _ _ _ _ h
  have hfl : x.fs.length ≤ 2 ∧ ∀ m ∈ x.fs, 0 ≤ m ∧ m < 4 := by
    by_cases h3 : x.st = 3
    · rw [hx.gone h3]; simp
    · have := ckI_len (hx.fs h3)
      exact ⟨this.2.1, this.2.2.1⟩
  have h2 := rNum_num (most := 2) d1 hfl.1 (by omega)
  have d2 := drop_then _ _ _ _ d1
  have h3 := rFields_nums x.fs _ _ d2 hfl.2
  have d3 := drop_then _ _ _ _ d2
  have hel := ends_len x.rs
  have hrl := hx.len
  have hdl : (Pack.texts ((endsT x.rs).map strB) ++ r).length ≤ bs.length := by
    rw [← d3, List.length_drop]; omega
  have hmem : ∀ t ∈ endsT x.rs, t.length ≤ (Pack.texts ((endsT x.rs).map strB)).length := fun t ht => by
    have : ∀ (l : List Txt), t ∈ l → t.length ≤ ((l.map fun b => Pack.text (strB b)).flatten).length := by
      intro l
      induction l with
      | nil => simp
      | cons a l ih =>
        intro hm
        rw [List.map_cons, List.flatten_cons, List.length_append]
        rcases List.mem_cons.1 hm with rfl | hm
        · have : (Pack.text (strB t)).length = (Pack.num (strB t).data.toList.length).length + t.length := by
            rw [Pack.text, List.length_append, strB_list]
          omega
        · have := ih hm; omega
    have h4 := this _ ht
    rw [Pack.texts, List.length_append, List.map_map]
    have e : ((endsT x.rs).map (Pack.text ∘ strB)) = (endsT x.rs).map fun b => Pack.text (strB b) := rfl
    rw [e]; omega
  have hcount : ∀ (l : List Txt), l.length ≤ ((l.map fun b => Pack.text (strB b)).flatten).length := by
    intro l
    induction l with
    | nil => simp
    | cons a l ih =>
      rw [List.map_cons, List.flatten_cons, List.length_append, List.length_cons]
      have : 1 ≤ (Pack.text (strB a)).length := by
        rw [Pack.text, List.length_append]
        have : 1 ≤ (Pack.num (strB a).data.toList.length).length := by
          by_cases hs : (strB a).data.toList.length ≤ 127
          · rw [Pack.num_small _ hs]; simp
          · rw [Pack.num_big _ hs]; simp
        omega
      omega
  have hc2 : (endsT x.rs).length ≤ (Pack.texts ((endsT x.rs).map strB)).length := by
    have := hcount (endsT x.rs)
    rw [Pack.texts, List.length_append, List.map_map]
    have e : ((endsT x.rs).map (Pack.text ∘ strB)) = (endsT x.rs).map fun b => Pack.text (strB b) := rfl
    rw [e]; omega
  rw [List.length_append] at hdl
  have h4 := textsAt_texts bs _ bs.length bs.length hb ((endsT x.rs).map strB) r d3 (fun s hs => by
    obtain ⟨t, ht, rfl⟩ := List.mem_map.1 hs
    rw [strB_size]
    have := hmem t ht
    omega) (by rw [List.length_map]; omega) hb
  have hmm : ((endsT x.rs).map strB).map (·.data.toList) = endsT x.rs := by
    rw [List.map_map]
    conv => rhs; rw [← List.map_id (endsT x.rs)]
    rfl
  rw [hmm] at h4
  have hl : lineOf bs (i, false) = (x, endsT x.rs, i + (saveL x).length, false) := by
    unfold lineOf
    rw [h1]
    simp only
    rw [h2]
    simp only
    rw [h3]
    simp only
    unfold rTexts
    simp only [Bool.false_eq_true, if_false]
    rw [h4]
    simp only [ne_eq, not_true_eq_false, decide_false, pairs_ends]
    refine Prod.ext ?_ (Prod.ext rfl (Prod.ext ?_ rfl))
    · show (⟨x.fs, ((x.st.toNat : Nat) : Int), x.rs⟩ : Ln) = x
      rw [show ((x.st.toNat : Nat) : Int) = x.st by omega]
    · show _ = i + (saveL x).length
      unfold saveL
      simp only [List.length_append]
      omega
  unfold rLine
  rw [hl]
  simp only [Bool.false_or]
  rw [decide_eq_false]
  unfold wrongL
  rw [hel]
  rintro (h5 | ⟨h5, h6⟩ | ⟨h5, h6⟩ | h5 | h5 | h5)
  · simp only [decide_eq_true_eq] at h5; omega
  · exact h6 (hx.gone h5)
  · exact h6 (hx.fs h5)
  · have := hx.st; omega
  · refine h5 ⟨hx.one, fun hne => Classical.byContradiction fun hc => hne (hx.no hc)⟩
  · exact h5 (lst_canon hx.canon)
theorem rLines_save {bs : List UInt8} {n : Nat} (hn : n ≤ 10000) (hb : bs.length ≤ 1000000) : ∀ (V : BdV) (i : Nat) (r : List UInt8), bs.drop i = (V.map saveL).flatten ++ r → (∀ x ∈ V, LnOk n x ∧ ∀ q ∈ x.rs, shortR q) →
    rLines bs V.length (i, false) = (V, i + ((V.map saveL).flatten).length, false)
  | [], i, r, h, hx => by simp [rLines]
  | x :: V, i, r, h, hx => by
    rw [List.map_cons, List.flatten_cons, List.append_assoc] at h
    have h1 := rLine_save h (hx x (by simp)).1 hn (hx x (by simp)).2 hb
    have h2 := rLines_save hn hb V _ r (drop_then _ _ _ _ h) fun y hy => hx y (by simp [hy])
    rw [List.length_cons, rLines, if_neg (by simp), h1]
    simp only
    rw [h2, List.map_cons, List.flatten_cons, List.length_append]
    simp only [Nat.add_assoc]
theorem load_save {n : Nat} {V : BdV} (h : BdOk n V) (hn : n ≤ 10000) (hs : ∀ x ∈ V, ∀ q ∈ x.rs, shortR q) (hb : (saveB V).length ≤ 1000000) : loadB (saveB V) = some V := by
  have h0 : (saveB V).drop 0 = Pack.num V.length ++ ((V.map saveL).flatten ++ []) := by rw [List.drop_zero, List.append_nil]; rfl
  have h1 := rNum_num (most := 6) h0 h.1 (by omega)
  have h2 := rLines_save hn hb V _ [] (drop_then _ _ _ _ h0) fun x hx => ⟨h.2 x hx, hs x hx⟩
  unfold loadB
  rw [h1]
  simp only
  rw [h2]
  simp only
  rw [if_neg]
  unfold saveB
  rw [List.length_append]
  simp
theorem leftP_short {x r m : Rg} (h : m ∈ leftP x r) (hx : shortR x) (hr : shortR r) : shortR m := by
  have mt : ∀ {a b q : Rg}, meetP a b = some q → shortR a → shortR b → shortR q := fun {a b q} hm ha hb => by
    unfold meetP at hm
    split at hm
    · cases hm
    · cases hm
      unfold shortR at *
      unfold maxP lesserP
      simp only
      refine ⟨?_, ?_⟩
      · split <;> omega
      · repeat' split
        all_goals omega
  unfold leftP at h
  unfold shortR at hr
  rcases List.mem_append.1 h with h | h
  · split at h
    · exact mt (by simpa using h) hx ⟨by simp, hr.1⟩
    · simp at h
  · split at h
    · exact mt (by simpa using h) hx ⟨hr.2, by simp⟩
    · simp at h
theorem mns_short {l : List Rg} {r : Rg} (h : Canon l) (hl : ∀ q ∈ l, shortR q) (hr : shortR r) : ∀ q ∈ mns l r, shortR q := by
  by_cases he : emptyR r
  · have : IsMinus l r l := ⟨h, fun s => ⟨fun e => ⟨e, has_empty he s⟩, fun e => e.1⟩⟩
    rw [← this.eq]; exact hl
  · have : IsMinus l r (l.flatMap fun x => leftP x r) := minus_of ⟨h, fun _ => Iff.rfl⟩ he
    rw [← this.eq]
    intro q hq
    obtain ⟨x, hx, hq⟩ := List.mem_flatMap.1 hq
    exact leftP_short hq (hl x hx) hr
end Go.Proofs.Ytcfncjejpjjhdaa.E
