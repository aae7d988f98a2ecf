/- The reference's raise: walked. -/
import Derived.Test.YtmnaggdhkggjhaaOnV
namespace Go.Proofs.Ytmnaggdhkggjhaa.E
open Go Go.RowKit
set_option linter.unusedSimpArgs false
set_option linter.unusedVariables false

theorem flF_one (x : Int × Int) : ∀ u ∈ flF x, u.oneCell' = true := by
  intro u hu
  simp only [flF, List.mem_cons, List.not_mem_nil, or_false] at hu
  rcases hu with rfl | rfl <;> rfl
theorem oneF_one {c : Nat → Nat} {w : World} {x : OneM} (h : ElAt c w x) : ∀ u ∈ oneF x, u.oneCell' = true := by
  intro u hu
  simp only [oneF, List.mem_cons, List.not_mem_nil, or_false] at hu
  rcases hu with rfl | rfl | rfl | rfl | rfl | rfl | rfl <;> first | rfl | exact h.one | exact h.oneq
theorem set45a (a b u : Value) : (#[a, b] : Array Value).setIfInBounds 0 u = #[u, b] := rfl
theorem set45b (a b u : Value) : (#[a, b] : Array Value).setIfInBounds 1 u = #[a, u] := rfl
/-- The floors raised; the answers as they were. -/
structure MidAt (hu : Nat) (c : Nat → Nat) (w0 : World) (w : World) (g : Nat) (vL vF : Value) (L : List OneM) (F : List (Int × Int)) : Prop where
  ref : RefAt hu (col c w0.heap.size hu) w g vL vF L F
  turn : Turns (fun k => k = g) w0 w
theorem raiseF_step {hu : Nat} {c : Nat → Nat} {w : World} {g : Nat} {vL vF : Value} {L : List OneM} {F : List (Int × Int)} (id n : Int) (h : RefAt hu c w g vL vF L F) (hl : F.length ≤ 100000) {K : World → Prop}
    (k : ∀ vF' w', MidAt hu c w w' g vL vF' L (putF id n F) → K w') :
      LoopP (fun J_1 vs_1 w =>
        NextP Try.prog (nilChk (.pointer (some ⟨g, 0, none⟩))) (fun v17 w =>
        LiftP Try.prog (Instr.fieldAt 45 v17 1) (fun v18 w =>
        LiftP Try.prog (Instr.loadAt 43 v18) (fun v19 w =>
        NextP Try.prog (builtin Go.Builtin.len #[43] 3 #[false] #[v19]) (fun v20 w =>
        LiftP Try.prog (binS Go.BinOp.lss 3 (Go.Operand.tmp 15) (Go.Operand.tmp 20) (vs_1.tail.headD undef) v20) (fun v21 w =>
        GuardP v21 true (fun K w => K (.pointer (some ⟨g, 0, none⟩)) w) (fun v23 w =>
        GuardP v21 true (fun K w => NextP Try.prog (nilChk v23) K w) (fun v24 w =>
        GuardP v21 true (fun K w => LiftP Try.prog (Instr.fieldAt 45 v24 1) K w) (fun v25 w =>
        GuardP v21 true (fun K w => LiftP Try.prog (Instr.loadAt 43 v25) K w) (fun v26 w =>
        GuardP v21 true (fun K w => K (vs_1.tail.headD undef) w) (fun v27 w =>
        GuardP v21 true (fun K w => LiftP Try.prog (Instr.indexAt 43 v26 v27) K w) (fun v28 w =>
        GuardP v21 true (fun K w => LiftP Try.prog (Instr.fieldAt 84 v28 0) K w) (fun v29 w =>
        GuardP v21 true (fun K w => LiftP Try.prog (Instr.loadAt 3 v29) K w) (fun v30 w =>
        GuardP v21 true (fun K w => K (.int .i64 id) w) (fun v31 w =>
        GuardP v21 true (fun K w => LiftP Try.prog (binS Go.BinOp.lss 3 (Go.Operand.tmp 30) (Go.Operand.tmp 31) v30 v31) K w) (fun v32 w =>
        PickP v21 v32 (Go.Value.bool false) (fun v33 w =>
        CondP v33 (fun w =>
          NextP Try.prog (nilChk (.pointer (some ⟨g, 0, none⟩))) (fun v36 w =>
        LiftP Try.prog (Instr.fieldAt 45 v36 1) (fun v37 w =>
        LiftP Try.prog (Instr.loadAt 43 v37) (fun v38 w =>
        LiftP Try.prog (Instr.indexAt 43 v38 (vs_1.tail.headD undef)) (fun v40 w =>
        LiftP Try.prog (Instr.loadAt 84 v40) (fun v41 w =>
        LiftP Try.prog (Instr.buildSlice 43 1 #[(0, v41)]) (fun v42 w =>
        NextP Try.prog (builtin Go.Builtin.append #[43, 43] 43 #[false, false] #[(vs_1.headD undef), v42]) (fun v43 w =>
        LiftP Try.prog (binS Go.BinOp.add 3 (Go.Operand.tmp 44) (Go.Operand.const (Go.Value.int Go.IntKind.i64 1)) (vs_1.tail.headD undef) (Go.Value.int Go.IntKind.i64 1)) (fun v45 w =>
        J_1 [v43, v45] w) w) w) w) w) w) w) w) w) (fun w =>
          LiftP Try.prog (Instr.build 84 #[(0, (.int .i64 id)), (1, (.int .i64 n))]) (fun v49 w =>
      LiftP Try.prog (Instr.buildSlice 43 1 #[(0, v49)]) (fun v50 w =>
      NextP Try.prog (builtin Go.Builtin.append #[43, 43] 43 #[false, false] #[(vs_1.headD undef), v50]) (fun v51 w =>
      JoinP (fun J_2 w =>
        NextP Try.prog (nilChk (.pointer (some ⟨g, 0, none⟩))) (fun v54 w =>
        LiftP Try.prog (Instr.fieldAt 45 v54 1) (fun v55 w =>
        LiftP Try.prog (Instr.loadAt 43 v55) (fun v56 w =>
        NextP Try.prog (builtin Go.Builtin.len #[43] 3 #[false] #[v56]) (fun v57 w =>
        LiftP Try.prog (binS Go.BinOp.lss 3 (Go.Operand.tmp 52) (Go.Operand.tmp 57) (vs_1.tail.headD undef) v57) (fun v58 w =>
        GuardP v58 true (fun K w => K (.pointer (some ⟨g, 0, none⟩)) w) (fun v60 w =>
        GuardP v58 true (fun K w => NextP Try.prog (nilChk v60) K w) (fun v61 w =>
        GuardP v58 true (fun K w => LiftP Try.prog (Instr.fieldAt 45 v61 1) K w) (fun v62 w =>
        GuardP v58 true (fun K w => LiftP Try.prog (Instr.loadAt 43 v62) K w) (fun v63 w =>
        GuardP v58 true (fun K w => K (vs_1.tail.headD undef) w) (fun v64 w =>
        GuardP v58 true (fun K w => LiftP Try.prog (Instr.indexAt 43 v63 v64) K w) (fun v65 w =>
        GuardP v58 true (fun K w => LiftP Try.prog (Instr.fieldAt 84 v65 0) K w) (fun v66 w =>
        GuardP v58 true (fun K w => LiftP Try.prog (Instr.loadAt 3 v66) K w) (fun v67 w =>
        GuardP v58 true (fun K w => K (.int .i64 id) w) (fun v68 w =>
        GuardP v58 true (fun K w => LiftP Try.prog (binS Go.BinOp.eql 3 (Go.Operand.tmp 67) (Go.Operand.tmp 68) v67 v68) K w) (fun v69 w =>
        PickP v58 v69 (Go.Value.bool false) (fun v70 w =>
        CondP v70 (fun w =>
          LiftP Try.prog (binS Go.BinOp.add 3 (Go.Operand.tmp 71) (Go.Operand.const (Go.Value.int Go.IntKind.i64 1)) (vs_1.tail.headD undef) (Go.Value.int Go.IntKind.i64 1)) (fun v72 w =>
          J_2 [v72] w) w) (fun w =>
          J_2 [(vs_1.tail.headD undef)] w) w) w) w) w) w) w) w) w) w) w) w) w) w) w) w) w) w) (fun vs_2 w =>   -- [7]
      NextP Try.prog (nilChk (.pointer (some ⟨g, 0, none⟩))) (fun v76 w =>
      LiftP Try.prog (Instr.fieldAt 45 v76 1) (fun v77 w =>
      LiftP Try.prog (Instr.loadAt 43 v77) (fun v78 w =>
      LiftP Try.prog (Instr.sliceAt 43 v78 (some (vs_2.headD undef)) none none) (fun v80 w =>
      NextP Try.prog (builtin Go.Builtin.append #[43, 43] 43 #[false, false] #[v51, v80]) (fun v81 w =>
      NextP Try.prog (nilChk (.pointer (some ⟨g, 0, none⟩))) (fun v82 w =>
      LiftP Try.prog (Instr.fieldAt 45 v82 1) (fun v83 w =>
      LiftU Try.prog (Instr.storeAt 43 v83 v81) (fun v_ w =>
      K w) w) w) w) w) w) w) w) w) w) w) w) w) w) w) w) w) w) w) w) w) w) w) w) w) w) w) w) w) w) [(Go.Value.slice none 0 0), (Go.Value.int Go.IntKind.i64 0)] w := by
  have hF0 := h.rowF
  obtain ⟨A, cF, rfl, hcF, hmF⟩ := hF0.slice
  have hl0 := h.blk.lt
  refine LoopP.inv2 (fun fv iv w' => ∃ i : Nat, i ≤ F.length ∧ iv = .int .i64 i ∧ (∀ p ∈ F.take i, p.1 < id) ∧ w'.ownsRow 0 84 2 fv i ((F.take i).flatMap flF) ∧ Fresh w.heap.size fv ∧ Below w.heap.size w w') (fun _ iv _ => F.length - (intOf iv).toNat)
    ⟨0, by omega, rfl, by simp, ⟨by simp, .inl ⟨rfl, rfl⟩⟩, Fresh.nil _, Below.refl _ _⟩ ?_
  rintro fv _ w1 ⟨i, hi, rfl, hall, hown, hfr, hb1⟩ J hJ
  dsimp only [List.headD_cons, List.tail_cons]
  have h1 := h.below hb1
  have hF := h1.rowF
  have hs1 := hb1.size
  have c1 : w1.cell? ⟨g, 1, none⟩ = some (.slice A F.length cF) := h1.blk.cell 1
  (repeat (first | (with_reducible refine fd m1 (by decide) ?_) | (with_reducible refine ld one43 c1 ?_) | (with_reducible refine nck ?_) | (with_reducible refine cdT ?_) | (with_reducible refine cdF ?_) | (with_reducible refine gdY ?_) | (with_reducible refine gdFT ?_) | (with_reducible refine gdTF ?_) | (with_reducible refine gdU ?_) | (with_reducible refine gaY ?_) | (with_reducible refine gaFT ?_) | (with_reducible refine gaTF ?_) | (with_reducible refine pickT ?_) | (with_reducible refine pickF ?_) | (with_reducible refine bi_lss_t (by omega) ?_) | (with_reducible refine bi_lss_f (by omega) ?_) | (with_reducible refine bi_add64 (by omega) ?_) | (with_reducible refine bi_sub64 (by omega) ?_) | (with_reducible refine bi_eql_t (by omega) ?_) | (with_reducible refine bi_eql_f (by omega) ?_) | (with_reducible refine bi_neq_t (by omega) ?_) | (with_reducible refine bi_neq_f (by omega) ?_) | (with_reducible refine bi_gtr_t (by omega) ?_) | (with_reducible refine bi_gtr_f (by omega) ?_) | (with_reducible refine bi_leq_t (by omega) ?_) | (with_reducible refine bi_leq_f (by omega) ?_) | (with_reducible refine bi_geq_t (by omega) ?_) | (with_reducible refine bi_geq_f (by omega) ?_) | (with_reducible refine bi_xt0 ?_) | (with_reducible refine bi_xt1 ?_) | (with_reducible refine bi_xt2 ?_) | (with_reducible refine bi_xt3 ?_) | (with_reducible refine bi_T ?_) | (with_reducible refine bi_F ?_) | (with_reducible refine bi_not ?_) | (with_reducible refine bi_and ?_) | (with_reducible refine bi_or ?_) | (with_reducible refine bi_xor ?_) | (with_reducible refine bi_shr (by omega) (by decide) ?_) | (with_reducible refine bi_shl (by omega) (by decide) ?_) | (with_reducible refine bi_quo64 (by omega) ?_) | (with_reducible refine bi_rem64 (by omega) ?_) | (with_reducible refine bi_mul64 (by omega) ?_) | (with_reducible refine bi_neg ?_) | (with_reducible refine bi_un_xor32 ?_) | (with_reducible refine bi_add ?_) | (with_reducible refine bi_sub ?_) | (with_reducible refine bi_mul ?_) | (with_reducible refine bi_quo (by decide) ?_) | (with_reducible refine bi_rem (by decide) ?_)))
  refine ln und43 ?_
  refine bi_lss_c (fun hlt => ?a) (fun hlt => ?b)
  case' a =>
    have hi' : i < F.length := by omega
    obtain ⟨gF, cF', he, hcell⟩ := rowAt flF_len hF i hi' (by decide)
    cases he
    have d0 : w1.cell? ⟨gF, i * 2 + 0, none⟩ = some (.int .i64 F[i].1) := hcell 0 _ rfl
    (repeat (first | (with_reducible refine fd m1 (by decide) ?_) | (with_reducible refine ld one43 c1 ?_) | (with_reducible refine ixG und43 sz84 i hi' ?_) | (with_reducible refine fdG f0 (by decide) ?_) | (with_reducible refine ld one3 d0 ?_) | (with_reducible refine nck ?_) | (with_reducible refine cdT ?_) | (with_reducible refine cdF ?_) | (with_reducible refine gdY ?_) | (with_reducible refine gdFT ?_) | (with_reducible refine gdTF ?_) | (with_reducible refine gdU ?_) | (with_reducible refine gaY ?_) | (with_reducible refine gaFT ?_) | (with_reducible refine gaTF ?_) | (with_reducible refine pickT ?_) | (with_reducible refine pickF ?_) | (with_reducible refine bi_lss_t (by omega) ?_) | (with_reducible refine bi_lss_f (by omega) ?_) | (with_reducible refine bi_add64 (by omega) ?_) | (with_reducible refine bi_sub64 (by omega) ?_) | (with_reducible refine bi_eql_t (by omega) ?_) | (with_reducible refine bi_eql_f (by omega) ?_) | (with_reducible refine bi_neq_t (by omega) ?_) | (with_reducible refine bi_neq_f (by omega) ?_) | (with_reducible refine bi_gtr_t (by omega) ?_) | (with_reducible refine bi_gtr_f (by omega) ?_) | (with_reducible refine bi_leq_t (by omega) ?_) | (with_reducible refine bi_leq_f (by omega) ?_) | (with_reducible refine bi_geq_t (by omega) ?_) | (with_reducible refine bi_geq_f (by omega) ?_) | (with_reducible refine bi_xt0 ?_) | (with_reducible refine bi_xt1 ?_) | (with_reducible refine bi_xt2 ?_) | (with_reducible refine bi_xt3 ?_) | (with_reducible refine bi_T ?_) | (with_reducible refine bi_F ?_) | (with_reducible refine bi_not ?_) | (with_reducible refine bi_and ?_) | (with_reducible refine bi_or ?_) | (with_reducible refine bi_xor ?_) | (with_reducible refine bi_shr (by omega) (by decide) ?_) | (with_reducible refine bi_shl (by omega) (by decide) ?_) | (with_reducible refine bi_quo64 (by omega) ?_) | (with_reducible refine bi_rem64 (by omega) ?_) | (with_reducible refine bi_mul64 (by omega) ?_) | (with_reducible refine bi_neg ?_) | (with_reducible refine bi_un_xor32 ?_) | (with_reducible refine bi_add ?_) | (with_reducible refine bi_sub ?_) | (with_reducible refine bi_mul ?_) | (with_reducible refine bi_quo (by decide) ?_) | (with_reducible refine bi_rem (by decide) ?_)))
    refine bi_lss_c (fun h2 => ?a1) (fun h2 => ?a2)
  case a1 =>
    (repeat (first | (with_reducible refine fd m1 (by decide) ?_) | (with_reducible refine ld one43 c1 ?_) | (with_reducible refine ixG und43 sz84 i hi' ?_) | (with_reducible refine nck ?_) | (with_reducible refine cdT ?_) | (with_reducible refine cdF ?_) | (with_reducible refine gdY ?_) | (with_reducible refine gdFT ?_) | (with_reducible refine gdTF ?_) | (with_reducible refine gdU ?_) | (with_reducible refine gaY ?_) | (with_reducible refine gaFT ?_) | (with_reducible refine gaTF ?_) | (with_reducible refine pickT ?_) | (with_reducible refine pickF ?_) | (with_reducible refine bi_lss_t (by omega) ?_) | (with_reducible refine bi_lss_f (by omega) ?_) | (with_reducible refine bi_add64 (by omega) ?_) | (with_reducible refine bi_sub64 (by omega) ?_) | (with_reducible refine bi_eql_t (by omega) ?_) | (with_reducible refine bi_eql_f (by omega) ?_) | (with_reducible refine bi_neq_t (by omega) ?_) | (with_reducible refine bi_neq_f (by omega) ?_) | (with_reducible refine bi_gtr_t (by omega) ?_) | (with_reducible refine bi_gtr_f (by omega) ?_) | (with_reducible refine bi_leq_t (by omega) ?_) | (with_reducible refine bi_leq_f (by omega) ?_) | (with_reducible refine bi_geq_t (by omega) ?_) | (with_reducible refine bi_geq_f (by omega) ?_) | (with_reducible refine bi_xt0 ?_) | (with_reducible refine bi_xt1 ?_) | (with_reducible refine bi_xt2 ?_) | (with_reducible refine bi_xt3 ?_) | (with_reducible refine bi_T ?_) | (with_reducible refine bi_F ?_) | (with_reducible refine bi_not ?_) | (with_reducible refine bi_and ?_) | (with_reducible refine bi_or ?_) | (with_reducible refine bi_xor ?_) | (with_reducible refine bi_shr (by omega) (by decide) ?_) | (with_reducible refine bi_shl (by omega) (by decide) ?_) | (with_reducible refine bi_quo64 (by omega) ?_) | (with_reducible refine bi_rem64 (by omega) ?_) | (with_reducible refine bi_mul64 (by omega) ?_) | (with_reducible refine bi_neg ?_) | (with_reducible refine bi_un_xor32 ?_) | (with_reducible refine bi_add ?_) | (with_reducible refine bi_sub ?_) | (with_reducible refine bi_mul ?_) | (with_reducible refine bi_quo (by decide) ?_) | (with_reducible refine bi_rem (by decide) ?_)))
    refine ldR (us := flF F[i]) agg84 (fun j u hu => by rw [add0]; exact hcell j u hu) (by rw [sz84]; rfl) ?_
    refine apOne und43 inf84 (by rfl) (by decide) hown (flF_len _) (flF_one _) (by omega) (by omega) (by kernel_rfl) ?_
    intro v2 w2 ho2 hbl2 hT2
    (repeat (first | (with_reducible refine nck ?_) | (with_reducible refine cdT ?_) | (with_reducible refine cdF ?_) | (with_reducible refine gdY ?_) | (with_reducible refine gdFT ?_) | (with_reducible refine gdTF ?_) | (with_reducible refine gdU ?_) | (with_reducible refine gaY ?_) | (with_reducible refine gaFT ?_) | (with_reducible refine gaTF ?_) | (with_reducible refine pickT ?_) | (with_reducible refine pickF ?_) | (with_reducible refine bi_lss_t (by omega) ?_) | (with_reducible refine bi_lss_f (by omega) ?_) | (with_reducible refine bi_add64 (by omega) ?_) | (with_reducible refine bi_sub64 (by omega) ?_) | (with_reducible refine bi_eql_t (by omega) ?_) | (with_reducible refine bi_eql_f (by omega) ?_) | (with_reducible refine bi_neq_t (by omega) ?_) | (with_reducible refine bi_neq_f (by omega) ?_) | (with_reducible refine bi_gtr_t (by omega) ?_) | (with_reducible refine bi_gtr_f (by omega) ?_) | (with_reducible refine bi_leq_t (by omega) ?_) | (with_reducible refine bi_leq_f (by omega) ?_) | (with_reducible refine bi_geq_t (by omega) ?_) | (with_reducible refine bi_geq_f (by omega) ?_) | (with_reducible refine bi_xt0 ?_) | (with_reducible refine bi_xt1 ?_) | (with_reducible refine bi_xt2 ?_) | (with_reducible refine bi_xt3 ?_) | (with_reducible refine bi_T ?_) | (with_reducible refine bi_F ?_) | (with_reducible refine bi_not ?_) | (with_reducible refine bi_and ?_) | (with_reducible refine bi_or ?_) | (with_reducible refine bi_xor ?_) | (with_reducible refine bi_shr (by omega) (by decide) ?_) | (with_reducible refine bi_shl (by omega) (by decide) ?_) | (with_reducible refine bi_quo64 (by omega) ?_) | (with_reducible refine bi_rem64 (by omega) ?_) | (with_reducible refine bi_mul64 (by omega) ?_) | (with_reducible refine bi_neg ?_) | (with_reducible refine bi_un_xor32 ?_) | (with_reducible refine bi_add ?_) | (with_reducible refine bi_sub ?_) | (with_reducible refine bi_mul ?_) | (with_reducible refine bi_quo (by decide) ?_) | (with_reducible refine bi_rem (by decide) ?_)))
    refine hJ _ _ _ ⟨i + 1, by omega, by simp, fun p hp => ?_, ?_, hfr.one hs1 hbl2, hb1.trans (hT2.fresh hfr hs1)⟩ (by simp [intOf]; omega)
    · rw [List.take_succ_eq_append_getElem hi'] at hp
      rcases List.mem_append.1 hp with hp | hp
      · exact hall p hp
      · simp only [List.mem_cons, List.not_mem_nil, or_false] at hp
        subst hp; exact h2
    · rw [List.take_succ_eq_append_getElem hi', List.flatMap_append]
      simpa using ho2
  case' a2 => have hstop : ∀ h : i < F.length, ¬ F[i].1 < id := fun _ => h2
  case' b => have hstop : ∀ h : i < F.length, ¬ F[i].1 < id := fun h => absurd h (by omega)
  all_goals
    (repeat (first | (with_reducible refine nck ?_) | (with_reducible refine cdT ?_) | (with_reducible refine cdF ?_) | (with_reducible refine gdY ?_) | (with_reducible refine gdFT ?_) | (with_reducible refine gdTF ?_) | (with_reducible refine gdU ?_) | (with_reducible refine gaY ?_) | (with_reducible refine gaFT ?_) | (with_reducible refine gaTF ?_) | (with_reducible refine pickT ?_) | (with_reducible refine pickF ?_) | (with_reducible refine bi_lss_t (by omega) ?_) | (with_reducible refine bi_lss_f (by omega) ?_) | (with_reducible refine bi_add64 (by omega) ?_) | (with_reducible refine bi_sub64 (by omega) ?_) | (with_reducible refine bi_eql_t (by omega) ?_) | (with_reducible refine bi_eql_f (by omega) ?_) | (with_reducible refine bi_neq_t (by omega) ?_) | (with_reducible refine bi_neq_f (by omega) ?_) | (with_reducible refine bi_gtr_t (by omega) ?_) | (with_reducible refine bi_gtr_f (by omega) ?_) | (with_reducible refine bi_leq_t (by omega) ?_) | (with_reducible refine bi_leq_f (by omega) ?_) | (with_reducible refine bi_geq_t (by omega) ?_) | (with_reducible refine bi_geq_f (by omega) ?_) | (with_reducible refine bi_xt0 ?_) | (with_reducible refine bi_xt1 ?_) | (with_reducible refine bi_xt2 ?_) | (with_reducible refine bi_xt3 ?_) | (with_reducible refine bi_T ?_) | (with_reducible refine bi_F ?_) | (with_reducible refine bi_not ?_) | (with_reducible refine bi_and ?_) | (with_reducible refine bi_or ?_) | (with_reducible refine bi_xor ?_) | (with_reducible refine bi_shr (by omega) (by decide) ?_) | (with_reducible refine bi_shl (by omega) (by decide) ?_) | (with_reducible refine bi_quo64 (by omega) ?_) | (with_reducible refine bi_rem64 (by omega) ?_) | (with_reducible refine bi_mul64 (by omega) ?_) | (with_reducible refine bi_neg ?_) | (with_reducible refine bi_un_xor32 ?_) | (with_reducible refine bi_add ?_) | (with_reducible refine bi_sub ?_) | (with_reducible refine bi_mul ?_) | (with_reducible refine bi_quo (by decide) ?_) | (with_reducible refine bi_rem (by decide) ?_)))
    refine bd (cells := (flF (id, n)).toArray) (by kernel_rfl) ?_
    refine apOne und43 inf84 (by rfl) (by decide) hown (flF_len _) (flF_one _) (by omega) (by omega) (by kernel_rfl) ?_
    intro v2 w2 ho2 hbl2 hT2
    have hfr2 := hfr.one hs1 hbl2
    have hb2 := hb1.trans (hT2.fresh hfr hs1)
    have h2' := h.below hb2
    have hs2 := hb2.size
    have hF2 := h2'.rowF
    have e1 : w2.cell? ⟨g, 1, none⟩ = some (.slice _ F.length cF) := h2'.blk.cell 1
    refine JoinP.cut (fun xs w' => xs = [.int .i64 (if h : i < F.length then (if F[i].1 = id then i + 1 else i) else i : Nat)] ∧ w2 = w') (fun J2 hJ2 => ?_) (fun xs w' hI => ?_)
    · (repeat (first | (with_reducible refine fd m1 (by decide) ?_) | (with_reducible refine ld one43 e1 ?_) | (with_reducible refine nck ?_) | (with_reducible refine cdT ?_) | (with_reducible refine cdF ?_) | (with_reducible refine gdY ?_) | (with_reducible refine gdFT ?_) | (with_reducible refine gdTF ?_) | (with_reducible refine gdU ?_) | (with_reducible refine gaY ?_) | (with_reducible refine gaFT ?_) | (with_reducible refine gaTF ?_) | (with_reducible refine pickT ?_) | (with_reducible refine pickF ?_) | (with_reducible refine bi_lss_t (by omega) ?_) | (with_reducible refine bi_lss_f (by omega) ?_) | (with_reducible refine bi_add64 (by omega) ?_) | (with_reducible refine bi_sub64 (by omega) ?_) | (with_reducible refine bi_eql_t (by omega) ?_) | (with_reducible refine bi_eql_f (by omega) ?_) | (with_reducible refine bi_neq_t (by omega) ?_) | (with_reducible refine bi_neq_f (by omega) ?_) | (with_reducible refine bi_gtr_t (by omega) ?_) | (with_reducible refine bi_gtr_f (by omega) ?_) | (with_reducible refine bi_leq_t (by omega) ?_) | (with_reducible refine bi_leq_f (by omega) ?_) | (with_reducible refine bi_geq_t (by omega) ?_) | (with_reducible refine bi_geq_f (by omega) ?_) | (with_reducible refine bi_xt0 ?_) | (with_reducible refine bi_xt1 ?_) | (with_reducible refine bi_xt2 ?_) | (with_reducible refine bi_xt3 ?_) | (with_reducible refine bi_T ?_) | (with_reducible refine bi_F ?_) | (with_reducible refine bi_not ?_) | (with_reducible refine bi_and ?_) | (with_reducible refine bi_or ?_) | (with_reducible refine bi_xor ?_) | (with_reducible refine bi_shr (by omega) (by decide) ?_) | (with_reducible refine bi_shl (by omega) (by decide) ?_) | (with_reducible refine bi_quo64 (by omega) ?_) | (with_reducible refine bi_rem64 (by omega) ?_) | (with_reducible refine bi_mul64 (by omega) ?_) | (with_reducible refine bi_neg ?_) | (with_reducible refine bi_un_xor32 ?_) | (with_reducible refine bi_add ?_) | (with_reducible refine bi_sub ?_) | (with_reducible refine bi_mul ?_) | (with_reducible refine bi_quo (by decide) ?_) | (with_reducible refine bi_rem (by decide) ?_)))
      refine ln und43 ?_
      refine bi_lss_c (fun h3 => ?_) (fun h3 => ?_)
      · first
        | (exfalso; omega)
        | (have hi' : i < F.length := by omega
           obtain ⟨gF, cF', he, hcell⟩ := rowAt flF_len hF2 i hi' (by decide)
           cases he
           have d0 : w2.cell? ⟨gF, i * 2 + 0, none⟩ = some (.int .i64 F[i].1) := hcell 0 _ rfl
           (repeat (first | (with_reducible refine fd m1 (by decide) ?_) | (with_reducible refine ld one43 e1 ?_) | (with_reducible refine ixG und43 sz84 i hi' ?_) | (with_reducible refine fdG f0 (by decide) ?_) | (with_reducible refine ld one3 d0 ?_) | (with_reducible refine nck ?_) | (with_reducible refine cdT ?_) | (with_reducible refine cdF ?_) | (with_reducible refine gdY ?_) | (with_reducible refine gdFT ?_) | (with_reducible refine gdTF ?_) | (with_reducible refine gdU ?_) | (with_reducible refine gaY ?_) | (with_reducible refine gaFT ?_) | (with_reducible refine gaTF ?_) | (with_reducible refine pickT ?_) | (with_reducible refine pickF ?_) | (with_reducible refine bi_lss_t (by omega) ?_) | (with_reducible refine bi_lss_f (by omega) ?_) | (with_reducible refine bi_add64 (by omega) ?_) | (with_reducible refine bi_sub64 (by omega) ?_) | (with_reducible refine bi_eql_t (by omega) ?_) | (with_reducible refine bi_eql_f (by omega) ?_) | (with_reducible refine bi_neq_t (by omega) ?_) | (with_reducible refine bi_neq_f (by omega) ?_) | (with_reducible refine bi_gtr_t (by omega) ?_) | (with_reducible refine bi_gtr_f (by omega) ?_) | (with_reducible refine bi_leq_t (by omega) ?_) | (with_reducible refine bi_leq_f (by omega) ?_) | (with_reducible refine bi_geq_t (by omega) ?_) | (with_reducible refine bi_geq_f (by omega) ?_) | (with_reducible refine bi_xt0 ?_) | (with_reducible refine bi_xt1 ?_) | (with_reducible refine bi_xt2 ?_) | (with_reducible refine bi_xt3 ?_) | (with_reducible refine bi_T ?_) | (with_reducible refine bi_F ?_) | (with_reducible refine bi_not ?_) | (with_reducible refine bi_and ?_) | (with_reducible refine bi_or ?_) | (with_reducible refine bi_xor ?_) | (with_reducible refine bi_shr (by omega) (by decide) ?_) | (with_reducible refine bi_shl (by omega) (by decide) ?_) | (with_reducible refine bi_quo64 (by omega) ?_) | (with_reducible refine bi_rem64 (by omega) ?_) | (with_reducible refine bi_mul64 (by omega) ?_) | (with_reducible refine bi_neg ?_) | (with_reducible refine bi_un_xor32 ?_) | (with_reducible refine bi_add ?_) | (with_reducible refine bi_sub ?_) | (with_reducible refine bi_mul ?_) | (with_reducible refine bi_quo (by decide) ?_) | (with_reducible refine bi_rem (by decide) ?_)))
           refine bi_eql_c (fun h4 => ?_) (fun h4 => ?_)
           · (repeat (first | (with_reducible refine nck ?_) | (with_reducible refine cdT ?_) | (with_reducible refine cdF ?_) | (with_reducible refine gdY ?_) | (with_reducible refine gdFT ?_) | (with_reducible refine gdTF ?_) | (with_reducible refine gdU ?_) | (with_reducible refine gaY ?_) | (with_reducible refine gaFT ?_) | (with_reducible refine gaTF ?_) | (with_reducible refine pickT ?_) | (with_reducible refine pickF ?_) | (with_reducible refine bi_lss_t (by omega) ?_) | (with_reducible refine bi_lss_f (by omega) ?_) | (with_reducible refine bi_add64 (by omega) ?_) | (with_reducible refine bi_sub64 (by omega) ?_) | (with_reducible refine bi_eql_t (by omega) ?_) | (with_reducible refine bi_eql_f (by omega) ?_) | (with_reducible refine bi_neq_t (by omega) ?_) | (with_reducible refine bi_neq_f (by omega) ?_) | (with_reducible refine bi_gtr_t (by omega) ?_) | (with_reducible refine bi_gtr_f (by omega) ?_) | (with_reducible refine bi_leq_t (by omega) ?_) | (with_reducible refine bi_leq_f (by omega) ?_) | (with_reducible refine bi_geq_t (by omega) ?_) | (with_reducible refine bi_geq_f (by omega) ?_) | (with_reducible refine bi_xt0 ?_) | (with_reducible refine bi_xt1 ?_) | (with_reducible refine bi_xt2 ?_) | (with_reducible refine bi_xt3 ?_) | (with_reducible refine bi_T ?_) | (with_reducible refine bi_F ?_) | (with_reducible refine bi_not ?_) | (with_reducible refine bi_and ?_) | (with_reducible refine bi_or ?_) | (with_reducible refine bi_xor ?_) | (with_reducible refine bi_shr (by omega) (by decide) ?_) | (with_reducible refine bi_shl (by omega) (by decide) ?_) | (with_reducible refine bi_quo64 (by omega) ?_) | (with_reducible refine bi_rem64 (by omega) ?_) | (with_reducible refine bi_mul64 (by omega) ?_) | (with_reducible refine bi_neg ?_) | (with_reducible refine bi_un_xor32 ?_) | (with_reducible refine bi_add ?_) | (with_reducible refine bi_sub ?_) | (with_reducible refine bi_mul ?_) | (with_reducible refine bi_quo (by decide) ?_) | (with_reducible refine bi_rem (by decide) ?_)))
             refine hJ2 _ _ ⟨?_, rfl⟩
             rw [dif_pos hi', if_pos h4]; simp
           · (repeat (first | (with_reducible refine nck ?_) | (with_reducible refine cdT ?_) | (with_reducible refine cdF ?_) | (with_reducible refine gdY ?_) | (with_reducible refine gdFT ?_) | (with_reducible refine gdTF ?_) | (with_reducible refine gdU ?_) | (with_reducible refine gaY ?_) | (with_reducible refine gaFT ?_) | (with_reducible refine gaTF ?_) | (with_reducible refine pickT ?_) | (with_reducible refine pickF ?_) | (with_reducible refine bi_lss_t (by omega) ?_) | (with_reducible refine bi_lss_f (by omega) ?_) | (with_reducible refine bi_add64 (by omega) ?_) | (with_reducible refine bi_sub64 (by omega) ?_) | (with_reducible refine bi_eql_t (by omega) ?_) | (with_reducible refine bi_eql_f (by omega) ?_) | (with_reducible refine bi_neq_t (by omega) ?_) | (with_reducible refine bi_neq_f (by omega) ?_) | (with_reducible refine bi_gtr_t (by omega) ?_) | (with_reducible refine bi_gtr_f (by omega) ?_) | (with_reducible refine bi_leq_t (by omega) ?_) | (with_reducible refine bi_leq_f (by omega) ?_) | (with_reducible refine bi_geq_t (by omega) ?_) | (with_reducible refine bi_geq_f (by omega) ?_) | (with_reducible refine bi_xt0 ?_) | (with_reducible refine bi_xt1 ?_) | (with_reducible refine bi_xt2 ?_) | (with_reducible refine bi_xt3 ?_) | (with_reducible refine bi_T ?_) | (with_reducible refine bi_F ?_) | (with_reducible refine bi_not ?_) | (with_reducible refine bi_and ?_) | (with_reducible refine bi_or ?_) | (with_reducible refine bi_xor ?_) | (with_reducible refine bi_shr (by omega) (by decide) ?_) | (with_reducible refine bi_shl (by omega) (by decide) ?_) | (with_reducible refine bi_quo64 (by omega) ?_) | (with_reducible refine bi_rem64 (by omega) ?_) | (with_reducible refine bi_mul64 (by omega) ?_) | (with_reducible refine bi_neg ?_) | (with_reducible refine bi_un_xor32 ?_) | (with_reducible refine bi_add ?_) | (with_reducible refine bi_sub ?_) | (with_reducible refine bi_mul ?_) | (with_reducible refine bi_quo (by decide) ?_) | (with_reducible refine bi_rem (by decide) ?_)))
             refine hJ2 _ _ ⟨?_, rfl⟩
             rw [dif_pos hi', if_neg h4])
      · (repeat (first | (with_reducible refine nck ?_) | (with_reducible refine cdT ?_) | (with_reducible refine cdF ?_) | (with_reducible refine gdY ?_) | (with_reducible refine gdFT ?_) | (with_reducible refine gdTF ?_) | (with_reducible refine gdU ?_) | (with_reducible refine gaY ?_) | (with_reducible refine gaFT ?_) | (with_reducible refine gaTF ?_) | (with_reducible refine pickT ?_) | (with_reducible refine pickF ?_) | (with_reducible refine bi_lss_t (by omega) ?_) | (with_reducible refine bi_lss_f (by omega) ?_) | (with_reducible refine bi_add64 (by omega) ?_) | (with_reducible refine bi_sub64 (by omega) ?_) | (with_reducible refine bi_eql_t (by omega) ?_) | (with_reducible refine bi_eql_f (by omega) ?_) | (with_reducible refine bi_neq_t (by omega) ?_) | (with_reducible refine bi_neq_f (by omega) ?_) | (with_reducible refine bi_gtr_t (by omega) ?_) | (with_reducible refine bi_gtr_f (by omega) ?_) | (with_reducible refine bi_leq_t (by omega) ?_) | (with_reducible refine bi_leq_f (by omega) ?_) | (with_reducible refine bi_geq_t (by omega) ?_) | (with_reducible refine bi_geq_f (by omega) ?_) | (with_reducible refine bi_xt0 ?_) | (with_reducible refine bi_xt1 ?_) | (with_reducible refine bi_xt2 ?_) | (with_reducible refine bi_xt3 ?_) | (with_reducible refine bi_T ?_) | (with_reducible refine bi_F ?_) | (with_reducible refine bi_not ?_) | (with_reducible refine bi_and ?_) | (with_reducible refine bi_or ?_) | (with_reducible refine bi_xor ?_) | (with_reducible refine bi_shr (by omega) (by decide) ?_) | (with_reducible refine bi_shl (by omega) (by decide) ?_) | (with_reducible refine bi_quo64 (by omega) ?_) | (with_reducible refine bi_rem64 (by omega) ?_) | (with_reducible refine bi_mul64 (by omega) ?_) | (with_reducible refine bi_neg ?_) | (with_reducible refine bi_un_xor32 ?_) | (with_reducible refine bi_add ?_) | (with_reducible refine bi_sub ?_) | (with_reducible refine bi_mul ?_) | (with_reducible refine bi_quo (by decide) ?_) | (with_reducible refine bi_rem (by decide) ?_)))
        refine hJ2 _ _ ⟨?_, rfl⟩
        rw [dif_neg (by omega)]
    · obtain ⟨rfl, rfl⟩ := hI
      dsimp only [List.headD_cons, List.tail_cons]
      have hsplit := putF_split id n F i hi hall hstop
      generalize hj : (if h : i < F.length then (if F[i].1 = id then i + 1 else i) else i : Nat) = j at *
      have hjl : j ≤ F.length := by
        rw [← hj]
        by_cases hlt' : i < F.length
        · rw [dif_pos hlt']; split <;> omega
        · rw [dif_neg hlt']; exact hi
      (repeat (first | (with_reducible refine fd m1 (by decide) ?_) | (with_reducible refine ld one43 e1 ?_) | (with_reducible refine nck ?_) | (with_reducible refine cdT ?_) | (with_reducible refine cdF ?_) | (with_reducible refine gdY ?_) | (with_reducible refine gdFT ?_) | (with_reducible refine gdTF ?_) | (with_reducible refine gdU ?_) | (with_reducible refine gaY ?_) | (with_reducible refine gaFT ?_) | (with_reducible refine gaTF ?_) | (with_reducible refine pickT ?_) | (with_reducible refine pickF ?_) | (with_reducible refine bi_lss_t (by omega) ?_) | (with_reducible refine bi_lss_f (by omega) ?_) | (with_reducible refine bi_add64 (by omega) ?_) | (with_reducible refine bi_sub64 (by omega) ?_) | (with_reducible refine bi_eql_t (by omega) ?_) | (with_reducible refine bi_eql_f (by omega) ?_) | (with_reducible refine bi_neq_t (by omega) ?_) | (with_reducible refine bi_neq_f (by omega) ?_) | (with_reducible refine bi_gtr_t (by omega) ?_) | (with_reducible refine bi_gtr_f (by omega) ?_) | (with_reducible refine bi_leq_t (by omega) ?_) | (with_reducible refine bi_leq_f (by omega) ?_) | (with_reducible refine bi_geq_t (by omega) ?_) | (with_reducible refine bi_geq_f (by omega) ?_) | (with_reducible refine bi_xt0 ?_) | (with_reducible refine bi_xt1 ?_) | (with_reducible refine bi_xt2 ?_) | (with_reducible refine bi_xt3 ?_) | (with_reducible refine bi_T ?_) | (with_reducible refine bi_F ?_) | (with_reducible refine bi_not ?_) | (with_reducible refine bi_and ?_) | (with_reducible refine bi_or ?_) | (with_reducible refine bi_xor ?_) | (with_reducible refine bi_shr (by omega) (by decide) ?_) | (with_reducible refine bi_shl (by omega) (by decide) ?_) | (with_reducible refine bi_quo64 (by omega) ?_) | (with_reducible refine bi_rem64 (by omega) ?_) | (with_reducible refine bi_mul64 (by omega) ?_) | (with_reducible refine bi_neg ?_) | (with_reducible refine bi_un_xor32 ?_) | (with_reducible refine bi_add ?_) | (with_reducible refine bi_sub ?_) | (with_reducible refine bi_mul ?_) | (with_reducible refine bi_quo (by decide) ?_) | (with_reducible refine bi_rem (by decide) ?_)))
      refine ofPR (pr_cut und43 sz84 (.at _ _) .no .no hjl (fun _ => hjl) hcF (Nat.le_refl _) (.inl rfl)) ?_
      have hcut := hF2.cutFrom flF_len (by decide) j hjl
      refine apR w.heap.size und43 inf84 (by rfl) (by decide) ho2 hfr2 hs2 flF_len flF_one (fun _ _ _ h => h) hcut (by rw [List.length_drop]; omega) (by rw [List.length_drop]; omega) ?_
      intro v3 w3 ho3 hf3 hb3 _
      have hb3' := hb2.trans hb3
      have h3 := h.below hb3'
      have hs3 := hb3'.size
      have h1v : v3.oneCell' = true := by
        rcases ho3.2 with ⟨e, _⟩ | ⟨g3, c3, _, e, _⟩ <;> rw [e] <;> rfl
      (repeat (first | (with_reducible refine fd m1 (by decide) ?_) | (with_reducible refine nck ?_) | (with_reducible refine cdT ?_) | (with_reducible refine cdF ?_) | (with_reducible refine gdY ?_) | (with_reducible refine gdFT ?_) | (with_reducible refine gdTF ?_) | (with_reducible refine gdU ?_) | (with_reducible refine gaY ?_) | (with_reducible refine gaFT ?_) | (with_reducible refine gaTF ?_) | (with_reducible refine pickT ?_) | (with_reducible refine pickF ?_) | (with_reducible refine bi_lss_t (by omega) ?_) | (with_reducible refine bi_lss_f (by omega) ?_) | (with_reducible refine bi_add64 (by omega) ?_) | (with_reducible refine bi_sub64 (by omega) ?_) | (with_reducible refine bi_eql_t (by omega) ?_) | (with_reducible refine bi_eql_f (by omega) ?_) | (with_reducible refine bi_neq_t (by omega) ?_) | (with_reducible refine bi_neq_f (by omega) ?_) | (with_reducible refine bi_gtr_t (by omega) ?_) | (with_reducible refine bi_gtr_f (by omega) ?_) | (with_reducible refine bi_leq_t (by omega) ?_) | (with_reducible refine bi_leq_f (by omega) ?_) | (with_reducible refine bi_geq_t (by omega) ?_) | (with_reducible refine bi_geq_f (by omega) ?_) | (with_reducible refine bi_xt0 ?_) | (with_reducible refine bi_xt1 ?_) | (with_reducible refine bi_xt2 ?_) | (with_reducible refine bi_xt3 ?_) | (with_reducible refine bi_T ?_) | (with_reducible refine bi_F ?_) | (with_reducible refine bi_not ?_) | (with_reducible refine bi_and ?_) | (with_reducible refine bi_or ?_) | (with_reducible refine bi_xor ?_) | (with_reducible refine bi_shr (by omega) (by decide) ?_) | (with_reducible refine bi_shl (by omega) (by decide) ?_) | (with_reducible refine bi_quo64 (by omega) ?_) | (with_reducible refine bi_rem64 (by omega) ?_) | (with_reducible refine bi_mul64 (by omega) ?_) | (with_reducible refine bi_neg ?_) | (with_reducible refine bi_un_xor32 ?_) | (with_reducible refine bi_add ?_) | (with_reducible refine bi_sub ?_) | (with_reducible refine bi_mul ?_) | (with_reducible refine bi_quo (by decide) ?_) | (with_reducible refine bi_rem (by decide) ?_)))
      refine st sz43 h1v (by rw [h3.blk.cell 1]; rfl) (h3.blk.frozen 1) ?_
      have hT4 := Turns.setCell (F := fun k => k = g) (p := ⟨g, 1, none⟩) (Turns.refl _ w3) (.inl rfl) v3
      have hB4 := h3.blk.set_ 1 v3
      rw [set45b] at hB4
      have hcol := col_lt c w.heap.size hu
      have hlen : i + 1 + (F.drop j).length = (putF id n F).length := by rw [← hsplit]; simp; omega
      have hcs : ((F.take i).flatMap flF ++ flF (id, n)) ++ (F.drop j).flatMap flF = (putF id n F).flatMap flF := by rw [← hsplit]; simp [List.flatMap_append]
      rw [hlen, hcs] at ho3
      have hne : ∀ k, v3.ownBlock = some k → k ≠ g := fun k hk e => by have := hf3 k hk; omega
      have hnL : ∀ k, vL.ownBlock = some k → k ≠ g := fun k hk e => by
        rcases h3.rowL.2 with ⟨h, _⟩ | ⟨g', _, _, h, hbl, _⟩
        · rw [h] at hk; cases hk
        · rw [h] at hk
          have : g' = k := by simpa [Value.ownBlock] using hk
          exact blk_ne hbl h3.blk (by decide) (by rw [this, e])
      refine k v3 _ ⟨⟨h.hh, (hcol g hl0).trans h.hue, hB4, h3.rowL.turns hT4 hnL, (OwnR.of_own ho3).turns hT4 hne, fun k hk => by rw [hcol k (h.rowL.lt hk)]; exact h.hueL k hk, fun k hk => col_ge _ _ _ (hf3 k hk), fun x hx => ?_⟩, (Turns.of_below hb3').trans (hT4.mono fun j _ e => .inl e)⟩
      have hx0 := h.el x hx
      have hx3 := (h3.el x hx)
      refine (hx3.turns hT4 (fun k e => ?_)).re' ?_
      · rw [e, h.hue]; have := h.hh; omega
      · exact fun k hk => hcol k (hx0.own.lt hk)
end Go.Proofs.Ytmnaggdhkggjhaa.E
