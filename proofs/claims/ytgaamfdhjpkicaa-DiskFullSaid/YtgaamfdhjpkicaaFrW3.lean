/- The walks of package frame: Scan; of its reference: Scan, Same. -/
import Derived.Test.YtgaamfdhjpkicaaFrL7
import Derived.Test.YtgaamfdhjpkicaaE13
namespace Go.Proofs.Ytgaamfdhjpkicaa.E
open Go Go.RowKit
set_option linter.unusedSimpArgs false
set_option linter.unusedVariables false

theorem inf23 : (Try.prog.info? 23).map (fun i => (i.zero, i.size, i.bytes)) = some (some (.slice none 0 0), 1, 24) := by kernel_rfl
theorem pr_snil {P : Program} {t e : TypeId} {x y : Operand} (h : P.underlying t = some (.slice e)) {A : Option Addr} {n c n' c' : Nat} : PR P (binS .eql t x y (.slice A n c) (.slice none n' c')) (.bool A.isNone) := by
  intro w
  simp only [binS, eqGuard_at_slice, Sem.run_bind, Sem.run_pure, Result.andThen_ok]
  exact Lib.run_eql_slice_nil w t e A n c n' c' h

theorem Clone_spec (v : Value) (bs : List UInt8) (w : World) (hv : RdB w v bs) (hl : bs.length ≤ 1000000000) :
    CallP Try.prog 50 #[v] (fun r w' => RdB w' r bs ∧ (bs = [] ∨ Fresh w.heap.size r) ∧ Below w.heap.size w w') w := by
  obtain ⟨A, c, rfl, hc1, hc2, hcell⟩ := hv.slice
  refine ⟨S50.calls _ _ _ ?_⟩
  unfold S50
  refine ofPR (pr_snil und23) ?_
  cases A with
  | none =>
    have hb : bs = [] := by
      cases bs with
      | nil => rfl
      | cons b r => obtain ⟨a, h, _⟩ := hcell 0 (by simp); cases h
    subst hb
    simp only [Option.isNone_none]
    (repeat (first | (with_reducible refine nck ?_) | (with_reducible refine cdT ?_) | (with_reducible refine cdF ?_) | (with_reducible refine gdY ?_) | (with_reducible refine gdFT ?_) | (with_reducible refine gdTF ?_) | (with_reducible refine gdU ?_) | (with_reducible refine gaY ?_) | (with_reducible refine gaFT ?_) | (with_reducible refine gaTF ?_) | (with_reducible refine pickT ?_) | (with_reducible refine pickF ?_) | (with_reducible refine bi_lss_t (by omega) ?_) | (with_reducible refine bi_lss_f (by omega) ?_) | (with_reducible refine bi_add64 (by omega) ?_) | (with_reducible refine bi_sub64 (by omega) ?_) | (with_reducible refine bi_eql_t (by omega) ?_) | (with_reducible refine bi_eql_f (by omega) ?_) | (with_reducible refine bi_neq_t (by omega) ?_) | (with_reducible refine bi_neq_f (by omega) ?_) | (with_reducible refine bi_gtr_t (by omega) ?_) | (with_reducible refine bi_gtr_f (by omega) ?_) | (with_reducible refine bi_leq_t (by omega) ?_) | (with_reducible refine bi_leq_f (by omega) ?_) | (with_reducible refine bi_geq_t (by omega) ?_) | (with_reducible refine bi_geq_f (by omega) ?_) | (with_reducible refine bi_xt0 ?_) | (with_reducible refine bi_xt1 ?_) | (with_reducible refine bi_xt2 ?_) | (with_reducible refine bi_xt3 ?_) | (with_reducible refine bi_T ?_) | (with_reducible refine bi_F ?_) | (with_reducible refine bi_not ?_) | (with_reducible refine bi_and ?_) | (with_reducible refine bi_or ?_) | (with_reducible refine bi_xor ?_) | (with_reducible refine bi_shr (by omega) (by decide) ?_) | (with_reducible refine bi_shl (by omega) (by decide) ?_) | (with_reducible refine bi_quo64 (by omega) ?_) | (with_reducible refine bi_rem64 (by omega) ?_) | (with_reducible refine bi_mul64 (by omega) ?_) | (with_reducible refine bi_neg ?_) | (with_reducible refine bi_un_xor32 ?_) | (with_reducible refine bi_add ?_) | (with_reducible refine bi_sub ?_) | (with_reducible refine bi_mul ?_) | (with_reducible refine bi_quo (by decide) ?_) | (with_reducible refine bi_rem (by decide) ?_)))
    exact ⟨(Own.nil 5 w).rd, by simp, Below.refl _ w⟩
  | some a =>
    simp only [Option.isNone_some]
    (repeat (first | (with_reducible refine nck ?_) | (with_reducible refine cdT ?_) | (with_reducible refine cdF ?_) | (with_reducible refine gdY ?_) | (with_reducible refine gdFT ?_) | (with_reducible refine gdTF ?_) | (with_reducible refine gdU ?_) | (with_reducible refine gaY ?_) | (with_reducible refine gaFT ?_) | (with_reducible refine gaTF ?_) | (with_reducible refine pickT ?_) | (with_reducible refine pickF ?_) | (with_reducible refine bi_lss_t (by omega) ?_) | (with_reducible refine bi_lss_f (by omega) ?_) | (with_reducible refine bi_add64 (by omega) ?_) | (with_reducible refine bi_sub64 (by omega) ?_) | (with_reducible refine bi_eql_t (by omega) ?_) | (with_reducible refine bi_eql_f (by omega) ?_) | (with_reducible refine bi_neq_t (by omega) ?_) | (with_reducible refine bi_neq_f (by omega) ?_) | (with_reducible refine bi_gtr_t (by omega) ?_) | (with_reducible refine bi_gtr_f (by omega) ?_) | (with_reducible refine bi_leq_t (by omega) ?_) | (with_reducible refine bi_leq_f (by omega) ?_) | (with_reducible refine bi_geq_t (by omega) ?_) | (with_reducible refine bi_geq_f (by omega) ?_) | (with_reducible refine bi_xt0 ?_) | (with_reducible refine bi_xt1 ?_) | (with_reducible refine bi_xt2 ?_) | (with_reducible refine bi_xt3 ?_) | (with_reducible refine bi_T ?_) | (with_reducible refine bi_F ?_) | (with_reducible refine bi_not ?_) | (with_reducible refine bi_and ?_) | (with_reducible refine bi_or ?_) | (with_reducible refine bi_xor ?_) | (with_reducible refine bi_shr (by omega) (by decide) ?_) | (with_reducible refine bi_shl (by omega) (by decide) ?_) | (with_reducible refine bi_quo64 (by omega) ?_) | (with_reducible refine bi_rem64 (by omega) ?_) | (with_reducible refine bi_mul64 (by omega) ?_) | (with_reducible refine bi_neg ?_) | (with_reducible refine bi_un_xor32 ?_) | (with_reducible refine bi_add ?_) | (with_reducible refine bi_sub ?_) | (with_reducible refine bi_mul ?_) | (with_reducible refine bi_quo (by decide) ?_) | (with_reducible refine bi_rem (by decide) ?_)))
    refine bs0 und23 sz5 ?_
    have ha : Below w.heap.size w (w.alloc (.cells #[] 5)) := (Below.refl _ _).alloc (Nat.le_refl _) _
    refine apF w.heap.size und23 inf5 (by rfl) (by decide) (Own.lit0 w 5) (Fresh.new (Nat.le_refl _) 0 0) ha.size (hv.below ha) (u8_one bs) (by simp; omega) ?_
    intro v2 w2 ho2 hf2 hb2 _
    exact ⟨by simpa using ho2.rdB, .inr hf2, ha.trans hb2⟩
theorem Clip_spec (v : Value) (bs : List UInt8) (w : World) (hv : RdB w v bs) :
    CallP Try.prog 49 #[v] (fun r w' => RdB w' r bs ∧ (∀ B, Fresh B v → Fresh B r) ∧ w = w') w := by
  have hv0 := hv
  obtain ⟨A, c, rfl, hc1, hc2, hcell⟩ := hv.slice
  refine ⟨S49.calls _ _ _ ?_⟩
  unfold S49
  refine ln und23 ?_
  refine ln und23 ?_
  refine ofPR (pr_cut und23 sz5 .no (.at _ _) (.at _ _) (Nat.zero_le _) (fun h => by cases h) (Nat.le_refl _) hc1 (.inr (by simp))) ?_
  have := sliced_rd hv (l := 0) (k := bs.length) (m := bs.length) (Nat.zero_le _) (by simp) (Nat.le_refl _) hc1
  rw [List.drop_zero, List.take_of_length_le (by simp)] at this
  refine ⟨this, fun B hf k hk => ?_, rfl⟩
  refine hf k ?_
  rw [← hk]
  simp only [sliced, List.headD_cons]
  cases A with
  | none => split <;> rfl
  | some a => split <;> simp [Value.ownBlock, Addr.add]

theorem Scan_spec (v : Value) (bs : List UInt8) (w : World) (hv : RdB w v bs) (hl : bs.length ≤ 1000000) :
    CallP Try.prog 29 #[v] (fun r w' => ∃ l, r = .tuple #[l, .int .i64 (Frame.scan bs).2] ∧ RowSS w' l (Frame.scan bs).1 ∧ Fresh w.heap.size l ∧ Below w.heap.size w w') w := by
  obtain ⟨A, c, rfl, hc1, hc2, hcell⟩ := hv.slice
  refine ⟨S29.calls _ _ _ ?_⟩
  unfold S29
  refine LoopP.inv2 (fun l i w' => ∃ (n : Nat) (acc : List (List UInt8)), n ≤ bs.length ∧ i = .int .i64 n ∧ acc.length ≤ n ∧ Frame.scan bs = (acc ++ (Frame.scan (bs.drop n)).1, n + (Frame.scan (bs.drop n)).2) ∧ RowSS w' l acc ∧ Fresh w.heap.size l ∧ Below w.heap.size w w') (fun _ i _ => bs.length - (intOf i).toNat)
    ⟨0, [], by omega, rfl, by simp, by simp, RowSS.nil w, Fresh.nil _, Below.refl _ w⟩ ?_
  rintro l _ w1 ⟨n, acc, hn, rfl, hacc, hscan, hrow, hf, hb1⟩ J hJ
  dsimp only [List.headD_cons, List.tail_cons]
  have hv1 := hv.below hb1
  refine ctB und23 sz5 hv1 (.at _ _) .no hn (Nat.le_refl _) ?_
  intro v2 hr2
  rw [List.take_length] at hr2
  refine (view_spec v2 (bs.drop n) w1 hr2 (by rw [List.length_drop]; omega)).mono ?_
  rintro _ w2 ⟨x, rfl, hrx, hb2⟩
  have hb2' := below_then hb1 hb2
  (repeat (first | (with_reducible refine nck ?_) | (with_reducible refine cdT ?_) | (with_reducible refine cdF ?_) | (with_reducible refine gdY ?_) | (with_reducible refine gdFT ?_) | (with_reducible refine gdTF ?_) | (with_reducible refine gdU ?_) | (with_reducible refine gaY ?_) | (with_reducible refine gaFT ?_) | (with_reducible refine gaTF ?_) | (with_reducible refine pickT ?_) | (with_reducible refine pickF ?_) | (with_reducible refine bi_lss_t (by omega) ?_) | (with_reducible refine bi_lss_f (by omega) ?_) | (with_reducible refine bi_add64 (by omega) ?_) | (with_reducible refine bi_sub64 (by omega) ?_) | (with_reducible refine bi_eql_t (by omega) ?_) | (with_reducible refine bi_eql_f (by omega) ?_) | (with_reducible refine bi_neq_t (by omega) ?_) | (with_reducible refine bi_neq_f (by omega) ?_) | (with_reducible refine bi_gtr_t (by omega) ?_) | (with_reducible refine bi_gtr_f (by omega) ?_) | (with_reducible refine bi_leq_t (by omega) ?_) | (with_reducible refine bi_leq_f (by omega) ?_) | (with_reducible refine bi_geq_t (by omega) ?_) | (with_reducible refine bi_geq_f (by omega) ?_) | (with_reducible refine bi_xt0 ?_) | (with_reducible refine bi_xt1 ?_) | (with_reducible refine bi_xt2 ?_) | (with_reducible refine bi_xt3 ?_) | (with_reducible refine bi_T ?_) | (with_reducible refine bi_F ?_) | (with_reducible refine bi_not ?_) | (with_reducible refine bi_and ?_) | (with_reducible refine bi_or ?_) | (with_reducible refine bi_xor ?_) | (with_reducible refine bi_shr (by omega) (by decide) ?_) | (with_reducible refine bi_shl (by omega) (by decide) ?_) | (with_reducible refine bi_quo64 (by omega) ?_) | (with_reducible refine bi_rem64 (by omega) ?_) | (with_reducible refine bi_mul64 (by omega) ?_) | (with_reducible refine bi_neg ?_) | (with_reducible refine bi_un_xor32 ?_) | (with_reducible refine bi_add ?_) | (with_reducible refine bi_sub ?_) | (with_reducible refine bi_mul ?_) | (with_reducible refine bi_quo (by decide) ?_) | (with_reducible refine bi_rem (by decide) ?_)))
  (first | refine bi_lss_c (fun h => ?_) (fun h => ?_) | refine bi_eql_c (fun h => ?_) (fun h => ?_) | refine bi_neq_c (fun h => ?_) (fun h => ?_) | refine bi_gtr_c (fun h => ?_) (fun h => ?_) | refine bi_leq_c (fun h => ?_) (fun h => ?_) | refine bi_geq_c (fun h => ?_) (fun h => ?_) | refine bi_seql_c (fun h => ?_) (fun h => ?_) | refine bi_sneq_c (fun h => ?_) (fun h => ?_))
  · (repeat (first | (with_reducible refine nck ?_) | (with_reducible refine cdT ?_) | (with_reducible refine cdF ?_) | (with_reducible refine gdY ?_) | (with_reducible refine gdFT ?_) | (with_reducible refine gdTF ?_) | (with_reducible refine gdU ?_) | (with_reducible refine gaY ?_) | (with_reducible refine gaFT ?_) | (with_reducible refine gaTF ?_) | (with_reducible refine pickT ?_) | (with_reducible refine pickF ?_) | (with_reducible refine bi_lss_t (by omega) ?_) | (with_reducible refine bi_lss_f (by omega) ?_) | (with_reducible refine bi_add64 (by omega) ?_) | (with_reducible refine bi_sub64 (by omega) ?_) | (with_reducible refine bi_eql_t (by omega) ?_) | (with_reducible refine bi_eql_f (by omega) ?_) | (with_reducible refine bi_neq_t (by omega) ?_) | (with_reducible refine bi_neq_f (by omega) ?_) | (with_reducible refine bi_gtr_t (by omega) ?_) | (with_reducible refine bi_gtr_f (by omega) ?_) | (with_reducible refine bi_leq_t (by omega) ?_) | (with_reducible refine bi_leq_f (by omega) ?_) | (with_reducible refine bi_geq_t (by omega) ?_) | (with_reducible refine bi_geq_f (by omega) ?_) | (with_reducible refine bi_xt0 ?_) | (with_reducible refine bi_xt1 ?_) | (with_reducible refine bi_xt2 ?_) | (with_reducible refine bi_xt3 ?_) | (with_reducible refine bi_T ?_) | (with_reducible refine bi_F ?_) | (with_reducible refine bi_not ?_) | (with_reducible refine bi_and ?_) | (with_reducible refine bi_or ?_) | (with_reducible refine bi_xor ?_) | (with_reducible refine bi_shr (by omega) (by decide) ?_) | (with_reducible refine bi_shl (by omega) (by decide) ?_) | (with_reducible refine bi_quo64 (by omega) ?_) | (with_reducible refine bi_rem64 (by omega) ?_) | (with_reducible refine bi_mul64 (by omega) ?_) | (with_reducible refine bi_neg ?_) | (with_reducible refine bi_un_xor32 ?_) | (with_reducible refine bi_add ?_) | (with_reducible refine bi_sub ?_) | (with_reducible refine bi_mul ?_) | (with_reducible refine bi_quo (by decide) ?_) | (with_reducible refine bi_rem (by decide) ?_)))
    rw [Frame.scan_end (bs.drop n) (by omega)] at hscan
    rw [hscan]
    exact ⟨l, rfl, by simpa using hrow.below hb2, hf, hb2'⟩
  have hok : (Frame.view (bs.drop n)).2.2 = 0 := by omega
  have hvw := Frame.view_ok _ hok
  rw [List.length_drop] at hvw
  rw [Frame.scan_ok _ hok, List.drop_drop] at hscan
  have hpl : (Frame.view (bs.drop n)).1.length ≤ 1000000 := by
    rw [hvw.2.2.1, Frame.part, List.length_take, List.length_drop, List.length_drop]; omega
  generalize (Frame.view (bs.drop n)).1 = p at *
  generalize (Frame.view (bs.drop n)).2.1 = m at *
  (repeat (first | (with_reducible refine nck ?_) | (with_reducible refine cdT ?_) | (with_reducible refine cdF ?_) | (with_reducible refine gdY ?_) | (with_reducible refine gdFT ?_) | (with_reducible refine gdTF ?_) | (with_reducible refine gdU ?_) | (with_reducible refine gaY ?_) | (with_reducible refine gaFT ?_) | (with_reducible refine gaTF ?_) | (with_reducible refine pickT ?_) | (with_reducible refine pickF ?_) | (with_reducible refine bi_lss_t (by omega) ?_) | (with_reducible refine bi_lss_f (by omega) ?_) | (with_reducible refine bi_add64 (by omega) ?_) | (with_reducible refine bi_sub64 (by omega) ?_) | (with_reducible refine bi_eql_t (by omega) ?_) | (with_reducible refine bi_eql_f (by omega) ?_) | (with_reducible refine bi_neq_t (by omega) ?_) | (with_reducible refine bi_neq_f (by omega) ?_) | (with_reducible refine bi_gtr_t (by omega) ?_) | (with_reducible refine bi_gtr_f (by omega) ?_) | (with_reducible refine bi_leq_t (by omega) ?_) | (with_reducible refine bi_leq_f (by omega) ?_) | (with_reducible refine bi_geq_t (by omega) ?_) | (with_reducible refine bi_geq_f (by omega) ?_) | (with_reducible refine bi_xt0 ?_) | (with_reducible refine bi_xt1 ?_) | (with_reducible refine bi_xt2 ?_) | (with_reducible refine bi_xt3 ?_) | (with_reducible refine bi_T ?_) | (with_reducible refine bi_F ?_) | (with_reducible refine bi_not ?_) | (with_reducible refine bi_and ?_) | (with_reducible refine bi_or ?_) | (with_reducible refine bi_xor ?_) | (with_reducible refine bi_shr (by omega) (by decide) ?_) | (with_reducible refine bi_shl (by omega) (by decide) ?_) | (with_reducible refine bi_quo64 (by omega) ?_) | (with_reducible refine bi_rem64 (by omega) ?_) | (with_reducible refine bi_mul64 (by omega) ?_) | (with_reducible refine bi_neg ?_) | (with_reducible refine bi_un_xor32 ?_) | (with_reducible refine bi_add ?_) | (with_reducible refine bi_sub ?_) | (with_reducible refine bi_mul ?_) | (with_reducible refine bi_quo (by decide) ?_) | (with_reducible refine bi_rem (by decide) ?_)))
  refine (Clone_spec x p w2 hrx (by omega)).mono ?_
  rintro v3 w3 ⟨hr3, hf3, hb3⟩
  have hb3' := below_then hb2' hb3
  refine (Clip_spec v3 p w3 hr3).mono ?_
  rintro v4 _ ⟨hr4, hf4, rfl⟩
  have hr4' := hr4
  obtain ⟨A4, c4, rfl, _⟩ := hr4.slice
  refine lift (v := .slice (some ⟨w3.heap.size, 0, none⟩) 1 1) (w' := w3.alloc (.cells #[.slice A4 p.length c4] 23)) (by kernel_rfl) ?_
  have ha : Below w3.heap.size w3 (w3.alloc (.cells #[.slice A4 p.length c4] 23)) := (Below.refl _ _).alloc (Nat.le_refl _) _
  have hrow' := ((hrow.below hb2).below hb3).below ha
  refine apSS w.heap.size und45 inf23 (by rfl) (by decide) hrow' hf (below_then hb3' ha).size (Own.new w3 23 [.slice A4 p.length c4] (by simp)).rd (hr4'.below ha) ?_ (by omega) ?_
  · rcases hf3 with h | h
    · exact .inl h
    · by_cases hp : p = []
      · exact .inl hp
      refine .inr fun he => ?_
      obtain ⟨j, hj, _⟩ := Rd.block_lt hr4' (by simpa using hp)
      have h1 := hf4 _ h j hj
      rw [hj] at he
      have h2 := (hrow.below hb2).lt he.symm
      omega
  intro v5 w5 hrow5 hf5 hb5 hg5
  (repeat (first | (with_reducible refine nck ?_) | (with_reducible refine cdT ?_) | (with_reducible refine cdF ?_) | (with_reducible refine gdY ?_) | (with_reducible refine gdFT ?_) | (with_reducible refine gdTF ?_) | (with_reducible refine gdU ?_) | (with_reducible refine gaY ?_) | (with_reducible refine gaFT ?_) | (with_reducible refine gaTF ?_) | (with_reducible refine pickT ?_) | (with_reducible refine pickF ?_) | (with_reducible refine bi_lss_t (by omega) ?_) | (with_reducible refine bi_lss_f (by omega) ?_) | (with_reducible refine bi_add64 (by omega) ?_) | (with_reducible refine bi_sub64 (by omega) ?_) | (with_reducible refine bi_eql_t (by omega) ?_) | (with_reducible refine bi_eql_f (by omega) ?_) | (with_reducible refine bi_neq_t (by omega) ?_) | (with_reducible refine bi_neq_f (by omega) ?_) | (with_reducible refine bi_gtr_t (by omega) ?_) | (with_reducible refine bi_gtr_f (by omega) ?_) | (with_reducible refine bi_leq_t (by omega) ?_) | (with_reducible refine bi_leq_f (by omega) ?_) | (with_reducible refine bi_geq_t (by omega) ?_) | (with_reducible refine bi_geq_f (by omega) ?_) | (with_reducible refine bi_xt0 ?_) | (with_reducible refine bi_xt1 ?_) | (with_reducible refine bi_xt2 ?_) | (with_reducible refine bi_xt3 ?_) | (with_reducible refine bi_T ?_) | (with_reducible refine bi_F ?_) | (with_reducible refine bi_not ?_) | (with_reducible refine bi_and ?_) | (with_reducible refine bi_or ?_) | (with_reducible refine bi_xor ?_) | (with_reducible refine bi_shr (by omega) (by decide) ?_) | (with_reducible refine bi_shl (by omega) (by decide) ?_) | (with_reducible refine bi_quo64 (by omega) ?_) | (with_reducible refine bi_rem64 (by omega) ?_) | (with_reducible refine bi_mul64 (by omega) ?_) | (with_reducible refine bi_neg ?_) | (with_reducible refine bi_un_xor32 ?_) | (with_reducible refine bi_add ?_) | (with_reducible refine bi_sub ?_) | (with_reducible refine bi_mul ?_) | (with_reducible refine bi_quo (by decide) ?_) | (with_reducible refine bi_rem (by decide) ?_)))
  refine hJ _ _ _ ⟨n + m, acc ++ [p], by omega, by simp, by simp; omega, ?_, hrow5, hf5, (below_then hb3' ha).trans hb5⟩ (by simp [intOf]; omega)
  rw [hscan]
  simp [Nat.add_assoc]

theorem refScan_spec (v : Value) (bs : List UInt8) (w : World) (hv : RdB w v bs) (hl : bs.length ≤ 1000000) :
    CallP Try.prog 30 #[v] (fun r w' => ∃ l, r = .tuple #[l, .int .i64 (Frame.scan bs).2] ∧ RowSS w' l (Frame.scan bs).1 ∧ Fresh w.heap.size l ∧ Below w.heap.size w w') w := by
  have f0 : fofs Try.prog 42 0 = some (0, 1) := by kernel_rfl
  have f1 : fofs Try.prog 42 1 = some (1, 1) := by kernel_rfl
  have f2 : fofs Try.prog 42 2 = some (2, 1) := by kernel_rfl
  obtain ⟨A, c, rfl, hc1, hc2, hcell⟩ := hv.slice
  refine ⟨S30.calls _ _ _ ?_⟩
  unfold S30
  refine LoopP.inv2 (fun l i w' => ∃ (n : Nat) (acc : List (List UInt8)), n ≤ bs.length ∧ i = .int .i64 n ∧ acc.length ≤ n ∧ Frame.scan bs = (acc ++ (Frame.scan (bs.drop n)).1, n + (Frame.scan (bs.drop n)).2) ∧ RowSS w' l acc ∧ Fresh w.heap.size l ∧ Below w.heap.size w w') (fun _ i _ => bs.length - (intOf i).toNat)
    ⟨0, [], by omega, rfl, by simp, by simp, RowSS.nil w, Fresh.nil _, Below.refl _ w⟩ ?_
  rintro l _ w1 ⟨n, acc, hn, rfl, hacc, hscan, hrow, hf, hb1⟩ J hJ
  dsimp only [List.headD_cons, List.tail_cons]
  have hv1 := hv.below hb1
  refine ctB und23 sz5 hv1 (.at _ _) .no hn (Nat.le_refl _) ?_
  intro v2 hr2
  rw [List.take_length] at hr2
  refine (refFirst_spec v2 (bs.drop n) w1 hr2 (by rw [List.length_drop]; omega)).mono ?_
  rintro _ w2 ⟨x, rfl, hox, hfx, hb2⟩
  have hb2' := below_then hb1 hb2
  refine al z42 ?_
  have hbl : Blk (w2.alloc (.cells (Value.agg #[.slice none 0 0, .int .i64 0, .int .i64 0]).cells 42)) w2.heap.size 42 #[.slice none 0 0, .int .i64 0, .int .i64 0] := Blk.new w2 42 _
  have ha : Below w2.heap.size w2 (w2.alloc (.cells (Value.agg #[.slice none 0 0, .int .i64 0, .int .i64 0]).cells 42)) := (Below.refl _ _).alloc (Nat.le_refl _) _
  generalize w2.alloc (.cells (Value.agg #[.slice none 0 0, .int .i64 0, .int .i64 0]).cells 42) = w3 at *
  have hrx := hox.rdB
  obtain ⟨Ax, cx, rfl, _⟩ := hrx.slice
  refine stA hbl (by exact s42) (by rfl) (by simp [got, Value.oneCell']) ?_
  have hb3 : Below w2.heap.size w2 (w3.setRow w2.heap.size (got (.slice Ax (Frame.view (bs.drop n)).1.length cx) (Frame.view (bs.drop n)).2.1 (Frame.view (bs.drop n)).2.2)) := below_setRow ha (Nat.le_refl _) _
  have hbl3 := hbl.row (got (.slice Ax (Frame.view (bs.drop n)).1.length cx) (Frame.view (bs.drop n)).2.1 (Frame.view (bs.drop n)).2.2)
  generalize w3.setRow w2.heap.size (got (.slice Ax (Frame.view (bs.drop n)).1.length cx) (Frame.view (bs.drop n)).2.1 (Frame.view (bs.drop n)).2.2) = w4 at *
  have g0 : w4.cell? ⟨w2.heap.size, 0, none⟩ = some (.slice Ax (Frame.view (bs.drop n)).1.length cx) := hbl3.cell 0
  have g1 : w4.cell? ⟨w2.heap.size, 1, none⟩ = some (.int .i64 (Frame.view (bs.drop n)).2.1) := hbl3.cell 1
  have g2 : w4.cell? ⟨w2.heap.size, 2, none⟩ = some (.int .i64 (Frame.view (bs.drop n)).2.2) := hbl3.cell 2
  (repeat (first | (with_reducible refine fd f2 (by decide) ?_) | (with_reducible refine ld one33 g2 ?_) | (with_reducible refine nck ?_) | (with_reducible refine cdT ?_) | (with_reducible refine cdF ?_) | (with_reducible refine gdY ?_) | (with_reducible refine gdFT ?_) | (with_reducible refine gdTF ?_) | (with_reducible refine gdU ?_) | (with_reducible refine gaY ?_) | (with_reducible refine gaFT ?_) | (with_reducible refine gaTF ?_) | (with_reducible refine pickT ?_) | (with_reducible refine pickF ?_) | (with_reducible refine bi_lss_t (by omega) ?_) | (with_reducible refine bi_lss_f (by omega) ?_) | (with_reducible refine bi_add64 (by omega) ?_) | (with_reducible refine bi_sub64 (by omega) ?_) | (with_reducible refine bi_eql_t (by omega) ?_) | (with_reducible refine bi_eql_f (by omega) ?_) | (with_reducible refine bi_neq_t (by omega) ?_) | (with_reducible refine bi_neq_f (by omega) ?_) | (with_reducible refine bi_gtr_t (by omega) ?_) | (with_reducible refine bi_gtr_f (by omega) ?_) | (with_reducible refine bi_leq_t (by omega) ?_) | (with_reducible refine bi_leq_f (by omega) ?_) | (with_reducible refine bi_geq_t (by omega) ?_) | (with_reducible refine bi_geq_f (by omega) ?_) | (with_reducible refine bi_xt0 ?_) | (with_reducible refine bi_xt1 ?_) | (with_reducible refine bi_xt2 ?_) | (with_reducible refine bi_xt3 ?_) | (with_reducible refine bi_T ?_) | (with_reducible refine bi_F ?_) | (with_reducible refine bi_not ?_) | (with_reducible refine bi_and ?_) | (with_reducible refine bi_or ?_) | (with_reducible refine bi_xor ?_) | (with_reducible refine bi_shr (by omega) (by decide) ?_) | (with_reducible refine bi_shl (by omega) (by decide) ?_) | (with_reducible refine bi_quo64 (by omega) ?_) | (with_reducible refine bi_rem64 (by omega) ?_) | (with_reducible refine bi_mul64 (by omega) ?_) | (with_reducible refine bi_neg ?_) | (with_reducible refine bi_un_xor32 ?_) | (with_reducible refine bi_add ?_) | (with_reducible refine bi_sub ?_) | (with_reducible refine bi_mul ?_) | (with_reducible refine bi_quo (by decide) ?_) | (with_reducible refine bi_rem (by decide) ?_)))
  (first | refine bi_lss_c (fun h => ?_) (fun h => ?_) | refine bi_eql_c (fun h => ?_) (fun h => ?_) | refine bi_neq_c (fun h => ?_) (fun h => ?_) | refine bi_gtr_c (fun h => ?_) (fun h => ?_) | refine bi_leq_c (fun h => ?_) (fun h => ?_) | refine bi_geq_c (fun h => ?_) (fun h => ?_) | refine bi_seql_c (fun h => ?_) (fun h => ?_) | refine bi_sneq_c (fun h => ?_) (fun h => ?_))
  · (repeat (first | (with_reducible refine nck ?_) | (with_reducible refine cdT ?_) | (with_reducible refine cdF ?_) | (with_reducible refine gdY ?_) | (with_reducible refine gdFT ?_) | (with_reducible refine gdTF ?_) | (with_reducible refine gdU ?_) | (with_reducible refine gaY ?_) | (with_reducible refine gaFT ?_) | (with_reducible refine gaTF ?_) | (with_reducible refine pickT ?_) | (with_reducible refine pickF ?_) | (with_reducible refine bi_lss_t (by omega) ?_) | (with_reducible refine bi_lss_f (by omega) ?_) | (with_reducible refine bi_add64 (by omega) ?_) | (with_reducible refine bi_sub64 (by omega) ?_) | (with_reducible refine bi_eql_t (by omega) ?_) | (with_reducible refine bi_eql_f (by omega) ?_) | (with_reducible refine bi_neq_t (by omega) ?_) | (with_reducible refine bi_neq_f (by omega) ?_) | (with_reducible refine bi_gtr_t (by omega) ?_) | (with_reducible refine bi_gtr_f (by omega) ?_) | (with_reducible refine bi_leq_t (by omega) ?_) | (with_reducible refine bi_leq_f (by omega) ?_) | (with_reducible refine bi_geq_t (by omega) ?_) | (with_reducible refine bi_geq_f (by omega) ?_) | (with_reducible refine bi_xt0 ?_) | (with_reducible refine bi_xt1 ?_) | (with_reducible refine bi_xt2 ?_) | (with_reducible refine bi_xt3 ?_) | (with_reducible refine bi_T ?_) | (with_reducible refine bi_F ?_) | (with_reducible refine bi_not ?_) | (with_reducible refine bi_and ?_) | (with_reducible refine bi_or ?_) | (with_reducible refine bi_xor ?_) | (with_reducible refine bi_shr (by omega) (by decide) ?_) | (with_reducible refine bi_shl (by omega) (by decide) ?_) | (with_reducible refine bi_quo64 (by omega) ?_) | (with_reducible refine bi_rem64 (by omega) ?_) | (with_reducible refine bi_mul64 (by omega) ?_) | (with_reducible refine bi_neg ?_) | (with_reducible refine bi_un_xor32 ?_) | (with_reducible refine bi_add ?_) | (with_reducible refine bi_sub ?_) | (with_reducible refine bi_mul ?_) | (with_reducible refine bi_quo (by decide) ?_) | (with_reducible refine bi_rem (by decide) ?_)))
    rw [Frame.scan_end (bs.drop n) (by omega)] at hscan
    rw [hscan]
    exact ⟨l, rfl, by simpa using (hrow.below hb2).below hb3, hf, below_then hb2' hb3⟩
  have hok : (Frame.view (bs.drop n)).2.2 = 0 := by omega
  have hvw := Frame.view_ok _ hok
  rw [List.length_drop] at hvw
  rw [Frame.scan_ok _ hok, List.drop_drop] at hscan
  have hpl : (Frame.view (bs.drop n)).1.length ≤ 1000000 := by
    rw [hvw.2.2.1, Frame.part, List.length_take, List.length_drop, List.length_drop]; omega
  generalize (Frame.view (bs.drop n)).1 = p at *
  generalize (Frame.view (bs.drop n)).2.1 = m at *
  (repeat (first | (with_reducible refine fd f0 (by decide) ?_) | (with_reducible refine ld one23 g0 ?_) | (with_reducible refine nck ?_) | (with_reducible refine cdT ?_) | (with_reducible refine cdF ?_) | (with_reducible refine gdY ?_) | (with_reducible refine gdFT ?_) | (with_reducible refine gdTF ?_) | (with_reducible refine gdU ?_) | (with_reducible refine gaY ?_) | (with_reducible refine gaFT ?_) | (with_reducible refine gaTF ?_) | (with_reducible refine pickT ?_) | (with_reducible refine pickF ?_) | (with_reducible refine bi_lss_t (by omega) ?_) | (with_reducible refine bi_lss_f (by omega) ?_) | (with_reducible refine bi_add64 (by omega) ?_) | (with_reducible refine bi_sub64 (by omega) ?_) | (with_reducible refine bi_eql_t (by omega) ?_) | (with_reducible refine bi_eql_f (by omega) ?_) | (with_reducible refine bi_neq_t (by omega) ?_) | (with_reducible refine bi_neq_f (by omega) ?_) | (with_reducible refine bi_gtr_t (by omega) ?_) | (with_reducible refine bi_gtr_f (by omega) ?_) | (with_reducible refine bi_leq_t (by omega) ?_) | (with_reducible refine bi_leq_f (by omega) ?_) | (with_reducible refine bi_geq_t (by omega) ?_) | (with_reducible refine bi_geq_f (by omega) ?_) | (with_reducible refine bi_xt0 ?_) | (with_reducible refine bi_xt1 ?_) | (with_reducible refine bi_xt2 ?_) | (with_reducible refine bi_xt3 ?_) | (with_reducible refine bi_T ?_) | (with_reducible refine bi_F ?_) | (with_reducible refine bi_not ?_) | (with_reducible refine bi_and ?_) | (with_reducible refine bi_or ?_) | (with_reducible refine bi_xor ?_) | (with_reducible refine bi_shr (by omega) (by decide) ?_) | (with_reducible refine bi_shl (by omega) (by decide) ?_) | (with_reducible refine bi_quo64 (by omega) ?_) | (with_reducible refine bi_rem64 (by omega) ?_) | (with_reducible refine bi_mul64 (by omega) ?_) | (with_reducible refine bi_neg ?_) | (with_reducible refine bi_un_xor32 ?_) | (with_reducible refine bi_add ?_) | (with_reducible refine bi_sub ?_) | (with_reducible refine bi_mul ?_) | (with_reducible refine bi_quo (by decide) ?_) | (with_reducible refine bi_rem (by decide) ?_)))
  have hr4 := hrx.below hb3
  refine lift (v := .slice (some ⟨w4.heap.size, 0, none⟩) 1 1) (w' := w4.alloc (.cells #[.slice Ax p.length cx] 23)) (by kernel_rfl) ?_
  have ha4 : Below w4.heap.size w4 (w4.alloc (.cells #[.slice Ax p.length cx] 23)) := (Below.refl _ _).alloc (Nat.le_refl _) _
  have hrow' := ((hrow.below hb2).below hb3).below ha4
  have hb4 := below_then (below_then hb2' hb3) ha4
  refine apSS w.heap.size und45 inf23 (by rfl) (by decide) hrow' hf hb4.size (Own.new w4 23 [.slice Ax p.length cx] (by simp)).rd (hr4.below ha4) ?_ (by omega) ?_
  · by_cases hp : p = []
    · exact .inl hp
    refine .inr fun he => ?_
    obtain ⟨j, hj, _⟩ := Rd.block_lt hrx (by simpa using hp)
    have h1 := hfx j hj
    rw [hj] at he
    have h2 := hrow.lt he.symm
    omega
  intro v5 w5 hrow5 hf5 hb5 hg5
  have g1' : w5.cell? ⟨w2.heap.size, 1, none⟩ = some (.int .i64 (m : Int)) := by
    refine hg5.cell (ha4.cell (p := ⟨w2.heap.size, 1, none⟩) hbl3.lt |>.trans g1) ?_
    intro he
    have h1 := hrow.lt (k := w2.heap.size) he.symm
    have h2 := hb2.size
    omega
  (repeat (first | (with_reducible refine fd f1 (by decide) ?_) | (with_reducible refine ld one3 g1' ?_) | (with_reducible refine nck ?_) | (with_reducible refine cdT ?_) | (with_reducible refine cdF ?_) | (with_reducible refine gdY ?_) | (with_reducible refine gdFT ?_) | (with_reducible refine gdTF ?_) | (with_reducible refine gdU ?_) | (with_reducible refine gaY ?_) | (with_reducible refine gaFT ?_) | (with_reducible refine gaTF ?_) | (with_reducible refine pickT ?_) | (with_reducible refine pickF ?_) | (with_reducible refine bi_lss_t (by omega) ?_) | (with_reducible refine bi_lss_f (by omega) ?_) | (with_reducible refine bi_add64 (by omega) ?_) | (with_reducible refine bi_sub64 (by omega) ?_) | (with_reducible refine bi_eql_t (by omega) ?_) | (with_reducible refine bi_eql_f (by omega) ?_) | (with_reducible refine bi_neq_t (by omega) ?_) | (with_reducible refine bi_neq_f (by omega) ?_) | (with_reducible refine bi_gtr_t (by omega) ?_) | (with_reducible refine bi_gtr_f (by omega) ?_) | (with_reducible refine bi_leq_t (by omega) ?_) | (with_reducible refine bi_leq_f (by omega) ?_) | (with_reducible refine bi_geq_t (by omega) ?_) | (with_reducible refine bi_geq_f (by omega) ?_) | (with_reducible refine bi_xt0 ?_) | (with_reducible refine bi_xt1 ?_) | (with_reducible refine bi_xt2 ?_) | (with_reducible refine bi_xt3 ?_) | (with_reducible refine bi_T ?_) | (with_reducible refine bi_F ?_) | (with_reducible refine bi_not ?_) | (with_reducible refine bi_and ?_) | (with_reducible refine bi_or ?_) | (with_reducible refine bi_xor ?_) | (with_reducible refine bi_shr (by omega) (by decide) ?_) | (with_reducible refine bi_shl (by omega) (by decide) ?_) | (with_reducible refine bi_quo64 (by omega) ?_) | (with_reducible refine bi_rem64 (by omega) ?_) | (with_reducible refine bi_mul64 (by omega) ?_) | (with_reducible refine bi_neg ?_) | (with_reducible refine bi_un_xor32 ?_) | (with_reducible refine bi_add ?_) | (with_reducible refine bi_sub ?_) | (with_reducible refine bi_mul ?_) | (with_reducible refine bi_quo (by decide) ?_) | (with_reducible refine bi_rem (by decide) ?_)))
  refine hJ _ _ _ ⟨n + m, acc ++ [p], by omega, by simp, by simp; omega, ?_, hrow5, hf5, hb4.trans hb5⟩ (by simp [intOf]; omega)
  rw [hscan]
  simp [Nat.add_assoc]
end Go.Proofs.Ytgaamfdhjpkicaa.E
