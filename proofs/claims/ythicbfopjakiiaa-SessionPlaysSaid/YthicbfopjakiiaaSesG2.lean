/- The reference's GetNum. -/
import Derived.Test.YthicbfopjakiiaaSesG
namespace Go.Proofs.Ythicbfopjakiiaa.E
open Go Go.RowKit
set_option linter.unusedSimpArgs false
set_option linter.unusedVariables false

/-- Got of the reference, in memory: number, text, list, place, error. -/
def gotC (n : Nat) (s : ByteArray) (l : Value) (next e : Nat) : Array Value := #[.int .i64 n, .string s, l, .int .i64 next, .int .i64 e]
theorem z109 : (Try.prog.info? 109).bind (·.zero) = some (.agg (gotC 0 ⟨#[]⟩ (.slice none 0 0) 0 0)) := by kernel_rfl
theorem s109 : (Try.prog.info? 109).map (·.size) = some 5 := by kernel_rfl
theorem a109 : aggB Try.prog 109 = true := by kernel_rfl
theorem mulk {K : Value → World → Prop} {w : World} {x y : Operand} {m k : Nat} (hk : k ≤ 8) (hm : m < 128) (kk : K (.int .i64 ((m * 128 ^ k : Nat) : Int)) w) : LiftP Try.prog (binS .mul 3 x y (.int .i64 m) (.int .i64 ((128 ^ k : Nat) : Int))) K w := by
  have h1 : 128 ^ k ≤ 128 ^ 8 := Nat.pow_le_pow_right (by decide) hk
  have h2 : m * 128 ^ k ≤ 127 * 128 ^ 8 := Nat.mul_le_mul (by omega) h1
  have e : ((m : Int) * ((128 ^ k : Nat) : Int)) = ((m * 128 ^ k : Nat) : Int) := by rw [Int.natCast_mul]
  refine bi_mul64 (by rw [e]; omega) ?_
  rw [e]
  exact kk
theorem mul128 {K : Value → World → Prop} {w : World} {x y : Operand} {k : Nat} (hk : k ≤ 7) (kk : K (.int .i64 ((128 ^ (k + 1) : Nat) : Int)) w) : LiftP Try.prog (binS .mul 3 x y (.int .i64 ((128 ^ k : Nat) : Int)) (.int .i64 128)) K w := by
  have h1 : 128 ^ k ≤ 128 ^ 7 := Nat.pow_le_pow_right (by decide) hk
  have e : (((128 ^ k : Nat) : Int) * 128) = ((128 ^ (k + 1) : Nat) : Int) := by rw [Nat.pow_succ, Int.natCast_mul]; rfl
  have h0 : ∀ p : Nat, p ≤ 128 ^ 7 → -9223372036854775808 ≤ (p : Int) * 128 ∧ (p : Int) * 128 ≤ 9223372036854775807 := fun p hp => by omega
  refine bi_mul64 (h0 _ h1) ?_
  rw [e]
  exact kk
theorem remk {K : Value → World → Prop} {w : World} {x y : Operand} {c : Nat} (kk : K (.int .i64 ((c % 128 : Nat) : Int)) w) : LiftP Try.prog (binS .rem 3 x y (.int .i64 c) (.int .i64 128)) K w :=
  bi_rem64 (by omega) (by rw [show ((c : Int) % 128) = ((c % 128 : Nat) : Int) from by omega]; exact kk)
theorem addk {K : Value → World → Prop} {w : World} {x y : Operand} {a b : Nat} (h : a + b ≤ 9223372036854775807) (kk : K (.int .i64 ((a + b : Nat) : Int)) w) : LiftP Try.prog (binS .add 3 x y (.int .i64 a) (.int .i64 b)) K w :=
  bi_add64 (by omega) (by rw [show ((a : Int) + (b : Int)) = ((a + b : Nat) : Int) from by omega]; exact kk)
theorem cv53 {K : Value → World → Prop} {w : World} {c : UInt8} (kk : K (.int .i64 (c.toNat : Int)) w) : LiftP Try.prog (convert 5 3 (.int .u8 c.toNat)) K w := by
  have hc := c.toNat_lt
  exact cv und5 und3 (by rw [IntWalk.i64_in _ (by omega)]; exact kk)

theorem refGetNum_spec (v : Value) (bs : List UInt8) (i : Nat) (w : World) (hv : RdB w v bs) (hi : i ≤ bs.length) (hl : bs.length ≤ 1000000) :
    CallP Try.prog 52 #[v, .int .i64 i] (fun r w' => r = .agg (gotC (getAt bs i).1 ⟨#[]⟩ (.slice none 0 0) (getAt bs i).2.1 (getAt bs i).2.2) ∧ Below w.heap.size w w') w := by
  obtain ⟨A, c, rfl, hc1, hc2, _⟩ := hv.slice
  refine ⟨S52.calls _ _ _ _ ?_⟩
  unfold S52
  refine al z109 ?_
  have hbl : Blk (w.alloc (.cells (Value.agg (gotC 0 ⟨#[]⟩ (.slice none 0 0) 0 0)).cells 109)) w.heap.size 109 (gotC 0 ⟨#[]⟩ (.slice none 0 0) 0 0) := Blk.new w 109 _
  have hb1 : Below w.heap.size w (w.alloc (.cells (Value.agg (gotC 0 ⟨#[]⟩ (.slice none 0 0) 0 0)).cells 109)) := (Below.refl _ w).alloc (Nat.le_refl _) _
  generalize w.alloc (.cells (Value.agg (gotC 0 ⟨#[]⟩ (.slice none 0 0) 0 0)).cells 109) = w1 at *
  have hv1 := hv.below hb1
  have ret : ∀ (n next e : Nat), RetC Try.prog (.pointer (some ⟨w.heap.size, 0, none⟩)) 109 (fun x => x = .agg (gotC n ⟨#[]⟩ (.slice none 0 0) next e) ∧ Below w.heap.size w (w1.setRow w.heap.size (gotC n ⟨#[]⟩ (.slice none 0 0) next e))) (w1.setRow w.heap.size (gotC n ⟨#[]⟩ (.slice none 0 0) next e)) := fun n next e =>
    retA a109 (hbl.row _) (by exact s109) ⟨rfl, below_setRow hb1 (Nat.le_refl _) _⟩
  (repeat (first | (with_reducible refine ln undB ?_) | (with_reducible refine nck ?_) | (with_reducible refine cdT ?_) | (with_reducible refine cdF ?_) | (with_reducible refine gdY ?_) | (with_reducible refine gdFT ?_) | (with_reducible refine gdTF ?_) | (with_reducible refine gdU ?_) | (with_reducible refine gaY ?_) | (with_reducible refine gaFT ?_) | (with_reducible refine gaTF ?_) | (with_reducible refine pickT ?_) | (with_reducible refine pickF ?_) | (with_reducible refine bi_lss_t (by omega) ?_) | (with_reducible refine bi_lss_f (by omega) ?_) | (with_reducible refine bi_add64 (by omega) ?_) | (with_reducible refine bi_sub64 (by omega) ?_) | (with_reducible refine bi_eql_t (by omega) ?_) | (with_reducible refine bi_eql_f (by omega) ?_) | (with_reducible refine bi_neq_t (by omega) ?_) | (with_reducible refine bi_neq_f (by omega) ?_) | (with_reducible refine bi_gtr_t (by omega) ?_) | (with_reducible refine bi_gtr_f (by omega) ?_) | (with_reducible refine bi_leq_t (by omega) ?_) | (with_reducible refine bi_leq_f (by omega) ?_) | (with_reducible refine bi_geq_t (by omega) ?_) | (with_reducible refine bi_geq_f (by omega) ?_) | (with_reducible refine bi_xt0 ?_) | (with_reducible refine bi_xt1 ?_) | (with_reducible refine bi_xt2 ?_) | (with_reducible refine bi_xt3 ?_) | (with_reducible refine bi_T ?_) | (with_reducible refine bi_F ?_) | (with_reducible refine bi_not ?_) | (with_reducible refine bi_and ?_) | (with_reducible refine bi_or ?_) | (with_reducible refine bi_xor ?_) | (with_reducible refine bi_shr (by omega) (by decide) ?_) | (with_reducible refine bi_shl (by omega) (by decide) ?_) | (with_reducible refine bi_quo64 (by omega) ?_) | (with_reducible refine bi_rem64 (by omega) ?_) | (with_reducible refine bi_mul64 (by omega) ?_) | (with_reducible refine bi_neg ?_) | (with_reducible refine bi_un_xor32 ?_) | (with_reducible refine bi_add ?_) | (with_reducible refine bi_sub ?_) | (with_reducible refine bi_mul ?_) | (with_reducible refine bi_quo (by decide) ?_) | (with_reducible refine bi_rem (by decide) ?_)))
  unfold getAt
  refine LoopP.inv4 (fun p x u y w' => ∃ k acc : Nat, i + k ≤ bs.length ∧ k ≤ 8 ∧ p = .int .i64 (i + k : Nat) ∧ x = .int .i64 acc ∧ u = .int .i64 (128 ^ k : Nat) ∧ y = .int .i64 k ∧ acc < 128 ^ k ∧ (Pack.getFrom 0 (bs.drop i) = if (Pack.getFrom k (bs.drop (i + k))).2.2 = 0 then (acc + 128 ^ k * (Pack.getFrom k (bs.drop (i + k))).1, k + (Pack.getFrom k (bs.drop (i + k))).2.1, 0) else (0, 0, (Pack.getFrom k (bs.drop (i + k))).2.2)) ∧ w1 = w') (fun _ _ _ y _ => 9 - (intOf y).toNat)
    ⟨0, 0, by omega, by omega, rfl, rfl, rfl, rfl, by simp, ?_, rfl⟩ ?_
  · rw [Nat.add_zero]
    have he : (Pack.getFrom 0 (bs.drop i)).2.2 ≠ 0 → Pack.getFrom 0 (bs.drop i) = (0, 0, (Pack.getFrom 0 (bs.drop i)).2.2) := Pack.getFrom_err _ 0
    generalize Pack.getFrom 0 (bs.drop i) = g at *
    split
    · rename_i h0
      obtain ⟨g1, g2, g3⟩ := g
      simp only at h0
      subst h0
      simp
    · rename_i h0
      exact he h0
  rintro _ _ _ _ _ ⟨k, acc, hk, hk8, rfl, rfl, rfl, rfl, hacc, hinv, rfl⟩ J hJ
  dsimp only [List.headD_cons, List.tail_cons]
  (repeat (first | (with_reducible refine nck ?_) | (with_reducible refine cdT ?_) | (with_reducible refine cdF ?_) | (with_reducible refine gdY ?_) | (with_reducible refine gdFT ?_) | (with_reducible refine gdTF ?_) | (with_reducible refine gdU ?_) | (with_reducible refine gaY ?_) | (with_reducible refine gaFT ?_) | (with_reducible refine gaTF ?_) | (with_reducible refine pickT ?_) | (with_reducible refine pickF ?_) | (with_reducible refine bi_lss_t (by omega) ?_) | (with_reducible refine bi_lss_f (by omega) ?_) | (with_reducible refine bi_add64 (by omega) ?_) | (with_reducible refine bi_sub64 (by omega) ?_) | (with_reducible refine bi_eql_t (by omega) ?_) | (with_reducible refine bi_eql_f (by omega) ?_) | (with_reducible refine bi_neq_t (by omega) ?_) | (with_reducible refine bi_neq_f (by omega) ?_) | (with_reducible refine bi_gtr_t (by omega) ?_) | (with_reducible refine bi_gtr_f (by omega) ?_) | (with_reducible refine bi_leq_t (by omega) ?_) | (with_reducible refine bi_leq_f (by omega) ?_) | (with_reducible refine bi_geq_t (by omega) ?_) | (with_reducible refine bi_geq_f (by omega) ?_) | (with_reducible refine bi_xt0 ?_) | (with_reducible refine bi_xt1 ?_) | (with_reducible refine bi_xt2 ?_) | (with_reducible refine bi_xt3 ?_) | (with_reducible refine bi_T ?_) | (with_reducible refine bi_F ?_) | (with_reducible refine bi_not ?_) | (with_reducible refine bi_and ?_) | (with_reducible refine bi_or ?_) | (with_reducible refine bi_xor ?_) | (with_reducible refine bi_shr (by omega) (by decide) ?_) | (with_reducible refine bi_shl (by omega) (by decide) ?_) | (with_reducible refine bi_quo64 (by omega) ?_) | (with_reducible refine bi_rem64 (by omega) ?_) | (with_reducible refine bi_mul64 (by omega) ?_) | (with_reducible refine bi_neg ?_) | (with_reducible refine bi_un_xor32 ?_) | (with_reducible refine bi_add ?_) | (with_reducible refine bi_sub ?_) | (with_reducible refine bi_mul ?_) | (with_reducible refine bi_quo (by decide) ?_) | (with_reducible refine bi_rem (by decide) ?_)))
  refine ln undB ?_
  (first | refine bi_lss_c (fun h => ?_) (fun h => ?_) | refine bi_eql_c (fun h => ?_) (fun h => ?_) | refine bi_neq_c (fun h => ?_) (fun h => ?_) | refine bi_gtr_c (fun h => ?_) (fun h => ?_) | refine bi_leq_c (fun h => ?_) (fun h => ?_) | refine bi_geq_c (fun h => ?_) (fun h => ?_) | refine bi_seql_c (fun h => ?_) (fun h => ?_) | refine bi_sneq_c (fun h => ?_) (fun h => ?_))
  · (repeat (first | (with_reducible refine nck ?_) | (with_reducible refine cdT ?_) | (with_reducible refine cdF ?_) | (with_reducible refine gdY ?_) | (with_reducible refine gdFT ?_) | (with_reducible refine gdTF ?_) | (with_reducible refine gdU ?_) | (with_reducible refine gaY ?_) | (with_reducible refine gaFT ?_) | (with_reducible refine gaTF ?_) | (with_reducible refine pickT ?_) | (with_reducible refine pickF ?_) | (with_reducible refine bi_lss_t (by omega) ?_) | (with_reducible refine bi_lss_f (by omega) ?_) | (with_reducible refine bi_add64 (by omega) ?_) | (with_reducible refine bi_sub64 (by omega) ?_) | (with_reducible refine bi_eql_t (by omega) ?_) | (with_reducible refine bi_eql_f (by omega) ?_) | (with_reducible refine bi_neq_t (by omega) ?_) | (with_reducible refine bi_neq_f (by omega) ?_) | (with_reducible refine bi_gtr_t (by omega) ?_) | (with_reducible refine bi_gtr_f (by omega) ?_) | (with_reducible refine bi_leq_t (by omega) ?_) | (with_reducible refine bi_leq_f (by omega) ?_) | (with_reducible refine bi_geq_t (by omega) ?_) | (with_reducible refine bi_geq_f (by omega) ?_) | (with_reducible refine bi_xt0 ?_) | (with_reducible refine bi_xt1 ?_) | (with_reducible refine bi_xt2 ?_) | (with_reducible refine bi_xt3 ?_) | (with_reducible refine bi_T ?_) | (with_reducible refine bi_F ?_) | (with_reducible refine bi_not ?_) | (with_reducible refine bi_and ?_) | (with_reducible refine bi_or ?_) | (with_reducible refine bi_xor ?_) | (with_reducible refine bi_shr (by omega) (by decide) ?_) | (with_reducible refine bi_shl (by omega) (by decide) ?_) | (with_reducible refine bi_quo64 (by omega) ?_) | (with_reducible refine bi_rem64 (by omega) ?_) | (with_reducible refine bi_mul64 (by omega) ?_) | (with_reducible refine bi_neg ?_) | (with_reducible refine bi_un_xor32 ?_) | (with_reducible refine bi_add ?_) | (with_reducible refine bi_sub ?_) | (with_reducible refine bi_mul ?_) | (with_reducible refine bi_quo (by decide) ?_) | (with_reducible refine bi_rem (by decide) ?_)))
    have hkl : i + k = bs.length := by omega
    have hg : Pack.getFrom k (bs.drop (i + k)) = (0, 0, 2) := by rw [hkl, List.drop_length]; rfl
    rw [hg] at hinv
    rw [hinv]
    refine bd (cells := gotC 0 ⟨#[]⟩ (.slice none 0 0) 0 2) (by kernel_rfl) ?_
    refine stA hbl (by exact s109) (by rfl) (by simp [gotC, Value.oneCell']) ?_
    exact ret 0 0 2
  have hk' : i + k < bs.length := by omega
  obtain ⟨a, rfl, hca⟩ := hv1.at (i + k) hk'
  have hc := bs[i + k].toNat_lt
  have hdrop : bs.drop (i + k) = bs[i + k] :: bs.drop (i + k + 1) := List.drop_eq_getElem_cons hk'
  rw [hdrop] at hinv
  generalize bs[i + k] = ch at *
  (repeat (first | (with_reducible refine ix1 undB sz5 hk' ?_) | (with_reducible refine ld one5' hca ?_) | (with_reducible refine cv53 ?_) | (with_reducible refine nck ?_) | (with_reducible refine cdT ?_) | (with_reducible refine cdF ?_) | (with_reducible refine gdY ?_) | (with_reducible refine gdFT ?_) | (with_reducible refine gdTF ?_) | (with_reducible refine gdU ?_) | (with_reducible refine gaY ?_) | (with_reducible refine gaFT ?_) | (with_reducible refine gaTF ?_) | (with_reducible refine pickT ?_) | (with_reducible refine pickF ?_) | (with_reducible refine bi_lss_t (by omega) ?_) | (with_reducible refine bi_lss_f (by omega) ?_) | (with_reducible refine bi_add64 (by omega) ?_) | (with_reducible refine bi_sub64 (by omega) ?_) | (with_reducible refine bi_eql_t (by omega) ?_) | (with_reducible refine bi_eql_f (by omega) ?_) | (with_reducible refine bi_neq_t (by omega) ?_) | (with_reducible refine bi_neq_f (by omega) ?_) | (with_reducible refine bi_gtr_t (by omega) ?_) | (with_reducible refine bi_gtr_f (by omega) ?_) | (with_reducible refine bi_leq_t (by omega) ?_) | (with_reducible refine bi_leq_f (by omega) ?_) | (with_reducible refine bi_geq_t (by omega) ?_) | (with_reducible refine bi_geq_f (by omega) ?_) | (with_reducible refine bi_xt0 ?_) | (with_reducible refine bi_xt1 ?_) | (with_reducible refine bi_xt2 ?_) | (with_reducible refine bi_xt3 ?_) | (with_reducible refine bi_T ?_) | (with_reducible refine bi_F ?_) | (with_reducible refine bi_not ?_) | (with_reducible refine bi_and ?_) | (with_reducible refine bi_or ?_) | (with_reducible refine bi_xor ?_) | (with_reducible refine bi_shr (by omega) (by decide) ?_) | (with_reducible refine bi_shl (by omega) (by decide) ?_) | (with_reducible refine bi_quo64 (by omega) ?_) | (with_reducible refine bi_rem64 (by omega) ?_) | (with_reducible refine bi_mul64 (by omega) ?_) | (with_reducible refine bi_neg ?_) | (with_reducible refine bi_un_xor32 ?_) | (with_reducible refine bi_add ?_) | (with_reducible refine bi_sub ?_) | (with_reducible refine bi_mul ?_) | (with_reducible refine bi_quo (by decide) ?_) | (with_reducible refine bi_rem (by decide) ?_)))
  have h1 : 128 ^ k ≤ 128 ^ 8 := Nat.pow_le_pow_right (by decide) hk8
  have h2 : ch.toNat % 128 * 128 ^ k ≤ 127 * 128 ^ k := Nat.mul_le_mul (by omega) (Nat.le_refl _)
  have hadd : acc + ch.toNat % 128 * 128 ^ k ≤ 9223372036854775807 := by
    generalize ch.toNat % 128 * 128 ^ k = q at *
    generalize 128 ^ k = p at *
    omega
  have err : ((128 ≤ ch.toNat ∧ k = 8) ∨ (ch.toNat = 0 ∧ 0 < k)) → Pack.getFrom 0 (bs.drop i) = (0, 0, 3) := fun hh => by
    have hg : Pack.getFrom k (ch :: bs.drop (i + k + 1)) = (0, 0, 3) := by rw [Pack.getFrom, if_pos hh]
    rw [hg] at hinv
    exact hinv
  by_cases h128 : 128 ≤ ch.toNat
  · by_cases h8 : k = 8
    · (repeat (first | (with_reducible refine nck ?_) | (with_reducible refine cdT ?_) | (with_reducible refine cdF ?_) | (with_reducible refine gdY ?_) | (with_reducible refine gdFT ?_) | (with_reducible refine gdTF ?_) | (with_reducible refine gdU ?_) | (with_reducible refine gaY ?_) | (with_reducible refine gaFT ?_) | (with_reducible refine gaTF ?_) | (with_reducible refine pickT ?_) | (with_reducible refine pickF ?_) | (with_reducible refine bi_lss_t (by omega) ?_) | (with_reducible refine bi_lss_f (by omega) ?_) | (with_reducible refine bi_add64 (by omega) ?_) | (with_reducible refine bi_sub64 (by omega) ?_) | (with_reducible refine bi_eql_t (by omega) ?_) | (with_reducible refine bi_eql_f (by omega) ?_) | (with_reducible refine bi_neq_t (by omega) ?_) | (with_reducible refine bi_neq_f (by omega) ?_) | (with_reducible refine bi_gtr_t (by omega) ?_) | (with_reducible refine bi_gtr_f (by omega) ?_) | (with_reducible refine bi_leq_t (by omega) ?_) | (with_reducible refine bi_leq_f (by omega) ?_) | (with_reducible refine bi_geq_t (by omega) ?_) | (with_reducible refine bi_geq_f (by omega) ?_) | (with_reducible refine bi_xt0 ?_) | (with_reducible refine bi_xt1 ?_) | (with_reducible refine bi_xt2 ?_) | (with_reducible refine bi_xt3 ?_) | (with_reducible refine bi_T ?_) | (with_reducible refine bi_F ?_) | (with_reducible refine bi_not ?_) | (with_reducible refine bi_and ?_) | (with_reducible refine bi_or ?_) | (with_reducible refine bi_xor ?_) | (with_reducible refine bi_shr (by omega) (by decide) ?_) | (with_reducible refine bi_shl (by omega) (by decide) ?_) | (with_reducible refine bi_quo64 (by omega) ?_) | (with_reducible refine bi_rem64 (by omega) ?_) | (with_reducible refine bi_mul64 (by omega) ?_) | (with_reducible refine bi_neg ?_) | (with_reducible refine bi_un_xor32 ?_) | (with_reducible refine bi_add ?_) | (with_reducible refine bi_sub ?_) | (with_reducible refine bi_mul ?_) | (with_reducible refine bi_quo (by decide) ?_) | (with_reducible refine bi_rem (by decide) ?_)))
      rw [err (.inl ⟨h128, h8⟩)]
      refine bd (cells := gotC 0 ⟨#[]⟩ (.slice none 0 0) 0 3) (by kernel_rfl) ?_
      refine stA hbl (by exact s109) (by rfl) (by simp [gotC, Value.oneCell']) ?_
      exact ret 0 0 3
    · (repeat (first | (with_reducible refine remk ?_) | (with_reducible refine mulk hk8 (by omega) ?_) | (with_reducible refine addk hadd ?_) | (with_reducible refine mul128 (by omega) ?_) | (with_reducible refine nck ?_) | (with_reducible refine cdT ?_) | (with_reducible refine cdF ?_) | (with_reducible refine gdY ?_) | (with_reducible refine gdFT ?_) | (with_reducible refine gdTF ?_) | (with_reducible refine gdU ?_) | (with_reducible refine gaY ?_) | (with_reducible refine gaFT ?_) | (with_reducible refine gaTF ?_) | (with_reducible refine pickT ?_) | (with_reducible refine pickF ?_) | (with_reducible refine bi_lss_t (by omega) ?_) | (with_reducible refine bi_lss_f (by omega) ?_) | (with_reducible refine bi_add64 (by omega) ?_) | (with_reducible refine bi_sub64 (by omega) ?_) | (with_reducible refine bi_eql_t (by omega) ?_) | (with_reducible refine bi_eql_f (by omega) ?_) | (with_reducible refine bi_neq_t (by omega) ?_) | (with_reducible refine bi_neq_f (by omega) ?_) | (with_reducible refine bi_gtr_t (by omega) ?_) | (with_reducible refine bi_gtr_f (by omega) ?_) | (with_reducible refine bi_leq_t (by omega) ?_) | (with_reducible refine bi_leq_f (by omega) ?_) | (with_reducible refine bi_geq_t (by omega) ?_) | (with_reducible refine bi_geq_f (by omega) ?_) | (with_reducible refine bi_xt0 ?_) | (with_reducible refine bi_xt1 ?_) | (with_reducible refine bi_xt2 ?_) | (with_reducible refine bi_xt3 ?_) | (with_reducible refine bi_T ?_) | (with_reducible refine bi_F ?_) | (with_reducible refine bi_not ?_) | (with_reducible refine bi_and ?_) | (with_reducible refine bi_or ?_) | (with_reducible refine bi_xor ?_) | (with_reducible refine bi_shr (by omega) (by decide) ?_) | (with_reducible refine bi_shl (by omega) (by decide) ?_) | (with_reducible refine bi_quo64 (by omega) ?_) | (with_reducible refine bi_rem64 (by omega) ?_) | (with_reducible refine bi_mul64 (by omega) ?_) | (with_reducible refine bi_neg ?_) | (with_reducible refine bi_un_xor32 ?_) | (with_reducible refine bi_add ?_) | (with_reducible refine bi_sub ?_) | (with_reducible refine bi_mul ?_) | (with_reducible refine bi_quo (by decide) ?_) | (with_reducible refine bi_rem (by decide) ?_)))
      refine hJ _ _ _ _ _ ⟨k + 1, acc + ch.toNat % 128 * 128 ^ k, by omega, by omega, by simp; omega, rfl, rfl, by simp, ?_, ?_, rfl⟩ (by simp [intOf]; omega)
      · rw [Nat.pow_succ]
        generalize ch.toNat % 128 * 128 ^ k = q at *
        generalize 128 ^ k = p at *
        omega
      · rw [show i + (k + 1) = i + k + 1 from by omega]
        have hh : ¬ ((128 ≤ ch.toNat ∧ k = 8) ∨ (ch.toNat = 0 ∧ 0 < k)) := by omega
        have hlt : ¬ ch.toNat < 128 := by omega
        by_cases h0 : (Pack.getFrom (k + 1) (bs.drop (i + k + 1))).2.2 = 0
        · have hg : Pack.getFrom k (ch :: bs.drop (i + k + 1)) = (ch.toNat % 128 + 128 * (Pack.getFrom (k + 1) (bs.drop (i + k + 1))).1, (Pack.getFrom (k + 1) (bs.drop (i + k + 1))).2.1 + 1, 0) := by rw [Pack.getFrom, if_neg hh, if_neg hlt, if_pos h0]
          rw [hg] at hinv
          rw [hinv, if_pos h0]
          simp only [if_true]
          refine Prod.ext ?_ (Prod.ext ?_ rfl)
          · simp only
            rw [Nat.mul_add, Nat.pow_succ, Nat.mul_comm (128 ^ k) (ch.toNat % 128), Nat.mul_assoc (128 ^ k) 128]
            exact (Nat.add_assoc _ _ _).symm
          · simp only; omega
        · have hg : Pack.getFrom k (ch :: bs.drop (i + k + 1)) = (0, 0, (Pack.getFrom (k + 1) (bs.drop (i + k + 1))).2.2) := by rw [Pack.getFrom, if_neg hh, if_neg hlt, if_neg h0]
          rw [hg] at hinv
          rw [hinv, if_neg h0]
          simp only
          rw [if_neg h0]
  have hlt : ch.toNat < 128 := by omega
  by_cases hz : ch.toNat = 0 ∧ 0 < k
  · have hz1 := hz.1
    have hz2 := hz.2
    (repeat (first | (with_reducible refine nck ?_) | (with_reducible refine cdT ?_) | (with_reducible refine cdF ?_) | (with_reducible refine gdY ?_) | (with_reducible refine gdFT ?_) | (with_reducible refine gdTF ?_) | (with_reducible refine gdU ?_) | (with_reducible refine gaY ?_) | (with_reducible refine gaFT ?_) | (with_reducible refine gaTF ?_) | (with_reducible refine pickT ?_) | (with_reducible refine pickF ?_) | (with_reducible refine bi_lss_t (by omega) ?_) | (with_reducible refine bi_lss_f (by omega) ?_) | (with_reducible refine bi_add64 (by omega) ?_) | (with_reducible refine bi_sub64 (by omega) ?_) | (with_reducible refine bi_eql_t (by omega) ?_) | (with_reducible refine bi_eql_f (by omega) ?_) | (with_reducible refine bi_neq_t (by omega) ?_) | (with_reducible refine bi_neq_f (by omega) ?_) | (with_reducible refine bi_gtr_t (by omega) ?_) | (with_reducible refine bi_gtr_f (by omega) ?_) | (with_reducible refine bi_leq_t (by omega) ?_) | (with_reducible refine bi_leq_f (by omega) ?_) | (with_reducible refine bi_geq_t (by omega) ?_) | (with_reducible refine bi_geq_f (by omega) ?_) | (with_reducible refine bi_xt0 ?_) | (with_reducible refine bi_xt1 ?_) | (with_reducible refine bi_xt2 ?_) | (with_reducible refine bi_xt3 ?_) | (with_reducible refine bi_T ?_) | (with_reducible refine bi_F ?_) | (with_reducible refine bi_not ?_) | (with_reducible refine bi_and ?_) | (with_reducible refine bi_or ?_) | (with_reducible refine bi_xor ?_) | (with_reducible refine bi_shr (by omega) (by decide) ?_) | (with_reducible refine bi_shl (by omega) (by decide) ?_) | (with_reducible refine bi_quo64 (by omega) ?_) | (with_reducible refine bi_rem64 (by omega) ?_) | (with_reducible refine bi_mul64 (by omega) ?_) | (with_reducible refine bi_neg ?_) | (with_reducible refine bi_un_xor32 ?_) | (with_reducible refine bi_add ?_) | (with_reducible refine bi_sub ?_) | (with_reducible refine bi_mul ?_) | (with_reducible refine bi_quo (by decide) ?_) | (with_reducible refine bi_rem (by decide) ?_)))
    rw [err (.inr hz)]
    refine bd (cells := gotC 0 ⟨#[]⟩ (.slice none 0 0) 0 3) (by kernel_rfl) ?_
    refine stA hbl (by exact s109) (by rfl) (by simp [gotC, Value.oneCell']) ?_
    exact ret 0 0 3
  have hh : ¬ ((128 ≤ ch.toNat ∧ k = 8) ∨ (ch.toNat = 0 ∧ 0 < k)) := by omega
  have hg : Pack.getFrom k (ch :: bs.drop (i + k + 1)) = (ch.toNat, 1, 0) := by rw [Pack.getFrom, if_neg hh, if_pos hlt]
  rw [hg] at hinv
  have fin : Pack.getFrom 0 (bs.drop i) = (acc + ch.toNat % 128 * 128 ^ k, k + 1, 0) := by
    rw [hinv]
    simp only [if_true]
    rw [show ch.toNat % 128 = ch.toNat from by omega, Nat.mul_comm]
  by_cases hz0 : ch.toNat = 0
  · have hk0 : k = 0 := by omega
    (repeat (first | (with_reducible refine remk ?_) | (with_reducible refine mulk hk8 (by omega) ?_) | (with_reducible refine addk hadd ?_) | (with_reducible refine nck ?_) | (with_reducible refine cdT ?_) | (with_reducible refine cdF ?_) | (with_reducible refine gdY ?_) | (with_reducible refine gdFT ?_) | (with_reducible refine gdTF ?_) | (with_reducible refine gdU ?_) | (with_reducible refine gaY ?_) | (with_reducible refine gaFT ?_) | (with_reducible refine gaTF ?_) | (with_reducible refine pickT ?_) | (with_reducible refine pickF ?_) | (with_reducible refine bi_lss_t (by omega) ?_) | (with_reducible refine bi_lss_f (by omega) ?_) | (with_reducible refine bi_add64 (by omega) ?_) | (with_reducible refine bi_sub64 (by omega) ?_) | (with_reducible refine bi_eql_t (by omega) ?_) | (with_reducible refine bi_eql_f (by omega) ?_) | (with_reducible refine bi_neq_t (by omega) ?_) | (with_reducible refine bi_neq_f (by omega) ?_) | (with_reducible refine bi_gtr_t (by omega) ?_) | (with_reducible refine bi_gtr_f (by omega) ?_) | (with_reducible refine bi_leq_t (by omega) ?_) | (with_reducible refine bi_leq_f (by omega) ?_) | (with_reducible refine bi_geq_t (by omega) ?_) | (with_reducible refine bi_geq_f (by omega) ?_) | (with_reducible refine bi_xt0 ?_) | (with_reducible refine bi_xt1 ?_) | (with_reducible refine bi_xt2 ?_) | (with_reducible refine bi_xt3 ?_) | (with_reducible refine bi_T ?_) | (with_reducible refine bi_F ?_) | (with_reducible refine bi_not ?_) | (with_reducible refine bi_and ?_) | (with_reducible refine bi_or ?_) | (with_reducible refine bi_xor ?_) | (with_reducible refine bi_shr (by omega) (by decide) ?_) | (with_reducible refine bi_shl (by omega) (by decide) ?_) | (with_reducible refine bi_quo64 (by omega) ?_) | (with_reducible refine bi_rem64 (by omega) ?_) | (with_reducible refine bi_mul64 (by omega) ?_) | (with_reducible refine bi_neg ?_) | (with_reducible refine bi_un_xor32 ?_) | (with_reducible refine bi_add ?_) | (with_reducible refine bi_sub ?_) | (with_reducible refine bi_mul ?_) | (with_reducible refine bi_quo (by decide) ?_) | (with_reducible refine bi_rem (by decide) ?_)))
    rw [fin]
    rw [show (((i + k : Nat) : Int) + 1) = ((i + (k + 1) : Nat) : Int) from by omega]
    refine bd (cells := gotC (acc + ch.toNat % 128 * 128 ^ k) ⟨#[]⟩ (.slice none 0 0) (i + (k + 1)) 0) (by kernel_rfl) ?_
    refine stA hbl (by exact s109) (by rfl) (by simp [gotC, Value.oneCell']) ?_
    exact ret _ _ _
  · (repeat (first | (with_reducible refine remk ?_) | (with_reducible refine mulk hk8 (by omega) ?_) | (with_reducible refine addk hadd ?_) | (with_reducible refine nck ?_) | (with_reducible refine cdT ?_) | (with_reducible refine cdF ?_) | (with_reducible refine gdY ?_) | (with_reducible refine gdFT ?_) | (with_reducible refine gdTF ?_) | (with_reducible refine gdU ?_) | (with_reducible refine gaY ?_) | (with_reducible refine gaFT ?_) | (with_reducible refine gaTF ?_) | (with_reducible refine pickT ?_) | (with_reducible refine pickF ?_) | (with_reducible refine bi_lss_t (by omega) ?_) | (with_reducible refine bi_lss_f (by omega) ?_) | (with_reducible refine bi_add64 (by omega) ?_) | (with_reducible refine bi_sub64 (by omega) ?_) | (with_reducible refine bi_eql_t (by omega) ?_) | (with_reducible refine bi_eql_f (by omega) ?_) | (with_reducible refine bi_neq_t (by omega) ?_) | (with_reducible refine bi_neq_f (by omega) ?_) | (with_reducible refine bi_gtr_t (by omega) ?_) | (with_reducible refine bi_gtr_f (by omega) ?_) | (with_reducible refine bi_leq_t (by omega) ?_) | (with_reducible refine bi_leq_f (by omega) ?_) | (with_reducible refine bi_geq_t (by omega) ?_) | (with_reducible refine bi_geq_f (by omega) ?_) | (with_reducible refine bi_xt0 ?_) | (with_reducible refine bi_xt1 ?_) | (with_reducible refine bi_xt2 ?_) | (with_reducible refine bi_xt3 ?_) | (with_reducible refine bi_T ?_) | (with_reducible refine bi_F ?_) | (with_reducible refine bi_not ?_) | (with_reducible refine bi_and ?_) | (with_reducible refine bi_or ?_) | (with_reducible refine bi_xor ?_) | (with_reducible refine bi_shr (by omega) (by decide) ?_) | (with_reducible refine bi_shl (by omega) (by decide) ?_) | (with_reducible refine bi_quo64 (by omega) ?_) | (with_reducible refine bi_rem64 (by omega) ?_) | (with_reducible refine bi_mul64 (by omega) ?_) | (with_reducible refine bi_neg ?_) | (with_reducible refine bi_un_xor32 ?_) | (with_reducible refine bi_add ?_) | (with_reducible refine bi_sub ?_) | (with_reducible refine bi_mul ?_) | (with_reducible refine bi_quo (by decide) ?_) | (with_reducible refine bi_rem (by decide) ?_)))
    rw [fin]
    rw [show (((i + k : Nat) : Int) + 1) = ((i + (k + 1) : Nat) : Int) from by omega]
    refine bd (cells := gotC (acc + ch.toNat % 128 * 128 ^ k) ⟨#[]⟩ (.slice none 0 0) (i + (k + 1)) 0) (by kernel_rfl) ?_
    refine stA hbl (by exact s109) (by rfl) (by simp [gotC, Value.oneCell']) ?_
    exact ret _ _ _
end Go.Proofs.Ythicbfopjakiiaa.E
