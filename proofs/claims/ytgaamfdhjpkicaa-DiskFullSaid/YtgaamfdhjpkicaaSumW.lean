/- The walks of package sum and of its reference. -/
import Derived.Test.YtgaamfdhjpkicaaE6
import Derived.Test.YtgaamfdhjpkicaaShSum
import Derived.Test.YtgaamfdhjpkicaaCrc
namespace Go.Proofs.Ytgaamfdhjpkicaa.E
open Go Go.RowKit
set_option linter.unusedSimpArgs false
set_option linter.unusedVariables false

theorem step_int (c : BitVec 32) : Go.bits .xor .u32 ((c.toNat : Int) / 2) (Go.bits .and .u32 3988292384 (IntKind.u32.wrap (0 - Go.bits .and .u32 (c.toNat : Int) 1))) = ((Crc.bit c).toNat : Int) := by
  have h1 : Go.bits .and .u32 (c.toNat : Int) 1 = ((c &&& 1#32).toNat : Int) := Crc.and_u32 c 1#32
  have h2 : IntKind.u32.wrap (0 - ((c &&& 1#32).toNat : Int)) = ((bif c.getLsbD 0 then 0xffffffff#32 else 0#32 : BitVec 32).toNat : Int) := by
    have : (c &&& 1#32).toNat = if c.getLsbD 0 then 1 else 0 := by
      rw [BitVec.toNat_and, show (1#32).toNat = 1 from rfl, Nat.and_one_is_mod]
      rw [BitVec.getLsbD, Nat.testBit_zero]
      rcases Nat.mod_two_eq_zero_or_one c.toNat with h | h <;> simp [h]
    rw [this]
    cases c.getLsbD 0 <;> decide
  have h3 : Go.bits .and .u32 3988292384 ((bif c.getLsbD 0 then 0xffffffff#32 else 0#32 : BitVec 32).toNat : Int) = ((bif c.getLsbD 0 then 0xedb88320#32 else 0#32 : BitVec 32).toNat : Int) := by
    cases c.getLsbD 0 <;> decide
  have h4 : ((c.toNat : Int) / (2 : Int)) = ((c >>> 1).toNat : Int) := by
    rw [BitVec.toNat_ushiftRight, Nat.shiftRight_eq_div_pow]; omega
  rw [h1, h2, h3, h4, Crc.xor_u32]
  rfl

theorem nibble_spec (x : BitVec 32) (w : World) : CallP Try.prog 45 #[.int .u32 x.toNat] (fun r w' => r = .int .u32 ((Crc.bits_ 4 x).toNat : Int) ∧ w = w') w := by
  refine ⟨S45.calls _ _ _ ?_⟩
  unfold S45
  refine LoopP.inv2 (fun v i w' => ∃ k : Nat, k ≤ 4 ∧ i = .int .i64 k ∧ v = .int .u32 ((Crc.bits_ k x).toNat : Int) ∧ w = w') (fun _ i _ => 4 - (intOf i).toNat) ⟨0, by omega, rfl, rfl, rfl⟩ ?_
  rintro _ _ _ ⟨k, hk, rfl, rfl, rfl⟩ J hJ
  dsimp only [List.headD_cons, List.tail_cons]
  (repeat (first | (with_reducible refine nck ?_) | (with_reducible refine cdT ?_) | (with_reducible refine cdF ?_) | (with_reducible refine gdY ?_) | (with_reducible refine gdFT ?_) | (with_reducible refine gdTF ?_) | (with_reducible refine gdU ?_) | (with_reducible refine gaY ?_) | (with_reducible refine gaFT ?_) | (with_reducible refine gaTF ?_) | (with_reducible refine pickT ?_) | (with_reducible refine pickF ?_) | (with_reducible refine bi_lss_t (by omega) ?_) | (with_reducible refine bi_lss_f (by omega) ?_) | (with_reducible refine bi_add64 (by omega) ?_) | (with_reducible refine bi_sub64 (by omega) ?_) | (with_reducible refine bi_eql_t (by omega) ?_) | (with_reducible refine bi_eql_f (by omega) ?_) | (with_reducible refine bi_neq_t (by omega) ?_) | (with_reducible refine bi_neq_f (by omega) ?_) | (with_reducible refine bi_gtr_t (by omega) ?_) | (with_reducible refine bi_gtr_f (by omega) ?_) | (with_reducible refine bi_leq_t (by omega) ?_) | (with_reducible refine bi_leq_f (by omega) ?_) | (with_reducible refine bi_geq_t (by omega) ?_) | (with_reducible refine bi_geq_f (by omega) ?_) | (with_reducible refine bi_xt0 ?_) | (with_reducible refine bi_xt1 ?_) | (with_reducible refine bi_xt2 ?_) | (with_reducible refine bi_xt3 ?_) | (with_reducible refine bi_T ?_) | (with_reducible refine bi_F ?_) | (with_reducible refine bi_not ?_) | (with_reducible refine bi_and ?_) | (with_reducible refine bi_or ?_) | (with_reducible refine bi_xor ?_) | (with_reducible refine bi_shr (by omega) (by decide) ?_) | (with_reducible refine bi_shl (by omega) (by decide) ?_) | (with_reducible refine bi_quo64 (by omega) ?_) | (with_reducible refine bi_rem64 (by omega) ?_) | (with_reducible refine bi_mul64 (by omega) ?_) | (with_reducible refine bi_neg ?_) | (with_reducible refine bi_un_xor32 ?_) | (with_reducible refine bi_add ?_) | (with_reducible refine bi_sub ?_) | (with_reducible refine bi_mul ?_) | (with_reducible refine bi_quo (by decide) ?_) | (with_reducible refine bi_rem (by decide) ?_)))
  (first | refine bi_lss_c (fun h => ?_) (fun h => ?_) | refine bi_eql_c (fun h => ?_) (fun h => ?_) | refine bi_neq_c (fun h => ?_) (fun h => ?_) | refine bi_gtr_c (fun h => ?_) (fun h => ?_) | refine bi_leq_c (fun h => ?_) (fun h => ?_) | refine bi_geq_c (fun h => ?_) (fun h => ?_) | refine bi_seql_c (fun h => ?_) (fun h => ?_) | refine bi_sneq_c (fun h => ?_) (fun h => ?_))
  · (repeat (first | (with_reducible refine nck ?_) | (with_reducible refine cdT ?_) | (with_reducible refine cdF ?_) | (with_reducible refine gdY ?_) | (with_reducible refine gdFT ?_) | (with_reducible refine gdTF ?_) | (with_reducible refine gdU ?_) | (with_reducible refine gaY ?_) | (with_reducible refine gaFT ?_) | (with_reducible refine gaTF ?_) | (with_reducible refine pickT ?_) | (with_reducible refine pickF ?_) | (with_reducible refine bi_lss_t (by omega) ?_) | (with_reducible refine bi_lss_f (by omega) ?_) | (with_reducible refine bi_add64 (by omega) ?_) | (with_reducible refine bi_sub64 (by omega) ?_) | (with_reducible refine bi_eql_t (by omega) ?_) | (with_reducible refine bi_eql_f (by omega) ?_) | (with_reducible refine bi_neq_t (by omega) ?_) | (with_reducible refine bi_neq_f (by omega) ?_) | (with_reducible refine bi_gtr_t (by omega) ?_) | (with_reducible refine bi_gtr_f (by omega) ?_) | (with_reducible refine bi_leq_t (by omega) ?_) | (with_reducible refine bi_leq_f (by omega) ?_) | (with_reducible refine bi_geq_t (by omega) ?_) | (with_reducible refine bi_geq_f (by omega) ?_) | (with_reducible refine bi_xt0 ?_) | (with_reducible refine bi_xt1 ?_) | (with_reducible refine bi_xt2 ?_) | (with_reducible refine bi_xt3 ?_) | (with_reducible refine bi_T ?_) | (with_reducible refine bi_F ?_) | (with_reducible refine bi_not ?_) | (with_reducible refine bi_and ?_) | (with_reducible refine bi_or ?_) | (with_reducible refine bi_xor ?_) | (with_reducible refine bi_shr (by omega) (by decide) ?_) | (with_reducible refine bi_shl (by omega) (by decide) ?_) | (with_reducible refine bi_quo64 (by omega) ?_) | (with_reducible refine bi_rem64 (by omega) ?_) | (with_reducible refine bi_mul64 (by omega) ?_) | (with_reducible refine bi_neg ?_) | (with_reducible refine bi_un_xor32 ?_) | (with_reducible refine bi_add ?_) | (with_reducible refine bi_sub ?_) | (with_reducible refine bi_mul ?_) | (with_reducible refine bi_quo (by decide) ?_) | (with_reducible refine bi_rem (by decide) ?_)))
    refine hJ _ _ _ ⟨k + 1, by omega, by simp, ?_, rfl⟩ (by simp [intOf]; omega)
    rw [Crc.bits_succ, ← step_int]
    rfl
  · have hk4 : k = 4 := by omega
    subst hk4
    (repeat (first | (with_reducible refine nck ?_) | (with_reducible refine cdT ?_) | (with_reducible refine cdF ?_) | (with_reducible refine gdY ?_) | (with_reducible refine gdFT ?_) | (with_reducible refine gdTF ?_) | (with_reducible refine gdU ?_) | (with_reducible refine gaY ?_) | (with_reducible refine gaFT ?_) | (with_reducible refine gaTF ?_) | (with_reducible refine pickT ?_) | (with_reducible refine pickF ?_) | (with_reducible refine bi_lss_t (by omega) ?_) | (with_reducible refine bi_lss_f (by omega) ?_) | (with_reducible refine bi_add64 (by omega) ?_) | (with_reducible refine bi_sub64 (by omega) ?_) | (with_reducible refine bi_eql_t (by omega) ?_) | (with_reducible refine bi_eql_f (by omega) ?_) | (with_reducible refine bi_neq_t (by omega) ?_) | (with_reducible refine bi_neq_f (by omega) ?_) | (with_reducible refine bi_gtr_t (by omega) ?_) | (with_reducible refine bi_gtr_f (by omega) ?_) | (with_reducible refine bi_leq_t (by omega) ?_) | (with_reducible refine bi_leq_f (by omega) ?_) | (with_reducible refine bi_geq_t (by omega) ?_) | (with_reducible refine bi_geq_f (by omega) ?_) | (with_reducible refine bi_xt0 ?_) | (with_reducible refine bi_xt1 ?_) | (with_reducible refine bi_xt2 ?_) | (with_reducible refine bi_xt3 ?_) | (with_reducible refine bi_T ?_) | (with_reducible refine bi_F ?_) | (with_reducible refine bi_not ?_) | (with_reducible refine bi_and ?_) | (with_reducible refine bi_or ?_) | (with_reducible refine bi_xor ?_) | (with_reducible refine bi_shr (by omega) (by decide) ?_) | (with_reducible refine bi_shl (by omega) (by decide) ?_) | (with_reducible refine bi_quo64 (by omega) ?_) | (with_reducible refine bi_rem64 (by omega) ?_) | (with_reducible refine bi_mul64 (by omega) ?_) | (with_reducible refine bi_neg ?_) | (with_reducible refine bi_un_xor32 ?_) | (with_reducible refine bi_add ?_) | (with_reducible refine bi_sub ?_) | (with_reducible refine bi_mul ?_) | (with_reducible refine bi_quo (by decide) ?_) | (with_reducible refine bi_rem (by decide) ?_)))
    exact ⟨rfl, rfl⟩

def tab (k : Nat) : Array Value := ((List.range 16).map fun j => if j < k then Value.int .u32 ((Crc.bits_ 4 (BitVec.ofNat 32 j)).toNat : Int) else .int .u32 0).toArray
theorem tab_zero : tab 0 = #[.int .u32 0, .int .u32 0, .int .u32 0, .int .u32 0, .int .u32 0, .int .u32 0, .int .u32 0, .int .u32 0, .int .u32 0, .int .u32 0, .int .u32 0, .int .u32 0, .int .u32 0, .int .u32 0, .int .u32 0, .int .u32 0] := rfl
theorem tab_get (k j : Nat) (hj : j < 16) : (tab k)[j]? = some (if j < k then Value.int .u32 ((Crc.bits_ 4 (BitVec.ofNat 32 j)).toNat : Int) else .int .u32 0) := by
  simp [tab, hj]
theorem tab_set (k : Nat) (hk : k < 16) : (tab k).setIfInBounds k (.int .u32 ((Crc.bits_ 4 (BitVec.ofNat 32 k)).toNat : Int)) = tab (k + 1) := by
  apply Array.ext_getElem?
  intro j
  rw [Array.getElem?_setIfInBounds]
  rcases Nat.lt_or_ge j 16 with hj | hj
  · rw [tab_get _ _ hj, tab_get _ _ hj]
    by_cases h : k = j
    · subst h
      have : k < (tab k).size := by simp [tab]; omega
      simp [this]
    · have h2 : (j < k + 1) ↔ (j < k) := by omega
      simp [h, h2]
  · have : ∀ k, (tab k)[j]? = none := fun k => by rw [Array.getElem?_eq_none]; simp [tab]; omega
    rw [this, this]
    by_cases h : k = j
    · omega
    · simp [h]

theorem zero70 : (Try.prog.info? 70).bind (·.zero) = some (.agg (tab 0)) := by kernel_rfl
theorem und70 : Try.prog.underlying 70 = some (.array 16 22) := by kernel_rfl
theorem und23 : Try.prog.underlying 23 = some (.slice 5) := by kernel_rfl
theorem und22 : Try.prog.underlying 22 = some (.int .u32) := by kernel_rfl
theorem und5 : Try.prog.underlying 5 = some (.int .u8) := by kernel_rfl
theorem und3 : Try.prog.underlying 3 = some (.int .i64) := by kernel_rfl
theorem sz22 : (Try.prog.info? 22).map (·.size) = some 1 := by kernel_rfl
theorem sz5 : (Try.prog.info? 5).map (·.size) = some 1 := by kernel_rfl
theorem one22 : oneB Try.prog 22 = true := by kernel_rfl
theorem one5 : oneB Try.prog 5 = true := by kernel_rfl

theorem not_u32 (x : BitVec 32) : Go.bits .xor .u32 4294967295 (x.toNat : Int) = ((~~~ x).toNat : Int) := by
  have := Crc.xor_u32 4294967295#32 x
  rw [show ((4294967295#32 : BitVec 32).toNat : Int) = 4294967295 from rfl] at this
  rw [this, show (4294967295#32 ^^^ x) = ~~~ x from ?_]
  apply BitVec.eq_of_getLsbD_eq
  intro i hi
  have h1 : (4294967295#32).getLsbD i = true := by
    have : ∀ j : Fin 32, (4294967295#32).getLsbD j = true := by decide
    exact this ⟨i, hi⟩
  rw [BitVec.getLsbD_xor, h1, BitVec.getLsbD_not]
  simp [hi]

section
variable {P : Program} {K : Value → World → Prop} {w : World} {t : TypeId} {x y : Operand}
theorem x32 {a b : BitVec 32} (k : K (.int .u32 ((a ^^^ b).toNat : Int)) w) : LiftP P (binS .xor t x y (.int .u32 a.toNat) (.int .u32 b.toNat)) K w := bi_xor (by rw [Crc.xor_u32]; exact k)
theorem a15 {a : BitVec 32} (k : K (.int .u32 ((a &&& 15#32).toNat : Int)) w) : LiftP P (binS .and t x y (.int .u32 a.toNat) (.int .u32 15)) K w :=
  bi_and (by rw [show (15 : Int) = ((15#32 : BitVec 32).toNat : Int) from rfl, Crc.and_u32]; exact k)
theorem s4 {a : BitVec 32} (k : K (.int .u32 ((a >>> 4).toNat : Int)) w) : LiftP P (binS .shr t x y (.int .u32 a.toNat) (.int .u64 4)) K w :=
  bi_shr (by omega) (by decide) (by rw [show (4 : Int).toNat = 4 from rfl, Crc.shr_u32]; exact k)
theorem n32 {a : BitVec 32} (k : K (.int .u32 ((~~~ a).toNat : Int)) w) : LiftP P (Op.unary .xor (.int .u32 a.toNat)) K w := bi_un_xor32 (by rw [not_u32]; exact k)
end
theorem and15_lt (a : BitVec 32) : (a &&& 15#32).toNat < 16 := by
  rw [BitVec.toNat_and]
  exact Nat.lt_of_le_of_lt Nat.and_le_right (by decide)
theorem tab_at {w : World} {g : Nat} (hb : Blk w g 70 (tab 16)) (a : BitVec 32) : w.cell? ⟨g, (a &&& 15#32).toNat, none⟩ = some (.int .u32 ((Crc.bits_ 4 (a &&& 15#32)).toNat : Int)) := by
  rw [hb.cell, tab_get _ _ (and15_lt a), if_pos (and15_lt a)]
  simp

theorem More_spec (s : BitVec 32) (v : Value) (bs : List UInt8) (w : World) (hv : RdB w v bs) :
    CallP Try.prog 19 #[.int .u32 s.toNat, v] (fun r w' => r = .int .u32 ((Crc.more s bs).toNat : Int) ∧ Below w.heap.size w w') w := by
  obtain ⟨A, c, rfl, hc1, hc2, hcell⟩ := hv.slice
  refine ⟨S19.calls _ _ _ _ ?_⟩
  unfold S19
  refine al zero70 ?_
  refine LoopP.inv1 (fun i w' => ∃ k : Nat, k ≤ 16 ∧ i = .int .i64 k ∧ Blk w' w.heap.size 70 (tab k) ∧ Below w.heap.size w w') (fun i _ => 16 - (intOf i).toNat)
    ⟨0, by omega, rfl, Blk.new _ _ _, (Below.refl _ _).alloc (Nat.le_refl _) _⟩ ?_
  rintro _ w1 ⟨k, hk, rfl, hb, hB⟩ J hJ
  dsimp only [List.headD_cons, List.tail_cons]
  (repeat (first | (with_reducible refine nck ?_) | (with_reducible refine cdT ?_) | (with_reducible refine cdF ?_) | (with_reducible refine gdY ?_) | (with_reducible refine gdFT ?_) | (with_reducible refine gdTF ?_) | (with_reducible refine gdU ?_) | (with_reducible refine gaY ?_) | (with_reducible refine gaFT ?_) | (with_reducible refine gaTF ?_) | (with_reducible refine pickT ?_) | (with_reducible refine pickF ?_) | (with_reducible refine bi_lss_t (by omega) ?_) | (with_reducible refine bi_lss_f (by omega) ?_) | (with_reducible refine bi_add64 (by omega) ?_) | (with_reducible refine bi_sub64 (by omega) ?_) | (with_reducible refine bi_eql_t (by omega) ?_) | (with_reducible refine bi_eql_f (by omega) ?_) | (with_reducible refine bi_neq_t (by omega) ?_) | (with_reducible refine bi_neq_f (by omega) ?_) | (with_reducible refine bi_gtr_t (by omega) ?_) | (with_reducible refine bi_gtr_f (by omega) ?_) | (with_reducible refine bi_leq_t (by omega) ?_) | (with_reducible refine bi_leq_f (by omega) ?_) | (with_reducible refine bi_geq_t (by omega) ?_) | (with_reducible refine bi_geq_f (by omega) ?_) | (with_reducible refine bi_xt0 ?_) | (with_reducible refine bi_xt1 ?_) | (with_reducible refine bi_xt2 ?_) | (with_reducible refine bi_xt3 ?_) | (with_reducible refine bi_T ?_) | (with_reducible refine bi_F ?_) | (with_reducible refine bi_not ?_) | (with_reducible refine bi_and ?_) | (with_reducible refine bi_or ?_) | (with_reducible refine bi_xor ?_) | (with_reducible refine bi_shr (by omega) (by decide) ?_) | (with_reducible refine bi_shl (by omega) (by decide) ?_) | (with_reducible refine bi_quo64 (by omega) ?_) | (with_reducible refine bi_rem64 (by omega) ?_) | (with_reducible refine bi_mul64 (by omega) ?_) | (with_reducible refine bi_neg ?_) | (with_reducible refine bi_un_xor32 ?_) | (with_reducible refine bi_add ?_) | (with_reducible refine bi_sub ?_) | (with_reducible refine bi_mul ?_) | (with_reducible refine bi_quo (by decide) ?_) | (with_reducible refine bi_rem (by decide) ?_)))
  (first | refine bi_lss_c (fun h => ?_) (fun h => ?_) | refine bi_eql_c (fun h => ?_) (fun h => ?_) | refine bi_neq_c (fun h => ?_) (fun h => ?_) | refine bi_gtr_c (fun h => ?_) (fun h => ?_) | refine bi_leq_c (fun h => ?_) (fun h => ?_) | refine bi_geq_c (fun h => ?_) (fun h => ?_) | refine bi_seql_c (fun h => ?_) (fun h => ?_) | refine bi_sneq_c (fun h => ?_) (fun h => ?_))
  · have hk' : k < 16 := by omega
    (repeat (first | (with_reducible refine nck ?_) | (with_reducible refine cdT ?_) | (with_reducible refine cdF ?_) | (with_reducible refine gdY ?_) | (with_reducible refine gdFT ?_) | (with_reducible refine gdTF ?_) | (with_reducible refine gdU ?_) | (with_reducible refine gaY ?_) | (with_reducible refine gaFT ?_) | (with_reducible refine gaTF ?_) | (with_reducible refine pickT ?_) | (with_reducible refine pickF ?_) | (with_reducible refine bi_lss_t (by omega) ?_) | (with_reducible refine bi_lss_f (by omega) ?_) | (with_reducible refine bi_add64 (by omega) ?_) | (with_reducible refine bi_sub64 (by omega) ?_) | (with_reducible refine bi_eql_t (by omega) ?_) | (with_reducible refine bi_eql_f (by omega) ?_) | (with_reducible refine bi_neq_t (by omega) ?_) | (with_reducible refine bi_neq_f (by omega) ?_) | (with_reducible refine bi_gtr_t (by omega) ?_) | (with_reducible refine bi_gtr_f (by omega) ?_) | (with_reducible refine bi_leq_t (by omega) ?_) | (with_reducible refine bi_leq_f (by omega) ?_) | (with_reducible refine bi_geq_t (by omega) ?_) | (with_reducible refine bi_geq_f (by omega) ?_) | (with_reducible refine bi_xt0 ?_) | (with_reducible refine bi_xt1 ?_) | (with_reducible refine bi_xt2 ?_) | (with_reducible refine bi_xt3 ?_) | (with_reducible refine bi_T ?_) | (with_reducible refine bi_F ?_) | (with_reducible refine bi_not ?_) | (with_reducible refine bi_and ?_) | (with_reducible refine bi_or ?_) | (with_reducible refine bi_xor ?_) | (with_reducible refine bi_shr (by omega) (by decide) ?_) | (with_reducible refine bi_shl (by omega) (by decide) ?_) | (with_reducible refine bi_quo64 (by omega) ?_) | (with_reducible refine bi_rem64 (by omega) ?_) | (with_reducible refine bi_mul64 (by omega) ?_) | (with_reducible refine bi_neg ?_) | (with_reducible refine bi_un_xor32 ?_) | (with_reducible refine bi_add ?_) | (with_reducible refine bi_sub ?_) | (with_reducible refine bi_mul ?_) | (with_reducible refine bi_quo (by decide) ?_) | (with_reducible refine bi_rem (by decide) ?_)))
    refine cv und3 und22 ?_
    rw [IntWalk.u32_in _ (by omega)]
    have hn := nibble_spec (BitVec.ofNat 32 k) w1
    rw [← Crc.lit_u32 k (by omega)] at hn
    refine hn.mono ?_
    rintro _ _ ⟨rfl, rfl⟩
    refine ixB und70 sz22 hk' ?_
    refine st sz22 rfl (by rw [hb.cell, tab_get k k hk']; rfl) (hb.frozen _) ?_
    (repeat (first | (with_reducible refine nck ?_) | (with_reducible refine cdT ?_) | (with_reducible refine cdF ?_) | (with_reducible refine gdY ?_) | (with_reducible refine gdFT ?_) | (with_reducible refine gdTF ?_) | (with_reducible refine gdU ?_) | (with_reducible refine gaY ?_) | (with_reducible refine gaFT ?_) | (with_reducible refine gaTF ?_) | (with_reducible refine pickT ?_) | (with_reducible refine pickF ?_) | (with_reducible refine bi_lss_t (by omega) ?_) | (with_reducible refine bi_lss_f (by omega) ?_) | (with_reducible refine bi_add64 (by omega) ?_) | (with_reducible refine bi_sub64 (by omega) ?_) | (with_reducible refine bi_eql_t (by omega) ?_) | (with_reducible refine bi_eql_f (by omega) ?_) | (with_reducible refine bi_neq_t (by omega) ?_) | (with_reducible refine bi_neq_f (by omega) ?_) | (with_reducible refine bi_gtr_t (by omega) ?_) | (with_reducible refine bi_gtr_f (by omega) ?_) | (with_reducible refine bi_leq_t (by omega) ?_) | (with_reducible refine bi_leq_f (by omega) ?_) | (with_reducible refine bi_geq_t (by omega) ?_) | (with_reducible refine bi_geq_f (by omega) ?_) | (with_reducible refine bi_xt0 ?_) | (with_reducible refine bi_xt1 ?_) | (with_reducible refine bi_xt2 ?_) | (with_reducible refine bi_xt3 ?_) | (with_reducible refine bi_T ?_) | (with_reducible refine bi_F ?_) | (with_reducible refine bi_not ?_) | (with_reducible refine bi_and ?_) | (with_reducible refine bi_or ?_) | (with_reducible refine bi_xor ?_) | (with_reducible refine bi_shr (by omega) (by decide) ?_) | (with_reducible refine bi_shl (by omega) (by decide) ?_) | (with_reducible refine bi_quo64 (by omega) ?_) | (with_reducible refine bi_rem64 (by omega) ?_) | (with_reducible refine bi_mul64 (by omega) ?_) | (with_reducible refine bi_neg ?_) | (with_reducible refine bi_un_xor32 ?_) | (with_reducible refine bi_add ?_) | (with_reducible refine bi_sub ?_) | (with_reducible refine bi_mul ?_) | (with_reducible refine bi_quo (by decide) ?_) | (with_reducible refine bi_rem (by decide) ?_)))
    refine hJ _ _ ⟨k + 1, by omega, by simp, ?_, hB.setCell (Nat.le_refl _) _⟩ (by simp [intOf]; omega)
    rw [← tab_set k hk']
    exact hb.set_ _ _
  · have hk16 : k = 16 := by omega
    (repeat (first | (with_reducible refine n32 ?_) | (with_reducible refine nck ?_) | (with_reducible refine cdT ?_) | (with_reducible refine cdF ?_) | (with_reducible refine gdY ?_) | (with_reducible refine gdFT ?_) | (with_reducible refine gdTF ?_) | (with_reducible refine gdU ?_) | (with_reducible refine gaY ?_) | (with_reducible refine gaFT ?_) | (with_reducible refine gaTF ?_) | (with_reducible refine pickT ?_) | (with_reducible refine pickF ?_) | (with_reducible refine bi_lss_t (by omega) ?_) | (with_reducible refine bi_lss_f (by omega) ?_) | (with_reducible refine bi_add64 (by omega) ?_) | (with_reducible refine bi_sub64 (by omega) ?_) | (with_reducible refine bi_eql_t (by omega) ?_) | (with_reducible refine bi_eql_f (by omega) ?_) | (with_reducible refine bi_neq_t (by omega) ?_) | (with_reducible refine bi_neq_f (by omega) ?_) | (with_reducible refine bi_gtr_t (by omega) ?_) | (with_reducible refine bi_gtr_f (by omega) ?_) | (with_reducible refine bi_leq_t (by omega) ?_) | (with_reducible refine bi_leq_f (by omega) ?_) | (with_reducible refine bi_geq_t (by omega) ?_) | (with_reducible refine bi_geq_f (by omega) ?_) | (with_reducible refine bi_xt0 ?_) | (with_reducible refine bi_xt1 ?_) | (with_reducible refine bi_xt2 ?_) | (with_reducible refine bi_xt3 ?_) | (with_reducible refine bi_T ?_) | (with_reducible refine bi_F ?_) | (with_reducible refine bi_not ?_) | (with_reducible refine bi_and ?_) | (with_reducible refine bi_or ?_) | (with_reducible refine bi_xor ?_) | (with_reducible refine bi_shr (by omega) (by decide) ?_) | (with_reducible refine bi_shl (by omega) (by decide) ?_) | (with_reducible refine bi_quo64 (by omega) ?_) | (with_reducible refine bi_rem64 (by omega) ?_) | (with_reducible refine bi_mul64 (by omega) ?_) | (with_reducible refine bi_neg ?_) | (with_reducible refine bi_un_xor32 ?_) | (with_reducible refine bi_add ?_) | (with_reducible refine bi_sub ?_) | (with_reducible refine bi_mul ?_) | (with_reducible refine bi_quo (by decide) ?_) | (with_reducible refine bi_rem (by decide) ?_)))
    clear hJ J
    subst hk16
    refine ln und23 ?_
    refine LoopP.inv2 (fun x i w' => ∃ k : Nat, k ≤ bs.length ∧ i = .int .i64 k ∧ x = .int .u32 ((Crc.run (~~~ s) (bs.take k)).toNat : Int) ∧ w1 = w') (fun _ i _ => bs.length - (intOf i).toNat)
      ⟨0, by omega, rfl, rfl, rfl⟩ ?_
    rintro _ _ _ ⟨k, hk, rfl, rfl, rfl⟩ J hJ
    dsimp only [List.headD_cons, List.tail_cons]
    (repeat (first | (with_reducible refine nck ?_) | (with_reducible refine cdT ?_) | (with_reducible refine cdF ?_) | (with_reducible refine gdY ?_) | (with_reducible refine gdFT ?_) | (with_reducible refine gdTF ?_) | (with_reducible refine gdU ?_) | (with_reducible refine gaY ?_) | (with_reducible refine gaFT ?_) | (with_reducible refine gaTF ?_) | (with_reducible refine pickT ?_) | (with_reducible refine pickF ?_) | (with_reducible refine bi_lss_t (by omega) ?_) | (with_reducible refine bi_lss_f (by omega) ?_) | (with_reducible refine bi_add64 (by omega) ?_) | (with_reducible refine bi_sub64 (by omega) ?_) | (with_reducible refine bi_eql_t (by omega) ?_) | (with_reducible refine bi_eql_f (by omega) ?_) | (with_reducible refine bi_neq_t (by omega) ?_) | (with_reducible refine bi_neq_f (by omega) ?_) | (with_reducible refine bi_gtr_t (by omega) ?_) | (with_reducible refine bi_gtr_f (by omega) ?_) | (with_reducible refine bi_leq_t (by omega) ?_) | (with_reducible refine bi_leq_f (by omega) ?_) | (with_reducible refine bi_geq_t (by omega) ?_) | (with_reducible refine bi_geq_f (by omega) ?_) | (with_reducible refine bi_xt0 ?_) | (with_reducible refine bi_xt1 ?_) | (with_reducible refine bi_xt2 ?_) | (with_reducible refine bi_xt3 ?_) | (with_reducible refine bi_T ?_) | (with_reducible refine bi_F ?_) | (with_reducible refine bi_not ?_) | (with_reducible refine bi_and ?_) | (with_reducible refine bi_or ?_) | (with_reducible refine bi_xor ?_) | (with_reducible refine bi_shr (by omega) (by decide) ?_) | (with_reducible refine bi_shl (by omega) (by decide) ?_) | (with_reducible refine bi_quo64 (by omega) ?_) | (with_reducible refine bi_rem64 (by omega) ?_) | (with_reducible refine bi_mul64 (by omega) ?_) | (with_reducible refine bi_neg ?_) | (with_reducible refine bi_un_xor32 ?_) | (with_reducible refine bi_add ?_) | (with_reducible refine bi_sub ?_) | (with_reducible refine bi_mul ?_) | (with_reducible refine bi_quo (by decide) ?_) | (with_reducible refine bi_rem (by decide) ?_)))
    (first | refine bi_lss_c (fun h => ?_) (fun h => ?_) | refine bi_eql_c (fun h => ?_) (fun h => ?_) | refine bi_neq_c (fun h => ?_) (fun h => ?_) | refine bi_gtr_c (fun h => ?_) (fun h => ?_) | refine bi_leq_c (fun h => ?_) (fun h => ?_) | refine bi_geq_c (fun h => ?_) (fun h => ?_) | refine bi_seql_c (fun h => ?_) (fun h => ?_) | refine bi_sneq_c (fun h => ?_) (fun h => ?_))
    · have hk' : k < bs.length := by omega
      (repeat (first | (with_reducible refine nck ?_) | (with_reducible refine cdT ?_) | (with_reducible refine cdF ?_) | (with_reducible refine gdY ?_) | (with_reducible refine gdFT ?_) | (with_reducible refine gdTF ?_) | (with_reducible refine gdU ?_) | (with_reducible refine gaY ?_) | (with_reducible refine gaFT ?_) | (with_reducible refine gaTF ?_) | (with_reducible refine pickT ?_) | (with_reducible refine pickF ?_) | (with_reducible refine bi_lss_t (by omega) ?_) | (with_reducible refine bi_lss_f (by omega) ?_) | (with_reducible refine bi_add64 (by omega) ?_) | (with_reducible refine bi_sub64 (by omega) ?_) | (with_reducible refine bi_eql_t (by omega) ?_) | (with_reducible refine bi_eql_f (by omega) ?_) | (with_reducible refine bi_neq_t (by omega) ?_) | (with_reducible refine bi_neq_f (by omega) ?_) | (with_reducible refine bi_gtr_t (by omega) ?_) | (with_reducible refine bi_gtr_f (by omega) ?_) | (with_reducible refine bi_leq_t (by omega) ?_) | (with_reducible refine bi_leq_f (by omega) ?_) | (with_reducible refine bi_geq_t (by omega) ?_) | (with_reducible refine bi_geq_f (by omega) ?_) | (with_reducible refine bi_xt0 ?_) | (with_reducible refine bi_xt1 ?_) | (with_reducible refine bi_xt2 ?_) | (with_reducible refine bi_xt3 ?_) | (with_reducible refine bi_T ?_) | (with_reducible refine bi_F ?_) | (with_reducible refine bi_not ?_) | (with_reducible refine bi_and ?_) | (with_reducible refine bi_or ?_) | (with_reducible refine bi_xor ?_) | (with_reducible refine bi_shr (by omega) (by decide) ?_) | (with_reducible refine bi_shl (by omega) (by decide) ?_) | (with_reducible refine bi_quo64 (by omega) ?_) | (with_reducible refine bi_rem64 (by omega) ?_) | (with_reducible refine bi_mul64 (by omega) ?_) | (with_reducible refine bi_neg ?_) | (with_reducible refine bi_un_xor32 ?_) | (with_reducible refine bi_add ?_) | (with_reducible refine bi_sub ?_) | (with_reducible refine bi_mul ?_) | (with_reducible refine bi_quo (by decide) ?_) | (with_reducible refine bi_rem (by decide) ?_)))
      obtain ⟨a, rfl, hca⟩ := hcell k hk'
      have hca1 := (hB.cell (World.block_lt_of_cell? w _ hca)).trans hca
      refine ix1 und23 sz5 hk' ?_
      refine ld one5 hca1 ?_
      refine cv und5 und22 ?_
      have hlt := bs[k].toNat_lt
      rw [IntWalk.u32_in _ (by omega), Crc.lit_u32 bs[k].toNat (by omega)]
      (repeat (first | (with_reducible refine x32 ?_) | (with_reducible refine a15 ?_) | (with_reducible refine s4 ?_) | (with_reducible refine ixB und70 sz22 (and15_lt _) ?_) | (with_reducible refine ld one22 (tab_at hb _) ?_) | (with_reducible refine nck ?_) | (with_reducible refine cdT ?_) | (with_reducible refine cdF ?_) | (with_reducible refine gdY ?_) | (with_reducible refine gdFT ?_) | (with_reducible refine gdTF ?_) | (with_reducible refine gdU ?_) | (with_reducible refine gaY ?_) | (with_reducible refine gaFT ?_) | (with_reducible refine gaTF ?_) | (with_reducible refine pickT ?_) | (with_reducible refine pickF ?_) | (with_reducible refine bi_lss_t (by omega) ?_) | (with_reducible refine bi_lss_f (by omega) ?_) | (with_reducible refine bi_add64 (by omega) ?_) | (with_reducible refine bi_sub64 (by omega) ?_) | (with_reducible refine bi_eql_t (by omega) ?_) | (with_reducible refine bi_eql_f (by omega) ?_) | (with_reducible refine bi_neq_t (by omega) ?_) | (with_reducible refine bi_neq_f (by omega) ?_) | (with_reducible refine bi_gtr_t (by omega) ?_) | (with_reducible refine bi_gtr_f (by omega) ?_) | (with_reducible refine bi_leq_t (by omega) ?_) | (with_reducible refine bi_leq_f (by omega) ?_) | (with_reducible refine bi_geq_t (by omega) ?_) | (with_reducible refine bi_geq_f (by omega) ?_) | (with_reducible refine bi_xt0 ?_) | (with_reducible refine bi_xt1 ?_) | (with_reducible refine bi_xt2 ?_) | (with_reducible refine bi_xt3 ?_) | (with_reducible refine bi_T ?_) | (with_reducible refine bi_F ?_) | (with_reducible refine bi_not ?_) | (with_reducible refine bi_and ?_) | (with_reducible refine bi_or ?_) | (with_reducible refine bi_xor ?_) | (with_reducible refine bi_shr (by omega) (by decide) ?_) | (with_reducible refine bi_shl (by omega) (by decide) ?_) | (with_reducible refine bi_quo64 (by omega) ?_) | (with_reducible refine bi_rem64 (by omega) ?_) | (with_reducible refine bi_mul64 (by omega) ?_) | (with_reducible refine bi_neg ?_) | (with_reducible refine bi_un_xor32 ?_) | (with_reducible refine bi_add ?_) | (with_reducible refine bi_sub ?_) | (with_reducible refine bi_mul ?_) | (with_reducible refine bi_quo (by decide) ?_) | (with_reducible refine bi_rem (by decide) ?_)))
      refine hJ _ _ _ ⟨k + 1, by omega, by simp, ?_, rfl⟩ (by simp [intOf]; omega)
      rw [List.take_succ_eq_append_getElem hk', Crc.run_append]
      show _ = Value.int .u32 ((Crc.byte _ _).toNat : Int)
      rw [Crc.byte_nibbles]
    · have hkl : k = bs.length := by omega
      subst hkl
      (repeat (first | (with_reducible refine n32 ?_) | (with_reducible refine nck ?_) | (with_reducible refine cdT ?_) | (with_reducible refine cdF ?_) | (with_reducible refine gdY ?_) | (with_reducible refine gdFT ?_) | (with_reducible refine gdTF ?_) | (with_reducible refine gdU ?_) | (with_reducible refine gaY ?_) | (with_reducible refine gaFT ?_) | (with_reducible refine gaTF ?_) | (with_reducible refine pickT ?_) | (with_reducible refine pickF ?_) | (with_reducible refine bi_lss_t (by omega) ?_) | (with_reducible refine bi_lss_f (by omega) ?_) | (with_reducible refine bi_add64 (by omega) ?_) | (with_reducible refine bi_sub64 (by omega) ?_) | (with_reducible refine bi_eql_t (by omega) ?_) | (with_reducible refine bi_eql_f (by omega) ?_) | (with_reducible refine bi_neq_t (by omega) ?_) | (with_reducible refine bi_neq_f (by omega) ?_) | (with_reducible refine bi_gtr_t (by omega) ?_) | (with_reducible refine bi_gtr_f (by omega) ?_) | (with_reducible refine bi_leq_t (by omega) ?_) | (with_reducible refine bi_leq_f (by omega) ?_) | (with_reducible refine bi_geq_t (by omega) ?_) | (with_reducible refine bi_geq_f (by omega) ?_) | (with_reducible refine bi_xt0 ?_) | (with_reducible refine bi_xt1 ?_) | (with_reducible refine bi_xt2 ?_) | (with_reducible refine bi_xt3 ?_) | (with_reducible refine bi_T ?_) | (with_reducible refine bi_F ?_) | (with_reducible refine bi_not ?_) | (with_reducible refine bi_and ?_) | (with_reducible refine bi_or ?_) | (with_reducible refine bi_xor ?_) | (with_reducible refine bi_shr (by omega) (by decide) ?_) | (with_reducible refine bi_shl (by omega) (by decide) ?_) | (with_reducible refine bi_quo64 (by omega) ?_) | (with_reducible refine bi_rem64 (by omega) ?_) | (with_reducible refine bi_mul64 (by omega) ?_) | (with_reducible refine bi_neg ?_) | (with_reducible refine bi_un_xor32 ?_) | (with_reducible refine bi_add ?_) | (with_reducible refine bi_sub ?_) | (with_reducible refine bi_mul ?_) | (with_reducible refine bi_quo (by decide) ?_) | (with_reducible refine bi_rem (by decide) ?_)))
      rw [List.take_length]
      exact ⟨rfl, hB⟩

end Go.Proofs.Ytgaamfdhjpkicaa.E
