import Derived.Test.YtmnaggdhkggjhaaGreatDoorMe
import Derived.Test.YtmnaggdhkggjhaaGreatDoorMg
import Derived.Test.YtmnaggdhkggjhaaGreatDoorMi
import Derived.Lib.ConvBytes
namespace Go.Proofs.YtmnaggdhkggjhaaGreatDoor.E
open Go Go.RowKit
set_option linter.unusedSimpArgs false
set_option linter.unusedVariables false

theorem undSS : Tryz.prog.underlying 108 = some (.slice 69) := by kernel_rfl
theorem undB : Tryz.prog.underlying 69 = some (.slice 5) := by kernel_rfl
theorem undU8 : Tryz.prog.underlying 5 = some (.int .u8) := by kernel_rfl
theorem undI3 : Tryz.prog.underlying 3 = some (.int .i64) := by kernel_rfl
theorem undT9 : Tryz.prog.underlying 9 = some .string := by kernel_rfl
theorem szB : (Tryz.prog.info? 69).map (·.size) = some 1 := by kernel_rfl
theorem szU8 : (Tryz.prog.info? 5).map (·.size) = some 1 := by kernel_rfl
theorem oneBB : oneB Tryz.prog 69 = true := by kernel_rfl
theorem infU8 : (Tryz.prog.info? 5).map (fun i => (i.zero, i.size, i.bytes)) = some (some (.int .u8 0), 1, 1) := by kernel_rfl
theorem tot_cast (a b : Nat) : ((a : Int) + (b : Int)) = ((a + b : Nat) : Int) := by omega

theorem Grow_spec (n : Nat) (hn : n ≤ 1000000000) (w : World) : CallP Tryz.prog 69 #[.slice none 0 0, .int .i64 n] (fun r w' => Own 5 w' r [] ∧ Fresh w.heap.size r ∧ Below w.heap.size w w') w := by
  refine ⟨S69.calls _ _ _ _ ?_⟩
  unfold S69
  refine JoinP.plain ?_
  (repeat with_reducible first|refine z_c ?_|refine z_n (by omega) ?_)
  refine JoinP.plain ?_
  refine cpx undB ?_
  refine ln undB ?_
  (repeat with_reducible first|refine z_p (by omega) ?_)
  (first | refine bi_lss_c (fun h => ?_) (fun h => ?_) | refine bi_eql_c (fun h => ?_) (fun h => ?_) | refine bi_neq_c (fun h => ?_) (fun h => ?_) | refine bi_gtr_c (fun h => ?_) (fun h => ?_) | refine bi_leq_c (fun h => ?_) (fun h => ?_) | refine bi_geq_c (fun h => ?_) (fun h => ?_) | refine bi_seql_c (fun h => ?_) (fun h => ?_) | refine bi_sneq_c (fun h => ?_) (fun h => ?_))
  · (repeat with_reducible first|refine z_b ?_)
    refine cpx undB ?_
    refine ofPR (pr_cut undB szU8 .no (.at _ _) .no (Nat.le_refl _) (fun h => by cases h) (Nat.le_refl _) (Nat.le_refl _) (.inl rfl)) ?_
    rw [show ((n : Int) - (((0 : Nat) : Int) - ((0 : Nat) : Int))) = (n : Int) from by omega]
    obtain ⟨i, hi, hzz⟩ := Option.map_eq_some_iff.1 infU8
    simp only [Prod.mk.injEq] at hzz
    obtain ⟨hz0, hz1, hz2⟩ := hzz
    have hr := Lib.run_append_nil_zeros (P := Tryz.prog) w 69 3 69 5 i (.int .u8 0) .i64 .i64 undB undI3 hi hz0 n (by omega) (by omega) (by omega) (by rw [hz2]; omega)
    refine nextV (v := .slice (some ⟨w.heap.size, 0, none⟩) n (grownCap w n 0 5)) (w' := w.drew.alloc (.cells (Builtin.zeroCells (Value.int .u8 0).cells n ++ Builtin.zeroCells (Value.int .u8 0).cells (grownCap w n 0 5 - n)) 5)) ?_ ?_
    · simp only [builtin] at hr ⊢
      rw [show sliced none 0 0 0 1 = .slice none 0 0 from rfl]
      simp [hr]
    have hge := grownCap_ge w n 0 5
    have hle := grownCap_le_maxLen w n 0 5 (by simp only [maxLen]; omega)
    refine ln undB ?_
    refine ofPR (pr_cut undB szU8 .no (.at _ _) .no (Nat.zero_le _) (fun h => by cases h) (Nat.zero_le _) (Nat.le_refl _) (.inl rfl)) ?_
    have hbl := Blk.new w.drew 5 (Builtin.zeroCells (Value.int .u8 0).cells n ++ Builtin.zeroCells (Value.int .u8 0).cells (grownCap w n 0 5 - n))
    refine ⟨?_, ?_, ?_⟩
    · rw [sliced, show (if grownCap w n 0 5 = 0 then (some (⟨w.heap.size, 0, none⟩ : Addr)) else (some (⟨w.heap.size, 0, none⟩ : Addr)).map (·.add (0 * 1))) = some ⟨w.heap.size, 0, none⟩ from by split <;> simp [Addr.add]]
      refine Own.of_blk hbl rfl (Nat.zero_le _) (by simp only [maxLen] at hle; omega) ?_ rfl
      simp [Builtin.zeroCells, Value.cells]
      omega
    · intro k hk
      simp only [List.headD_cons] at hk
      rw [sliced, show (if grownCap w n 0 5 = 0 then (some (⟨w.heap.size, 0, none⟩ : Addr)) else (some (⟨w.heap.size, 0, none⟩ : Addr)).map (·.add (0 * 1))) = some ⟨w.heap.size, 0, none⟩ from by split <;> simp [Addr.add]] at hk
      cases hk
      exact Nat.le_refl _
    · exact (Below.refl _ w).drew.alloc (Nat.le_refl _) _
  · (repeat with_reducible first|refine z_c ?_)
    exact ⟨Own.nil 5 w, Fresh.nil _, Below.refl _ w⟩

theorem Concat_spec (v : Value) (bss : List (List UInt8)) (w : World) (hv : RdSS w v bss) (hl : bss.length ≤ 1000000) (ht : bss.flatten.length ≤ 1000000000) :
    CallP Tryz.prog 56 #[v] (fun r w' => Own 5 w' r (bss.flatten.map u8) ∧ Fresh w.heap.size r ∧ Below w.heap.size w w') w := by
  obtain ⟨A, c, rfl, hc1, hc2⟩ := hv.slice
  refine ⟨S56.calls _ _ _ ?_⟩
  unfold S56
  refine ln undSS ?_
  refine LoopP.inv2 (fun x i w' => ∃ k : Nat, k ≤ bss.length ∧ i = .int .i64 k ∧ x = .int .i64 ((bss.take k).flatten.length : Nat) ∧ w = w') (fun _ i _ => bss.length - (intOf i).toNat) ⟨0, by omega, rfl, rfl, rfl⟩ ?_
  rintro _ _ _ ⟨k, hk, rfl, rfl, rfl⟩ J hJ
  dsimp only [List.headD_cons, List.tail_cons]
  have hk1 := Frame.flat_le bss k
  skip
  (first | refine bi_lss_c (fun h => ?_) (fun h => ?_) | refine bi_eql_c (fun h => ?_) (fun h => ?_) | refine bi_neq_c (fun h => ?_) (fun h => ?_) | refine bi_gtr_c (fun h => ?_) (fun h => ?_) | refine bi_leq_c (fun h => ?_) (fun h => ?_) | refine bi_geq_c (fun h => ?_) (fun h => ?_) | refine bi_seql_c (fun h => ?_) (fun h => ?_) | refine bi_sneq_c (fun h => ?_) (fun h => ?_))
  · have hk' : k < bss.length := by omega
    have hk2 := Frame.flat_le bss (k + 1)
    rw [Frame.flat_take bss k hk', List.length_append] at hk2
    obtain ⟨a, A', n', c', rfl, hca, hrb⟩ := hv.at k hk'
    obtain ⟨A2, c2, he, _⟩ := hrb.slice
    cases he
    (repeat with_reducible first|refine z_b ?_)
    refine JoinP.plain ?_
    (repeat with_reducible first|refine ix1 undSS szB hk' ?_|refine ld oneBB hca ?_|refine ln undB ?_|refine z_c ?_|refine z_n (by omega) ?_|refine z_o (by omega) ?_)
    dsimp only [List.headD_cons, List.tail_cons]
    skip
    refine hJ _ _ _ ⟨k + 1, by omega, by simp, ?_, rfl⟩ (by simp [intOf]; omega)
    rw [Frame.flat_take bss k hk', List.length_append, tot_cast]
  · have hkl : k = bss.length := by omega
    subst hkl
    (repeat with_reducible first|refine z_c ?_)
    rw [List.take_length]
    refine (Grow_spec _ ht w).mono ?_
    rintro v1 w1 ⟨ho1, hf1, hb1⟩
    refine ln undSS ?_
    refine LoopP.inv2 (fun x i w' => ∃ k : Nat, k ≤ bss.length ∧ i = .int .i64 k ∧ Own 5 w' x ((bss.take k).flatten.map u8) ∧ Fresh w.heap.size x ∧ Below w.heap.size w w') (fun _ i _ => bss.length - (intOf i).toNat) ⟨0, by omega, rfl, by simpa using ho1, hf1, hb1⟩ ?_
    rintro x _ w2 ⟨k, hk, rfl, ho2, hf2, hb2⟩ J' hJ'
    dsimp only [List.headD_cons, List.tail_cons]
    skip
    (first | refine bi_lss_c (fun h => ?_) (fun h => ?_) | refine bi_eql_c (fun h => ?_) (fun h => ?_) | refine bi_neq_c (fun h => ?_) (fun h => ?_) | refine bi_gtr_c (fun h => ?_) (fun h => ?_) | refine bi_leq_c (fun h => ?_) (fun h => ?_) | refine bi_geq_c (fun h => ?_) (fun h => ?_) | refine bi_seql_c (fun h => ?_) (fun h => ?_) | refine bi_sneq_c (fun h => ?_) (fun h => ?_))
    · have hk' : k < bss.length := by omega
      have hk2 := Frame.flat_le bss (k + 1)
      rw [Frame.flat_take bss k hk', List.length_append] at hk2
      obtain ⟨a, A', n', c', rfl, hca, hrb⟩ := (hv.below hb2).at k hk'
      (repeat with_reducible first|refine ix1 undSS szB hk' ?_|refine ld oneBB hca ?_|refine z_b ?_)
      refine apF w.heap.size undB infU8 (by rfl) (by decide) ho2 hf2 hb2.size hrb (u8_one _) (by simp only [List.length_map]; omega) ?_
      intro v3 w3 ho3 hf3 hb3 _
      (repeat with_reducible first|refine z_o (by omega) ?_)
      refine hJ' _ _ _ ⟨k + 1, by omega, by simp, ?_, hf3, hb2.trans hb3⟩ (by simp [intOf]; omega)
      rw [Frame.flat_take bss k hk', List.map_append]
      exact ho3
    · have hkl : k = bss.length := by omega
      subst hkl
      (repeat with_reducible first|refine z_c ?_)
      rw [List.take_length] at ho2
      exact ⟨ho2, hf2, hb2⟩

section
variable {K : Value → World → Prop} {w : World} {x y : Operand} {m : Nat}
theorem cv35 (k : K (.int .u8 ((UInt8.ofNat m).toNat : Int)) w) : LiftP Tryz.prog (convert 3 5 (.int .i64 m)) K w :=
  cv undI3 undU8 (by rw [Be4.wrap_u8]; exact k)
theorem or128 {c : UInt8} (k : K (.int .u8 ((c ||| 128).toNat : Int)) w) : LiftP Tryz.prog (binS .or 5 x y (.int .u8 c.toNat) (.int .u8 128)) K w :=
  bi_or (by rw [show (128 : Int) = ((128 : UInt8).toNat : Int) from rfl, or_u8]; exact k)
theorem shr7 (k : K (.int .i64 ((m / 128 : Nat) : Int)) w) : LiftP Tryz.prog (binS .shr 3 x y (.int .i64 m) (.int .u64 7)) K w :=
  bi_shr (by omega) (by decide) (by rw [show ((m : Int) / 2 ^ (7 : Int).toNat) = ((m / 128 : Nat) : Int) from by
                                      have : (2 : Int) ^ (7 : Int).toNat = 128 := by decide
                                      rw [this]; omega]; exact k)
end
theorem Num_spec (n : Nat) (hn : n ≤ 1099511627776) (w : World) : CallP Tryz.prog 27 #[.int .i64 n] (fun r w' => Own 5 w' r ((Pack.num n).map u8) ∧ Fresh w.heap.size r ∧ Below w.heap.size w w') w := by
  refine ⟨S27.calls _ _ _ ?_⟩
  unfold S27
  (repeat with_reducible first|refine z_c ?_|refine z_n (by omega) ?_)
  refine LoopP.inv2 (fun x o w' => ∃ (m : Nat) (pre : List UInt8), x = .int .i64 m ∧ Pack.num n = pre ++ Pack.num m ∧ pre.length + m ≤ n ∧ Own 5 w' o (pre.map u8) ∧ Fresh w.heap.size o ∧ Below w.heap.size w w') (fun x _ _ => (intOf x).toNat)
    ⟨n, [], rfl, rfl, by simp, Own.nil 5 w, Fresh.nil _, Below.refl _ w⟩ ?_
  rintro _ o w1 ⟨m, pre, rfl, hnum, hlen, ho, hf, hb⟩ J hJ
  dsimp only [List.headD_cons, List.tail_cons]
  (first | refine bi_lss_c (fun h => ?_) (fun h => ?_) | refine bi_eql_c (fun h => ?_) (fun h => ?_) | refine bi_neq_c (fun h => ?_) (fun h => ?_) | refine bi_gtr_c (fun h => ?_) (fun h => ?_) | refine bi_leq_c (fun h => ?_) (fun h => ?_) | refine bi_geq_c (fun h => ?_) (fun h => ?_) | refine bi_seql_c (fun h => ?_) (fun h => ?_) | refine bi_sneq_c (fun h => ?_) (fun h => ?_))
  · (repeat with_reducible first|refine cv35 ?_|refine or128 ?_|refine z_b ?_)
    refine lift (v := .slice (some ⟨w1.heap.size, 0, none⟩) 1 1) (w' := w1.alloc (.cells #[.int .u8 ((UInt8.ofNat m ||| 128).toNat : Int)] 5)) (by kernel_rfl) ?_
    have ha := (Below.refl w1.heap.size w1).alloc (Nat.le_refl _) (.cells #[.int .u8 ((UInt8.ofNat m ||| 128).toNat : Int)] 5)
    refine apF w.heap.size undB infU8 (by rfl) (by decide) (ho.below ha) hf (below_then hb ha).size (Own.new w1 5 [.int .u8 ((UInt8.ofNat m ||| 128).toNat : Int)] (by simp)).rd (by simp [Value.oneCell']) (by simp; omega) ?_
    intro v2 w2 ho2 hf2 hb2 _
    (repeat with_reducible first|refine shr7 ?_)
    refine hJ _ _ _ ⟨m / 128, pre ++ [UInt8.ofNat m ||| 128], rfl, ?_, by simp; omega, by rw [List.map_append]; exact ho2, hf2, (below_then hb ha).trans hb2⟩ (by simp [intOf]; omega)
    rw [hnum, Pack.num_big m (by omega)]
    simp
  · (repeat with_reducible first|refine cv35 ?_|refine z_c ?_)
    refine lift (v := .slice (some ⟨w1.heap.size, 0, none⟩) 1 1) (w' := w1.alloc (.cells #[.int .u8 ((UInt8.ofNat m).toNat : Int)] 5)) (by kernel_rfl) ?_
    have ha := (Below.refl w1.heap.size w1).alloc (Nat.le_refl _) (.cells #[.int .u8 ((UInt8.ofNat m).toNat : Int)] 5)
    refine apF w.heap.size undB infU8 (by rfl) (by decide) (ho.below ha) hf (below_then hb ha).size (Own.new w1 5 [.int .u8 ((UInt8.ofNat m).toNat : Int)] (by simp)).rd (by simp [Value.oneCell']) (by simp; omega) ?_
    intro v2 w2 ho2 hf2 hb2 _
    refine ⟨?_, hf2, (below_then hb ha).trans hb2⟩
    rw [hnum, Pack.num_small m (by omega), List.map_append]
    exact ho2
theorem Text_spec (s : ByteArray) (hs : s.size ≤ 1000000) (w : World) : CallP Tryz.prog 33 #[.string s] (fun r w' => Own 5 w' r ((Pack.text s).map u8) ∧ Below w.heap.size w w') w := by
  have hsz : s.data.toList.length = s.size := by rw [Array.length_toList]; rfl
  refine ⟨S33.calls _ _ _ ?_⟩
  unfold S33
  refine lns undT9 ?_
  refine (Num_spec s.size (by omega) w).mono ?_
  rintro v1 w1 ⟨ho1, hf1, hb1⟩
  have hnl := Pack.num_length s.size
  refine apS w.heap.size undB undT9 infU8 ho1 hf1 hb1.size (by omega) ?_
  intro v2 w2 ho2 hb2
  refine ⟨?_, hb1.trans hb2⟩
  rw [Pack.text, hsz]
  exact ho2
/-- An end in memory, behind B. -/
theorem Join_spec (v : Value) (bss : List (List UInt8)) (w : World) (hv : RdSS w v bss) (hl : bss.length ≤ 1000000) (ht : bss.flatten.length ≤ 1000000000) :
    CallP Tryz.prog 30 #[v] (fun r w' => Own 5 w' r (bss.flatten.map u8) ∧ Fresh w.heap.size r ∧ Below w.heap.size w w') w := by
  refine ⟨S30.calls _ _ _ ?_⟩
  unfold S30
  exact (Concat_spec v bss w hv hl ht).mono fun _ _ h => h
theorem or_i64 (a b : Nat) (ha : a < 9223372036854775808) (hb : b < 9223372036854775808) : Go.bits .or .i64 (a : Int) (b : Int) = ((a ||| b : Nat) : Int) := by
  have h : a ||| b < 9223372036854775808 := Nat.or_lt_two_pow (n := 63) ha hb
  show IntKind.i64.wrap _ = _
  have e : ∀ n : Nat, n < 9223372036854775808 → (BitVec.ofInt 64 (n : Int)).toNat = n := fun n hn => by simp; omega
  have e3 : ((BitVec.ofInt 64 (a : Int)) ||| (BitVec.ofInt 64 (b : Int))).toNat = a ||| b := by rw [BitVec.toNat_or, e a ha, e b hb]
  have e2 : IntKind.i64.wrap ((a ||| b : Nat) : Int) = ((a ||| b : Nat) : Int) := IntWalk.i64_in _ (by omega)
  rw [← e2, ← e3]
  rfl
theorem and127 (c : UInt8) : Go.bits .and .u8 (c.toNat : Int) 127 = ((c.toNat % 128 : Nat) : Int) := by
  have : ∀ i : Fin 256, Go.bits .and .u8 (i.val : Int) 127 = ((i.val % 128 : Nat) : Int) := by decide +kernel
  exact this ⟨c.toNat, c.toNat_lt⟩
/-- The number that stands at a place: number, place behind, error. -/
def getAt (bs : List UInt8) (at_ : Nat) : Nat × Nat × Nat :=
  ((Pack.getFrom 0 (bs.drop at_)).1, if (Pack.getFrom 0 (bs.drop at_)).2.2 = 0 then at_ + (Pack.getFrom 0 (bs.drop at_)).2.1 else 0, (Pack.getFrom 0 (bs.drop at_)).2.2)

theorem shlk {K : Value → World → Prop} {w : World} {x y : Operand} {m k : Nat} (hk : k ≤ 8) (hm : m < 128) (kk : K (.int .i64 ((m * 128 ^ k : Nat) : Int)) w) : LiftP Tryz.prog (binS .shl 3 x y (.int .i64 m) (.int .i64 (7 * (k : Int)))) K w :=
  bi_shl (by omega) (by show 7 * (k : Int) ≤ 64; omega) (by
    have h1 : 128 ^ k ≤ 128 ^ 8 := Nat.pow_le_pow_right (by decide) hk
    have h2 : m * 128 ^ k ≤ 127 * 128 ^ 8 := Nat.mul_le_mul (by omega) h1
    have e : ((m : Int) * 2 ^ (7 * (k : Int)).toNat) = ((m * 128 ^ k : Nat) : Int) := by
      have e0 : ((2 : Int) ^ (7 * k)) = ((128 ^ k : Nat) : Int) := by
        rw [show (128 : Nat) ^ k = 2 ^ (7 * k) from by rw [Nat.pow_mul], Int.natCast_pow]
        rfl
      rw [show (7 * (k : Int)).toNat = 7 * k from by omega, e0, Int.natCast_mul]
    rw [e, IntWalk.i64_in _ (by omega)]
    exact kk)
theorem ork {K : Value → World → Prop} {w : World} {x y : Operand} {a m k : Nat} (hk : k ≤ 8) (hm : m < 128) (ha : a < 128 ^ k) (kk : K (.int .i64 ((a + m * 128 ^ k : Nat) : Int)) w) : LiftP Tryz.prog (binS .or 3 x y (.int .i64 a) (.int .i64 ((m * 128 ^ k : Nat) : Int))) K w :=
  bi_or (by
    have h1 : 128 ^ k ≤ 128 ^ 8 := Nat.pow_le_pow_right (by decide) hk
    have h2 : m * 128 ^ k ≤ 127 * 128 ^ 8 := Nat.mul_le_mul (by omega) h1
    have e : a ||| m * 128 ^ k = a + m * 128 ^ k := by
      have e1 : m * 128 ^ k = m <<< (7 * k) := by rw [Nat.shiftLeft_eq, Nat.pow_mul]
      have := Nat.shiftLeft_add_eq_or_of_lt (i := 7 * k) (b := a) (by rw [Nat.pow_mul]; exact ha) m
      rw [e1, Nat.or_comm, ← this, Nat.add_comm]
    rw [or_i64 _ _ (by omega) (by omega), e]
    exact kk)

theorem oneU8 : oneB Tryz.prog 5 = true := by kernel_rfl
theorem GetNum_spec (v : Value) (bs : List UInt8) (i : Nat) (w : World) (hv : RdB w v bs) (hi : i ≤ bs.length) (hl : bs.length ≤ 1000000) :
    CallP Tryz.prog 51 #[v, .int .i64 i] (fun r w' => r = .tuple #[.int .i64 (getAt bs i).1, .int .i64 (getAt bs i).2.1, .int .i64 (getAt bs i).2.2] ∧ w = w') w := by
  obtain ⟨A, c, rfl, hc1, hc2, _⟩ := hv.slice
  refine ⟨S51.calls _ _ _ _ ?_⟩
  unfold S51
  (repeat with_reducible first|refine ln undB ?_|refine z_c ?_|refine z_d ?_|refine z_l ?_|refine z_n (by omega) ?_|refine z_v (by omega) ?_)
  refine ctB undB szU8 hv (.at _ _) .no hi (Nat.le_refl _) ?_
  intro v2 hr
  rw [List.take_length] at hr
  unfold getAt
  have hdl : (bs.drop i).length ≤ 1000000 := by rw [List.length_drop]; omega
  generalize bs.drop i = cs at *
  obtain ⟨A2, c2, rfl, _⟩ := hr.slice
  refine ln undB ?_
  refine LoopP.inv2 (fun x y w' => ∃ k acc : Nat, k ≤ cs.length ∧ k ≤ 8 ∧ y = .int .i64 k ∧ x = .int .i64 acc ∧ acc < 128 ^ k ∧ (Pack.getFrom 0 cs = if (Pack.getFrom k (cs.drop k)).2.2 = 0 then (acc + 128 ^ k * (Pack.getFrom k (cs.drop k)).1, k + (Pack.getFrom k (cs.drop k)).2.1, 0) else (0, 0, (Pack.getFrom k (cs.drop k)).2.2)) ∧ w = w') (fun _ y _ => cs.length - (intOf y).toNat)
    ⟨0, 0, by omega, by omega, rfl, rfl, by simp, ?_, rfl⟩ ?_
  · rw [List.drop_zero]
    have he : (Pack.getFrom 0 cs).2.2 ≠ 0 → Pack.getFrom 0 cs = (0, 0, (Pack.getFrom 0 cs).2.2) := Pack.getFrom_err cs 0
    generalize Pack.getFrom 0 cs = g at *
    split
    · rename_i h0
      obtain ⟨g1, g2, g3⟩ := g
      simp only at h0
      subst h0
      simp
    · rename_i h0
      exact he h0
  rintro _ _ _ ⟨k, acc, hk, hk8, rfl, rfl, hacc, hinv, rfl⟩ J hJ
  dsimp only [List.headD_cons, List.tail_cons]
  (first | refine bi_lss_c (fun h => ?_) (fun h => ?_) | refine bi_eql_c (fun h => ?_) (fun h => ?_) | refine bi_neq_c (fun h => ?_) (fun h => ?_) | refine bi_gtr_c (fun h => ?_) (fun h => ?_) | refine bi_leq_c (fun h => ?_) (fun h => ?_) | refine bi_geq_c (fun h => ?_) (fun h => ?_) | refine bi_seql_c (fun h => ?_) (fun h => ?_) | refine bi_sneq_c (fun h => ?_) (fun h => ?_))
  · have hk' : k < cs.length := by omega
    obtain ⟨a, rfl, hca⟩ := hr.at k hk'
    have hc := cs[k].toNat_lt
    have hdrop : cs.drop k = cs[k] :: cs.drop (k + 1) := List.drop_eq_getElem_cons hk'
    rw [hdrop] at hinv
    generalize cs[k] = ch at *
    (repeat with_reducible first|refine ix1 undB szU8 hk' ?_|refine ld oneU8 hca ?_|refine z_b ?_|refine z_H ?_)
    rw [and127]
    refine cv undU8 undI3 ?_
    rw [IntWalk.i64_in _ (by omega)]
    (repeat with_reducible first|refine shlk hk8 (by omega) ?_|refine ork hk8 (by omega) hacc ?_|refine z_O (by omega) ?_)
    refine JoinP.cut (fun vs w' => vs = [.bool (decide ((128 ≤ ch.toNat ∧ k = 8) ∨ (ch.toNat = 0 ∧ 0 < k)))] ∧ w = w') (fun J2 hJ2 => ?_) ?_
    · (first | refine bi_lss_c (fun h => ?_) (fun h => ?_) | refine bi_eql_c (fun h => ?_) (fun h => ?_) | refine bi_neq_c (fun h => ?_) (fun h => ?_) | refine bi_gtr_c (fun h => ?_) (fun h => ?_) | refine bi_leq_c (fun h => ?_) (fun h => ?_) | refine bi_geq_c (fun h => ?_) (fun h => ?_) | refine bi_seql_c (fun h => ?_) (fun h => ?_) | refine bi_sneq_c (fun h => ?_) (fun h => ?_))
      · (repeat with_reducible first|refine z_d ?_)
        (first | refine bi_lss_c (fun h => ?_) (fun h => ?_) | refine bi_eql_c (fun h => ?_) (fun h => ?_) | refine bi_neq_c (fun h => ?_) (fun h => ?_) | refine bi_gtr_c (fun h => ?_) (fun h => ?_) | refine bi_leq_c (fun h => ?_) (fun h => ?_) | refine bi_geq_c (fun h => ?_) (fun h => ?_) | refine bi_seql_c (fun h => ?_) (fun h => ?_) | refine bi_sneq_c (fun h => ?_) (fun h => ?_))
        · (repeat with_reducible first|refine z_b ?_|refine z_k ?_)
          exact hJ2 _ _ ⟨by rw [decide_eq_true (.inl (by omega))], rfl⟩
        · (repeat with_reducible first|refine z_c ?_|refine z_e ?_|refine z_k ?_|refine z_l ?_|refine z_r (by omega) ?_)
          exact hJ2 _ _ ⟨by rw [decide_eq_false (by omega)], rfl⟩
      · (repeat with_reducible first|refine z_c ?_|refine z_e ?_|refine z_l ?_)
        (first | refine bi_lss_c (fun h => ?_) (fun h => ?_) | refine bi_eql_c (fun h => ?_) (fun h => ?_) | refine bi_neq_c (fun h => ?_) (fun h => ?_) | refine bi_gtr_c (fun h => ?_) (fun h => ?_) | refine bi_leq_c (fun h => ?_) (fun h => ?_) | refine bi_geq_c (fun h => ?_) (fun h => ?_) | refine bi_seql_c (fun h => ?_) (fun h => ?_) | refine bi_sneq_c (fun h => ?_) (fun h => ?_))
        · (repeat with_reducible first|refine z_d ?_)
          (first | refine bi_lss_c (fun h => ?_) (fun h => ?_) | refine bi_eql_c (fun h => ?_) (fun h => ?_) | refine bi_neq_c (fun h => ?_) (fun h => ?_) | refine bi_gtr_c (fun h => ?_) (fun h => ?_) | refine bi_leq_c (fun h => ?_) (fun h => ?_) | refine bi_geq_c (fun h => ?_) (fun h => ?_) | refine bi_seql_c (fun h => ?_) (fun h => ?_) | refine bi_sneq_c (fun h => ?_) (fun h => ?_))
          · (repeat with_reducible first|refine z_k ?_)
            exact hJ2 _ _ ⟨by rw [decide_eq_true (.inr (by omega))], rfl⟩
          · (repeat with_reducible first|refine z_k ?_)
            exact hJ2 _ _ ⟨by rw [decide_eq_false (by omega)], rfl⟩
        · (repeat with_reducible first|refine z_e ?_|refine z_l ?_)
          exact hJ2 _ _ ⟨by rw [decide_eq_false (by omega)], rfl⟩
    rintro _ _ ⟨rfl, rfl⟩
    dsimp only [List.headD_cons, List.tail_cons]
    refine CondP.dec (fun hh => ?_) (fun hh => ?_)
    · have hg : Pack.getFrom k (ch :: cs.drop (k + 1)) = (0, 0, 3) := by rw [Pack.getFrom, if_pos hh]
      rw [hg] at hinv
      rw [hinv]
      exact ⟨rfl, rfl⟩
    (first | refine bi_lss_c (fun h => ?_) (fun h => ?_) | refine bi_eql_c (fun h => ?_) (fun h => ?_) | refine bi_neq_c (fun h => ?_) (fun h => ?_) | refine bi_gtr_c (fun h => ?_) (fun h => ?_) | refine bi_leq_c (fun h => ?_) (fun h => ?_) | refine bi_geq_c (fun h => ?_) (fun h => ?_) | refine bi_seql_c (fun h => ?_) (fun h => ?_) | refine bi_sneq_c (fun h => ?_) (fun h => ?_))
    · have hlt : ch.toNat < 128 := by omega
      have hg : Pack.getFrom k (ch :: cs.drop (k + 1)) = (ch.toNat, 1, 0) := by rw [Pack.getFrom, if_neg hh, if_pos hlt]
      rw [hg] at hinv
      (repeat with_reducible first|refine z_b ?_|refine z_o (by omega) ?_)
      rw [hinv]
      refine ⟨?_, rfl⟩
      simp only [if_true]
      rw [show ch.toNat % 128 = ch.toNat from by omega, Nat.mul_comm, show ((i : Int) + (k : Int) + 1) = ((i + (k + 1) : Nat) : Int) from by omega]
      rfl
    · have hlt : ¬ ch.toNat < 128 := by omega
      have hk7 : k < 8 := by
        rcases Nat.lt_or_ge k 8 with h | h
        · exact h
        · exact absurd (Or.inl ⟨by omega, by omega⟩) hh
      (repeat with_reducible first|refine z_c ?_|refine z_o (by omega) ?_)
      refine hJ _ _ _ ⟨k + 1, acc + ch.toNat % 128 * 128 ^ k, by omega, by omega, by simp, rfl, ?_, ?_, rfl⟩ (by simp [intOf]; omega)
      · rw [Nat.pow_succ]
        have : ch.toNat % 128 * 128 ^ k ≤ 127 * 128 ^ k := Nat.mul_le_mul (by omega) (Nat.le_refl _)
        omega
      · by_cases h0 : (Pack.getFrom (k + 1) (cs.drop (k + 1))).2.2 = 0
        · have hg : Pack.getFrom k (ch :: cs.drop (k + 1)) = (ch.toNat % 128 + 128 * (Pack.getFrom (k + 1) (cs.drop (k + 1))).1, (Pack.getFrom (k + 1) (cs.drop (k + 1))).2.1 + 1, 0) := by rw [Pack.getFrom, if_neg hh, if_neg hlt, if_pos h0]
          rw [hg] at hinv
          rw [hinv, if_pos h0]
          simp only [if_true]
          refine Prod.ext ?_ (Prod.ext ?_ rfl)
          · simp only
            rw [Nat.mul_add, Nat.pow_succ, Nat.mul_comm (128 ^ k) (ch.toNat % 128), Nat.add_assoc, Nat.mul_assoc]
          · simp only; omega
        · have hg : Pack.getFrom k (ch :: cs.drop (k + 1)) = (0, 0, (Pack.getFrom (k + 1) (cs.drop (k + 1))).2.2) := by rw [Pack.getFrom, if_neg hh, if_neg hlt, if_neg h0]
          rw [hg] at hinv
          rw [hinv, if_neg h0]
          simp only
          rw [if_neg h0]
  · (repeat with_reducible first|refine z_c ?_)
    have hkl : k = cs.length := by omega
    rw [hkl, List.drop_length] at hinv
    rw [hinv]
    exact ⟨rfl, rfl⟩
theorem getAt_le (bs : List UInt8) (i : Nat) (hi : i ≤ bs.length) (h : (getAt bs i).2.2 = 0) : i < (getAt bs i).2.1 ∧ (getAt bs i).2.1 ≤ bs.length := by
  unfold getAt at *
  simp only at h ⊢
  obtain ⟨_, _, h3, h4⟩ := Pack.getFrom_num _ 0 h
  rw [List.length_drop] at h3
  rw [if_pos h]
  omega
theorem getAt_err (bs : List UInt8) (i : Nat) (h : (getAt bs i).2.2 ≠ 0) : (getAt bs i).2.1 = 0 := by
  unfold getAt at *
  simp only at h ⊢
  rw [if_neg h]
/-- The text that stands at a place: its bytes, the place behind, the error. -/
def textAt (bs : List UInt8) (i most : Nat) : List UInt8 × Nat × Nat :=
  if (getAt bs i).2.2 ≠ 0 then ([], 0, (getAt bs i).2.2) else if most < (getAt bs i).1 then ([], 0, 4) else if bs.length - (getAt bs i).2.1 < (getAt bs i).1 then ([], 0, 2)
  else ((bs.drop (getAt bs i).2.1).take (getAt bs i).1, (getAt bs i).2.1 + (getAt bs i).1, 0)
def strB (l : List UInt8) : ByteArray := ⟨l.toArray⟩

theorem GetText_spec (v : Value) (bs : List UInt8) (i most : Nat) (w : World) (hv : RdB w v bs) (hi : i ≤ bs.length) (hl : bs.length ≤ 1000000) :
    CallP Tryz.prog 65 #[v, .int .i64 i, .int .i64 most] (fun r w' => r = .tuple #[.string (strB (textAt bs i most).1), .int .i64 (textAt bs i most).2.1, .int .i64 (textAt bs i most).2.2] ∧ w = w') w := by
  obtain ⟨A, c, rfl, hc1, hc2, _⟩ := hv.slice
  refine ⟨S65.calls _ _ _ _ _ ?_⟩
  unfold S65
  refine (GetNum_spec _ bs i w hv hi hl).mono ?_
  rintro _ _ ⟨rfl, rfl⟩
  have hle := getAt_le bs i hi
  unfold textAt
  generalize getAt bs i = q at *
  obtain ⟨n, next, e⟩ := q
  simp only at hle ⊢
  (repeat with_reducible first|refine z_A ?_|refine z_B ?_|refine z_C ?_)
  (first | refine bi_lss_c (fun h => ?_) (fun h => ?_) | refine bi_eql_c (fun h => ?_) (fun h => ?_) | refine bi_neq_c (fun h => ?_) (fun h => ?_) | refine bi_gtr_c (fun h => ?_) (fun h => ?_) | refine bi_leq_c (fun h => ?_) (fun h => ?_) | refine bi_geq_c (fun h => ?_) (fun h => ?_) | refine bi_seql_c (fun h => ?_) (fun h => ?_) | refine bi_sneq_c (fun h => ?_) (fun h => ?_))
  · (repeat with_reducible first|refine z_b ?_)
    rw [if_pos (by omega)]
    exact ⟨rfl, rfl⟩
  (repeat with_reducible first|refine z_c ?_)
  have he : e = 0 := by omega
  subst he
  have hn := hle rfl
  (first | refine bi_lss_c (fun h => ?_) (fun h => ?_) | refine bi_eql_c (fun h => ?_) (fun h => ?_) | refine bi_neq_c (fun h => ?_) (fun h => ?_) | refine bi_gtr_c (fun h => ?_) (fun h => ?_) | refine bi_leq_c (fun h => ?_) (fun h => ?_) | refine bi_geq_c (fun h => ?_) (fun h => ?_) | refine bi_seql_c (fun h => ?_) (fun h => ?_) | refine bi_sneq_c (fun h => ?_) (fun h => ?_))
  · (repeat with_reducible first|refine z_b ?_)
    rw [if_neg (by omega), if_pos (by omega)]
    exact ⟨rfl, rfl⟩
  (repeat with_reducible first|refine ln undB ?_|refine z_c ?_|refine z_p (by omega) ?_)
  (first | refine bi_lss_c (fun h => ?_) (fun h => ?_) | refine bi_eql_c (fun h => ?_) (fun h => ?_) | refine bi_neq_c (fun h => ?_) (fun h => ?_) | refine bi_gtr_c (fun h => ?_) (fun h => ?_) | refine bi_leq_c (fun h => ?_) (fun h => ?_) | refine bi_geq_c (fun h => ?_) (fun h => ?_) | refine bi_seql_c (fun h => ?_) (fun h => ?_) | refine bi_sneq_c (fun h => ?_) (fun h => ?_))
  · (repeat with_reducible first|refine z_b ?_)
    rw [if_neg (by omega), if_neg (by omega), if_pos (by omega)]
    exact ⟨rfl, rfl⟩
  (repeat with_reducible first|refine z_c ?_|refine z_o (by omega) ?_)
  rw [show ((next : Int) + (n : Int)) = ((next + n : Nat) : Int) from by omega]
  refine ctB undB szU8 hv (.at _ _) (.at _ _) (by omega) (by omega) ?_
  intro v2 hr2
  rw [show (bs.take (next + n)).drop next = (bs.drop next).take n from by rw [List.drop_take]; congr 1; omega] at hr2
  refine cvBS undB undU8 undT9 hr2 ?_
  (repeat with_reducible first|refine z_o (by omega) ?_)
  rw [show ((next : Int) + (n : Int)) = ((next + n : Nat) : Int) from by omega]
  rw [if_neg (by omega), if_neg (by omega), if_neg (by omega)]
  exact ⟨rfl, rfl⟩

theorem textAt_le (bs : List UInt8) (i most : Nat) (hi : i ≤ bs.length) (h : (textAt bs i most).2.2 = 0) : (textAt bs i most).2.1 ≤ bs.length := by
  have hle := getAt_le bs i hi
  unfold textAt at *
  split at h
  · rename_i h1; exact absurd h h1
  rename_i h1
  split at h
  · simp at h
  rename_i h2
  split at h
  · simp at h
  rename_i h3
  rw [if_neg h1, if_neg h2, if_neg h3]
  have := hle (Classical.not_not.1 h1)
  simp only
  omega
theorem textAt_err (bs : List UInt8) (i most : Nat) (h : (textAt bs i most).2.2 ≠ 0) : textAt bs i most = ([], 0, (textAt bs i most).2.2) := by
  unfold textAt at *
  split
  · rfl
  split
  · rfl
  split
  · rfl
  rename_i h1 h2 h3
  rw [if_neg h1, if_neg h2, if_neg h3] at h
  exact absurd rfl h
end Go.Proofs.YtmnaggdhkggjhaaGreatDoor.E
namespace Go.Proofs.YtmnaggdhkggjhaaGreatDoor.E
open Go Go.RowKit
set_option linter.unusedSimpArgs false
set_option linter.unusedVariables false

theorem strB_list (l : List UInt8) : (strB l).data.toList = l := rfl
theorem drop_then {α : Type} (bs : List α) (i : Nat) (a r : List α) (h : bs.drop i = a ++ r) : bs.drop (i + a.length) = r := by
  rw [← List.drop_drop, h, List.drop_left]
theorem getAt_num (bs : List UInt8) (i n : Nat) (r : List UInt8) (h : bs.drop i = Pack.num n ++ r) (hn : n ≤ 1099511627776) : getAt bs i = (n, i + (Pack.num n).length, 0) := by
  have := Pack.getFrom_of_num 0 n r (by simp; omega) (by omega) (by omega)
  unfold getAt
  rw [h, this]
  simp
theorem textAt_text (bs : List UInt8) (i most : Nat) (s : ByteArray) (r : List UInt8) (h : bs.drop i = Pack.text s ++ r) (hs : s.size ≤ most) (hm : most ≤ 1000000) : textAt bs i most = (s.data.toList, i + (Pack.text s).length, 0) := by
  have e : s.data.toList.length = s.size := by rw [Array.length_toList]; rfl
  have h' := h
  rw [Pack.text, List.append_assoc] at h'
  have h1 := getAt_num bs i _ _ h' (by omega)
  have h2 := drop_then _ _ _ _ h'
  have h3 : (bs.drop (i + (Pack.num s.data.toList.length).length)).length = (s.data.toList ++ r).length := by rw [h2]
  rw [List.length_drop, List.length_append] at h3
  unfold textAt
  rw [h1]
  simp only
  rw [if_neg (by omega), if_neg (by omega), if_neg (by omega), h2, List.take_left, Pack.text, List.length_append, Nat.add_assoc]
end Go.Proofs.YtmnaggdhkggjhaaGreatDoor.E
namespace Go.Proofs.YtmnaggdhkggjhaaGreatDoor.E
open Go Go.Proofs Go.RowKit Go.Maps Go.Sort Go.Shelf
set_option linter.unusedSimpArgs false
set_option linter.unusedVariables false

def srt {α : Type} (l : List (Int × α)) : List (Int × α) := l.mergeSort fun a b => leI a.1 b.1
theorem leI_trans (a b c : Int) : leI a b = true → leI b c = true → leI a c = true := by simp only [leI, decide_eq_true_eq]; omega
theorem leI_total (a b : Int) : (leI a b || leI b a) = true := by simp only [leI, Bool.or_eq_true, decide_eq_true_eq]; omega
theorem srt_perm {α : Type} (l : List (Int × α)) : (srt l).Perm l := List.mergeSort_perm _ _
theorem srt_keys {α : Type} (l : List (Int × α)) : (srt l).map (·.1) = (l.map (·.1)).mergeSort leI := List.map_mergeSort (fun _ _ _ _ => rfl)
theorem srt_map {α β : Type} (f : α → β) (l : List (Int × α)) : srt (l.map fun p => (p.1, f p.2)) = (srt l).map fun p => (p.1, f p.2) := (List.map_mergeSort (f := fun p : Int × α => (p.1, f p.2)) (r := fun a b : Int × α => leI a.1 b.1) (s := fun a b : Int × β => leI a.1 b.1) (fun _ _ _ _ => rfl)).symm
theorem srt_len {α : Type} (l : List (Int × α)) : (srt l).length = l.length := List.length_mergeSort _
theorem srt_sorted {α : Type} (l : List (Int × α)) : (srt l).Pairwise fun a b => leI a.1 b.1 = true := List.pairwise_mergeSort (le := fun a b : Int × α => leI a.1 b.1) (fun a b c => leI_trans a.1 b.1 c.1) (fun a b => leI_total a.1 b.1) l
theorem srt_rising {α : Type} {l : List (Int × α)} (h : (l.map (·.1)).Nodup) : Rising (srt l) := by
  have hn : ((srt l).map (·.1)).Nodup := ((srt_perm l).map (·.1)).symm.nodup h
  have hs := srt_sorted l
  rw [List.Nodup, List.pairwise_map] at hn
  refine (hs.and hn).imp fun {a b} ⟨h1, h2⟩ => ?_
  simp only [leI, decide_eq_true_eq] at h1
  omega
theorem rising_eq {α : Type} : ∀ {l m : List (Int × α)}, Rising l → Rising m → l.Perm m → l = m
  | [], m, _, _, h => (List.nil_perm.1 h).symm
  | p :: l, [], _, _, h => (by have := h.length_eq; simp at this)
  | p :: l, q :: m, hl, hm, h => by
    obtain ⟨a1, a2⟩ := List.pairwise_cons.1 hl
    obtain ⟨b1, b2⟩ := List.pairwise_cons.1 hm
    have e : p = q := by
      have hp : p ∈ q :: m := h.mem_iff.1 (List.mem_cons_self ..)
      have hq : q ∈ p :: l := h.mem_iff.2 (List.mem_cons_self ..)
      rcases List.mem_cons.1 hp with e | hp
      · exact e
      rcases List.mem_cons.1 hq with e | hq
      · exact e.symm
      have := a1 q hq
      have := b1 p hp
      omega
    subst e
    rw [rising_eq a2 b2 (List.perm_cons p |>.1 h)]
theorem srt_of_perm {α : Type} {l m : List (Int × α)} (h : l.Perm m) (hm : Rising m) : srt l = m :=
  rising_eq (srt_rising (((h.map (·.1)).symm).nodup hm.nodup)) hm ((srt_perm l).trans h)
theorem srt_get {α : Type} {l : List (Int × α)} (h : (l.map (·.1)).Nodup) (i : Nat) (hi : i < (srt l).length) : getK (srt l)[i].1 l = some (srt l)[i].2 :=
  getK_of_mem h ((srt_perm l).mem_iff.1 (List.getElem_mem hi))
def there (b : Bool) : Nat := if b then 1 else 0
def saveR (p : Int × Rm) : List UInt8 := Pack.num p.1.toNat ++ Pack.num p.2.1.code.toNat ++ Pack.num (there p.2.1.there) ++ Pack.num p.2.1.id.toNat ++ Pack.text (strB (Pl.packT p.2.2))
abbrev Lst := List (Int × VC)
def saveCl (p : Int × VC) : List UInt8 := Pack.num p.1.toNat ++ Pack.num p.2.1.toNat ++ Pack.num p.2.2.length ++ (p.2.2.map saveR).flatten
def saveT (M : Lst) : List UInt8 := Pack.num M.length ++ (M.map saveCl).flatten
def cliV (C : Cli) : VC := (C.fl, srt (absL C.l))
def lstT (T : List (Int × Cli)) : Lst := (srt T).map fun p => (p.1, cliV p.2)
theorem keysB_spec (b : Nat) (w : World) : CallP Tryz.prog 29 #[.map (some b)] (fun r w' => r = .func (.func 55) #[] #[.pointer (some ⟨w.heap.size, 0, none⟩)] ∧ w' = w.alloc (.cells #[.map (some b)] 53)) w := by
  have h : CallsIn Fence.wide 5 Tryz.prog 29 #[.map (some b)] w fun e w' => e = .returned (.func (.func 55) #[] #[.pointer (some ⟨w.heap.size, 0, none⟩)]) ∧ w' = w.alloc (.cells #[.map (some b)] 53) := AnyZI.keys_in keysB Fence.wide 5 trivial rfl (some b) w
  exact ⟨(callsIn_wide.1 h).mono fun e w' ⟨h1, h2⟩ => ⟨_, h1, rfl, h2⟩⟩
theorem sortedB_spec (b g : Nat) (l : List (Int × Value)) (w : World) (h : MapI w b l) (hg : w.cell? ⟨g, 0, none⟩ = some (.map (some b))) (hl : l.length ≤ 1000000) :
    CallP Tryz.prog 28 #[.func (.func 55) #[] #[.pointer (some ⟨g, 0, none⟩)]] (fun r w' => Own 3 w' r (((l.map (·.1)).mergeSort leI).map (Value.int .i64)) ∧ Fresh w.heap.size r ∧ Below w.heap.size w w') w := by
  obtain ⟨D0, hown, hperm, hsize⟩ := h.owns
  have hseq : SeqGives Fence.wide 2 Tryz.prog 55 #[.pointer (some ⟨g, 0, none⟩)] encZ (fun ss => ss.Perm (intKeys D0)) (Maps.size D0) w :=
    AnyZI.keys_gives (ρ := keysB_ren) { keysB with } Fence.wide _ trivial rfl (by omega) g b l.length D0 _ (World.block_lt_of_cell? _ _ hg) hg hown
  have cS := AnyZI.sorted_in sortedA Fence.wide 5 trivial trivial trivial trivial rfl (by omega) (sortsA _) (enters_of Tryz.func54 (by kernel_rfl) rfl) 55 #[.pointer (some ⟨g, 0, none⟩)] trivial (enters_of Tryz.func55 (by kernel_rfl) rfl) _ _ (by rw [hsize]; simp only [maxLen]; omega) (by rw [hsize]; omega) _ hseq
  change CallsIn _ _ Tryz.prog 28 _ _ _ at cS
  refine ⟨(callsIn_wide.1 cS).mono fun e w' ⟨v, ss, h1, hS, hrow, hnil, hb⟩ => ⟨v, h1, ?_, ?_, hb⟩⟩
  · have e1 : ss.mergeSort (fun x y => decide (x ≤ y)) = (l.map (·.1)).mergeSort leI := mergeSort_of_perm_i (hS.trans hperm)
    rw [e1] at hrow
    have hlen : (((l.map (·.1)).mergeSort leI).map (Value.int .i64)).length = ss.length := by
      rw [List.length_map, ← e1, List.length_mergeSort]
    refine ⟨by simp, ?_⟩
    rw [hlen]
    rcases hrow.2 with h | ⟨gb, cap, cur, rfl, hbase, hgb, r1, r2, r3, r4⟩
    · exact .inl h
    · exact .inr ⟨gb, cap, cur, rfl, Nat.zero_le _, hgb, r1, r2, r3, r4⟩
  · intro k hk
    rcases hrow.2 with ⟨rfl, _⟩ | ⟨gb, cap, cur, rfl, hbase, _⟩
    · cases hk
    · have : gb = k := by simpa [Value.ownBlock] using hk
      omega
end Go.Proofs.YtmnaggdhkggjhaaGreatDoor.E
