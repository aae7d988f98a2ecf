import Derived.IntWalk
import Derived.Test.YtadbpelpbaikiaaM2
import Derived.Test.YtadbpelpbaikiaaM4
import Derived.Test.YtadbpelpbaikiaaM1
import Derived.Test.YtadbpelpbaikiaaProg
import Derived.KernelRfl
namespace Go.Proofs.Ytadbpelpbaikiaa.Crc

def bit (c : BitVec 32) : BitVec 32 := (c >>> 1) ^^^ (bif c.getLsbD 0 then 0xedb88320#32 else 0#32)
def bits_ : Nat → BitVec 32 → BitVec 32
  | 0, c => c
  | n + 1, c => bits_ n (bit c)
def byte (c : BitVec 32) (b : UInt8) : BitVec 32 := bits_ 8 (c ^^^ BitVec.ofNat 32 b.toNat)
def run (c : BitVec 32) (bs : List UInt8) : BitVec 32 := bs.foldl byte c
/-- The sum of what had sum s, and bs behind it. -/
def more (s : BitVec 32) (bs : List UInt8) : BitVec 32 := ~~~ (run (~~~ s) bs)
def of (bs : List UInt8) : BitVec 32 := more 0 bs

theorem bits_succ (n : Nat) : ∀ c, bits_ (n + 1) c = bit (bits_ n c) := by
  induction n with
  | zero => intro c; rfl
  | succ n ih => intro c; show bits_ (n + 1) (bit c) = _; rw [ih]; rfl
theorem bits_add (m n : Nat) : ∀ c, bits_ (m + n) c = bits_ n (bits_ m c) := by
  induction m with
  | zero => intro c; simp [bits_]
  | succ m ih => intro c; rw [Nat.succ_add]; exact ih (bit c)

theorem bit_xor (a b : BitVec 32) : bit (a ^^^ b) = bit a ^^^ bit b := by
  unfold bit
  apply BitVec.eq_of_getLsbD_eq
  intro i hi
  simp only [BitVec.getLsbD_xor, BitVec.getLsbD_ushiftRight]
  have h0 : (0#32).getLsbD i = false := by simp
  cases a.getLsbD 0 <;> cases b.getLsbD 0 <;> simp only [Bool.xor_false, Bool.xor_true, Bool.not_false, Bool.not_true, cond_true, cond_false, h0] <;>
    cases a.getLsbD (1 + i) <;> cases b.getLsbD (1 + i) <;> cases (0xedb88320#32).getLsbD i <;> rfl
theorem bits_xor (n : Nat) : ∀ a b, bits_ n (a ^^^ b) = bits_ n a ^^^ bits_ n b := by
  induction n with
  | zero => intro a b; rfl
  | succ n ih => intro a b; simp only [bits_]; rw [bit_xor, ih]
theorem bits_high (n : Nat) : ∀ c : BitVec 32, (∀ i, i < n → c.getLsbD i = false) → bits_ n c = c >>> n := by
  induction n with
  | zero => intro c _; simp [bits_]
  | succ n ih =>
    intro c h
    have h0 : bit c = c >>> 1 := by unfold bit; rw [h 0 (by omega)]; simp
    show bits_ n (bit c) = _
    rw [h0, ih _ (fun i hi => by rw [BitVec.getLsbD_ushiftRight]; exact h _ (by omega)), ← BitVec.shiftRight_add, Nat.add_comm]

theorem split4 (c : BitVec 32) : c = (c &&& ~~~ 15#32) ^^^ (c &&& 15#32) := by
  apply BitVec.eq_of_getLsbD_eq
  intro i hi
  simp only [BitVec.getLsbD_xor, BitVec.getLsbD_and, BitVec.getLsbD_not]
  cases (15#32).getLsbD i <;> simp [hi]
/-- Four steps at once. -/
theorem nibble (c : BitVec 32) : bits_ 4 c = (c >>> 4) ^^^ bits_ 4 (c &&& 15#32) := by
  have h15 : ∀ i, (15#32).getLsbD i = decide (i < 4) := by
    intro i
    rcases Nat.lt_or_ge i 32 with h | h
    · have : ∀ j : Fin 32, (15#32).getLsbD j = decide (j.val < 4) := by decide
      exact this ⟨i, h⟩
    · rw [BitVec.getLsbD_of_ge _ _ h]; simp; omega
  have h1 : bits_ 4 (c &&& ~~~ 15#32) = c >>> 4 := by
    rw [bits_high 4 _ (fun i hi => by simp only [BitVec.getLsbD_and, BitVec.getLsbD_not, h15]; simp [hi])]
    apply BitVec.eq_of_getLsbD_eq
    intro i hi
    simp only [BitVec.getLsbD_ushiftRight, BitVec.getLsbD_and, BitVec.getLsbD_not, h15]
    rcases Nat.lt_or_ge (4 + i) 32 with h | h
    · simp [h]
    · simp [BitVec.getLsbD_of_ge _ _ h]
  conv => lhs; rw [split4 c]
  rw [bits_xor, h1]
theorem byte_nibbles (c : BitVec 32) (b : UInt8) : byte c b =
    ((((c ^^^ BitVec.ofNat 32 b.toNat) >>> 4) ^^^ bits_ 4 ((c ^^^ BitVec.ofNat 32 b.toNat) &&& 15#32)) >>> 4) ^^^ bits_ 4 ((((c ^^^ BitVec.ofNat 32 b.toNat) >>> 4) ^^^ bits_ 4 ((c ^^^ BitVec.ofNat 32 b.toNat) &&& 15#32)) &&& 15#32) := by
  unfold byte
  rw [show (8 : Nat) = 4 + 4 from rfl, bits_add, ← nibble, ← nibble]

theorem run_append (c : BitVec 32) (xs ys : List UInt8) : run c (xs ++ ys) = run (run c xs) ys := List.foldl_append ..
theorem more_append (s : BitVec 32) (xs ys : List UInt8) : more s (xs ++ ys) = more (more s xs) ys := by
  simp only [more, run_append, BitVec.not_not]
theorem wrap_u32 (x : BitVec 32) : IntKind.u32.wrap (x.toNat : Int) = x.toNat := IntWalk.u32_in _ (by have := x.isLt; omega)
theorem ofInt_toNat (x : BitVec 32) : BitVec.ofInt 32 (x.toNat : Int) = x := by simp
theorem xor_u32 (a b : BitVec 32) : Go.bits .xor .u32 (a.toNat : Int) (b.toNat : Int) = ((a ^^^ b).toNat : Int) := by
  show IntKind.u32.wrap _ = _
  simp only [IntKind.bits, ofInt_toNat, wrap_u32]
  rfl
theorem and_u32 (a b : BitVec 32) : Go.bits .and .u32 (a.toNat : Int) (b.toNat : Int) = ((a &&& b).toNat : Int) := by
  show IntKind.u32.wrap _ = _
  simp only [IntKind.bits, ofInt_toNat, wrap_u32]
  rfl
theorem lit_u32 (n : Nat) (h : n < 4294967296) : ((n : Nat) : Int) = ((BitVec.ofNat 32 n).toNat : Int) := by
  rw [BitVec.toNat_ofNat, Nat.mod_eq_of_lt h]
theorem shr_u32 (a : BitVec 32) (n : Nat) : (a.toNat : Int) / 2 ^ n = ((a >>> n).toNat : Int) := by
  rw [BitVec.toNat_ushiftRight, Nat.shiftRight_eq_div_pow]
  norm_cast
end Go.Proofs.Ytadbpelpbaikiaa.Crc
namespace Go.Proofs.Ytadbpelpbaikiaa.E
open Go Go.RowKit
set_option linter.unusedSimpArgs false
set_option linter.unusedVariables false

theorem step_int (c : BitVec 32) : Go.bits .xor .u32 ((c.toNat : Int) / 2) (Go.bits .and .u32 3988292384 (IntKind.u32.wrap (0 - Go.bits .and .u32 (c.toNat : Int) 1))) = ((Crc.bit c).toNat : Int) := by
  have h1 : Go.bits .and .u32 (c.toNat : Int) 1 = ((c &&& 1#32).toNat : Int) := Crc.and_u32 c 1#32
  have h2 : IntKind.u32.wrap (0 - ((c &&& 1#32).toNat : Int)) = ((bif c.getLsbD 0 then 0xffffffff#32 else 0#32 : BitVec 32).toNat : Int) := by
    have : (c &&& 1#32).toNat = if c.getLsbD 0 then 1 else 0 := by
      rw [BitVec.toNat_and, show (1#32).toNat = 1 from rfl, Nat.and_one_is_mod]
      rw [BitVec.getLsbD, Nat.testBit_zero]
      rcases Nat.mod_two_eq_zero_or_one c.toNat with h | h <;> simp [h]
    rw [this]
    cases c.getLsbD 0 <;> decide
  have h3 : Go.bits .and .u32 3988292384 ((bif c.getLsbD 0 then 0xffffffff#32 else 0#32 : BitVec 32).toNat : Int) = ((bif c.getLsbD 0 then 0xedb88320#32 else 0#32 : BitVec 32).toNat : Int) := by
    cases c.getLsbD 0 <;> decide
  have h4 : ((c.toNat : Int) / (2 : Int)) = ((c >>> 1).toNat : Int) := by
    rw [BitVec.toNat_ushiftRight, Nat.shiftRight_eq_div_pow]; omega
  rw [h1, h2, h3, h4, Crc.xor_u32]
  rfl

theorem nibble_spec (x : BitVec 32) (w : World) : CallP Try.prog 45 #[.int .u32 x.toNat] (fun r w' => r = .int .u32 ((Crc.bits_ 4 x).toNat : Int) ∧ w = w') w := by
  refine ⟨S45.calls _ _ _ ?_⟩
  unfold S45
  refine LoopP.inv2 (fun v i w' => ∃ k : Nat, k ≤ 4 ∧ i = .int .i64 k ∧ v = .int .u32 ((Crc.bits_ k x).toNat : Int) ∧ w = w') (fun _ i _ => 4 - (intOf i).toNat) ⟨0, by omega, rfl, rfl, rfl⟩ ?_
  rintro _ _ _ ⟨k, hk, rfl, rfl, rfl⟩ J hJ
  dsimp only [List.headD_cons, List.tail_cons]
  skip
  (first | refine bi_lss_c (fun h => ?_) (fun h => ?_) | refine bi_eql_c (fun h => ?_) (fun h => ?_) | refine bi_neq_c (fun h => ?_) (fun h => ?_) | refine bi_gtr_c (fun h => ?_) (fun h => ?_) | refine bi_leq_c (fun h => ?_) (fun h => ?_) | refine bi_geq_c (fun h => ?_) (fun h => ?_) | refine bi_seql_c (fun h => ?_) (fun h => ?_) | refine bi_sneq_c (fun h => ?_) (fun h => ?_))
  · (repeat with_reducible first|refine z_b ?_|refine z_o (by omega) ?_|refine z_H ?_|refine z_J ?_|refine z_K (by omega) (by decide) ?_|refine z_P ?_)
    refine hJ _ _ _ ⟨k + 1, by omega, by simp, ?_, rfl⟩ (by simp [intOf]; omega)
    rw [Crc.bits_succ, ← step_int]
    rfl
  · have hk4 : k = 4 := by omega
    subst hk4
    (repeat with_reducible first|refine z_c ?_)
    exact ⟨rfl, rfl⟩

def tab (k : Nat) : Array Value := ((List.range 16).map fun j => if j < k then Value.int .u32 ((Crc.bits_ 4 (BitVec.ofNat 32 j)).toNat : Int) else .int .u32 0).toArray
theorem tab_get (k j : Nat) (hj : j < 16) : (tab k)[j]? = some (if j < k then Value.int .u32 ((Crc.bits_ 4 (BitVec.ofNat 32 j)).toNat : Int) else .int .u32 0) := by
  simp [tab, hj]
theorem tab_set (k : Nat) (hk : k < 16) : (tab k).setIfInBounds k (.int .u32 ((Crc.bits_ 4 (BitVec.ofNat 32 k)).toNat : Int)) = tab (k + 1) := by
  apply Array.ext_getElem?
  intro j
  rw [Array.getElem?_setIfInBounds]
  rcases Nat.lt_or_ge j 16 with hj | hj
  · rw [tab_get _ _ hj, tab_get _ _ hj]
    by_cases h : k = j
    · subst h
      have : k < (tab k).size := by simp [tab]; omega
      simp [this]
    · have h2 : (j < k + 1) ↔ (j < k) := by omega
      simp [h, h2]
  · have : ∀ k, (tab k)[j]? = none := fun k => by rw [Array.getElem?_eq_none]; simp [tab]; omega
    rw [this, this]
    by_cases h : k = j
    · omega
    · simp [h]

theorem zero70 : (Try.prog.info? 86).bind (·.zero) = some (.agg (tab 0)) := by kernel_rfl
theorem und70 : Try.prog.underlying 86 = some (.array 16 77) := by kernel_rfl
theorem und23 : Try.prog.underlying 22 = some (.slice 5) := by kernel_rfl
theorem und22 : Try.prog.underlying 77 = some (.int .u32) := by kernel_rfl
theorem und5 : Try.prog.underlying 5 = some (.int .u8) := by kernel_rfl
theorem und3 : Try.prog.underlying 3 = some (.int .i64) := by kernel_rfl
theorem sz22 : (Try.prog.info? 77).map (·.size) = some 1 := by kernel_rfl
theorem sz5 : (Try.prog.info? 5).map (·.size) = some 1 := by kernel_rfl
theorem one22 : oneB Try.prog 77 = true := by kernel_rfl
theorem one5 : oneB Try.prog 5 = true := by kernel_rfl

theorem not_u32 (x : BitVec 32) : Go.bits .xor .u32 4294967295 (x.toNat : Int) = ((~~~ x).toNat : Int) := by
  have := Crc.xor_u32 4294967295#32 x
  rw [show ((4294967295#32 : BitVec 32).toNat : Int) = 4294967295 from rfl] at this
  rw [this, show (4294967295#32 ^^^ x) = ~~~ x from ?_]
  apply BitVec.eq_of_getLsbD_eq
  intro i hi
  have h1 : (4294967295#32).getLsbD i = true := by
    have : ∀ j : Fin 32, (4294967295#32).getLsbD j = true := by decide
    exact this ⟨i, hi⟩
  rw [BitVec.getLsbD_xor, h1, BitVec.getLsbD_not]
  simp [hi]

section
variable {P : Program} {K : Value → World → Prop} {w : World} {t : TypeId} {x y : Operand}
theorem x32 {a b : BitVec 32} (k : K (.int .u32 ((a ^^^ b).toNat : Int)) w) : LiftP P (binS .xor t x y (.int .u32 a.toNat) (.int .u32 b.toNat)) K w := bi_xor (by rw [Crc.xor_u32]; exact k)
theorem a15 {a : BitVec 32} (k : K (.int .u32 ((a &&& 15#32).toNat : Int)) w) : LiftP P (binS .and t x y (.int .u32 a.toNat) (.int .u32 15)) K w :=
  bi_and (by rw [show (15 : Int) = ((15#32 : BitVec 32).toNat : Int) from rfl, Crc.and_u32]; exact k)
theorem s4 {a : BitVec 32} (k : K (.int .u32 ((a >>> 4).toNat : Int)) w) : LiftP P (binS .shr t x y (.int .u32 a.toNat) (.int .u64 4)) K w :=
  bi_shr (by omega) (by decide) (by rw [show (4 : Int).toNat = 4 from rfl, Crc.shr_u32]; exact k)
theorem n32 {a : BitVec 32} (k : K (.int .u32 ((~~~ a).toNat : Int)) w) : LiftP P (Op.unary .xor (.int .u32 a.toNat)) K w := bi_un_xor32 (by rw [not_u32]; exact k)
end
theorem and15_lt (a : BitVec 32) : (a &&& 15#32).toNat < 16 := by
  rw [BitVec.toNat_and]
  exact Nat.lt_of_le_of_lt Nat.and_le_right (by decide)
theorem tab_at {w : World} {g : Nat} (hb : Blk w g 86 (tab 16)) (a : BitVec 32) : w.cell? ⟨g, (a &&& 15#32).toNat, none⟩ = some (.int .u32 ((Crc.bits_ 4 (a &&& 15#32)).toNat : Int)) := by
  rw [hb.cell, tab_get _ _ (and15_lt a), if_pos (and15_lt a)]
  simp

theorem More_spec (s : BitVec 32) (v : Value) (bs : List UInt8) (w : World) (hv : RdB w v bs) :
    CallP Try.prog 43 #[.int .u32 s.toNat, v] (fun r w' => r = .int .u32 ((Crc.more s bs).toNat : Int) ∧ Below w.heap.size w w') w := by
  obtain ⟨A, c, rfl, hc1, hc2, hcell⟩ := hv.slice
  refine ⟨S43.calls _ _ _ _ ?_⟩
  unfold S43
  refine al zero70 ?_
  refine LoopP.inv1 (fun i w' => ∃ k : Nat, k ≤ 16 ∧ i = .int .i64 k ∧ Blk w' w.heap.size 86 (tab k) ∧ Below w.heap.size w w') (fun i _ => 16 - (intOf i).toNat)
    ⟨0, by omega, rfl, Blk.new _ _ _, (Below.refl _ _).alloc (Nat.le_refl _) _⟩ ?_
  rintro _ w1 ⟨k, hk, rfl, hb, hB⟩ J hJ
  dsimp only [List.headD_cons, List.tail_cons]
  skip
  (first | refine bi_lss_c (fun h => ?_) (fun h => ?_) | refine bi_eql_c (fun h => ?_) (fun h => ?_) | refine bi_neq_c (fun h => ?_) (fun h => ?_) | refine bi_gtr_c (fun h => ?_) (fun h => ?_) | refine bi_leq_c (fun h => ?_) (fun h => ?_) | refine bi_geq_c (fun h => ?_) (fun h => ?_) | refine bi_seql_c (fun h => ?_) (fun h => ?_) | refine bi_sneq_c (fun h => ?_) (fun h => ?_))
  · have hk' : k < 16 := by omega
    (repeat with_reducible first|refine z_b ?_)
    refine cv und3 und22 ?_
    rw [IntWalk.u32_in _ (by omega)]
    have hn := nibble_spec (BitVec.ofNat 32 k) w1
    rw [← Crc.lit_u32 k (by omega)] at hn
    refine hn.mono ?_
    rintro _ _ ⟨rfl, rfl⟩
    refine ixB und70 sz22 hk' ?_
    refine st sz22 rfl (by rw [hb.cell, tab_get k k hk']; rfl) (hb.frozen _) ?_
    (repeat with_reducible first|refine z_o (by omega) ?_)
    refine hJ _ _ ⟨k + 1, by omega, by simp, ?_, hB.setCell (Nat.le_refl _) _⟩ (by simp [intOf]; omega)
    rw [← tab_set k hk']
    exact hb.set_ _ _
  · have hk16 : k = 16 := by omega
    (repeat with_reducible first|refine n32 ?_|refine z_c ?_)
    clear hJ J
    subst hk16
    refine ln und23 ?_
    refine LoopP.inv2 (fun x i w' => ∃ k : Nat, k ≤ bs.length ∧ i = .int .i64 k ∧ x = .int .u32 ((Crc.run (~~~ s) (bs.take k)).toNat : Int) ∧ w1 = w') (fun _ i _ => bs.length - (intOf i).toNat)
      ⟨0, by omega, rfl, rfl, rfl⟩ ?_
    rintro _ _ _ ⟨k, hk, rfl, rfl, rfl⟩ J hJ
    dsimp only [List.headD_cons, List.tail_cons]
    skip
    (first | refine bi_lss_c (fun h => ?_) (fun h => ?_) | refine bi_eql_c (fun h => ?_) (fun h => ?_) | refine bi_neq_c (fun h => ?_) (fun h => ?_) | refine bi_gtr_c (fun h => ?_) (fun h => ?_) | refine bi_leq_c (fun h => ?_) (fun h => ?_) | refine bi_geq_c (fun h => ?_) (fun h => ?_) | refine bi_seql_c (fun h => ?_) (fun h => ?_) | refine bi_sneq_c (fun h => ?_) (fun h => ?_))
    · have hk' : k < bs.length := by omega
      (repeat with_reducible first|refine z_b ?_)
      obtain ⟨a, rfl, hca⟩ := hcell k hk'
      have hca1 := (hB.cell (World.block_lt_of_cell? w _ hca)).trans hca
      refine ix1 und23 sz5 hk' ?_
      refine ld one5 hca1 ?_
      refine cv und5 und22 ?_
      have hlt := bs[k].toNat_lt
      rw [IntWalk.u32_in _ (by omega), Crc.lit_u32 bs[k].toNat (by omega)]
      (repeat with_reducible first|refine x32 ?_|refine a15 ?_|refine s4 ?_|refine ixB und70 sz22 (and15_lt _) ?_|refine ld one22 (tab_at hb _) ?_|refine z_o (by omega) ?_)
      refine hJ _ _ _ ⟨k + 1, by omega, by simp, ?_, rfl⟩ (by simp [intOf]; omega)
      rw [List.take_succ_eq_append_getElem hk', Crc.run_append]
      show _ = Value.int .u32 ((Crc.byte _ _).toNat : Int)
      rw [Crc.byte_nibbles]
    · have hkl : k = bs.length := by omega
      subst hkl
      (repeat with_reducible first|refine n32 ?_|refine z_c ?_)
      rw [List.take_length]
      exact ⟨rfl, hB⟩

end Go.Proofs.Ytadbpelpbaikiaa.E
namespace Go.Proofs.Ytadbpelpbaikiaa.E
open Go Go.RowKit
set_option linter.unusedSimpArgs false
set_option linter.unusedVariables false

theorem Of_spec (v : Value) (bs : List UInt8) (w : World) (hv : RdB w v bs) : CallP Try.prog 44 #[v] (fun r w' => r = .int .u32 ((Crc.of bs).toNat : Int) ∧ Below w.heap.size w w') w := by
  refine ⟨S44.calls _ _ _ ?_⟩
  unfold S44
  exact (More_spec 0#32 v bs w hv).mono fun _ _ h => h
end Go.Proofs.Ytadbpelpbaikiaa.E
namespace Go.Proofs.Ytadbpelpbaikiaa.Be4
def put (n : Nat) : List UInt8 := [UInt8.ofNat (n / 16777216), UInt8.ofNat (n / 65536), UInt8.ofNat (n / 256), UInt8.ofNat n]
def get (l : List UInt8) : Nat := l.foldl (fun n c => n * 256 + c.toNat) 0
theorem get_snoc (l : List UInt8) (c : UInt8) : get (l ++ [c]) = get l * 256 + c.toNat := by simp [get]
theorem get_lt : ∀ l : List UInt8, ∀ n, l.length ≤ n → get l < 256 ^ n := by
  intro l
  suffices h : ∀ l : List UInt8, get l.reverse < 256 ^ l.length by
    intro n hn
    have := h l.reverse
    rw [List.reverse_reverse, List.length_reverse] at this
    exact Nat.lt_of_lt_of_le this (Nat.pow_le_pow_right (by decide) hn)
  intro l
  induction l with
  | nil => decide
  | cons c l ih =>
    rw [List.reverse_cons, get_snoc, List.length_cons, Nat.pow_succ]
    have := c.toNat_lt
    omega
theorem put_length (n : Nat) : (put n).length = 4 := rfl
theorem get_four (a b c d : UInt8) : get [a, b, c, d] = ((a.toNat * 256 + b.toNat) * 256 + c.toNat) * 256 + d.toNat := by simp [get]
theorem get_put (n : Nat) (h : n < 4294967296) : get (put n) = n := by
  unfold put
  rw [get_four]
  simp only [UInt8.toNat_ofNat']
  omega
theorem wrap_u8 (n : Nat) : IntKind.u8.wrap (n : Int) = ((UInt8.ofNat n).toNat : Int) := by
  rw [UInt8.toNat_ofNat']
  simp [IntKind.wrap, IntKind.signed, IntKind.bits]
theorem or_u32 (a b : BitVec 32) : Go.bits .or .u32 (a.toNat : Int) (b.toNat : Int) = ((a ||| b).toNat : Int) := by
  show IntKind.u32.wrap _ = _
  have h : ∀ x : BitVec 32, IntKind.u32.wrap (x.toNat : Int) = x.toNat := fun x => IntWalk.u32_in _ (by have := x.isLt; omega)
  have h2 : ∀ x : BitVec 32, BitVec.ofInt 32 (x.toNat : Int) = x := fun x => by simp
  simp only [IntKind.bits, h2, h]
  rfl
/-- n << 8 | c -/
theorem step (n : Nat) (c : UInt8) (h : n < 16777216) : Go.bits .or .u32 (IntKind.u32.wrap ((n : Int) * 2 ^ (8 : Int).toNat)) (c.toNat : Int) = ((n * 256 + c.toNat : Nat) : Int) := by
  have hc := c.toNat_lt
  rw [show ((n : Int) * 2 ^ (8 : Int).toNat) = ((n * 256 : Nat) : Int) from by
    have : (2 : Int) ^ (8 : Int).toNat = 256 := by decide
    rw [this]; omega]
  rw [IntWalk.u32_in _ (by omega)]
  have e1 : ((n * 256 : Nat) : Int) = ((BitVec.ofNat 32 (n * 256)).toNat : Int) := by rw [BitVec.toNat_ofNat, Nat.mod_eq_of_lt (by omega)]
  have e2 : (c.toNat : Int) = ((BitVec.ofNat 32 c.toNat).toNat : Int) := by rw [BitVec.toNat_ofNat, Nat.mod_eq_of_lt (by omega)]
  rw [e1, e2, or_u32, BitVec.toNat_or, BitVec.toNat_ofNat, BitVec.toNat_ofNat, Nat.mod_eq_of_lt (by omega), Nat.mod_eq_of_lt (by omega)]
  rw [show n * 256 = n <<< 8 from by rw [Nat.shiftLeft_eq], ← Nat.shiftLeft_add_eq_or_of_lt (by omega)]
end Go.Proofs.Ytadbpelpbaikiaa.Be4
namespace Go.Proofs.Ytadbpelpbaikiaa.E
open Go Go.RowKit
set_option linter.unusedSimpArgs false
set_option linter.unusedVariables false

theorem inf5 : (Try.prog.info? 5).map (fun i => (i.zero, i.size, i.bytes)) = some (some (.int .u8 0), 1, 1) := by kernel_rfl
section
variable {P : Program} {K : Value → World → Prop} {S : World → Prop} {w : World} {t : TypeId} {x y : Operand} {m : Nat}
theorem shr24 (k : K (.int .u32 ((m / 16777216 : Nat) : Int)) w) : LiftP P (binS .shr t x y (.int .u32 m) (.int .u64 24)) K w :=
  bi_shr (by omega) (by decide) (by rw [show ((m : Int) / 2 ^ (24 : Int).toNat) = ((m / 16777216 : Nat) : Int) from by have : (2 : Int) ^ (24 : Int).toNat = 16777216 := by decide
                                                                                                                       rw [this]; omega]; exact k)
theorem shr16 (k : K (.int .u32 ((m / 65536 : Nat) : Int)) w) : LiftP P (binS .shr t x y (.int .u32 m) (.int .u64 16)) K w :=
  bi_shr (by omega) (by decide) (by rw [show ((m : Int) / 2 ^ (16 : Int).toNat) = ((m / 65536 : Nat) : Int) from by have : (2 : Int) ^ (16 : Int).toNat = 65536 := by decide
                                                                                                                    rw [this]; omega]; exact k)
theorem shr8 (k : K (.int .u32 ((m / 256 : Nat) : Int)) w) : LiftP P (binS .shr t x y (.int .u32 m) (.int .u64 8)) K w :=
  bi_shr (by omega) (by decide) (by rw [show ((m : Int) / 2 ^ (8 : Int).toNat) = ((m / 256 : Nat) : Int) from by have : (2 : Int) ^ (8 : Int).toNat = 256 := by decide
                                                                                                                 rw [this]; omega]; exact k)
theorem cvb8 (k : K (.int .u8 ((UInt8.ofNat m).toNat : Int)) w) : LiftP Try.prog (convert 77 5 (.int .u32 m)) K w :=
  cv und22 und5 (by rw [Be4.wrap_u8]; exact k)
theorem shl8 (k : K (.int .u32 (IntKind.u32.wrap ((m : Int) * 2 ^ (8 : Int).toNat))) w) : LiftP P (binS .shl t x y (.int .u32 m) (.int .u64 8)) K w :=
  bi_shl (by omega) (by decide) k
theorem orb {c : UInt8} (h : m < 16777216) (k : K (.int .u32 ((m * 256 + c.toNat : Nat) : Int)) w) : LiftP P (binS .or t x y (.int .u32 (IntKind.u32.wrap ((m : Int) * 2 ^ (8 : Int).toNat))) (.int .u32 c.toNat)) K w :=
  bi_or (by rw [Be4.step m c h]; exact k)
theorem cvw {c : UInt8} (k : K (.int .u32 (c.toNat : Int)) w) : LiftP Try.prog (convert 5 77 (.int .u8 c.toNat)) K w := by
  have hc := c.toNat_lt
  exact cv und5 und22 (by rw [IntWalk.u32_in _ (by omega)]; exact k)
end

theorem Put_spec (n : Nat) (hn : n < 4294967296) (w : World) : CallP Try.prog 41 #[.int .u32 n] (fun r w' => Own 5 w' r ((Be4.put n).map u8) ∧ Fresh w.heap.size r ∧ Below w.heap.size w w') w := by
  refine ⟨S41.calls _ _ _ ?_⟩
  unfold S41
  (repeat with_reducible first|refine shr24 ?_|refine shr16 ?_|refine shr8 ?_|refine cvb8 ?_)
  refine lift (v := .slice (some ⟨w.heap.size, 0, none⟩) 4 4) (w' := w.alloc (.cells ((Be4.put n).map u8).toArray 5)) (by kernel_rfl) ?_
  exact ⟨Own.new w 5 _ (by simp [Be4.put]), Fresh.new (Nat.le_refl _) 4 4, (Below.refl _ w).alloc (Nat.le_refl _) _⟩
/-- What Get answers: the number, the error. -/
def getAns (bs : List UInt8) (i : Int) : Nat × Nat :=
  if i < 0 ∨ (bs.length : Int) < i then (0, 1) else if (bs.length : Int) - i < 4 then (0, 2) else (Be4.get ((bs.drop i.toNat).take 4), 0)
theorem Get_spec (v : Value) (bs : List UInt8) (i : Int) (w : World) (hv : RdB w v bs) (hl : bs.length ≤ 1000000) :
    CallP Try.prog 39 #[v, .int .i64 i] (fun r w' => r = .tuple #[.int .u32 (getAns bs i).1, .int .i64 (getAns bs i).2] ∧ w = w') w := by
  obtain ⟨A, c, rfl, hc1, hc2, _⟩ := hv.slice
  refine ⟨S39.calls _ _ _ _ ?_⟩
  unfold S39
  skip
  (first | refine bi_lss_c (fun h => ?_) (fun h => ?_) | refine bi_eql_c (fun h => ?_) (fun h => ?_) | refine bi_neq_c (fun h => ?_) (fun h => ?_) | refine bi_gtr_c (fun h => ?_) (fun h => ?_) | refine bi_leq_c (fun h => ?_) (fun h => ?_) | refine bi_geq_c (fun h => ?_) (fun h => ?_) | refine bi_seql_c (fun h => ?_) (fun h => ?_) | refine bi_sneq_c (fun h => ?_) (fun h => ?_))
  · (repeat with_reducible first|refine z_b ?_|refine z_f ?_|refine z_k ?_)
    rw [getAns, if_pos (by omega)]
    exact ⟨rfl, rfl⟩
  (repeat with_reducible first|refine ln und23 ?_|refine z_d ?_)
  (first | refine bi_lss_c (fun h => ?_) (fun h => ?_) | refine bi_eql_c (fun h => ?_) (fun h => ?_) | refine bi_neq_c (fun h => ?_) (fun h => ?_) | refine bi_gtr_c (fun h => ?_) (fun h => ?_) | refine bi_leq_c (fun h => ?_) (fun h => ?_) | refine bi_geq_c (fun h => ?_) (fun h => ?_) | refine bi_seql_c (fun h => ?_) (fun h => ?_) | refine bi_sneq_c (fun h => ?_) (fun h => ?_))
  · (repeat with_reducible first|refine z_b ?_|refine z_l ?_)
    rw [getAns, if_pos (by omega)]
    exact ⟨rfl, rfl⟩
  (repeat with_reducible first|refine ln und23 ?_|refine z_c ?_|refine z_l ?_|refine z_p (by omega) ?_)
  (first | refine bi_lss_c (fun h => ?_) (fun h => ?_) | refine bi_eql_c (fun h => ?_) (fun h => ?_) | refine bi_neq_c (fun h => ?_) (fun h => ?_) | refine bi_gtr_c (fun h => ?_) (fun h => ?_) | refine bi_leq_c (fun h => ?_) (fun h => ?_) | refine bi_geq_c (fun h => ?_) (fun h => ?_) | refine bi_seql_c (fun h => ?_) (fun h => ?_) | refine bi_sneq_c (fun h => ?_) (fun h => ?_))
  · (repeat with_reducible first|refine z_b ?_)
    rw [getAns, if_neg (by omega), if_pos (by omega)]
    exact ⟨rfl, rfl⟩
  obtain ⟨j, rfl⟩ : ∃ n : Nat, i = n := ⟨i.toNat, by omega⟩
  (repeat with_reducible first|refine z_c ?_|refine z_o (by omega) ?_)
  rw [show ((j : Int) + 4) = ((j + 4 : Nat) : Int) from by omega]
  refine ctB und23 sz5 hv (.at _ _) (.at _ _) (by omega) (by omega) ?_
  intro v' hv'
  have hd : (bs.take (j + 4)).drop j = (bs.drop j).take 4 := by rw [List.drop_take]; congr 1; omega
  rw [hd] at hv'
  obtain ⟨A', c', rfl, hc1', hc2', _⟩ := hv'.slice
  have h4 : ((bs.drop j).take 4).length = 4 := by rw [List.length_take, List.length_drop]; omega
  rw [getAns, if_neg (by omega), if_neg (by omega), Int.toNat_natCast]
  generalize (bs.drop j).take 4 = q at *
  refine ln und23 ?_
  refine LoopP.inv2 (fun x i w' => ∃ k : Nat, k ≤ 4 ∧ i = .int .i64 k ∧ x = .int .u32 (Be4.get (q.take k) : Nat) ∧ w = w') (fun _ i _ => 4 - (intOf i).toNat) ⟨0, by omega, rfl, rfl, rfl⟩ ?_
  rintro _ _ _ ⟨k, hk, rfl, rfl, rfl⟩ J hJ
  dsimp only [List.headD_cons, List.tail_cons]
  skip
  (first | refine bi_lss_c (fun h => ?_) (fun h => ?_) | refine bi_eql_c (fun h => ?_) (fun h => ?_) | refine bi_neq_c (fun h => ?_) (fun h => ?_) | refine bi_gtr_c (fun h => ?_) (fun h => ?_) | refine bi_leq_c (fun h => ?_) (fun h => ?_) | refine bi_geq_c (fun h => ?_) (fun h => ?_) | refine bi_seql_c (fun h => ?_) (fun h => ?_) | refine bi_sneq_c (fun h => ?_) (fun h => ?_))
  · have hkq : k < q.length := by omega
    have hb : Be4.get (q.take k) < 256 ^ 3 := Be4.get_lt _ 3 (by rw [List.length_take]; omega)
    obtain ⟨a, rfl, hca⟩ := hv'.at k hkq
    (repeat with_reducible first|refine ix1 und23 sz5 hkq ?_|refine ld one5 hca ?_|refine shl8 ?_|refine cvw ?_|refine orb (by omega) ?_|refine z_b ?_|refine z_o (by omega) ?_)
    refine hJ _ _ _ ⟨k + 1, by omega, by simp, ?_, rfl⟩ (by simp [intOf]; omega)
    rw [List.take_succ_eq_append_getElem hkq, Be4.get_snoc]
  · have hk4 : k = q.length := by omega
    (repeat with_reducible first|refine z_c ?_)
    rw [hk4, List.take_length]
    exact ⟨rfl, rfl⟩
end Go.Proofs.Ytadbpelpbaikiaa.E
namespace Go.Proofs.Ytadbpelpbaikiaa.Frame
def wrap (p : List UInt8) : List UInt8 := Be4.put p.length ++ Be4.put (Crc.of (Be4.put p.length ++ p)).toNat ++ p
def wrapAns (p : List UInt8) : List UInt8 × Nat := if p.length ≤ 65536 then (wrap p, 0) else ([], 4)
def size (bs : List UInt8) : Nat := Be4.get (bs.take 4)
def told (bs : List UInt8) : Nat := Be4.get ((bs.drop 4).take 4)
def part (bs : List UInt8) : List UInt8 := (bs.drop 8).take (size bs)
def real (bs : List UInt8) : Nat := (Crc.of (bs.take 4 ++ part bs)).toNat
/-- The payload, how many bytes it takes, the error. -/
def view (bs : List UInt8) : List UInt8 × Nat × Nat :=
  if bs.length < 8 then ([], 0, 2) else if 65536 < size bs then ([], 0, 4) else if bs.length < 8 + size bs then ([], 0, 2)
  else if told bs ≠ real bs then ([], 0, 5) else (part bs, 8 + size bs, 0)
theorem seal_eq (a b : List UInt8) : Crc.more (Crc.of a) b = Crc.of (a ++ b) := (Crc.more_append 0 a b).symm
theorem wrap_length (p : List UInt8) : (wrap p).length = 8 + p.length := by simp [wrap, Be4.put_length]; omega
theorem flat_take (bss : List (List UInt8)) (k : Nat) (h : k < bss.length) : (bss.take (k + 1)).flatten = (bss.take k).flatten ++ bss[k] := by
  rw [List.take_succ_eq_append_getElem h, List.flatten_append, List.flatten_cons, List.flatten_nil, List.append_nil]
theorem flat_le (bss : List (List UInt8)) (k : Nat) : (bss.take k).flatten.length ≤ bss.flatten.length := by
  have h := congrArg (fun x => x.flatten.length) (List.take_append_drop k bss)
  simp only [List.flatten_append, List.length_append] at h
  omega
theorem view_ok (bs : List UInt8) (h : (view bs).2.2 = 0) : 8 ≤ (view bs).2.1 ∧ (view bs).2.1 ≤ bs.length ∧ (view bs).1 = part bs ∧ (view bs).2.1 = 8 + size bs := by
  unfold view at h ⊢
  split at h
  · cases h
  split at h
  · cases h
  split at h
  · cases h
  split at h
  · cases h
  rename_i h1 h2 h3 h4
  rw [if_neg h1, if_neg h2, if_neg h3, if_neg h4]
  exact ⟨by simp, by simp only; omega, rfl, rfl⟩
/-- The frames that stand there, and how many bytes they take. -/
def scan (bs : List UInt8) : List (List UInt8) × Nat :=
  if h : (view bs).2.2 = 0 then
    ((view bs).1 :: (scan (bs.drop (view bs).2.1)).1, (view bs).2.1 + (scan (bs.drop (view bs).2.1)).2)
  else ([], 0)
termination_by bs.length
decreasing_by all_goals (have := view_ok bs h; simp only [List.length_drop]; omega)
theorem scan_ok (bs : List UInt8) (h : (view bs).2.2 = 0) : scan bs = ((view bs).1 :: (scan (bs.drop (view bs).2.1)).1, (view bs).2.1 + (scan (bs.drop (view bs).2.1)).2) := by
  rw [scan, dif_pos h]
theorem scan_end (bs : List UInt8) (h : (view bs).2.2 ≠ 0) : scan bs = ([], 0) := by
  rw [scan, dif_neg h]
end Go.Proofs.Ytadbpelpbaikiaa.Frame
namespace Go.Proofs.Ytadbpelpbaikiaa.E
open Go
set_option maxRecDepth 100000

/-- shelfmark/frame.Scan -/
def S26 (a0 : Value) (R : Value → World → Prop) (w : World) : Prop :=
  LoopP (fun J vs w =>   -- [2, 3]
    LiftP Try.prog (Instr.sliceAt 22 a0 (some (vs.tail.headD undef)) none none) (fun v10 w =>
    CallP Try.prog 36 #[v10] (fun v11 w =>
    LiftP Try.prog (Instr.extract v11 0) (fun v12 w =>
    LiftP Try.prog (Instr.extract v11 1) (fun v13 w =>
    LiftP Try.prog (Instr.extract v11 2) (fun v14 w =>
    LiftP Try.prog (binS Go.BinOp.neq 25 (Go.Operand.tmp 15) (Go.Operand.const (Go.Value.int Go.IntKind.i64 0)) v14 (Go.Value.int Go.IntKind.i64 0)) (fun v16 w =>
    CondP v16 (fun w =>
      R (.tuple #[(vs.headD undef), (vs.tail.headD undef)]) w) (fun w =>
      CallP Try.prog 28 #[v12] (fun v21 w =>
    CallP Try.prog 27 #[v21] (fun v22 w =>
    LiftP Try.prog (Instr.buildSlice 28 1 #[(0, v22)]) (fun v23 w =>
    NextP Try.prog (builtin Go.Builtin.append #[28, 28] 28 #[false, false] #[(vs.headD undef), v23]) (fun v24 w =>
    LiftP Try.prog (binS Go.BinOp.add 3 (Go.Operand.tmp 25) (Go.Operand.tmp 26) (vs.tail.headD undef) v13) (fun v27 w =>
    J [v24, v27] w) w) w) w) w) w) w) w) w) w) w) w) w) [(Go.Value.slice none 0 0), (Go.Value.int Go.IntKind.i64 0)] w
theorem S26.calls (a0 : Value) (R : Value → World → Prop) (w : World) (h : S26 a0 R w) : Calls Try.prog 26 #[a0] w fun e w' => ∃ v, e = .returned v ∧ R v w' :=
  calls_of_tr (n := 28) (c := bodyOf Try.f26) (.two .leaf (.one (.loop [2, 3] (.one (.two .leaf (.two (.two .leaf (.two (.two .leaf .leaf) .leaf)) (.two .leaf .leaf))))))) Try.func26 (by kernel_rfl) Try.ntmps26 (by kernel_rfl) (by kernel_rfl) [a0] (by kernel_rfl) (of_eq_ (by kernel_rfl) h)

/-- slices.Clip[[]byte,byte] -/
def S27 (a0 : Value) (R : Value → World → Prop) (w : World) : Prop :=
  NextP Try.prog (builtin Go.Builtin.len #[22] 3 #[false] #[a0]) (fun v5 w =>
  NextP Try.prog (builtin Go.Builtin.len #[22] 3 #[false] #[a0]) (fun v7 w =>
  LiftP Try.prog (Instr.sliceAt 22 a0 none (some v5) (some v7)) (fun v8 w =>
  R v8 w) w) w) w
theorem S27.calls (a0 : Value) (R : Value → World → Prop) (w : World) (h : S27 a0 R w) : Calls Try.prog 27 #[a0] w fun e w' => ∃ v, e = .returned v ∧ R v w' :=
  calls_of_tr (n := 9) (c := bodyOf Try.f27) (.two .leaf (.two .leaf .leaf)) Try.func27 (by kernel_rfl) Try.ntmps27 (by kernel_rfl) (by kernel_rfl) [a0] (by kernel_rfl) (of_eq_ (by kernel_rfl) h)

/-- slices.Clone[[]byte,byte] -/
def S28 (a0 : Value) (R : Value → World → Prop) (w : World) : Prop :=
  LiftP Try.prog (binS Go.BinOp.eql 22 (Go.Operand.tmp 3) (Go.Operand.const (Go.Value.slice none 0 0)) a0 (Go.Value.slice none 0 0)) (fun v4 w =>
  CondP v4 (fun w =>
    R (Go.Value.slice none 0 0) w) (fun w =>
    LiftP Try.prog (Instr.buildSlice 22 0 #[]) (fun v5 w =>
  NextP Try.prog (builtin Go.Builtin.append #[22, 22] 22 #[false, false] #[v5, a0]) (fun v7 w =>
  R v7 w) w) w) w) w
theorem S28.calls (a0 : Value) (R : Value → World → Prop) (w : World) (h : S28 a0 R w) : Calls Try.prog 28 #[a0] w fun e w' => ∃ v, e = .returned v ∧ R v w' :=
  calls_of_tr (n := 8) (c := bodyOf Try.f28) (.two .leaf (.two (.two .leaf (.two (.two .leaf .leaf) .leaf)) (.two .leaf .leaf))) Try.func28 (by kernel_rfl) Try.ntmps28 (by kernel_rfl) (by kernel_rfl) [a0] (by kernel_rfl) (of_eq_ (by kernel_rfl) h)

/-- shelfmark/frame.view -/
def S36 (a0 : Value) (R : Value → World → Prop) (w : World) : Prop :=
  NextP Try.prog (builtin Go.Builtin.len #[22] 3 #[false] #[a0]) (fun v11 w =>
  LiftP Try.prog (binS Go.BinOp.lss 3 (Go.Operand.tmp 11) (Go.Operand.const (Go.Value.int Go.IntKind.i64 8)) v11 (Go.Value.int Go.IntKind.i64 8)) (fun v12 w =>
  CondP v12 (fun w =>
    R (.tuple #[(Go.Value.slice none 0 0), (Go.Value.int Go.IntKind.i64 0), (Go.Value.int Go.IntKind.i64 2)]) w) (fun w =>
    CallP Try.prog 39 #[a0, (Go.Value.int Go.IntKind.i64 0)] (fun v15 w =>
  LiftP Try.prog (Instr.extract v15 0) (fun v16 w =>
  LiftP Try.prog (Instr.extract v15 1) (fun v17 w =>
  LiftP Try.prog (binS Go.BinOp.gtr 77 (Go.Operand.tmp 18) (Go.Operand.const (Go.Value.int Go.IntKind.u32 65536)) v16 (Go.Value.int Go.IntKind.u32 65536)) (fun v19 w =>
  CondP v19 (fun w =>
    R (.tuple #[(Go.Value.slice none 0 0), (Go.Value.int Go.IntKind.i64 0), (Go.Value.int Go.IntKind.i64 4)]) w) (fun w =>
    LiftP Try.prog (convert 77 3 v16) (fun v21 w =>
  LiftP Try.prog (binS Go.BinOp.add 3 (Go.Operand.const (Go.Value.int Go.IntKind.i64 8)) (Go.Operand.tmp 21) (Go.Value.int Go.IntKind.i64 8) v21) (fun v22 w =>
  NextP Try.prog (builtin Go.Builtin.len #[22] 3 #[false] #[a0]) (fun v24 w =>
  LiftP Try.prog (binS Go.BinOp.lss 3 (Go.Operand.tmp 24) (Go.Operand.tmp 25) v24 v22) (fun v26 w =>
  CondP v26 (fun w =>
    R (.tuple #[(Go.Value.slice none 0 0), (Go.Value.int Go.IntKind.i64 0), (Go.Value.int Go.IntKind.i64 2)]) w) (fun w =>
    CallP Try.prog 39 #[a0, (Go.Value.int Go.IntKind.i64 4)] (fun v29 w =>
  LiftP Try.prog (Instr.extract v29 0) (fun v30 w =>
  LiftP Try.prog (Instr.extract v29 1) (fun v31 w =>
  DrawP (fun S w =>
  YieldP Try.prog S (Instr.sliceAt 22 a0 none (some (Go.Value.int Go.IntKind.i64 4)) none) (fun v34 w =>
  YieldP Try.prog S (Instr.sliceAt 22 a0 (some (Go.Value.int Go.IntKind.i64 8)) (some v22) none) (fun v37 w =>
  ActP S (fun K w => CallP Try.prog 40 #[v34, v37] K w) (fun S v38 w =>
  YieldP Try.prog S (binS Go.BinOp.neq 77 (Go.Operand.tmp 32) (Go.Operand.tmp 38) v30 v38) (fun v39 w =>
  CondP v39 (fun w =>
    R (.tuple #[(Go.Value.slice none 0 0), (Go.Value.int Go.IntKind.i64 0), (Go.Value.int Go.IntKind.i64 5)]) w) (fun w =>
    LiftP Try.prog (Instr.sliceAt 22 a0 (some (Go.Value.int Go.IntKind.i64 8)) (some v22) none) (fun v42 w =>
  R (.tuple #[v42, v22, (Go.Value.int Go.IntKind.i64 0)]) w) w) w) w) w) w) w) w) w) w) w) w) w) w) w) w) w) w) w) w) w) w) w) w
theorem S36.calls (a0 : Value) (R : Value → World → Prop) (w : World) (h : S36 a0 R w) : Calls Try.prog 36 #[a0] w fun e w' => ∃ v, e = .returned v ∧ R v w' :=
  calls_of_tr (n := 44) (c := bodyOf Try.f36) (.two .leaf (.two (.two .leaf (.two (.two .leaf .leaf) .leaf)) (.two .leaf (.two (.two .leaf (.two (.two .leaf .leaf) .leaf)) (.two .leaf (.two (.two .leaf (.two (.two .leaf .leaf) .leaf)) (.two (.two .leaf (.two (.draw [(true, 0), (true, 1), (true, 2), (true, 3), (true, 4), (true, 5), (false, 6), (true, 7)]) (.two (.two .leaf .leaf) .leaf))) (.two .leaf .leaf)))))))) Try.func36 (by kernel_rfl) Try.ntmps36 (by kernel_rfl) (by kernel_rfl) [a0] (by kernel_rfl) (of_eq_ (by kernel_rfl) h)

/-- shelfmark/frame.Wrap -/
def S37 (a0 : Value) (R : Value → World → Prop) (w : World) : Prop :=
  NextP Try.prog (builtin Go.Builtin.len #[22] 3 #[false] #[a0]) (fun v6 w =>
  LiftP Try.prog (binS Go.BinOp.gtr 3 (Go.Operand.tmp 6) (Go.Operand.const (Go.Value.int Go.IntKind.i64 65536)) v6 (Go.Value.int Go.IntKind.i64 65536)) (fun v7 w =>
  CondP v7 (fun w =>
    R (.tuple #[(Go.Value.slice none 0 0), (Go.Value.int Go.IntKind.i64 4)]) w) (fun w =>
    NextP Try.prog (builtin Go.Builtin.len #[22] 3 #[false] #[a0]) (fun v9 w =>
  LiftP Try.prog (convert 3 77 v9) (fun v10 w =>
  CallP Try.prog 41 #[v10] (fun v11 w =>
  CallP Try.prog 40 #[v11, a0] (fun v15 w =>
  CallP Try.prog 41 #[v15] (fun v16 w =>
  LiftP Try.prog (Instr.buildSlice 28 3 #[(0, v11), (1, v16), (2, a0)]) (fun v18 w =>
  CallP Try.prog 38 #[v18] (fun v19 w =>
  R (.tuple #[v19, (Go.Value.int Go.IntKind.i64 0)]) w) w) w) w) w) w) w) w) w) w) w
theorem S37.calls (a0 : Value) (R : Value → World → Prop) (w : World) (h : S37 a0 R w) : Calls Try.prog 37 #[a0] w fun e w' => ∃ v, e = .returned v ∧ R v w' :=
  calls_of_tr (n := 20) (c := bodyOf Try.f37) (.two .leaf (.two (.two .leaf (.two (.two .leaf .leaf) .leaf)) (.two .leaf (.two .leaf .leaf)))) Try.func37 (by kernel_rfl) Try.ntmps37 (by kernel_rfl) (by kernel_rfl) [a0] (by kernel_rfl) (of_eq_ (by kernel_rfl) h)

/-- slices.Concat[[]byte,byte] -/
def S38 (a0 : Value) (R : Value → World → Prop) (w : World) : Prop :=
  NextP Try.prog (builtin Go.Builtin.len #[28] 3 #[false] #[a0]) (fun v10 w =>
  LoopP (fun J vs w =>   -- [3, 11]
    LiftP Try.prog (binS Go.BinOp.lss 3 (Go.Operand.tmp 11) (Go.Operand.tmp 10) (vs.tail.headD undef) v10) (fun v12 w =>
    CondP v12 (fun w =>
      JoinP (fun J_1 w =>
      LiftP Try.prog (Instr.indexAt 28 a0 (vs.tail.headD undef)) (fun v13 w =>
      LiftP Try.prog (Instr.loadAt 22 v13) (fun v14 w =>
      NextP Try.prog (builtin Go.Builtin.len #[22] 3 #[false] #[v14]) (fun v17 w =>
      LiftP Try.prog (binS Go.BinOp.add 3 (Go.Operand.tmp 15) (Go.Operand.tmp 17) (vs.headD undef) v17) (fun v18 w =>
      LiftP Try.prog (binS Go.BinOp.lss 3 (Go.Operand.tmp 19) (Go.Operand.const (Go.Value.int Go.IntKind.i64 0)) v18 (Go.Value.int Go.IntKind.i64 0)) (fun v20 w =>
      CondP v20 (fun w =>
        LiftP Try.prog (Instr.makeInterface 9 (Go.Value.string { data := #[108, 101, 110, 32, 111, 117, 116, 32, 111, 102, 32, 114, 97, 110, 103, 101] })) (fun v21 w =>
        LiftP Try.prog (Instr.panic v21) (fun v_ w =>
        J_1 [v18] w) w) w) (fun w =>
        J_1 [v18] w) w) w) w) w) w) w) (fun vs_1 w =>   -- [3]
    LiftP Try.prog (binS Go.BinOp.add 3 (Go.Operand.tmp 11) (Go.Operand.const (Go.Value.int Go.IntKind.i64 1)) (vs.tail.headD undef) (Go.Value.int Go.IntKind.i64 1)) (fun v22 w =>
    J [(vs_1.headD undef), v22] w) w) w) (fun w =>
      CallP Try.prog 42 #[(Go.Value.slice none 0 0), (vs.headD undef)] (fun v24 w =>
  NextP Try.prog (builtin Go.Builtin.len #[28] 3 #[false] #[a0]) (fun v26 w =>
  LoopP (fun J_2 vs_2 w =>   -- [6, 27]
    LiftP Try.prog (binS Go.BinOp.lss 3 (Go.Operand.tmp 27) (Go.Operand.tmp 26) (vs_2.tail.headD undef) v26) (fun v28 w =>
    CondP v28 (fun w =>
      LiftP Try.prog (Instr.indexAt 28 a0 (vs_2.tail.headD undef)) (fun v29 w =>
    LiftP Try.prog (Instr.loadAt 22 v29) (fun v30 w =>
    NextP Try.prog (builtin Go.Builtin.append #[22, 22] 22 #[false, false] #[(vs_2.headD undef), v30]) (fun v33 w =>
    LiftP Try.prog (binS Go.BinOp.add 3 (Go.Operand.tmp 27) (Go.Operand.const (Go.Value.int Go.IntKind.i64 1)) (vs_2.tail.headD undef) (Go.Value.int Go.IntKind.i64 1)) (fun v34 w =>
    J_2 [v33, v34] w) w) w) w) w) (fun w =>
      R (vs_2.headD undef) w) w) w) [v24, (Go.Value.int Go.IntKind.i64 0)] w) w) w) w) w) [(Go.Value.int Go.IntKind.i64 0), (Go.Value.int Go.IntKind.i64 0)] w) w
theorem S38.calls (a0 : Value) (R : Value → World → Prop) (w : World) (h : S38 a0 R w) : Calls Try.prog 38 #[a0] w fun e w' => ∃ v, e = .returned v ∧ R v w' :=
  calls_of_tr (n := 36) (c := bodyOf Try.f38) (.two .leaf (.two .leaf (.two (.two .leaf (.one (.loop [3, 11] (.two .leaf (.two (.two .leaf .leaf) (.join [3] (.one (.two .leaf (.two .leaf (.two .leaf (.two .leaf .leaf))))) .leaf)))))) (.two .leaf (.two (.two .leaf (.one (.loop [6, 27] (.two .leaf (.two (.two .leaf .leaf) (.two (.one (.two .leaf .leaf)) .leaf)))))) (.two .leaf .leaf)))))) Try.func38 (by kernel_rfl) Try.ntmps38 (by kernel_rfl) (by kernel_rfl) [a0] (by kernel_rfl) (of_eq_ (by kernel_rfl) h)

/-- shelfmark/frame.seal -/
def S40 (a0 a1 : Value) (R : Value → World → Prop) (w : World) : Prop :=
  CallP Try.prog 44 #[a0] (fun v6 w =>
  CallP Try.prog 43 #[v6, a1] (fun v8 w =>
  R v8 w) w) w
theorem S40.calls (a0 a1 : Value) (R : Value → World → Prop) (w : World) (h : S40 a0 a1 R w) : Calls Try.prog 40 #[a0, a1] w fun e w' => ∃ v, e = .returned v ∧ R v w' :=
  calls_of_tr (n := 9) (c := bodyOf Try.f40) (.two .leaf (.two .leaf .leaf)) Try.func40 (by kernel_rfl) Try.ntmps40 (by kernel_rfl) (by kernel_rfl) [a0, a1] (by kernel_rfl) (of_eq_ (by kernel_rfl) h)

/-- slices.Grow[[]byte,byte] -/
def S42 (a0 a1 : Value) (R : Value → World → Prop) (w : World) : Prop :=
  JoinP (fun J w =>
    LiftP Try.prog (binS Go.BinOp.lss 3 (Go.Operand.tmp 5) (Go.Operand.const (Go.Value.int Go.IntKind.i64 0)) a1 (Go.Value.int Go.IntKind.i64 0)) (fun v6 w =>
    CondP v6 (fun w =>
      LiftP Try.prog (Instr.makeInterface 9 (Go.Value.string { data := #[99, 97, 110, 110, 111, 116, 32, 98, 101, 32, 110, 101, 103, 97, 116, 105, 118, 101] })) (fun v7 w =>
      LiftP Try.prog (Instr.panic v7) (fun v_ w =>
      J [] w) w) w) (fun w =>
      J [] w) w) w) (fun vs w =>   -- []
  JoinP (fun J_1 w =>
    NextP Try.prog (builtin Go.Builtin.cap #[22] 3 #[false] #[a0]) (fun v10 w =>
    NextP Try.prog (builtin Go.Builtin.len #[22] 3 #[false] #[a0]) (fun v12 w =>
    LiftP Try.prog (binS Go.BinOp.sub 3 (Go.Operand.tmp 10) (Go.Operand.tmp 12) v10 v12) (fun v13 w =>
    LiftP Try.prog (binS Go.BinOp.sub 3 (Go.Operand.tmp 8) (Go.Operand.tmp 13) a1 v13) (fun v14 w =>
    LiftP Try.prog (binS Go.BinOp.gtr 3 (Go.Operand.tmp 15) (Go.Operand.const (Go.Value.int Go.IntKind.i64 0)) v14 (Go.Value.int Go.IntKind.i64 0)) (fun v16 w =>
    CondP v16 (fun w =>
      NextP Try.prog (builtin Go.Builtin.cap #[22] 3 #[false] #[a0]) (fun v19 w =>
      LiftP Try.prog (Instr.sliceAt 22 a0 none (some v19) none) (fun v20 w =>
      NextP Try.prog (builtin Go.Builtin.append #[22, 3] 22 #[false, false] #[v20, v14]) (fun v22 w =>
      NextP Try.prog (builtin Go.Builtin.len #[22] 3 #[false] #[a0]) (fun v24 w =>
      LiftP Try.prog (Instr.sliceAt 22 v22 none (some v24) none) (fun v25 w =>
      J_1 [v25] w) w) w) w) w) w) (fun w =>
      J_1 [a0] w) w) w) w) w) w) w) (fun vs_1 w =>   -- [0]
  R (vs_1.headD undef) w) w) w
theorem S42.calls (a0 a1 : Value) (R : Value → World → Prop) (w : World) (h : S42 a0 a1 R w) : Calls Try.prog 42 #[a0, a1] w fun e w' => ∃ v, e = .returned v ∧ R v w' :=
  calls_of_tr (n := 27) (c := bodyOf Try.f42) (.two .leaf (.join [] (.two .leaf (.two .leaf .leaf)) (.join [0] (.two .leaf (.two .leaf (.two .leaf .leaf))) (.two .leaf .leaf)))) Try.func42 (by kernel_rfl) Try.ntmps42 (by kernel_rfl) (by kernel_rfl) [a0, a1] (by kernel_rfl) (of_eq_ (by kernel_rfl) h)

end Go.Proofs.Ytadbpelpbaikiaa.E
