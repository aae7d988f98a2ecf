/-
  Plain law: the check sum. One bit's step is linear and one to one; four bits at once by a table are four steps; so sums of texts that differ in one byte differ.
-/
import Derived.IntWalk
namespace Go.Proofs.Ytgaamfdhjpkicaa.Crc

def bit (c : BitVec 32) : BitVec 32 := (c >>> 1) ^^^ (bif c.getLsbD 0 then 0xedb88320#32 else 0#32)
def bits_ : Nat → BitVec 32 → BitVec 32
  | 0, c => c
  | n + 1, c => bits_ n (bit c)
def byte (c : BitVec 32) (b : UInt8) : BitVec 32 := bits_ 8 (c ^^^ BitVec.ofNat 32 b.toNat)
def run (c : BitVec 32) (bs : List UInt8) : BitVec 32 := bs.foldl byte c
/-- The sum of what had sum s, and bs behind it. -/
def more (s : BitVec 32) (bs : List UInt8) : BitVec 32 := ~~~ (run (~~~ s) bs)
def of (bs : List UInt8) : BitVec 32 := more 0 bs

theorem bits_succ (n : Nat) : ∀ c, bits_ (n + 1) c = bit (bits_ n c) := by
  induction n with
  | zero => intro c; rfl
  | succ n ih => intro c; show bits_ (n + 1) (bit c) = _; rw [ih]; rfl
theorem bits_add (m n : Nat) : ∀ c, bits_ (m + n) c = bits_ n (bits_ m c) := by
  induction m with
  | zero => intro c; simp [bits_]
  | succ m ih => intro c; rw [Nat.succ_add]; exact ih (bit c)

theorem bit_xor (a b : BitVec 32) : bit (a ^^^ b) = bit a ^^^ bit b := by
  unfold bit
  apply BitVec.eq_of_getLsbD_eq
  intro i hi
  simp only [BitVec.getLsbD_xor, BitVec.getLsbD_ushiftRight]
  have h0 : (0#32).getLsbD i = false := by simp
  cases a.getLsbD 0 <;> cases b.getLsbD 0 <;> simp only [Bool.xor_false, Bool.xor_true, Bool.not_false, Bool.not_true, cond_true, cond_false, h0] <;>
    cases a.getLsbD (1 + i) <;> cases b.getLsbD (1 + i) <;> cases (0xedb88320#32).getLsbD i <;> rfl
theorem bits_xor (n : Nat) : ∀ a b, bits_ n (a ^^^ b) = bits_ n a ^^^ bits_ n b := by
  induction n with
  | zero => intro a b; rfl
  | succ n ih => intro a b; simp only [bits_]; rw [bit_xor, ih]
theorem bits_high (n : Nat) : ∀ c : BitVec 32, (∀ i, i < n → c.getLsbD i = false) → bits_ n c = c >>> n := by
  induction n with
  | zero => intro c _; simp [bits_]
  | succ n ih =>
    intro c h
    have h0 : bit c = c >>> 1 := by unfold bit; rw [h 0 (by omega)]; simp
    show bits_ n (bit c) = _
    rw [h0, ih _ (fun i hi => by rw [BitVec.getLsbD_ushiftRight]; exact h _ (by omega)), ← BitVec.shiftRight_add, Nat.add_comm]

theorem split4 (c : BitVec 32) : c = (c &&& ~~~ 15#32) ^^^ (c &&& 15#32) := by
  apply BitVec.eq_of_getLsbD_eq
  intro i hi
  simp only [BitVec.getLsbD_xor, BitVec.getLsbD_and, BitVec.getLsbD_not]
  cases (15#32).getLsbD i <;> simp [hi]
/-- Four steps at once. -/
theorem nibble (c : BitVec 32) : bits_ 4 c = (c >>> 4) ^^^ bits_ 4 (c &&& 15#32) := by
  have h15 : ∀ i, (15#32).getLsbD i = decide (i < 4) := by
    intro i
    rcases Nat.lt_or_ge i 32 with h | h
    · have : ∀ j : Fin 32, (15#32).getLsbD j = decide (j.val < 4) := by decide
      exact this ⟨i, h⟩
    · rw [BitVec.getLsbD_of_ge _ _ h]; simp; omega
  have h1 : bits_ 4 (c &&& ~~~ 15#32) = c >>> 4 := by
    rw [bits_high 4 _ (fun i hi => by simp only [BitVec.getLsbD_and, BitVec.getLsbD_not, h15]; simp [hi])]
    apply BitVec.eq_of_getLsbD_eq
    intro i hi
    simp only [BitVec.getLsbD_ushiftRight, BitVec.getLsbD_and, BitVec.getLsbD_not, h15]
    rcases Nat.lt_or_ge (4 + i) 32 with h | h
    · simp [h]
    · simp [BitVec.getLsbD_of_ge _ _ h]
  conv => lhs; rw [split4 c]
  rw [bits_xor, h1]
theorem byte_nibbles (c : BitVec 32) (b : UInt8) : byte c b =
    ((((c ^^^ BitVec.ofNat 32 b.toNat) >>> 4) ^^^ bits_ 4 ((c ^^^ BitVec.ofNat 32 b.toNat) &&& 15#32)) >>> 4) ^^^ bits_ 4 ((((c ^^^ BitVec.ofNat 32 b.toNat) >>> 4) ^^^ bits_ 4 ((c ^^^ BitVec.ofNat 32 b.toNat) &&& 15#32)) &&& 15#32) := by
  unfold byte
  rw [show (8 : Nat) = 4 + 4 from rfl, bits_add, ← nibble, ← nibble]

/-! one to one -/
theorem bit_zero_imp (c : BitVec 32) (h : bit c = 0) : c = 0 := by
  unfold bit at h
  have h31 : (c >>> 1).getLsbD 31 = false := by rw [BitVec.getLsbD_ushiftRight]; exact BitVec.getLsbD_of_ge _ _ (by omega)
  cases hb : c.getLsbD 0 with
  | true =>
    rw [hb] at h
    have := congrArg (fun z => BitVec.getLsbD z 31) h
    simp only [cond_true, BitVec.getLsbD_xor, h31] at this
    simp at this
  | false =>
    rw [hb] at h
    simp only [cond_false, BitVec.xor_zero] at h
    apply BitVec.eq_of_getLsbD_eq
    intro i hi
    cases i with
    | zero => rw [hb]; simp
    | succ i =>
      have := congrArg (fun z => BitVec.getLsbD z i) h
      simp only [BitVec.getLsbD_ushiftRight] at this
      rw [Nat.add_comm] at this
      rw [this]; simp
theorem xor_eq_zero {a b : BitVec 32} (h : a ^^^ b = 0) : a = b := by
  have := congrArg (· ^^^ b) h
  simpa [BitVec.xor_assoc] using this
theorem bit_inj {a b : BitVec 32} (h : bit a = bit b) : a = b :=
  xor_eq_zero (bit_zero_imp _ (by rw [bit_xor, h]; simp))
theorem bits_inj (n : Nat) : ∀ {a b : BitVec 32}, bits_ n a = bits_ n b → a = b := by
  induction n with
  | zero => intro a b h; exact h
  | succ n ih => intro a b h; exact bit_inj (ih h)
theorem byte_inj_l {a b : BitVec 32} {c : UInt8} (h : byte a c = byte b c) : a = b := by
  have := bits_inj 8 h
  have := congrArg (· ^^^ BitVec.ofNat 32 c.toNat) this
  simpa [BitVec.xor_assoc] using this
theorem byte_inj_r {a : BitVec 32} {c d : UInt8} (h : byte a c = byte a d) : c = d := by
  have := bits_inj 8 h
  have := congrArg (a ^^^ ·) this
  simp only [← BitVec.xor_assoc, BitVec.xor_self, BitVec.zero_xor] at this
  have h2 := congrArg BitVec.toNat this
  simp only [BitVec.toNat_ofNat] at h2
  have hc := c.toNat_lt; have hd := d.toNat_lt
  rw [Nat.mod_eq_of_lt (by omega), Nat.mod_eq_of_lt (by omega)] at h2
  exact UInt8.toNat_inj.1 h2
theorem run_append (c : BitVec 32) (xs ys : List UInt8) : run c (xs ++ ys) = run (run c xs) ys := List.foldl_append ..
theorem run_inj (xs : List UInt8) : ∀ {a b : BitVec 32}, run a xs = run b xs → a = b := by
  induction xs with
  | nil => intro a b h; exact h
  | cons x xs ih => intro a b h; exact byte_inj_l (ih h)
theorem more_append (s : BitVec 32) (xs ys : List UInt8) : more s (xs ++ ys) = more (more s xs) ys := by
  simp only [more, run_append, BitVec.not_not]
/-- One byte that is another: another sum. -/
theorem of_set_inj (xs : List UInt8) (i : Nat) (hi : i < xs.length) (c d : UInt8) (h : of (xs.set i c) = of (xs.set i d)) : c = d := by
  unfold of more at h
  have h1 : run (~~~ 0) (xs.set i c) = run (~~~ 0) (xs.set i d) := by
    have := congrArg (~~~ ·) h
    simpa using this
  have hs : ∀ z, xs.set i z = xs.take i ++ z :: xs.drop (i + 1) := fun z => List.set_eq_take_append_cons_drop.trans (if_pos hi)
  rw [hs c, hs d, run_append, run_append] at h1
  exact byte_inj_r (run_inj _ h1)

/-! ### in Go's own numbers -/
theorem wrap_u32 (x : BitVec 32) : IntKind.u32.wrap (x.toNat : Int) = x.toNat := IntWalk.u32_in _ (by have := x.isLt; omega)
theorem ofInt_toNat (x : BitVec 32) : BitVec.ofInt 32 (x.toNat : Int) = x := by simp
theorem xor_u32 (a b : BitVec 32) : Go.bits .xor .u32 (a.toNat : Int) (b.toNat : Int) = ((a ^^^ b).toNat : Int) := by
  show IntKind.u32.wrap _ = _
  simp only [IntKind.bits, ofInt_toNat, wrap_u32]
  rfl
theorem and_u32 (a b : BitVec 32) : Go.bits .and .u32 (a.toNat : Int) (b.toNat : Int) = ((a &&& b).toNat : Int) := by
  show IntKind.u32.wrap _ = _
  simp only [IntKind.bits, ofInt_toNat, wrap_u32]
  rfl
theorem lit_u32 (n : Nat) (h : n < 4294967296) : ((n : Nat) : Int) = ((BitVec.ofNat 32 n).toNat : Int) := by
  rw [BitVec.toNat_ofNat, Nat.mod_eq_of_lt h]
theorem shr_u32 (a : BitVec 32) (n : Nat) : (a.toNat : Int) / 2 ^ n = ((a >>> n).toNat : Int) := by
  rw [BitVec.toNat_ushiftRight, Nat.shiftRight_eq_div_pow]
  norm_cast
end Go.Proofs.Ytgaamfdhjpkicaa.Crc
