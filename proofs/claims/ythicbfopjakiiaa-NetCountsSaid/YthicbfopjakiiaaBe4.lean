/-
  Plain law: a number as four bytes, highest first.
-/
import Derived.IntWalk
namespace Go.Proofs.Ythicbfopjakiiaa.Be4
def put (n : Nat) : List UInt8 := [UInt8.ofNat (n / 16777216), UInt8.ofNat (n / 65536), UInt8.ofNat (n / 256), UInt8.ofNat n]
def get (l : List UInt8) : Nat := l.foldl (fun n c => n * 256 + c.toNat) 0
theorem get_snoc (l : List UInt8) (c : UInt8) : get (l ++ [c]) = get l * 256 + c.toNat := by simp [get]
theorem get_lt : ∀ l : List UInt8, ∀ n, l.length ≤ n → get l < 256 ^ n := by
  intro l
  suffices h : ∀ l : List UInt8, get l.reverse < 256 ^ l.length by
    intro n hn
    have := h l.reverse
    rw [List.reverse_reverse, List.length_reverse] at this
    exact Nat.lt_of_lt_of_le this (Nat.pow_le_pow_right (by decide) hn)
  intro l
  induction l with
  | nil => decide
  | cons c l ih =>
    rw [List.reverse_cons, get_snoc, List.length_cons, Nat.pow_succ]
    have := c.toNat_lt
    omega
theorem put_length (n : Nat) : (put n).length = 4 := rfl
theorem four (l : List UInt8) (h : l.length = 4) : ∃ a b c d, l = [a, b, c, d] := by
  match l, h with
  | [a, b, c, d], _ => exact ⟨a, b, c, d, rfl⟩
theorem get_four (a b c d : UInt8) : get [a, b, c, d] = ((a.toNat * 256 + b.toNat) * 256 + c.toNat) * 256 + d.toNat := by simp [get]
theorem get_put (n : Nat) (h : n < 4294967296) : get (put n) = n := by
  unfold put
  rw [get_four]
  simp only [UInt8.toNat_ofNat']
  omega
theorem put_get (l : List UInt8) (h : l.length = 4) : put (get l) = l := by
  obtain ⟨a, b, c, d, rfl⟩ := four l h
  rw [get_four]
  have ha := a.toNat_lt; have hb := b.toNat_lt; have hc := c.toNat_lt; have hd := d.toNat_lt
  unfold put
  congr 1
  · apply UInt8.toNat_inj.1; simp only [UInt8.toNat_ofNat']; omega
  congr 1
  · apply UInt8.toNat_inj.1; simp only [UInt8.toNat_ofNat']; omega
  congr 1
  · apply UInt8.toNat_inj.1; simp only [UInt8.toNat_ofNat']; omega
  congr 1
  · apply UInt8.toNat_inj.1; simp only [UInt8.toNat_ofNat']; omega
theorem ofNat_mod (n : Nat) : UInt8.ofNat (n % 256) = UInt8.ofNat n := by
  apply UInt8.toNat_inj.1; simp only [UInt8.toNat_ofNat']; omega
theorem put_rem (n : Nat) : [UInt8.ofNat (n / 16777216), UInt8.ofNat (n / 65536 % 256), UInt8.ofNat (n / 256 % 256), UInt8.ofNat (n % 256)] = put n := by
  simp only [ofNat_mod]; rfl
theorem wrap_u8 (n : Nat) : IntKind.u8.wrap (n : Int) = ((UInt8.ofNat n).toNat : Int) := by
  rw [UInt8.toNat_ofNat']
  simp [IntKind.wrap, IntKind.signed, IntKind.bits]
theorem or_u32 (a b : BitVec 32) : Go.bits .or .u32 (a.toNat : Int) (b.toNat : Int) = ((a ||| b).toNat : Int) := by
  show IntKind.u32.wrap _ = _
  have h : ∀ x : BitVec 32, IntKind.u32.wrap (x.toNat : Int) = x.toNat := fun x => IntWalk.u32_in _ (by have := x.isLt; omega)
  have h2 : ∀ x : BitVec 32, BitVec.ofInt 32 (x.toNat : Int) = x := fun x => by simp
  simp only [IntKind.bits, h2, h]
  rfl
/-- n << 8 | c -/
theorem step (n : Nat) (c : UInt8) (h : n < 16777216) : Go.bits .or .u32 (IntKind.u32.wrap ((n : Int) * 2 ^ (8 : Int).toNat)) (c.toNat : Int) = ((n * 256 + c.toNat : Nat) : Int) := by
  have hc := c.toNat_lt
  rw [show ((n : Int) * 2 ^ (8 : Int).toNat) = ((n * 256 : Nat) : Int) from by
    have : (2 : Int) ^ (8 : Int).toNat = 256 := by decide
    rw [this]; omega]
  rw [IntWalk.u32_in _ (by omega)]
  have e1 : ((n * 256 : Nat) : Int) = ((BitVec.ofNat 32 (n * 256)).toNat : Int) := by rw [BitVec.toNat_ofNat, Nat.mod_eq_of_lt (by omega)]
  have e2 : (c.toNat : Int) = ((BitVec.ofNat 32 c.toNat).toNat : Int) := by rw [BitVec.toNat_ofNat, Nat.mod_eq_of_lt (by omega)]
  rw [e1, e2, or_u32, BitVec.toNat_or, BitVec.toNat_ofNat, BitVec.toNat_ofNat, Nat.mod_eq_of_lt (by omega), Nat.mod_eq_of_lt (by omega)]
  rw [show n * 256 = n <<< 8 from by rw [Nat.shiftLeft_eq], ← Nat.shiftLeft_add_eq_or_of_lt (by omega)]
end Go.Proofs.Ythicbfopjakiiaa.Be4
