/-
  Plain law: numbers and texts read back.
-/
import Derived.Test.YthicbfopjakiiaaPack
namespace Go.Proofs.Ythicbfopjakiiaa.Pack
/-- The number that stands there, its k-th byte first: the number, how many bytes, the error. -/
def getFrom : Nat → List UInt8 → Nat × Nat × Nat
  | _, [] => (0, 0, 2)
  | k, c :: r =>
    if (128 ≤ c.toNat ∧ k = 8) ∨ (c.toNat = 0 ∧ 0 < k) then (0, 0, 3)
    else if c.toNat < 128 then (c.toNat, 1, 0)
    else if (getFrom (k + 1) r).2.2 = 0 then (c.toNat % 128 + 128 * (getFrom (k + 1) r).1, (getFrom (k + 1) r).2.1 + 1, 0)
    else (0, 0, (getFrom (k + 1) r).2.2)
theorem getFrom_err : ∀ (bs : List UInt8) (k : Nat), (getFrom k bs).2.2 ≠ 0 → getFrom k bs = (0, 0, (getFrom k bs).2.2)
  | [], k, _ => rfl
  | c :: r, k, h => by
    rw [getFrom] at h ⊢
    split
    · rfl
    rename_i h1
    rw [if_neg h1] at h
    split
    · rename_i h2; rw [if_pos h2] at h; exact absurd rfl h
    rename_i h2
    rw [if_neg h2] at h
    split
    · rename_i h3; rw [if_pos h3] at h; exact absurd rfl h
    · rfl
theorem or128_mod (c : UInt8) (h : 128 ≤ c.toNat) : UInt8.ofNat (c.toNat % 128) ||| 128 = c := by
  have : ∀ i : Fin 256, 128 ≤ i.val → UInt8.ofNat (i.val % 128) ||| 128 = UInt8.ofNat i.val := by decide +kernel
  have := this ⟨c.toNat, c.toNat_lt⟩ h
  simpa using this
theorem or128_low (m : Nat) : UInt8.ofNat m ||| 128 = UInt8.ofNat (m % 128) ||| 128 := by
  have h : ∀ i : Fin 256, UInt8.ofNat i.val ||| 128 = UInt8.ofNat (i.val % 128) ||| 128 := by decide +kernel
  have h1 : UInt8.ofNat m = UInt8.ofNat (m % 256) := by
    apply UInt8.toNat_inj.1; simp only [UInt8.toNat_ofNat']; omega
  rw [h1, h ⟨m % 256, by omega⟩]
  rw [show (m % 256) % 128 = m % 128 from by omega]
/-- What is read is a number's own form. -/
theorem getFrom_num : ∀ (bs : List UInt8) (k : Nat), (getFrom k bs).2.2 = 0 → num (getFrom k bs).1 = bs.take (getFrom k bs).2.1 ∧ (0 < k → 0 < (getFrom k bs).1) ∧ (getFrom k bs).2.1 ≤ bs.length ∧ 1 ≤ (getFrom k bs).2.1
  | [], k, h => by simp [getFrom] at h
  | c :: r, k, h => by
    have hc := c.toNat_lt
    rw [getFrom] at h ⊢
    split at h
    · simp at h
    rename_i h1
    rw [if_neg h1]
    split at h
    · rename_i h2
      rw [if_pos h2]
      refine ⟨?_, fun hk => ?_, by simp, by simp⟩
      · rw [num_small _ (by simp only; omega)]; simp
      · simp only; omega
    rename_i h2
    rw [if_neg h2]
    split at h
    · rename_i h3
      rw [if_pos h3]
      obtain ⟨e1, e2, e3, e4⟩ := getFrom_num r (k + 1) h3
      have hp := e2 (by omega)
      generalize (getFrom (k + 1) r).1 = m at *
      generalize (getFrom (k + 1) r).2.1 = u at *
      refine ⟨?_, fun _ => by simp only; omega, by simp only [List.length_cons]; omega, by simp only; omega⟩
      simp only
      rw [num_big _ (by omega), or128_low, show (c.toNat % 128 + 128 * m) % 128 = c.toNat % 128 from by omega, or128_mod c (by omega), show (c.toNat % 128 + 128 * m) / 128 = m from by omega, e1]
      simp
    · simp at h
      exact absurd h (by rename_i h3; exact h3)
/-- And each number's form is read. -/
theorem getFrom_of_num (k : Nat) : ∀ (n : Nat) (r : List UInt8), n < 128 ^ (9 - k) → k ≤ 8 → (0 < k → 0 < n) → getFrom k (num n ++ r) = (n, (num n).length, 0) := by
  intro n
  induction n using Nat.strongRecOn generalizing k with
  | _ n ih =>
    intro r hn hk hpos
    by_cases hs : n ≤ 127
    · have e : (UInt8.ofNat n).toNat = n := by rw [UInt8.toNat_ofNat']; omega
      rw [num_small n hs]
      simp only [List.cons_append, List.nil_append, getFrom, e]
      rw [if_neg (by omega), if_pos (by omega)]
      simp
    · rw [num_big n hs]
      have e : (UInt8.ofNat n ||| 128).toNat = n % 128 + 128 := by
        have h : ∀ i : Fin 128, (UInt8.ofNat i.val ||| 128).toNat = i.val + 128 := by decide +kernel
        rw [or128_low, h ⟨n % 128, by omega⟩]
      have hk8 : k < 8 := by
        rcases Nat.lt_or_ge k 8 with h | h
        · exact h
        · have : k = 8 := by omega
          subst this
          simp at hn
          omega
      have hlt : n / 128 < 128 ^ (9 - (k + 1)) := by
        have : 128 ^ (9 - k) = 128 ^ (9 - (k + 1)) * 128 := by rw [← Nat.pow_succ]; congr 1; omega
        omega
      have := ih (n / 128) (by omega) (k + 1) r hlt (by omega) (fun _ => by omega)
      simp only [List.cons_append, getFrom, e, this]
      rw [if_neg (by omega), if_neg (by omega), if_pos trivial]
      simp only [List.length_cons, Prod.mk.injEq, and_true]
      omega
end Go.Proofs.Ythicbfopjakiiaa.Pack
