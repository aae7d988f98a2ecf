/-
  Plain law: numbers and texts as bytes.
-/
import Derived.IntWalk
namespace Go.Proofs.Ythicbfopjakiiaa.Pack
def num (n : Nat) : List UInt8 := if h : n ≤ 127 then [UInt8.ofNat n] else (UInt8.ofNat n ||| 128) :: num (n / 128)
termination_by n
decreasing_by all_goals omega
theorem num_small (n : Nat) (h : n ≤ 127) : num n = [UInt8.ofNat n] := by rw [num, dif_pos h]
theorem num_big (n : Nat) (h : ¬ n ≤ 127) : num n = (UInt8.ofNat n ||| 128) :: num (n / 128) := by rw [num, dif_neg h]
theorem num_length (n : Nat) : (num n).length ≤ n + 1 := by
  induction n using Nat.strongRecOn with
  | _ n ih =>
    by_cases h : n ≤ 127
    · rw [num_small n h]; simp
    · rw [num_big n h, List.length_cons]
      have := ih (n / 128) (by omega)
      omega
def text (s : ByteArray) : List UInt8 := num s.data.toList.length ++ s.data.toList
def texts (l : List ByteArray) : List UInt8 := num l.length ++ (l.map text).flatten
theorem num_log (k : Nat) : ∀ n, n < 128 ^ (k + 1) → (num n).length ≤ k + 1 := by
  induction k with
  | zero =>
    intro n h
    rw [num_small n (by simp at h; omega)]; simp
  | succ k ih =>
    intro n h
    by_cases hs : n ≤ 127
    · rw [num_small n hs]; simp
    · rw [num_big n hs, List.length_cons]
      have := ih (n / 128) (by rw [Nat.pow_succ] at h; omega)
      omega
theorem text_length (s : ByteArray) (h : s.size ≤ 100000) : (text s).length ≤ 200001 := by
  have e : s.data.toList.length = s.size := by rw [Array.length_toList]; rfl
  have := num_length s.data.toList.length
  rw [text, List.length_append]
  omega
theorem flat_length (l : List ByteArray) (h : ∀ s ∈ l, s.size ≤ 100000) : (l.map text).flatten.length ≤ l.length * 200001 := by
  induction l with
  | nil => simp
  | cons s l ih =>
    have h1 := ih (fun t ht => h t (by simp [ht]))
    have h2 := text_length s (h s (by simp))
    simp only [List.map_cons, List.flatten_cons, List.length_append, List.length_cons]
    omega
theorem texts_length (l : List ByteArray) (h : ∀ s ∈ l, s.size ≤ 100000) : (texts l).length ≤ l.length + 1 + l.length * 200001 := by
  have := flat_length l h
  have := num_length l.length
  rw [texts, List.length_append]
  omega
end Go.Proofs.Ythicbfopjakiiaa.Pack
