/-
  Plain law: rows laid one behind the other.
-/
import Derived.IntWalk
namespace Go.Proofs.Ythicbfopjakiiaa.Frame
theorem flat_take (bss : List (List UInt8)) (k : Nat) (h : k < bss.length) : (bss.take (k + 1)).flatten = (bss.take k).flatten ++ bss[k] := by
  rw [List.take_succ_eq_append_getElem h, List.flatten_append, List.flatten_cons, List.flatten_nil, List.append_nil]
theorem flat_le (bss : List (List UInt8)) (k : Nat) : (bss.take k).flatten.length ≤ bss.flatten.length := by
  have h := congrArg (fun x => x.flatten.length) (List.take_append_drop k bss)
  simp only [List.flatten_append, List.length_append] at h
  omega
end Go.Proofs.Ythicbfopjakiiaa.Frame
