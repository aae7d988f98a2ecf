/-
  Plain law: frames.
-/
import Derived.Test.YtgaamfdhjpkicaaCrc
import Derived.Test.YtgaamfdhjpkicaaBe4
namespace Go.Proofs.Ytgaamfdhjpkicaa.Frame
def wrap (p : List UInt8) : List UInt8 := Be4.put p.length ++ Be4.put (Crc.of (Be4.put p.length ++ p)).toNat ++ p
def wrapAns (p : List UInt8) : List UInt8 × Nat := if p.length ≤ 65536 then (wrap p, 0) else ([], 4)
def size (bs : List UInt8) : Nat := Be4.get (bs.take 4)
def told (bs : List UInt8) : Nat := Be4.get ((bs.drop 4).take 4)
def part (bs : List UInt8) : List UInt8 := (bs.drop 8).take (size bs)
def real (bs : List UInt8) : Nat := (Crc.of (bs.take 4 ++ part bs)).toNat
/-- The payload, how many bytes it takes, the error. -/
def view (bs : List UInt8) : List UInt8 × Nat × Nat :=
  if bs.length < 8 then ([], 0, 2) else if 65536 < size bs then ([], 0, 4) else if bs.length < 8 + size bs then ([], 0, 2)
  else if told bs ≠ real bs then ([], 0, 5) else (part bs, 8 + size bs, 0)
theorem seal_eq (a b : List UInt8) : Crc.more (Crc.of a) b = Crc.of (a ++ b) := (Crc.more_append 0 a b).symm
theorem wrap_length (p : List UInt8) : (wrap p).length = 8 + p.length := by simp [wrap, Be4.put_length]; omega
theorem part_length (bs : List UInt8) (h : 8 + size bs ≤ bs.length) : (part bs).length = size bs := by simp [part]; omega
theorem take_split (bs : List UInt8) (h : 8 + size bs ≤ bs.length) : bs.take (8 + size bs) = bs.take 4 ++ ((bs.drop 4).take 4 ++ part bs) := by
  rw [show 8 + size bs = 4 + (4 + size bs) from by omega, List.take_add, List.take_add, List.drop_drop]
  rfl
theorem put_size (bs : List UInt8) (h : 8 ≤ bs.length) : Be4.put (size bs) = bs.take 4 := Be4.put_get _ (by rw [List.length_take]; omega)
theorem wrap_iff (bs : List UInt8) (h : 8 + size bs ≤ bs.length) : wrap (part bs) = bs.take (8 + size bs) ↔ told bs = real bs := by
  rw [take_split bs h, wrap, part_length bs h, put_size bs (by omega), List.append_assoc]
  have h4 : ((bs.drop 4).take 4).length = 4 := by rw [List.length_take, List.length_drop]; omega
  constructor
  · intro he
    have h1 := List.append_cancel_left he
    have h2 := List.append_inj_left h1 (by rw [h4, Be4.put_length])
    rw [told, ← h2, Be4.get_put _ (BitVec.isLt _)]
    rfl
  · intro he
    have : Be4.put (Crc.of (bs.take 4 ++ part bs)).toNat = (bs.drop 4).take 4 := by
      have := Be4.put_get _ h4
      rw [show Be4.get ((bs.drop 4).take 4) = (Crc.of (bs.take 4 ++ part bs)).toNat from he] at this
      exact this
    rw [this]
theorem take4 (bs : List UInt8) (h : 4 ≤ bs.length) : bs.take 4 = [bs[0], bs[1], bs[2], bs[3]] := by
  match bs, h with
  | a :: b :: c :: d :: r, _ => rfl
theorem size_eq (bs : List UInt8) (h : 4 ≤ bs.length) : size bs = ((bs[0].toNat * 256 + bs[1].toNat) * 256 + bs[2].toNat) * 256 + bs[3].toNat := by
  rw [size, take4 bs h, Be4.get_four]
theorem flat_take (bss : List (List UInt8)) (k : Nat) (h : k < bss.length) : (bss.take (k + 1)).flatten = (bss.take k).flatten ++ bss[k] := by
  rw [List.take_succ_eq_append_getElem h, List.flatten_append, List.flatten_cons, List.flatten_nil, List.append_nil]
theorem flat_le (bss : List (List UInt8)) (k : Nat) : (bss.take k).flatten.length ≤ bss.flatten.length := by
  have h := congrArg (fun x => x.flatten.length) (List.take_append_drop k bss)
  simp only [List.flatten_append, List.length_append] at h
  omega
theorem view_ok (bs : List UInt8) (h : (view bs).2.2 = 0) : 8 ≤ (view bs).2.1 ∧ (view bs).2.1 ≤ bs.length ∧ (view bs).1 = part bs ∧ (view bs).2.1 = 8 + size bs := by
  unfold view at h ⊢
  split at h
  · cases h
  split at h
  · cases h
  split at h
  · cases h
  split at h
  · cases h
  rename_i h1 h2 h3 h4
  rw [if_neg h1, if_neg h2, if_neg h3, if_neg h4]
  exact ⟨by simp, by simp only; omega, rfl, rfl⟩
/-- The frames that stand there, and how many bytes they take. -/
def scan (bs : List UInt8) : List (List UInt8) × Nat :=
  if h : (view bs).2.2 = 0 then
    ((view bs).1 :: (scan (bs.drop (view bs).2.1)).1, (view bs).2.1 + (scan (bs.drop (view bs).2.1)).2)
  else ([], 0)
termination_by bs.length
decreasing_by all_goals (have := view_ok bs h; simp only [List.length_drop]; omega)
theorem scan_ok (bs : List UInt8) (h : (view bs).2.2 = 0) : scan bs = ((view bs).1 :: (scan (bs.drop (view bs).2.1)).1, (view bs).2.1 + (scan (bs.drop (view bs).2.1)).2) := by
  rw [scan, dif_pos h]
theorem scan_end (bs : List UInt8) (h : (view bs).2.2 ≠ 0) : scan bs = ([], 0) := by
  rw [scan, dif_neg h]
theorem scan_nil (bs : List UInt8) : bs.drop bs.length = [] := List.drop_length
end Go.Proofs.Ytgaamfdhjpkicaa.Frame
