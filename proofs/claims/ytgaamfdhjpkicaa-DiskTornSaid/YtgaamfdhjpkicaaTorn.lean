/-
  Plain law: a byte turned in a frame's sum or payload makes it no frame.
-/
import Derived.Test.YtgaamfdhjpkicaaFrame2
namespace Go.Proofs.Ytgaamfdhjpkicaa.Frame
theorem view_parts (a b q rest : List UInt8) (ha : a.length = 4) (hb : b.length = 4) (hq : q.length = Be4.get a) (h : (view (a ++ b ++ q ++ rest)).2.2 = 0) : Be4.get b = (Crc.of (a ++ q)).toNat := by
  have h1 : (a ++ b ++ q ++ rest).take 4 = a := by rw [List.append_assoc, List.append_assoc, ← ha, List.take_left]
  have h2 : (a ++ b ++ q ++ rest).drop 4 = b ++ (q ++ rest) := by rw [List.append_assoc, List.append_assoc, ← ha, List.drop_left]
  have h3 : (a ++ b ++ q ++ rest).drop 8 = q ++ rest := by
    rw [show 8 = 4 + 4 from rfl, ← List.drop_drop, h2, ← hb, List.drop_left]
  have hs : size (a ++ b ++ q ++ rest) = q.length := by rw [size, h1, hq]
  have ht : told (a ++ b ++ q ++ rest) = Be4.get b := by rw [told, h2, ← hb, List.take_left]
  have hp : part (a ++ b ++ q ++ rest) = q := by rw [part, hs, h3, List.take_left]
  have hr : real (a ++ b ++ q ++ rest) = (Crc.of (a ++ q)).toNat := by rw [real, h1, hp]
  unfold view at h
  split at h
  · cases h
  split at h
  · cases h
  split at h
  · cases h
  split at h
  · cases h
  rename_i h4
  rw [ht, hr] at h4
  exact Classical.not_not.1 h4
theorem view_torn (p rest : List UInt8) (hp : p.length ≤ 65536) (i : Nat) (h4 : 4 ≤ i) (h8 : i < 8 + p.length) (x : UInt8) (hi : i < (wrap p).length) (hx : x ≠ (wrap p)[i]) : (view ((wrap p).set i x ++ rest)).2.2 ≠ 0 := by
  intro h
  generalize ha : Be4.put p.length = a
  have hal : a.length = 4 := by rw [← ha]; rfl
  generalize hc : Crc.of (a ++ p) = c
  have hga : p.length = Be4.get a := by rw [← ha, Be4.get_put _ (by omega)]
  have hbl : (Be4.put c.toNat).length = 4 := rfl
  have hw : wrap p = a ++ Be4.put c.toNat ++ p := by rw [wrap, ha, hc]
  simp only [hw] at hx h hi
  rcases Nat.lt_or_ge i 8 with hlt | hge
  · have e1 : (a ++ Be4.put c.toNat ++ p).set i x = a ++ (Be4.put c.toNat).set (i - 4) x ++ p := by
      rw [List.append_assoc, List.set_append_right _ _ (by omega), List.set_append_left _ _ (by omega), hal, List.append_assoc]
    rw [e1] at h
    have h1 := view_parts a _ p rest hal (by rw [List.length_set]; rfl) hga h
    rw [hc] at h1
    have h2 := Be4.put_get ((Be4.put c.toNat).set (i - 4) x) (by rw [List.length_set]; rfl)
    rw [h1] at h2
    apply hx
    have e2 : (a ++ Be4.put c.toNat ++ p)[i] = ((Be4.put c.toNat).set (i - 4) x)[i - 4]'(by rw [List.length_set]; omega) := by
      rw [List.getElem_append_left (by simp; omega), List.getElem_append_right (by omega)]
      simp only [hal]
      congr 1
    rw [e2, List.getElem_set_self]
  · have e1 : (a ++ Be4.put c.toNat ++ p).set i x = a ++ Be4.put c.toNat ++ p.set (i - 8) x := by
      rw [List.set_append_right _ _ (by simp; omega)]
      congr 2
      simp; omega
    rw [e1] at h
    have h1 := view_parts a _ (p.set (i - 8) x) rest hal hbl (by rw [List.length_set]; exact hga) h
    rw [Be4.get_put _ (BitVec.isLt c)] at h1
    have h2 : Crc.of (a ++ p) = Crc.of (a ++ p.set (i - 8) x) := by rw [hc]; exact BitVec.eq_of_toNat_eq h1
    have hj : 4 + (i - 8) < (a ++ p).length := by rw [List.length_append]; omega
    have e3 : (a ++ p).set (4 + (i - 8)) x = a ++ p.set (i - 8) x := by
      rw [List.set_append_right _ _ (by omega)]
      congr 2
      omega
    have e4 : (a ++ p).set (4 + (i - 8)) ((a ++ p)[4 + (i - 8)]) = a ++ p := List.set_getElem_self hj
    rw [← e3] at h2
    conv at h2 => lhs; rw [← e4]
    have h3 := Crc.of_set_inj _ _ hj _ _ h2
    apply hx
    rw [← h3, List.getElem_append_right (by omega), List.getElem_append_right (by simp; omega)]
    congr 1
    simp; omega
/-- A row of frames, a byte of one turned. -/
theorem scan_torn (l : List (List UInt8)) (hl : ∀ p ∈ l, p.length ≤ 65536) (k i : Nat) (hk : k < l.length) (h4 : 4 ≤ i) (h8 : i < 8 + l[k].length) (b : UInt8) (hb : b ≠ 0) :
    scan ((cat l).set ((cat (l.take k)).length + i) (((cat l).getD ((cat (l.take k)).length + i) 0) ^^^ b)) = (l.take k, (cat (l.take k)).length) := by
  have e0 : cat l = cat (l.take k) ++ (wrap l[k] ++ cat (l.drop (k + 1))) := by
    have h1 : cat l = cat (l.take k) ++ cat (l.drop k) := by rw [← cat_append, List.take_append_drop]
    rw [h1, List.drop_eq_getElem_cons hk]
    rfl
  have hw : (wrap l[k]).length = 8 + l[k].length := wrap_length _
  have hi : i < (wrap l[k]).length := by omega
  generalize hy : ((cat l).getD ((cat (l.take k)).length + i) 0) ^^^ b = y
  have hget : (cat l).getD ((cat (l.take k)).length + i) 0 = (wrap l[k])[i] := by
    rw [e0, List.getD_eq_getElem?_getD, List.getElem?_append_right (by omega), Nat.add_sub_cancel_left, List.getElem?_append_left hi, List.getElem?_eq_getElem hi]; rfl
  rw [e0, List.set_append_right _ _ (by omega), Nat.add_sub_cancel_left, List.set_append_left _ _ hi]
  refine scan_cat _ _ (fun p hp => hl p (List.mem_of_mem_take hp)) ?_
  refine view_torn l[k] _ (hl _ (List.getElem_mem _)) i h4 h8 y hi ?_
  rw [← hy, hget]
  intro he
  have : (wrap l[k])[i] ^^^ ((wrap l[k])[i] ^^^ b) = 0 := by rw [he, UInt8.xor_self]
  rw [← UInt8.xor_assoc, UInt8.xor_self, UInt8.zero_xor] at this
  exact hb this
end Go.Proofs.Ytgaamfdhjpkicaa.Frame
