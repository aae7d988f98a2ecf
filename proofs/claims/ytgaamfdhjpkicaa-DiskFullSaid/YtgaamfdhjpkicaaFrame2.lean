/-
  Plain law: rows of frames.
-/
import Derived.Test.YtgaamfdhjpkicaaFrame
namespace Go.Proofs.Ytgaamfdhjpkicaa.Frame
def cat (l : List (List UInt8)) : List UInt8 := (l.map wrap).flatten
theorem cat_append (a b : List (List UInt8)) : cat (a ++ b) = cat a ++ cat b := by simp [cat]
theorem cat_snoc (a : List (List UInt8)) (p : List UInt8) : cat (a ++ [p]) = cat a ++ wrap p := by simp [cat]
theorem cat_take (l : List (List UInt8)) (k : Nat) (h : k < l.length) : cat (l.take (k + 1)) = cat (l.take k) ++ wrap l[k] := by
  rw [List.take_succ_eq_append_getElem h, cat_snoc]
theorem cat_length (l : List (List UInt8)) : (cat l).length = 8 * l.length + l.flatten.length := by
  induction l with
  | nil => rfl
  | cons p l ih =>
    have : cat (p :: l) = wrap p ++ cat l := by simp [cat]
    rw [this, List.length_append, ih, wrap_length, List.flatten_cons, List.length_append, List.length_cons]
    omega
theorem mem_flat (l : List (List UInt8)) (p : List UInt8) (h : p ∈ l) : p.length ≤ l.flatten.length := by
  induction l with
  | nil => cases h
  | cons q l ih =>
    rw [List.flatten_cons, List.length_append]
    rcases List.mem_cons.1 h with h | h
    · subst h; omega
    · have := ih h; omega
theorem wrap_take4 (p r : List UInt8) : (wrap p ++ r).take 4 = Be4.put p.length := by
  rw [wrap, List.append_assoc, List.append_assoc]
  exact List.take_left' (Be4.put_length _)
theorem size_wrap (p r : List UInt8) (h : p.length ≤ 65536) : size (wrap p ++ r) = p.length := by
  rw [size, wrap_take4, Be4.get_put _ (by omega)]
theorem drop8 (p r : List UInt8) : (wrap p ++ r).drop 8 = p ++ r := by
  rw [wrap, List.append_assoc]
  exact List.drop_left' (by simp [Be4.put_length])
theorem told_wrap (p r : List UInt8) : told (wrap p ++ r) = (Crc.of (Be4.put p.length ++ p)).toNat := by
  have : (wrap p ++ r).drop 4 = Be4.put (Crc.of (Be4.put p.length ++ p)).toNat ++ (p ++ r) := by
    rw [wrap, List.append_assoc, List.append_assoc]
    exact List.drop_left' (Be4.put_length _)
  rw [told, this, List.take_left' (Be4.put_length _), Be4.get_put _ (BitVec.isLt _)]
theorem part_wrap (p r : List UInt8) (h : p.length ≤ 65536) : part (wrap p ++ r) = p := by
  rw [part, size_wrap p r h, drop8, List.take_left' rfl]
theorem view_wrap (p r : List UInt8) (h : p.length ≤ 65536) : view (wrap p ++ r) = (p, 8 + p.length, 0) := by
  have hl : (wrap p ++ r).length = 8 + p.length + r.length := by rw [List.length_append, wrap_length]
  rw [view, size_wrap p r h, if_neg (by omega), if_neg (by omega), if_neg (by omega), if_neg, part_wrap p r h]
  rw [told_wrap, real, part_wrap p r h, wrap_take4]
  simp
theorem view_short (bs : List UInt8) (h : bs.length < 8) : (view bs).2.2 ≠ 0 := by
  rw [view, if_pos h]; simp
theorem view_cut (p : List UInt8) (h : p.length ≤ 65536) (m : Nat) (hm : m < 8 + p.length) : (view ((wrap p).take m)).2.2 ≠ 0 := by
  have hl : ((wrap p).take m).length = m := by rw [List.length_take, wrap_length]; omega
  by_cases h8 : m < 8
  · exact view_short _ (by omega)
  have hs : size ((wrap p).take m) = p.length := by
    rw [size, List.take_take, show min 4 m = 4 from by omega]
    have := size_wrap p [] h
    rw [List.append_nil, size] at this
    exact this
  rw [view, if_neg (by omega), hs, if_neg (by omega), if_pos (by omega)]
  simp
theorem scan_cat (l : List (List UInt8)) (r : List UInt8) (h : ∀ p ∈ l, p.length ≤ 65536) (hr : (view r).2.2 ≠ 0) : scan (cat l ++ r) = (l, (cat l).length) := by
  induction l with
  | nil => simpa [cat] using scan_end r hr
  | cons p l ih =>
    have e : cat (p :: l) ++ r = wrap p ++ (cat l ++ r) := by simp [cat]
    have hv := view_wrap p (cat l ++ r) (h p (by simp))
    have hd : (wrap p ++ (cat l ++ r)).drop (8 + p.length) = cat l ++ r := List.drop_left' (wrap_length p)
    have hlen : (cat (p :: l)).length = 8 + p.length + (cat l).length := by rw [show cat (p :: l) = wrap p ++ cat l from by simp [cat], List.length_append, wrap_length]
    rw [e, scan_ok _ (by rw [hv]), hv, hd, ih (fun q hq => h q (by simp [hq])), hlen]
theorem scan_cut (l : List (List UInt8)) (h : ∀ p ∈ l, p.length ≤ 65536) (c k : Nat) (hk : k ≤ l.length) (h1 : (cat (l.take k)).length ≤ c) (h2 : k = l.length ∨ c < (cat (l.take (k + 1))).length) (hc : c ≤ (cat l).length) :
    scan ((cat l).take c) = (l.take k, (cat (l.take k)).length) := by
  have e : cat l = cat (l.take k) ++ cat (l.drop k) := by rw [← cat_append, List.take_append_drop]
  have e2 : (cat l).take c = cat (l.take k) ++ (cat (l.drop k)).take (c - (cat (l.take k)).length) := by
    rw [e, List.take_append, List.take_of_length_le h1]
  rw [e2]
  refine scan_cat _ _ (fun p hp => h p (List.mem_of_mem_take hp)) ?_
  by_cases hkl : k = l.length
  · subst hkl
    rw [List.drop_length]
    exact view_short _ (by simp [cat])
  · have hk' : k < l.length := by omega
    have h3 := h2.resolve_left hkl
    rw [cat_take l k hk', List.length_append, wrap_length] at h3
    have e3 : cat (l.drop k) = wrap l[k] ++ cat (l.drop (k + 1)) := by rw [List.drop_eq_getElem_cons hk']; rfl
    rw [e3, List.take_append, show c - (cat (l.take k)).length - (wrap l[k]).length = 0 from by rw [wrap_length]; omega, List.take_zero, List.append_nil]
    exact view_cut _ (h _ (List.getElem_mem hk')) _ (by omega)
theorem cat_le (l : List (List UInt8)) (k : Nat) : (cat (l.take k)).length ≤ (cat l).length := by
  have e : cat l = cat (l.take k) ++ cat (l.drop k) := by rw [← cat_append, List.take_append_drop]
  rw [e, List.length_append]; omega
end Go.Proofs.Ytgaamfdhjpkicaa.Frame
