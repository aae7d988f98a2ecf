/- Plain law: what Save writes is what Load takes. -/
import Derived.Test.YthicbfopjakiiaaSesG10
namespace Go.Proofs.Ythicbfopjakiiaa.E
open Go Go.RowKit
set_option linter.unusedSimpArgs false
set_option linter.unusedVariables false

theorem drop_then {α : Type} (bs : List α) (i : Nat) (a r : List α) (h : bs.drop i = a ++ r) : bs.drop (i + a.length) = r := by
  rw [← List.drop_drop, h, List.drop_left]
theorem getAt_num (bs : List UInt8) (i n : Nat) (r : List UInt8) (h : bs.drop i = Pack.num n ++ r) (hn : n ≤ 1099511627776) : getAt bs i = (n, i + (Pack.num n).length, 0) := by
  have := Pack.getFrom_of_num 0 n r (by simp; omega) (by omega) (by omega)
  unfold getAt
  rw [h, this]
  simp
theorem textAt_text (bs : List UInt8) (i most : Nat) (s : ByteArray) (r : List UInt8) (h : bs.drop i = Pack.text s ++ r) (hs : s.size ≤ most) (hm : most ≤ 1000000) : textAt bs i most = (s.data.toList, i + (Pack.text s).length, 0) := by
  have e : s.data.toList.length = s.size := by rw [Array.length_toList]; rfl
  have h' := h
  rw [Pack.text, List.append_assoc] at h'
  have h1 := getAt_num bs i _ _ h' (by omega)
  have h2 := drop_then _ _ _ _ h'
  have h3 : (bs.drop (i + (Pack.num s.data.toList.length).length)).length = (s.data.toList ++ r).length := by rw [h2]
  rw [List.length_drop, List.length_append] at h3
  unfold textAt
  rw [h1]
  simp only
  rw [if_neg (by omega), if_neg (by omega), if_neg (by omega), h2, List.take_left, Pack.text, List.length_append, Nat.add_assoc]
theorem textsFrom_texts (bs : List UInt8) (most : Nat) (hm : most ≤ 1000000) : ∀ (l : List ByteArray) (i : Nat) (r : List UInt8), bs.drop i = (l.map Pack.text).flatten ++ r → (∀ s ∈ l, s.size ≤ most) →
    textsFrom bs most l.length i = (l.map (·.data.toList), i + (l.map Pack.text).flatten.length, 0) := by
  intro l
  induction l with
  | nil => intro i r h hs; simp [textsFrom]
  | cons s l ih =>
    intro i r h hs
    have h' := h
    rw [List.map_cons, List.flatten_cons, List.append_assoc] at h'
    have h1 := textAt_text bs i most s _ h' (hs s (by simp)) hm
    have h2 := ih _ r (drop_then _ _ _ _ h') (fun t ht => hs t (by simp [ht]))
    rw [List.length_cons, textsFrom, h1]
    simp only
    rw [h2]
    simp only [ne_eq, not_true_eq_false, if_false, List.map_cons, List.flatten_cons, List.length_append, Nat.add_assoc]
theorem loadAns_save (m sn : Nat) (l : List ByteArray) (hm : m ≤ 1099511627776) (hsn : sn ≤ 1099511627776) (hl : l.length ≤ 256) (hls : l.length ≤ sn) (hs : ∀ s ∈ l, s.size ≤ 65536) :
    loadAns (Pack.num m ++ Pack.num sn ++ Pack.texts l) = (m, sn, l.map (·.data.toList), 0) := by
  generalize hbs : Pack.num m ++ Pack.num sn ++ Pack.texts l = bs
  have d0 : bs.drop 0 = Pack.num m ++ (Pack.num sn ++ Pack.texts l) := by rw [← hbs]; simp
  have e0 := getAt_num bs 0 m _ d0 hm
  have d1 := drop_then _ _ _ _ d0
  have e1 := getAt_num bs _ sn _ d1 hsn
  have d2 := drop_then _ _ _ _ d1
  have d2' := d2
  rw [Pack.texts] at d2'
  have e2 := getAt_num bs _ l.length _ d2' (by omega)
  have d3 := drop_then _ _ _ _ d2'
  have e3 := textsFrom_texts bs 65536 (by omega) l (0 + (Pack.num m).length + (Pack.num sn).length + (Pack.num l.length).length) [] (by rw [List.append_nil]; exact d3) hs
  have hlen : bs.length = (Pack.num m).length + (Pack.num sn).length + ((Pack.num l.length).length + ((l.map Pack.text).flatten).length) := by
    rw [← hbs, Pack.texts]; simp only [List.length_append]
  have e4 : textsAt bs (0 + (Pack.num m).length + (Pack.num sn).length) 256 65536 = (l.map (·.data.toList), bs.length, 0) := by
    unfold textsAt
    rw [e2]
    simp only
    rw [if_neg (by omega), if_neg (by omega), e3, hlen]
    simp only [Prod.mk.injEq, true_and, and_true]
    omega
  unfold loadAns
  rw [e0]
  simp only
  rw [e1]
  simp only
  rw [e4]
  simp only [List.length_map]
  rw [if_neg (by omega), if_neg (by omega), if_neg (by omega), if_neg (by omega), if_neg (by omega)]
end Go.Proofs.Ythicbfopjakiiaa.E
