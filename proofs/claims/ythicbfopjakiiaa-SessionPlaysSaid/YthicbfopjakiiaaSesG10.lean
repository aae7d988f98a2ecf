/- Plain law: what Load takes is the text that Save writes. -/
import Derived.Test.YthicbfopjakiiaaSesG6
namespace Go.Proofs.Ythicbfopjakiiaa.E
open Go Go.RowKit
set_option linter.unusedSimpArgs false
set_option linter.unusedVariables false

theorem getAt_form (bs : List UInt8) (i : Nat) (h : (getAt bs i).2.2 = 0) : bs.drop i = Pack.num (getAt bs i).1 ++ bs.drop (getAt bs i).2.1 := by
  unfold getAt at *
  simp only at h ⊢
  obtain ⟨h1, _, h3, h4⟩ := Pack.getFrom_num _ 0 h
  rw [if_pos h, h1, ← List.drop_drop, List.take_append_drop]
theorem strB_list (l : List UInt8) : (strB l).data.toList = l := rfl
theorem textAt_form (bs : List UInt8) (i most : Nat) (hi : i ≤ bs.length) (h : (textAt bs i most).2.2 = 0) :
    bs.drop i = Pack.text (strB (textAt bs i most).1) ++ bs.drop (textAt bs i most).2.1 ∧ (textAt bs i most).1.length ≤ most := by
  have hle := getAt_le bs i hi
  have hf := getAt_form bs i
  unfold textAt at *
  split at h
  · rename_i h1; exact absurd h h1
  rename_i h1
  split at h
  · simp at h
  rename_i h2
  split at h
  · simp at h
  rename_i h3
  rw [if_neg h1, if_neg h2, if_neg h3]
  have := hle (Classical.not_not.1 h1)
  have hf := hf (Classical.not_not.1 h1)
  have hlen : ((bs.drop (getAt bs i).2.1).take (getAt bs i).1).length = (getAt bs i).1 := by
    rw [List.length_take, List.length_drop]; omega
  simp only
  refine ⟨?_, by omega⟩
  rw [Pack.text, strB_list, hlen, hf, List.append_assoc, ← List.drop_drop, List.take_append_drop]
theorem textsFrom_form (bs : List UInt8) (most : Nat) : ∀ (k i : Nat), i ≤ bs.length → (textsFrom bs most k i).2.2 = 0 →
    bs.drop i = ((textsFrom bs most k i).1.map fun b => Pack.text (strB b)).flatten ++ bs.drop (textsFrom bs most k i).2.1 ∧ (∀ s ∈ (textsFrom bs most k i).1, s.length ≤ most) ∧ (textsFrom bs most k i).1.length = k := by
  intro k
  induction k with
  | zero => intro i hi h; simp [textsFrom]
  | succ k ih =>
    intro i hi h
    rw [textsFrom] at h ⊢
    split at h
    · rename_i h1; exact absurd h h1
    rename_i h1
    split at h
    · rename_i h2; exact absurd h h2
    rename_i h2
    rw [if_neg h1, if_neg h2]
    have e1 := Classical.not_not.1 h1
    have e2 := Classical.not_not.1 h2
    obtain ⟨f1, f2⟩ := textAt_form bs i most hi e1
    obtain ⟨g1, g2, g3⟩ := ih _ (textAt_le bs i most hi e1) e2
    refine ⟨?_, ?_, by simp [g3]⟩
    · simp only [List.map_cons, List.flatten_cons, List.append_assoc]
      rw [← g1]; exact f1
    · intro s hs
      rcases List.mem_cons.1 hs with rfl | hs
      · exact f2
      · exact g2 s hs
theorem loadAns_form (bs : List UInt8) (h : (loadAns bs).2.2.2 = 0) :
    Pack.num (loadAns bs).1 ++ Pack.num (loadAns bs).2.1 ++ Pack.texts ((loadAns bs).2.2.1.map strB) = bs ∧ (loadAns bs).1 ≤ 1099511627776 ∧ (loadAns bs).2.1 ≤ 1099511627776
      ∧ (loadAns bs).2.2.1.length ≤ (loadAns bs).2.1 ∧ (loadAns bs).2.2.1.length ≤ 256 ∧ ∀ s ∈ (loadAns bs).2.2.1, s.length ≤ 65536 := by
  unfold loadAns at *
  split at h
  · rename_i h1; exact absurd h h1
  rename_i h1
  split at h
  · rename_i h2; exact absurd h h2
  rename_i h2
  split at h
  · simp at h
  rename_i h3
  split at h
  · rename_i h4; exact absurd h h4
  rename_i h4
  split at h
  · simp at h
  rename_i h5
  rw [if_neg h1, if_neg h2, if_neg h3, if_neg h4, if_neg h5]
  have e1 := Classical.not_not.1 h1
  have e2 := Classical.not_not.1 h2
  have e4 := Classical.not_not.1 h4
  have l1 := getAt_le bs 0 (by omega) e1
  have l2 := getAt_le bs _ l1.2 e2
  have f1 := getAt_form bs 0 e1
  have f2 := getAt_form bs _ e2
  simp only [not_or] at h5 h3
  obtain ⟨h5a, h5b⟩ := h5
  obtain ⟨h3a, h3b⟩ := h3
  have h5b := Classical.not_not.1 h5b
  generalize (getAt bs 0).1 = m at *
  generalize (getAt bs 0).2.1 = j at *
  generalize (getAt bs j).1 = sn at *
  generalize (getAt bs j).2.1 = j2 at *
  unfold textsAt at e4 h5a h5b ⊢
  split at e4
  · rename_i h6; exact absurd e4 h6
  rename_i h6
  split at e4
  · simp at e4
  rename_i h7
  rw [if_neg h6, if_neg h7] at h5a h5b ⊢
  have e6 := Classical.not_not.1 h6
  have l3 := getAt_le bs j2 l2.2 e6
  have f3 := getAt_form bs j2 e6
  obtain ⟨g1, g2, g3⟩ := textsFrom_form bs 65536 _ _ l3.2 e4
  rw [h5b, List.drop_length, List.append_nil] at g1
  simp only
  refine ⟨?_, by omega, by omega, by omega, by omega, g2⟩
  rw [Pack.texts, List.length_map, g3, List.map_map, show (Pack.text ∘ strB) = (fun b => Pack.text (strB b)) from rfl, ← g1, ← f3, List.append_assoc, ← f2, ← f1, List.drop_zero]
end Go.Proofs.Ythicbfopjakiiaa.E
