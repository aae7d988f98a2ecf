import Derived.Test.YtonblppkidpmlaaGreatDoorMp
import Derived.Test.YtonblppkidpmlaaGreatDoorMo
namespace Go.Proofs.YtonblppkidpmlaaGreatDoor.E
open Go Go.RowKit
set_option linter.unusedSimpArgs false
set_option linter.unusedVariables false

theorem getK_ins {α : Type} (k : Txt) (r : α) : ∀ R : List (Txt × α), T.getK k (insR k r R) = some r
  | [] => by simp [insR, T.getK]
  | (a, x) :: t => by
    unfold insR
    split
    · rename_i h
      have hne : ¬ k = a := fun e => lt_irr _ (e ▸ h)
      rw [T.getK, if_neg hne, getK_ins k r t]
    · split <;> rw [T.getK, if_pos rfl]
def oG (k : ByteArray) : OpP := ⟨3, k, eB, [], [], 0, [], [], [], 0, 0, 0⟩
def oC (k : ByteArray) (old one : List ValT) : OpP := ⟨4, k, eB, one, old, 0, [], [], [], 0, 0, 0⟩
def sC (one old : Value) : OpS := ⟨one, old, .slice none 0 0, .slice none 0 0, .slice none 0 0⟩
theorem oG_at (w : World) {k : ByteArray} (h : k.size ≤ maxLen) : OpAt w (oG k) sN := ⟨vals_nil _, vals_nil _, ints_nil _, vals_nil _, vals_nil _, by dsimp only [oG, oC]; decide, ⟨h, by show eB.size ≤ maxLen; decide⟩⟩
theorem oC_at {w : World} {k : ByteArray} (h : k.size ≤ maxLen) {old one : List ValT} {vo v1 : Value} (ho : Vals w [vo] old) (h1 : Vals w [v1] one) : OpAt w (oC k old one) (sC v1 vo) := ⟨h1, ho, ints_nil _, vals_nil _, vals_nil _, by dsimp only [oG, oC]; decide, ⟨h, by show eB.size ≤ maxLen; decide⟩⟩
theorem rowE_le (l : List ValT) : rowE l = 0 ∨ rowE l = 1 ∨ rowE l = 4 := by
  unfold rowE
  split
  · exact .inr (.inr rfl)
  · split
    · exact .inl rfl
    · exact .inr (.inl rfl)
theorem recE_le (l : List ValT) : recE l = 0 ∨ recE l = 1 ∨ recE l = 4 := by
  unfold recE
  split
  · exact .inr (.inl rfl)
  · exact rowE_le l
theorem chk_oG (k : ByteArray) : chk (oG k) = mustE (keyOk k) := rfl
theorem chk_oC (k : ByteArray) (old one : List ValT) : chk (oC k old one) = firstE [mustE (keyOk k), recE one, oldE old] := rfl
theorem chk_oC_ne {k : ByteArray} {old one : List ValT} : chk (oC k old one) ≠ 9 := by
  rw [chk_oC]
  unfold firstE
  split
  · unfold mustE; split <;> decide
  · unfold firstE
    split
    · rcases recE_le one with h | h | h <;> rw [h] <;> decide
    · unfold firstE
      split
      · unfold oldE
        split
        · decide
        · rcases recE_le old with h | h | h <;> rw [h] <;> decide
      · decide
theorem get_same (S : StT) (k : ByteArray) : (doS S (oG k)).1 = S := by
  unfold doS
  by_cases h : chk (oG k) = 0
  · simp only [h, ne_eq, not_true_eq_false, ↓reduceIte]
    rfl
  · simp only [h, ne_eq, not_false_eq_true, ↓reduceIte]
theorem get_ok (S : StT) {k : ByteArray} (h : keyOk k = true) : (doS S (oG k)).2 = { rep0 with there := (T.getK k.data.toList S.R).isSome, rcd := (T.getK k.data.toList S.R).getD [] } := by
  have h0 : chk (oG k) = 0 := by rw [chk_oG, mustE_t h]
  unfold doS
  simp only [h0, ne_eq, not_true_eq_false, ↓reduceIte]
  rfl
theorem cas_bad (S : StT) {k : ByteArray} {old one : List ValT} (h : chk (oC k old one) ≠ 0) : doS S (oC k old one) = (S, { rep0 with code := chk (oC k old one) }) := by
  unfold doS
  simp only [h, ne_eq, not_false_eq_true, ↓reduceIte]
theorem cas_ok (S : StT) {k : ByteArray} {old one : List ValT} (h : chk (oC k old one) = 0) : doS S (oC k old one) = if (T.getK k.data.toList S.R).getD [] = old then (⟨insR k.data.toList one S.R, S.X⟩, { rep0 with there := (T.getK k.data.toList S.R).isSome }) else (S, { rep0 with code := 9, there := (T.getK k.data.toList S.R).isSome, rcd := (T.getK k.data.toList S.R).getD [] }) := by
  unfold doS
  simp only [h, ne_eq, not_true_eq_false, ↓reduceIte]
  rfl
theorem cas_A {S : StT} {k : ByteArray} {old one two : List ValT} (h : (doS S (oC k old one)).2.code = 0) :
    (doS S (oG k)).2.rcd = old ∧ (doS S (oC k old one)).2.there = (doS S (oG k)).2.there ∧ (doS (doS S (oC k old one)).1 (oG k)).2.rcd = one ∧
      (((doS (doS S (oC k old one)).1 (oC k old two)).2.code = 9 ∧ (doS (doS S (oC k old one)).1 (oC k old two)).2.rcd = one) ∨ ((doS (doS S (oC k old one)).1 (oC k old two)).2.code = 0 ∧ one = old) ∨
        ((doS (doS S (oC k old one)).1 (oC k old two)).2.code = chk (oC k old two) ∧ (doS (doS S (oC k old one)).1 (oC k old two)).2.code ≠ 0 ∧ (doS (doS S (oC k old one)).1 (oC k old two)).2.code ≠ 9)) := by
  by_cases hc : chk (oC k old one) = 0
  · have hk : keyOk k = true := (chk_4 hc rfl).1
    rw [cas_ok S hc] at h ⊢
    by_cases he : (T.getK k.data.toList S.R).getD [] = old
    · rw [if_pos he] at h ⊢
      rw [get_ok S hk, get_ok _ hk]
      refine ⟨he, rfl, by rw [getK_ins]; rfl, ?_⟩
      by_cases h2 : chk (oC k old two) = 0
      · rw [cas_ok _ h2, getK_ins]
        by_cases h3 : one = old
        · exact .inr (.inl ⟨by rw [if_pos (show (some one).getD [] = old from h3)]; rfl, h3⟩)
        · exact .inl (by rw [if_neg (show ¬ (some one).getD [] = old from h3)]; exact ⟨rfl, rfl⟩)
      · rw [cas_bad _ h2]
        exact .inr (.inr ⟨rfl, h2, chk_oC_ne⟩)
    · rw [if_neg he] at h
      exact absurd h (show ¬ (9 : Int) = 0 by decide)
  · rw [cas_bad S hc] at h
    exact absurd h hc
theorem cas_B {S : StT} {k : ByteArray} {old one : List ValT} (h : (doS S (oC k old one)).2.code = 9) :
    ¬ (doS S (oG k)).2.rcd = old ∧ (doS S (oC k old one)).2.rcd = (doS S (oG k)).2.rcd ∧ (doS (doS S (oC k old one)).1 (oG k)).2.rcd = (doS S (oG k)).2.rcd := by
  by_cases hc : chk (oC k old one) = 0
  · have hk : keyOk k = true := (chk_4 hc rfl).1
    rw [cas_ok S hc] at h ⊢
    by_cases he : (T.getK k.data.toList S.R).getD [] = old
    · rw [if_pos he] at h
      exact absurd h (show ¬ (0 : Int) = 9 by decide)
    · rw [if_neg he] at h ⊢
      rw [get_ok S hk]
      exact ⟨he, rfl, rfl⟩
  · rw [cas_bad S hc] at h
    exact absurd h chk_oC_ne
theorem cas_C {S : StT} {k : ByteArray} {old one : List ValT} (h : (doS S (oC k old one)).2.code ≠ 0) (h' : (doS S (oC k old one)).2.code ≠ 9) : (doS (doS S (oC k old one)).1 (oG k)).2 = (doS S (oG k)).2 := by
  by_cases hc : chk (oC k old one) = 0
  · rw [cas_ok S hc] at h h'
    by_cases he : (T.getK k.data.toList S.R).getD [] = old
    · rw [if_pos he] at h
      exact absurd rfl h
    · rw [if_neg he] at h'
      exact absurd rfl h'
  · rw [cas_bad S hc]
theorem cells_of {w : World} {g : Nat} {t : TypeId} {cs : Array Value} (h : Blk w g t cs) (j : Nat) : ∀ w', Below w.heap.size w w' → w'.cell? ⟨g, j, none⟩ = cs[j]? := fun w' hb => (h.below' hb).cell j
set_option maxHeartbeats 2000000 in
theorem PlainCas5 (v vo v1 v2 : Value) (l : List OpT) (k : ByteArray) (old one two : List ValT) (w : World) (hv : Ops w [v] l) (hk : k.size ≤ maxLen) (ho : Vals w [vo] old) (h1 : Vals w [v1] one) (h2 : Vals w [v2] two) (hm : GMx w) :
    CallP Tryz.prog 5 #[v, .string k, vo, v1, v2] (fun r w' => r = .bool true ∧ Below w.heap.size w w') w := by
  refine ⟨S5.calls _ _ _ _ _ _ _ ?_⟩
  unfold S5
  refine (awake9 w hm).mono ?_
  rintro _ wa ⟨rfl, hba⟩
  (repeat with_reducible first|refine z_a ?_|refine z_b ?_|refine z_c ?_|refine z_d ?_|refine z_e ?_|refine z_f ?_|refine z_g ?_|refine z_h ?_|refine z_i ?_|refine z_j ?_|refine z_k ?_|refine z_l ?_|refine z_m (by omega) ?_|refine z_n (by omega) ?_|refine z_o (by omega) ?_|refine z_p (by omega) ?_|refine z_q (by omega) ?_|refine z_r (by omega) ?_|refine z_s (by omega) ?_|refine z_t (by omega) ?_|refine z_u (by omega) ?_|refine z_v (by omega) ?_|refine z_w (by omega) ?_|refine z_x (by omega) ?_|refine z_y (by omega) ?_|refine z_z (by omega) ?_|refine z_A ?_|refine z_B ?_|refine z_C ?_|refine z_D ?_|refine z_E ?_|refine z_F ?_|refine z_G ?_|refine z_H ?_|refine z_I ?_|refine z_J ?_|refine z_K (by omega) (by decide) ?_|refine z_L (by omega) (by decide) ?_|refine z_M (by omega) ?_|refine z_N (by omega) ?_|refine z_O (by omega) ?_|refine z_P ?_|refine z_Q ?_|refine z_R ?_|refine z_S ?_|refine z_T ?_|refine z_U (by decide) ?_|refine z_V (by decide) ?_)
  simp only [Bool.not_true]
  (repeat with_reducible first|refine z_a ?_|refine z_b ?_|refine z_c ?_|refine z_d ?_|refine z_e ?_|refine z_f ?_|refine z_g ?_|refine z_h ?_|refine z_i ?_|refine z_j ?_|refine z_k ?_|refine z_l ?_|refine z_m (by omega) ?_|refine z_n (by omega) ?_|refine z_o (by omega) ?_|refine z_p (by omega) ?_|refine z_q (by omega) ?_|refine z_r (by omega) ?_|refine z_s (by omega) ?_|refine z_t (by omega) ?_|refine z_u (by omega) ?_|refine z_v (by omega) ?_|refine z_w (by omega) ?_|refine z_x (by omega) ?_|refine z_y (by omega) ?_|refine z_z (by omega) ?_|refine z_A ?_|refine z_B ?_|refine z_C ?_|refine z_D ?_|refine z_E ?_|refine z_F ?_|refine z_G ?_|refine z_H ?_|refine z_I ?_|refine z_J ?_|refine z_K (by omega) (by decide) ?_|refine z_L (by omega) (by decide) ?_|refine z_M (by omega) ?_|refine z_N (by omega) ?_|refine z_O (by omega) ?_|refine z_P ?_|refine z_Q ?_|refine z_R ?_|refine z_S ?_|refine z_T ?_|refine z_U (by decide) ?_|refine z_V (by decide) ?_)
  refine (AllLight13 v l 60 (by decide) wa (keeps_Ops _ _ _ _ hba hv)).mono ?_
  rintro _ wb ⟨b, rfl, hlt, hbb⟩
  have hb1 := below_then hba hbb
  refine bi_not ?_
  cases b with
  | false =>
    simp only [Bool.not_false]
    (repeat with_reducible first|refine z_a ?_|refine z_b ?_|refine z_c ?_|refine z_d ?_|refine z_e ?_|refine z_f ?_|refine z_g ?_|refine z_h ?_|refine z_i ?_|refine z_j ?_|refine z_k ?_|refine z_l ?_|refine z_m (by omega) ?_|refine z_n (by omega) ?_|refine z_o (by omega) ?_|refine z_p (by omega) ?_|refine z_q (by omega) ?_|refine z_r (by omega) ?_|refine z_s (by omega) ?_|refine z_t (by omega) ?_|refine z_u (by omega) ?_|refine z_v (by omega) ?_|refine z_w (by omega) ?_|refine z_x (by omega) ?_|refine z_y (by omega) ?_|refine z_z (by omega) ?_|refine z_A ?_|refine z_B ?_|refine z_C ?_|refine z_D ?_|refine z_E ?_|refine z_F ?_|refine z_G ?_|refine z_H ?_|refine z_I ?_|refine z_J ?_|refine z_K (by omega) (by decide) ?_|refine z_L (by omega) (by decide) ?_|refine z_M (by omega) ?_|refine z_N (by omega) ?_|refine z_O (by omega) ?_|refine z_P ?_|refine z_Q ?_|refine z_R ?_|refine z_S ?_|refine z_T ?_|refine z_U (by decide) ?_|refine z_V (by decide) ?_)
    exact ⟨by first | rfl | trivial, hb1⟩
  | true =>
  have hl := (hlt rfl).1
  obtain ⟨A0, c0, rfl, _⟩ := ho.slice
  obtain ⟨A1, c1, rfl, _⟩ := h1.slice
  obtain ⟨A2, c2, rfl, _⟩ := h2.slice
  simp only [Bool.not_true]
  (repeat with_reducible first|refine z_a ?_|refine z_b ?_|refine z_c ?_|refine z_d ?_|refine z_e ?_|refine z_f ?_|refine z_g ?_|refine z_h ?_|refine z_i ?_|refine z_j ?_|refine z_k ?_|refine z_l ?_|refine z_m (by omega) ?_|refine z_n (by omega) ?_|refine z_o (by omega) ?_|refine z_p (by omega) ?_|refine z_q (by omega) ?_|refine z_r (by omega) ?_|refine z_s (by omega) ?_|refine z_t (by omega) ?_|refine z_u (by omega) ?_|refine z_v (by omega) ?_|refine z_w (by omega) ?_|refine z_x (by omega) ?_|refine z_y (by omega) ?_|refine z_z (by omega) ?_|refine z_A ?_|refine z_B ?_|refine z_C ?_|refine z_D ?_|refine z_E ?_|refine z_F ?_|refine z_G ?_|refine z_H ?_|refine z_I ?_|refine z_J ?_|refine z_K (by omega) (by decide) ?_|refine z_L (by omega) (by decide) ?_|refine z_M (by omega) ?_|refine z_N (by omega) ?_|refine z_O (by omega) ?_|refine z_P ?_|refine z_Q ?_|refine z_R ?_|refine z_S ?_|refine z_T ?_|refine z_U (by decide) ?_|refine z_V (by decide) ?_)
  refine bd (cells := opC ⟨0, k, eB, one, old, 0, [], two, [], 0, 0, 0⟩ ⟨.slice A1 one.length c1, .slice A0 old.length c0, .slice none 0 0, .slice A2 two.length c2, .slice none 0 0⟩) (by kernel_rfl) ?_
  (repeat with_reducible first|refine z_a ?_|refine z_b ?_|refine z_c ?_|refine z_d ?_|refine z_e ?_|refine z_f ?_|refine z_g ?_|refine z_h ?_|refine z_i ?_|refine z_j ?_|refine z_k ?_|refine z_l ?_|refine z_m (by omega) ?_|refine z_n (by omega) ?_|refine z_o (by omega) ?_|refine z_p (by omega) ?_|refine z_q (by omega) ?_|refine z_r (by omega) ?_|refine z_s (by omega) ?_|refine z_t (by omega) ?_|refine z_u (by omega) ?_|refine z_v (by omega) ?_|refine z_w (by omega) ?_|refine z_x (by omega) ?_|refine z_y (by omega) ?_|refine z_z (by omega) ?_|refine z_A ?_|refine z_B ?_|refine z_C ?_|refine z_D ?_|refine z_E ?_|refine z_F ?_|refine z_G ?_|refine z_H ?_|refine z_I ?_|refine z_J ?_|refine z_K (by omega) (by decide) ?_|refine z_L (by omega) (by decide) ?_|refine z_M (by omega) ?_|refine z_N (by omega) ?_|refine z_O (by omega) ?_|refine z_P ?_|refine z_Q ?_|refine z_R ?_|refine z_S ?_|refine z_T ?_|refine z_U (by decide) ?_|refine z_V (by decide) ?_)
  refine (Light10 _ _ wb ⟨keeps_Vals _ _ _ _ hb1 h1, keeps_Vals _ _ _ _ hb1 ho, ints_nil _, keeps_Vals _ _ _ _ hb1 h2, vals_nil _, by dsimp only []; decide, ⟨hk, by show eB.size ≤ maxLen; decide⟩⟩).mono ?_
  rintro _ wc ⟨b, rfl, _, hbc⟩
  have hb2 := below_then hb1 hbc
  (repeat with_reducible first|refine z_a ?_|refine z_b ?_|refine z_c ?_|refine z_d ?_|refine z_e ?_|refine z_f ?_|refine z_g ?_|refine z_h ?_|refine z_i ?_|refine z_j ?_|refine z_k ?_|refine z_l ?_|refine z_m (by omega) ?_|refine z_n (by omega) ?_|refine z_o (by omega) ?_|refine z_p (by omega) ?_|refine z_q (by omega) ?_|refine z_r (by omega) ?_|refine z_s (by omega) ?_|refine z_t (by omega) ?_|refine z_u (by omega) ?_|refine z_v (by omega) ?_|refine z_w (by omega) ?_|refine z_x (by omega) ?_|refine z_y (by omega) ?_|refine z_z (by omega) ?_|refine z_A ?_|refine z_B ?_|refine z_C ?_|refine z_D ?_|refine z_E ?_|refine z_F ?_|refine z_G ?_|refine z_H ?_|refine z_I ?_|refine z_J ?_|refine z_K (by omega) (by decide) ?_|refine z_L (by omega) (by decide) ?_|refine z_M (by omega) ?_|refine z_N (by omega) ?_|refine z_O (by omega) ?_|refine z_P ?_|refine z_Q ?_|refine z_R ?_|refine z_S ?_|refine z_T ?_|refine z_U (by decide) ?_|refine z_V (by decide) ?_)
  cases b with
  | false =>
    simp only [Bool.not_false]
    (repeat with_reducible first|refine z_a ?_|refine z_b ?_|refine z_c ?_|refine z_d ?_|refine z_e ?_|refine z_f ?_|refine z_g ?_|refine z_h ?_|refine z_i ?_|refine z_j ?_|refine z_k ?_|refine z_l ?_|refine z_m (by omega) ?_|refine z_n (by omega) ?_|refine z_o (by omega) ?_|refine z_p (by omega) ?_|refine z_q (by omega) ?_|refine z_r (by omega) ?_|refine z_s (by omega) ?_|refine z_t (by omega) ?_|refine z_u (by omega) ?_|refine z_v (by omega) ?_|refine z_w (by omega) ?_|refine z_x (by omega) ?_|refine z_y (by omega) ?_|refine z_z (by omega) ?_|refine z_A ?_|refine z_B ?_|refine z_C ?_|refine z_D ?_|refine z_E ?_|refine z_F ?_|refine z_G ?_|refine z_H ?_|refine z_I ?_|refine z_J ?_|refine z_K (by omega) (by decide) ?_|refine z_L (by omega) (by decide) ?_|refine z_M (by omega) ?_|refine z_N (by omega) ?_|refine z_O (by omega) ?_|refine z_P ?_|refine z_Q ?_|refine z_R ?_|refine z_S ?_|refine z_T ?_|refine z_U (by decide) ?_|refine z_V (by decide) ?_)
    exact ⟨by first | rfl | trivial, hb2⟩
  | true =>
  simp only [Bool.not_true]
  (repeat with_reducible first|refine z_a ?_|refine z_b ?_|refine z_c ?_|refine z_d ?_|refine z_e ?_|refine z_f ?_|refine z_g ?_|refine z_h ?_|refine z_i ?_|refine z_j ?_|refine z_k ?_|refine z_l ?_|refine z_m (by omega) ?_|refine z_n (by omega) ?_|refine z_o (by omega) ?_|refine z_p (by omega) ?_|refine z_q (by omega) ?_|refine z_r (by omega) ?_|refine z_s (by omega) ?_|refine z_t (by omega) ?_|refine z_u (by omega) ?_|refine z_v (by omega) ?_|refine z_w (by omega) ?_|refine z_x (by omega) ?_|refine z_y (by omega) ?_|refine z_z (by omega) ?_|refine z_A ?_|refine z_B ?_|refine z_C ?_|refine z_D ?_|refine z_E ?_|refine z_F ?_|refine z_G ?_|refine z_H ?_|refine z_I ?_|refine z_J ?_|refine z_K (by omega) (by decide) ?_|refine z_L (by omega) (by decide) ?_|refine z_M (by omega) ?_|refine z_N (by omega) ?_|refine z_O (by omega) ?_|refine z_P ?_|refine z_Q ?_|refine z_R ?_|refine z_S ?_|refine z_T ?_|refine z_U (by decide) ?_|refine z_V (by decide) ?_)
  refine (new_mem wc).mono ?_
  rintro _ wd ⟨g, rfl, hM⟩
  have hM := hM.old hb2
  refine opsLoop hv (by omega) hM hm ?_
  intro w1 hM1 hok
  generalize doAll st0 l = S at *
  have hl' : l.length ≤ 60 := by omega
  generalize l.length = n at *
  -- was
  refine bd (cells := opC (oG k) sN) (by kernel_rfl) ?_
  refine (do_mem hM1 (by simp) hok (by omega) (oG_at w1 hk) (hm.below hM1.bel)).mono ?_
  intro r2 w2 hM2
  rw [get_same] at hM2
  obtain ⟨d2, hR2⟩ := hM2.rep (r := r2) (p := (doS S (oG k)).2) (by simp)
  obtain ⟨vr2, vw2, M2, rfl, _, _, _, hone2⟩ := hR2.cells
  refine cpB zRep (by rw [szRep]; rfl) (by rfl) hone2 ?_
  intro gW w3 hgW hBW hb3
  have hM3 := hM2.box hgW hBW hb3
  -- a
  refine bd (cells := opC (oC k old one) (sC (.slice A1 one.length c1) (.slice A0 old.length c0))) (by kernel_rfl) ?_
  refine (do_mem hM3.sw (by simp [bxO, rpO]) hok (by omega) (oC_at hk (keeps_Vals _ _ _ _ hM3.bel ho) (keeps_Vals _ _ _ _ hM3.bel h1)) (hm.below hM3.bel)).mono ?_
  intro r4 w4 hM4
  have hok4 := hok.step (oC k old one) (vals_ok h1)
  obtain ⟨c4, hR4⟩ := hM4.rep (r := r4) (p := (doS S (oC k old one)).2) (by simp)
  obtain ⟨vr4, vw4, M4, rfl, _, _, _, hone4⟩ := hR4.cells
  refine cpB zRep (by rw [szRep]; rfl) (by rfl) hone4 ?_
  intro gA w5 hgA hBA hb5
  have hM5 := hM4.box hgA hBA hb5
  -- now
  refine bd (cells := opC (oG k) sN) (by kernel_rfl) ?_
  refine (do_mem hM5.sw (by simp [bxO, rpO]) hok4 (by omega) (oG_at w5 hk) (hm.below hM5.bel)).mono ?_
  intro r6 w6 hM6
  rw [get_same] at hM6
  obtain ⟨c6, hR6⟩ := hM6.rep (r := r6) (p := (doS (doS S (oC k old one)).1 (oG k)).2) (by simp)
  obtain ⟨vr6, vw6, M6, rfl, _, _, _, hone6⟩ := hR6.cells
  refine cpB zRep (by rw [szRep]; rfl) (by rfl) hone6 ?_
  intro gN w7 hgN hBN hb7
  have hM7 := hM6.box hgN hBN hb7
  -- b
  refine bd (cells := opC (oC k old two) (sC (.slice A2 two.length c2) (.slice A0 old.length c0))) (by kernel_rfl) ?_
  refine (do_mem hM7.sw (by simp [bxO, rpO]) hok4 (by omega) (oC_at hk (keeps_Vals _ _ _ _ hM7.bel ho) (keeps_Vals _ _ _ _ hM7.bel h2)) (hm.below hM7.bel)).mono ?_
  intro r8 w8 hM8
  obtain ⟨c8, hR8⟩ := hM8.rep (r := r8) (p := (doS (doS S (oC k old one)).1 (oC k old two)).2) (by simp)
  obtain ⟨vr8, vw8, M8, rfl, _, _, _, hone8⟩ := hR8.cells
  refine cpB zRep (by rw [szRep]; rfl) (by rfl) hone8 ?_
  intro gB w9 hgB hBB hb9
  have hM9 := hM8.box hgB hBB hb9
  have hVW := (rep_parts (hM9.rep (p := (doS S (oG k)).2) (r := .agg #[.int .i64 (doS S (oG k)).2.code, .bool (doS S (oG k)).2.there, vr2, vw2, .int .i64 (doS S (oG k)).2.id]) (by simp)).choose_spec).1
  have hVA := (rep_parts (hM9.rep (p := (doS S (oC k old one)).2) (r := .agg #[.int .i64 (doS S (oC k old one)).2.code, .bool (doS S (oC k old one)).2.there, vr4, vw4, .int .i64 (doS S (oC k old one)).2.id]) (by simp)).choose_spec).1
  have hVN := (rep_parts (hM9.rep (p := (doS (doS S (oC k old one)).1 (oG k)).2) (r := .agg #[.int .i64 (doS (doS S (oC k old one)).1 (oG k)).2.code, .bool (doS (doS S (oC k old one)).1 (oG k)).2.there, vr6, vw6, .int .i64 (doS (doS S (oC k old one)).1 (oG k)).2.id]) (by simp)).choose_spec).1
  have hVB := (rep_parts (hM9.rep (p := (doS (doS S (oC k old one)).1 (oC k old two)).2) (r := .agg #[.int .i64 (doS (doS S (oC k old one)).1 (oC k old two)).2.code, .bool (doS (doS S (oC k old one)).1 (oC k old two)).2.there, vr8, vw8, .int .i64 (doS (doS S (oC k old one)).1 (oC k old two)).2.id]) (by simp)).choose_spec).1
  have hRW := hM9.repAt (p := (doS S (oG k)).2) (r := .agg #[.int .i64 (doS S (oG k)).2.code, .bool (doS S (oG k)).2.there, vr2, vw2, .int .i64 (doS S (oG k)).2.id]) (by simp)
  have hRN := hM9.repAt (p := (doS (doS S (oC k old one)).1 (oG k)).2) (r := .agg #[.int .i64 (doS (doS S (oC k old one)).1 (oG k)).2.code, .bool (doS (doS S (oC k old one)).1 (oG k)).2.there, vr6, vw6, .int .i64 (doS (doS S (oC k old one)).1 (oG k)).2.id]) (by simp)
  have kW : Blk w9 gW 37 #[.int .i64 (doS S (oG k)).2.code, .bool (doS S (oG k)).2.there, vr2, vw2, .int .i64 (doS S (oG k)).2.id] := hM9.blk (by simp)
  have kA : Blk w9 gA 37 #[.int .i64 (doS S (oC k old one)).2.code, .bool (doS S (oC k old one)).2.there, vr4, vw4, .int .i64 (doS S (oC k old one)).2.id] := hM9.blk (by simp)
  have kN : Blk w9 gN 37 #[.int .i64 (doS (doS S (oC k old one)).1 (oG k)).2.code, .bool (doS (doS S (oC k old one)).1 (oG k)).2.there, vr6, vw6, .int .i64 (doS (doS S (oC k old one)).1 (oG k)).2.id] := hM9.blk (by simp)
  have kB : Blk w9 gB 37 #[.int .i64 (doS (doS S (oC k old one)).1 (oC k old two)).2.code, .bool (doS (doS S (oC k old one)).1 (oC k old two)).2.there, vr8, vw8, .int .i64 (doS (doS S (oC k old one)).1 (oC k old two)).2.id] := hM9.blk (by simp)
  have hb09 := hM9.bel
  have cA := cas_A (S := S) (k := k) (old := old) (one := one) (two := two)
  have cB := cas_B (S := S) (k := k) (old := old) (one := one)
  have cC := cas_C (S := S) (k := k) (old := old) (one := one)
  have hm9 := hm.below hb09
  have ho9 := keeps_Vals _ _ _ _ hb09 ho
  have h19 := keeps_Vals _ _ _ _ hb09 h1
  have h29 := keeps_Vals _ _ _ _ hb09 h2
  clear hM9 hM8 hM7 hM6 hM5 hM4 hM3 hM2 hM1 hM hBW hBA hBN hBB hR2 hR4 hR6 hR8
  generalize (doS (doS S (oC k old one)).1 (oC k old two)).2 = pb at *
  generalize (doS (doS S (oC k old one)).1 (oG k)).2 = pn at *
  generalize (doS S (oC k old one)).2 = pa at *
  generalize (doS S (oG k)).2 = pw at *
  have hr := Below.refl w9.heap.size w9
  have W1 : ∀ w', Below w9.heap.size w9 w' → w'.cell? ⟨gW, 1, none⟩ = some (.bool pw.there) := cells_of kW 1
  have W2 : ∀ w', Below w9.heap.size w9 w' → w'.cell? ⟨gW, 2, none⟩ = some vr2 := cells_of kW 2
  have A0' : ∀ w', Below w9.heap.size w9 w' → w'.cell? ⟨gA, 0, none⟩ = some (.int .i64 pa.code) := cells_of kA 0
  have A1' : ∀ w', Below w9.heap.size w9 w' → w'.cell? ⟨gA, 1, none⟩ = some (.bool pa.there) := cells_of kA 1
  have A2' : ∀ w', Below w9.heap.size w9 w' → w'.cell? ⟨gA, 2, none⟩ = some vr4 := cells_of kA 2
  have N2 : ∀ w', Below w9.heap.size w9 w' → w'.cell? ⟨gN, 2, none⟩ = some vr6 := cells_of kN 2
  have B0 : ∀ w', Below w9.heap.size w9 w' → w'.cell? ⟨gB, 0, none⟩ = some (.int .i64 pb.code) := cells_of kB 0
  have B2 : ∀ w', Below w9.heap.size w9 w' → w'.cell? ⟨gB, 2, none⟩ = some vr8 := cells_of kB 2
  (repeat with_reducible first | refine fd rp0 (by decide) ?_| refine ld oneE (A0' _ hr) ?_|refine z_a ?_|refine z_b ?_|refine z_c ?_|refine z_d ?_|refine z_e ?_|refine z_f ?_|refine z_g ?_|refine z_h ?_|refine z_i ?_|refine z_j ?_|refine z_k ?_|refine z_l ?_|refine z_m (by omega) ?_|refine z_n (by omega) ?_|refine z_o (by omega) ?_|refine z_p (by omega) ?_|refine z_q (by omega) ?_|refine z_r (by omega) ?_|refine z_s (by omega) ?_|refine z_t (by omega) ?_|refine z_u (by omega) ?_|refine z_v (by omega) ?_|refine z_w (by omega) ?_|refine z_x (by omega) ?_|refine z_y (by omega) ?_|refine z_z (by omega) ?_|refine z_A ?_|refine z_B ?_|refine z_C ?_|refine z_D ?_|refine z_E ?_|refine z_F ?_|refine z_G ?_|refine z_H ?_|refine z_I ?_|refine z_J ?_|refine z_K (by omega) (by decide) ?_|refine z_L (by omega) (by decide) ?_|refine z_M (by omega) ?_|refine z_N (by omega) ?_|refine z_O (by omega) ?_|refine z_P ?_|refine z_Q ?_|refine z_R ?_|refine z_S ?_|refine z_T ?_|refine z_U (by decide) ?_|refine z_V (by decide) ?_)
  refine bi_eql_c (fun h => ?_) (fun h => ?_)
  · obtain ⟨e1, e2, e3, e4⟩ := cA h
    have hdr : Below w9.heap.size w9 w9.drew := (Below.refl _ _).drew
    (repeat with_reducible first|refine z_a ?_|refine z_b ?_|refine z_c ?_|refine z_d ?_|refine z_e ?_|refine z_f ?_|refine z_g ?_|refine z_h ?_|refine z_i ?_|refine z_j ?_|refine z_k ?_|refine z_l ?_|refine z_m (by omega) ?_|refine z_n (by omega) ?_|refine z_o (by omega) ?_|refine z_p (by omega) ?_|refine z_q (by omega) ?_|refine z_r (by omega) ?_|refine z_s (by omega) ?_|refine z_t (by omega) ?_|refine z_u (by omega) ?_|refine z_v (by omega) ?_|refine z_w (by omega) ?_|refine z_x (by omega) ?_|refine z_y (by omega) ?_|refine z_z (by omega) ?_|refine z_A ?_|refine z_B ?_|refine z_C ?_|refine z_D ?_|refine z_E ?_|refine z_F ?_|refine z_G ?_|refine z_H ?_|refine z_I ?_|refine z_J ?_|refine z_K (by omega) (by decide) ?_|refine z_L (by omega) (by decide) ?_|refine z_M (by omega) ?_|refine z_N (by omega) ?_|refine z_O (by omega) ?_|refine z_P ?_|refine z_Q ?_|refine z_R ?_|refine z_S ?_|refine z_T ?_|refine z_U (by decide) ?_|refine z_V (by decide) ?_)
    refine draw (Below w9.heap.size w9) hdr ?_
    (repeat with_reducible first | refine yfd rp2 (by decide) ?_| refine yl1 oneRec W2 ?_|refine z_W ?_|refine z_a ?_|refine z_b ?_|refine z_c ?_|refine z_d ?_|refine z_e ?_|refine z_f ?_|refine z_g ?_|refine z_h ?_|refine z_i ?_|refine z_j ?_|refine z_k ?_|refine z_l ?_|refine z_X (by omega) ?_|refine z_Y (by omega) ?_|refine z_Z (by omega) ?_|refine z_a1 (by omega) ?_|refine z_b1 (by omega) ?_|refine z_c1 (by omega) ?_|refine z_d1 (by omega) ?_|refine z_e1 (by omega) ?_|refine z_f1 (by omega) ?_|refine z_g1 (by omega) ?_|refine z_h1 (by omega) ?_|refine z_i1 (by omega) ?_|refine z_j1 (by omega) ?_|refine z_k1 (by omega) ?_|refine z_l1 ?_|refine z_m1 ?_|refine z_n1 ?_|refine z_o1 ?_|refine z_p1 ?_|refine z_q1 ?_|refine z_r1 ?_|refine z_s1 ?_|refine z_t1 ?_|refine z_u1 ?_|refine z_v1 (by omega) (by decide) ?_|refine z_w1 (by omega) (by decide) ?_|refine z_x1 (by omega) ?_|refine z_y1 (by omega) ?_|refine z_z1 (by omega) ?_|refine z_A1 ?_|refine z_B1 ?_|refine z_C1 ?_|refine z_D1 ?_|refine z_E1 ?_|refine z_F1 (by decide) ?_|refine z_G1 (by decide) ?_)
    refine act ?_
    refine (Same17 _ _ _ _ w9.drew (keeps_Vals _ _ _ _ hdr hVW) (keeps_Vals _ _ _ _ hdr ho9)).mono ?_
    rintro _ w10 ⟨rfl, hb10⟩
    have hb10 := below_then hdr hb10
    refine ⟨_, hb10, fun _ h => h, ?_⟩
    rw [decide_eq_true e1]
    (repeat with_reducible first | refine yfd rp1 (by decide) ?_| refine yl1 one4 A1' ?_| refine yl1 one4 W1 ?_|refine z_W ?_|refine z_a ?_|refine z_b ?_|refine z_c ?_|refine z_d ?_|refine z_e ?_|refine z_f ?_|refine z_g ?_|refine z_h ?_|refine z_i ?_|refine z_j ?_|refine z_k ?_|refine z_l ?_|refine z_X (by omega) ?_|refine z_Y (by omega) ?_|refine z_Z (by omega) ?_|refine z_a1 (by omega) ?_|refine z_b1 (by omega) ?_|refine z_c1 (by omega) ?_|refine z_d1 (by omega) ?_|refine z_e1 (by omega) ?_|refine z_f1 (by omega) ?_|refine z_g1 (by omega) ?_|refine z_h1 (by omega) ?_|refine z_i1 (by omega) ?_|refine z_j1 (by omega) ?_|refine z_k1 (by omega) ?_|refine z_l1 ?_|refine z_m1 ?_|refine z_n1 ?_|refine z_o1 ?_|refine z_p1 ?_|refine z_q1 ?_|refine z_r1 ?_|refine z_s1 ?_|refine z_t1 ?_|refine z_u1 ?_|refine z_v1 (by omega) (by decide) ?_|refine z_w1 (by omega) (by decide) ?_|refine z_x1 (by omega) ?_|refine z_y1 (by omega) ?_|refine z_z1 (by omega) ?_|refine z_A1 ?_|refine z_B1 ?_|refine z_C1 ?_|refine z_D1 ?_|refine z_E1 ?_|refine z_F1 (by decide) ?_|refine z_G1 (by decide) ?_)
    refine yi_beql und4 ?_
    rw [decide_eq_true e2]
    (repeat with_reducible first | refine yfd rp2 (by decide) ?_| refine yl1 oneRec N2 ?_|refine z_W ?_|refine z_a ?_|refine z_b ?_|refine z_c ?_|refine z_d ?_|refine z_e ?_|refine z_f ?_|refine z_g ?_|refine z_h ?_|refine z_i ?_|refine z_j ?_|refine z_k ?_|refine z_l ?_|refine z_X (by omega) ?_|refine z_Y (by omega) ?_|refine z_Z (by omega) ?_|refine z_a1 (by omega) ?_|refine z_b1 (by omega) ?_|refine z_c1 (by omega) ?_|refine z_d1 (by omega) ?_|refine z_e1 (by omega) ?_|refine z_f1 (by omega) ?_|refine z_g1 (by omega) ?_|refine z_h1 (by omega) ?_|refine z_i1 (by omega) ?_|refine z_j1 (by omega) ?_|refine z_k1 (by omega) ?_|refine z_l1 ?_|refine z_m1 ?_|refine z_n1 ?_|refine z_o1 ?_|refine z_p1 ?_|refine z_q1 ?_|refine z_r1 ?_|refine z_s1 ?_|refine z_t1 ?_|refine z_u1 ?_|refine z_v1 (by omega) (by decide) ?_|refine z_w1 (by omega) (by decide) ?_|refine z_x1 (by omega) ?_|refine z_y1 (by omega) ?_|refine z_z1 (by omega) ?_|refine z_A1 ?_|refine z_B1 ?_|refine z_C1 ?_|refine z_D1 ?_|refine z_E1 ?_|refine z_F1 (by decide) ?_|refine z_G1 (by decide) ?_)
    refine act ?_
    refine (Same17 _ _ _ _ w10 (keeps_Vals _ _ _ _ hb10 hVN) (keeps_Vals _ _ _ _ hb10 h19)).mono ?_
    rintro _ w11 ⟨rfl, hb11⟩
    have hb11 := below_then hb10 hb11
    refine ⟨_, hb11, fun _ h => h, ?_⟩
    rw [decide_eq_true e3]
    (repeat with_reducible first | refine yfd rp0 (by decide) ?_| refine yl1 oneE B0 ?_|refine z_W ?_|refine z_a ?_|refine z_b ?_|refine z_c ?_|refine z_d ?_|refine z_e ?_|refine z_f ?_|refine z_g ?_|refine z_h ?_|refine z_i ?_|refine z_j ?_|refine z_k ?_|refine z_l ?_|refine z_X (by omega) ?_|refine z_Y (by omega) ?_|refine z_Z (by omega) ?_|refine z_a1 (by omega) ?_|refine z_b1 (by omega) ?_|refine z_c1 (by omega) ?_|refine z_d1 (by omega) ?_|refine z_e1 (by omega) ?_|refine z_f1 (by omega) ?_|refine z_g1 (by omega) ?_|refine z_h1 (by omega) ?_|refine z_i1 (by omega) ?_|refine z_j1 (by omega) ?_|refine z_k1 (by omega) ?_|refine z_l1 ?_|refine z_m1 ?_|refine z_n1 ?_|refine z_o1 ?_|refine z_p1 ?_|refine z_q1 ?_|refine z_r1 ?_|refine z_s1 ?_|refine z_t1 ?_|refine z_u1 ?_|refine z_v1 (by omega) (by decide) ?_|refine z_w1 (by omega) (by decide) ?_|refine z_x1 (by omega) ?_|refine z_y1 (by omega) ?_|refine z_z1 (by omega) ?_|refine z_A1 ?_|refine z_B1 ?_|refine z_C1 ?_|refine z_D1 ?_|refine z_E1 ?_|refine z_F1 (by decide) ?_|refine z_G1 (by decide) ?_)
    rcases e4 with ⟨f1, f2⟩ | ⟨f1, f2⟩ | ⟨f1, f2, f3⟩
    · (repeat with_reducible first | refine yfd rp2 (by decide) ?_| refine yl1 oneRec B2 ?_|refine z_W ?_|refine z_a ?_|refine z_b ?_|refine z_c ?_|refine z_d ?_|refine z_e ?_|refine z_f ?_|refine z_g ?_|refine z_h ?_|refine z_i ?_|refine z_j ?_|refine z_k ?_|refine z_l ?_|refine z_X (by omega) ?_|refine z_Y (by omega) ?_|refine z_Z (by omega) ?_|refine z_a1 (by omega) ?_|refine z_b1 (by omega) ?_|refine z_c1 (by omega) ?_|refine z_d1 (by omega) ?_|refine z_e1 (by omega) ?_|refine z_f1 (by omega) ?_|refine z_g1 (by omega) ?_|refine z_h1 (by omega) ?_|refine z_i1 (by omega) ?_|refine z_j1 (by omega) ?_|refine z_k1 (by omega) ?_|refine z_l1 ?_|refine z_m1 ?_|refine z_n1 ?_|refine z_o1 ?_|refine z_p1 ?_|refine z_q1 ?_|refine z_r1 ?_|refine z_s1 ?_|refine z_t1 ?_|refine z_u1 ?_|refine z_v1 (by omega) (by decide) ?_|refine z_w1 (by omega) (by decide) ?_|refine z_x1 (by omega) ?_|refine z_y1 (by omega) ?_|refine z_z1 (by omega) ?_|refine z_A1 ?_|refine z_B1 ?_|refine z_C1 ?_|refine z_D1 ?_|refine z_E1 ?_|refine z_F1 (by decide) ?_|refine z_G1 (by decide) ?_)
      refine act ?_
      refine (Same17 _ _ _ _ w11 (keeps_Vals _ _ _ _ hb11 hVB) (keeps_Vals _ _ _ _ hb11 h19)).mono ?_
      rintro _ w12 ⟨rfl, hb12⟩
      have hb12 := below_then hb11 hb12
      refine ⟨_, hb12, fun _ h => h, ?_⟩
      rw [decide_eq_true f2]
      (repeat with_reducible first | refine gaU ?_|refine z_W ?_|refine z_a ?_|refine z_b ?_|refine z_c ?_|refine z_d ?_|refine z_e ?_|refine z_f ?_|refine z_g ?_|refine z_h ?_|refine z_i ?_|refine z_j ?_|refine z_k ?_|refine z_l ?_|refine z_X (by omega) ?_|refine z_Y (by omega) ?_|refine z_Z (by omega) ?_|refine z_a1 (by omega) ?_|refine z_b1 (by omega) ?_|refine z_c1 (by omega) ?_|refine z_d1 (by omega) ?_|refine z_e1 (by omega) ?_|refine z_f1 (by omega) ?_|refine z_g1 (by omega) ?_|refine z_h1 (by omega) ?_|refine z_i1 (by omega) ?_|refine z_j1 (by omega) ?_|refine z_k1 (by omega) ?_|refine z_l1 ?_|refine z_m1 ?_|refine z_n1 ?_|refine z_o1 ?_|refine z_p1 ?_|refine z_q1 ?_|refine z_r1 ?_|refine z_s1 ?_|refine z_t1 ?_|refine z_u1 ?_|refine z_v1 (by omega) (by decide) ?_|refine z_w1 (by omega) (by decide) ?_|refine z_x1 (by omega) ?_|refine z_y1 (by omega) ?_|refine z_z1 (by omega) ?_|refine z_A1 ?_|refine z_B1 ?_|refine z_C1 ?_|refine z_D1 ?_|refine z_E1 ?_|refine z_F1 (by decide) ?_|refine z_G1 (by decide) ?_)
      exact ⟨by first | rfl | trivial, below_then hb09 hb12⟩
    · (repeat with_reducible first | refine yfd rp0 (by decide) ?_| refine yl1 oneE B0 ?_|refine z_W ?_|refine z_a ?_|refine z_b ?_|refine z_c ?_|refine z_d ?_|refine z_e ?_|refine z_f ?_|refine z_g ?_|refine z_h ?_|refine z_i ?_|refine z_j ?_|refine z_k ?_|refine z_l ?_|refine z_X (by omega) ?_|refine z_Y (by omega) ?_|refine z_Z (by omega) ?_|refine z_a1 (by omega) ?_|refine z_b1 (by omega) ?_|refine z_c1 (by omega) ?_|refine z_d1 (by omega) ?_|refine z_e1 (by omega) ?_|refine z_f1 (by omega) ?_|refine z_g1 (by omega) ?_|refine z_h1 (by omega) ?_|refine z_i1 (by omega) ?_|refine z_j1 (by omega) ?_|refine z_k1 (by omega) ?_|refine z_l1 ?_|refine z_m1 ?_|refine z_n1 ?_|refine z_o1 ?_|refine z_p1 ?_|refine z_q1 ?_|refine z_r1 ?_|refine z_s1 ?_|refine z_t1 ?_|refine z_u1 ?_|refine z_v1 (by omega) (by decide) ?_|refine z_w1 (by omega) (by decide) ?_|refine z_x1 (by omega) ?_|refine z_y1 (by omega) ?_|refine z_z1 (by omega) ?_|refine z_A1 ?_|refine z_B1 ?_|refine z_C1 ?_|refine z_D1 ?_|refine z_E1 ?_|refine z_F1 (by decide) ?_|refine z_G1 (by decide) ?_)
      refine act ?_
      refine (Same17 _ _ _ _ w11 (keeps_Vals _ _ _ _ hb11 h19) (keeps_Vals _ _ _ _ hb11 ho9)).mono ?_
      rintro _ w12 ⟨rfl, hb12⟩
      have hb12 := below_then hb11 hb12
      refine ⟨_, hb12, fun _ h => h, ?_⟩
      rw [decide_eq_true f2]
      (repeat with_reducible first | refine gaU ?_|refine z_W ?_|refine z_a ?_|refine z_b ?_|refine z_c ?_|refine z_d ?_|refine z_e ?_|refine z_f ?_|refine z_g ?_|refine z_h ?_|refine z_i ?_|refine z_j ?_|refine z_k ?_|refine z_l ?_|refine z_X (by omega) ?_|refine z_Y (by omega) ?_|refine z_Z (by omega) ?_|refine z_a1 (by omega) ?_|refine z_b1 (by omega) ?_|refine z_c1 (by omega) ?_|refine z_d1 (by omega) ?_|refine z_e1 (by omega) ?_|refine z_f1 (by omega) ?_|refine z_g1 (by omega) ?_|refine z_h1 (by omega) ?_|refine z_i1 (by omega) ?_|refine z_j1 (by omega) ?_|refine z_k1 (by omega) ?_|refine z_l1 ?_|refine z_m1 ?_|refine z_n1 ?_|refine z_o1 ?_|refine z_p1 ?_|refine z_q1 ?_|refine z_r1 ?_|refine z_s1 ?_|refine z_t1 ?_|refine z_u1 ?_|refine z_v1 (by omega) (by decide) ?_|refine z_w1 (by omega) (by decide) ?_|refine z_x1 (by omega) ?_|refine z_y1 (by omega) ?_|refine z_z1 (by omega) ?_|refine z_A1 ?_|refine z_B1 ?_|refine z_C1 ?_|refine z_D1 ?_|refine z_E1 ?_|refine z_F1 (by decide) ?_|refine z_G1 (by decide) ?_)
      exact ⟨by first | rfl | trivial, below_then hb09 hb12⟩
    · (repeat with_reducible first | refine yfd rp0 (by decide) ?_| refine yl1 oneE B0 ?_| refine gaU ?_|refine z_W ?_|refine z_a ?_|refine z_b ?_|refine z_c ?_|refine z_d ?_|refine z_e ?_|refine z_f ?_|refine z_g ?_|refine z_h ?_|refine z_i ?_|refine z_j ?_|refine z_k ?_|refine z_l ?_|refine z_X (by omega) ?_|refine z_Y (by omega) ?_|refine z_Z (by omega) ?_|refine z_a1 (by omega) ?_|refine z_b1 (by omega) ?_|refine z_c1 (by omega) ?_|refine z_d1 (by omega) ?_|refine z_e1 (by omega) ?_|refine z_f1 (by omega) ?_|refine z_g1 (by omega) ?_|refine z_h1 (by omega) ?_|refine z_i1 (by omega) ?_|refine z_j1 (by omega) ?_|refine z_k1 (by omega) ?_|refine z_l1 ?_|refine z_m1 ?_|refine z_n1 ?_|refine z_o1 ?_|refine z_p1 ?_|refine z_q1 ?_|refine z_r1 ?_|refine z_s1 ?_|refine z_t1 ?_|refine z_u1 ?_|refine z_v1 (by omega) (by decide) ?_|refine z_w1 (by omega) (by decide) ?_|refine z_x1 (by omega) ?_|refine z_y1 (by omega) ?_|refine z_z1 (by omega) ?_|refine z_A1 ?_|refine z_B1 ?_|refine z_C1 ?_|refine z_D1 ?_|refine z_E1 ?_|refine z_F1 (by decide) ?_|refine z_G1 (by decide) ?_)
      refine ybd (cells := opC (oC k old two) (sC (.slice A2 two.length c2) (.slice A0 old.length c0))) (by kernel_rfl) ?_
      (repeat with_reducible first|refine z_W ?_|refine z_a ?_|refine z_b ?_|refine z_c ?_|refine z_d ?_|refine z_e ?_|refine z_f ?_|refine z_g ?_|refine z_h ?_|refine z_i ?_|refine z_j ?_|refine z_k ?_|refine z_l ?_|refine z_X (by omega) ?_|refine z_Y (by omega) ?_|refine z_Z (by omega) ?_|refine z_a1 (by omega) ?_|refine z_b1 (by omega) ?_|refine z_c1 (by omega) ?_|refine z_d1 (by omega) ?_|refine z_e1 (by omega) ?_|refine z_f1 (by omega) ?_|refine z_g1 (by omega) ?_|refine z_h1 (by omega) ?_|refine z_i1 (by omega) ?_|refine z_j1 (by omega) ?_|refine z_k1 (by omega) ?_|refine z_l1 ?_|refine z_m1 ?_|refine z_n1 ?_|refine z_o1 ?_|refine z_p1 ?_|refine z_q1 ?_|refine z_r1 ?_|refine z_s1 ?_|refine z_t1 ?_|refine z_u1 ?_|refine z_v1 (by omega) (by decide) ?_|refine z_w1 (by omega) (by decide) ?_|refine z_x1 (by omega) ?_|refine z_y1 (by omega) ?_|refine z_z1 (by omega) ?_|refine z_A1 ?_|refine z_B1 ?_|refine z_C1 ?_|refine z_D1 ?_|refine z_E1 ?_|refine z_F1 (by decide) ?_|refine z_G1 (by decide) ?_)
      refine act ?_
      refine (Check12 (oC k old two) _ w11 (oC_at hk (keeps_Vals _ _ _ _ hb11 ho9) (keeps_Vals _ _ _ _ hb11 h29))).mono ?_
      rintro _ w12 ⟨rfl, hb12⟩
      have hb12 := below_then hb11 hb12
      refine ⟨_, hb12, fun _ h => h, ?_⟩
      (repeat with_reducible first | refine yfd rp0 (by decide) ?_| refine yl1 oneE B0 ?_|refine z_W ?_|refine z_a ?_|refine z_b ?_|refine z_c ?_|refine z_d ?_|refine z_e ?_|refine z_f ?_|refine z_g ?_|refine z_h ?_|refine z_i ?_|refine z_j ?_|refine z_k ?_|refine z_l ?_|refine z_X (by omega) ?_|refine z_Y (by omega) ?_|refine z_Z (by omega) ?_|refine z_a1 (by omega) ?_|refine z_b1 (by omega) ?_|refine z_c1 (by omega) ?_|refine z_d1 (by omega) ?_|refine z_e1 (by omega) ?_|refine z_f1 (by omega) ?_|refine z_g1 (by omega) ?_|refine z_h1 (by omega) ?_|refine z_i1 (by omega) ?_|refine z_j1 (by omega) ?_|refine z_k1 (by omega) ?_|refine z_l1 ?_|refine z_m1 ?_|refine z_n1 ?_|refine z_o1 ?_|refine z_p1 ?_|refine z_q1 ?_|refine z_r1 ?_|refine z_s1 ?_|refine z_t1 ?_|refine z_u1 ?_|refine z_v1 (by omega) (by decide) ?_|refine z_w1 (by omega) (by decide) ?_|refine z_x1 (by omega) ?_|refine z_y1 (by omega) ?_|refine z_z1 (by omega) ?_|refine z_A1 ?_|refine z_B1 ?_|refine z_C1 ?_|refine z_D1 ?_|refine z_E1 ?_|refine z_F1 (by decide) ?_|refine z_G1 (by decide) ?_)
      exact ⟨by first | rfl | trivial, below_then hb09 hb12⟩
  (repeat with_reducible first|refine z_a ?_|refine z_b ?_|refine z_c ?_|refine z_d ?_|refine z_e ?_|refine z_f ?_|refine z_g ?_|refine z_h ?_|refine z_i ?_|refine z_j ?_|refine z_k ?_|refine z_l ?_|refine z_m (by omega) ?_|refine z_n (by omega) ?_|refine z_o (by omega) ?_|refine z_p (by omega) ?_|refine z_q (by omega) ?_|refine z_r (by omega) ?_|refine z_s (by omega) ?_|refine z_t (by omega) ?_|refine z_u (by omega) ?_|refine z_v (by omega) ?_|refine z_w (by omega) ?_|refine z_x (by omega) ?_|refine z_y (by omega) ?_|refine z_z (by omega) ?_|refine z_A ?_|refine z_B ?_|refine z_C ?_|refine z_D ?_|refine z_E ?_|refine z_F ?_|refine z_G ?_|refine z_H ?_|refine z_I ?_|refine z_J ?_|refine z_K (by omega) (by decide) ?_|refine z_L (by omega) (by decide) ?_|refine z_M (by omega) ?_|refine z_N (by omega) ?_|refine z_O (by omega) ?_|refine z_P ?_|refine z_Q ?_|refine z_R ?_|refine z_S ?_|refine z_T ?_|refine z_U (by decide) ?_|refine z_V (by decide) ?_)
  refine bi_eql_c (fun h' => ?_) (fun h' => ?_)
  · obtain ⟨e1, e2, e3⟩ := cB h'
    (repeat with_reducible first | refine fd rp2 (by decide) ?_| refine ld oneRec (W2 _ hr) ?_|refine z_a ?_|refine z_b ?_|refine z_c ?_|refine z_d ?_|refine z_e ?_|refine z_f ?_|refine z_g ?_|refine z_h ?_|refine z_i ?_|refine z_j ?_|refine z_k ?_|refine z_l ?_|refine z_m (by omega) ?_|refine z_n (by omega) ?_|refine z_o (by omega) ?_|refine z_p (by omega) ?_|refine z_q (by omega) ?_|refine z_r (by omega) ?_|refine z_s (by omega) ?_|refine z_t (by omega) ?_|refine z_u (by omega) ?_|refine z_v (by omega) ?_|refine z_w (by omega) ?_|refine z_x (by omega) ?_|refine z_y (by omega) ?_|refine z_z (by omega) ?_|refine z_A ?_|refine z_B ?_|refine z_C ?_|refine z_D ?_|refine z_E ?_|refine z_F ?_|refine z_G ?_|refine z_H ?_|refine z_I ?_|refine z_J ?_|refine z_K (by omega) (by decide) ?_|refine z_L (by omega) (by decide) ?_|refine z_M (by omega) ?_|refine z_N (by omega) ?_|refine z_O (by omega) ?_|refine z_P ?_|refine z_Q ?_|refine z_R ?_|refine z_S ?_|refine z_T ?_|refine z_U (by decide) ?_|refine z_V (by decide) ?_)
    refine (Same17 _ _ _ _ w9 hVW ho9).mono ?_
    rintro _ w10 ⟨rfl, hb10⟩
    rw [decide_eq_false e1]
    refine bi_not ?_
    simp only [Bool.not_false]
    (repeat with_reducible first | refine fd rp2 (by decide) ?_| refine ld oneRec (A2' _ hb10) ?_| refine ld oneRec (W2 _ hb10) ?_|refine z_a ?_|refine z_b ?_|refine z_c ?_|refine z_d ?_|refine z_e ?_|refine z_f ?_|refine z_g ?_|refine z_h ?_|refine z_i ?_|refine z_j ?_|refine z_k ?_|refine z_l ?_|refine z_m (by omega) ?_|refine z_n (by omega) ?_|refine z_o (by omega) ?_|refine z_p (by omega) ?_|refine z_q (by omega) ?_|refine z_r (by omega) ?_|refine z_s (by omega) ?_|refine z_t (by omega) ?_|refine z_u (by omega) ?_|refine z_v (by omega) ?_|refine z_w (by omega) ?_|refine z_x (by omega) ?_|refine z_y (by omega) ?_|refine z_z (by omega) ?_|refine z_A ?_|refine z_B ?_|refine z_C ?_|refine z_D ?_|refine z_E ?_|refine z_F ?_|refine z_G ?_|refine z_H ?_|refine z_I ?_|refine z_J ?_|refine z_K (by omega) (by decide) ?_|refine z_L (by omega) (by decide) ?_|refine z_M (by omega) ?_|refine z_N (by omega) ?_|refine z_O (by omega) ?_|refine z_P ?_|refine z_Q ?_|refine z_R ?_|refine z_S ?_|refine z_T ?_|refine z_U (by decide) ?_|refine z_V (by decide) ?_)
    refine (Same17 _ _ _ _ w10 (keeps_Vals _ _ _ _ hb10 hVA) (keeps_Vals _ _ _ _ hb10 hVW)).mono ?_
    rintro _ w11 ⟨rfl, hb11⟩
    have hb11 := below_then hb10 hb11
    rw [decide_eq_true e2]
    (repeat with_reducible first | refine fd rp2 (by decide) ?_| refine ld oneRec (N2 _ hb11) ?_| refine ld oneRec (W2 _ hb11) ?_|refine z_a ?_|refine z_b ?_|refine z_c ?_|refine z_d ?_|refine z_e ?_|refine z_f ?_|refine z_g ?_|refine z_h ?_|refine z_i ?_|refine z_j ?_|refine z_k ?_|refine z_l ?_|refine z_m (by omega) ?_|refine z_n (by omega) ?_|refine z_o (by omega) ?_|refine z_p (by omega) ?_|refine z_q (by omega) ?_|refine z_r (by omega) ?_|refine z_s (by omega) ?_|refine z_t (by omega) ?_|refine z_u (by omega) ?_|refine z_v (by omega) ?_|refine z_w (by omega) ?_|refine z_x (by omega) ?_|refine z_y (by omega) ?_|refine z_z (by omega) ?_|refine z_A ?_|refine z_B ?_|refine z_C ?_|refine z_D ?_|refine z_E ?_|refine z_F ?_|refine z_G ?_|refine z_H ?_|refine z_I ?_|refine z_J ?_|refine z_K (by omega) (by decide) ?_|refine z_L (by omega) (by decide) ?_|refine z_M (by omega) ?_|refine z_N (by omega) ?_|refine z_O (by omega) ?_|refine z_P ?_|refine z_Q ?_|refine z_R ?_|refine z_S ?_|refine z_T ?_|refine z_U (by decide) ?_|refine z_V (by decide) ?_)
    refine (Same17 _ _ _ _ w11 (keeps_Vals _ _ _ _ hb11 hVN) (keeps_Vals _ _ _ _ hb11 hVW)).mono ?_
    rintro _ w12 ⟨rfl, hb12⟩
    rw [decide_eq_true e3]
    (repeat with_reducible first|refine z_a ?_|refine z_b ?_|refine z_c ?_|refine z_d ?_|refine z_e ?_|refine z_f ?_|refine z_g ?_|refine z_h ?_|refine z_i ?_|refine z_j ?_|refine z_k ?_|refine z_l ?_|refine z_m (by omega) ?_|refine z_n (by omega) ?_|refine z_o (by omega) ?_|refine z_p (by omega) ?_|refine z_q (by omega) ?_|refine z_r (by omega) ?_|refine z_s (by omega) ?_|refine z_t (by omega) ?_|refine z_u (by omega) ?_|refine z_v (by omega) ?_|refine z_w (by omega) ?_|refine z_x (by omega) ?_|refine z_y (by omega) ?_|refine z_z (by omega) ?_|refine z_A ?_|refine z_B ?_|refine z_C ?_|refine z_D ?_|refine z_E ?_|refine z_F ?_|refine z_G ?_|refine z_H ?_|refine z_I ?_|refine z_J ?_|refine z_K (by omega) (by decide) ?_|refine z_L (by omega) (by decide) ?_|refine z_M (by omega) ?_|refine z_N (by omega) ?_|refine z_O (by omega) ?_|refine z_P ?_|refine z_Q ?_|refine z_R ?_|refine z_S ?_|refine z_T ?_|refine z_U (by decide) ?_|refine z_V (by decide) ?_)
    exact ⟨by first | rfl | trivial, below_then hb09 (below_then hb11 hb12)⟩
  · have e := cC h h'
    subst e
    (repeat with_reducible first|refine z_a ?_|refine z_b ?_|refine z_c ?_|refine z_d ?_|refine z_e ?_|refine z_f ?_|refine z_g ?_|refine z_h ?_|refine z_i ?_|refine z_j ?_|refine z_k ?_|refine z_l ?_|refine z_m (by omega) ?_|refine z_n (by omega) ?_|refine z_o (by omega) ?_|refine z_p (by omega) ?_|refine z_q (by omega) ?_|refine z_r (by omega) ?_|refine z_s (by omega) ?_|refine z_t (by omega) ?_|refine z_u (by omega) ?_|refine z_v (by omega) ?_|refine z_w (by omega) ?_|refine z_x (by omega) ?_|refine z_y (by omega) ?_|refine z_z (by omega) ?_|refine z_A ?_|refine z_B ?_|refine z_C ?_|refine z_D ?_|refine z_E ?_|refine z_F ?_|refine z_G ?_|refine z_H ?_|refine z_I ?_|refine z_J ?_|refine z_K (by omega) (by decide) ?_|refine z_L (by omega) (by decide) ?_|refine z_M (by omega) ?_|refine z_N (by omega) ?_|refine z_O (by omega) ?_|refine z_P ?_|refine z_Q ?_|refine z_R ?_|refine z_S ?_|refine z_T ?_|refine z_U (by decide) ?_|refine z_V (by decide) ?_)
    refine ldA aggRep kW (by exact szRep) ?_
    refine ldA aggRep kN (by exact szRep) ?_
    refine (SameReply18 _ _ _ w9 hRW hRN).mono ?_
    rintro _ w10 ⟨rfl, hb10⟩
    exact ⟨by first | rfl | trivial, below_then hb09 hb10⟩
end Go.Proofs.YtonblppkidpmlaaGreatDoor.E
