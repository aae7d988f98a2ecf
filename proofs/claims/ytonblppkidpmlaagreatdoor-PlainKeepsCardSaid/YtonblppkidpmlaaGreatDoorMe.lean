import Derived.Test.YtonblppkidpmlaaGreatDoorMd
namespace Go.Proofs.YtonblppkidpmlaaGreatDoor.E
open Go Go.RowKit
set_option linter.unusedSimpArgs false
set_option linter.unusedVariables false

section
variable {P : Program} {K : Value → World → Prop} {w : World}
theorem str_add (a b : List UInt8) : (⟨a.toArray⟩ : ByteArray) ++ ⟨b.toArray⟩ = ⟨(a ++ b).toArray⟩ := by
  apply ByteArray.ext
  rw [ByteArray.data_append]
  simp
theorem adT {ty : TypeId} {x y : Operand} {a b : List UInt8} (h : a.length + b.length ≤ 1000000) (k : K (tS (a ++ b)) w) : LiftP P (binS .add ty x y (tS a) (tS b)) K w := by
  refine lift (v := tS (a ++ b)) (w' := w) ?_ k
  have hs : (⟨a.toArray⟩ : ByteArray).size + (⟨b.toArray⟩ : ByteArray).size ≤ 9223372036854775807 := by
    show a.toArray.size + b.toArray.size ≤ _
    simp; omega
  have := run_string_add_sum (P := P) w ⟨a.toArray⟩ ⟨b.toArray⟩ hs
  rw [str_add] at this
  have h2 : (binOp .add ty (tS a) (tS b)).run P w = .ok (tS (a ++ b)) w := by
    unfold tS
    rw [binOp_string_add]; exact this
  rw [binS]
  simp [tS, eqGuard_at_string]
  exact h2
end
def entT (id : Int) (key : List ValT) (rk : List UInt8) : List UInt8 := [0, UInt8.ofNat id.toNat] ++ encVs key ++ [0] ++ rk
/-- A key that may stand in an index. -/
structure KeyOk (key : List ValT) : Prop where
  len : 1 ≤ key.length ∧ key.length ≤ 2
  good : key.all goodV = true
  full : ∀ x ∈ key, x.1 ≠ 0
theorem KeyOk.row {key : List ValT} (h : KeyOk key) : rowE key = 0 := rowE_0.2 ⟨by have := h.len; omega, h.good⟩
theorem all_true {l : List ValT} (h : l.all goodV = true) : l.any (fun x => !goodV x) = false := by rw [any_bad, h]; rfl
theorem KeyOk.noNull {key : List ValT} (h : KeyOk key) : key.any (fun x => decide (x.1 = 0)) = false := by
  rw [List.any_eq_false]
  intro x hx
  simpa using h.full x hx
theorem id2_spec (id : Int) (h : 1 ≤ id ∧ id ≤ 6) (w : World) : CallP Tryz.prog 96 #[.int .i64 id] (fun r w' => r = tS [0, UInt8.ofNat id.toNat] ∧ Below w.heap.size w w') w := by
  refine ⟨S96.calls _ _ _ ?_⟩
  unfold S96
  refine bi_shr (by omega) (by decide) ?_
  refine cv und3 und5 ?_
  refine cv und3 und5 ?_
  have e1 : IntKind.u8.wrap (id / 2 ^ (8 : Int).toNat) = 0 := by
    have : id / 2 ^ (8 : Int).toNat = 0 := by
      show id / 256 = 0
      omega
    rw [this]; rfl
  have e2 : IntKind.u8.wrap id = ((UInt8.ofNat id.toNat).toNat : Int) := by
    rw [← wrap_u8, Int.toNat_of_nonneg (by omega)]
  rw [e1, e2]
  refine lift (v := .slice (some ⟨w.heap.size, 0, none⟩) 2 2) (w' := w.alloc (.cells #[.int .u8 0, .int .u8 ((UInt8.ofNat id.toNat).toNat : Int)] 5)) (by kernel_rfl) ?_
  have ho := Own.new w 5 ([0, UInt8.ofNat id.toNat].map u8) (by simp)
  refine cvBS undBy und5 und9 (bs := [0, UInt8.ofNat id.toNat]) ho.rd ?_
  exact ⟨rfl, (Below.refl _ _).alloc (Nat.le_refl _) _⟩
theorem bE3 (w : World) (a b c : Int) : (Instr.buildSlice 126 3 #[(0, .int .i64 a), (1, .int .i64 b), (2, .int .i64 c)]).run Tryz.prog w = .ok (.slice (some ⟨w.heap.size, 0, none⟩) 3 3) (w.alloc (.cells #[.int .i64 a, .int .i64 b, .int .i64 c] 29)) := by kernel_rfl
theorem keyV_0 {l : List ValT} (h : rowE l = 0) : keyV l = .tuple #[tS (encVs l), .int .i64 0] := by unfold keyV; rw [if_pos h, h]; rfl
theorem ent_len {key : List ValT} (h : KeyOk key) : (encVs key).length ≤ 134 := by
  have := encVs_length h.good
  have := h.len
  omega
theorem Entry79 (id : Int) (vk : Value) (key : List ValT) (rk : List UInt8) (w : World) (hid : 1 ≤ id ∧ id ≤ 6) (hk : Vals w [vk] key) (hko : KeyOk key) (hrk : 1 ≤ rk.length ∧ rk.length ≤ 16) (hm : GMx w) :
    CallP Tryz.prog 79 #[.int .i64 id, vk, tS rk] (fun r w' => r = .tuple #[tS (entT id key rk), .int .i64 0] ∧ Below w.heap.size w w') w := by
  obtain ⟨A, c, rfl, hc, hmx⟩ := hk.slice
  have hl := hko.len
  refine ⟨S79.calls _ _ _ _ _ ?_⟩
  unfold S79
  refine (number53 id w).mono ?_
  rintro _ _ ⟨rfl, rfl⟩
  rw [decide_eq_true hid]
  refine bi_T ?_
  simp only [Bool.not_true]
  (repeat with_reducible first|refine z_a ?_|refine z_b ?_|refine z_c ?_|refine z_d ?_|refine z_e ?_|refine z_f ?_|refine z_g ?_|refine z_h ?_|refine z_i ?_|refine z_j ?_|refine z_k ?_|refine z_l ?_|refine z_m (by omega) ?_|refine z_n (by omega) ?_|refine z_o (by omega) ?_|refine z_p (by omega) ?_|refine z_q (by omega) ?_|refine z_r (by omega) ?_|refine z_s (by omega) ?_|refine z_t (by omega) ?_|refine z_u (by omega) ?_|refine z_v (by omega) ?_|refine z_w (by omega) ?_|refine z_x (by omega) ?_|refine z_y (by omega) ?_|refine z_z (by omega) ?_|refine z_A ?_|refine z_B ?_|refine z_C ?_|refine z_D ?_|refine z_E ?_|refine z_F ?_|refine z_G ?_|refine z_H ?_|refine z_I ?_|refine z_J ?_|refine z_K (by omega) (by decide) ?_|refine z_L (by omega) (by decide) ?_|refine z_M (by omega) ?_|refine z_N (by omega) ?_|refine z_O (by omega) ?_|refine z_P ?_|refine z_Q ?_|refine z_R ?_|refine z_S ?_|refine z_T ?_|refine z_U (by decide) ?_|refine z_V (by decide) ?_)
  refine ln undVs ?_
  (repeat with_reducible first|refine z_a ?_|refine z_b ?_|refine z_c ?_|refine z_d ?_|refine z_e ?_|refine z_f ?_|refine z_g ?_|refine z_h ?_|refine z_i ?_|refine z_j ?_|refine z_k ?_|refine z_l ?_|refine z_m (by omega) ?_|refine z_n (by omega) ?_|refine z_o (by omega) ?_|refine z_p (by omega) ?_|refine z_q (by omega) ?_|refine z_r (by omega) ?_|refine z_s (by omega) ?_|refine z_t (by omega) ?_|refine z_u (by omega) ?_|refine z_v (by omega) ?_|refine z_w (by omega) ?_|refine z_x (by omega) ?_|refine z_y (by omega) ?_|refine z_z (by omega) ?_|refine z_A ?_|refine z_B ?_|refine z_C ?_|refine z_D ?_|refine z_E ?_|refine z_F ?_|refine z_G ?_|refine z_H ?_|refine z_I ?_|refine z_J ?_|refine z_K (by omega) (by decide) ?_|refine z_L (by omega) (by decide) ?_|refine z_M (by omega) ?_|refine z_N (by omega) ?_|refine z_O (by omega) ?_|refine z_P ?_|refine z_Q ?_|refine z_R ?_|refine z_S ?_|refine z_T ?_|refine z_U (by decide) ?_|refine z_V (by decide) ?_)
  refine (when_spec _ _ w).mono ?_
  rintro _ w ⟨rfl, rfl⟩
  refine ln undVs ?_
  (repeat with_reducible first|refine z_a ?_|refine z_b ?_|refine z_c ?_|refine z_d ?_|refine z_e ?_|refine z_f ?_|refine z_g ?_|refine z_h ?_|refine z_i ?_|refine z_j ?_|refine z_k ?_|refine z_l ?_|refine z_m (by omega) ?_|refine z_n (by omega) ?_|refine z_o (by omega) ?_|refine z_p (by omega) ?_|refine z_q (by omega) ?_|refine z_r (by omega) ?_|refine z_s (by omega) ?_|refine z_t (by omega) ?_|refine z_u (by omega) ?_|refine z_v (by omega) ?_|refine z_w (by omega) ?_|refine z_x (by omega) ?_|refine z_y (by omega) ?_|refine z_z (by omega) ?_|refine z_A ?_|refine z_B ?_|refine z_C ?_|refine z_D ?_|refine z_E ?_|refine z_F ?_|refine z_G ?_|refine z_H ?_|refine z_I ?_|refine z_J ?_|refine z_K (by omega) (by decide) ?_|refine z_L (by omega) (by decide) ?_|refine z_M (by omega) ?_|refine z_N (by omega) ?_|refine z_O (by omega) ?_|refine z_P ?_|refine z_Q ?_|refine z_R ?_|refine z_S ?_|refine z_T ?_|refine z_U (by decide) ?_|refine z_V (by decide) ?_)
  refine (when_spec _ _ w).mono ?_
  rintro _ w ⟨rfl, rfl⟩
  refine (containsV bad_tells _ key w hk).mono ?_
  rintro _ w1 ⟨rfl, hb1⟩
  rw [all_true hko.good]
  (repeat with_reducible first|refine z_a ?_|refine z_b ?_|refine z_c ?_|refine z_d ?_|refine z_e ?_|refine z_f ?_|refine z_g ?_|refine z_h ?_|refine z_i ?_|refine z_j ?_|refine z_k ?_|refine z_l ?_|refine z_m (by omega) ?_|refine z_n (by omega) ?_|refine z_o (by omega) ?_|refine z_p (by omega) ?_|refine z_q (by omega) ?_|refine z_r (by omega) ?_|refine z_s (by omega) ?_|refine z_t (by omega) ?_|refine z_u (by omega) ?_|refine z_v (by omega) ?_|refine z_w (by omega) ?_|refine z_x (by omega) ?_|refine z_y (by omega) ?_|refine z_z (by omega) ?_|refine z_A ?_|refine z_B ?_|refine z_C ?_|refine z_D ?_|refine z_E ?_|refine z_F ?_|refine z_G ?_|refine z_H ?_|refine z_I ?_|refine z_J ?_|refine z_K (by omega) (by decide) ?_|refine z_L (by omega) (by decide) ?_|refine z_M (by omega) ?_|refine z_N (by omega) ?_|refine z_O (by omega) ?_|refine z_P ?_|refine z_Q ?_|refine z_R ?_|refine z_S ?_|refine z_T ?_|refine z_U (by decide) ?_|refine z_V (by decide) ?_)
  refine (containsV null_tells _ key w1 (keeps_Vals _ _ _ _ hb1 hk)).mono ?_
  rintro _ w2 ⟨rfl, hb2⟩
  have hb02 := below_then hb1 hb2
  rw [hko.noNull]
  (repeat with_reducible first|refine z_a ?_|refine z_b ?_|refine z_c ?_|refine z_d ?_|refine z_e ?_|refine z_f ?_|refine z_g ?_|refine z_h ?_|refine z_i ?_|refine z_j ?_|refine z_k ?_|refine z_l ?_|refine z_m (by omega) ?_|refine z_n (by omega) ?_|refine z_o (by omega) ?_|refine z_p (by omega) ?_|refine z_q (by omega) ?_|refine z_r (by omega) ?_|refine z_s (by omega) ?_|refine z_t (by omega) ?_|refine z_u (by omega) ?_|refine z_v (by omega) ?_|refine z_w (by omega) ?_|refine z_x (by omega) ?_|refine z_y (by omega) ?_|refine z_z (by omega) ?_|refine z_A ?_|refine z_B ?_|refine z_C ?_|refine z_D ?_|refine z_E ?_|refine z_F ?_|refine z_G ?_|refine z_H ?_|refine z_I ?_|refine z_J ?_|refine z_K (by omega) (by decide) ?_|refine z_L (by omega) (by decide) ?_|refine z_M (by omega) ?_|refine z_N (by omega) ?_|refine z_O (by omega) ?_|refine z_P ?_|refine z_Q ?_|refine z_R ?_|refine z_S ?_|refine z_T ?_|refine z_U (by decide) ?_|refine z_V (by decide) ?_)
  refine (key_spec ⟨rk.toArray⟩ w2).mono ?_
  rintro _ w2 ⟨rfl, rfl⟩
  have hkey : keyOk ⟨rk.toArray⟩ = true := by
    unfold keyOk
    rw [decide_eq_true_iff]
    show 1 ≤ rk.toArray.size ∧ rk.toArray.size ≤ 16
    simpa using hrk
  rw [hkey]
  (repeat with_reducible first|refine z_a ?_|refine z_b ?_|refine z_c ?_|refine z_d ?_|refine z_e ?_|refine z_f ?_|refine z_g ?_|refine z_h ?_|refine z_i ?_|refine z_j ?_|refine z_k ?_|refine z_l ?_|refine z_m (by omega) ?_|refine z_n (by omega) ?_|refine z_o (by omega) ?_|refine z_p (by omega) ?_|refine z_q (by omega) ?_|refine z_r (by omega) ?_|refine z_s (by omega) ?_|refine z_t (by omega) ?_|refine z_u (by omega) ?_|refine z_v (by omega) ?_|refine z_w (by omega) ?_|refine z_x (by omega) ?_|refine z_y (by omega) ?_|refine z_z (by omega) ?_|refine z_A ?_|refine z_B ?_|refine z_C ?_|refine z_D ?_|refine z_E ?_|refine z_F ?_|refine z_G ?_|refine z_H ?_|refine z_I ?_|refine z_J ?_|refine z_K (by omega) (by decide) ?_|refine z_L (by omega) (by decide) ?_|refine z_M (by omega) ?_|refine z_N (by omega) ?_|refine z_O (by omega) ?_|refine z_P ?_|refine z_Q ?_|refine z_R ?_|refine z_S ?_|refine z_T ?_|refine z_U (by decide) ?_|refine z_V (by decide) ?_)
  refine (when_spec _ _ w2).mono ?_
  rintro _ w2 ⟨rfl, rfl⟩
  refine bsO (xs := iV [0, 0, 0]) (bE3 w2 0 0 0) rfl (by decide) ?_
  intro v3 w3 ho3 _ hb3
  have hb03 := below_then hb02 hb3
  refine (first_spec v3 [0, 0, 0] w3 ho3.rd).mono ?_
  rintro _ w3 ⟨rfl, rfl⟩
  rw [show firstE [0, 0, 0] = 0 from rfl]
  (repeat with_reducible first|refine z_a ?_|refine z_b ?_|refine z_c ?_|refine z_d ?_|refine z_e ?_|refine z_f ?_|refine z_g ?_|refine z_h ?_|refine z_i ?_|refine z_j ?_|refine z_k ?_|refine z_l ?_|refine z_m (by omega) ?_|refine z_n (by omega) ?_|refine z_o (by omega) ?_|refine z_p (by omega) ?_|refine z_q (by omega) ?_|refine z_r (by omega) ?_|refine z_s (by omega) ?_|refine z_t (by omega) ?_|refine z_u (by omega) ?_|refine z_v (by omega) ?_|refine z_w (by omega) ?_|refine z_x (by omega) ?_|refine z_y (by omega) ?_|refine z_z (by omega) ?_|refine z_A ?_|refine z_B ?_|refine z_C ?_|refine z_D ?_|refine z_E ?_|refine z_F ?_|refine z_G ?_|refine z_H ?_|refine z_I ?_|refine z_J ?_|refine z_K (by omega) (by decide) ?_|refine z_L (by omega) (by decide) ?_|refine z_M (by omega) ?_|refine z_N (by omega) ?_|refine z_O (by omega) ?_|refine z_P ?_|refine z_Q ?_|refine z_R ?_|refine z_S ?_|refine z_T ?_|refine z_U (by decide) ?_|refine z_V (by decide) ?_)
  refine (Key64 _ key w3 (keeps_Vals _ _ _ _ hb03 hk) (hm.below hb03)).mono ?_
  rintro _ w4 ⟨rfl, hb4⟩
  rw [keyV_0 hko.row]
  (repeat with_reducible first|refine z_a ?_|refine z_b ?_|refine z_c ?_|refine z_d ?_|refine z_e ?_|refine z_f ?_|refine z_g ?_|refine z_h ?_|refine z_i ?_|refine z_j ?_|refine z_k ?_|refine z_l ?_|refine z_m (by omega) ?_|refine z_n (by omega) ?_|refine z_o (by omega) ?_|refine z_p (by omega) ?_|refine z_q (by omega) ?_|refine z_r (by omega) ?_|refine z_s (by omega) ?_|refine z_t (by omega) ?_|refine z_u (by omega) ?_|refine z_v (by omega) ?_|refine z_w (by omega) ?_|refine z_x (by omega) ?_|refine z_y (by omega) ?_|refine z_z (by omega) ?_|refine z_A ?_|refine z_B ?_|refine z_C ?_|refine z_D ?_|refine z_E ?_|refine z_F ?_|refine z_G ?_|refine z_H ?_|refine z_I ?_|refine z_J ?_|refine z_K (by omega) (by decide) ?_|refine z_L (by omega) (by decide) ?_|refine z_M (by omega) ?_|refine z_N (by omega) ?_|refine z_O (by omega) ?_|refine z_P ?_|refine z_Q ?_|refine z_R ?_|refine z_S ?_|refine z_T ?_|refine z_U (by decide) ?_|refine z_V (by decide) ?_)
  refine (id2_spec id hid w4).mono ?_
  rintro _ w5 ⟨rfl, hb5⟩
  have := ent_len hko
  refine adT (by simp; omega) ?_
  refine adT (b := [0]) (by simp; omega) ?_
  refine adT (by simp; omega) ?_
  exact ⟨rfl, below_then (below_then hb03 hb4) hb5⟩
end Go.Proofs.YtonblppkidpmlaaGreatDoor.E
