import Derived.Test.YtonblppkidpmlaaGreatDoorMa
namespace Go.Proofs.YtonblppkidpmlaaGreatDoor.E
open Go Go.RowKit
set_option linter.unusedSimpArgs false
set_option linter.unusedVariables false

abbrev txt (x : ValT) : List UInt8 := x.2.2.1.data.toList
def cI (a b : Int) : Int := if a < b then -1 else if b < a then 1 else 0
def cT (a b : List UInt8) : Int := if a < b then -1 else if b < a then 1 else 0
def cmpV (x y : ValT) : Int := fstE [cI x.1 y.1, cI x.2.1 y.2.1, cT (txt x) (txt y)]
def cmpR : List ValT → List ValT → Int
  | [], [] => 0
  | [], _ :: _ => -1
  | _ :: _, [] => 1
  | x :: r, y :: s => if cmpV x y ≠ 0 then cmpV x y else cmpR r s
def compV (a b : List ValT) : Int := if rowE a ≠ 0 ∨ rowE b ≠ 0 then 0 else cmpR a b
theorem fstE_cons (a : Int) (l : List Int) : fstE (a :: l) = if a ≠ 0 then a else fstE l := by
  unfold fstE
  split
  · rename_i h; rw [List.find?_cons_of_pos (by simpa using h)]; rfl
  · rename_i h; rw [List.find?_cons_of_neg (by simpa using h)]
theorem cmpR_drop (l m : List ValT) (k : Nat) (hl : k < l.length) (hm : k < m.length) : cmpR (l.drop k) (m.drop k) = if cmpV l[k] m[k] ≠ 0 then cmpV l[k] m[k] else cmpR (l.drop (k + 1)) (m.drop (k + 1)) := by
  rw [List.drop_eq_getElem_cons hl, List.drop_eq_getElem_cons hm, cmpR]
theorem cmpR_end (l m : List ValT) (k : Nat) (hl : k ≤ l.length) (hm : k ≤ m.length) (h : k = l.length ∨ k = m.length) : cmpR (l.drop k) (m.drop k) = cI l.length m.length := by
  unfold cI
  rcases h with rfl | rfl
  · rw [List.drop_length]
    by_cases e : l.length = m.length
    · rw [e, List.drop_length, if_neg (by omega), if_neg (by omega)]; rfl
    · rw [List.drop_eq_getElem_cons (by omega), if_pos (by omega)]; rfl
  · rw [List.drop_length]
    by_cases e : l.length = m.length
    · rw [← e, List.drop_length, if_neg (by omega), if_neg (by omega)]; rfl
    · rw [List.drop_eq_getElem_cons (by omega), if_neg (by omega), if_pos (by omega)]; rfl
theorem isNaNT (s : ByteArray) (w : World) : CallP Tryz.prog 98 #[.string s] (fun r w' => r = .bool false ∧ w' = w) w := by
  refine ⟨S98.calls _ _ _ ?_⟩
  unfold S98
  refine bi_sneq ?_
  exact ⟨by rw [decide_eq_false (by simp)], rfl⟩
theorem isNaNI (n : Int) (w : World) : CallP Tryz.prog 134 #[.int .i64 n] (fun r w' => r = .bool false ∧ w' = w) w := by
  refine ⟨S134.calls _ _ _ ?_⟩
  unfold S134
  (repeat with_reducible first|refine z_a ?_|refine z_b ?_|refine z_c ?_|refine z_d ?_|refine z_e ?_|refine z_f ?_|refine z_g ?_|refine z_h ?_|refine z_i ?_|refine z_j ?_|refine z_k ?_|refine z_l ?_|refine z_m (by omega) ?_|refine z_n (by omega) ?_|refine z_o (by omega) ?_|refine z_p (by omega) ?_|refine z_q (by omega) ?_|refine z_r (by omega) ?_|refine z_s (by omega) ?_|refine z_t (by omega) ?_|refine z_u (by omega) ?_|refine z_v (by omega) ?_|refine z_w (by omega) ?_|refine z_x (by omega) ?_|refine z_y (by omega) ?_|refine z_z (by omega) ?_|refine z_A ?_|refine z_B ?_|refine z_C ?_|refine z_D ?_|refine z_E ?_|refine z_F ?_|refine z_G ?_|refine z_H ?_|refine z_I ?_|refine z_J ?_|refine z_K (by omega) (by decide) ?_|refine z_L (by omega) (by decide) ?_|refine z_M (by omega) ?_|refine z_N (by omega) ?_|refine z_O (by omega) ?_|refine z_P ?_|refine z_Q ?_|refine z_R ?_|refine z_S ?_|refine z_T ?_|refine z_U (by decide) ?_|refine z_V (by decide) ?_)
  exact ⟨rfl, rfl⟩
theorem compareT (a b : ByteArray) (w : World) : CallP Tryz.prog 82 #[.string a, .string b] (fun r w' => r = .int .i64 (cT a.data.toList b.data.toList) ∧ w' = w) w := by
  refine ⟨S82.calls _ _ _ _ ?_⟩
  unfold S82
  refine (isNaNT a w).mono ?_
  rintro _ _ ⟨rfl, rfl⟩
  refine (isNaNT b _).mono ?_
  rintro _ w ⟨rfl, rfl⟩
  (repeat with_reducible first|refine z_a ?_|refine z_b ?_|refine z_c ?_|refine z_d ?_|refine z_e ?_|refine z_f ?_|refine z_g ?_|refine z_h ?_|refine z_i ?_|refine z_j ?_|refine z_k ?_|refine z_l ?_|refine z_m (by omega) ?_|refine z_n (by omega) ?_|refine z_o (by omega) ?_|refine z_p (by omega) ?_|refine z_q (by omega) ?_|refine z_r (by omega) ?_|refine z_s (by omega) ?_|refine z_t (by omega) ?_|refine z_u (by omega) ?_|refine z_v (by omega) ?_|refine z_w (by omega) ?_|refine z_x (by omega) ?_|refine z_y (by omega) ?_|refine z_z (by omega) ?_|refine z_A ?_|refine z_B ?_|refine z_C ?_|refine z_D ?_|refine z_E ?_|refine z_F ?_|refine z_G ?_|refine z_H ?_|refine z_I ?_|refine z_J ?_|refine z_K (by omega) (by decide) ?_|refine z_L (by omega) (by decide) ?_|refine z_M (by omega) ?_|refine z_N (by omega) ?_|refine z_O (by omega) ?_|refine z_P ?_|refine z_Q ?_|refine z_R ?_|refine z_S ?_|refine z_T ?_|refine z_U (by decide) ?_|refine z_V (by decide) ?_)
  rw [tS_of a, tS_of b]
  refine tl_lss ?_
  unfold cT
  refine CondP.dec (fun h => ?_) (fun h => ?_)
  · exact ⟨by rw [if_pos h], rfl⟩
  refine tl_gtr ?_
  refine CondP.dec (fun h1 => ?_) (fun h1 => ?_)
  · exact ⟨by rw [if_neg h, if_pos h1], rfl⟩
  · exact ⟨by rw [if_neg h, if_neg h1], rfl⟩
theorem compareI (a b : Int) (w : World) : CallP Tryz.prog 118 #[.int .i64 a, .int .i64 b] (fun r w' => r = .int .i64 (cI a b) ∧ w' = w) w := by
  refine ⟨S118.calls _ _ _ _ ?_⟩
  unfold S118
  refine (isNaNI a w).mono ?_
  rintro _ _ ⟨rfl, rfl⟩
  refine (isNaNI b _).mono ?_
  rintro _ w ⟨rfl, rfl⟩
  (repeat with_reducible first|refine z_a ?_|refine z_b ?_|refine z_c ?_|refine z_d ?_|refine z_e ?_|refine z_f ?_|refine z_g ?_|refine z_h ?_|refine z_i ?_|refine z_j ?_|refine z_k ?_|refine z_l ?_|refine z_m (by omega) ?_|refine z_n (by omega) ?_|refine z_o (by omega) ?_|refine z_p (by omega) ?_|refine z_q (by omega) ?_|refine z_r (by omega) ?_|refine z_s (by omega) ?_|refine z_t (by omega) ?_|refine z_u (by omega) ?_|refine z_v (by omega) ?_|refine z_w (by omega) ?_|refine z_x (by omega) ?_|refine z_y (by omega) ?_|refine z_z (by omega) ?_|refine z_A ?_|refine z_B ?_|refine z_C ?_|refine z_D ?_|refine z_E ?_|refine z_F ?_|refine z_G ?_|refine z_H ?_|refine z_I ?_|refine z_J ?_|refine z_K (by omega) (by decide) ?_|refine z_L (by omega) (by decide) ?_|refine z_M (by omega) ?_|refine z_N (by omega) ?_|refine z_O (by omega) ?_|refine z_P ?_|refine z_Q ?_|refine z_R ?_|refine z_S ?_|refine z_T ?_|refine z_U (by decide) ?_|refine z_V (by decide) ?_)
  unfold cI
  refine bi_lss_c (fun h => ?_) (fun h => ?_)
  · (repeat with_reducible first|refine z_a ?_|refine z_b ?_|refine z_c ?_|refine z_d ?_|refine z_e ?_|refine z_f ?_|refine z_g ?_|refine z_h ?_|refine z_i ?_|refine z_j ?_|refine z_k ?_|refine z_l ?_|refine z_m (by omega) ?_|refine z_n (by omega) ?_|refine z_o (by omega) ?_|refine z_p (by omega) ?_|refine z_q (by omega) ?_|refine z_r (by omega) ?_|refine z_s (by omega) ?_|refine z_t (by omega) ?_|refine z_u (by omega) ?_|refine z_v (by omega) ?_|refine z_w (by omega) ?_|refine z_x (by omega) ?_|refine z_y (by omega) ?_|refine z_z (by omega) ?_|refine z_A ?_|refine z_B ?_|refine z_C ?_|refine z_D ?_|refine z_E ?_|refine z_F ?_|refine z_G ?_|refine z_H ?_|refine z_I ?_|refine z_J ?_|refine z_K (by omega) (by decide) ?_|refine z_L (by omega) (by decide) ?_|refine z_M (by omega) ?_|refine z_N (by omega) ?_|refine z_O (by omega) ?_|refine z_P ?_|refine z_Q ?_|refine z_R ?_|refine z_S ?_|refine z_T ?_|refine z_U (by decide) ?_|refine z_V (by decide) ?_)
    exact ⟨by rw [if_pos h], rfl⟩
  (repeat with_reducible first|refine z_a ?_|refine z_b ?_|refine z_c ?_|refine z_d ?_|refine z_e ?_|refine z_f ?_|refine z_g ?_|refine z_h ?_|refine z_i ?_|refine z_j ?_|refine z_k ?_|refine z_l ?_|refine z_m (by omega) ?_|refine z_n (by omega) ?_|refine z_o (by omega) ?_|refine z_p (by omega) ?_|refine z_q (by omega) ?_|refine z_r (by omega) ?_|refine z_s (by omega) ?_|refine z_t (by omega) ?_|refine z_u (by omega) ?_|refine z_v (by omega) ?_|refine z_w (by omega) ?_|refine z_x (by omega) ?_|refine z_y (by omega) ?_|refine z_z (by omega) ?_|refine z_A ?_|refine z_B ?_|refine z_C ?_|refine z_D ?_|refine z_E ?_|refine z_F ?_|refine z_G ?_|refine z_H ?_|refine z_I ?_|refine z_J ?_|refine z_K (by omega) (by decide) ?_|refine z_L (by omega) (by decide) ?_|refine z_M (by omega) ?_|refine z_N (by omega) ?_|refine z_O (by omega) ?_|refine z_P ?_|refine z_Q ?_|refine z_R ?_|refine z_S ?_|refine z_T ?_|refine z_U (by decide) ?_|refine z_V (by decide) ?_)
  refine bi_gtr_c (fun h1 => ?_) (fun h1 => ?_)
  · (repeat with_reducible first|refine z_a ?_|refine z_b ?_|refine z_c ?_|refine z_d ?_|refine z_e ?_|refine z_f ?_|refine z_g ?_|refine z_h ?_|refine z_i ?_|refine z_j ?_|refine z_k ?_|refine z_l ?_|refine z_m (by omega) ?_|refine z_n (by omega) ?_|refine z_o (by omega) ?_|refine z_p (by omega) ?_|refine z_q (by omega) ?_|refine z_r (by omega) ?_|refine z_s (by omega) ?_|refine z_t (by omega) ?_|refine z_u (by omega) ?_|refine z_v (by omega) ?_|refine z_w (by omega) ?_|refine z_x (by omega) ?_|refine z_y (by omega) ?_|refine z_z (by omega) ?_|refine z_A ?_|refine z_B ?_|refine z_C ?_|refine z_D ?_|refine z_E ?_|refine z_F ?_|refine z_G ?_|refine z_H ?_|refine z_I ?_|refine z_J ?_|refine z_K (by omega) (by decide) ?_|refine z_L (by omega) (by decide) ?_|refine z_M (by omega) ?_|refine z_N (by omega) ?_|refine z_O (by omega) ?_|refine z_P ?_|refine z_Q ?_|refine z_R ?_|refine z_S ?_|refine z_T ?_|refine z_U (by decide) ?_|refine z_V (by decide) ?_)
    exact ⟨by rw [if_neg h, if_pos h1], rfl⟩
  · (repeat with_reducible first|refine z_a ?_|refine z_b ?_|refine z_c ?_|refine z_d ?_|refine z_e ?_|refine z_f ?_|refine z_g ?_|refine z_h ?_|refine z_i ?_|refine z_j ?_|refine z_k ?_|refine z_l ?_|refine z_m (by omega) ?_|refine z_n (by omega) ?_|refine z_o (by omega) ?_|refine z_p (by omega) ?_|refine z_q (by omega) ?_|refine z_r (by omega) ?_|refine z_s (by omega) ?_|refine z_t (by omega) ?_|refine z_u (by omega) ?_|refine z_v (by omega) ?_|refine z_w (by omega) ?_|refine z_x (by omega) ?_|refine z_y (by omega) ?_|refine z_z (by omega) ?_|refine z_A ?_|refine z_B ?_|refine z_C ?_|refine z_D ?_|refine z_E ?_|refine z_F ?_|refine z_G ?_|refine z_H ?_|refine z_I ?_|refine z_J ?_|refine z_K (by omega) (by decide) ?_|refine z_L (by omega) (by decide) ?_|refine z_M (by omega) ?_|refine z_N (by omega) ?_|refine z_O (by omega) ?_|refine z_P ?_|refine z_Q ?_|refine z_R ?_|refine z_S ?_|refine z_T ?_|refine z_U (by decide) ?_|refine z_V (by decide) ?_)
    exact ⟨by rw [if_neg h, if_neg h1], rfl⟩
theorem or_spec (v : Value) (es : List Int) (w : World) (hv : Rd w v (iV es)) : CallP Tryz.prog 117 #[v] (fun r w' => r = .int .i64 (fstE es) ∧ w' = w) w := by
  obtain ⟨A, c, rfl, hc, hm⟩ := hv.slice
  have hlen : (iV es).length = es.length := List.length_map _
  rw [hlen] at hv ⊢
  refine ⟨S117.calls _ _ _ ?_⟩
  unfold S117
  refine ln undIs ?_
  refine LoopP.inv1 (fun iv w' => ∃ k : Nat, k ≤ es.length ∧ iv = .int .i64 k ∧ fstE es = fstE (es.drop k) ∧ w = w') (fun iv _ => es.length - (intOf iv).toNat) ⟨0, by omega, rfl, rfl, rfl⟩ ?_
  rintro _ _ ⟨k, hk, rfl, hno, rfl⟩ J hJ
  dsimp only [List.headD_cons, List.tail_cons]
  refine bi_lss_c (fun h => ?_) (fun h => ?_)
  · have hk' : k < es.length := by omega
    obtain ⟨a, rfl, hca⟩ := Rd.atI hv k hk'
    rw [List.drop_eq_getElem_cons hk', fstE_cons] at hno
    (repeat with_reducible first|refine z_a ?_|refine z_b ?_|refine z_c ?_|refine z_d ?_|refine z_e ?_|refine z_f ?_|refine z_g ?_|refine z_h ?_|refine z_i ?_|refine z_j ?_|refine z_k ?_|refine z_l ?_|refine z_m (by omega) ?_|refine z_n (by omega) ?_|refine z_o (by omega) ?_|refine z_p (by omega) ?_|refine z_q (by omega) ?_|refine z_r (by omega) ?_|refine z_s (by omega) ?_|refine z_t (by omega) ?_|refine z_u (by omega) ?_|refine z_v (by omega) ?_|refine z_w (by omega) ?_|refine z_x (by omega) ?_|refine z_y (by omega) ?_|refine z_z (by omega) ?_|refine z_A ?_|refine z_B ?_|refine z_C ?_|refine z_D ?_|refine z_E ?_|refine z_F ?_|refine z_G ?_|refine z_H ?_|refine z_I ?_|refine z_J ?_|refine z_K (by omega) (by decide) ?_|refine z_L (by omega) (by decide) ?_|refine z_M (by omega) ?_|refine z_N (by omega) ?_|refine z_O (by omega) ?_|refine z_P ?_|refine z_Q ?_|refine z_R ?_|refine z_S ?_|refine z_T ?_|refine z_U (by decide) ?_|refine z_V (by decide) ?_)
    refine ix1 undIs szI hk' ?_
    refine ld oneI hca ?_
    refine bi_neq_c (fun h1 => ?_) (fun h1 => ?_)
    · (repeat with_reducible first|refine z_a ?_|refine z_b ?_|refine z_c ?_|refine z_d ?_|refine z_e ?_|refine z_f ?_|refine z_g ?_|refine z_h ?_|refine z_i ?_|refine z_j ?_|refine z_k ?_|refine z_l ?_|refine z_m (by omega) ?_|refine z_n (by omega) ?_|refine z_o (by omega) ?_|refine z_p (by omega) ?_|refine z_q (by omega) ?_|refine z_r (by omega) ?_|refine z_s (by omega) ?_|refine z_t (by omega) ?_|refine z_u (by omega) ?_|refine z_v (by omega) ?_|refine z_w (by omega) ?_|refine z_x (by omega) ?_|refine z_y (by omega) ?_|refine z_z (by omega) ?_|refine z_A ?_|refine z_B ?_|refine z_C ?_|refine z_D ?_|refine z_E ?_|refine z_F ?_|refine z_G ?_|refine z_H ?_|refine z_I ?_|refine z_J ?_|refine z_K (by omega) (by decide) ?_|refine z_L (by omega) (by decide) ?_|refine z_M (by omega) ?_|refine z_N (by omega) ?_|refine z_O (by omega) ?_|refine z_P ?_|refine z_Q ?_|refine z_R ?_|refine z_S ?_|refine z_T ?_|refine z_U (by decide) ?_|refine z_V (by decide) ?_)
      exact ⟨by rw [hno, if_pos h1], rfl⟩
    · (repeat with_reducible first|refine z_a ?_|refine z_b ?_|refine z_c ?_|refine z_d ?_|refine z_e ?_|refine z_f ?_|refine z_g ?_|refine z_h ?_|refine z_i ?_|refine z_j ?_|refine z_k ?_|refine z_l ?_|refine z_m (by omega) ?_|refine z_n (by omega) ?_|refine z_o (by omega) ?_|refine z_p (by omega) ?_|refine z_q (by omega) ?_|refine z_r (by omega) ?_|refine z_s (by omega) ?_|refine z_t (by omega) ?_|refine z_u (by omega) ?_|refine z_v (by omega) ?_|refine z_w (by omega) ?_|refine z_x (by omega) ?_|refine z_y (by omega) ?_|refine z_z (by omega) ?_|refine z_A ?_|refine z_B ?_|refine z_C ?_|refine z_D ?_|refine z_E ?_|refine z_F ?_|refine z_G ?_|refine z_H ?_|refine z_I ?_|refine z_J ?_|refine z_K (by omega) (by decide) ?_|refine z_L (by omega) (by decide) ?_|refine z_M (by omega) ?_|refine z_N (by omega) ?_|refine z_O (by omega) ?_|refine z_P ?_|refine z_Q ?_|refine z_R ?_|refine z_S ?_|refine z_T ?_|refine z_U (by decide) ?_|refine z_V (by decide) ?_)
      exact hJ _ _ ⟨k + 1, by omega, by simp, by rw [hno, if_neg (fun e => e h1)], rfl⟩ (by simp [intOf]; omega)
  · (repeat with_reducible first|refine z_a ?_|refine z_b ?_|refine z_c ?_|refine z_d ?_|refine z_e ?_|refine z_f ?_|refine z_g ?_|refine z_h ?_|refine z_i ?_|refine z_j ?_|refine z_k ?_|refine z_l ?_|refine z_m (by omega) ?_|refine z_n (by omega) ?_|refine z_o (by omega) ?_|refine z_p (by omega) ?_|refine z_q (by omega) ?_|refine z_r (by omega) ?_|refine z_s (by omega) ?_|refine z_t (by omega) ?_|refine z_u (by omega) ?_|refine z_v (by omega) ?_|refine z_w (by omega) ?_|refine z_x (by omega) ?_|refine z_y (by omega) ?_|refine z_z (by omega) ?_|refine z_A ?_|refine z_B ?_|refine z_C ?_|refine z_D ?_|refine z_E ?_|refine z_F ?_|refine z_G ?_|refine z_H ?_|refine z_I ?_|refine z_J ?_|refine z_K (by omega) (by decide) ?_|refine z_L (by omega) (by decide) ?_|refine z_M (by omega) ?_|refine z_N (by omega) ?_|refine z_O (by omega) ?_|refine z_P ?_|refine z_Q ?_|refine z_R ?_|refine z_S ?_|refine z_T ?_|refine z_U (by decide) ?_|refine z_V (by decide) ?_)
    exact ⟨by rw [hno, List.drop_eq_nil_of_le (by omega)]; rfl, rfl⟩
theorem bI3 (w : World) (a b c : Int) : (Instr.buildSlice 24 3 #[(0, .int .i64 a), (1, .int .i64 b), (2, .int .i64 c)]).run Tryz.prog w = .ok (.slice (some ⟨w.heap.size, 0, none⟩) 3 3) (w.alloc (.cells #[.int .i64 a, .int .i64 b, .int .i64 c] 3)) := by kernel_rfl
theorem cmp1_spec (x y : ValT) (w : World) : CallP Tryz.prog 116 #[.agg (valF x).toArray, .agg (valF y).toArray] (fun r w' => r = .int .i64 (cmpV x y) ∧ Below w.heap.size w w') w := by
  refine ⟨S116.calls _ _ _ _ ?_⟩
  unfold S116
  refine bxB ?_
  intro g w1 hg hB1 hb1
  refine bxB ?_
  intro g' w2 hg' hB' hb2
  have hB := hB1.below' hb2
  have hb12 := below_then hb1 hb2
  have p0 : ∀ w', Below w2.heap.size w2 w' → w'.cell? ⟨g, 0, none⟩ = some (.int .i64 x.1) := fun w' h => vc0 (hB.below' h)
  have p1 : ∀ w', Below w2.heap.size w2 w' → w'.cell? ⟨g, 1, none⟩ = some (.int .i64 x.2.1) := fun w' h => vc1 (hB.below' h)
  have p2 : ∀ w', Below w2.heap.size w2 w' → w'.cell? ⟨g, 2, none⟩ = some (.string x.2.2.1) := fun w' h => vc2 (hB.below' h)
  have q0 : ∀ w', Below w2.heap.size w2 w' → w'.cell? ⟨g', 0, none⟩ = some (.int .i64 y.1) := fun w' h => vc0 (hB'.below' h)
  have q1 : ∀ w', Below w2.heap.size w2 w' → w'.cell? ⟨g', 1, none⟩ = some (.int .i64 y.2.1) := fun w' h => vc1 (hB'.below' h)
  have q2 : ∀ w', Below w2.heap.size w2 w' → w'.cell? ⟨g', 2, none⟩ = some (.string y.2.2.1) := fun w' h => vc2 (hB'.below' h)
  have hdr : Below w2.heap.size w2 w2.drew := (Below.refl _ _).drew
  refine draw (Below w2.heap.size w2) hdr ?_
  generalize w2.drew = w3 at *
  (repeat with_reducible first | refine yfd v0 (by decide) ?_| refine yl1 one3 p0 ?_| refine yl1 one3 q0 ?_| refine yfd v1 (by decide) ?_| refine yl1 one3 p1 ?_| refine yl1 one3 q1 ?_| refine yfd v2 (by decide) ?_| refine yl1 one9 p2 ?_| refine yl1 one9 q2 ?_|refine z_W ?_|refine z_a ?_|refine z_b ?_|refine z_c ?_|refine z_d ?_|refine z_e ?_|refine z_f ?_|refine z_g ?_|refine z_h ?_|refine z_i ?_|refine z_j ?_|refine z_k ?_|refine z_l ?_|refine z_X (by omega) ?_|refine z_Y (by omega) ?_|refine z_Z (by omega) ?_|refine z_a1 (by omega) ?_|refine z_b1 (by omega) ?_|refine z_c1 (by omega) ?_|refine z_d1 (by omega) ?_|refine z_e1 (by omega) ?_|refine z_f1 (by omega) ?_|refine z_g1 (by omega) ?_|refine z_h1 (by omega) ?_|refine z_i1 (by omega) ?_|refine z_j1 (by omega) ?_|refine z_k1 (by omega) ?_|refine z_l1 ?_|refine z_m1 ?_|refine z_n1 ?_|refine z_o1 ?_|refine z_p1 ?_|refine z_q1 ?_|refine z_r1 ?_|refine z_s1 ?_|refine z_t1 ?_|refine z_u1 ?_|refine z_v1 (by omega) (by decide) ?_|refine z_w1 (by omega) (by decide) ?_|refine z_x1 (by omega) ?_|refine z_y1 (by omega) ?_|refine z_z1 (by omega) ?_|refine z_A1 ?_|refine z_B1 ?_|refine z_C1 ?_|refine z_D1 ?_|refine z_E1 ?_|refine z_F1 (by decide) ?_|refine z_G1 (by decide) ?_)
  refine act ?_
  refine (compareI _ _ w3).mono ?_
  rintro _ w3 ⟨rfl, rfl⟩
  refine ⟨_, hdr, fun _ h => h, ?_⟩
  refine act ?_
  refine (compareI _ _ w3).mono ?_
  rintro _ w3 ⟨rfl, rfl⟩
  refine ⟨_, hdr, fun _ h => h, ?_⟩
  refine act ?_
  refine (compareT _ _ w3).mono ?_
  rintro _ w3 ⟨rfl, rfl⟩
  refine ⟨_, hdr, fun _ h => h, ?_⟩
  refine act ?_
  refine bsO (xs := iV [cI x.1 y.1, cI x.2.1 y.2.1, cT (txt x) (txt y)]) (bI3 w3 _ _ _) rfl (by decide) ?_
  intro v4 w4 ho4 _ hb4
  have hb5 := below_then hdr hb4
  refine ⟨_, hb5, fun _ h => h, ?_⟩
  refine act ?_
  refine (or_spec v4 _ w4 ho4.rd).mono ?_
  rintro _ w4 ⟨rfl, rfl⟩
  refine ⟨_, hb5, fun _ h => h, ?_⟩
  exact ⟨rfl, below_then hb12 hb5⟩
theorem cmp1_call : callable Tryz.prog 116 = true := by kernel_rfl
theorem compareF (v v' : Value) (l m : List ValT) (w : World) (hv : Vals w [v] l) (hv' : Vals w [v'] m) :
    CallP Tryz.prog 115 #[v, v', .func (.func 116) #[] #[]] (fun r w' => r = .int .i64 (cmpR l m) ∧ Below w.heap.size w w') w := by
  obtain ⟨A, c, rfl, hc, hm⟩ := hv.slice
  obtain ⟨A', c', rfl, hc', hm'⟩ := hv'.slice
  refine ⟨S115.calls _ _ _ _ _ ?_⟩
  unfold S115
  refine ln undVs ?_
  refine LoopP.inv1 (fun iv w' => ∃ k : Nat, k ≤ l.length ∧ k ≤ m.length ∧ iv = .int .i64 k ∧ cmpR l m = cmpR (l.drop k) (m.drop k) ∧ Below w.heap.size w w') (fun iv _ => l.length - (intOf iv).toNat) ⟨0, by omega, by omega, rfl, rfl, Below.refl _ _⟩ ?_
  rintro _ w1 ⟨k, hk, hk2, rfl, hno, hb1⟩ J hJ
  dsimp only [List.headD_cons, List.tail_cons]
  refine bi_lss_c (fun h => ?_) (fun h => ?_)
  · have hk' : k < l.length := by omega
    obtain ⟨a, us, rfl, hus, hcell, hrd⟩ := rRow.at (keeps_Vals _ _ _ _ hb1 hv) k hk'
    obtain ⟨rfl, _⟩ := val_cells hrd
    (repeat with_reducible first|refine z_a ?_|refine z_b ?_|refine z_c ?_|refine z_d ?_|refine z_e ?_|refine z_f ?_|refine z_g ?_|refine z_h ?_|refine z_i ?_|refine z_j ?_|refine z_k ?_|refine z_l ?_|refine z_m (by omega) ?_|refine z_n (by omega) ?_|refine z_o (by omega) ?_|refine z_p (by omega) ?_|refine z_q (by omega) ?_|refine z_r (by omega) ?_|refine z_s (by omega) ?_|refine z_t (by omega) ?_|refine z_u (by omega) ?_|refine z_v (by omega) ?_|refine z_w (by omega) ?_|refine z_x (by omega) ?_|refine z_y (by omega) ?_|refine z_z (by omega) ?_|refine z_A ?_|refine z_B ?_|refine z_C ?_|refine z_D ?_|refine z_E ?_|refine z_F ?_|refine z_G ?_|refine z_H ?_|refine z_I ?_|refine z_J ?_|refine z_K (by omega) (by decide) ?_|refine z_L (by omega) (by decide) ?_|refine z_M (by omega) ?_|refine z_N (by omega) ?_|refine z_O (by omega) ?_|refine z_P ?_|refine z_Q ?_|refine z_R ?_|refine z_S ?_|refine z_T ?_|refine z_U (by decide) ?_|refine z_V (by decide) ?_)
    refine ixN undVs szVal k hk' ?_
    refine ldR aggVal hcell (by rw [szVal]; rfl) ?_
    refine cpB zVal (by rw [szVal]; rfl) (by rfl) (valF_all l[k]) ?_
    intro g w2 hg hB hb2
    have hb12 := below_then hb1 hb2
    refine ln undVs ?_
    refine bi_geq_c (fun h1 => ?_) (fun h1 => ?_)
    · (repeat with_reducible first|refine z_a ?_|refine z_b ?_|refine z_c ?_|refine z_d ?_|refine z_e ?_|refine z_f ?_|refine z_g ?_|refine z_h ?_|refine z_i ?_|refine z_j ?_|refine z_k ?_|refine z_l ?_|refine z_m (by omega) ?_|refine z_n (by omega) ?_|refine z_o (by omega) ?_|refine z_p (by omega) ?_|refine z_q (by omega) ?_|refine z_r (by omega) ?_|refine z_s (by omega) ?_|refine z_t (by omega) ?_|refine z_u (by omega) ?_|refine z_v (by omega) ?_|refine z_w (by omega) ?_|refine z_x (by omega) ?_|refine z_y (by omega) ?_|refine z_z (by omega) ?_|refine z_A ?_|refine z_B ?_|refine z_C ?_|refine z_D ?_|refine z_E ?_|refine z_F ?_|refine z_G ?_|refine z_H ?_|refine z_I ?_|refine z_J ?_|refine z_K (by omega) (by decide) ?_|refine z_L (by omega) (by decide) ?_|refine z_M (by omega) ?_|refine z_N (by omega) ?_|refine z_O (by omega) ?_|refine z_P ?_|refine z_Q ?_|refine z_R ?_|refine z_S ?_|refine z_T ?_|refine z_U (by decide) ?_|refine z_V (by decide) ?_)
      refine ⟨?_, hb12⟩
      rw [hno, cmpR_end _ _ _ hk hk2 (.inr (by omega))]
      unfold cI
      rw [if_neg (by omega), if_pos (by omega)]
    have hkm : k < m.length := by omega
    obtain ⟨a', us', rfl, hus', hcell', hrd'⟩ := rRow.at (keeps_Vals _ _ _ _ hb12 hv') k hkm
    obtain ⟨rfl, _⟩ := val_cells hrd'
    (repeat with_reducible first|refine z_a ?_|refine z_b ?_|refine z_c ?_|refine z_d ?_|refine z_e ?_|refine z_f ?_|refine z_g ?_|refine z_h ?_|refine z_i ?_|refine z_j ?_|refine z_k ?_|refine z_l ?_|refine z_m (by omega) ?_|refine z_n (by omega) ?_|refine z_o (by omega) ?_|refine z_p (by omega) ?_|refine z_q (by omega) ?_|refine z_r (by omega) ?_|refine z_s (by omega) ?_|refine z_t (by omega) ?_|refine z_u (by omega) ?_|refine z_v (by omega) ?_|refine z_w (by omega) ?_|refine z_x (by omega) ?_|refine z_y (by omega) ?_|refine z_z (by omega) ?_|refine z_A ?_|refine z_B ?_|refine z_C ?_|refine z_D ?_|refine z_E ?_|refine z_F ?_|refine z_G ?_|refine z_H ?_|refine z_I ?_|refine z_J ?_|refine z_K (by omega) (by decide) ?_|refine z_L (by omega) (by decide) ?_|refine z_M (by omega) ?_|refine z_N (by omega) ?_|refine z_O (by omega) ?_|refine z_P ?_|refine z_Q ?_|refine z_R ?_|refine z_S ?_|refine z_T ?_|refine z_U (by decide) ?_|refine z_V (by decide) ?_)
    refine ixN undVs szVal k hkm ?_
    refine ldR aggVal hcell' (by rw [szVal]; rfl) ?_
    refine cpB zVal (by rw [szVal]; rfl) (by rfl) (valF_all m[k]) ?_
    intro g' w3 hg' hB' hb3
    refine ldA aggVal (hB.below' hb3) (by rw [szVal]; rfl) ?_
    refine ldA aggVal hB' (by rw [szVal]; rfl) ?_
    refine cvl cmp1_call ?_
    refine (cmp1_spec l[k] m[k] w3).mono ?_
    rintro _ w4 ⟨rfl, hb4⟩
    have hb := below_then (below_then hb12 hb3) hb4
    rw [cmpR_drop l m k hk' hkm] at hno
    refine bi_neq_c (fun h2 => ?_) (fun h2 => ?_)
    · (repeat with_reducible first|refine z_a ?_|refine z_b ?_|refine z_c ?_|refine z_d ?_|refine z_e ?_|refine z_f ?_|refine z_g ?_|refine z_h ?_|refine z_i ?_|refine z_j ?_|refine z_k ?_|refine z_l ?_|refine z_m (by omega) ?_|refine z_n (by omega) ?_|refine z_o (by omega) ?_|refine z_p (by omega) ?_|refine z_q (by omega) ?_|refine z_r (by omega) ?_|refine z_s (by omega) ?_|refine z_t (by omega) ?_|refine z_u (by omega) ?_|refine z_v (by omega) ?_|refine z_w (by omega) ?_|refine z_x (by omega) ?_|refine z_y (by omega) ?_|refine z_z (by omega) ?_|refine z_A ?_|refine z_B ?_|refine z_C ?_|refine z_D ?_|refine z_E ?_|refine z_F ?_|refine z_G ?_|refine z_H ?_|refine z_I ?_|refine z_J ?_|refine z_K (by omega) (by decide) ?_|refine z_L (by omega) (by decide) ?_|refine z_M (by omega) ?_|refine z_N (by omega) ?_|refine z_O (by omega) ?_|refine z_P ?_|refine z_Q ?_|refine z_R ?_|refine z_S ?_|refine z_T ?_|refine z_U (by decide) ?_|refine z_V (by decide) ?_)
      exact ⟨by rw [hno, if_pos h2], hb⟩
    · (repeat with_reducible first|refine z_a ?_|refine z_b ?_|refine z_c ?_|refine z_d ?_|refine z_e ?_|refine z_f ?_|refine z_g ?_|refine z_h ?_|refine z_i ?_|refine z_j ?_|refine z_k ?_|refine z_l ?_|refine z_m (by omega) ?_|refine z_n (by omega) ?_|refine z_o (by omega) ?_|refine z_p (by omega) ?_|refine z_q (by omega) ?_|refine z_r (by omega) ?_|refine z_s (by omega) ?_|refine z_t (by omega) ?_|refine z_u (by omega) ?_|refine z_v (by omega) ?_|refine z_w (by omega) ?_|refine z_x (by omega) ?_|refine z_y (by omega) ?_|refine z_z (by omega) ?_|refine z_A ?_|refine z_B ?_|refine z_C ?_|refine z_D ?_|refine z_E ?_|refine z_F ?_|refine z_G ?_|refine z_H ?_|refine z_I ?_|refine z_J ?_|refine z_K (by omega) (by decide) ?_|refine z_L (by omega) (by decide) ?_|refine z_M (by omega) ?_|refine z_N (by omega) ?_|refine z_O (by omega) ?_|refine z_P ?_|refine z_Q ?_|refine z_R ?_|refine z_S ?_|refine z_T ?_|refine z_U (by decide) ?_|refine z_V (by decide) ?_)
      exact hJ _ _ ⟨k + 1, by omega, by omega, by simp, by rw [hno, if_neg (fun e => e h2)], hb⟩ (by simp [intOf]; omega)
  · have hkl : k = l.length := by omega
    have := cmpR_end l m k hk hk2 (.inl hkl)
    (repeat with_reducible first|refine z_a ?_|refine z_b ?_|refine z_c ?_|refine z_d ?_|refine z_e ?_|refine z_f ?_|refine z_g ?_|refine z_h ?_|refine z_i ?_|refine z_j ?_|refine z_k ?_|refine z_l ?_|refine z_m (by omega) ?_|refine z_n (by omega) ?_|refine z_o (by omega) ?_|refine z_p (by omega) ?_|refine z_q (by omega) ?_|refine z_r (by omega) ?_|refine z_s (by omega) ?_|refine z_t (by omega) ?_|refine z_u (by omega) ?_|refine z_v (by omega) ?_|refine z_w (by omega) ?_|refine z_x (by omega) ?_|refine z_y (by omega) ?_|refine z_z (by omega) ?_|refine z_A ?_|refine z_B ?_|refine z_C ?_|refine z_D ?_|refine z_E ?_|refine z_F ?_|refine z_G ?_|refine z_H ?_|refine z_I ?_|refine z_J ?_|refine z_K (by omega) (by decide) ?_|refine z_L (by omega) (by decide) ?_|refine z_M (by omega) ?_|refine z_N (by omega) ?_|refine z_O (by omega) ?_|refine z_P ?_|refine z_Q ?_|refine z_R ?_|refine z_S ?_|refine z_T ?_|refine z_U (by decide) ?_|refine z_V (by decide) ?_)
    refine ln undVs ?_
    refine ln undVs ?_
    unfold cI at this
    refine bi_lss_c (fun h1 => ?_) (fun h1 => ?_)
    · (repeat with_reducible first|refine z_a ?_|refine z_b ?_|refine z_c ?_|refine z_d ?_|refine z_e ?_|refine z_f ?_|refine z_g ?_|refine z_h ?_|refine z_i ?_|refine z_j ?_|refine z_k ?_|refine z_l ?_|refine z_m (by omega) ?_|refine z_n (by omega) ?_|refine z_o (by omega) ?_|refine z_p (by omega) ?_|refine z_q (by omega) ?_|refine z_r (by omega) ?_|refine z_s (by omega) ?_|refine z_t (by omega) ?_|refine z_u (by omega) ?_|refine z_v (by omega) ?_|refine z_w (by omega) ?_|refine z_x (by omega) ?_|refine z_y (by omega) ?_|refine z_z (by omega) ?_|refine z_A ?_|refine z_B ?_|refine z_C ?_|refine z_D ?_|refine z_E ?_|refine z_F ?_|refine z_G ?_|refine z_H ?_|refine z_I ?_|refine z_J ?_|refine z_K (by omega) (by decide) ?_|refine z_L (by omega) (by decide) ?_|refine z_M (by omega) ?_|refine z_N (by omega) ?_|refine z_O (by omega) ?_|refine z_P ?_|refine z_Q ?_|refine z_R ?_|refine z_S ?_|refine z_T ?_|refine z_U (by decide) ?_|refine z_V (by decide) ?_)
      exact ⟨by rw [hno, this, if_pos h1], hb1⟩
    · (repeat with_reducible first|refine z_a ?_|refine z_b ?_|refine z_c ?_|refine z_d ?_|refine z_e ?_|refine z_f ?_|refine z_g ?_|refine z_h ?_|refine z_i ?_|refine z_j ?_|refine z_k ?_|refine z_l ?_|refine z_m (by omega) ?_|refine z_n (by omega) ?_|refine z_o (by omega) ?_|refine z_p (by omega) ?_|refine z_q (by omega) ?_|refine z_r (by omega) ?_|refine z_s (by omega) ?_|refine z_t (by omega) ?_|refine z_u (by omega) ?_|refine z_v (by omega) ?_|refine z_w (by omega) ?_|refine z_x (by omega) ?_|refine z_y (by omega) ?_|refine z_z (by omega) ?_|refine z_A ?_|refine z_B ?_|refine z_C ?_|refine z_D ?_|refine z_E ?_|refine z_F ?_|refine z_G ?_|refine z_H ?_|refine z_I ?_|refine z_J ?_|refine z_K (by omega) (by decide) ?_|refine z_L (by omega) (by decide) ?_|refine z_M (by omega) ?_|refine z_N (by omega) ?_|refine z_O (by omega) ?_|refine z_P ?_|refine z_Q ?_|refine z_R ?_|refine z_S ?_|refine z_T ?_|refine z_U (by decide) ?_|refine z_V (by decide) ?_)
      exact ⟨by rw [hno, this, if_neg h1, if_neg (by omega)], hb1⟩
theorem Compare93 (v v' : Value) (l m : List ValT) (w : World) (hv : Vals w [v] l) (hv' : Vals w [v'] m) :
    CallP Tryz.prog 93 #[v, v'] (fun r w' => r = .int .i64 (compV l m) ∧ Below w.heap.size w w') w := by
  refine ⟨S93.calls _ _ _ _ ?_⟩
  unfold S93
  refine (row_spec _ l w hv).mono ?_
  rintro _ w1 ⟨rfl, hb1⟩
  refine bi_neq_c (fun h0 => ?_) (fun h0 => ?_)
  · (repeat with_reducible first|refine z_a ?_|refine z_b ?_|refine z_c ?_|refine z_d ?_|refine z_e ?_|refine z_f ?_|refine z_g ?_|refine z_h ?_|refine z_i ?_|refine z_j ?_|refine z_k ?_|refine z_l ?_|refine z_m (by omega) ?_|refine z_n (by omega) ?_|refine z_o (by omega) ?_|refine z_p (by omega) ?_|refine z_q (by omega) ?_|refine z_r (by omega) ?_|refine z_s (by omega) ?_|refine z_t (by omega) ?_|refine z_u (by omega) ?_|refine z_v (by omega) ?_|refine z_w (by omega) ?_|refine z_x (by omega) ?_|refine z_y (by omega) ?_|refine z_z (by omega) ?_|refine z_A ?_|refine z_B ?_|refine z_C ?_|refine z_D ?_|refine z_E ?_|refine z_F ?_|refine z_G ?_|refine z_H ?_|refine z_I ?_|refine z_J ?_|refine z_K (by omega) (by decide) ?_|refine z_L (by omega) (by decide) ?_|refine z_M (by omega) ?_|refine z_N (by omega) ?_|refine z_O (by omega) ?_|refine z_P ?_|refine z_Q ?_|refine z_R ?_|refine z_S ?_|refine z_T ?_|refine z_U (by decide) ?_|refine z_V (by decide) ?_)
    exact ⟨by unfold compV; rw [if_pos (.inl h0)], hb1⟩
  (repeat with_reducible first|refine z_a ?_|refine z_b ?_|refine z_c ?_|refine z_d ?_|refine z_e ?_|refine z_f ?_|refine z_g ?_|refine z_h ?_|refine z_i ?_|refine z_j ?_|refine z_k ?_|refine z_l ?_|refine z_m (by omega) ?_|refine z_n (by omega) ?_|refine z_o (by omega) ?_|refine z_p (by omega) ?_|refine z_q (by omega) ?_|refine z_r (by omega) ?_|refine z_s (by omega) ?_|refine z_t (by omega) ?_|refine z_u (by omega) ?_|refine z_v (by omega) ?_|refine z_w (by omega) ?_|refine z_x (by omega) ?_|refine z_y (by omega) ?_|refine z_z (by omega) ?_|refine z_A ?_|refine z_B ?_|refine z_C ?_|refine z_D ?_|refine z_E ?_|refine z_F ?_|refine z_G ?_|refine z_H ?_|refine z_I ?_|refine z_J ?_|refine z_K (by omega) (by decide) ?_|refine z_L (by omega) (by decide) ?_|refine z_M (by omega) ?_|refine z_N (by omega) ?_|refine z_O (by omega) ?_|refine z_P ?_|refine z_Q ?_|refine z_R ?_|refine z_S ?_|refine z_T ?_|refine z_U (by decide) ?_|refine z_V (by decide) ?_)
  refine (row_spec _ m w1 (keeps_Vals _ _ _ _ hb1 hv')).mono ?_
  rintro _ w2 ⟨rfl, hb2⟩
  have hb12 := below_then hb1 hb2
  (repeat with_reducible first|refine z_a ?_|refine z_b ?_|refine z_c ?_|refine z_d ?_|refine z_e ?_|refine z_f ?_|refine z_g ?_|refine z_h ?_|refine z_i ?_|refine z_j ?_|refine z_k ?_|refine z_l ?_|refine z_m (by omega) ?_|refine z_n (by omega) ?_|refine z_o (by omega) ?_|refine z_p (by omega) ?_|refine z_q (by omega) ?_|refine z_r (by omega) ?_|refine z_s (by omega) ?_|refine z_t (by omega) ?_|refine z_u (by omega) ?_|refine z_v (by omega) ?_|refine z_w (by omega) ?_|refine z_x (by omega) ?_|refine z_y (by omega) ?_|refine z_z (by omega) ?_|refine z_A ?_|refine z_B ?_|refine z_C ?_|refine z_D ?_|refine z_E ?_|refine z_F ?_|refine z_G ?_|refine z_H ?_|refine z_I ?_|refine z_J ?_|refine z_K (by omega) (by decide) ?_|refine z_L (by omega) (by decide) ?_|refine z_M (by omega) ?_|refine z_N (by omega) ?_|refine z_O (by omega) ?_|refine z_P ?_|refine z_Q ?_|refine z_R ?_|refine z_S ?_|refine z_T ?_|refine z_U (by decide) ?_|refine z_V (by decide) ?_)
  refine bi_neq_c (fun h1 => ?_) (fun h1 => ?_)
  · (repeat with_reducible first|refine z_a ?_|refine z_b ?_|refine z_c ?_|refine z_d ?_|refine z_e ?_|refine z_f ?_|refine z_g ?_|refine z_h ?_|refine z_i ?_|refine z_j ?_|refine z_k ?_|refine z_l ?_|refine z_m (by omega) ?_|refine z_n (by omega) ?_|refine z_o (by omega) ?_|refine z_p (by omega) ?_|refine z_q (by omega) ?_|refine z_r (by omega) ?_|refine z_s (by omega) ?_|refine z_t (by omega) ?_|refine z_u (by omega) ?_|refine z_v (by omega) ?_|refine z_w (by omega) ?_|refine z_x (by omega) ?_|refine z_y (by omega) ?_|refine z_z (by omega) ?_|refine z_A ?_|refine z_B ?_|refine z_C ?_|refine z_D ?_|refine z_E ?_|refine z_F ?_|refine z_G ?_|refine z_H ?_|refine z_I ?_|refine z_J ?_|refine z_K (by omega) (by decide) ?_|refine z_L (by omega) (by decide) ?_|refine z_M (by omega) ?_|refine z_N (by omega) ?_|refine z_O (by omega) ?_|refine z_P ?_|refine z_Q ?_|refine z_R ?_|refine z_S ?_|refine z_T ?_|refine z_U (by decide) ?_|refine z_V (by decide) ?_)
    exact ⟨by unfold compV; rw [if_pos (.inr h1)], hb12⟩
  (repeat with_reducible first|refine z_a ?_|refine z_b ?_|refine z_c ?_|refine z_d ?_|refine z_e ?_|refine z_f ?_|refine z_g ?_|refine z_h ?_|refine z_i ?_|refine z_j ?_|refine z_k ?_|refine z_l ?_|refine z_m (by omega) ?_|refine z_n (by omega) ?_|refine z_o (by omega) ?_|refine z_p (by omega) ?_|refine z_q (by omega) ?_|refine z_r (by omega) ?_|refine z_s (by omega) ?_|refine z_t (by omega) ?_|refine z_u (by omega) ?_|refine z_v (by omega) ?_|refine z_w (by omega) ?_|refine z_x (by omega) ?_|refine z_y (by omega) ?_|refine z_z (by omega) ?_|refine z_A ?_|refine z_B ?_|refine z_C ?_|refine z_D ?_|refine z_E ?_|refine z_F ?_|refine z_G ?_|refine z_H ?_|refine z_I ?_|refine z_J ?_|refine z_K (by omega) (by decide) ?_|refine z_L (by omega) (by decide) ?_|refine z_M (by omega) ?_|refine z_N (by omega) ?_|refine z_O (by omega) ?_|refine z_P ?_|refine z_Q ?_|refine z_R ?_|refine z_S ?_|refine z_T ?_|refine z_U (by decide) ?_|refine z_V (by decide) ?_)
  refine (compareF _ _ l m w2 (keeps_Vals _ _ _ _ hb12 hv) (keeps_Vals _ _ _ _ hb12 hv')).mono ?_
  rintro _ w3 ⟨rfl, hb3⟩
  exact ⟨by unfold compV; rw [if_neg (by omega)], below_then hb12 hb3⟩
end Go.Proofs.YtonblppkidpmlaaGreatDoor.E
namespace Go.Proofs.YtonblppkidpmlaaGreatDoor.E
open Go Go.RowKit
set_option linter.unusedSimpArgs false
set_option linter.unusedVariables false

theorem rRow.cutTo {α : Type} {s : Nat} {r : Rdr α} {w : World} {A : Option Addr} {n c : Nat} {l : List α} (h : rRow s r w [.slice A n c] l) (k : Nat) (hk : k ≤ l.length) : rRow s r w [sliced A 0 k c s] (l.take k) := by
  obtain ⟨A', c', he, hc, hm, h3⟩ := h
  simp only [List.cons.injEq, Value.slice.injEq, and_true] at he
  obtain ⟨rfl, rfl, rfl⟩ := he
  have hl : (l.take k).length = k := by rw [List.length_take]; omega
  refine ⟨if 0 = c then A else A.map fun a => a.add (0 * s), c, ?_, by rw [hl]; omega, hm, fun i x hx => ?_⟩
  · rw [hl]; simp [sliced, eq_comm]
  have hi : i < k := by
    have := (List.getElem?_eq_some_iff.1 hx).1
    omega
  rw [List.getElem?_take, if_pos hi] at hx
  obtain ⟨a, us, rfl, hus, hcell, hr⟩ := h3 i x hx
  refine ⟨a, us, ?_, hus, hcell, hr⟩
  split <;> simp [Addr.add]
section
variable {P : Program} {K : Value → World → Prop} {w : World}
/-- x[:k] of a row that is read. -/
theorem ctTo {α : Type} {s : Nat} {r : Rdr α} {t e : TypeId} (ht : P.underlying t = some (.slice e)) (hs : (P.info? e).map (·.size) = some s) {A : Option Addr} {n c k : Nat} {kd : IntKind} {l : List α} (hr : rRow s r w [.slice A n c] l) (hk : k ≤ l.length) {i : Int} (hi : i = (k : Int))
    (kk : ∀ v', rRow s r w [v'] (l.take k) → K v' w) : LiftP P (Instr.sliceAt t (.slice A n c) none (some (.int kd i)) none) K w := by
  subst hi
  have hr' := hr
  obtain ⟨A', c', he, hc, _, _⟩ := hr'
  simp only [List.cons.injEq, Value.slice.injEq, and_true] at he
  obtain ⟨rfl, rfl, rfl⟩ := he
  exact ofPR (pr_cut ht hs .no (.at kd k) .no (Nat.zero_le _) (by simp) (by omega) (Nat.le_refl _) (.inl rfl)) (kk _ (hr.cutTo k hk))
end
end Go.Proofs.YtonblppkidpmlaaGreatDoor.E
