import Derived.Test.YtonblppkidpmlaaGreatDoorMr
namespace Go.Proofs.YtonblppkidpmlaaGreatDoor.E
open Go Go.RowKit
set_option linter.unusedSimpArgs false
set_option linter.unusedVariables false

def oQ (id : Int) (low high : List ValT) : OpP := ⟨6, eB, eB, [], [], id, [], low, high, 64, 0, 0⟩
def sQ (vl vh : Value) : OpS := ⟨.slice none 0 0, .slice none 0 0, .slice none 0 0, vl, vh⟩
theorem oQ_at {w : World} {id : Int} (hid : -9223372036854775808 ≤ id ∧ id ≤ 9223372036854775807) {low high : List ValT} {vl vh : Value} (hl : Vals w [vl] low) (hh : Vals w [vh] high) : OpAt w (oQ id low high) (sQ vl vh) :=
  ⟨vals_nil _, vals_nil _, ints_nil _, hl, hh, by dsimp only [oQ]; omega, ⟨by show eB.size ≤ maxLen; decide, by show eB.size ≤ maxLen; decide⟩⟩
theorem query_ok {S : StT} {n : Nat} (hok : StOk n S) (hn : n ≤ 60) (id : Int) (low high : List ValT) :
    (doS S (oQ id low high)).1 = S ∧ ((doS S (oQ id low high)).2.code ≠ 0 → (doS S (oQ id low high)).2.rows = []) ∧
      ((doS S (oQ id low high)).2.code = 0 → ∃ fs, fieldsOf S.X id = some fs ∧ (doS S (oQ id low high)).2.rows = (areaV S.R id fs low high).map fun e => rowOf S.R e.2) := by
  by_cases h : chk (oQ id low high) = 0
  · have hd : doS S (oQ id low high) = match fieldsOf S.X id with
        | none => (S, { rep0 with code := 7 })
        | some fs => (S, { rep0 with rows := ((areaV S.R id fs low high).take 64).map fun e : En => rowOf S.R e.2 }) := by
      unfold doS
      simp only [h, ne_eq, not_true_eq_false, ↓reduceIte]
      rw [if_neg (show ¬ (oQ id low high).kind = 1 by show ¬ (6 : Int) = 1; decide), if_neg (show ¬ (oQ id low high).kind = 2 by show ¬ (6 : Int) = 2; decide), if_neg (show ¬ (oQ id low high).kind = 3 by show ¬ (6 : Int) = 3; decide), if_neg (show ¬ (oQ id low high).kind = 4 by show ¬ (6 : Int) = 4; decide), if_neg (show ¬ (oQ id low high).kind = 5 by show ¬ (6 : Int) = 5; decide), if_pos (show (oQ id low high).kind = 6 from rfl)]
      rfl
    rw [hd]
    cases hf : fieldsOf S.X id with
    | none => exact ⟨rfl, fun _ => rfl, fun h => absurd h (show ¬ (7 : Int) = 0 by decide)⟩
    | some fs =>
      refine ⟨rfl, fun h => absurd rfl h, fun _ => ⟨fs, rfl, ?_⟩⟩
      have hl : (areaV S.R id fs low high).length ≤ 64 := by
        rw [(areaV_perm _ _ _ _ _).length_eq]
        have := List.length_filterMap_le (entOf id fs low high) S.R
        have := hok.many
        omega
      show ((areaV S.R id fs low high).take 64).map _ = _
      rw [List.take_of_length_le hl]
  · have hd : doS S (oQ id low high) = (S, { rep0 with code := chk (oQ id low high) }) := by
      unfold doS
      simp only [h, ne_eq, not_false_eq_true, ↓reduceIte]
    rw [hd]
    exact ⟨rfl, fun _ => rfl, fun h' => absurd h' h⟩
theorem filter_step {α : Type} {p : α → Bool} {l : List α} {k : Nat} (hk : k < l.length) : ((l.take (k + 1)).filter p).length = ((l.take k).filter p).length + (if p l[k] = true then 1 else 0) := by
  rw [List.take_succ_eq_append_getElem hk, List.filter_append, List.length_append, List.filter_cons]
  split <;> rfl
theorem hitV_no {id : Int} {low high : List ValT} {p : Txt × List ValT} {x : Int × List Int} (h : x.1 ≠ id) : hitV id low high p x = false := by
  unfold hitV
  rw [decide_eq_false h]; rfl
theorem hitV_none {id : Int} {low high : List ValT} {p : Txt × List ValT} {x : Int × List Int} (h : showV x.1 x.2 p.2 = none) : hitV id low high p x = false := by
  unfold hitV
  rw [h]; simp
theorem hitV_some {id : Int} {low high : List ValT} {p : Txt × List ValT} {x : Int × List Int} {key : List ValT} (h : x.1 = id) (h' : showV x.1 x.2 p.2 = some key) : hitV id low high p x = liesV key low high := by
  unfold hitV
  rw [h', decide_eq_true h]; simp
set_option maxHeartbeats 4000000 in
theorem PlainQueries6 (v vl vh : Value) (l : List OpT) (id : Int) (low high : List ValT) (w : World) (hv : Ops w [v] l) (hid : (Lit.int .i64 id).wf = true) (hlo : Vals w [vl] low) (hhi : Vals w [vh] high) (hm : GMx w) :
    CallP Tryz.prog 6 #[v, .int .i64 id, vl, vh] (fun r w' => r = .bool true ∧ Below w.heap.size w w') w := by
  have hid' := wf_64 hid
  refine ⟨S6.calls _ _ _ _ _ _ ?_⟩
  unfold S6
  refine (awake9 w hm).mono ?_
  rintro _ wa ⟨rfl, hba⟩
  (repeat with_reducible first|refine z_a ?_|refine z_b ?_|refine z_c ?_|refine z_d ?_|refine z_e ?_|refine z_f ?_|refine z_g ?_|refine z_h ?_|refine z_i ?_|refine z_j ?_|refine z_k ?_|refine z_l ?_|refine z_m (by omega) ?_|refine z_n (by omega) ?_|refine z_o (by omega) ?_|refine z_p (by omega) ?_|refine z_q (by omega) ?_|refine z_r (by omega) ?_|refine z_s (by omega) ?_|refine z_t (by omega) ?_|refine z_u (by omega) ?_|refine z_v (by omega) ?_|refine z_w (by omega) ?_|refine z_x (by omega) ?_|refine z_y (by omega) ?_|refine z_z (by omega) ?_|refine z_A ?_|refine z_B ?_|refine z_C ?_|refine z_D ?_|refine z_E ?_|refine z_F ?_|refine z_G ?_|refine z_H ?_|refine z_I ?_|refine z_J ?_|refine z_K (by omega) (by decide) ?_|refine z_L (by omega) (by decide) ?_|refine z_M (by omega) ?_|refine z_N (by omega) ?_|refine z_O (by omega) ?_|refine z_P ?_|refine z_Q ?_|refine z_R ?_|refine z_S ?_|refine z_T ?_|refine z_U (by decide) ?_|refine z_V (by decide) ?_)
  simp only [Bool.not_true]
  (repeat with_reducible first|refine z_a ?_|refine z_b ?_|refine z_c ?_|refine z_d ?_|refine z_e ?_|refine z_f ?_|refine z_g ?_|refine z_h ?_|refine z_i ?_|refine z_j ?_|refine z_k ?_|refine z_l ?_|refine z_m (by omega) ?_|refine z_n (by omega) ?_|refine z_o (by omega) ?_|refine z_p (by omega) ?_|refine z_q (by omega) ?_|refine z_r (by omega) ?_|refine z_s (by omega) ?_|refine z_t (by omega) ?_|refine z_u (by omega) ?_|refine z_v (by omega) ?_|refine z_w (by omega) ?_|refine z_x (by omega) ?_|refine z_y (by omega) ?_|refine z_z (by omega) ?_|refine z_A ?_|refine z_B ?_|refine z_C ?_|refine z_D ?_|refine z_E ?_|refine z_F ?_|refine z_G ?_|refine z_H ?_|refine z_I ?_|refine z_J ?_|refine z_K (by omega) (by decide) ?_|refine z_L (by omega) (by decide) ?_|refine z_M (by omega) ?_|refine z_N (by omega) ?_|refine z_O (by omega) ?_|refine z_P ?_|refine z_Q ?_|refine z_R ?_|refine z_S ?_|refine z_T ?_|refine z_U (by decide) ?_|refine z_V (by decide) ?_)
  refine (AllLight13 v l 60 (by decide) wa (keeps_Ops _ _ _ _ hba hv)).mono ?_
  rintro _ wb ⟨b, rfl, hlt, hbb⟩
  have hb1 := below_then hba hbb
  refine bi_not ?_
  cases b with
  | false =>
    simp only [Bool.not_false]
    (repeat with_reducible first|refine z_a ?_|refine z_b ?_|refine z_c ?_|refine z_d ?_|refine z_e ?_|refine z_f ?_|refine z_g ?_|refine z_h ?_|refine z_i ?_|refine z_j ?_|refine z_k ?_|refine z_l ?_|refine z_m (by omega) ?_|refine z_n (by omega) ?_|refine z_o (by omega) ?_|refine z_p (by omega) ?_|refine z_q (by omega) ?_|refine z_r (by omega) ?_|refine z_s (by omega) ?_|refine z_t (by omega) ?_|refine z_u (by omega) ?_|refine z_v (by omega) ?_|refine z_w (by omega) ?_|refine z_x (by omega) ?_|refine z_y (by omega) ?_|refine z_z (by omega) ?_|refine z_A ?_|refine z_B ?_|refine z_C ?_|refine z_D ?_|refine z_E ?_|refine z_F ?_|refine z_G ?_|refine z_H ?_|refine z_I ?_|refine z_J ?_|refine z_K (by omega) (by decide) ?_|refine z_L (by omega) (by decide) ?_|refine z_M (by omega) ?_|refine z_N (by omega) ?_|refine z_O (by omega) ?_|refine z_P ?_|refine z_Q ?_|refine z_R ?_|refine z_S ?_|refine z_T ?_|refine z_U (by decide) ?_|refine z_V (by decide) ?_)
    exact ⟨by first | rfl | trivial, hb1⟩
  | true =>
  have hl := (hlt rfl).1
  simp only [Bool.not_true]
  (repeat with_reducible first|refine z_a ?_|refine z_b ?_|refine z_c ?_|refine z_d ?_|refine z_e ?_|refine z_f ?_|refine z_g ?_|refine z_h ?_|refine z_i ?_|refine z_j ?_|refine z_k ?_|refine z_l ?_|refine z_m (by omega) ?_|refine z_n (by omega) ?_|refine z_o (by omega) ?_|refine z_p (by omega) ?_|refine z_q (by omega) ?_|refine z_r (by omega) ?_|refine z_s (by omega) ?_|refine z_t (by omega) ?_|refine z_u (by omega) ?_|refine z_v (by omega) ?_|refine z_w (by omega) ?_|refine z_x (by omega) ?_|refine z_y (by omega) ?_|refine z_z (by omega) ?_|refine z_A ?_|refine z_B ?_|refine z_C ?_|refine z_D ?_|refine z_E ?_|refine z_F ?_|refine z_G ?_|refine z_H ?_|refine z_I ?_|refine z_J ?_|refine z_K (by omega) (by decide) ?_|refine z_L (by omega) (by decide) ?_|refine z_M (by omega) ?_|refine z_N (by omega) ?_|refine z_O (by omega) ?_|refine z_P ?_|refine z_Q ?_|refine z_R ?_|refine z_S ?_|refine z_T ?_|refine z_U (by decide) ?_|refine z_V (by decide) ?_)
  refine (Light19 _ _ 300 (by decide) wb (keeps_Vals _ _ _ _ hb1 hlo)).mono ?_
  rintro _ wc ⟨b, rfl, _, hbc⟩
  have hb2 := below_then hb1 hbc
  (repeat with_reducible first|refine z_a ?_|refine z_b ?_|refine z_c ?_|refine z_d ?_|refine z_e ?_|refine z_f ?_|refine z_g ?_|refine z_h ?_|refine z_i ?_|refine z_j ?_|refine z_k ?_|refine z_l ?_|refine z_m (by omega) ?_|refine z_n (by omega) ?_|refine z_o (by omega) ?_|refine z_p (by omega) ?_|refine z_q (by omega) ?_|refine z_r (by omega) ?_|refine z_s (by omega) ?_|refine z_t (by omega) ?_|refine z_u (by omega) ?_|refine z_v (by omega) ?_|refine z_w (by omega) ?_|refine z_x (by omega) ?_|refine z_y (by omega) ?_|refine z_z (by omega) ?_|refine z_A ?_|refine z_B ?_|refine z_C ?_|refine z_D ?_|refine z_E ?_|refine z_F ?_|refine z_G ?_|refine z_H ?_|refine z_I ?_|refine z_J ?_|refine z_K (by omega) (by decide) ?_|refine z_L (by omega) (by decide) ?_|refine z_M (by omega) ?_|refine z_N (by omega) ?_|refine z_O (by omega) ?_|refine z_P ?_|refine z_Q ?_|refine z_R ?_|refine z_S ?_|refine z_T ?_|refine z_U (by decide) ?_|refine z_V (by decide) ?_)
  cases b with
  | false =>
    simp only [Bool.not_false]
    (repeat with_reducible first|refine z_a ?_|refine z_b ?_|refine z_c ?_|refine z_d ?_|refine z_e ?_|refine z_f ?_|refine z_g ?_|refine z_h ?_|refine z_i ?_|refine z_j ?_|refine z_k ?_|refine z_l ?_|refine z_m (by omega) ?_|refine z_n (by omega) ?_|refine z_o (by omega) ?_|refine z_p (by omega) ?_|refine z_q (by omega) ?_|refine z_r (by omega) ?_|refine z_s (by omega) ?_|refine z_t (by omega) ?_|refine z_u (by omega) ?_|refine z_v (by omega) ?_|refine z_w (by omega) ?_|refine z_x (by omega) ?_|refine z_y (by omega) ?_|refine z_z (by omega) ?_|refine z_A ?_|refine z_B ?_|refine z_C ?_|refine z_D ?_|refine z_E ?_|refine z_F ?_|refine z_G ?_|refine z_H ?_|refine z_I ?_|refine z_J ?_|refine z_K (by omega) (by decide) ?_|refine z_L (by omega) (by decide) ?_|refine z_M (by omega) ?_|refine z_N (by omega) ?_|refine z_O (by omega) ?_|refine z_P ?_|refine z_Q ?_|refine z_R ?_|refine z_S ?_|refine z_T ?_|refine z_U (by decide) ?_|refine z_V (by decide) ?_)
    exact ⟨by first | rfl | trivial, hb2⟩
  | true =>
  simp only [Bool.not_true]
  (repeat with_reducible first|refine z_a ?_|refine z_b ?_|refine z_c ?_|refine z_d ?_|refine z_e ?_|refine z_f ?_|refine z_g ?_|refine z_h ?_|refine z_i ?_|refine z_j ?_|refine z_k ?_|refine z_l ?_|refine z_m (by omega) ?_|refine z_n (by omega) ?_|refine z_o (by omega) ?_|refine z_p (by omega) ?_|refine z_q (by omega) ?_|refine z_r (by omega) ?_|refine z_s (by omega) ?_|refine z_t (by omega) ?_|refine z_u (by omega) ?_|refine z_v (by omega) ?_|refine z_w (by omega) ?_|refine z_x (by omega) ?_|refine z_y (by omega) ?_|refine z_z (by omega) ?_|refine z_A ?_|refine z_B ?_|refine z_C ?_|refine z_D ?_|refine z_E ?_|refine z_F ?_|refine z_G ?_|refine z_H ?_|refine z_I ?_|refine z_J ?_|refine z_K (by omega) (by decide) ?_|refine z_L (by omega) (by decide) ?_|refine z_M (by omega) ?_|refine z_N (by omega) ?_|refine z_O (by omega) ?_|refine z_P ?_|refine z_Q ?_|refine z_R ?_|refine z_S ?_|refine z_T ?_|refine z_U (by decide) ?_|refine z_V (by decide) ?_)
  refine (Light19 _ _ 300 (by decide) wc (keeps_Vals _ _ _ _ hb2 hhi)).mono ?_
  rintro _ wd ⟨b, rfl, _, hbd⟩
  have hb3 := below_then hb2 hbd
  (repeat with_reducible first|refine z_a ?_|refine z_b ?_|refine z_c ?_|refine z_d ?_|refine z_e ?_|refine z_f ?_|refine z_g ?_|refine z_h ?_|refine z_i ?_|refine z_j ?_|refine z_k ?_|refine z_l ?_|refine z_m (by omega) ?_|refine z_n (by omega) ?_|refine z_o (by omega) ?_|refine z_p (by omega) ?_|refine z_q (by omega) ?_|refine z_r (by omega) ?_|refine z_s (by omega) ?_|refine z_t (by omega) ?_|refine z_u (by omega) ?_|refine z_v (by omega) ?_|refine z_w (by omega) ?_|refine z_x (by omega) ?_|refine z_y (by omega) ?_|refine z_z (by omega) ?_|refine z_A ?_|refine z_B ?_|refine z_C ?_|refine z_D ?_|refine z_E ?_|refine z_F ?_|refine z_G ?_|refine z_H ?_|refine z_I ?_|refine z_J ?_|refine z_K (by omega) (by decide) ?_|refine z_L (by omega) (by decide) ?_|refine z_M (by omega) ?_|refine z_N (by omega) ?_|refine z_O (by omega) ?_|refine z_P ?_|refine z_Q ?_|refine z_R ?_|refine z_S ?_|refine z_T ?_|refine z_U (by decide) ?_|refine z_V (by decide) ?_)
  cases b with
  | false =>
    simp only [Bool.not_false]
    (repeat with_reducible first|refine z_a ?_|refine z_b ?_|refine z_c ?_|refine z_d ?_|refine z_e ?_|refine z_f ?_|refine z_g ?_|refine z_h ?_|refine z_i ?_|refine z_j ?_|refine z_k ?_|refine z_l ?_|refine z_m (by omega) ?_|refine z_n (by omega) ?_|refine z_o (by omega) ?_|refine z_p (by omega) ?_|refine z_q (by omega) ?_|refine z_r (by omega) ?_|refine z_s (by omega) ?_|refine z_t (by omega) ?_|refine z_u (by omega) ?_|refine z_v (by omega) ?_|refine z_w (by omega) ?_|refine z_x (by omega) ?_|refine z_y (by omega) ?_|refine z_z (by omega) ?_|refine z_A ?_|refine z_B ?_|refine z_C ?_|refine z_D ?_|refine z_E ?_|refine z_F ?_|refine z_G ?_|refine z_H ?_|refine z_I ?_|refine z_J ?_|refine z_K (by omega) (by decide) ?_|refine z_L (by omega) (by decide) ?_|refine z_M (by omega) ?_|refine z_N (by omega) ?_|refine z_O (by omega) ?_|refine z_P ?_|refine z_Q ?_|refine z_R ?_|refine z_S ?_|refine z_T ?_|refine z_U (by decide) ?_|refine z_V (by decide) ?_)
    exact ⟨by first | rfl | trivial, hb3⟩
  | true =>
  simp only [Bool.not_true]
  (repeat with_reducible first|refine z_a ?_|refine z_b ?_|refine z_c ?_|refine z_d ?_|refine z_e ?_|refine z_f ?_|refine z_g ?_|refine z_h ?_|refine z_i ?_|refine z_j ?_|refine z_k ?_|refine z_l ?_|refine z_m (by omega) ?_|refine z_n (by omega) ?_|refine z_o (by omega) ?_|refine z_p (by omega) ?_|refine z_q (by omega) ?_|refine z_r (by omega) ?_|refine z_s (by omega) ?_|refine z_t (by omega) ?_|refine z_u (by omega) ?_|refine z_v (by omega) ?_|refine z_w (by omega) ?_|refine z_x (by omega) ?_|refine z_y (by omega) ?_|refine z_z (by omega) ?_|refine z_A ?_|refine z_B ?_|refine z_C ?_|refine z_D ?_|refine z_E ?_|refine z_F ?_|refine z_G ?_|refine z_H ?_|refine z_I ?_|refine z_J ?_|refine z_K (by omega) (by decide) ?_|refine z_L (by omega) (by decide) ?_|refine z_M (by omega) ?_|refine z_N (by omega) ?_|refine z_O (by omega) ?_|refine z_P ?_|refine z_Q ?_|refine z_R ?_|refine z_S ?_|refine z_T ?_|refine z_U (by decide) ?_|refine z_V (by decide) ?_)
  refine (new_mem wd).mono ?_
  rintro _ we ⟨g, rfl, hM⟩
  have hM := hM.old hb3
  refine opsLoop hv (by omega) hM hm ?_
  intro w1 hM1 hok
  generalize doAll st0 l = S at *
  have hl' : l.length ≤ 60 := by omega
  generalize l.length = n at *
  have hmany := hok.many
  obtain ⟨q1, q2, q3⟩ := query_ok hok hl' id low high
  obtain ⟨Al, cl, rfl, _⟩ := hlo.slice
  obtain ⟨Ah, ch, rfl, _⟩ := hhi.slice
  refine bd (cells := opC (oQ id low high) (sQ (.slice Al low.length cl) (.slice Ah high.length ch))) (by kernel_rfl) ?_
  refine (do_mem hM1 (by simp) hok (by omega) (oQ_at hid' (keeps_Vals _ _ _ _ hM1.bel hlo) (keeps_Vals _ _ _ _ hM1.bel hhi)) (hm.below hM1.bel)).mono ?_
  intro r2 w2 hM2
  rw [q1] at hM2
  generalize (doS S (oQ id low high)).2 = pq at *
  obtain ⟨c2, hR2⟩ := hM2.rep (r := r2) (p := pq) (by simp)
  obtain ⟨vr2, vw2, M2, rfl, _, _, _, hone2⟩ := hR2.cells
  refine cpB zRep (by rw [szRep]; rfl) (by rfl) hone2 ?_
  intro gQ w3 hgQ hBQ hb3'
  have hM3 := hM2.below hb3'
  have hRq := hM3.repAt (p := pq) (r := .agg #[.int .i64 pq.code, .bool pq.there, vr2, vw2, .int .i64 pq.id]) (by simp)
  obtain ⟨vr', vw', Mq, e, _, hqa, hqr⟩ := hRq
  cases e
  have hb03 := hM3.bel
  have hr3 := Below.refl w3.heap.size w3
  have c0 : w3.cell? ⟨gQ, 0, none⟩ = some (.int .i64 pq.code) := hBQ.cell 0
  have c3 : w3.cell? ⟨gQ, 3, none⟩ = some vw2 := hBQ.cell 3
  obtain ⟨Aq, cq, hvq, hcq, hcqm⟩ := hqa.row.slice
  (repeat with_reducible first | refine fd rp0 (by decide) ?_| refine ld oneE c0 ?_|refine z_a ?_|refine z_b ?_|refine z_c ?_|refine z_d ?_|refine z_e ?_|refine z_f ?_|refine z_g ?_|refine z_h ?_|refine z_i ?_|refine z_j ?_|refine z_k ?_|refine z_l ?_|refine z_m (by omega) ?_|refine z_n (by omega) ?_|refine z_o (by omega) ?_|refine z_p (by omega) ?_|refine z_q (by omega) ?_|refine z_r (by omega) ?_|refine z_s (by omega) ?_|refine z_t (by omega) ?_|refine z_u (by omega) ?_|refine z_v (by omega) ?_|refine z_w (by omega) ?_|refine z_x (by omega) ?_|refine z_y (by omega) ?_|refine z_z (by omega) ?_|refine z_A ?_|refine z_B ?_|refine z_C ?_|refine z_D ?_|refine z_E ?_|refine z_F ?_|refine z_G ?_|refine z_H ?_|refine z_I ?_|refine z_J ?_|refine z_K (by omega) (by decide) ?_|refine z_L (by omega) (by decide) ?_|refine z_M (by omega) ?_|refine z_N (by omega) ?_|refine z_O (by omega) ?_|refine z_P ?_|refine z_Q ?_|refine z_R ?_|refine z_S ?_|refine z_T ?_|refine z_U (by decide) ?_|refine z_V (by decide) ?_)
  refine bi_neq_c (fun h0 => ?_) (fun h0 => ?_)
  · have hrows := q2 h0
    have hq0 : Mq.length = 0 := by
      have := congrArg List.length hqr
      rw [hrows, List.length_map] at this
      exact this
    rw [hvq, hq0] at c3
    (repeat with_reducible first | refine fd rp3 (by decide) ?_| refine ld oneRows c3 ?_|refine z_a ?_|refine z_b ?_|refine z_c ?_|refine z_d ?_|refine z_e ?_|refine z_f ?_|refine z_g ?_|refine z_h ?_|refine z_i ?_|refine z_j ?_|refine z_k ?_|refine z_l ?_|refine z_m (by omega) ?_|refine z_n (by omega) ?_|refine z_o (by omega) ?_|refine z_p (by omega) ?_|refine z_q (by omega) ?_|refine z_r (by omega) ?_|refine z_s (by omega) ?_|refine z_t (by omega) ?_|refine z_u (by omega) ?_|refine z_v (by omega) ?_|refine z_w (by omega) ?_|refine z_x (by omega) ?_|refine z_y (by omega) ?_|refine z_z (by omega) ?_|refine z_A ?_|refine z_B ?_|refine z_C ?_|refine z_D ?_|refine z_E ?_|refine z_F ?_|refine z_G ?_|refine z_H ?_|refine z_I ?_|refine z_J ?_|refine z_K (by omega) (by decide) ?_|refine z_L (by omega) (by decide) ?_|refine z_M (by omega) ?_|refine z_N (by omega) ?_|refine z_O (by omega) ?_|refine z_P ?_|refine z_Q ?_|refine z_R ?_|refine z_S ?_|refine z_T ?_|refine z_U (by decide) ?_|refine z_V (by decide) ?_)
    refine ln undRw ?_
    (repeat with_reducible first|refine z_a ?_|refine z_b ?_|refine z_c ?_|refine z_d ?_|refine z_e ?_|refine z_f ?_|refine z_g ?_|refine z_h ?_|refine z_i ?_|refine z_j ?_|refine z_k ?_|refine z_l ?_|refine z_m (by omega) ?_|refine z_n (by omega) ?_|refine z_o (by omega) ?_|refine z_p (by omega) ?_|refine z_q (by omega) ?_|refine z_r (by omega) ?_|refine z_s (by omega) ?_|refine z_t (by omega) ?_|refine z_u (by omega) ?_|refine z_v (by omega) ?_|refine z_w (by omega) ?_|refine z_x (by omega) ?_|refine z_y (by omega) ?_|refine z_z (by omega) ?_|refine z_A ?_|refine z_B ?_|refine z_C ?_|refine z_D ?_|refine z_E ?_|refine z_F ?_|refine z_G ?_|refine z_H ?_|refine z_I ?_|refine z_J ?_|refine z_K (by omega) (by decide) ?_|refine z_L (by omega) (by decide) ?_|refine z_M (by omega) ?_|refine z_N (by omega) ?_|refine z_O (by omega) ?_|refine z_P ?_|refine z_Q ?_|refine z_R ?_|refine z_S ?_|refine z_T ?_|refine z_U (by decide) ?_|refine z_V (by decide) ?_)
    exact ⟨by first | rfl | trivial, hb03⟩
  obtain ⟨fs, hfs, hrows⟩ := q3 (by omega)
  rw [hrows] at hqr
  have h1f := fields_one hfs
  have hfound : ∀ {p : Txt × List ValT} {x : Int × List Int}, p ∈ S.R → x ∈ idxV 0 S.X → hitV id low high p x = true → p ∈ Mq.map mkr := fun hp hx hh => by rw [hqr]; exact hit_found hok.rising h1f hp hx hh
  have htot : hitsV (idxV 0 S.X) id low high S.R = Mq.length := by
    have e1 := congrArg List.length hqr
    rw [List.length_map, List.length_map, (areaV_perm _ _ _ _ _).length_eq] at e1
    rw [hitsV_eq h1f, e1]
  (repeat with_reducible first|refine z_a ?_|refine z_b ?_|refine z_c ?_|refine z_d ?_|refine z_e ?_|refine z_f ?_|refine z_g ?_|refine z_h ?_|refine z_i ?_|refine z_j ?_|refine z_k ?_|refine z_l ?_|refine z_m (by omega) ?_|refine z_n (by omega) ?_|refine z_o (by omega) ?_|refine z_p (by omega) ?_|refine z_q (by omega) ?_|refine z_r (by omega) ?_|refine z_s (by omega) ?_|refine z_t (by omega) ?_|refine z_u (by omega) ?_|refine z_v (by omega) ?_|refine z_w (by omega) ?_|refine z_x (by omega) ?_|refine z_y (by omega) ?_|refine z_z (by omega) ?_|refine z_A ?_|refine z_B ?_|refine z_C ?_|refine z_D ?_|refine z_E ?_|refine z_F ?_|refine z_G ?_|refine z_H ?_|refine z_I ?_|refine z_J ?_|refine z_K (by omega) (by decide) ?_|refine z_L (by omega) (by decide) ?_|refine z_M (by omega) ?_|refine z_N (by omega) ?_|refine z_O (by omega) ?_|refine z_P ?_|refine z_Q ?_|refine z_R ?_|refine z_S ?_|refine z_T ?_|refine z_U (by decide) ?_|refine z_V (by decide) ?_)
  obtain ⟨c3', hS3⟩ := hM3.st (g := g) (S := S) (by simp)
  have hS3' := hS3
  obtain ⟨b, vX, M, X, h, hp, hX, hids⟩ := hS3'
  refine (Rows20 h hp hok.rising (by omega) hok.recl).mono ?_
  rintro va w4 ⟨Ma, hMa, hOa⟩
  refine (Indexes21 (hS3.below hOa.row.bel) hok).mono ?_
  rintro vx w5 ⟨L, hLx, hOx⟩
  have hRa : RwAt w5 va Ma := hOa.at.below hOx.row.bel
  have hXa : IxAt w5 vx L := hOx.at
  have hb35 := below_then hOa.row.bel hOx.row.bel
  have hb05 := below_then hb03 hb35
  have hqa5 : RwAt w5 vw2 Mq := hqa.below hb35
  have hBQ5 := hBQ.below' hb35
  have hlo5 := keeps_Vals _ _ _ _ hb05 hlo
  have hhi5 := keeps_Vals _ _ _ _ hb05 hhi
  have hMal : Ma.length = S.R.length := by rw [← hMa, List.length_map]
  have hLl : L.length = (idxV 0 S.X).length := by rw [← hLx, List.length_map]
  clear hS3 h hOa hOx hM3 hM2 hM1 hM hR2 hBQ
  obtain ⟨Aa, ca, rfl, hca, hcam⟩ := hRa.row.slice
  obtain ⟨Ax, cx, rfl, hcx, hcxm⟩ := hXa.row.slice
  subst hvq
  simp only [maxLen] at hcam hcxm hcqm
  refine LoopP.inv2 (fun nv iv w' => ∃ i : Nat, i ≤ Ma.length ∧ iv = .int .i64 i ∧ nv = .int .i64 (hitsV (idxV 0 S.X) id low high (S.R.take i) : Nat) ∧ hitsV (idxV 0 S.X) id low high (S.R.take i) ≤ i ∧ Below w5.heap.size w5 w') (fun _ iv _ => Ma.length - (intOf iv).toNat) ⟨0, by omega, rfl, by simp [hitsV], by simp [hitsV], Below.refl _ _⟩ ?_
  rintro _ _ w6 ⟨i, hi, rfl, rfl, hni, hb6⟩ J hJ
  dsimp only [List.headD_cons, List.tail_cons]
  refine ln undRw ?_
  refine bi_lss_c (fun h1 => ?_) (fun h1 => ?_)
  rotate_left
  · have : i = Ma.length := by omega
    subst this
    rw [hMal, List.take_length, htot]
    have c3 : w6.cell? ⟨gQ, 3, none⟩ = some (.slice Aq Mq.length cq) := (hBQ5.below' hb6).cell 3
    (repeat with_reducible first | refine fd rp3 (by decide) ?_| refine ld oneRows c3 ?_|refine z_a ?_|refine z_b ?_|refine z_c ?_|refine z_d ?_|refine z_e ?_|refine z_f ?_|refine z_g ?_|refine z_h ?_|refine z_i ?_|refine z_j ?_|refine z_k ?_|refine z_l ?_|refine z_m (by omega) ?_|refine z_n (by omega) ?_|refine z_o (by omega) ?_|refine z_p (by omega) ?_|refine z_q (by omega) ?_|refine z_r (by omega) ?_|refine z_s (by omega) ?_|refine z_t (by omega) ?_|refine z_u (by omega) ?_|refine z_v (by omega) ?_|refine z_w (by omega) ?_|refine z_x (by omega) ?_|refine z_y (by omega) ?_|refine z_z (by omega) ?_|refine z_A ?_|refine z_B ?_|refine z_C ?_|refine z_D ?_|refine z_E ?_|refine z_F ?_|refine z_G ?_|refine z_H ?_|refine z_I ?_|refine z_J ?_|refine z_K (by omega) (by decide) ?_|refine z_L (by omega) (by decide) ?_|refine z_M (by omega) ?_|refine z_N (by omega) ?_|refine z_O (by omega) ?_|refine z_P ?_|refine z_Q ?_|refine z_R ?_|refine z_S ?_|refine z_T ?_|refine z_U (by decide) ?_|refine z_V (by decide) ?_)
    refine ln undRw ?_
    (repeat with_reducible first|refine z_a ?_|refine z_b ?_|refine z_c ?_|refine z_d ?_|refine z_e ?_|refine z_f ?_|refine z_g ?_|refine z_h ?_|refine z_i ?_|refine z_j ?_|refine z_k ?_|refine z_l ?_|refine z_m (by omega) ?_|refine z_n (by omega) ?_|refine z_o (by omega) ?_|refine z_p (by omega) ?_|refine z_q (by omega) ?_|refine z_r (by omega) ?_|refine z_s (by omega) ?_|refine z_t (by omega) ?_|refine z_u (by omega) ?_|refine z_v (by omega) ?_|refine z_w (by omega) ?_|refine z_x (by omega) ?_|refine z_y (by omega) ?_|refine z_z (by omega) ?_|refine z_A ?_|refine z_B ?_|refine z_C ?_|refine z_D ?_|refine z_E ?_|refine z_F ?_|refine z_G ?_|refine z_H ?_|refine z_I ?_|refine z_J ?_|refine z_K (by omega) (by decide) ?_|refine z_L (by omega) (by decide) ?_|refine z_M (by omega) ?_|refine z_N (by omega) ?_|refine z_O (by omega) ?_|refine z_P ?_|refine z_Q ?_|refine z_R ?_|refine z_S ?_|refine z_T ?_|refine z_U (by decide) ?_|refine z_V (by decide) ?_)
    exact ⟨by first | rfl | trivial, below_then hb05 hb6⟩
  have hi' : i < Ma.length := by omega
  have hiR : i < S.R.length := by omega
  have hRi : S.R[i] = (Ma[i].1, Ma[i].2.2) := by
    have : (Ma.map mkr)[i]? = S.R[i]? := by rw [hMa]
    rw [List.getElem?_eq_getElem (by rw [List.length_map]; exact hi'), mkr_at hi', List.getElem?_eq_getElem hiR] at this
    exact (Option.some.inj this).symm
  (repeat with_reducible first|refine z_a ?_|refine z_b ?_|refine z_c ?_|refine z_d ?_|refine z_e ?_|refine z_f ?_|refine z_g ?_|refine z_h ?_|refine z_i ?_|refine z_j ?_|refine z_k ?_|refine z_l ?_|refine z_m (by omega) ?_|refine z_n (by omega) ?_|refine z_o (by omega) ?_|refine z_p (by omega) ?_|refine z_q (by omega) ?_|refine z_r (by omega) ?_|refine z_s (by omega) ?_|refine z_t (by omega) ?_|refine z_u (by omega) ?_|refine z_v (by omega) ?_|refine z_w (by omega) ?_|refine z_x (by omega) ?_|refine z_y (by omega) ?_|refine z_z (by omega) ?_|refine z_A ?_|refine z_B ?_|refine z_C ?_|refine z_D ?_|refine z_E ?_|refine z_F ?_|refine z_G ?_|refine z_H ?_|refine z_I ?_|refine z_J ?_|refine z_K (by omega) (by decide) ?_|refine z_L (by omega) (by decide) ?_|refine z_M (by omega) ?_|refine z_N (by omega) ?_|refine z_O (by omega) ?_|refine z_P ?_|refine z_Q ?_|refine z_R ?_|refine z_S ?_|refine z_T ?_|refine z_U (by decide) ?_|refine z_V (by decide) ?_)
  refine LoopP.inv2 (fun nv kv w' => ∃ k : Nat, k ≤ L.length ∧ kv = .int .i64 k ∧ nv = .int .i64 ((hitsV (idxV 0 S.X) id low high (S.R.take i) + (((idxV 0 S.X).take k).filter (hitV id low high S.R[i])).length : Nat)) ∧ Below w5.heap.size w5 w') (fun _ kv _ => L.length - (intOf kv).toNat) ⟨0, by omega, rfl, by simp, hb6⟩ ?_
  rintro _ _ w7 ⟨k, hk, rfl, rfl, hb7⟩ J2 hJ2
  dsimp only [List.headD_cons, List.tail_cons]
  refine ln undSt ?_
  refine bi_lss_c (fun h2 => ?_) (fun h2 => ?_)
  rotate_left
  · have : k = L.length := by omega
    subst this
    (repeat with_reducible first|refine z_a ?_|refine z_b ?_|refine z_c ?_|refine z_d ?_|refine z_e ?_|refine z_f ?_|refine z_g ?_|refine z_h ?_|refine z_i ?_|refine z_j ?_|refine z_k ?_|refine z_l ?_|refine z_m (by omega) ?_|refine z_n (by omega) ?_|refine z_o (by omega) ?_|refine z_p (by omega) ?_|refine z_q (by omega) ?_|refine z_r (by omega) ?_|refine z_s (by omega) ?_|refine z_t (by omega) ?_|refine z_u (by omega) ?_|refine z_v (by omega) ?_|refine z_w (by omega) ?_|refine z_x (by omega) ?_|refine z_y (by omega) ?_|refine z_z (by omega) ?_|refine z_A ?_|refine z_B ?_|refine z_C ?_|refine z_D ?_|refine z_E ?_|refine z_F ?_|refine z_G ?_|refine z_H ?_|refine z_I ?_|refine z_J ?_|refine z_K (by omega) (by decide) ?_|refine z_L (by omega) (by decide) ?_|refine z_M (by omega) ?_|refine z_N (by omega) ?_|refine z_O (by omega) ?_|refine z_P ?_|refine z_Q ?_|refine z_R ?_|refine z_S ?_|refine z_T ?_|refine z_U (by decide) ?_|refine z_V (by decide) ?_)
    have hs : hitsV (idxV 0 S.X) id low high (S.R.take (i + 1)) = hitsV (idxV 0 S.X) id low high (S.R.take i) + ((idxV 0 S.X).filter (hitV id low high S.R[i])).length := by
      rw [List.take_succ_eq_append_getElem hiR, hitsV_snoc]
    have h9 : ((idxV 0 S.X).filter (hitV id low high S.R[i])).length ≤ 1 := by
      rw [hits_row h1f]; split <;> omega
    refine hJ _ _ _ ⟨i + 1, by omega, by simp, ?_, ?_, hb7⟩ (by simp [intOf]; omega)
    · rw [hs, hLl, List.take_length]
    · rw [hs]; omega
  have hk' : k < L.length := by omega
  have hkX : k < (idxV 0 S.X).length := by omega
  have hXk : (idxV 0 S.X)[k] = (L[k].id, L[k].fs) := by
    have : (L.map xmP)[k]? = (idxV 0 S.X)[k]? := by rw [hLx]
    rw [List.getElem?_map, List.getElem?_eq_getElem hk', List.getElem?_eq_getElem hkX] at this
    exact (Option.some.inj this).symm
  have hstep := filter_step (p := hitV id low high S.R[i]) hkX
  rw [hXk] at hstep
  refine CondP.yes rfl ?_
  have hcnt : (((idxV 0 S.X).take k).filter (hitV id low high S.R[i])).length ≤ 100 := by
    have h9 : (((idxV 0 S.X).take k).filter (hitV id low high S.R[i])).length ≤ ((idxV 0 S.X).filter (hitV id low high S.R[i])).length := ((List.take_sublist _ _).filter _).length_le
    rw [hits_row h1f] at h9
    split at h9 <;> omega
  refine JoinP.cut (fun vs w' => vs = [.int .i64 ((hitsV (idxV 0 S.X) id low high (S.R.take i) + (((idxV 0 S.X).take (k + 1)).filter (hitV id low high S.R[i])).length : Nat))] ∧ Below w5.heap.size w5 w') ?_ ?_
  rotate_left
  · rintro _ w8 ⟨rfl, hb8⟩
    dsimp only [List.headD_cons, List.tail_cons]
    (repeat with_reducible first|refine z_a ?_|refine z_b ?_|refine z_c ?_|refine z_d ?_|refine z_e ?_|refine z_f ?_|refine z_g ?_|refine z_h ?_|refine z_i ?_|refine z_j ?_|refine z_k ?_|refine z_l ?_|refine z_m (by omega) ?_|refine z_n (by omega) ?_|refine z_o (by omega) ?_|refine z_p (by omega) ?_|refine z_q (by omega) ?_|refine z_r (by omega) ?_|refine z_s (by omega) ?_|refine z_t (by omega) ?_|refine z_u (by omega) ?_|refine z_v (by omega) ?_|refine z_w (by omega) ?_|refine z_x (by omega) ?_|refine z_y (by omega) ?_|refine z_z (by omega) ?_|refine z_A ?_|refine z_B ?_|refine z_C ?_|refine z_D ?_|refine z_E ?_|refine z_F ?_|refine z_G ?_|refine z_H ?_|refine z_I ?_|refine z_J ?_|refine z_K (by omega) (by decide) ?_|refine z_L (by omega) (by decide) ?_|refine z_M (by omega) ?_|refine z_N (by omega) ?_|refine z_O (by omega) ?_|refine z_P ?_|refine z_Q ?_|refine z_R ?_|refine z_S ?_|refine z_T ?_|refine z_U (by decide) ?_|refine z_V (by decide) ?_)
    exact hJ2 _ _ _ ⟨k + 1, by omega, by simp, rfl, hb8⟩ (by simp [intOf]; omega)
  intro J3 hJ3
  have skip : hitV id low high S.R[i] (L[k].id, L[k].fs) = false → ∀ w', Below w5.heap.size w5 w' → J3 [.int .i64 ((hitsV (idxV 0 S.X) id low high (S.R.take i) + (((idxV 0 S.X).take k).filter (hitV id low high S.R[i])).length : Nat))] w' := fun hn w' hb => by
    refine hJ3 _ _ ⟨?_, hb⟩
    rw [hstep, hn]
    simp
  have hdr : Below w7.heap.size w7 w7.drew := (Below.refl _ _).drew
  have hR7 := hRa.below hb7
  have hX7 := hXa.below hb7
  obtain ⟨g1, d1, he, hc1⟩ := rowAt mmF_len hR7.row i hi' (by decide)
  cases he
  obtain ⟨g2, d2, he, hc2⟩ := rowAt xmF_len hX7.row k hk' (by decide)
  cases he
  have a0 := keepR hc1 0 _ rfl
  have a1 := keepR hc1 1 _ rfl
  have b0 := keepR hc2 0 _ rfl
  have kx : ∀ w', Below w7.heap.size w7 w' → ∀ j u, (xmF L[k])[j]? = some u → w'.cell? ((⟨g2, k * 2, none⟩ : Addr).add j) = some u := fun w' hb j u hu => by
    rw [add0]
    exact keepR hc2 j u hu w' hb
  refine draw (Below w7.heap.size w7) hdr ?_
  refine yixG undSt szIx k hk' ?_
  refine yldR aggIx kx (by rw [szIx]; rfl) ?_
  refine yixG undRw szRw i hi' ?_
  (repeat with_reducible first | refine yfdG fRow1 (by decide) ?_| refine yl1 oneRec a1 ?_|refine z_W ?_|refine z_a ?_|refine z_b ?_|refine z_c ?_|refine z_d ?_|refine z_e ?_|refine z_f ?_|refine z_g ?_|refine z_h ?_|refine z_i ?_|refine z_j ?_|refine z_k ?_|refine z_l ?_|refine z_X (by omega) ?_|refine z_Y (by omega) ?_|refine z_Z (by omega) ?_|refine z_a1 (by omega) ?_|refine z_b1 (by omega) ?_|refine z_c1 (by omega) ?_|refine z_d1 (by omega) ?_|refine z_e1 (by omega) ?_|refine z_f1 (by omega) ?_|refine z_g1 (by omega) ?_|refine z_h1 (by omega) ?_|refine z_i1 (by omega) ?_|refine z_j1 (by omega) ?_|refine z_k1 (by omega) ?_|refine z_l1 ?_|refine z_m1 ?_|refine z_n1 ?_|refine z_o1 ?_|refine z_p1 ?_|refine z_q1 ?_|refine z_r1 ?_|refine z_s1 ?_|refine z_t1 ?_|refine z_u1 ?_|refine z_v1 (by omega) (by decide) ?_|refine z_w1 (by omega) (by decide) ?_|refine z_x1 (by omega) ?_|refine z_y1 (by omega) ?_|refine z_z1 (by omega) ?_|refine z_A1 ?_|refine z_B1 ?_|refine z_C1 ?_|refine z_D1 ?_|refine z_E1 ?_|refine z_F1 (by decide) ?_|refine z_G1 (by decide) ?_)
  refine act ?_
  refine (Shows22 L[k].id L[k].fv L[k].fs Ma[i].2.1 Ma[i].2.2 w7.drew ((hX7.ms _ (List.getElem_mem hk')).below hdr) (keeps_Vals _ _ _ _ hdr (hR7.ms _ (List.getElem_mem hi')))).mono ?_
  intro r w8 hsr
  have hb78 := below_then hdr hsr.bel
  have hb8 := below_then hb7 hb78
  refine ⟨_, hb78, fun _ h => h, ?_⟩
  cases hsv : showV L[k].id L[k].fs Ma[i].2.2 with
  | none =>
    rw [hsr.no hsv]
    have hno := skip (hitV_none (by rw [hRi]; exact hsv)) w8 hb8
    (repeat with_reducible first|refine z_W ?_|refine z_a ?_|refine z_b ?_|refine z_c ?_|refine z_d ?_|refine z_e ?_|refine z_f ?_|refine z_g ?_|refine z_h ?_|refine z_i ?_|refine z_j ?_|refine z_k ?_|refine z_l ?_|refine z_X (by omega) ?_|refine z_Y (by omega) ?_|refine z_Z (by omega) ?_|refine z_a1 (by omega) ?_|refine z_b1 (by omega) ?_|refine z_c1 (by omega) ?_|refine z_d1 (by omega) ?_|refine z_e1 (by omega) ?_|refine z_f1 (by omega) ?_|refine z_g1 (by omega) ?_|refine z_h1 (by omega) ?_|refine z_i1 (by omega) ?_|refine z_j1 (by omega) ?_|refine z_k1 (by omega) ?_|refine z_l1 ?_|refine z_m1 ?_|refine z_n1 ?_|refine z_o1 ?_|refine z_p1 ?_|refine z_q1 ?_|refine z_r1 ?_|refine z_s1 ?_|refine z_t1 ?_|refine z_u1 ?_|refine z_v1 (by omega) (by decide) ?_|refine z_w1 (by omega) (by decide) ?_|refine z_x1 (by omega) ?_|refine z_y1 (by omega) ?_|refine z_z1 (by omega) ?_|refine z_A1 ?_|refine z_B1 ?_|refine z_C1 ?_|refine z_D1 ?_|refine z_E1 ?_|refine z_F1 (by decide) ?_|refine z_G1 (by decide) ?_)
    refine ixG undSt szIx k hk' ?_
    (repeat with_reducible first | refine fdG x0 (by decide) ?_| refine ld one3 (b0 _ hb78) ?_|refine z_a ?_|refine z_b ?_|refine z_c ?_|refine z_d ?_|refine z_e ?_|refine z_f ?_|refine z_g ?_|refine z_h ?_|refine z_i ?_|refine z_j ?_|refine z_k ?_|refine z_l ?_|refine z_m (by omega) ?_|refine z_n (by omega) ?_|refine z_o (by omega) ?_|refine z_p (by omega) ?_|refine z_q (by omega) ?_|refine z_r (by omega) ?_|refine z_s (by omega) ?_|refine z_t (by omega) ?_|refine z_u (by omega) ?_|refine z_v (by omega) ?_|refine z_w (by omega) ?_|refine z_x (by omega) ?_|refine z_y (by omega) ?_|refine z_z (by omega) ?_|refine z_A ?_|refine z_B ?_|refine z_C ?_|refine z_D ?_|refine z_E ?_|refine z_F ?_|refine z_G ?_|refine z_H ?_|refine z_I ?_|refine z_J ?_|refine z_K (by omega) (by decide) ?_|refine z_L (by omega) (by decide) ?_|refine z_M (by omega) ?_|refine z_N (by omega) ?_|refine z_O (by omega) ?_|refine z_P ?_|refine z_Q ?_|refine z_R ?_|refine z_S ?_|refine z_T ?_|refine z_U (by decide) ?_|refine z_V (by decide) ?_)
    refine bi_neq_c (fun h3 => ?_) (fun h3 => ?_)
    · (repeat with_reducible first|refine z_a ?_|refine z_b ?_|refine z_c ?_|refine z_d ?_|refine z_e ?_|refine z_f ?_|refine z_g ?_|refine z_h ?_|refine z_i ?_|refine z_j ?_|refine z_k ?_|refine z_l ?_|refine z_m (by omega) ?_|refine z_n (by omega) ?_|refine z_o (by omega) ?_|refine z_p (by omega) ?_|refine z_q (by omega) ?_|refine z_r (by omega) ?_|refine z_s (by omega) ?_|refine z_t (by omega) ?_|refine z_u (by omega) ?_|refine z_v (by omega) ?_|refine z_w (by omega) ?_|refine z_x (by omega) ?_|refine z_y (by omega) ?_|refine z_z (by omega) ?_|refine z_A ?_|refine z_B ?_|refine z_C ?_|refine z_D ?_|refine z_E ?_|refine z_F ?_|refine z_G ?_|refine z_H ?_|refine z_I ?_|refine z_J ?_|refine z_K (by omega) (by decide) ?_|refine z_L (by omega) (by decide) ?_|refine z_M (by omega) ?_|refine z_N (by omega) ?_|refine z_O (by omega) ?_|refine z_P ?_|refine z_Q ?_|refine z_R ?_|refine z_S ?_|refine z_T ?_|refine z_U (by decide) ?_|refine z_V (by decide) ?_)
      exact hno
    · (repeat with_reducible first|refine z_a ?_|refine z_b ?_|refine z_c ?_|refine z_d ?_|refine z_e ?_|refine z_f ?_|refine z_g ?_|refine z_h ?_|refine z_i ?_|refine z_j ?_|refine z_k ?_|refine z_l ?_|refine z_m (by omega) ?_|refine z_n (by omega) ?_|refine z_o (by omega) ?_|refine z_p (by omega) ?_|refine z_q (by omega) ?_|refine z_r (by omega) ?_|refine z_s (by omega) ?_|refine z_t (by omega) ?_|refine z_u (by omega) ?_|refine z_v (by omega) ?_|refine z_w (by omega) ?_|refine z_x (by omega) ?_|refine z_y (by omega) ?_|refine z_z (by omega) ?_|refine z_A ?_|refine z_B ?_|refine z_C ?_|refine z_D ?_|refine z_E ?_|refine z_F ?_|refine z_G ?_|refine z_H ?_|refine z_I ?_|refine z_J ?_|refine z_K (by omega) (by decide) ?_|refine z_L (by omega) (by decide) ?_|refine z_M (by omega) ?_|refine z_N (by omega) ?_|refine z_O (by omega) ?_|refine z_P ?_|refine z_Q ?_|refine z_R ?_|refine z_S ?_|refine z_T ?_|refine z_U (by decide) ?_|refine z_V (by decide) ?_)
      exact hno
  | some key =>
  obtain ⟨⟨vk, rfl, hokk⟩, hvok⟩ := hsr.yes key hsv
  (repeat with_reducible first|refine z_W ?_|refine z_a ?_|refine z_b ?_|refine z_c ?_|refine z_d ?_|refine z_e ?_|refine z_f ?_|refine z_g ?_|refine z_h ?_|refine z_i ?_|refine z_j ?_|refine z_k ?_|refine z_l ?_|refine z_X (by omega) ?_|refine z_Y (by omega) ?_|refine z_Z (by omega) ?_|refine z_a1 (by omega) ?_|refine z_b1 (by omega) ?_|refine z_c1 (by omega) ?_|refine z_d1 (by omega) ?_|refine z_e1 (by omega) ?_|refine z_f1 (by omega) ?_|refine z_g1 (by omega) ?_|refine z_h1 (by omega) ?_|refine z_i1 (by omega) ?_|refine z_j1 (by omega) ?_|refine z_k1 (by omega) ?_|refine z_l1 ?_|refine z_m1 ?_|refine z_n1 ?_|refine z_o1 ?_|refine z_p1 ?_|refine z_q1 ?_|refine z_r1 ?_|refine z_s1 ?_|refine z_t1 ?_|refine z_u1 ?_|refine z_v1 (by omega) (by decide) ?_|refine z_w1 (by omega) (by decide) ?_|refine z_x1 (by omega) ?_|refine z_y1 (by omega) ?_|refine z_z1 (by omega) ?_|refine z_A1 ?_|refine z_B1 ?_|refine z_C1 ?_|refine z_D1 ?_|refine z_E1 ?_|refine z_F1 (by decide) ?_|refine z_G1 (by decide) ?_)
  refine ixG undSt szIx k hk' ?_
  (repeat with_reducible first | refine fdG x0 (by decide) ?_| refine ld one3 (b0 _ hb78) ?_|refine z_a ?_|refine z_b ?_|refine z_c ?_|refine z_d ?_|refine z_e ?_|refine z_f ?_|refine z_g ?_|refine z_h ?_|refine z_i ?_|refine z_j ?_|refine z_k ?_|refine z_l ?_|refine z_m (by omega) ?_|refine z_n (by omega) ?_|refine z_o (by omega) ?_|refine z_p (by omega) ?_|refine z_q (by omega) ?_|refine z_r (by omega) ?_|refine z_s (by omega) ?_|refine z_t (by omega) ?_|refine z_u (by omega) ?_|refine z_v (by omega) ?_|refine z_w (by omega) ?_|refine z_x (by omega) ?_|refine z_y (by omega) ?_|refine z_z (by omega) ?_|refine z_A ?_|refine z_B ?_|refine z_C ?_|refine z_D ?_|refine z_E ?_|refine z_F ?_|refine z_G ?_|refine z_H ?_|refine z_I ?_|refine z_J ?_|refine z_K (by omega) (by decide) ?_|refine z_L (by omega) (by decide) ?_|refine z_M (by omega) ?_|refine z_N (by omega) ?_|refine z_O (by omega) ?_|refine z_P ?_|refine z_Q ?_|refine z_R ?_|refine z_S ?_|refine z_T ?_|refine z_U (by decide) ?_|refine z_V (by decide) ?_)
  refine bi_neq_c (fun h3 => ?_) (fun h3 => ?_)
  · (repeat with_reducible first|refine z_a ?_|refine z_b ?_|refine z_c ?_|refine z_d ?_|refine z_e ?_|refine z_f ?_|refine z_g ?_|refine z_h ?_|refine z_i ?_|refine z_j ?_|refine z_k ?_|refine z_l ?_|refine z_m (by omega) ?_|refine z_n (by omega) ?_|refine z_o (by omega) ?_|refine z_p (by omega) ?_|refine z_q (by omega) ?_|refine z_r (by omega) ?_|refine z_s (by omega) ?_|refine z_t (by omega) ?_|refine z_u (by omega) ?_|refine z_v (by omega) ?_|refine z_w (by omega) ?_|refine z_x (by omega) ?_|refine z_y (by omega) ?_|refine z_z (by omega) ?_|refine z_A ?_|refine z_B ?_|refine z_C ?_|refine z_D ?_|refine z_E ?_|refine z_F ?_|refine z_G ?_|refine z_H ?_|refine z_I ?_|refine z_J ?_|refine z_K (by omega) (by decide) ?_|refine z_L (by omega) (by decide) ?_|refine z_M (by omega) ?_|refine z_N (by omega) ?_|refine z_O (by omega) ?_|refine z_P ?_|refine z_Q ?_|refine z_R ?_|refine z_S ?_|refine z_T ?_|refine z_U (by decide) ?_|refine z_V (by decide) ?_)
    exact skip (hitV_no h3) w8 hb8
  have hhit : hitV id low high S.R[i] (L[k].id, L[k].fs) = liesV key low high := hitV_some h3 (by rw [hRi]; exact hsv)
  (repeat with_reducible first|refine z_a ?_|refine z_b ?_|refine z_c ?_|refine z_d ?_|refine z_e ?_|refine z_f ?_|refine z_g ?_|refine z_h ?_|refine z_i ?_|refine z_j ?_|refine z_k ?_|refine z_l ?_|refine z_m (by omega) ?_|refine z_n (by omega) ?_|refine z_o (by omega) ?_|refine z_p (by omega) ?_|refine z_q (by omega) ?_|refine z_r (by omega) ?_|refine z_s (by omega) ?_|refine z_t (by omega) ?_|refine z_u (by omega) ?_|refine z_v (by omega) ?_|refine z_w (by omega) ?_|refine z_x (by omega) ?_|refine z_y (by omega) ?_|refine z_z (by omega) ?_|refine z_A ?_|refine z_B ?_|refine z_C ?_|refine z_D ?_|refine z_E ?_|refine z_F ?_|refine z_G ?_|refine z_H ?_|refine z_I ?_|refine z_J ?_|refine z_K (by omega) (by decide) ?_|refine z_L (by omega) (by decide) ?_|refine z_M (by omega) ?_|refine z_N (by omega) ?_|refine z_O (by omega) ?_|refine z_P ?_|refine z_Q ?_|refine z_R ?_|refine z_S ?_|refine z_T ?_|refine z_U (by decide) ?_|refine z_V (by decide) ?_)
  refine (Lies23 vk _ _ key low high w8 (hokk.vals hvok) (keeps_Vals _ _ _ _ hb8 hlo5) (keeps_Vals _ _ _ _ hb8 hhi5)).mono ?_
  rintro _ w9 ⟨rfl, hb9⟩
  have hb59 := below_then hb8 hb9
  (repeat with_reducible first|refine z_a ?_|refine z_b ?_|refine z_c ?_|refine z_d ?_|refine z_e ?_|refine z_f ?_|refine z_g ?_|refine z_h ?_|refine z_i ?_|refine z_j ?_|refine z_k ?_|refine z_l ?_|refine z_m (by omega) ?_|refine z_n (by omega) ?_|refine z_o (by omega) ?_|refine z_p (by omega) ?_|refine z_q (by omega) ?_|refine z_r (by omega) ?_|refine z_s (by omega) ?_|refine z_t (by omega) ?_|refine z_u (by omega) ?_|refine z_v (by omega) ?_|refine z_w (by omega) ?_|refine z_x (by omega) ?_|refine z_y (by omega) ?_|refine z_z (by omega) ?_|refine z_A ?_|refine z_B ?_|refine z_C ?_|refine z_D ?_|refine z_E ?_|refine z_F ?_|refine z_G ?_|refine z_H ?_|refine z_I ?_|refine z_J ?_|refine z_K (by omega) (by decide) ?_|refine z_L (by omega) (by decide) ?_|refine z_M (by omega) ?_|refine z_N (by omega) ?_|refine z_O (by omega) ?_|refine z_P ?_|refine z_Q ?_|refine z_R ?_|refine z_S ?_|refine z_T ?_|refine z_U (by decide) ?_|refine z_V (by decide) ?_)
  cases hlv : liesV key low high with
  | false =>
    simp only [Bool.not_false]
    (repeat with_reducible first|refine z_a ?_|refine z_b ?_|refine z_c ?_|refine z_d ?_|refine z_e ?_|refine z_f ?_|refine z_g ?_|refine z_h ?_|refine z_i ?_|refine z_j ?_|refine z_k ?_|refine z_l ?_|refine z_m (by omega) ?_|refine z_n (by omega) ?_|refine z_o (by omega) ?_|refine z_p (by omega) ?_|refine z_q (by omega) ?_|refine z_r (by omega) ?_|refine z_s (by omega) ?_|refine z_t (by omega) ?_|refine z_u (by omega) ?_|refine z_v (by omega) ?_|refine z_w (by omega) ?_|refine z_x (by omega) ?_|refine z_y (by omega) ?_|refine z_z (by omega) ?_|refine z_A ?_|refine z_B ?_|refine z_C ?_|refine z_D ?_|refine z_E ?_|refine z_F ?_|refine z_G ?_|refine z_H ?_|refine z_I ?_|refine z_J ?_|refine z_K (by omega) (by decide) ?_|refine z_L (by omega) (by decide) ?_|refine z_M (by omega) ?_|refine z_N (by omega) ?_|refine z_O (by omega) ?_|refine z_P ?_|refine z_Q ?_|refine z_R ?_|refine z_S ?_|refine z_T ?_|refine z_U (by decide) ?_|refine z_V (by decide) ?_)
    exact skip (hhit.trans hlv) w9 hb59
  | true =>
  simp only [Bool.not_true]
  have hmem : (Ma[i].1, Ma[i].2.2) ∈ Mq.map mkr := by
    rw [← hRi]
    refine hfound (List.getElem_mem hiR) (List.getElem_mem hkX) ?_
    rw [hXk]
    exact hhit.trans hlv
  have hR9 := hRa.below hb59
  have hq9 := hqa5.below hb59
  (repeat with_reducible first|refine z_a ?_|refine z_b ?_|refine z_c ?_|refine z_d ?_|refine z_e ?_|refine z_f ?_|refine z_g ?_|refine z_h ?_|refine z_i ?_|refine z_j ?_|refine z_k ?_|refine z_l ?_|refine z_m (by omega) ?_|refine z_n (by omega) ?_|refine z_o (by omega) ?_|refine z_p (by omega) ?_|refine z_q (by omega) ?_|refine z_r (by omega) ?_|refine z_s (by omega) ?_|refine z_t (by omega) ?_|refine z_u (by omega) ?_|refine z_v (by omega) ?_|refine z_w (by omega) ?_|refine z_x (by omega) ?_|refine z_y (by omega) ?_|refine z_z (by omega) ?_|refine z_A ?_|refine z_B ?_|refine z_C ?_|refine z_D ?_|refine z_E ?_|refine z_F ?_|refine z_G ?_|refine z_H ?_|refine z_I ?_|refine z_J ?_|refine z_K (by omega) (by decide) ?_|refine z_L (by omega) (by decide) ?_|refine z_M (by omega) ?_|refine z_N (by omega) ?_|refine z_O (by omega) ?_|refine z_P ?_|refine z_Q ?_|refine z_R ?_|refine z_S ?_|refine z_T ?_|refine z_U (by decide) ?_|refine z_V (by decide) ?_)
  refine LoopP.inv2 (fun fv jv w' => ∃ (b : Bool) (j : Nat), j ≤ Mq.length ∧ jv = .int .i64 j ∧ fv = .bool b ∧ (b = true ↔ (Ma[i].1, Ma[i].2.2) ∈ (Mq.map mkr).take j) ∧ Below w9.heap.size w9 w') (fun _ jv _ => Mq.length - (intOf jv).toNat) ⟨false, 0, by omega, rfl, rfl, by simp, Below.refl _ _⟩ ?_
  rintro _ _ w10 ⟨b, j, hj, rfl, rfl, hbj, hb10⟩ J4 hJ4
  dsimp only [List.headD_cons, List.tail_cons]
  have hb510 := below_then hb59 hb10
  have hBQ10 := hBQ5.below' hb510
  have q3' : ∀ w', Below w10.heap.size w10 w' → w'.cell? ⟨gQ, 3, none⟩ = some (.slice Aq Mq.length cq) := fun w' hb => (hBQ10.below' hb).cell 3
  (repeat with_reducible first | refine fd rp3 (by decide) ?_| refine ld oneRows (q3' _ (Below.refl _ _)) ?_|refine z_a ?_|refine z_b ?_|refine z_c ?_|refine z_d ?_|refine z_e ?_|refine z_f ?_|refine z_g ?_|refine z_h ?_|refine z_i ?_|refine z_j ?_|refine z_k ?_|refine z_l ?_|refine z_m (by omega) ?_|refine z_n (by omega) ?_|refine z_o (by omega) ?_|refine z_p (by omega) ?_|refine z_q (by omega) ?_|refine z_r (by omega) ?_|refine z_s (by omega) ?_|refine z_t (by omega) ?_|refine z_u (by omega) ?_|refine z_v (by omega) ?_|refine z_w (by omega) ?_|refine z_x (by omega) ?_|refine z_y (by omega) ?_|refine z_z (by omega) ?_|refine z_A ?_|refine z_B ?_|refine z_C ?_|refine z_D ?_|refine z_E ?_|refine z_F ?_|refine z_G ?_|refine z_H ?_|refine z_I ?_|refine z_J ?_|refine z_K (by omega) (by decide) ?_|refine z_L (by omega) (by decide) ?_|refine z_M (by omega) ?_|refine z_N (by omega) ?_|refine z_O (by omega) ?_|refine z_P ?_|refine z_Q ?_|refine z_R ?_|refine z_S ?_|refine z_T ?_|refine z_U (by decide) ?_|refine z_V (by decide) ?_)
  refine ln undRw ?_
  refine bi_lss_c (fun h4 => ?_) (fun h4 => ?_)
  rotate_left
  · have : j = Mq.length := by omega
    subst this
    rw [List.take_of_length_le (by rw [List.length_map]; omega)] at hbj
    have : b = true := hbj.2 hmem
    subst this
    (repeat with_reducible first|refine z_a ?_|refine z_b ?_|refine z_c ?_|refine z_d ?_|refine z_e ?_|refine z_f ?_|refine z_g ?_|refine z_h ?_|refine z_i ?_|refine z_j ?_|refine z_k ?_|refine z_l ?_|refine z_m (by omega) ?_|refine z_n (by omega) ?_|refine z_o (by omega) ?_|refine z_p (by omega) ?_|refine z_q (by omega) ?_|refine z_r (by omega) ?_|refine z_s (by omega) ?_|refine z_t (by omega) ?_|refine z_u (by omega) ?_|refine z_v (by omega) ?_|refine z_w (by omega) ?_|refine z_x (by omega) ?_|refine z_y (by omega) ?_|refine z_z (by omega) ?_|refine z_A ?_|refine z_B ?_|refine z_C ?_|refine z_D ?_|refine z_E ?_|refine z_F ?_|refine z_G ?_|refine z_H ?_|refine z_I ?_|refine z_J ?_|refine z_K (by omega) (by decide) ?_|refine z_L (by omega) (by decide) ?_|refine z_M (by omega) ?_|refine z_N (by omega) ?_|refine z_O (by omega) ?_|refine z_P ?_|refine z_Q ?_|refine z_R ?_|refine z_S ?_|refine z_T ?_|refine z_U (by decide) ?_|refine z_V (by decide) ?_)
    refine hJ3 _ _ ⟨?_, hb510⟩
    rw [hstep, hhit, hlv]
    simp
    omega
  have hj' : j < Mq.length := by omega
  have hjm : j < (Mq.map mkr).length := by rw [List.length_map]; exact hj'
  have hdr10 : Below w10.heap.size w10 w10.drew := (Below.refl _ _).drew
  have htake : (Mq.map mkr).take (j + 1) = (Mq.map mkr).take j ++ [(Mq[j].1, Mq[j].2.2)] := by rw [List.take_succ_eq_append_getElem hjm, mkr_at hj']
  (repeat with_reducible first|refine z_a ?_|refine z_b ?_|refine z_c ?_|refine z_d ?_|refine z_e ?_|refine z_f ?_|refine z_g ?_|refine z_h ?_|refine z_i ?_|refine z_j ?_|refine z_k ?_|refine z_l ?_|refine z_m (by omega) ?_|refine z_n (by omega) ?_|refine z_o (by omega) ?_|refine z_p (by omega) ?_|refine z_q (by omega) ?_|refine z_r (by omega) ?_|refine z_s (by omega) ?_|refine z_t (by omega) ?_|refine z_u (by omega) ?_|refine z_v (by omega) ?_|refine z_w (by omega) ?_|refine z_x (by omega) ?_|refine z_y (by omega) ?_|refine z_z (by omega) ?_|refine z_A ?_|refine z_B ?_|refine z_C ?_|refine z_D ?_|refine z_E ?_|refine z_F ?_|refine z_G ?_|refine z_H ?_|refine z_I ?_|refine z_J ?_|refine z_K (by omega) (by decide) ?_|refine z_L (by omega) (by decide) ?_|refine z_M (by omega) ?_|refine z_N (by omega) ?_|refine z_O (by omega) ?_|refine z_P ?_|refine z_Q ?_|refine z_R ?_|refine z_S ?_|refine z_T ?_|refine z_U (by decide) ?_|refine z_V (by decide) ?_)
  refine draw (Below w10.heap.size w10) hdr10 ?_
  cases b with
  | true =>
    (repeat with_reducible first | refine gaU ?_|refine z_W ?_|refine z_a ?_|refine z_b ?_|refine z_c ?_|refine z_d ?_|refine z_e ?_|refine z_f ?_|refine z_g ?_|refine z_h ?_|refine z_i ?_|refine z_j ?_|refine z_k ?_|refine z_l ?_|refine z_X (by omega) ?_|refine z_Y (by omega) ?_|refine z_Z (by omega) ?_|refine z_a1 (by omega) ?_|refine z_b1 (by omega) ?_|refine z_c1 (by omega) ?_|refine z_d1 (by omega) ?_|refine z_e1 (by omega) ?_|refine z_f1 (by omega) ?_|refine z_g1 (by omega) ?_|refine z_h1 (by omega) ?_|refine z_i1 (by omega) ?_|refine z_j1 (by omega) ?_|refine z_k1 (by omega) ?_|refine z_l1 ?_|refine z_m1 ?_|refine z_n1 ?_|refine z_o1 ?_|refine z_p1 ?_|refine z_q1 ?_|refine z_r1 ?_|refine z_s1 ?_|refine z_t1 ?_|refine z_u1 ?_|refine z_v1 (by omega) (by decide) ?_|refine z_w1 (by omega) (by decide) ?_|refine z_x1 (by omega) ?_|refine z_y1 (by omega) ?_|refine z_z1 (by omega) ?_|refine z_A1 ?_|refine z_B1 ?_|refine z_C1 ?_|refine z_D1 ?_|refine z_E1 ?_|refine z_F1 (by decide) ?_|refine z_G1 (by decide) ?_)
    (repeat with_reducible first|refine z_a ?_|refine z_b ?_|refine z_c ?_|refine z_d ?_|refine z_e ?_|refine z_f ?_|refine z_g ?_|refine z_h ?_|refine z_i ?_|refine z_j ?_|refine z_k ?_|refine z_l ?_|refine z_m (by omega) ?_|refine z_n (by omega) ?_|refine z_o (by omega) ?_|refine z_p (by omega) ?_|refine z_q (by omega) ?_|refine z_r (by omega) ?_|refine z_s (by omega) ?_|refine z_t (by omega) ?_|refine z_u (by omega) ?_|refine z_v (by omega) ?_|refine z_w (by omega) ?_|refine z_x (by omega) ?_|refine z_y (by omega) ?_|refine z_z (by omega) ?_|refine z_A ?_|refine z_B ?_|refine z_C ?_|refine z_D ?_|refine z_E ?_|refine z_F ?_|refine z_G ?_|refine z_H ?_|refine z_I ?_|refine z_J ?_|refine z_K (by omega) (by decide) ?_|refine z_L (by omega) (by decide) ?_|refine z_M (by omega) ?_|refine z_N (by omega) ?_|refine z_O (by omega) ?_|refine z_P ?_|refine z_Q ?_|refine z_R ?_|refine z_S ?_|refine z_T ?_|refine z_U (by decide) ?_|refine z_V (by decide) ?_)
    refine hJ4 _ _ _ ⟨true, j + 1, by omega, by simp, rfl, ⟨fun _ => ?_, fun _ => rfl⟩, below_then hb10 hdr10⟩ (by simp [intOf]; omega)
    rw [htake]
    exact List.mem_append_left _ (hbj.1 rfl)
  | false =>
  have hnot : (Ma[i].1, Ma[i].2.2) ∉ (Mq.map mkr).take j := fun hm => by have := hbj.2 hm; cases this
  have hR10 := hR9.below hb10
  have hq10 := hq9.below hb10
  obtain ⟨g3, d3, he, hc3⟩ := rowAt mmF_len hR10.row i hi' (by decide)
  cases he
  obtain ⟨g4, d4, he, hc4⟩ := rowAt mmF_len hq10.row j hj' (by decide)
  cases he
  have e0 := keepR hc3 0 _ rfl
  have e1 := keepR hc3 1 _ rfl
  have f0 := keepR hc4 0 _ rfl
  have f1 := keepR hc4 1 _ rfl
  (repeat with_reducible first | refine yfd rp3 (by decide) ?_| refine yl1 oneRows q3' ?_|refine z_W ?_|refine z_a ?_|refine z_b ?_|refine z_c ?_|refine z_d ?_|refine z_e ?_|refine z_f ?_|refine z_g ?_|refine z_h ?_|refine z_i ?_|refine z_j ?_|refine z_k ?_|refine z_l ?_|refine z_X (by omega) ?_|refine z_Y (by omega) ?_|refine z_Z (by omega) ?_|refine z_a1 (by omega) ?_|refine z_b1 (by omega) ?_|refine z_c1 (by omega) ?_|refine z_d1 (by omega) ?_|refine z_e1 (by omega) ?_|refine z_f1 (by omega) ?_|refine z_g1 (by omega) ?_|refine z_h1 (by omega) ?_|refine z_i1 (by omega) ?_|refine z_j1 (by omega) ?_|refine z_k1 (by omega) ?_|refine z_l1 ?_|refine z_m1 ?_|refine z_n1 ?_|refine z_o1 ?_|refine z_p1 ?_|refine z_q1 ?_|refine z_r1 ?_|refine z_s1 ?_|refine z_t1 ?_|refine z_u1 ?_|refine z_v1 (by omega) (by decide) ?_|refine z_w1 (by omega) (by decide) ?_|refine z_x1 (by omega) ?_|refine z_y1 (by omega) ?_|refine z_z1 (by omega) ?_|refine z_A1 ?_|refine z_B1 ?_|refine z_C1 ?_|refine z_D1 ?_|refine z_E1 ?_|refine z_F1 (by decide) ?_|refine z_G1 (by decide) ?_)
  refine yixG undRw szRw j hj' ?_
  (repeat with_reducible first | refine yfdG w0 (by decide) ?_| refine yl1 one9 f0 ?_|refine z_W ?_|refine z_a ?_|refine z_b ?_|refine z_c ?_|refine z_d ?_|refine z_e ?_|refine z_f ?_|refine z_g ?_|refine z_h ?_|refine z_i ?_|refine z_j ?_|refine z_k ?_|refine z_l ?_|refine z_X (by omega) ?_|refine z_Y (by omega) ?_|refine z_Z (by omega) ?_|refine z_a1 (by omega) ?_|refine z_b1 (by omega) ?_|refine z_c1 (by omega) ?_|refine z_d1 (by omega) ?_|refine z_e1 (by omega) ?_|refine z_f1 (by omega) ?_|refine z_g1 (by omega) ?_|refine z_h1 (by omega) ?_|refine z_i1 (by omega) ?_|refine z_j1 (by omega) ?_|refine z_k1 (by omega) ?_|refine z_l1 ?_|refine z_m1 ?_|refine z_n1 ?_|refine z_o1 ?_|refine z_p1 ?_|refine z_q1 ?_|refine z_r1 ?_|refine z_s1 ?_|refine z_t1 ?_|refine z_u1 ?_|refine z_v1 (by omega) (by decide) ?_|refine z_w1 (by omega) (by decide) ?_|refine z_x1 (by omega) ?_|refine z_y1 (by omega) ?_|refine z_z1 (by omega) ?_|refine z_A1 ?_|refine z_B1 ?_|refine z_C1 ?_|refine z_D1 ?_|refine z_E1 ?_|refine z_F1 (by decide) ?_|refine z_G1 (by decide) ?_)
  refine yixG undRw szRw i hi' ?_
  (repeat with_reducible first | refine yfdG w0 (by decide) ?_| refine yl1 one9 e0 ?_|refine z_W ?_|refine z_a ?_|refine z_b ?_|refine z_c ?_|refine z_d ?_|refine z_e ?_|refine z_f ?_|refine z_g ?_|refine z_h ?_|refine z_i ?_|refine z_j ?_|refine z_k ?_|refine z_l ?_|refine z_X (by omega) ?_|refine z_Y (by omega) ?_|refine z_Z (by omega) ?_|refine z_a1 (by omega) ?_|refine z_b1 (by omega) ?_|refine z_c1 (by omega) ?_|refine z_d1 (by omega) ?_|refine z_e1 (by omega) ?_|refine z_f1 (by omega) ?_|refine z_g1 (by omega) ?_|refine z_h1 (by omega) ?_|refine z_i1 (by omega) ?_|refine z_j1 (by omega) ?_|refine z_k1 (by omega) ?_|refine z_l1 ?_|refine z_m1 ?_|refine z_n1 ?_|refine z_o1 ?_|refine z_p1 ?_|refine z_q1 ?_|refine z_r1 ?_|refine z_s1 ?_|refine z_t1 ?_|refine z_u1 ?_|refine z_v1 (by omega) (by decide) ?_|refine z_w1 (by omega) (by decide) ?_|refine z_x1 (by omega) ?_|refine z_y1 (by omega) ?_|refine z_z1 (by omega) ?_|refine z_A1 ?_|refine z_B1 ?_|refine z_C1 ?_|refine z_D1 ?_|refine z_E1 ?_|refine z_F1 (by decide) ?_|refine z_G1 (by decide) ?_)
  refine ty_eql_c (fun h5 => ?_) (fun h5 => ?_)
  · (repeat with_reducible first | refine yfd rp3 (by decide) ?_| refine yl1 oneRows q3' ?_|refine z_W ?_|refine z_a ?_|refine z_b ?_|refine z_c ?_|refine z_d ?_|refine z_e ?_|refine z_f ?_|refine z_g ?_|refine z_h ?_|refine z_i ?_|refine z_j ?_|refine z_k ?_|refine z_l ?_|refine z_X (by omega) ?_|refine z_Y (by omega) ?_|refine z_Z (by omega) ?_|refine z_a1 (by omega) ?_|refine z_b1 (by omega) ?_|refine z_c1 (by omega) ?_|refine z_d1 (by omega) ?_|refine z_e1 (by omega) ?_|refine z_f1 (by omega) ?_|refine z_g1 (by omega) ?_|refine z_h1 (by omega) ?_|refine z_i1 (by omega) ?_|refine z_j1 (by omega) ?_|refine z_k1 (by omega) ?_|refine z_l1 ?_|refine z_m1 ?_|refine z_n1 ?_|refine z_o1 ?_|refine z_p1 ?_|refine z_q1 ?_|refine z_r1 ?_|refine z_s1 ?_|refine z_t1 ?_|refine z_u1 ?_|refine z_v1 (by omega) (by decide) ?_|refine z_w1 (by omega) (by decide) ?_|refine z_x1 (by omega) ?_|refine z_y1 (by omega) ?_|refine z_z1 (by omega) ?_|refine z_A1 ?_|refine z_B1 ?_|refine z_C1 ?_|refine z_D1 ?_|refine z_E1 ?_|refine z_F1 (by decide) ?_|refine z_G1 (by decide) ?_)
    refine yixG undRw szRw j hj' ?_
    (repeat with_reducible first | refine yfdG fRow1 (by decide) ?_| refine yl1 oneRec f1 ?_|refine z_W ?_|refine z_a ?_|refine z_b ?_|refine z_c ?_|refine z_d ?_|refine z_e ?_|refine z_f ?_|refine z_g ?_|refine z_h ?_|refine z_i ?_|refine z_j ?_|refine z_k ?_|refine z_l ?_|refine z_X (by omega) ?_|refine z_Y (by omega) ?_|refine z_Z (by omega) ?_|refine z_a1 (by omega) ?_|refine z_b1 (by omega) ?_|refine z_c1 (by omega) ?_|refine z_d1 (by omega) ?_|refine z_e1 (by omega) ?_|refine z_f1 (by omega) ?_|refine z_g1 (by omega) ?_|refine z_h1 (by omega) ?_|refine z_i1 (by omega) ?_|refine z_j1 (by omega) ?_|refine z_k1 (by omega) ?_|refine z_l1 ?_|refine z_m1 ?_|refine z_n1 ?_|refine z_o1 ?_|refine z_p1 ?_|refine z_q1 ?_|refine z_r1 ?_|refine z_s1 ?_|refine z_t1 ?_|refine z_u1 ?_|refine z_v1 (by omega) (by decide) ?_|refine z_w1 (by omega) (by decide) ?_|refine z_x1 (by omega) ?_|refine z_y1 (by omega) ?_|refine z_z1 (by omega) ?_|refine z_A1 ?_|refine z_B1 ?_|refine z_C1 ?_|refine z_D1 ?_|refine z_E1 ?_|refine z_F1 (by decide) ?_|refine z_G1 (by decide) ?_)
    refine yixG undRw szRw i hi' ?_
    (repeat with_reducible first | refine yfdG fRow1 (by decide) ?_| refine yl1 oneRec e1 ?_|refine z_W ?_|refine z_a ?_|refine z_b ?_|refine z_c ?_|refine z_d ?_|refine z_e ?_|refine z_f ?_|refine z_g ?_|refine z_h ?_|refine z_i ?_|refine z_j ?_|refine z_k ?_|refine z_l ?_|refine z_X (by omega) ?_|refine z_Y (by omega) ?_|refine z_Z (by omega) ?_|refine z_a1 (by omega) ?_|refine z_b1 (by omega) ?_|refine z_c1 (by omega) ?_|refine z_d1 (by omega) ?_|refine z_e1 (by omega) ?_|refine z_f1 (by omega) ?_|refine z_g1 (by omega) ?_|refine z_h1 (by omega) ?_|refine z_i1 (by omega) ?_|refine z_j1 (by omega) ?_|refine z_k1 (by omega) ?_|refine z_l1 ?_|refine z_m1 ?_|refine z_n1 ?_|refine z_o1 ?_|refine z_p1 ?_|refine z_q1 ?_|refine z_r1 ?_|refine z_s1 ?_|refine z_t1 ?_|refine z_u1 ?_|refine z_v1 (by omega) (by decide) ?_|refine z_w1 (by omega) (by decide) ?_|refine z_x1 (by omega) ?_|refine z_y1 (by omega) ?_|refine z_z1 (by omega) ?_|refine z_A1 ?_|refine z_B1 ?_|refine z_C1 ?_|refine z_D1 ?_|refine z_E1 ?_|refine z_F1 (by decide) ?_|refine z_G1 (by decide) ?_)
    refine act ?_
    refine (Same17 _ _ _ _ w10.drew (keeps_Vals _ _ _ _ hdr10 (hq10.ms _ (List.getElem_mem hj'))) (keeps_Vals _ _ _ _ hdr10 (hR10.ms _ (List.getElem_mem hi')))).mono ?_
    rintro _ w11 ⟨rfl, hb11⟩
    have hb1011 := below_then hdr10 hb11
    refine ⟨_, hb1011, fun _ h => h, ?_⟩
    (repeat with_reducible first|refine z_W ?_|refine z_a ?_|refine z_b ?_|refine z_c ?_|refine z_d ?_|refine z_e ?_|refine z_f ?_|refine z_g ?_|refine z_h ?_|refine z_i ?_|refine z_j ?_|refine z_k ?_|refine z_l ?_|refine z_X (by omega) ?_|refine z_Y (by omega) ?_|refine z_Z (by omega) ?_|refine z_a1 (by omega) ?_|refine z_b1 (by omega) ?_|refine z_c1 (by omega) ?_|refine z_d1 (by omega) ?_|refine z_e1 (by omega) ?_|refine z_f1 (by omega) ?_|refine z_g1 (by omega) ?_|refine z_h1 (by omega) ?_|refine z_i1 (by omega) ?_|refine z_j1 (by omega) ?_|refine z_k1 (by omega) ?_|refine z_l1 ?_|refine z_m1 ?_|refine z_n1 ?_|refine z_o1 ?_|refine z_p1 ?_|refine z_q1 ?_|refine z_r1 ?_|refine z_s1 ?_|refine z_t1 ?_|refine z_u1 ?_|refine z_v1 (by omega) (by decide) ?_|refine z_w1 (by omega) (by decide) ?_|refine z_x1 (by omega) ?_|refine z_y1 (by omega) ?_|refine z_z1 (by omega) ?_|refine z_A1 ?_|refine z_B1 ?_|refine z_C1 ?_|refine z_D1 ?_|refine z_E1 ?_|refine z_F1 (by decide) ?_|refine z_G1 (by decide) ?_)
    (repeat with_reducible first|refine z_a ?_|refine z_b ?_|refine z_c ?_|refine z_d ?_|refine z_e ?_|refine z_f ?_|refine z_g ?_|refine z_h ?_|refine z_i ?_|refine z_j ?_|refine z_k ?_|refine z_l ?_|refine z_m (by omega) ?_|refine z_n (by omega) ?_|refine z_o (by omega) ?_|refine z_p (by omega) ?_|refine z_q (by omega) ?_|refine z_r (by omega) ?_|refine z_s (by omega) ?_|refine z_t (by omega) ?_|refine z_u (by omega) ?_|refine z_v (by omega) ?_|refine z_w (by omega) ?_|refine z_x (by omega) ?_|refine z_y (by omega) ?_|refine z_z (by omega) ?_|refine z_A ?_|refine z_B ?_|refine z_C ?_|refine z_D ?_|refine z_E ?_|refine z_F ?_|refine z_G ?_|refine z_H ?_|refine z_I ?_|refine z_J ?_|refine z_K (by omega) (by decide) ?_|refine z_L (by omega) (by decide) ?_|refine z_M (by omega) ?_|refine z_N (by omega) ?_|refine z_O (by omega) ?_|refine z_P ?_|refine z_Q ?_|refine z_R ?_|refine z_S ?_|refine z_T ?_|refine z_U (by decide) ?_|refine z_V (by decide) ?_)
    refine hJ4 _ _ _ ⟨_, j + 1, by omega, by simp, rfl, ?_, below_then hb10 hb1011⟩ (by simp [intOf]; omega)
    rw [htake, decide_eq_true_iff, List.mem_append]
    constructor
    · intro h6
      refine .inr (List.mem_singleton.2 ?_)
      rw [h5, h6]
    · rintro (h6 | h6)
      · exact absurd h6 hnot
      · exact (congrArg Prod.snd (List.mem_singleton.1 h6) :).symm
  · (repeat with_reducible first | refine gaU ?_|refine z_W ?_|refine z_a ?_|refine z_b ?_|refine z_c ?_|refine z_d ?_|refine z_e ?_|refine z_f ?_|refine z_g ?_|refine z_h ?_|refine z_i ?_|refine z_j ?_|refine z_k ?_|refine z_l ?_|refine z_X (by omega) ?_|refine z_Y (by omega) ?_|refine z_Z (by omega) ?_|refine z_a1 (by omega) ?_|refine z_b1 (by omega) ?_|refine z_c1 (by omega) ?_|refine z_d1 (by omega) ?_|refine z_e1 (by omega) ?_|refine z_f1 (by omega) ?_|refine z_g1 (by omega) ?_|refine z_h1 (by omega) ?_|refine z_i1 (by omega) ?_|refine z_j1 (by omega) ?_|refine z_k1 (by omega) ?_|refine z_l1 ?_|refine z_m1 ?_|refine z_n1 ?_|refine z_o1 ?_|refine z_p1 ?_|refine z_q1 ?_|refine z_r1 ?_|refine z_s1 ?_|refine z_t1 ?_|refine z_u1 ?_|refine z_v1 (by omega) (by decide) ?_|refine z_w1 (by omega) (by decide) ?_|refine z_x1 (by omega) ?_|refine z_y1 (by omega) ?_|refine z_z1 (by omega) ?_|refine z_A1 ?_|refine z_B1 ?_|refine z_C1 ?_|refine z_D1 ?_|refine z_E1 ?_|refine z_F1 (by decide) ?_|refine z_G1 (by decide) ?_)
    (repeat with_reducible first|refine z_a ?_|refine z_b ?_|refine z_c ?_|refine z_d ?_|refine z_e ?_|refine z_f ?_|refine z_g ?_|refine z_h ?_|refine z_i ?_|refine z_j ?_|refine z_k ?_|refine z_l ?_|refine z_m (by omega) ?_|refine z_n (by omega) ?_|refine z_o (by omega) ?_|refine z_p (by omega) ?_|refine z_q (by omega) ?_|refine z_r (by omega) ?_|refine z_s (by omega) ?_|refine z_t (by omega) ?_|refine z_u (by omega) ?_|refine z_v (by omega) ?_|refine z_w (by omega) ?_|refine z_x (by omega) ?_|refine z_y (by omega) ?_|refine z_z (by omega) ?_|refine z_A ?_|refine z_B ?_|refine z_C ?_|refine z_D ?_|refine z_E ?_|refine z_F ?_|refine z_G ?_|refine z_H ?_|refine z_I ?_|refine z_J ?_|refine z_K (by omega) (by decide) ?_|refine z_L (by omega) (by decide) ?_|refine z_M (by omega) ?_|refine z_N (by omega) ?_|refine z_O (by omega) ?_|refine z_P ?_|refine z_Q ?_|refine z_R ?_|refine z_S ?_|refine z_T ?_|refine z_U (by decide) ?_|refine z_V (by decide) ?_)
    refine hJ4 _ _ _ ⟨false, j + 1, by omega, by simp, rfl, ⟨fun h => (by cases h), fun h6 => ?_⟩, below_then hb10 hdr10⟩ (by simp [intOf]; omega)
    rw [htake, List.mem_append] at h6
    rcases h6 with h6 | h6
    · exact absurd h6 hnot
    · exact absurd (congrArg Prod.fst (List.mem_singleton.1 h6) :).symm h5
end Go.Proofs.YtonblppkidpmlaaGreatDoor.E
