import Derived.Test.YtonblppkidpmlaaGreatDoorMc
namespace Go.Proofs.YtonblppkidpmlaaGreatDoor.E
open Go Go.RowKit
set_option linter.unusedSimpArgs false
set_option linter.unusedVariables false

theorem Shows22 (id : Int) (vf : Value) (fs : List Int) (vr : Value) (rec : List ValT) (w : World) (hf : Rd w vf (iV fs)) (hr : Vals w [vr] rec) :
    CallP Tryz.prog 22 #[.agg #[.int .i64 id, vf], vr] (fun r w' => ShowR w w' r (showV id fs rec)) w := by
  have hok := vals_ok hr
  have hf0 := hf
  obtain ⟨A, c, rfl, hc, hm⟩ := hf.slice
  obtain ⟨B, d, rfl, hd, hmd⟩ := hr.slice
  have hlen : (iV fs).length = fs.length := List.length_map _
  rw [hlen] at hf hf0 hc ⊢
  refine ⟨S22.calls _ _ _ _ ?_⟩
  unfold S22
  refine bxB ?_
  intro g w1 hg1 hB1 hb1
  refine ldA aggIx hB1 (by exact szIx) ?_
  refine (CheckIndex34 id _ fs w1 (hf0.below hb1)).mono ?_
  rintro _ w2 ⟨rfl, hb2⟩
  have hb12 := below_then hb1 hb2
  refine bi_neq_c (fun h0 => ?_) (fun h0 => ?_)
  · (repeat with_reducible first|refine z_b ?_|refine z_f ?_|refine z_k ?_)
    have : showV id fs rec = none := by unfold showV; rw [if_pos (.inl h0)]
    exact ⟨hb12, fun _ => rfl, fun key h => (by rw [this] at h; cases h)⟩
  (repeat with_reducible first|refine z_d ?_)
  refine (refCheck_spec _ rec w2 (keeps_Vals _ _ _ _ hb12 hr)).mono ?_
  rintro _ w3 ⟨rfl, hb3⟩
  have hb13 := below_then hb12 hb3
  (repeat with_reducible first|refine z_d ?_)
  refine bi_neq_c (fun h1 => ?_) (fun h1 => ?_)
  · (repeat with_reducible first|refine z_b ?_|refine z_l ?_)
    have : showV id fs rec = none := by unfold showV; rw [if_pos (.inr h1)]
    exact ⟨hb13, fun _ => rfl, fun key h => (by rw [this] at h; cases h)⟩
  have hsv : showV id fs rec = shown rec fs := by unfold showV; rw [if_neg (fun h => h.elim (fun h => h h0) (fun h => h h1))]
  obtain ⟨_, _, hl2, hckF⟩ := ckX_0 (id := id) (fs := fs) h0
  rw [hsv]
  have q1 : ∀ w', Below w.heap.size w w' → Below w1.heap.size w1 w' → w'.cell? ⟨g, 1, none⟩ = some (.slice A fs.length c) := fun w' _ h => (hB1.below' h).cell 1
  have hb03 := below_then hb2 hb3
  (repeat with_reducible first|refine z_c ?_|refine z_l ?_)
  refine LoopP.inv2 (fun rv iv w' => ∃ (k : Nat) (acc : List ValT), k ≤ fs.length ∧ iv = .int .i64 k ∧ acc.length = k ∧ shown rec fs = (shown rec (fs.drop k)).map (acc ++ ·) ∧ OwnV w1 w' rv acc) (fun _ iv _ => fs.length - (intOf iv).toNat) ⟨0, [], by omega, rfl, rfl, by simp, OwnL.nil hb03⟩ ?_
  rintro rv _ w5 ⟨k, acc, hk, rfl, hacc, hsh, ho5⟩ J hJ
  dsimp only [List.headD_cons, List.tail_cons]
  have hb05 := below_then hb1 ho5.bel
  (repeat with_reducible first|refine fd x1 (by decide) ?_|refine ld oneIs (q1 _ hb05 ho5.bel) ?_|refine ln undIs ?_)
  refine bi_lss_c (fun h => ?_) (fun h => ?_)
  · have hk' : k < fs.length := by omega
    have hst := shown_step hk' hsh
    obtain ⟨a, rfl, hca⟩ := Rd.atI (hf0.below hb05) k hk'
    have hb := hckF.1 _ (List.getElem_mem hk')
    (repeat with_reducible first|refine fd x1 (by decide) ?_|refine ld oneIs (q1 _ hb05 ho5.bel) ?_|refine z_b ?_)
    refine ix1 undIs szI hk' ?_
    refine ld oneI hca ?_
    refine ln undVs ?_
    refine bi_geq_c (fun h1 => ?_) (fun h1 => ?_)
    · (repeat with_reducible first|refine z_b ?_|refine z_f ?_|refine z_k ?_)
      have e : shown rec fs = none := hst.1 (List.getElem?_eq_none (by omega))
      exact ⟨hb05, fun _ => rfl, fun key h => (by rw [e] at h; cases h)⟩
    obtain ⟨n, hn, hfn⟩ : ∃ n : Nat, n < rec.length ∧ fs[k] = n := ⟨fs[k].toNat, by omega, by omega⟩
    rw [hfn] at hst ⊢
    have hst2 := hst.2 rec[n] (List.getElem?_eq_getElem hn)
    obtain ⟨a', us, rfl, hus, hcell, hrd⟩ := rRow.at (keeps_Vals _ _ _ _ hb05 hr) n hn
    obtain ⟨rfl, _⟩ := val_cells hrd
    (repeat with_reducible first|refine z_d ?_)
    refine ixN undVs szVal n hn ?_
    (repeat with_reducible first|refine z_d ?_)
    refine fdA v0 (by decide) ?_
    (repeat with_reducible first|refine z_d ?_)
    refine ld one3 (hcell 0 _ rfl) ?_
    (repeat with_reducible first|refine z_d ?_)
    refine bi_eql_c (fun h2 => ?_) (fun h2 => ?_)
    · (repeat with_reducible first|refine z_b ?_|refine z_l ?_)
      have e := hst2.1 h2
      exact ⟨hb05, fun _ => rfl, fun key h => (by rw [e] at h; cases h)⟩
    (repeat with_reducible first|refine z_c ?_|refine z_l ?_)
    refine ixN undVs szVal n hn ?_
    refine ldR aggVal hcell (by rw [szVal]; rfl) ?_
    refine ho5.pushV (by omega) rec[n] ?_
    intro v6 w6 ho6
    (repeat with_reducible first|refine z_o (by omega) ?_)
    exact hJ _ _ _ ⟨k + 1, acc ++ [rec[n]], by omega, by simp, by simp [hacc], hst2.2 h2, ho6⟩ (by simp [intOf]; omega)
  · have : k = fs.length := by omega
    subst this
    rw [List.drop_length] at hsh
    have e : shown rec fs = some acc := by rw [hsh]; simp [shown]
    (repeat with_reducible first|refine z_c ?_)
    refine ⟨hb05, fun h => (by rw [e] at h; cases h), fun key h => ?_⟩
    rw [e] at h
    cases h
    exact ⟨⟨_, rfl, ho5.old hb1⟩, fun x hx => ((shown_ok hok fs acc e).1 x hx).1⟩
def liesV (key low high : List ValT) : Bool := decide (rowE key = 0 ∧ rowE low = 0 ∧ rowE high = 0 ∧ 0 ≤ compV key low ∧ compV (key.take high.length) high ≤ 0)
theorem undVVs : Tryz.prog.underlying 133 = some (.slice 22) := by kernel_rfl
theorem Lies78 (va vb vc : Value) (key low high : List ValT) (w : World) (ha : Vals w [va] key) (hb : Vals w [vb] low) (hc : Vals w [vc] high) (hm : GMx w) :
    CallP Tryz.prog 78 #[va, vb, vc] (fun r w' => r = .bool (liesV key low high) ∧ Below w.heap.size w w') w := by
  obtain ⟨A, ca, rfl, hca, _⟩ := ha.slice
  obtain ⟨B, cb, rfl, hcb, _⟩ := hb.slice
  obtain ⟨C, cc, rfl, hcc, _⟩ := hc.slice
  refine ⟨S78.calls _ _ _ _ _ ?_⟩
  unfold S78
  refine lift (v := .slice (some ⟨w.heap.size, 0, none⟩) 3 3) (w' := w.alloc (.cells #[.slice A key.length ca, .slice B low.length cb, .slice C high.length cc] 22)) (by kernel_rfl) ?_
  have hB := Blk.new w 22 #[.slice A key.length ca, .slice B low.length cb, .slice C high.length cc]
  have hal := (Below.refl w.heap.size w).alloc (Nat.le_refl _) (.cells #[.slice A key.length ca, .slice B low.length cb, .slice C high.length cc] 22)
  generalize w.alloc (.cells #[.slice A key.length ca, .slice B low.length cb, .slice C high.length cc] 22) = w1 at *
  have h3 : (3 : Int) = ((3 : Nat) : Int) := rfl
  refine ln undVVs ?_
  refine LoopP.inv1 (fun iv w' => ∃ k : Nat, k ≤ 3 ∧ iv = .int .i64 k ∧ (1 ≤ k → rowE key = 0) ∧ (2 ≤ k → rowE low = 0) ∧ (3 ≤ k → rowE high = 0) ∧ Below w1.heap.size w1 w') (fun iv _ => 3 - (intOf iv).toNat) ⟨0, by omega, rfl, by omega, by omega, by omega, Below.refl _ _⟩ ?_
  rintro _ w2 ⟨k, hk, rfl, r1, r2, r3, hb2⟩ J hJ
  dsimp only [List.headD_cons, List.tail_cons]
  have hb02 := below_then hal hb2
  have hB2 := hB.below' hb2
  refine bi_lss_c (fun h => ?_) (fun h => ?_)
  · have hk' : k = 0 ∨ k = 1 ∨ k = 2 := by omega
    rcases hk' with rfl | rfl | rfl
    · (repeat with_reducible first|refine z_b ?_)
      refine ixG undVVs szVs 0 (by omega) ?_
      refine ld oneVs (hB2.cell 0) ?_
      refine (Key64 _ key w2 (keeps_Vals _ _ _ _ hb02 ha) (hm.below hb02)).mono ?_
      rintro _ w3 ⟨rfl, hb3⟩
      unfold keyV
      (repeat with_reducible first|refine z_A ?_|refine z_B ?_)
      refine bi_neq_c (fun h4 => ?_) (fun h4 => ?_)
      · (repeat with_reducible first|refine z_b ?_)
        exact ⟨by unfold liesV; rw [decide_eq_false fun e => h4 e.1], below_then hb02 hb3⟩
      · (repeat with_reducible first|refine z_c ?_|refine z_o (by omega) ?_)
        exact hJ _ _ ⟨1, by omega, rfl, fun _ => h4, by omega, by omega, below_then hb2 hb3⟩ (by simp [intOf])
    · (repeat with_reducible first|refine z_b ?_)
      refine ixG undVVs szVs 1 (by omega) ?_
      refine ld oneVs (hB2.cell 1) ?_
      refine (Key64 _ low w2 (keeps_Vals _ _ _ _ hb02 hb) (hm.below hb02)).mono ?_
      rintro _ w3 ⟨rfl, hb3⟩
      unfold keyV
      (repeat with_reducible first|refine z_A ?_|refine z_B ?_)
      refine bi_neq_c (fun h4 => ?_) (fun h4 => ?_)
      · (repeat with_reducible first|refine z_b ?_)
        exact ⟨by unfold liesV; rw [decide_eq_false fun e => h4 e.2.1], below_then hb02 hb3⟩
      · (repeat with_reducible first|refine z_c ?_|refine z_o (by omega) ?_)
        exact hJ _ _ ⟨2, by omega, rfl, fun _ => r1 (by omega), fun _ => h4, by omega, below_then hb2 hb3⟩ (by simp [intOf])
    · (repeat with_reducible first|refine z_b ?_)
      refine ixG undVVs szVs 2 (by omega) ?_
      refine ld oneVs (hB2.cell 2) ?_
      refine (Key64 _ high w2 (keeps_Vals _ _ _ _ hb02 hc) (hm.below hb02)).mono ?_
      rintro _ w3 ⟨rfl, hb3⟩
      unfold keyV
      (repeat with_reducible first|refine z_A ?_|refine z_B ?_)
      refine bi_neq_c (fun h4 => ?_) (fun h4 => ?_)
      · (repeat with_reducible first|refine z_b ?_)
        exact ⟨by unfold liesV; rw [decide_eq_false fun e => h4 e.2.2.1], below_then hb02 hb3⟩
      · (repeat with_reducible first|refine z_c ?_|refine z_o (by omega) ?_)
        exact hJ _ _ ⟨3, by omega, rfl, fun _ => r1 (by omega), fun _ => r2 (by omega), fun _ => h4, below_then hb2 hb3⟩ (by simp [intOf])
  · have h3 : k = 3 := by omega
    have e1 := r1 (by omega)
    have e2 := r2 (by omega)
    have e3 := r3 (by omega)
    (repeat with_reducible first|refine z_c ?_)
    refine (Compare93 _ _ key low w2 (keeps_Vals _ _ _ _ hb02 ha) (keeps_Vals _ _ _ _ hb02 hb)).mono ?_
    rintro _ w3 ⟨rfl, hb3⟩
    have hb03 := below_then hb02 hb3
    refine bi_geq_c (fun h4 => ?_) (fun h4 => ?_)
    · (repeat with_reducible first|refine z_d ?_)
      refine ln undVs ?_
      (repeat with_reducible first|refine z_d ?_)
      refine ln undVs ?_
      (repeat with_reducible first|refine z_d ?_)
      refine mnI ?_
      (repeat with_reducible first|refine z_d ?_)
      refine ctTo (k := min key.length high.length) undVs szVal (keeps_Vals _ _ _ _ hb03 ha) (Nat.min_le_left _ _) (by omega) ?_
      intro v4 hv4
      have et : key.take (min key.length high.length) = key.take high.length := by
        rcases Nat.le_total key.length high.length with h | h
        · rw [Nat.min_eq_left h, List.take_of_length_le (Nat.le_refl _), List.take_of_length_le h]
        · rw [Nat.min_eq_right h]
      rw [et] at hv4
      (repeat with_reducible first|refine z_d ?_)
      refine (Compare93 _ _ (key.take high.length) high w3 hv4 (keeps_Vals _ _ _ _ hb03 hc)).mono ?_
      rintro _ w4 ⟨rfl, hb4⟩
      (repeat with_reducible first|refine z_d ?_)
      refine bi_leq ?_
      (repeat with_reducible first|refine z_k ?_)
      refine ⟨?_, below_then hb03 hb4⟩
      unfold liesV
      congr 1
      rw [decide_eq_decide]
      exact ⟨fun h => ⟨e1, e2, e3, h4, h⟩, fun h => h.2.2.2.2⟩
    · (repeat with_reducible first|refine z_e ?_|refine z_l ?_)
      exact ⟨by unfold liesV; rw [decide_eq_false fun e => h4 e.2.2.2.1], hb03⟩
theorem Lies23 (va vb vc : Value) (key low high : List ValT) (w : World) (ha : Vals w [va] key) (hb : Vals w [vb] low) (hc : Vals w [vc] high) :
    CallP Tryz.prog 23 #[va, vb, vc] (fun r w' => r = .bool (liesV key low high) ∧ Below w.heap.size w w') w := by
  obtain ⟨A, ca, rfl, hca, _⟩ := ha.slice
  obtain ⟨B, cb, rfl, hcb, _⟩ := hb.slice
  obtain ⟨C, cc, rfl, hcc, _⟩ := hc.slice
  refine ⟨S23.calls _ _ _ _ _ ?_⟩
  unfold S23
  refine (refRow_spec _ key w ha).mono ?_
  rintro _ w1 ⟨rfl, hb1⟩
  refine bi_neq_c (fun e1 => ?_) (fun e1 => ?_)
  · (repeat with_reducible first|refine z_b ?_|refine z_f ?_|refine z_k ?_)
    exact ⟨by unfold liesV; rw [decide_eq_false fun e => e1 e.1], hb1⟩
  (repeat with_reducible first|refine z_d ?_)
  refine (refRow_spec _ low w1 (keeps_Vals _ _ _ _ hb1 hb)).mono ?_
  rintro _ w2 ⟨rfl, hb2⟩
  have hb02 := below_then hb1 hb2
  (repeat with_reducible first|refine z_d ?_)
  refine bi_neq_c (fun e2 => ?_) (fun e2 => ?_)
  · (repeat with_reducible first|refine z_b ?_|refine z_f ?_|refine z_k ?_|refine z_l ?_)
    exact ⟨by unfold liesV; rw [decide_eq_false fun e => e2 e.2.1], hb02⟩
  (repeat with_reducible first|refine z_d ?_|refine z_l ?_)
  refine (refRow_spec _ high w2 (keeps_Vals _ _ _ _ hb02 hc)).mono ?_
  rintro _ w3 ⟨rfl, hb3⟩
  have hb03 := below_then hb02 hb3
  (repeat with_reducible first|refine z_d ?_)
  refine bi_neq_c (fun e3 => ?_) (fun e3 => ?_)
  · (repeat with_reducible first|refine z_b ?_|refine z_l ?_)
    exact ⟨by unfold liesV; rw [decide_eq_false fun e => e3 e.2.2.1], hb03⟩
  (repeat with_reducible first|refine z_c ?_|refine z_l ?_)
  refine JoinP.cut (fun vs w' => ∃ v, vs = [v] ∧ Vals w' [v] (key.take high.length) ∧ w' = w3) ?_ ?_
  · intro J hJ
    refine ln undVs ?_
    refine ln undVs ?_
    refine bi_gtr_c (fun h => ?_) (fun h => ?_)
    · (repeat with_reducible first|refine z_b ?_)
      refine ln undVs ?_
      refine ctTo (k := high.length) undVs szVal (keeps_Vals _ _ _ _ hb03 ha) (by omega) rfl ?_
      intro v4 hv4
      exact hJ _ _ ⟨_, rfl, hv4, rfl⟩
    · (repeat with_reducible first|refine z_c ?_)
      refine hJ _ _ ⟨_, rfl, ?_, rfl⟩
      rw [List.take_of_length_le (by omega)]
      exact keeps_Vals _ _ _ _ hb03 ha
  · rintro _ w3 ⟨v4, rfl, hv4, rfl⟩
    refine (Compare51 _ _ key low w3 (keeps_Vals _ _ _ _ hb03 ha) (keeps_Vals _ _ _ _ hb03 hb)).mono ?_
    rintro _ w4 ⟨rfl, hb4⟩
    have hb04 := below_then hb03 hb4
    refine bi_geq_c (fun h4 => ?_) (fun h4 => ?_)
    · (repeat with_reducible first|refine z_d ?_)
      refine (Compare51 _ _ (key.take high.length) high w4 (keeps_Vals _ _ _ _ hb4 hv4) (keeps_Vals _ _ _ _ hb04 hc)).mono ?_
      rintro _ w5 ⟨rfl, hb5⟩
      (repeat with_reducible first|refine z_d ?_)
      refine bi_leq ?_
      (repeat with_reducible first|refine z_k ?_)
      refine ⟨?_, below_then hb04 hb5⟩
      unfold liesV
      congr 1
      rw [decide_eq_decide]
      exact ⟨fun h => ⟨e1, e2, e3, h4, h⟩, fun h => h.2.2.2.2⟩
    · (repeat with_reducible first|refine z_e ?_|refine z_l ?_)
      exact ⟨by unfold liesV; rw [decide_eq_false fun e => h4 e.2.2.2.1], hb04⟩
end Go.Proofs.YtonblppkidpmlaaGreatDoor.E
