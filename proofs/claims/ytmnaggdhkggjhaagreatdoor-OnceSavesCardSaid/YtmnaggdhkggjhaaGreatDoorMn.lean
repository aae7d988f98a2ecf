import Derived.Test.YtmnaggdhkggjhaaGreatDoorMm
namespace Go.Proofs.YtmnaggdhkggjhaaGreatDoor.E
open Go Go.Proofs Go.RowKit Classical
set_option linter.unusedSimpArgs false
set_option linter.unusedVariables false

theorem sameV_iff (x y : ValT) : sameV x y = true ↔ x = y := Pl.sameV_iff x y
theorem sameVals_dec (v v' : Value) (vs us : List ValT) (w : World) (hv : Vals w [v] vs) (hv' : Vals w [v'] us) : CallP Tryz.prog 59 #[v, v'] (fun r w' => r = .bool (decide (vs = us)) ∧ Below w.heap.size w w') w := by
  obtain ⟨A, c, rfl, hc, hm⟩ := hv.slice
  obtain ⟨A', c', rfl, hc', hm'⟩ := hv'.slice
  refine ⟨S59.calls _ _ _ _ ?_⟩
  unfold S59
  refine ln und23 ?_
  refine ln und23 ?_
  refine bi_neq_c (fun h => ?_) (fun hlen => ?_)
  · (repeat with_reducible first|refine z_b ?_)
    exact ⟨by rw [decide_eq_false fun e => h (by rw [e])], Below.refl _ _⟩
  have hlen : vs.length = us.length := by omega
  (repeat with_reducible first|refine z_c ?_)
  refine LoopP.inv1 (fun iv w' => ∃ k : Nat, k ≤ vs.length ∧ iv = .int .i64 k ∧ vs.take k = us.take k ∧ Below w.heap.size w w') (fun iv _ => vs.length - (intOf iv).toNat) ⟨0, by omega, rfl, rfl, Below.refl _ _⟩ ?_
  rintro _ w1 ⟨k, hk, rfl, heq, hb1⟩ J hJ
  dsimp only [List.headD_cons, List.tail_cons]
  refine ln und23 ?_
  refine bi_lss_c (fun h => ?_) (fun h => ?_)
  · have hk' : k < vs.length := by omega
    have hk2 : k < us.length := by omega
    obtain ⟨a, us', rfl, hus, hcell, hrd⟩ := rRow.at (keeps_Vals _ _ _ _ hb1 hv) k hk'
    obtain ⟨rfl, hok⟩ := val_cells hrd
    obtain ⟨a', us'', rfl, hus', hcell', hrd'⟩ := rRow.at (keeps_Vals _ _ _ _ hb1 hv') k hk2
    obtain ⟨rfl, _⟩ := val_cells hrd'
    have hdr : Below w1.heap.size w1 w1.drew := (Below.refl _ _).drew
    (repeat with_reducible first|refine z_b ?_)
    refine draw (Below w1.heap.size w1) hdr ?_
    refine yixA und23 sz36 k hk' ?_
    refine yldR agg36 (keepC hcell) (by rw [sz36]; rfl) ?_
    refine yixA und23 sz36 k hk2 ?_
    refine yldR agg36 (keepC hcell') (by rw [sz36]; rfl) ?_
    refine yofPR (pr_neq36 vs[k] us[k]) ?_
    by_cases e : vs[k] = us[k]
    · rw [show (!sameV vs[k] us[k]) = false from by rw [(sameV_iff _ _).2 e]; rfl]
      (repeat with_reducible first|refine z_c ?_|refine z_o (by omega) ?_)
      refine hJ _ _ ⟨k + 1, by omega, by simp, ?_, below_then hb1 hdr⟩ (by simp [intOf]; omega)
      rw [List.take_succ_eq_append_getElem hk', List.take_succ_eq_append_getElem hk2, heq, e]
    · rw [show (!sameV vs[k] us[k]) = true from by rw [Bool.eq_false_iff.2 fun h => e ((sameV_iff _ _).1 h)]; rfl]
      (repeat with_reducible first|refine z_b ?_)
      refine ⟨?_, below_then hb1 hdr⟩
      rw [decide_eq_false]
      intro e2
      subst e2
      exact e rfl
  · (repeat with_reducible first|refine z_c ?_)
    have hkl : k = vs.length := by omega
    rw [hkl, List.take_length, hlen, List.take_length] at heq
    exact ⟨by rw [decide_eq_true heq], hb1⟩
/-- Replies compared, without rows. -/
theorem sameRep_dec (R R' : Rep) (p q p' q' : Value) (vs us : List ValT) (w : World) (hp : Vals w [p] vs) (hp' : Vals w [p'] us) (hq : RowsR w [q] []) (hq' : RowsR w [q'] []) :
    CallP Tryz.prog 34 #[.agg (R.cells p q), .agg (R'.cells p' q')] (fun r w' => r = .bool (decide ((R, vs) = (R', us))) ∧ Below w.heap.size w w') w := by
  refine ⟨S34.calls _ _ _ _ ?_⟩
  unfold S34
  refine bx ?_
  have hL : Blk (w.alloc (.cells (Value.agg (R.cells p q)).cells 39)) w.heap.size 39 (R.cells p q) := Blk.new w 39 _
  have ha := (Below.refl w.heap.size w).alloc (Nat.le_refl _) (.cells (Value.agg (R.cells p q)).cells 39)
  generalize w.alloc (.cells (Value.agg (R.cells p q)).cells 39) = w1 at *
  refine bx ?_
  have hM : Blk (w1.alloc (.cells (Value.agg (R'.cells p' q')).cells 39)) w1.heap.size 39 (R'.cells p' q') := Blk.new w1 39 _
  have ha2 := (Below.refl w1.heap.size w1).alloc (Nat.le_refl _) (.cells (Value.agg (R'.cells p' q')).cells 39)
  have hL2 := hL.below' ha2
  generalize hg2 : w1.heap.size = g2 at *
  generalize w1.alloc (.cells (Value.agg (R'.cells p' q')).cells 39) = w2 at *
  have hb2 : Below w.heap.size w w2 := ha.trans (ha2.mono (by have := ha.size; omega))
  have c0 : w2.cell? ⟨w.heap.size, 0, none⟩ = some (.int .i64 R.code) := hL2.cell 0
  have c1 : w2.cell? ⟨w.heap.size, 1, none⟩ = some (.bool R.there) := hL2.cell 1
  have c2 : w2.cell? ⟨w.heap.size, 2, none⟩ = some p := hL2.cell 2
  have c4 : w2.cell? ⟨w.heap.size, 4, none⟩ = some (.int .i64 R.id) := hL2.cell 4
  have d0 : w2.cell? ⟨g2, 0, none⟩ = some (.int .i64 R'.code) := hM.cell 0
  have d1 : w2.cell? ⟨g2, 1, none⟩ = some (.bool R'.there) := hM.cell 1
  have d2 : w2.cell? ⟨g2, 2, none⟩ = some p' := hM.cell 2
  have d4 : w2.cell? ⟨g2, 4, none⟩ = some (.int .i64 R'.id) := hM.cell 4
  have no : (R, vs) ≠ (R', us) → Value.bool false = .bool (decide ((R, vs) = (R', us))) ∧ Below w.heap.size w w2 := fun h => ⟨by rw [decide_eq_false h], hb2⟩
  refine fd r0 (by decide) ?_
  refine ld one22 c0 ?_
  refine fd r0 (by decide) ?_
  refine ld one22 d0 ?_
  refine bi_eql_c (fun h0 => ?_) (fun h0 => ?_)
  rotate_left
  · (repeat with_reducible first|refine z_e ?_|refine z_l ?_)
    exact no fun e => h0 (congrArg (fun x : Rm => x.1.code) e)
  (repeat with_reducible first|refine fd r1 (by decide) ?_|refine ld one4 c1 ?_|refine ld one4 d1 ?_|refine z_d ?_)
  refine bi_beql und4 ?_
  by_cases h1 : R.there = R'.there
  rotate_left
  · rw [decide_eq_false h1]
    (repeat with_reducible first|refine z_e ?_|refine z_k ?_|refine z_l ?_)
    exact no fun e => h1 (congrArg (fun x : Rm => x.1.there) e)
  rw [decide_eq_true h1]
  (repeat with_reducible first|refine fd r4 (by decide) ?_|refine ld one3 c4 ?_|refine ld one3 d4 ?_|refine z_d ?_|refine z_k ?_)
  refine bi_eql_c (fun h4 => ?_) (fun h4 => ?_)
  rotate_left
  · (repeat with_reducible first|refine z_e ?_|refine z_k ?_|refine z_l ?_)
    exact no fun e => h4 (congrArg (fun x : Rm => x.1.id) e)
  (repeat with_reducible first|refine fd r2 (by decide) ?_|refine ld one24 c2 ?_|refine ld one24 d2 ?_|refine z_d ?_|refine z_k ?_)
  refine (sameVals_dec _ _ vs us w2 (keeps_Vals _ _ _ _ hb2 hp) (keeps_Vals _ _ _ _ hb2 hp')).mono ?_
  rintro _ w3 ⟨rfl, hb3⟩
  have hb3' := below_then hb2 hb3
  have hR : R = R' := by
    obtain ⟨a, b, c⟩ := R
    obtain ⟨a', b', c'⟩ := R'
    simp only at h0 h1 h4
    subst h0 h1 h4
    rfl
  by_cases h3 : vs = us
  rotate_left
  · rw [decide_eq_false h3]
    (repeat with_reducible first|refine z_e ?_|refine z_k ?_|refine z_l ?_)
    exact ⟨by rw [decide_eq_false fun e => h3 (congrArg (fun x : Rm => x.2) e)], hb3'⟩
  rw [decide_eq_true h3]
  have c3 : w3.cell? ⟨w.heap.size, 3, none⟩ = some q := (hL2.below' hb3).cell 3
  have d3 : w3.cell? ⟨g2, 3, none⟩ = some q' := (hM.below' hb3).cell 3
  (repeat with_reducible first|refine fd r3 (by decide) ?_|refine ld one25 c3 ?_|refine ld one25 d3 ?_|refine z_d ?_|refine z_k ?_)
  refine (noRows_spec _ _ w3 (keeps_RowsR _ _ _ _ hb3' hq) (keeps_RowsR _ _ _ _ hb3' hq')).mono ?_
  rintro _ _ ⟨rfl, rfl⟩
  (repeat with_reducible first|refine z_k ?_)
  exact ⟨by rw [decide_eq_true (by rw [hR, h3])], hb3'⟩
def absO (x : OneM) : Int × Int × Rm := (x.cl, x.no, x.R, x.vs)
theorem agg84' : aggB Tryz.prog 88 = true := by kernel_rfl
def sameF (x y : Int × Int) : Bool := x.1 == y.1 && (x.2 == y.2 && true)
theorem run_eqF (x y : Int × Int) (w : World) : (Op.eqFields 9999 (flF x).toArray (flF y).toArray (Tryz.prog.fieldsOf 88).toList).run Tryz.prog w = .ok (sameF x y) w := by
  have e : (Tryz.prog.fieldsOf 88).toList = [(Tryz.prog.fieldsOf 88)[0]!, (Tryz.prog.fieldsOf 88)[1]!] := by kernel_rfl
  rw [e]
  have t0 : ((Tryz.prog.fieldsOf 88)[0]!).type = 3 := by kernel_rfl
  have t1 : ((Tryz.prog.fieldsOf 88)[1]!).type = 3 := by kernel_rfl
  have o0 : ((Tryz.prog.fieldsOf 88)[0]!).offset = 0 := by kernel_rfl
  have o1 : ((Tryz.prog.fieldsOf 88)[1]!).offset = 1 := by kernel_rfl
  refine eqFields_cons (by decide +kernel) (by rw [t0]; exact und3) rfl (u := .int .i64 x.1) (u' := .int .i64 y.1) (by rw [o0]; rfl) (by rw [o0]; rfl) (by rw [t0, run_equalIn_int w 9998 3 .i64 .i64 _ _ und3]) ?_
  refine eqFields_cons (by decide +kernel) (by rw [t1]; exact und3) rfl (u := .int .i64 x.2) (u' := .int .i64 y.2) (by rw [o1]; rfl) (by rw [o1]; rfl) (by rw [t1, run_equalIn_int w 9998 3 .i64 .i64 _ _ und3]) ?_
  simp [Op.eqFields]
theorem guardF : Tryz.prog.eqGuardType Tryz.prog.depth 88 = false := by kernel_rfl
theorem fieldsF : Tryz.prog.underlying 88 = some (.struct (Tryz.prog.fieldsOf 88)) := by kernel_rfl
theorem heldF : Tryz.prog.stoodInHeld 88 = false := by kernel_rfl
theorem pr_neqF {x' y' : Operand} (x y : Int × Int) : PR Tryz.prog (binS .neq 88 x' y' (.agg (flF x).toArray) (.agg (flF y).toArray)) (.bool (decide (x ≠ y))) := by
  intro w
  have e : decide (x ≠ y) = !sameF x y := by
    obtain ⟨a, b⟩ := x
    obtain ⟨a', b'⟩ := y
    by_cases h1 : a = a'
    · by_cases h2 : b = b'
      · simp [sameF, h1, h2]
      · simp [sameF, h1, h2]
    · simp [sameF, h1]
  rw [e]
  simp only [binS, Sem.run_bind, run_eqGuard_agg w .neq 88 x' y' (flF x).toArray (flF y).toArray guardF, Result.andThen_ok]
  rw [run_neq_struct, run_equalIn_agg w 9999 88 _ _ fieldsF heldF, run_eqF]
  rfl
set_option maxHeartbeats 2000000 in
theorem refSame12 {h1 h2 : Nat} {c : Nat → Nat} {w : World} {ga gb : Nat} {vL vF vL' vF' : Value} {L L' : List OneM} {F F' : List (Int × Int)} (hA : RefAt h1 c w ga vL vF L F) (hB : RefAt h2 c w gb vL' vF' L' F') (hbL : L.length ≤ 100000) (hbF : F.length ≤ 100000) :
    CallP Tryz.prog 12 #[.pointer (some ⟨ga, 0, none⟩), .pointer (some ⟨gb, 0, none⟩)] (fun r w' => r = .bool (decide (L.map absO = L'.map absO ∧ F = F')) ∧ Below w.heap.size w w') w := by
  refine ⟨S12.calls _ _ _ _ ?_⟩
  unfold S12
  obtain ⟨A, cL, rfl, _, _⟩ := hA.rowL.slice
  obtain ⟨A', cL', rfl, _, _⟩ := hB.rowL.slice
  obtain ⟨Z, cF, rfl, _, _⟩ := hA.rowF.slice
  obtain ⟨Z', cF', rfl, _, _⟩ := hB.rowF.slice
  have hdr0 : Below w.heap.size w w.drew := (Below.refl _ _).drew
  have a0 : ∀ w', Below w.heap.size w w' → w'.cell? ⟨ga, 0, none⟩ = some (.slice A L.length cL) := fun w' hb => (hA.blk.below' hb).cell 0
  have a1 : ∀ w', Below w.heap.size w w' → w'.cell? ⟨ga, 1, none⟩ = some (.slice Z F.length cF) := fun w' hb => (hA.blk.below' hb).cell 1
  have b0 : ∀ w', Below w.heap.size w w' → w'.cell? ⟨gb, 0, none⟩ = some (.slice A' L'.length cL') := fun w' hb => (hB.blk.below' hb).cell 0
  have b1 : ∀ w', Below w.heap.size w w' → w'.cell? ⟨gb, 1, none⟩ = some (.slice Z' F'.length cF') := fun w' hb => (hB.blk.below' hb).cell 1
  refine draw (Below w.heap.size w) hdr0 ?_
  (repeat with_reducible first|refine yfd m0 (by decide) ?_|refine yl1 one42 a0 ?_|refine yln und42 ?_|refine yl1 one42 b0 ?_|refine z_W ?_)
  refine yi_neq ?_
  by_cases hl : L.length = L'.length
  rotate_left
  · rw [decide_eq_true (by omega)]
    (repeat with_reducible first|refine z_b ?_|refine z_f ?_|refine z_k ?_)
    skip
    refine ⟨?_, hdr0⟩
    rw [decide_eq_false]
    intro e
    have := congrArg List.length e.1
    simp only [List.length_map] at this
    exact hl this
  rw [decide_eq_false (by omega)]
  (repeat with_reducible first|refine yfd m1 (by decide) ?_|refine yl1 one43 a1 ?_|refine yln und43 ?_|refine yl1 one43 b1 ?_|refine z_W ?_|refine z_d ?_)
  refine yi_neq ?_
  by_cases hf : F.length = F'.length
  rotate_left
  · rw [decide_eq_true (by omega)]
    (repeat with_reducible first|refine z_b ?_|refine z_l ?_)
    skip
    refine ⟨?_, hdr0⟩
    rw [decide_eq_false]
    intro e
    exact hf (by rw [e.2])
  rw [decide_eq_false (by omega)]
  (repeat with_reducible first|refine z_c ?_|refine z_l ?_)
  skip
  refine LoopP.inv1 (fun iv w' => ∃ k : Nat, k ≤ L.length ∧ iv = .int .i64 k ∧ (L.map absO).take k = (L'.map absO).take k ∧ Below w.heap.size w w') (fun iv _ => L.length - (intOf iv).toNat) ⟨0, by omega, rfl, rfl, hdr0⟩ ?_
  rintro _ w1 ⟨k, hk, rfl, heq, hb1⟩ J hJ
  dsimp only [List.headD_cons, List.tail_cons]
  (repeat with_reducible first|refine fd m0 (by decide) ?_|refine ld one42 (a0 _ hb1) ?_|refine z_a ?_)
  refine ln und42 ?_
  refine bi_lss_c (fun h => ?_) (fun h => ?_)
  · have hk1 : k < L.length := by omega
    have hk2 : k < L'.length := by omega
    obtain ⟨gL, cL1, he, hcell⟩ := rowAt oneF_len (hA.below hb1).rowL k hk1 (by decide)
    cases he
    obtain ⟨gM, cM1, he, hcell'⟩ := rowAt oneF_len (hB.below hb1).rowL k hk2 (by decide)
    cases he
    have hE := (hA.below hb1).el _ (List.getElem_mem hk1)
    have hE' := (hB.below hb1).el _ (List.getElem_mem hk2)
    have hdr : Below w1.heap.size w1 w1.drew := (Below.refl _ _).drew
    have hb1d := below_then hb1 hdr
    have up : ∀ w', Below w1.heap.size w1 w' → Below w.heap.size w w' := fun w' h => below_then hb1 h
    have a0' : ∀ w', Below w1.heap.size w1 w' → w'.cell? ⟨ga, 0, none⟩ = some (.slice (some ⟨gL, 0, none⟩) L.length cL) := fun w' hb => a0 w' (up w' hb)
    have b0' : ∀ w', Below w1.heap.size w1 w' → w'.cell? ⟨gb, 0, none⟩ = some (.slice (some ⟨gM, 0, none⟩) L'.length cL') := fun w' hb => b0 w' (up w' hb)
    have kc : ∀ {g j : Nat} {u : Value}, w1.cell? ⟨g, j, none⟩ = some u → ∀ w', Below w1.heap.size w1 w' → w'.cell? ⟨g, j, none⟩ = some u := fun hc w' hb => by rw [hb.cell (World.block_lt_of_cell? _ _ hc), hc]
    have d0 := kc (hcell 0 _ rfl)
    have d1 := kc (hcell 1 _ rfl)
    have e0 := kc (hcell' 0 _ rfl)
    have e1 := kc (hcell' 1 _ rfl)
    have d2 : ∀ w', Below w1.heap.size w1 w' → ∀ j u, (L[k].R.cells L[k].p L[k].q).toList[j]? = some u → w'.cell? ((⟨gL, k * 7 + 2, none⟩ : Addr).add j) = some u := fun w' hb j u hu => by
      rw [add0, Nat.add_assoc]
      exact kc (hcell (2 + j) u (by rw [← hu, show 2 + j = j + 2 from by omega]; rfl)) w' hb
    have e2 : ∀ w', Below w1.heap.size w1 w' → ∀ j u, (L'[k].R.cells L'[k].p L'[k].q).toList[j]? = some u → w'.cell? ((⟨gM, k * 7 + 2, none⟩ : Addr).add j) = some u := fun w' hb j u hu => by
      rw [add0, Nat.add_assoc]
      exact kc (hcell' (2 + j) u (by rw [← hu, show 2 + j = j + 2 from by omega]; rfl)) w' hb
    have bad : absO L[k] ≠ absO L'[k] → ∀ w', Below w1.heap.size w1 w' → Value.bool false = .bool (decide (L.map absO = L'.map absO ∧ F = F')) ∧ Below w.heap.size w w' := fun hne w' hb => by
      refine ⟨?_, up w' hb⟩
      rw [decide_eq_false]
      rintro ⟨e, _⟩
      apply hne
      have h1 : (L.map absO)[k]'(by rw [List.length_map]; exact hk1) = (L'.map absO)[k]'(by rw [List.length_map]; exact hk2) := List.getElem_of_eq e _
      simpa using h1
    (repeat with_reducible first|refine z_b ?_)
    refine draw (Below w1.heap.size w1) hdr ?_
    (repeat with_reducible first|refine yfd m0 (by decide) ?_|refine yl1 one42 a0' ?_|refine yixG und42 sz73 k hk1 ?_|refine yfdG o0 (by decide) ?_|refine yl1 one3 d0 ?_|refine yl1 one42 b0' ?_|refine z_W ?_)
    refine yixG und42 sz73 k hk2 ?_
    (repeat with_reducible first|refine yfdG o0 (by decide) ?_|refine yl1 one3 e0 ?_)
    refine yi_neq ?_
    by_cases g0 : L[k].cl = L'[k].cl
    rotate_left
    · rw [decide_eq_true g0]
      (repeat with_reducible first|refine z_b ?_|refine z_f ?_|refine z_j ?_|refine z_k ?_)
      skip
      exact bad (fun e => g0 (congrArg (fun x : Int × Int × Rm => x.1) e)) _ hdr
    rw [decide_eq_false (by simpa using g0)]
    (repeat with_reducible first|refine yfd m0 (by decide) ?_|refine yl1 one42 a0' ?_|refine yixG und42 sz73 k hk1 ?_|refine yfdG o1 (by decide) ?_|refine yl1 one3 d1 ?_|refine yl1 one42 b0' ?_|refine z_W ?_|refine z_d ?_)
    refine yixG und42 sz73 k hk2 ?_
    (repeat with_reducible first|refine yfdG o1 (by decide) ?_|refine yl1 one3 e1 ?_|refine z_d ?_)
    refine yi_neq ?_
    by_cases g1 : L[k].no = L'[k].no
    rotate_left
    · rw [decide_eq_true g1]
      (repeat with_reducible first|refine z_b ?_|refine z_f ?_|refine z_j ?_|refine z_k ?_|refine z_l ?_)
      skip
      exact bad (fun e => g1 (congrArg (fun x : Int × Int × Rm => x.2.1) e)) _ hdr
    rw [decide_eq_false (by simpa using g1)]
    (repeat with_reducible first|refine yfd m0 (by decide) ?_|refine yl1 one42 a0' ?_|refine yixG und42 sz73 k hk1 ?_|refine yfdG o2 (by decide) ?_|refine z_W ?_|refine z_d ?_|refine z_l ?_)
    refine yldR agg27 d2 (by rw [sz27]; rfl) ?_
    rw [Array.toArray_toList]
    (repeat with_reducible first|refine yfd m0 (by decide) ?_|refine yl1 one42 b0' ?_|refine z_W ?_|refine z_d ?_)
    refine yixG und42 sz73 k hk2 ?_
    (repeat with_reducible first|refine yfdG o2 (by decide) ?_|refine z_d ?_)
    refine yldR agg27 e2 (by rw [sz27]; rfl) ?_
    rw [Array.toArray_toList]
    (repeat with_reducible first|refine z_h ?_)
    refine act ?_
    refine (sameRep_dec _ _ _ _ _ _ _ _ w1.drew (keeps_Vals _ _ _ _ hdr hE.vals) (keeps_Vals _ _ _ _ hdr hE'.vals) hE.noRows hE'.noRows).mono ?_
    rintro _ w2 ⟨rfl, hb2⟩
    have hb12 := below_then hdr hb2
    refine ⟨_, hb12, fun _ h => h, ?_⟩
    by_cases g2 : (L[k].R, L[k].vs) = (L'[k].R, L'[k].vs)
    rotate_left
    · rw [decide_eq_false g2]
      (repeat with_reducible first|refine z_b ?_|refine z_d ?_|refine z_l ?_|refine z_q1 ?_)
      skip
      exact bad (fun e => g2 (congrArg (fun x : Int × Int × Rm => x.2.2) e)) _ hb12
    rw [decide_eq_true g2]
    (repeat with_reducible first|refine z_c ?_|refine z_d ?_|refine z_l ?_|refine z_p1 ?_)
    (repeat with_reducible first|refine z_o (by omega) ?_)
    refine hJ _ _ ⟨k + 1, by omega, by simp, ?_, up _ hb12⟩ (by simp [intOf]; omega)
    have hm1 : k < (L.map absO).length := by rw [List.length_map]; exact hk1
    have hm2 : k < (L'.map absO).length := by rw [List.length_map]; exact hk2
    rw [List.take_succ_eq_append_getElem hm1, List.take_succ_eq_append_getElem hm2, heq]
    congr 2
    rw [List.getElem_map, List.getElem_map]
    show (_, _, _) = (_, _, _)
    rw [g0, g1, g2]
  · (repeat with_reducible first|refine z_c ?_)
    have hkl : k = L.length := by omega
    have hLL : L.map absO = L'.map absO := by
      rw [hkl] at heq
      rw [List.take_of_length_le (by rw [List.length_map]; exact Nat.le_refl _), List.take_of_length_le (by rw [List.length_map]; omega)] at heq
      exact heq
    clear hJ heq
    refine LoopP.inv1 (fun iv w' => ∃ k : Nat, k ≤ F.length ∧ iv = .int .i64 k ∧ F.take k = F'.take k ∧ Below w.heap.size w w') (fun iv _ => F.length - (intOf iv).toNat) ⟨0, by omega, rfl, rfl, hb1⟩ ?_
    clear hb1
    rintro _ w1 ⟨k, hk, rfl, heq, hb1⟩ J hJ
    dsimp only [List.headD_cons, List.tail_cons]
    (repeat with_reducible first|refine fd m1 (by decide) ?_|refine ld one43 (a1 _ hb1) ?_|refine z_a ?_)
    refine ln und43 ?_
    refine bi_lss_c (fun h => ?_) (fun h => ?_)
    · have hk1 : k < F.length := by omega
      have hk2 : k < F'.length := by omega
      obtain ⟨gL, cL1, he, hcell⟩ := rowAt flF_len (hA.below hb1).rowF k hk1 (by decide)
      cases he
      obtain ⟨gM, cM1, he, hcell'⟩ := rowAt flF_len (hB.below hb1).rowF k hk2 (by decide)
      cases he
      have hdr : Below w1.heap.size w1 w1.drew := (Below.refl _ _).drew
      have up : ∀ w', Below w1.heap.size w1 w' → Below w.heap.size w w' := fun w' h => below_then hb1 h
      have a1' : ∀ w', Below w1.heap.size w1 w' → w'.cell? ⟨ga, 1, none⟩ = some (.slice (some ⟨gL, 0, none⟩) F.length cF) := fun w' hb => a1 w' (up w' hb)
      have b1' : ∀ w', Below w1.heap.size w1 w' → w'.cell? ⟨gb, 1, none⟩ = some (.slice (some ⟨gM, 0, none⟩) F'.length cF') := fun w' hb => b1 w' (up w' hb)
      have kc : ∀ {g j : Nat} {u : Value}, w1.cell? ⟨g, j, none⟩ = some u → ∀ w', Below w1.heap.size w1 w' → w'.cell? ⟨g, j, none⟩ = some u := fun hc w' hb => by rw [hb.cell (World.block_lt_of_cell? _ _ hc), hc]
      have d2 : ∀ w', Below w1.heap.size w1 w' → ∀ j u, (flF F[k])[j]? = some u → w'.cell? ((⟨gL, k * 2, none⟩ : Addr).add j) = some u := fun w' hb j u hu => by
        rw [add0]
        exact kc (hcell j u hu) w' hb
      have e2 : ∀ w', Below w1.heap.size w1 w' → ∀ j u, (flF F'[k])[j]? = some u → w'.cell? ((⟨gM, k * 2, none⟩ : Addr).add j) = some u := fun w' hb j u hu => by
        rw [add0]
        exact kc (hcell' j u hu) w' hb
      (repeat with_reducible first|refine z_b ?_)
      refine draw (Below w1.heap.size w1) hdr ?_
      (repeat with_reducible first|refine yfd m1 (by decide) ?_|refine yl1 one43 a1' ?_|refine yixG und43 sz84 k hk1 ?_|refine z_W ?_)
      refine yldR agg84' d2 (by rw [sz84]; rfl) ?_
      (repeat with_reducible first|refine yfd m1 (by decide) ?_|refine yl1 one43 b1' ?_|refine z_W ?_)
      refine yixG und43 sz84 k hk2 ?_
      refine yldR agg84' e2 (by rw [sz84]; rfl) ?_
      refine yofPR (pr_neqF F[k] F'[k]) ?_
      by_cases e : F[k] = F'[k]
      · rw [decide_eq_false (by simpa using e)]
        (repeat with_reducible first|refine z_c ?_|refine z_o (by omega) ?_)
        refine hJ _ _ ⟨k + 1, by omega, by simp, ?_, up _ hdr⟩ (by simp [intOf]; omega)
        rw [List.take_succ_eq_append_getElem hk1, List.take_succ_eq_append_getElem hk2, heq, e]
      · rw [decide_eq_true e]
        (repeat with_reducible first|refine z_b ?_)
        refine ⟨?_, up _ hdr⟩
        rw [decide_eq_false]
        rintro ⟨_, e2⟩
        subst e2
        exact e rfl
    · (repeat with_reducible first|refine z_c ?_)
      have hkl : k = F.length := by omega
      refine ⟨?_, hb1⟩
      rw [decide_eq_true]
      refine ⟨hLL, ?_⟩
      rw [hkl, List.take_length, hf, List.take_length] at heq
      exact heq
end Go.Proofs.YtmnaggdhkggjhaaGreatDoor.E
namespace Go.Proofs.YtmnaggdhkggjhaaGreatDoor.E
open Go Go.Proofs Go.RowKit
set_option linter.unusedSimpArgs false
set_option linter.unusedVariables false

def recOk (vs : List ValT) : Prop := (vs = [] ∨ Pl.recE vs = 0) ∧ ∀ x ∈ vs, valOk x
section
variable {bs : List UInt8}
theorem rNum_num {i n most : Nat} {r : List UInt8} (h : bs.drop i = Pack.num n ++ r) (hn : n ≤ most) (hm : most ≤ Most) : rNum bs most (i, false) = (n, (i + (Pack.num n).length, false)) := by
  have e := getAt_num bs i n r h (by have : most ≤ 1099511627776 := hm; omega)
  unfold rNum
  rw [if_neg (by simp), e]
  simp only [Prod.mk.injEq, true_and]
  rw [decide_eq_false]
  rintro (h1 | h1)
  · exact h1 rfl
  · omega
theorem rText_text {i : Nat} {s : ByteArray} {r : List UInt8} (h : bs.drop i = Pack.text s ++ r) (hb : bs.length ≤ 1000000) : rText bs (i, false) = (s.data.toList, (i + (Pack.text s).length, false)) := by
  have hl : s.size ≤ bs.length := by
    have h1 := congrArg List.length h
    rw [List.length_drop, List.length_append] at h1
    have h2 : s.size ≤ (Pack.text s).length := by
      unfold Pack.text
      rw [List.length_append]
      have : s.data.toList.length = s.size := by rw [Array.length_toList]; rfl
      omega
    omega
  have e := textAt_text bs i bs.length s r h hl hb
  unfold rText
  rw [if_neg (by simp), e]
  simp
theorem rdReply_reply {i : Nat} {m : Rm} {r : List UInt8} (h : bs.drop i = Pack.num m.1.code.toNat ++ Pack.num (there m.1.there) ++ Pack.num m.1.id.toNat ++ Pack.text (strB (Pl.packT m.2)) ++ r) (hb : bs.length ≤ 1000000)
    (hc : Num40 m.1.code) (hi : Num40 m.1.id) (hv : recOk m.2) :
    rdReply bs (i, false) = (m, (i + (Pack.num m.1.code.toNat ++ Pack.num (there m.1.there) ++ Pack.num m.1.id.toNat ++ Pack.text (strB (Pl.packT m.2))).length, false)) := by
  obtain ⟨hc0, hc1⟩ := hc
  obtain ⟨hi0, hi1⟩ := hi
  simp only [List.append_assoc] at h
  have e1 := rNum_num (most := Most) h (by show _ ≤ 1099511627776; omega) (Nat.le_refl _)
  have d1 := drop_then _ _ _ _ h
  have e2 := rNum_num (most := 1) d1 (by unfold there; split <;> omega) (by decide)
  have d2 := drop_then _ _ _ _ d1
  have e3 := rNum_num (most := Most) d2 (by show _ ≤ 1099511627776; omega) (Nat.le_refl _)
  have d3 := drop_then _ _ _ _ d2
  have e4 := rText_text d3 hb
  rw [strB_list] at e4
  unfold rdReply
  simp only
  rw [e1]
  simp only
  rw [e2]
  simp only
  rw [e3]
  simp only
  rw [e4]
  simp only
  have hR : (⟨(m.1.code.toNat : Int), decide (there m.1.there = 1), (m.1.id.toNat : Int)⟩ : Rep) = m.1 := by
    obtain ⟨⟨a, b, c⟩, vs⟩ := m
    simp only at hc0 hi0 ⊢
    have h1 : (a.toNat : Int) = a := by omega
    have h2 : (c.toNat : Int) = c := by omega
    rw [h1, h2]
    cases b <;> simp [there]
  rw [hR]
  have hlen : i + (Pack.num m.1.code.toNat).length + (Pack.num (there m.1.there)).length + (Pack.num m.1.id.toNat).length + (Pack.text (strB (Pl.packT m.2))).length = i + (Pack.num m.1.code.toNat ++ Pack.num (there m.1.there) ++ Pack.num m.1.id.toNat ++ Pack.text (strB (Pl.packT m.2))).length := by
    simp only [List.length_append]; omega
  obtain ⟨R, vs⟩ := m
  simp only at hv hlen hR ⊢
  rcases hv with ⟨hv | hv, hok⟩
  · subst hv
    rw [if_pos (by decide), hlen]
  · rw [if_neg (Pl.packT_nil vs hv), Pl.unpack_pack hv hok]
    simp only [hlen]
    simp
theorem rEnts_rows (hb : bs.length ≤ 1000000) : ∀ (m : Ents) (i : Nat) (l : Ents) (r : List UInt8), bs.drop i = (m.map saveR).flatten ++ r → (∀ q ∈ m, okQ q ∧ recOk q.2.2) → ((l ++ m).map (·.1)).Nodup → rEnts bs m.length (i, false) l = (l ++ m, (i + ((m.map saveR).flatten).length, false))
  | [], i, l, r, _, _, _ => by simp [rEnts]
  | q :: m, i, l, r, h, hok, hnd => by
    obtain ⟨⟨⟨h0, h1⟩, h2, h3⟩, h4⟩ := hok q (List.mem_cons_self ..)
    rw [List.map_cons, List.flatten_cons, List.append_assoc] at h
    have hd := drop_then _ _ _ _ h
    have hs : saveR q = Pack.num q.1.toNat ++ (Pack.num q.2.1.code.toNat ++ Pack.num (there q.2.1.there) ++ Pack.num q.2.1.id.toNat ++ Pack.text (strB (Pl.packT q.2.2))) := by simp [saveR, List.append_assoc]
    rw [hs, List.append_assoc] at h
    have e1 := rNum_num (most := Most) h (by show _ ≤ 1099511627776; omega) (Nat.le_refl _)
    have d1 := drop_then _ _ _ _ h
    have e2 := rdReply_reply (m := q.2) d1 hb h2 h3 h4
    rw [List.length_cons, rEnts, if_neg (by simp), e1]
    simp only
    rw [e2]
    simp only
    have hk : (q.1.toNat : Int) = q.1 := by omega
    rw [hk]
    have hg : getK q.1 l = none := getK_none_of q.1 l fun p hp e => by
      rw [List.map_append, List.nodup_append] at hnd
      exact hnd.2.2 p.1 (List.mem_map.2 ⟨p, hp, rfl⟩) q.1 (by simp) e
    rw [setK_new _ _ _ hg]
    have hl : i + (Pack.num q.1.toNat).length + (Pack.num q.2.1.code.toNat ++ Pack.num (there q.2.1.there) ++ Pack.num q.2.1.id.toNat ++ Pack.text (strB (Pl.packT q.2.2))).length = i + (saveR q).length := by
      rw [hs]; simp only [List.length_append]; omega
    rw [hl]
    have ih := rEnts_rows hb m (i + (saveR q).length) (l ++ [(q.1, q.2)]) r hd (fun p hp => hok p (List.mem_cons_of_mem _ hp)) (by simpa [List.append_assoc] using hnd)
    rw [ih]
    simp only [List.append_assoc, List.singleton_append, List.map_cons, List.flatten_cons, List.length_append, Prod.mk.injEq, and_true, true_and]
    omega
/-- A client's row that may be saved. -/
structure RowOk (p : Int × VC) : Prop where
  id : Num40 p.1
  fl : Num40 p.2.1
  ne : p.2.2 ≠ []
  len : p.2.2.length ≤ 4
  full : 0 < p.2.1 → p.2.2.length = 4
  rise : Rising p.2.2
  above : ∀ q ∈ p.2.2, p.2.1 < q.1
  el : ∀ q ∈ p.2.2, okQ q ∧ recOk q.2.2
theorem rCli_row (hb : bs.length ≤ 1000000) {p : Int × VC} {i : Nat} {A : Tp} {r : List UInt8} (h : bs.drop i = saveCl p ++ r) (hp : RowOk p) (hn : getK p.1 A = none) : rCli bs (i, false) A = (A ++ [p], (i + (saveCl p).length, false)) := by
  obtain ⟨h0, h1⟩ := hp.id
  obtain ⟨f0, f1⟩ := hp.fl
  have hlen := hp.len
  have h' := h
  unfold saveCl at h'
  simp only [List.append_assoc] at h'
  have e1 := rNum_num (most := Most) h' (by show _ ≤ 1099511627776; omega) (Nat.le_refl _)
  have d1 := drop_then _ _ _ _ h'
  have e2 := rNum_num (most := Most) d1 (by show _ ≤ 1099511627776; omega) (Nat.le_refl _)
  have d2 := drop_then _ _ _ _ d1
  have e3 := rNum_num (most := 4) d2 hlen (by decide)
  have d3 := drop_then _ _ _ _ d2
  have hk : (p.1.toNat : Int) = p.1 := by omega
  have hf : (p.2.1.toNat : Int) = p.2.1 := by omega
  have hold : oldL (p.1.toNat : Int) A = [] := by rw [hk]; unfold oldL; rw [hn]; rfl
  have e4 := rEnts_rows hb p.2.2 _ [] r d3 hp.el (by simpa using hp.rise.nodup)
  unfold rCli
  simp only
  rw [e1]
  simp only
  rw [e2]
  simp only
  rw [e3]
  simp only
  rw [hold, e4]
  simp only
  rw [hk, hf, List.nil_append, setK_new _ _ _ hn]
  have hl : i + (Pack.num p.1.toNat).length + (Pack.num p.2.1.toNat).length + (Pack.num p.2.2.length).length + ((p.2.2.map saveR).flatten).length = i + (saveCl p).length := by
    unfold saveCl; simp only [List.length_append]; omega
  rw [hl]
theorem rClis_rows (hb : bs.length ≤ 1000000) : ∀ (m : Tp) (i : Nat) (A : Tp) (r : List UInt8), bs.drop i = (m.map saveCl).flatten ++ r → (∀ p ∈ m, RowOk p) → ((A ++ m).map (·.1)).Nodup → rClis bs m.length (i, false) A = (A ++ m, (i + ((m.map saveCl).flatten).length, false))
  | [], i, A, r, _, _, _ => by simp [rClis]
  | p :: m, i, A, r, h, hok, hnd => by
    rw [List.map_cons, List.flatten_cons, List.append_assoc] at h
    have hd := drop_then _ _ _ _ h
    have hg : getK p.1 A = none := getK_none_of p.1 A fun q hq e => by
      rw [List.map_append, List.nodup_append] at hnd
      exact hnd.2.2 q.1 (List.mem_map.2 ⟨q, hq, rfl⟩) p.1 (by simp) e
    have e1 := rCli_row hb h (hok p (List.mem_cons_self ..)) hg
    rw [List.length_cons, rClis, if_neg (by simp), e1]
    simp only
    have ih := rClis_rows hb m (i + (saveCl p).length) (A ++ [p]) r hd (fun q hq => hok q (List.mem_cons_of_mem _ hq)) (by simpa [List.append_assoc] using hnd)
    rw [ih]
    simp only [List.append_assoc, List.singleton_append, List.map_cons, List.flatten_cons, List.length_append, Prod.mk.injEq, and_true, true_and]
    omega
end
theorem saveCl_pos (p : Int × VC) : 1 ≤ (saveCl p).length := by
  have : 1 ≤ (Pack.num p.1.toNat).length := by
    by_cases h : p.1.toNat ≤ 127
    · rw [Pack.num_small _ h]; simp
    · rw [Pack.num_big _ h]; simp
  unfold saveCl
  simp only [List.length_append]
  omega
theorem flat_pos : ∀ L : Lst, L.length ≤ ((L.map saveCl).flatten).length
  | [] => by simp
  | p :: L => by
    have := flat_pos L
    have := saveCl_pos p
    simp only [List.map_cons, List.flatten_cons, List.length_append, List.length_cons]
    omega
theorem srt_id {α : Type} {l : List (Int × α)} (h : Rising l) : srt l = l := srt_of_perm (List.Perm.refl _) h
theorem lstOf_id {L : Lst} (hr : Rising L) (h : ∀ p ∈ L, RowOk p) : lstOf L = L := by
  unfold lstOf
  rw [srt_id hr]
  conv => rhs; rw [← List.map_id L]
  refine List.map_congr_left fun p hp => ?_
  rw [srt_id (h p hp).rise]
  rfl
/-- What is saved is read back. -/
theorem load_back {L : Lst} (hr : Rising L) (h : ∀ p ∈ L, RowOk p) (hb : (saveT L).length ≤ 1000000) : loadP (saveT L) = some L := by
  have hlen : L.length ≤ (saveT L).length := by
    have := flat_pos L
    unfold saveT
    rw [List.length_append]; omega
  have e0 : (saveT L).drop 0 = Pack.num L.length ++ ((L.map saveCl).flatten ++ []) := by simp [saveT]
  have e1 := rNum_num (most := (saveT L).length) e0 hlen (by show _ ≤ 1099511627776; omega)
  have d1 := drop_then _ _ _ _ e0
  have e2 := rClis_rows hb L _ [] [] d1 h (by simpa using hr.nodup)
  have e3 : rClis (saveT L) (rNum (saveT L) (saveT L).length (0, false)).1 (rNum (saveT L) (saveT L).length (0, false)).2 [] = (L, (0 + (Pack.num L.length).length + ((L.map saveCl).flatten).length, false)) := by
    rw [e1]
    simpa using e2
  refine (loadP_eq e3).2 ?_
  rintro (h1 | h1 | ⟨p, hp, h1⟩)
  · cases h1
  · exact h1 (by rw [lstOf_id hr h])
  · have hp' := h p hp
    rcases h1 with h1 | h1 | ⟨q, hq, h1⟩
    · exact hp'.ne h1
    · exact h1.2 (hp'.full h1.1)
    · have := hp'.above q hq
      omega
end Go.Proofs.YtmnaggdhkggjhaaGreatDoor.E
