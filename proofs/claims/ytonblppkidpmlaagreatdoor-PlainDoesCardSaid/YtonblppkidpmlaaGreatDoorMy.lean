import Derived.Test.YtonblppkidpmlaaGreatDoorMw
import Derived.Test.YtonblppkidpmlaaGreatDoorMx
namespace Go.Proofs.YtonblppkidpmlaaGreatDoor.E
open Go Go.RowKit
set_option linter.unusedSimpArgs false
set_option linter.unusedVariables false

/-- The document's store. -/
def rfO (g : Nat) (S : StT) : Ob9 where
  hu := 2
  ok := fun c w => RfS 2 c w g S
  pos := by omega
  turns := fun h hT hG => h.turns hT hG
  re := fun h hc => h.re hc
theorem ref_mem {w0 w : World} {g n : Nat} {S : StT} {B : List Ob9} {o : OpP} {s : OpS} (h : MemX w0 w (rfO g S :: B)) (hd : ∀ x ∈ B, x.hu ≠ 2) (hok : StOk n S) (hn : n ≤ 100000) (ho : OpAt w o s) (hl : o.fields.length ≤ 1000) :
    CallP Tryz.prog 25 #[.pointer (some ⟨g, 0, none⟩), .agg (opC o s)] (fun r w' => MemX w0 w' (rfO g (doS S o).1 :: B) ∧ RepAt w' r (doS S o).2) w := by
  obtain ⟨c, h1, h2, h3⟩ := h.call hd
  refine (Do25 h1 hok hn ho hl).mono ?_
  rintro r w' ⟨c', hc, hS, hR, hT⟩
  refine ⟨h3 [rfO g (doS S o).1] w' ⟨c', hc, fun x hx => ?_, hT⟩, hR⟩
  simp only [List.mem_cons, List.not_mem_nil, or_false] at hx
  subst hx
  exact hS
set_option maxHeartbeats 4000000 in
theorem PlainDoes7 (v : Value) (l : List OpT) (w : World) (hv : Ops w [v] l) (hm : GMx w) :
    CallP Tryz.prog 7 #[v] (fun r w' => r = .bool true ∧ Below w.heap.size w w') w := by
  have hrec := ops_rec hv
  have hv0 := hv
  refine ⟨S7.calls _ _ _ ?_⟩
  unfold S7
  refine (awake9 w hm).mono ?_
  rintro _ wa ⟨rfl, hba⟩
  (repeat with_reducible first|refine z_c ?_|refine z_E ?_)
  simp only [Bool.not_true]
  skip
  refine (AllLight13 v l 60 (by decide) wa (keeps_Ops _ _ _ _ hba hv)).mono ?_
  rintro _ wb ⟨b, rfl, hlt, hbb⟩
  have hb1 := below_then hba hbb
  refine bi_not ?_
  cases b with
  | false =>
    simp only [Bool.not_false]
    (repeat with_reducible first|refine z_b ?_)
    exact ⟨by first | rfl | trivial, hb1⟩
  | true =>
  obtain ⟨hl, hlite⟩ := hlt rfl
  simp only [Bool.not_true]
  (repeat with_reducible first|refine z_c ?_)
  refine (new_mem wb).mono ?_
  rintro _ wd ⟨g, rfl, hM⟩
  have hM := hM.old hb1
  obtain ⟨cd, h1d, h2d⟩ := hM.make
  refine (New24 2 (by omega) cd wd).mono ?_
  rintro _ we ⟨g', ce, rfl, hce, hSe, hbe⟩
  have hM : MemX w we [rfO g' st0, pl1 g st0] := h2d [rfO g' st0] we ⟨ce, hce, fun x hx => by
    simp only [List.mem_cons, List.not_mem_nil, or_false] at hx
    subst hx
    exact hSe, hbe⟩
  have hM := hM.sw
  obtain ⟨A, c, rfl, _⟩ := hv.slice
  refine LoopP.inv1 (fun iv w' => ∃ i : Nat, i ≤ l.length ∧ iv = .int .i64 i ∧ MemX w w' [pl1 g (doAll st0 (l.take i)), rfO g' (doAll st0 (l.take i))]) (fun iv _ => l.length - (intOf iv).toNat) ⟨0, by omega, rfl, hM⟩ ?_
  rintro _ w1 ⟨i, hi, rfl, hM1⟩ J hJ
  dsimp only [List.headD_cons, List.tail_cons]
  refine ln undOps ?_
  refine bi_lss_c (fun h => ?_) (fun h => ?_)
  · have hi' : i < l.length := by omega
    have hb01 := hM1.bel
    obtain ⟨a, us, rfl, hus, hcell, hrd⟩ := rRow.at hv0 i hi'
    obtain ⟨s, rfl, hat⟩ := op_at hrd
    have hok := doAll_ok (l.take i) st0_ok fun x hx => hrec x (List.mem_of_mem_take hx)
    have htl : (l.take i).length ≤ 60 := by rw [List.length_take]; omega
    have kc : ∀ w', Below w.heap.size w w' → ∀ j u, ((opC (toP l[i]) s).toList)[j]? = some u → w'.cell? ((a.add (i * 12)).add j) = some u := fun w' hb j u hu => by
      have := hcell j u hu
      rw [hb.cell (World.block_lt_of_cell? _ _ this)]; exact this
    have hdr : Below w1.heap.size w1 w1.drew := (Below.refl _ _).drew
    have hbd := below_then hb01 hdr
    refine CondP.yes rfl ?_
    refine draw (Below w.heap.size w) hbd ?_
    refine yixA undOps szOp i hi' ?_
    refine yldR aggOp kc (by rw [szOp]; rfl) ?_
    refine yixA undOps szOp i hi' ?_
    refine yldR aggOp kc (by rw [szOp]; rfl) ?_
    refine act ?_
    have hMd := hM1.below hdr
    refine (do_mem hMd (by simp [rfO]) hok (by omega) (hat.below hbd) (hm.below hbd)).mono ?_
    intro r2 w2 hM2
    refine ⟨_, hM2.bel, fun _ h => h, ?_⟩
    refine act ?_
    have hM2' : MemX w w2 [rfO g' (doAll st0 (l.take i)), pl1 g (doS (doAll st0 (l.take i)) (toP l[i])).1, rpO r2 (doS (doAll st0 (l.take i)) (toP l[i])).2] := hM2.sub fun x hx => by
      simp only [List.mem_cons, List.not_mem_nil, or_false] at hx ⊢
      rcases hx with h | h | h <;> simp [h]
    have hli := hlite l[i] (List.getElem_mem hi')
    refine (ref_mem hM2' (by simp [plO, rpO]) hok (by omega) (hat.below hM2.bel) (by have := hli.fields; omega)).mono ?_
    rintro r3 w3 ⟨hM3, hR3⟩
    refine ⟨_, hM3.bel, fun _ h => h, ?_⟩
    refine act ?_
    refine (SameReply18 r2 r3 _ w3 (hM3.repAt (r := r2) (p := (doS (doAll st0 (l.take i)) (toP l[i])).2) (by simp)) hR3).mono ?_
    rintro _ w4 ⟨rfl, hb4⟩
    have hM4 := hM3.below hb4
    refine ⟨_, hM4.bel, fun _ h => h, ?_⟩
    (repeat with_reducible first|refine z_c ?_|refine z_p1 ?_)
    try simp only [Bool.not_true]
    skip
    (repeat with_reducible first|refine z_o (by omega) ?_)
    refine hJ _ _ ⟨i + 1, by omega, by simp, ?_⟩ (by simp [intOf]; omega)
    rw [List.take_succ_eq_append_getElem hi', doAll_snoc]
    exact hM4.sub fun x hx => by
      simp only [List.mem_cons, List.not_mem_nil, or_false] at hx ⊢
      rcases hx with h | h <;> simp [h]
  have hi : i = l.length := by omega
  subst hi
  rw [List.take_length] at hM1
  have hok := doAll_ok l st0_ok hrec
  rw [Nat.zero_add] at hok
  generalize doAll st0 l = S at *
  have hl' : l.length ≤ 60 := by omega
  generalize l.length = n at *
  refine CondP.no_ rfl ?_
  -- what is shown
  refine LoopP.inv1 (fun iv w' => ∃ i : Nat, i ≤ 8 ∧ iv = .int .i64 i ∧ MemX w w' [pl1 g S, rfO g' S]) (fun iv _ => 8 - (intOf iv).toNat) ⟨0, by omega, rfl, hM1⟩ ?_
  rintro _ w2 ⟨i, hi, rfl, hM2⟩ J2 hJ2
  dsimp only [List.headD_cons, List.tail_cons]
  refine bi_lss_c (fun h => ?_) (fun h => ?_)
  · obtain ⟨c2, _, hob⟩ := hM2.look
    (repeat with_reducible first|refine z_b ?_)
    refine (Shown27 (hu := 1) (c := c2) (hob (pl1 g S) (by simp)) hok (by omega) (i : Int) (by omega) (hm.below hM2.bel)).mono ?_
    intro v3 w3 ho3
    have hR2 : RfS 2 c2 w2 g' S := hob (rfO g' S) (by simp)
    refine (Shown28 (hR2.below ho3.bel) hok (by omega) (i : Int) (by omega)).mono ?_
    rintro v4 w4 ⟨ho4, hb4⟩
    refine (SameTexts26 v3 v4 _ w4 (ho3.rd.below hb4) ho4).mono ?_
    rintro _ w5 ⟨rfl, hb5⟩
    have hb25 := below_then (below_then ho3.bel hb4) hb5
    (repeat with_reducible first|refine z_c ?_|refine z_o (by omega) ?_|refine z_E ?_)
    try simp only [Bool.not_true]
    skip
    exact hJ2 _ _ ⟨i + 1, by omega, by simp, hM2.below hb25⟩ (by simp [intOf]; omega)
  obtain ⟨c2, _, hob⟩ := hM2.look
  have hP2 : PlS 1 c2 w2 g S := hob (pl1 g S) (by simp)
  have hR2 : RfS 2 c2 w2 g' S := hob (rfO g' S) (by simp)
  obtain ⟨vR, vX, M, F, hRf, hMM, hFF⟩ := hR2
  have q0 : ∀ w', Below w2.heap.size w2 w' → w'.cell? ⟨g', 0, none⟩ = some vR := fun w' hb => (hRf.blk.below' hb).cell 0
  have hdr : Below w2.heap.size w2 w2.drew := (Below.refl _ _).drew
  (repeat with_reducible first|refine z_c ?_)
  refine draw (Below w2.heap.size w2) hdr ?_
  (repeat with_reducible first|refine yfd s0 (by decide) ?_|refine yl1 oneRows q0 ?_|refine z_W ?_)
  refine act ?_
  have hMd := hM2.below hdr
  refine (rows_mem hMd (List.mem_cons_self ..) hok (by omega)).mono ?_
  rintro va w3 ⟨Ma, hMa, hOa⟩
  have hb23 := below_then hdr hOa.row.bel
  refine ⟨_, hb23, fun _ h => h, ?_⟩
  refine act ?_
  refine (SameRows16 va vR Ma M w3 hOa.at (hRf.below hb23).row.at).mono ?_
  rintro _ w4 ⟨rfl, hb4⟩
  have hb24 := below_then hb23 hb4
  refine ⟨_, hb24, fun _ h => h, ?_⟩
  rw [decide_eq_true (hMa.trans hMM.symm)]
  (repeat with_reducible first|refine z_d ?_|refine z_h ?_)
  refine act ?_
  refine (ixs_mem (hM2.below hb24) (List.mem_cons_self ..) hok).mono ?_
  rintro vi w5 ⟨Xi, hXi, hOX⟩
  have hb25 := below_then hb24 hOX.row.bel
  refine ⟨_, hb25, fun _ h => h, ?_⟩
  (repeat with_reducible first|refine z_h ?_)
  refine act ?_
  refine (Indexes30 (S := S) ⟨vR, vX, M, F, hRf.below hb25, hMM, hFF⟩ hok).mono ?_
  rintro vj w6 ⟨Xj, hXj, hOY, hb6⟩
  have hb26 := below_then hb25 hb6
  refine ⟨_, hb26, fun _ h => h, ?_⟩
  (repeat with_reducible first|refine z_h ?_)
  refine act ?_
  refine (SameIndexes29 vi vj Xi Xj w6 (hOX.at.below hb6) hOY (hXi.trans hXj.symm)).mono ?_
  rintro _ w7 ⟨rfl, hb7⟩
  have hb27 := below_then hb26 hb7
  refine ⟨_, hb27, fun _ h => h, ?_⟩
  (repeat with_reducible first|refine z_k ?_)
  exact ⟨by first | rfl | trivial, below_then hM2.bel hb27⟩
end Go.Proofs.YtonblppkidpmlaaGreatDoor.E
