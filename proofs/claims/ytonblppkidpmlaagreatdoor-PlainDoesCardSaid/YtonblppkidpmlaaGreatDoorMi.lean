import Derived.Test.YtonblppkidpmlaaGreatDoorMh
namespace Go.Proofs.YtonblppkidpmlaaGreatDoor.E
open Go Go.RowKit
set_option linter.unusedSimpArgs false
set_option linter.unusedVariables false

theorem bnil (w : World) : (Instr.buildSlice 23 0 #[]).run Tryz.prog w = .ok (.slice (some ⟨w.heap.size, 0, none⟩) 0 0) (w.alloc (.cells #[] 67)) := by kernel_rfl
theorem Clone45 (v : Value) (l : List ValT) (w : World) (hv : Vals w [v] l) (hl : l.length ≤ 100000) :
    CallP Tryz.prog 45 #[v] (fun r w' => OwnV w w' r l) w := by
  have hv0 := hv
  obtain ⟨A, c, rfl, hc1, hc2⟩ := hv.slice
  refine ⟨S45.calls _ _ _ ?_⟩
  unfold S45
  refine ofPR (pr_slnil undRec) ?_
  cases A with
  | none =>
    have h0 : l = [] := by
      cases l with
      | nil => rfl
      | cons p r => obtain ⟨a, us, h, _⟩ := rRow.at hv 0 (by simp); cases h
    subst h0
    simp only [Option.isNone_none]
    (repeat with_reducible first|refine z_b ?_)
    exact OwnL.nil (Below.refl _ w)
  | some a =>
    simp only [Option.isNone_some]
    (repeat with_reducible first|refine z_c ?_)
    refine lift (bnil w) ?_
    have ha : Below w.heap.size w (w.alloc (.cells #[] 67)) := (Below.refl _ _).alloc (Nat.le_refl _) _
    have hown : (w.alloc (.cells #[] 67)).ownsRow 0 67 3 (.slice (some ⟨w.heap.size, 0, none⟩) 0 0) 0 [] := ⟨by simp, .inr ⟨w.heap.size, 0, #[], rfl, Nat.zero_le _, heap_alloc_new w _, Nat.le_refl _, Nat.zero_le _, by simp, by simp⟩⟩
    refine apR w.heap.size undRec infVal (by rfl) (by decide) hown (Fresh.new (Nat.le_refl _) 0 0) ha.size (fun _ => rfl) valF_one (fun w us x h => (val_cells h).1) (keeps_Vals _ _ _ _ ha hv) (by omega) (by omega) ?_
    intro v2 w2 ho2 hf2 hb2 _
    rw [Nat.zero_add, List.nil_append] at ho2
    exact ⟨ho2, hf2, ha.trans hb2⟩
theorem take_eq_step {α : Type} {l m : List α} {k : Nat} (hl : k < l.length) (hm : k < m.length) (h : l.take k = m.take k) (he : l[k] = m[k]) : l.take (k + 1) = m.take (k + 1) := by
  rw [List.take_succ_eq_append_getElem hl, List.take_succ_eq_append_getElem hm, h, he]
theorem Equal46 (v v' : Value) (l m : List ValT) (w : World) (hv : Vals w [v] l) (hv' : Vals w [v'] m) :
    CallP Tryz.prog 46 #[v, v'] (fun r w' => r = .bool (decide (l = m)) ∧ Below w.heap.size w w') w := by
  obtain ⟨A, c, rfl, hc, hm⟩ := hv.slice
  obtain ⟨A', c', rfl, hc', hm'⟩ := hv'.slice
  refine ⟨S46.calls _ _ _ _ ?_⟩
  unfold S46
  refine ln undRec ?_
  refine ln undRec ?_
  refine bi_neq_c (fun h0 => ?_) (fun h0 => ?_)
  · (repeat with_reducible first|refine z_b ?_)
    exact ⟨fB fun e => h0 (by rw [e]), Below.refl _ _⟩
  have hlen : l.length = m.length := by omega
  (repeat with_reducible first|refine z_c ?_)
  refine ln undRec ?_
  refine LoopP.inv1 (fun iv w' => ∃ k : Nat, k ≤ l.length ∧ iv = .int .i64 k ∧ l.take k = m.take k ∧ Below w.heap.size w w') (fun iv _ => l.length - (intOf iv).toNat) ⟨0, by omega, rfl, by simp, Below.refl _ _⟩ ?_
  rintro _ w1 ⟨k, hk, rfl, heq, hb1⟩ J hJ
  dsimp only [List.headD_cons, List.tail_cons]
  refine bi_lss_c (fun h => ?_) (fun h => ?_)
  · have hk' : k < l.length := by omega
    have hkm : k < m.length := by omega
    have hdr : Below w1.heap.size w1 w1.drew := (Below.refl _ _).drew
    obtain ⟨a, us, rfl, hus, hcell, hrd⟩ := rRow.at (keeps_Vals _ _ _ _ hb1 hv) k hk'
    obtain ⟨rfl, _⟩ := val_cells hrd
    obtain ⟨a', us', rfl, hus', hcell', hrd'⟩ := rRow.at (keeps_Vals _ _ _ _ hb1 hv') k hkm
    obtain ⟨rfl, _⟩ := val_cells hrd'
    have kc : ∀ w', Below w1.heap.size w1 w' → ∀ j u, (valF l[k])[j]? = some u → w'.cell? ((a.add (k * 3)).add j) = some u := fun w' hb j u hu => by
      have := hcell j u hu
      rw [hb.cell (World.block_lt_of_cell? _ _ this)]; exact this
    have kc' : ∀ w', Below w1.heap.size w1 w' → ∀ j u, (valF m[k])[j]? = some u → w'.cell? ((a'.add (k * 3)).add j) = some u := fun w' hb j u hu => by
      have := hcell' j u hu
      rw [hb.cell (World.block_lt_of_cell? _ _ this)]; exact this
    (repeat with_reducible first|refine z_b ?_)
    refine draw (Below w1.heap.size w1) hdr ?_
    refine yixA undRec szVal k hk' ?_
    refine yldR aggVal kc (by rw [szVal]; rfl) ?_
    refine yixA undRec szVal k hkm ?_
    refine yldR aggVal kc' (by rw [szVal]; rfl) ?_
    refine yofPR (pr_neqV _ _) ?_
    have hb2 := below_then hb1 hdr
    cases hs : sameV l[k] m[k] with
    | true =>
      refine CondP.no_ rfl ?_
      (repeat with_reducible first|refine z_o (by omega) ?_)
      exact hJ _ _ ⟨k + 1, by omega, by simp, take_eq_step hk' hkm heq ((sameV_iff _ _).1 hs), hb2⟩ (by simp [intOf]; omega)
    | false =>
      refine CondP.yes rfl ?_
      refine ⟨fB fun e => ?_, hb2⟩
      subst e
      rw [(sameV_iff _ _).2 rfl] at hs
      cases hs
  · have : k = l.length := by omega
    subst this
    (repeat with_reducible first|refine z_c ?_)
    refine ⟨tB ?_, hb1⟩
    rw [List.take_length, hlen, List.take_length] at heq
    exact heq
theorem Same17 (v v' : Value) (l m : List ValT) (w : World) (hv : Vals w [v] l) (hv' : Vals w [v'] m) :
    CallP Tryz.prog 17 #[v, v'] (fun r w' => r = .bool (decide (l = m)) ∧ Below w.heap.size w w') w := by
  obtain ⟨A, c, rfl, hc, hm⟩ := hv.slice
  obtain ⟨A', c', rfl, hc', hm'⟩ := hv'.slice
  refine ⟨S17.calls _ _ _ _ ?_⟩
  unfold S17
  refine ln undVs ?_
  refine ln undVs ?_
  refine bi_neq_c (fun h0 => ?_) (fun h0 => ?_)
  · (repeat with_reducible first|refine z_b ?_)
    exact ⟨fB fun e => h0 (by rw [e]), Below.refl _ _⟩
  have hlen : l.length = m.length := by omega
  (repeat with_reducible first|refine z_c ?_)
  refine LoopP.inv1 (fun iv w' => ∃ k : Nat, k ≤ l.length ∧ iv = .int .i64 k ∧ l.take k = m.take k ∧ Below w.heap.size w w') (fun iv _ => l.length - (intOf iv).toNat) ⟨0, by omega, rfl, by simp, Below.refl _ _⟩ ?_
  rintro _ w1 ⟨k, hk, rfl, heq, hb1⟩ J hJ
  dsimp only [List.headD_cons, List.tail_cons]
  refine ln undVs ?_
  refine bi_lss_c (fun h => ?_) (fun h => ?_)
  · have hk' : k < l.length := by omega
    have hkm : k < m.length := by omega
    have hdr : Below w1.heap.size w1 w1.drew := (Below.refl _ _).drew
    obtain ⟨a, us, rfl, hus, hcell, hrd⟩ := rRow.at (keeps_Vals _ _ _ _ hb1 hv) k hk'
    obtain ⟨rfl, _⟩ := val_cells hrd
    obtain ⟨a', us', rfl, hus', hcell', hrd'⟩ := rRow.at (keeps_Vals _ _ _ _ hb1 hv') k hkm
    obtain ⟨rfl, _⟩ := val_cells hrd'
    have kc : ∀ w', Below w1.heap.size w1 w' → ∀ j u, (valF l[k])[j]? = some u → w'.cell? ((a.add (k * 3)).add j) = some u := fun w' hb j u hu => by
      have := hcell j u hu
      rw [hb.cell (World.block_lt_of_cell? _ _ this)]; exact this
    have kc' : ∀ w', Below w1.heap.size w1 w' → ∀ j u, (valF m[k])[j]? = some u → w'.cell? ((a'.add (k * 3)).add j) = some u := fun w' hb j u hu => by
      have := hcell' j u hu
      rw [hb.cell (World.block_lt_of_cell? _ _ this)]; exact this
    (repeat with_reducible first|refine z_b ?_)
    refine draw (Below w1.heap.size w1) hdr ?_
    refine yixA undVs szVal k hk' ?_
    refine yldR aggVal kc (by rw [szVal]; rfl) ?_
    refine yixA undVs szVal k hkm ?_
    refine yldR aggVal kc' (by rw [szVal]; rfl) ?_
    refine yofPR (pr_neqV _ _) ?_
    have hb2 := below_then hb1 hdr
    cases hs : sameV l[k] m[k] with
    | true =>
      refine CondP.no_ rfl ?_
      (repeat with_reducible first|refine z_o (by omega) ?_)
      exact hJ _ _ ⟨k + 1, by omega, by simp, take_eq_step hk' hkm heq ((sameV_iff _ _).1 hs), hb2⟩ (by simp [intOf]; omega)
    | false =>
      refine CondP.yes rfl ?_
      refine ⟨fB fun e => ?_, hb2⟩
      subst e
      rw [(sameV_iff _ _).2 rfl] at hs
      cases hs
  · have : k = l.length := by omega
    subst this
    (repeat with_reducible first|refine z_c ?_)
    refine ⟨tB ?_, hb1⟩
    rw [List.take_length, hlen, List.take_length] at heq
    exact heq
theorem Light19 (v : Value) (l : List ValT) (n : Int) (hn : 0 ≤ n ∧ n ≤ 1000) (w : World) (hv : Vals w [v] l) : CallP Tryz.prog 19 #[v, .int .i64 n] (fun r w' => ∃ b, r = .bool b ∧ (b = true → (l.length : Int) ≤ n + 1) ∧ Below w.heap.size w w') w := by
  obtain ⟨A, c, rfl, hc, hm⟩ := hv.slice
  refine ⟨S19.calls _ _ _ _ ?_⟩
  unfold S19
  refine LoopP.inv2 (fun sv iv w' => ∃ (z : Int) (k : Nat), k ≤ l.length ∧ (k : Int) ≤ n + 1 ∧ 0 ≤ z ∧ z ≤ n ∧ sv = .int .i64 z ∧ iv = .int .i64 k ∧ Below w.heap.size w w') (fun _ iv _ => l.length - (intOf iv).toNat) ⟨0, 0, by omega, by omega, by omega, by omega, rfl, rfl, Below.refl _ _⟩ ?_
  rintro _ _ w1 ⟨z, k, hk, hkn, hz0, hz1, rfl, rfl, hb1⟩ J hJ
  dsimp only [List.headD_cons, List.tail_cons]
  refine ln undVs ?_
  refine bi_lss_c (fun h => ?_) (fun h => ?_)
  · have hk' : k < l.length := by omega
    obtain ⟨a, us, rfl, hus, hcell, hrd⟩ := rRow.at (keeps_Vals _ _ _ _ hb1 hv) k hk'
    obtain ⟨rfl, hvo⟩ := val_cells hrd
    have hsz := hvo.2.2
    simp only [maxLen] at hsz
    (repeat with_reducible first|refine z_b ?_)
    refine ixN undVs szVal k hk' ?_
    refine fdA v2 (by decide) ?_
    refine ld one9 (hcell 2 _ rfl) ?_
    refine lns und9 ?_
    refine bi_gtr_c (fun h1 => ?_) (fun h1 => ?_)
    · (repeat with_reducible first|refine z_b ?_|refine z_f ?_|refine z_k ?_)
      exact ⟨false, rfl, (fun e => by cases e), hb1⟩
    (repeat with_reducible first|refine z_d ?_)
    refine bi_gtr_c (fun h2 => ?_) (fun h2 => ?_)
    · (repeat with_reducible first|refine z_b ?_|refine z_l ?_)
      exact ⟨false, rfl, (fun e => by cases e), hb1⟩
    (repeat with_reducible first|refine z_c ?_|refine z_l ?_)
    refine ixN undVs szVal k hk' ?_
    refine fdA v2 (by decide) ?_
    refine ld one9 (hcell 2 _ rfl) ?_
    refine lns und9 ?_
    (repeat with_reducible first|refine z_o (by omega) ?_)
    refine bi_gtr_c (fun h3 => ?_) (fun h3 => ?_)
    · (repeat with_reducible first|refine z_b ?_)
      exact ⟨false, rfl, (fun e => by cases e), hb1⟩
    (repeat with_reducible first|refine z_c ?_|refine z_o (by omega) ?_)
    exact hJ _ _ _ ⟨_, k + 1, by omega, by omega, by omega, by omega, rfl, by simp, hb1⟩ (by simp [intOf]; omega)
  · (repeat with_reducible first|refine z_c ?_)
    exact ⟨true, rfl, fun _ => by omega, hb1⟩
/-- A light operation. -/
structure Lite (o : OpP) : Prop where
  fields : o.fields.length ≤ 300
  rcd : o.rcd.length ≤ 301
  old : o.old.length ≤ 301
  low : o.low.length ≤ 301
  high : o.high.length ≤ 301
theorem Light10 (o : OpP) (s : OpS) (w : World) (h : OpAt w o s) : CallP Tryz.prog 10 #[.agg (opC o s)] (fun r w' => ∃ b, r = .bool b ∧ (b = true → Lite o) ∧ Below w.heap.size w w') w := by
  refine ⟨S10.calls _ _ _ ?_⟩
  unfold S10
  refine bxB ?_
  intro g w1 hg hB hb1
  have hA := h.below hb1
  have hr := Below.refl w1.heap.size w1
  have no : ∀ w', Below w1.heap.size w1 w' → ∃ b, Value.bool false = .bool b ∧ (b = true → Lite o) ∧ Below w.heap.size w w' := fun w' hb => ⟨false, rfl, (fun e => by cases e), below_then hb1 hb⟩
  (repeat with_reducible first|refine fd of1 (by decide) ?_|refine ld one9 (opk1 hB _ hr) ?_)
  refine lns und9 ?_
  refine bi_leq_c (fun h1 => ?_) (fun h1 => ?_)
  rotate_left
  · (repeat with_reducible first|refine z_e ?_|refine z_l ?_)
    exact no _ hr
  (repeat with_reducible first|refine fd of2 (by decide) ?_|refine ld one9 (opk2 hB _ hr) ?_|refine z_d ?_)
  refine lns und9 ?_
  (repeat with_reducible first|refine z_d ?_)
  refine bi_leq_c (fun h2 => ?_) (fun h2 => ?_)
  rotate_left
  · (repeat with_reducible first|refine z_e ?_|refine z_k ?_|refine z_l ?_)
    exact no _ hr
  (repeat with_reducible first|refine fd of6 (by decide) ?_|refine ld oneIs (opk6 hB _ hr) ?_|refine z_d ?_|refine z_k ?_)
  obtain ⟨A, c, he, _⟩ := (ints_rd hA.fields).1.slice
  rw [he, show (iV o.fields).length = o.fields.length from List.length_map _]
  refine ln undIs ?_
  (repeat with_reducible first|refine z_d ?_)
  refine bi_leq_c (fun h3 => ?_) (fun h3 => ?_)
  rotate_left
  · (repeat with_reducible first|refine z_e ?_|refine z_k ?_|refine z_l ?_)
    exact no _ hr
  (repeat with_reducible first|refine fd of3 (by decide) ?_|refine ld oneRec (opk3 hB _ hr) ?_|refine z_d ?_|refine z_k ?_)
  refine (Light19 _ _ 300 (by decide) w1 hA.rcd).mono ?_
  rintro _ w2 ⟨b, rfl, hl1, hb2⟩
  cases b with
  | false =>
    (repeat with_reducible first|refine z_e ?_|refine z_k ?_|refine z_l ?_)
    exact no _ hb2
  | true =>
  (repeat with_reducible first|refine fd of4 (by decide) ?_|refine ld oneRec (opk4 hB _ hb2) ?_|refine z_d ?_|refine z_k ?_)
  refine (Light19 _ _ 300 (by decide) w2 (keeps_Vals _ _ _ _ hb2 hA.old)).mono ?_
  rintro _ w3 ⟨b, rfl, hl2, hb3⟩
  have hb3 := below_then hb2 hb3
  cases b with
  | false =>
    (repeat with_reducible first|refine z_e ?_|refine z_k ?_|refine z_l ?_)
    exact no _ hb3
  | true =>
  (repeat with_reducible first|refine fd of7 (by decide) ?_|refine ld oneVs (opk7 hB _ hb3) ?_|refine z_d ?_|refine z_k ?_)
  refine (Light19 _ _ 300 (by decide) w3 (keeps_Vals _ _ _ _ hb3 hA.low)).mono ?_
  rintro _ w4 ⟨b, rfl, hl3, hb4⟩
  have hb4 := below_then hb3 hb4
  cases b with
  | false =>
    (repeat with_reducible first|refine z_e ?_|refine z_k ?_|refine z_l ?_)
    exact no _ hb4
  | true =>
  (repeat with_reducible first|refine fd of8 (by decide) ?_|refine ld oneVs (opk8 hB _ hb4) ?_|refine z_d ?_|refine z_k ?_)
  refine (Light19 _ _ 300 (by decide) w4 (keeps_Vals _ _ _ _ hb4 hA.high)).mono ?_
  rintro _ w5 ⟨b, rfl, hl4, hb5⟩
  have hb5 := below_then hb4 hb5
  (repeat with_reducible first|refine z_k ?_)
  refine ⟨b, rfl, fun e => ?_, below_then hb1 hb5⟩
  have h1 := hl1 rfl
  have h2 := hl2 rfl
  have h3 := hl3 rfl
  have h4 := hl4 e
  exact ⟨by omega, by omega, by omega, by omega, by omega⟩
def toP (x : OpT) : OpP := ⟨x.1, x.2.1, x.2.2.1, x.2.2.2.1, x.2.2.2.2.1, x.2.2.2.2.2.1, x.2.2.2.2.2.2.1, x.2.2.2.2.2.2.2.1, x.2.2.2.2.2.2.2.2.1, x.2.2.2.2.2.2.2.2.2.1, x.2.2.2.2.2.2.2.2.2.2.1, x.2.2.2.2.2.2.2.2.2.2.2.1⟩
theorem op_at {w : World} {us : List Value} {x : OpT} (h : rOp w us x) : ∃ s, us = (opC (toP x) s).toList ∧ OpAt w (toP x) s := by
  obtain ⟨r, rfl, h1, h⟩ := rCons_I h
  obtain ⟨r, rfl, h2, h⟩ := rCons_S h
  obtain ⟨r, rfl, h3, h⟩ := rCons_S h
  obtain ⟨p, r, rfl, h4, h⟩ := rCons_Row h
  obtain ⟨q, r, rfl, h5, h⟩ := rCons_Row h
  obtain ⟨r, rfl, h6, h⟩ := rCons_I h
  obtain ⟨f, r, rfl, h7, h⟩ := rCons_Row h
  obtain ⟨lo, r, rfl, h8, h⟩ := rCons_Row h
  obtain ⟨hi, r, rfl, h9, h⟩ := rCons_Row h
  obtain ⟨r, rfl, h10, h⟩ := rCons_I h
  obtain ⟨r, rfl, h11, h⟩ := rCons_I h
  obtain ⟨r, rfl, h12, h⟩ := rCons_I h
  have : r = [] := h
  subst this
  have a1 := wf_64 h1
  have a6 := wf_64 h6
  have a10 := wf_64 h10
  have a11 := wf_64 h11
  have a12 := wf_64 h12
  exact ⟨⟨p, q, f, lo, hi⟩, rfl, ⟨h4, h5, h7, h8, h9, ⟨a1.1, a1.2, a6.1, a6.2, a10.1, a10.2, a11.1, a11.2, a12.1, a12.2⟩, h2, h3⟩⟩
theorem AllLight13 (v : Value) (l : List OpT) (n : Int) (hn : 0 ≤ n ∧ n ≤ 1000) (w : World) (hv : Ops w [v] l) : CallP Tryz.prog 13 #[v, .int .i64 n] (fun r w' => ∃ b, r = .bool b ∧ (b = true → (l.length : Int) ≤ n ∧ ∀ x ∈ l, Lite (toP x)) ∧ Below w.heap.size w w') w := by
  obtain ⟨A, c, rfl, hc, hm⟩ := hv.slice
  refine ⟨S13.calls _ _ _ _ ?_⟩
  unfold S13
  refine ln undOps ?_
  refine bi_gtr_c (fun h0 => ?_) (fun h0 => ?_)
  · (repeat with_reducible first|refine z_b ?_)
    exact ⟨false, rfl, (fun e => by cases e), Below.refl _ _⟩
  (repeat with_reducible first|refine z_c ?_)
  refine LoopP.inv1 (fun iv w' => ∃ k : Nat, k ≤ l.length ∧ iv = .int .i64 k ∧ (∀ x ∈ l.take k, Lite (toP x)) ∧ Below w.heap.size w w') (fun iv _ => l.length - (intOf iv).toNat) ⟨0, by omega, rfl, by simp, Below.refl _ _⟩ ?_
  rintro _ w1 ⟨k, hk, rfl, hall, hb1⟩ J hJ
  dsimp only [List.headD_cons, List.tail_cons]
  refine ln undOps ?_
  refine bi_lss_c (fun h => ?_) (fun h => ?_)
  · have hk' : k < l.length := by omega
    obtain ⟨a, us, rfl, hus, hcell, hrd⟩ := rRow.at (keeps_Ops _ _ _ _ hb1 hv) k hk'
    obtain ⟨s, rfl, hat⟩ := op_at hrd
    (repeat with_reducible first|refine z_b ?_)
    refine ixN undOps szOp k hk' ?_
    refine ldR aggOp hcell (by rw [szOp]; rfl) ?_
    refine (Light10 _ s w1 hat).mono ?_
    rintro _ w2 ⟨b, rfl, hl, hb2⟩
    cases b with
    | false =>
      (repeat with_reducible first|refine z_b ?_|refine z_F ?_)
      exact ⟨false, rfl, (fun e => by cases e), below_then hb1 hb2⟩
    | true =>
      (repeat with_reducible first|refine z_c ?_|refine z_o (by omega) ?_|refine z_E ?_)
      refine hJ _ _ ⟨k + 1, by omega, by simp, ?_, below_then hb1 hb2⟩ (by simp [intOf]; omega)
      intro x hx
      rw [List.take_succ_eq_append_getElem hk'] at hx
      rcases List.mem_append.1 hx with hx | hx
      · exact hall x hx
      · simp only [List.mem_cons, List.not_mem_nil, or_false] at hx
        rw [hx]; exact hl rfl
  · have : k = l.length := by omega
    subst this
    rw [List.take_length] at hall
    (repeat with_reducible first|refine z_c ?_)
    exact ⟨true, rfl, fun _ => ⟨by omega, hall⟩, hb1⟩
end Go.Proofs.YtonblppkidpmlaaGreatDoor.E
