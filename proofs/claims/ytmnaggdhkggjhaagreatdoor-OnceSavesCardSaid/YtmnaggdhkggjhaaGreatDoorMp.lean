import Derived.Test.YtmnaggdhkggjhaaGreatDoorMo
import Derived.Shelf.Vars
namespace Go.Proofs.YtmnaggdhkggjhaaGreatDoor.E
open Go Go.Proofs Go.RowKit Classical
set_option linter.unusedSimpArgs false
set_option linter.unusedVariables false

theorem Save_V {hu : Nat} {c : Nat → Nat} {w : World} {g : Nat} {V : Int → VC} {N : Nat} {L : Lst} (h : TabV hu c w g V N) (hin : InP V) (hs : SvV V) (hN : N ≤ 1000) (hL : LstV L V) (hm : Pl.GMx w) :
    CallP Tryz.prog 10 #[.pointer (some ⟨g, 0, none⟩)] (fun r w' => r = tS (saveT L) ∧ Below w.heap.size w w') w := by
  obtain ⟨T, h1, h2, h3, h4⟩ := h.lst hin hs hN
  rw [(hL.eq_iff h3).2 rfl]
  exact Save_tab h1 h2 hm
theorem Load_V {hu : Nat} (hh : 0 < hu ∧ hu < 1000) (c0 : Nat → Nat) (w : World) (hfree : ∀ k, k < w.heap.size → c0 k % 1000 ≠ hu) {L : Lst} {V : Int → VC} (hL : LstV L V) (hg : ∀ id, GoodV (V id)) (hl : L.length ≤ 100) (hm : Pl.GMx w) :
    CallP Tryz.prog 9 #[tS (saveT L)] (fun r w' => ∃ (g : Nat) (c' : Nat → Nat), r = .tuple #[.pointer (some ⟨g, 0, none⟩), .int .i64 0] ∧ (∀ k, k < w.heap.size → c' k = c0 k) ∧ TabV hu c' w' g V 100 ∧ Below w.heap.size w w') w := by
  have hlen := hL.len hl
  refine (Load9 hu hh c0 w hfree (saveT L) hlen hm).mono ?_
  intro r w' hP
  obtain ⟨g, c', T, rfl, hc, ht, ha, _⟩ := hP.yes L (load_back hL.rise hL.row (by omega))
  exact ⟨g, c', rfl, hc, TabV.loaded ht ha hL hg hl, hP.bel⟩
theorem undTb : Tryz.prog.underlying 25 = some (.pointer 55) := by kernel_rfl
theorem loadP_some {bs : List UInt8} {A : Tp} (h : loadP bs = some A) : saveT (lstOf A) = bs := by
  unfold loadP at h
  simp only at h
  split at h
  · cases h
  · rename_i hn
    cases h
    apply Classical.byContradiction
    intro he
    exact hn (.inr (.inl he))
set_option maxHeartbeats 4000000 in
theorem OnceSaves_spec (v : Value) (l : List ActT) (s : List UInt8) (w : World) (hv : Acts w [v] l) (hm : Pl.GMx w) :
    CallP Tryz.prog 3 #[v, tS s] (fun r w' => r = .bool true ∧ Below w.heap.size w w') w := by
  obtain ⟨A, cA, rfl, _, hmA⟩ := hv.slice
  refine ⟨S3.calls _ _ _ _ ?_⟩
  unfold S3
  refine (awake_spec w).mono ?_
  rintro _ w1 ⟨rfl, hb1⟩
  (repeat with_reducible first|refine z_c ?_|refine z_E ?_)
  refine (lightActs_spec _ l w1 (keeps_Acts _ _ _ _ hb1 hv)).mono ?_
  rintro _ _ ⟨b, rfl, hlight, rfl⟩
  cases b with
  | false =>
    (repeat with_reducible first|refine z_b ?_|refine z_f ?_|refine z_k ?_|refine z_F ?_)
    exact ⟨rfl, hb1⟩
  | true =>
  obtain ⟨hl100, hla⟩ := hlight rfl
  (repeat with_reducible first|refine z_d ?_|refine z_E ?_)
  refine lnT und9 ?_
  (repeat with_reducible first|refine z_d ?_)
  refine bi_gtr_c (fun h3 => ?_) (fun h3 => ?_)
  · (repeat with_reducible first|refine z_b ?_|refine z_l ?_)
    exact ⟨rfl, hb1⟩
  have hs3000 : s.length ≤ 3000 := by omega
  (repeat with_reducible first|refine z_c ?_|refine z_l ?_)
  refine (New_V 1 (by decide) (fun _ => 0) w1).mono ?_
  rintro _ w2 ⟨ga, c2, rfl, hc2, h2, hb2⟩
  refine (New_V 2 (by decide) c2 w2).mono ?_
  rintro _ w3 ⟨gb, c3, rfl, hc3, h3, hb3⟩
  have h3a : TabV 1 c3 w3 ga V0 0 := (h2.re hc3).below hb3
  have hb3' := below_then (below_then hb1 hb2) hb3
  have hs1 := hb1.size
  have hs2 := hb2.size
  have hs3 := hb3.size
  have hz3 : ∀ k, k < w.heap.size → c3 k = 0 := fun k hk => by rw [hc3 k (by omega), hc2 k (by omega)]
  refine bd (cells := #[.pointer (some ⟨ga, 0, none⟩), .pointer (some ⟨gb, 0, none⟩)]) (by kernel_rfl) ?_
  refine al z54 ?_
  have hB4 : Blk (w3.alloc (.cells (Value.agg #[.pointer none, .pointer none]).cells 27)) w3.heap.size 27 #[.pointer none, .pointer none] := Blk.new w3 27 _
  have ha4 := (Below.refl w3.heap.size w3).alloc (Nat.le_refl _) (.cells (Value.agg #[.pointer none, .pointer none]).cells 27)
  refine stA hB4 (by exact sz54) (by rfl) (by rw [← Array.all_toList]; rfl) ?_
  have hB5 := hB4.row #[.pointer (some ⟨ga, 0, none⟩), .pointer (some ⟨gb, 0, none⟩)]
  have hb5 : Below w3.heap.size w3 _ := below_setRow ha4 (Nat.le_refl _) #[.pointer (some ⟨ga, 0, none⟩), .pointer (some ⟨gb, 0, none⟩)]
  generalize (w3.alloc (.cells (Value.agg #[.pointer none, .pointer none]).cells 27)).setRow w3.heap.size #[.pointer (some ⟨ga, 0, none⟩), .pointer (some ⟨gb, 0, none⟩)] = w5 at *
  have hcol := col_lt c3 w3.heap.size 0
  have hct : col c3 w3.heap.size 0 w3.heap.size = 0 := col_ge _ _ _ (Nat.le_refl _)
  have ha5 := (h3a.re hcol).below hb5
  have hbb5 := (h3.re hcol).below hb5
  have hz5 : ∀ k, k < w.heap.size → col c3 w3.heap.size 0 k = 0 := fun k hk => by rw [hcol k (by omega), hz3 k hk]
  have hb5' := below_then hb3' hb5
  generalize col c3 w3.heap.size 0 = c5 at *
  generalize hbt : w3.heap.size = bt at *
  -- the reference's tables
  refine bd (cells := #[.slice none 0 0, .slice none 0 0]) (by kernel_rfl) ?_
  refine bx ?_
  have hb6 := (Below.refl w5.heap.size w5).alloc (Nat.le_refl _) (.cells (Value.agg #[.slice none 0 0, .slice none 0 0]).cells 32)
  have hx6 := newRef_V (hu := 3) (by decide) c5 w5
  have hcol6 := col_lt c5 w5.heap.size 3
  have ha6 := (ha5.re hcol6).below hb6
  have hbb6 := (hbb5.re hcol6).below hb6
  have hB6 := hB5.below' hb6
  have hb6' := below_then hb5' hb6
  have hs5 := hb5'.size
  have hbtl := hB5.lt
  have hz6 : ∀ k, k < w.heap.size → col c5 w5.heap.size 3 k = 0 := fun k hk => by rw [hcol6 k (by omega), hz5 k hk]
  have hct6 : col c5 w5.heap.size 3 bt = 0 := by rw [hcol6 bt hbtl, hct]
  generalize col c5 w5.heap.size 3 = c6 at *
  generalize w5.alloc (.cells (Value.agg #[.slice none 0 0, .slice none 0 0]).cells 32) = w6 at *
  generalize w5.heap.size = m0' at *
  refine bd (cells := #[.slice none 0 0, .slice none 0 0]) (by kernel_rfl) ?_
  refine bx ?_
  have hb7 := (Below.refl w6.heap.size w6).alloc (Nat.le_refl _) (.cells (Value.agg #[.slice none 0 0, .slice none 0 0]).cells 32)
  have hy7 := newRef_V (hu := 4) (by decide) c6 w6
  have hcol7 := col_lt c6 w6.heap.size 4
  have ha7 := (ha6.re hcol7).below hb7
  have hbb7 := (hbb6.re hcol7).below hb7
  have hx7 := (hx6.re hcol7).below hb7
  have hB7 := hB6.below' hb7
  have hb7' := below_then hb6' hb7
  have hs6 := hb6'.size
  have hbtl6 := hB6.lt
  have hz7 : ∀ k, k < w.heap.size → col c6 w6.heap.size 4 k = 0 := fun k hk => by rw [hcol7 k (by omega), hz6 k hk]
  have hct7 : col c6 w6.heap.size 4 bt = 0 := by rw [hcol7 bt hbtl6, hct6]
  generalize col c6 w6.heap.size 4 = c7 at *
  generalize w6.alloc (.cells (Value.agg #[.slice none 0 0, .slice none 0 0]).cells 32) = w7 at *
  generalize w6.heap.size = m1' at *
  refine bd (cells := #[.pointer (some ⟨m0', 0, none⟩), .pointer (some ⟨m1', 0, none⟩)]) (by kernel_rfl) ?_
  refine al z56 ?_
  have hB8 : Blk (w7.alloc (.cells (Value.agg #[.pointer none, .pointer none]).cells 33)) w7.heap.size 33 #[.pointer none, .pointer none] := Blk.new w7 33 _
  have ha8 := (Below.refl w7.heap.size w7).alloc (Nat.le_refl _) (.cells (Value.agg #[.pointer none, .pointer none]).cells 33)
  refine stA hB8 (by exact sz56) (by rfl) (by rw [← Array.all_toList]; rfl) ?_
  have hB9 := hB8.row #[.pointer (some ⟨m0', 0, none⟩), .pointer (some ⟨m1', 0, none⟩)]
  have hb9 : Below w7.heap.size w7 _ := below_setRow ha8 (Nat.le_refl _) #[.pointer (some ⟨m0', 0, none⟩), .pointer (some ⟨m1', 0, none⟩)]
  generalize (w7.alloc (.cells (Value.agg #[.pointer none, .pointer none]).cells 33)).setRow w7.heap.size #[.pointer (some ⟨m0', 0, none⟩), .pointer (some ⟨m1', 0, none⟩)] = w9 at *
  have hcol9 := col_lt c7 w7.heap.size 0
  have hs7 := hb7'.size
  have hI0 : JoinsAt w bt w7.heap.size (col c7 w7.heap.size 0) w9 ga gb m0' m1' V0 V0 0 :=
    ⟨(ha7.re hcol9).below hb9, (hbb7.re hcol9).below hb9, (hx7.re hcol9).below hb9, (hy7.re hcol9).below hb9, inP0, inP0, fun k hk => by rw [hcol9 k (by omega), hz7 k hk], by rw [hcol9 bt hB7.lt, hct7], col_ge _ _ _ (Nat.le_refl _), hB7.below' hb9, hB9, below_then hb7' hb9⟩
  generalize hbm : w7.heap.size = bm at *
  refine LoopP.inv1 (fun iv w' => ∃ (i : Nat) (c : Nat → Nat) (V U : Int → VC), i ≤ l.length ∧ iv = .int .i64 i ∧ JoinsAt w bt bm c w' ga gb m0' m1' V U i ∧ SvV V ∧ SvV U) (fun iv _ => l.length - (intOf iv).toNat)
    ⟨0, _, V0, V0, by omega, rfl, hI0, svV0, svV0⟩ ?_
  rintro _ w10 ⟨i, c, V, U, hi, rfl, I, hsV, hsU⟩ J hJ
  dsimp only [List.headD_cons, List.tail_cons]
  refine ln und39 ?_
  refine bi_lss_c (fun h => ?_) (fun h => ?_)
  · have hi' : i < l.length := by omega
    obtain ⟨a, p, q, rfl, hcell, hp, hq⟩ := act_whole hv i hi'
    have hla' := hla l[i] (List.getElem_mem hi')
    have hbel := I.bel
    have hus : ∀ j u, (kaF (l[i], p, q))[j]? = some u → w10.cell? ((a.add (i * 8)).add j) = some u := fun j u hu => by rw [hbel.cell (World.block_lt_of_cell? _ _ (hcell j u hu)), hcell j u hu]
    have h1p : p.oneCell' = true := by obtain ⟨A, c, e, _⟩ := hp.slice; rw [e]; rfl
    have h1q : q.oneCell' = true := by obtain ⟨A, c, e, _⟩ := hq.slice; rw [e]; rfl
    (repeat with_reducible first|refine z_b ?_)
    refine ixN und39 sz47 i hi' ?_
    refine ldR agg47 hus (by rw [sz47]; rfl) ?_
    refine al z47 ?_
    have hB11 := Blk.new w10 41 (Value.agg #[.int .i64 0, .int .i64 0, .int .i64 0, .int .i64 0, .bool false, .slice none 0 0, .slice none 0 0, .int .i64 0]).cells
    have ha11 := (Below.refl w10.heap.size w10).alloc (Nat.le_refl _) (.cells (Value.agg #[.int .i64 0, .int .i64 0, .int .i64 0, .int .i64 0, .bool false, .slice none 0 0, .slice none 0 0, .int .i64 0]).cells 41)
    refine stA hB11 (by rw [sz47]; rfl) (by rfl) (by
      rw [← Array.all_toList, List.all_eq_true]
      exact fun u hu => one_ka (l[i], p, q) h1p h1q u hu) ?_
    have hK11 := hB11.row (kaF (l[i], p, q)).toArray
    have hb11 : Below w10.heap.size w10 _ := below_setRow ha11 (Nat.le_refl _) (kaF (l[i], p, q)).toArray
    generalize (w10.alloc (.cells (Value.agg #[.int .i64 0, .int .i64 0, .int .i64 0, .int .i64 0, .bool false, .slice none 0 0, .slice none 0 0, .int .i64 0]).cells 41)).setRow w10.heap.size (kaF (l[i], p, q)).toArray = w11 at *
    have hdr : Below w11.heap.size w11 w11.drew := (Below.refl _ _).drew
    have hcK : col c w10.heap.size 0 w10.heap.size = 0 := col_ge _ _ _ (Nat.le_refl _)
    have I11 := I.below (below_then hb11 hdr)
    have hK12 := hK11.below' hdr
    generalize col c w10.heap.size 0 = c11 at *
    generalize w10.heap.size = gk at *
    obtain ⟨bs, hbs⟩ : ∃ bs : Bool, bits .and .i64 l[i].1 1 = ((if bs then 1 else 0 : Nat) : Int) := by
      rcases and1 l[i].1 with e | e
      · exact ⟨false, e⟩
      · exact ⟨true, e⟩
    have sz : (Tryz.prog.info? 39).map (·.size) = some (l[i].rep.cells p q).toList.length := by rw [sz27]; rfl
    have e0 : ∀ w', (Blk w' gk 41 (kaF (l[i], p, q)).toArray ∧ Blk w' bt 27 #[.pointer (some ⟨ga, 0, none⟩), .pointer (some ⟨gb, 0, none⟩)]) → w'.cell? ⟨gk, 0, none⟩ = some (.int .i64 l[i].1) := fun w' h => h.1.cell 0
    have e1 : ∀ w', (Blk w' gk 41 (kaF (l[i], p, q)).toArray ∧ Blk w' bt 27 #[.pointer (some ⟨ga, 0, none⟩), .pointer (some ⟨gb, 0, none⟩)]) → w'.cell? ⟨gk, 1, none⟩ = some (.int .i64 l[i].cl) := fun w' h => h.1.cell 1
    have e2 : ∀ w', (Blk w' gk 41 (kaF (l[i], p, q)).toArray ∧ Blk w' bt 27 #[.pointer (some ⟨ga, 0, none⟩), .pointer (some ⟨gb, 0, none⟩)]) → w'.cell? ⟨gk, 2, none⟩ = some (.int .i64 l[i].no) := fun w' h => h.1.cell 2
    have e3 : ∀ w', (Blk w' gk 41 (kaF (l[i], p, q)).toArray ∧ Blk w' bt 27 #[.pointer (some ⟨ga, 0, none⟩), .pointer (some ⟨gb, 0, none⟩)]) → ∀ j u, (l[i].rep.cells p q).toList[j]? = some u → w'.cell? ((⟨gk, 3, none⟩ : Addr).add j) = some u := fun w' h j u hu => by
      rw [add0, h.1.cell]
      have : (kaF (l[i], p, q))[3 + j]? = some u := by rw [← hu, show 3 + j = j + 3 from by omega]; rfl
      simpa using this
    have rp : ∀ w', (Blk w' gk 41 (kaF (l[i], p, q)).toArray ∧ Blk w' bt 27 #[.pointer (some ⟨ga, 0, none⟩), .pointer (some ⟨gb, 0, none⟩)]) → w'.cell? ⟨bt, (if bs then 1 else 0 : Nat), none⟩ = some (.pointer (some ⟨if bs then gb else ga, 0, none⟩)) := fun w' h => by
      have := h.2.cell (if bs then 1 else 0)
      rw [this]
      cases bs <;> rfl
    refine draw (fun w' => Blk w' gk 41 (kaF (l[i], p, q)).toArray ∧ Blk w' bt 27 #[.pointer (some ⟨ga, 0, none⟩), .pointer (some ⟨gb, 0, none⟩)]) ⟨hK12, I11.blkt⟩ ?_
    (repeat with_reducible first|refine yfd q0 (by decide) ?_|refine yl1 one3 e0 ?_|refine z_s1 ?_)
    rw [hbs]
    refine yixB und54 sz30 _ (by cases bs <;> decide) ?_
    refine yl1 one30 rp ?_
    (repeat with_reducible first|refine yfd q1 (by decide) ?_|refine yl1 one3 e1 ?_|refine yfd q2 (by decide) ?_|refine yl1 one3 e2 ?_|refine yfd q3 (by decide) ?_)
    refine yldR agg27 e3 sz ?_
    rw [Array.toArray_toList]
    have hp12 := keeps_Vals _ _ _ _ I11.bel hp
    have hq12 := keeps_RowsR _ _ _ _ I11.bel hq
    refine (keepT bs l[i].cl l[i].no l[i].rep p q l[i].vs l[i].rows I11.a I11.b hp12 (fun hu hhu => hp.hue I11.old hhu) hq12 (by have := hla'.1; omega) (by omega)).mono ?_
    rintro _ w13 ⟨c13, hc13, hA13, hB13, hT13⟩
    have hsd := I11.bel.size
    have hK13 := hK12.turns hT13 (fun e => by rw [hcK] at e; omega)
    have hb13 : Below w.heap.size w11.drew w13 := hT13.below hsd fun k hk e => by rw [I11.old k hk] at e; omega
    have hbel13 := I11.bel.trans hb13
    have hx13 := I11.x.on' hT13 (fun k e => by omega) hc13
    have hy13 := I11.y.on' hT13 (fun k e => by omega) hc13
    have hold13 : ∀ k, k < w.heap.size → c13 k = 0 := fun k hk => by rw [hc13 k (by omega), I11.old k hk]
    have hblkt13 := I11.blkt.turns hT13 (fun e => by rw [I11.ct] at e; omega)
    have hblkm13 := I11.blkm.turns hT13 (fun e => by rw [I11.cm] at e; omega)
    have hct13 : c13 bt = 0 := by rw [hc13 bt I11.blkt.lt, I11.ct]
    have hcm13 : c13 bm = 0 := by rw [hc13 bm I11.blkm.lt, I11.cm]
    have hcK13 : c13 gk = 0 := by rw [hc13 gk hK12.lt, hcK]
    have hdr13 : Below w13.heap.size w13 w13.drew := (Below.refl _ _).drew
    have f0' : ∀ w', (Blk w' gk 41 (kaF (l[i], p, q)).toArray ∧ Blk w' bm 33 #[.pointer (some ⟨m0', 0, none⟩), .pointer (some ⟨m1', 0, none⟩)]) → w'.cell? ⟨gk, 0, none⟩ = some (.int .i64 l[i].1) := fun w' h => h.1.cell 0
    have f1' : ∀ w', (Blk w' gk 41 (kaF (l[i], p, q)).toArray ∧ Blk w' bm 33 #[.pointer (some ⟨m0', 0, none⟩), .pointer (some ⟨m1', 0, none⟩)]) → w'.cell? ⟨gk, 1, none⟩ = some (.int .i64 l[i].cl) := fun w' h => h.1.cell 1
    have f2' : ∀ w', (Blk w' gk 41 (kaF (l[i], p, q)).toArray ∧ Blk w' bm 33 #[.pointer (some ⟨m0', 0, none⟩), .pointer (some ⟨m1', 0, none⟩)]) → w'.cell? ⟨gk, 2, none⟩ = some (.int .i64 l[i].no) := fun w' h => h.1.cell 2
    have f3' : ∀ w', (Blk w' gk 41 (kaF (l[i], p, q)).toArray ∧ Blk w' bm 33 #[.pointer (some ⟨m0', 0, none⟩), .pointer (some ⟨m1', 0, none⟩)]) → ∀ j u, (l[i].rep.cells p q).toList[j]? = some u → w'.cell? ((⟨gk, 3, none⟩ : Addr).add j) = some u := fun w' h j u hu => by
      rw [add0, h.1.cell]
      have : (kaF (l[i], p, q))[3 + j]? = some u := by rw [← hu, show 3 + j = j + 3 from by omega]; rfl
      simpa using this
    have mp : ∀ w', (Blk w' gk 41 (kaF (l[i], p, q)).toArray ∧ Blk w' bm 33 #[.pointer (some ⟨m0', 0, none⟩), .pointer (some ⟨m1', 0, none⟩)]) → w'.cell? ⟨bm, (if bs then 1 else 0 : Nat), none⟩ = some (.pointer (some ⟨if bs then m1' else m0', 0, none⟩)) := fun w' h => by
      have := h.2.cell (if bs then 1 else 0)
      rw [this]
      cases bs <;> rfl
    refine draw (fun w' => Blk w' gk 41 (kaF (l[i], p, q)).toArray ∧ Blk w' bm 33 #[.pointer (some ⟨m0', 0, none⟩), .pointer (some ⟨m1', 0, none⟩)]) ⟨hK13.below' hdr13, hblkm13.below' hdr13⟩ ?_
    (repeat with_reducible first|refine yfd q0 (by decide) ?_|refine yl1 one3 f0' ?_|refine z_s1 ?_)
    rw [hbs]
    refine yixB und56 sz41 _ (by cases bs <;> decide) ?_
    refine yl1 one41 mp ?_
    (repeat with_reducible first|refine yfd q1 (by decide) ?_|refine yl1 one3 f1' ?_|refine yfd q2 (by decide) ?_|refine yl1 one3 f2' ?_|refine yfd q3 (by decide) ?_)
    refine yldR agg27 f3' sz ?_
    rw [Array.toArray_toList]
    have hbel13d := below_then hbel13 hdr13
    refine (keepM bs l[i].cl l[i].no l[i].rep p q l[i].vs l[i].rows (hx13.below hdr13) (hy13.below hdr13) (keeps_Vals _ _ _ _ hbel13d hp) (keeps_RowsR _ _ _ _ hbel13d hq) (by have := hla'.1; omega) (by omega)).mono ?_
    rintro _ w14 ⟨c14, hc14, hx14, hy14, hT14⟩
    have hs13 := hbel13d.size
    have hb14 : Below w.heap.size w13.drew w14 := hT14.below hs13 fun k hk e => by rw [hold13 k hk] at e; omega
    (repeat with_reducible first|refine z_o (by omega) ?_)
    refine hJ _ _ ⟨i + 1, c14, _, _, by omega, by simp, ⟨(hA13.below hdr13).on hT14 (fun k e => by omega) hc14, (hB13.below hdr13).on hT14 (fun k e => by omega) hc14, hx14, hy14, ?_, ?_, fun k hk => by rw [hc14 k (by omega), hold13 k hk], ?_, ?_, (hblkt13.below' hdr13).turns hT14 (fun e => by rw [hct13] at e; omega), (hblkm13.below' hdr13).turns hT14 (fun e => by rw [hcm13] at e; omega), hbel13d.trans hb14⟩, ?_, ?_⟩ (by simp [intOf]; omega)
    · cases bs
      · exact I.inV.keep _ _ _ _ _
      · exact I.inV
    · cases bs
      · exact I.inU
      · exact I.inU.keep _ _ _ _ _
    · rw [hc14 bt (hblkt13.below' hdr13).lt, hct13]
    · rw [hc14 bm (hblkm13.below' hdr13).lt, hcm13]
    · cases bs
      · exact hsV.keep I.a.good _ _ _ _ _ (vals_ok hp)
      · exact hsV
    · cases bs
      · exact hsU
      · exact hsU.keep I.b.good _ _ _ _ _ (vals_ok hp)
  · have hil : i = l.length := by omega
    have hm10 := hm.below I.bel
    obtain ⟨T0, _, _, hL0, hlen0⟩ := I.a.lst I.inV hsV (by omega)
    obtain ⟨T1, _, _, hL1, hlen1⟩ := I.b.lst I.inU hsU (by omega)
    generalize lstT T0 = L0 at *
    generalize lstT T1 = L1 at *
    have t0' : ∀ w', (Blk w' bt 27 #[.pointer (some ⟨ga, 0, none⟩), .pointer (some ⟨gb, 0, none⟩)] ∧ Blk w' bm 33 #[.pointer (some ⟨m0', 0, none⟩), .pointer (some ⟨m1', 0, none⟩)]) → w'.cell? ⟨bt, 0, none⟩ = some (.pointer (some ⟨ga, 0, none⟩)) := fun w' h => h.1.cell 0
    have t1' : ∀ w', (Blk w' bt 27 #[.pointer (some ⟨ga, 0, none⟩), .pointer (some ⟨gb, 0, none⟩)] ∧ Blk w' bm 33 #[.pointer (some ⟨m0', 0, none⟩), .pointer (some ⟨m1', 0, none⟩)]) → w'.cell? ⟨bt, 1, none⟩ = some (.pointer (some ⟨gb, 0, none⟩)) := fun w' h => h.1.cell 1
    have u0' : ∀ w', (Blk w' bt 27 #[.pointer (some ⟨ga, 0, none⟩), .pointer (some ⟨gb, 0, none⟩)] ∧ Blk w' bm 33 #[.pointer (some ⟨m0', 0, none⟩), .pointer (some ⟨m1', 0, none⟩)]) → w'.cell? ⟨bm, 0, none⟩ = some (.pointer (some ⟨m0', 0, none⟩)) := fun w' h => h.2.cell 0
    have u1' : ∀ w', (Blk w' bt 27 #[.pointer (some ⟨ga, 0, none⟩), .pointer (some ⟨gb, 0, none⟩)] ∧ Blk w' bm 33 #[.pointer (some ⟨m0', 0, none⟩), .pointer (some ⟨m1', 0, none⟩)]) → w'.cell? ⟨bm, 1, none⟩ = some (.pointer (some ⟨m1', 0, none⟩)) := fun w' h => h.2.cell 1
    (repeat with_reducible first|refine z_c ?_)
    refine ixB (i := 0) und54 sz30 (by decide) ?_
    refine ld one30 (t0' _ ⟨I.blkt, I.blkm⟩) ?_
    refine (Save_V I.a I.inV hsV (by omega) hL0 hm10).mono ?_
    rintro _ w11 ⟨rfl, hb11⟩
    have I11 := I.below hb11
    generalize col c w10.heap.size 0 = c11 at *
    have hm11 := hm.below I11.bel
    refine (Load_V (hu := 5) (by decide) (clrN 4 c11) w11 (fun k _ => clr_free (by decide) (by decide) c11 k) hL0 I.a.good (by omega) hm11).mono ?_
    rintro _ w12 ⟨g5, c12, rfl, hc12, h5, hb12⟩
    have hA12 := ((I11.a.clr (n := 4) (by decide)).re hc12).below hb12
    have hB12 := ((I11.b.clr (n := 4) (by decide)).re hc12).below hb12
    have hX12 := ((I11.x.clr (n := 4) (by decide)).re hc12).below hb12
    have hY12 := ((I11.y.clr (n := 4) (by decide)).re hc12).below hb12
    have hs11 := I11.bel.size
    have hold12 : ∀ k, k < w.heap.size → c12 k = 0 := fun k hk => by rw [hc12 k (by omega), clr_zero (I11.old k hk)]
    have hBt12 := I11.blkt.below' hb12
    have hBm12 := I11.blkm.below' hb12
    have hbl12 := below_then I11.bel hb12
    (repeat with_reducible first|refine z_A ?_|refine z_B ?_)
    have hdr : Below w12.heap.size w12 w12.drew := (Below.refl _ _).drew
    refine draw (fun w' => Blk w' bt 27 #[.pointer (some ⟨ga, 0, none⟩), .pointer (some ⟨gb, 0, none⟩)] ∧ Blk w' bm 33 #[.pointer (some ⟨m0', 0, none⟩), .pointer (some ⟨m1', 0, none⟩)]) ⟨hBt12.below' hdr, hBm12.below' hdr⟩ ?_
    refine yi_neq ?_
    rw [decide_eq_false (by simp)]
    (repeat with_reducible first|refine z_d ?_)
    refine yixB und56 sz41 0 (by decide) ?_
    (repeat with_reducible first|refine z_d ?_)
    refine yl1 one41 u0' ?_
    (repeat with_reducible first|refine z_d ?_|refine z_h ?_)
    refine act ?_
    have hbl12d := below_then hbl12 hdr
    refine (same_spec _ l (h5.below hdr) (hX12.below hdr) (by omega) (keeps_Acts _ _ _ _ hbl12d hv) (by omega)).mono ?_
    rintro _ w13 ⟨rfl, hb13⟩
    have hb1213 := below_then hdr hb13
    have hbl13 := below_then hbl12 hb1213
    refine ⟨_, ⟨hBt12.below' hb1213, hBm12.below' hb1213⟩, fun _ h => h, ?_⟩
    (repeat with_reducible first|refine z_d ?_|refine z_l ?_|refine z_p1 ?_)
    refine yixB und54 sz30 0 (by decide) ?_
    (repeat with_reducible first|refine z_d ?_)
    refine yl1 one30 t0' ?_
    (repeat with_reducible first|refine z_h ?_)
    refine act ?_
    refine (Save_V (h5.below hb1213) I.inV hsV (by omega) hL0 (hm.below hbl13)).mono ?_
    rintro _ w14 ⟨rfl, hb14⟩
    have hb1214 := below_then hb1213 hb14
    have hbl14 := below_then hbl12 hb1214
    refine ⟨_, ⟨hBt12.below' hb1214, hBm12.below' hb1214⟩, fun _ h => h, ?_⟩
    (repeat with_reducible first|refine z_h ?_)
    refine act ?_
    refine (Save_V (hA12.below hb1214) I.inV hsV (by omega) hL0 (hm.below hbl14)).mono ?_
    rintro _ w15 ⟨rfl, hb15⟩
    have hb1215 := below_then hb1214 hb15
    have hbl15 := below_then hbl12 hb1215
    refine ⟨_, ⟨hBt12.below' hb1215, hBm12.below' hb1215⟩, fun _ h => h, ?_⟩
    (repeat with_reducible first|refine z_d ?_)
    refine yofPR (pt_neq _ _) ?_
    rw [decide_eq_false (by simp)]
    (repeat with_reducible first|refine z_d ?_|refine z_l ?_)
    refine yixB und54 sz30 0 (by decide) ?_
    (repeat with_reducible first|refine z_d ?_)
    refine yl1 one30 t0' ?_
    (repeat with_reducible first|refine z_d ?_)
    refine yixB und54 sz30 1 (by decide) ?_
    (repeat with_reducible first|refine z_d ?_)
    refine yl1 one30 t1' ?_
    (repeat with_reducible first|refine z_d ?_)
    refine yixB und56 sz41 0 (by decide) ?_
    (repeat with_reducible first|refine z_d ?_)
    refine yl1 one41 u0' ?_
    (repeat with_reducible first|refine z_d ?_)
    refine yixB und56 sz41 1 (by decide) ?_
    (repeat with_reducible first|refine z_d ?_)
    refine yl1 one41 u1' ?_
    (repeat with_reducible first|refine z_h ?_)
    refine act ?_
    refine (Save_V (hA12.below hb1215) I.inV hsV (by omega) hL0 (hm.below hbl15)).mono ?_
    rintro _ w16 ⟨rfl, hb16⟩
    have hb1216 := below_then hb1215 hb16
    have hbl16 := below_then hbl12 hb1216
    refine ⟨_, ⟨hBt12.below' hb1216, hBm12.below' hb1216⟩, fun _ h => h, ?_⟩
    (repeat with_reducible first|refine z_h ?_)
    refine act ?_
    refine (Save_V (hB12.below hb1216) I.inU hsU (by omega) hL1 (hm.below hbl16)).mono ?_
    rintro _ w17 ⟨rfl, hb17⟩
    have hb1217 := below_then hb1216 hb17
    have hbl17 := below_then hbl12 hb1217
    refine ⟨_, ⟨hBt12.below' hb1217, hBm12.below' hb1217⟩, fun _ h => h, ?_⟩
    (repeat with_reducible first|refine z_d ?_)
    refine yofPR (pt_eql _ _) ?_
    (repeat with_reducible first|refine z_h ?_)
    refine act ?_
    refine (refSame_V (hX12.below hb1217) (hY12.below hb1217) (by omega)).mono ?_
    rintro _ w18 ⟨rfl, hb18⟩
    have hb1218 := below_then hb1217 hb18
    have hbl18 := below_then hbl12 hb1218
    refine ⟨_, ⟨hBt12.below' hb1218, hBm12.below' hb1218⟩, fun _ h => h, ?_⟩
    (repeat with_reducible first|refine z_d ?_)
    refine yi_bneq und4 ?_
    have he : decide (saveT L0 = saveT L1) = decide (V = U) := decide_eq_decide.2 (saveT_iff hL0 hL1 (by omega) (by omega))
    rw [he, decide_eq_false (by simp)]
    (repeat with_reducible first|refine z_c ?_|refine z_l ?_)
    skip
    refine (Load9 6 (by decide) (clrN 5 c12) w18 (fun k _ => clr_free (by decide) (by decide) c12 k) s (by omega) (hm.below hbl18)).mono ?_
    intro r w19 hP
    have hbl19 := below_then hbl18 hP.bel
    cases hld : loadP s with
    | none =>
      rw [hP.no hld]
      (repeat with_reducible first|refine z_b ?_|refine z_s (by omega) ?_|refine z_A ?_|refine z_B ?_)
      refine ofPR (pr_pnil undTb) ?_
      rw [Option.isNone_none]
      (repeat with_reducible first|refine z_d ?_|refine z_k ?_|refine z_q (by omega) ?_)
      exact ⟨rfl, hbl19⟩
    | some A =>
      obtain ⟨g6, c19, T6, rfl, hc19, ht6, ha6, hsv6⟩ := hP.yes A hld
      (repeat with_reducible first|refine z_c ?_|refine z_t (by omega) ?_|refine z_A ?_|refine z_B ?_)
      refine ofPR (pr_pnot undTb) ?_
      rw [Option.isSome_some]
      (repeat with_reducible first|refine z_d ?_)
      refine (Save_tab ht6 hsv6 (hm.below hbl19)).mono ?_
      rintro _ w20 ⟨rfl, hb20⟩
      (repeat with_reducible first|refine z_d ?_)
      refine tl_eql_t ?_ ?_
      · rw [lstT_of, ha6]
        exact loadP_some hld
      (repeat with_reducible first|refine z_k ?_)
      exact ⟨rfl, below_then hbl19 hb20⟩
end Go.Proofs.YtmnaggdhkggjhaaGreatDoor.E
namespace Go.Proofs.YtmnaggdhkggjhaaGreatDoor.E
open Go Go.Proofs Go.RowKit
set_option linter.unusedSimpArgs false
set_option linter.unusedVariables false
abbrev GMx := Pl.GMx
theorem gmx_of {w : World} (h : w.ShapedOpen Tryz.prog) : GMx w :=
  cell_of_shapedOpen_int (g := 0) (t := 3) (zero := #[.int .i64 0]) (k := .i64) h (of_decide_eq_true (by kernel_rfl)) (by kernel_rfl) rfl (by kernel_rfl) (by kernel_rfl) und3
theorem OnceSaves_law (v : Value) (l : List ActT) (s : ByteArray) (w : World) (h : Acts w [v] l) (hm : GMx w) :
    CallP Tryz.prog 3 #[v, .string s] (fun r w' => r = .bool true ∧ Below w.heap.size w w') w := by
  rw [tS_of]
  exact OnceSaves_spec v l _ w h hm
end Go.Proofs.YtmnaggdhkggjhaaGreatDoor.E
