import Derived.Test.YtmnaggdhkggjhaaGreatDoorMb
namespace Go.Proofs.YtmnaggdhkggjhaaGreatDoor.E
open Go Go.RowKit
set_option linter.unusedSimpArgs false
set_option linter.unusedVariables false

def ltO (y x : OneM) : Bool := decide (y.cl < x.cl) || (decide (y.cl = x.cl) && decide (y.no < x.no))
def putL (x : OneM) : List OneM → List OneM
  | [] => [x]
  | y :: r => if ltO y x = true then y :: putL x r else x :: y :: r
theorem putL_split (x : OneM) : ∀ (L : List OneM) (i : Nat) (hi : i ≤ L.length), (∀ y ∈ L.take i, ltO y x = true) → (∀ h : i < L.length, ¬ ltO L[i] x = true) → L.take i ++ x :: L.drop i = putL x L
  | [], i, hi, _, _ => by
    have : i = 0 := by simpa using hi
    subst this; rfl
  | y :: r, 0, _, _, h2 => by
    have h2 : ¬ ltO y x = true := h2 (by simp)
    rw [putL, if_neg h2]; rfl
  | y :: r, i + 1, hi, h1, h2 => by
    rw [putL, if_pos (h1 y (by simp)), ← putL_split x r i (by simpa using hi) (fun p hp => h1 p (by simp [hp])) (fun h => h2 (Nat.succ_lt_succ h))]
    rfl
theorem putL_mem {x y : OneM} : ∀ {L : List OneM}, y ∈ putL x L → y = x ∨ y ∈ L
  | [], h => by simp only [putL, List.mem_cons, List.not_mem_nil, or_false] at h; exact .inl h
  | z :: r, h => by
    rw [putL] at h
    split at h
    · rcases List.mem_cons.1 h with h | h
      · exact .inr (by simp [h])
      · exact (putL_mem h).imp (fun h => h) (fun h => by simp [h])
    · rcases List.mem_cons.1 h with h | h
      · exact .inl h
      · exact .inr h
theorem putL_len (x : OneM) : ∀ L : List OneM, (putL x L).length = L.length + 1
  | [] => rfl
  | z :: r => by
    rw [putL]
    split
    · rw [List.length_cons, putL_len x r, List.length_cons]
    · rfl
/-- What the reference's table is behind a put. -/
def putR (L : List OneM) (F : List (Int × Int)) (x : OneM) : List OneM × List (Int × Int) :=
  if 4 < (knownL (putL x L) x.cl).length then
    (raiseL (putL x L) x.cl (floorOf (raiseF F x.cl ((knownL (putL x L) x.cl).getD ((knownL (putL x L) x.cl).length - 5) 0)) x.cl), raiseF F x.cl ((knownL (putL x L) x.cl).getD ((knownL (putL x L) x.cl).length - 5) 0))
  else (putL x L, F)
theorem put_spec {hu : Nat} {c : Nat → Nat} {w : World} {g : Nat} {vL vF : Value} {L : List OneM} {F : List (Int × Int)} (x : OneM) (h : RefAt hu c w g vL vF L F) (hx : ElAt c w x) (hl : F.length ≤ 80000) (hlL : L.length ≤ 90000) :
    CallP Tryz.prog 24 #[.pointer (some ⟨g, 0, none⟩), .agg (oneF x).toArray] (fun r w' => ∃ c' vL' vF', (∀ k, k < w.heap.size → c' k = c k) ∧ RefAt hu c' w' g vL' vF' (putR L F x).1 (putR L F x).2 ∧ Turns (fun k => k = g) w w') w := by
  refine ⟨S24.calls _ _ _ _ ?_⟩
  unfold S24
  have hgl := h.blk.lt
  refine bx ?_
  have hX : Blk (w.alloc (.cells (Value.agg (oneF x).toArray).cells 67)) w.heap.size 67 (oneF x).toArray := Blk.new w 67 _
  have ha := (Below.refl w.heap.size w).alloc (Nat.le_refl _) (.cells (Value.agg (oneF x).toArray).cells 67)
  generalize w.alloc (.cells (Value.agg (oneF x).toArray).cells 67) = w1 at *
  have hL0 := h.rowL
  obtain ⟨A, cL, rfl, hcL, _⟩ := hL0.slice
  refine LoopP.inv2 (fun fv iv w' => ∃ i : Nat, i ≤ L.length ∧ iv = .int .i64 i ∧ (∀ y ∈ L.take i, ltO y x = true) ∧ w'.ownsRow 0 67 7 fv i ((L.take i).flatMap oneF) ∧ Fresh w.heap.size fv ∧ Blk w' w.heap.size 67 (oneF x).toArray ∧ (∀ k, fv.ownBlock = some k → k ≠ w.heap.size) ∧ Below w.heap.size w w') (fun _ iv _ => L.length - (intOf iv).toNat)
    ⟨0, by omega, rfl, by simp, ⟨by simp, .inl ⟨rfl, rfl⟩⟩, Fresh.nil _, hX, (fun k hk => by cases hk), ha⟩ ?_
  rintro fv _ w2 ⟨i, hi, rfl, hall, hown, hfr, hX2, hfx, hb2⟩ J hJ
  dsimp only [List.headD_cons, List.tail_cons]
  have h2 := h.below hb2
  have hs2 := hb2.size
  have hdr : Below w2.heap.size w2 w2.drew := (Below.refl _ _).drew
  have hb2d := below_then hb2 hdr
  have h2d := h2.below hdr
  have hX2d := hX2.below' hdr
  have hownd : w2.drew.ownsRow 0 67 7 fv i ((L.take i).flatMap oneF) := ownsRow_turns hown (Turns.of_below (F := fun _ => False) hdr) (fun _ _ h => h)
  have hL2 := h2d.rowL
  have x0 : ∀ w', Below w2.heap.size w2 w' → w'.cell? ⟨w.heap.size, 0, none⟩ = some (.int .i64 x.cl) := fun w' h => (hX2.below' h).cell 0
  have x1 : ∀ w', Below w2.heap.size w2 w' → w'.cell? ⟨w.heap.size, 1, none⟩ = some (.int .i64 x.no) := fun w' h => (hX2.below' h).cell 1
  have s0 : ∀ w', Below w2.heap.size w2 w' → w'.cell? ⟨g, 0, none⟩ = some (.slice A L.length cL) := fun w' h => (h2.blk.below' h).cell 0
  refine draw (Below w2.heap.size w2) hdr ?_
  (repeat with_reducible first|refine yfd m0 (by decide) ?_|refine yl1 one42 s0 ?_|refine z_W ?_)
  refine yln und42 ?_
  refine yi_lss_c (fun hlt => ?a) (fun hlt => ?f1)
  case' a =>
    have hi' : i < L.length := by omega
    obtain ⟨gL, cL', he, hcell⟩ := rowAt oneF_len hL2 i hi' (by decide)
    cases he
    have d0 : w2.drew.cell? ⟨gL, i * 7 + 0, none⟩ = some (.int .i64 L[i].cl) := hcell 0 _ rfl
    have d1 : w2.drew.cell? ⟨gL, i * 7 + 1, none⟩ = some (.int .i64 L[i].no) := hcell 1 _ rfl
    have s1 : ∀ w', Below w2.heap.size w2 w' → w'.cell? ⟨gL, i * 7 + 0, none⟩ = some (.int .i64 L[i].cl) := fun w' h => (h.cell (World.block_lt_of_cell? w2 _ d0)).trans d0
    have s2 : ∀ w', Below w2.heap.size w2 w' → w'.cell? ⟨gL, i * 7 + 1, none⟩ = some (.int .i64 L[i].no) := fun w' h => (h.cell (World.block_lt_of_cell? w2 _ d1)).trans d1
    (repeat with_reducible first|refine yfd m0 (by decide) ?_|refine yl1 one42 s0 ?_|refine yixG und42 sz73 i hi' ?_|refine yfdG o0 (by decide) ?_|refine yl1 one3 s1 ?_|refine yl1 one3 x0 ?_|refine z_W ?_|refine z_d ?_)
    refine yi_lss_c (fun h3 => ?t1) (fun h3 => ?b)
  case' b =>
    (repeat with_reducible first|refine yfd m0 (by decide) ?_|refine yl1 one42 s0 ?_|refine yixG und42 sz73 i hi' ?_|refine yfdG o0 (by decide) ?_|refine yl1 one3 s1 ?_|refine yl1 one3 x0 ?_|refine z_W ?_|refine z_d ?_)
    refine yi_eql_c (fun h4 => ?c) (fun h4 => ?f2)
  case' c =>
    (repeat with_reducible first|refine yfd m0 (by decide) ?_|refine yl1 one42 s0 ?_|refine yixG und42 sz73 i hi' ?_|refine yfdG o1 (by decide) ?_|refine yl1 one3 s2 ?_|refine yl1 one3 x1 ?_|refine z_W ?_|refine z_d ?_)
    refine yi_lss_c (fun h5 => ?t2) (fun h5 => ?f3)
  case' t1 => have hlt' : ltO L[i] x = true := by simp [ltO, h3]
  case' t2 => have hlt' : ltO L[i] x = true := by simp [ltO, h4, h5]
  case t1 | t2 =>
    have c0 : w2.drew.cell? ⟨g, 0, none⟩ = some (.slice (some ⟨gL, 0, none⟩) L.length cL) := h2d.blk.cell 0
    have hE := h2d.el _ (List.getElem_mem hi')
    (repeat with_reducible first|refine fd m0 (by decide) ?_|refine ld one42 c0 ?_|refine ixG und42 sz73 i hi' ?_|refine z_a ?_|refine z_b ?_|refine z_d ?_|refine z_f ?_|refine z_g ?_|refine z_k ?_|refine z_l ?_)
    refine ldR (us := oneF L[i]) agg73 (fun j u hu => by rw [add0]; exact hcell j u hu) (by rw [sz73]; rfl) ?_
    refine apOne und42 inf73 (by rfl) (by decide) hownd (oneF_len _) (oneF_one hE) (by omega) (by omega) (by kernel_rfl) ?_
    intro v3 w3 ho3 hbl3 hT3
    have hsd : w.heap.size ≤ w2.drew.heap.size := hs2
    (repeat with_reducible first|refine z_o (by omega) ?_)
    refine hJ _ _ _ ⟨i + 1, by omega, by simp, fun y hy => ?_, ?_, hfr.one hsd hbl3, hX2d.turns hT3 (fun e => hfx _ e rfl), fun k hk => ?_, hb2d.trans (hT3.fresh hfr hsd)⟩ (by simp [intOf]; omega)
    · rw [List.take_succ_eq_append_getElem hi'] at hy
      rcases List.mem_append.1 hy with hy | hy
      · exact hall y hy
      · simp only [List.mem_cons, List.not_mem_nil, or_false] at hy
        subst hy; exact hlt'
    · rw [List.take_succ_eq_append_getElem hi', List.flatMap_append]
      simpa using ho3
    · rcases hbl3 with e | ⟨b, e, hb⟩
      · exact hfx k (by rw [← e]; exact hk)
      · have hbk : b = k := by rw [e] at hk; exact Option.some.inj hk
        have := hX2.lt
        have h9 : w2.heap.size ≤ b := hb
        omega
  case' f1 => have hstop : ∀ h : i < L.length, ¬ ltO L[i] x = true := fun h => absurd h (by omega)
  case' f2 => have hstop : ∀ h : i < L.length, ¬ ltO L[i] x = true := fun _ => by simp [ltO, h3, h4]
  case' f3 => have hstop : ∀ h : i < L.length, ¬ ltO L[i] x = true := fun _ => by simp [ltO, h3, h4, h5]
  all_goals
    (repeat with_reducible first|refine z_c ?_|refine z_d ?_|refine z_e ?_|refine z_g ?_|refine z_k ?_|refine z_l ?_)
    refine ldA agg73 hX2d (by exact sz73) ?_
    refine apOne und42 inf73 (by rfl) (by decide) hownd (oneF_len _) (oneF_one hx) (by omega) (by omega) (by kernel_rfl) ?_
    intro v3 w3 ho3 hbl3 hT3
    have hsd : w.heap.size ≤ w2.drew.heap.size := hs2
    have hf3 := hfr.one hsd hbl3
    have hb3 := hb2d.trans (hT3.fresh hfr hsd)
    have hX3 := hX2d.turns hT3 (fun e => hfx _ e rfl)
    have h3' := h.below hb3
    have hs3 := hb3.size
    have hL3 := h3'.rowL
    have e0 : w3.cell? ⟨g, 0, none⟩ = some (.slice _ L.length cL) := h3'.blk.cell 0
    have hsplit := putL_split x L i hi hall hstop
    (repeat with_reducible first|refine fd m0 (by decide) ?_|refine ld one42 e0 ?_|refine z_a ?_)
    refine ofPR (pr_cut und42 sz73 (.at _ _) .no .no hi (fun _ => hi) hcL (Nat.le_refl _) (.inl rfl)) ?_
    have hcut := hL3.cutFrom oneF_len (by decide) i hi
    have hf3x : Fresh (w.heap.size + 1) v3 := fun k hk => by
      have h1 := hf3 k hk
      have h2 : k ≠ w.heap.size := by
        rcases hbl3 with e | ⟨b, e, hb⟩
        · exact hfx k (by rw [← e]; exact hk)
        · have hbk : b = k := by rw [e] at hk; exact Option.some.inj hk
          have := hX2.lt
          have h9 : w2.heap.size ≤ b := hb
          omega
      omega
    have hX3l := hX3.lt
    refine apRm (w.heap.size + 1) und42 inf73 (by rfl) (by decide) ho3 hf3x (by omega) oneF_len (fun y hy => oneF_one (h3'.el y (List.mem_of_mem_drop hy))) hcut (by rw [List.length_drop]; omega) (by rw [List.length_drop]; omega) ?_
    intro v4 w4 ho4 hf4 hb4
    have hb4' : Below w.heap.size w3 w4 := hb4.mono (by omega)
    have hb04 := hb3.trans hb4'
    have hX4 : Blk w4 w.heap.size 67 (oneF x).toArray := hX3.below hb4 (by omega)
    have h4' : RefAt hu (col c w.heap.size hu) w4 g _ vF L F := (h.re (col_lt _ _ _)).below hb04
    have hx4 : ElAt (col c w.heap.size hu) w4 x := (hx.re (col_lt _ _ _)).turns (G := fun _ => False) (Turns.of_below hb04) (fun _ h => h.elim)
    have hlen : i + 1 + (L.drop i).length = (putL x L).length := by rw [← hsplit]; simp; omega
    have hcs : ((L.take i).flatMap oneF ++ oneF x) ++ (L.drop i).flatMap oneF = (putL x L).flatMap oneF := by rw [← hsplit]; simp [List.flatMap_append]
    rw [hlen, hcs] at ho4
    have hf4' : Fresh w.heap.size v4 := fun k hk => by have := hf4 k hk; omega
    (repeat with_reducible first|refine fd m0 (by decide) ?_|refine z_a ?_)
    refine st sz42 (own1 ho4) (by rw [h4'.blk.cell 0]; rfl) (h4'.blk.frozen 0) ?_
    obtain ⟨hR5, hT5⟩ := h4'.setL ho4 hf4' hgl (fun y hy => by
      rcases putL_mem hy with rfl | hy
      · exact hx4
      · exact h4'.el y hy)
    have hX5 := hX4.turns hT5 (by omega)
    have hT05 : Turns (fun k => k = g) w (w4.setCell ⟨g, 0, none⟩ v4) := (Turns.of_below hb04).trans (hT5.mono fun k _ e => .inl e)
    generalize w4.setCell ⟨g, 0, none⟩ v4 = w5 at *
    have y0 : w5.cell? ⟨w.heap.size, 0, none⟩ = some (.int .i64 x.cl) := hX5.cell 0
    have hs5 := hT05.size
    (repeat with_reducible first|refine fd o0 (by decide) ?_|refine ld one3 y0 ?_)
    refine (refKnown_spec x.cl hR5 (by rw [putL_len]; omega)).mono ?_
    rintro r6 w6 ⟨ho6, hf6, hb6⟩
    have hrd6 := ho6.rd
    obtain ⟨A6, c6, rfl, _, _⟩ := hrd6.slice
    rw [List.length_map] at hrd6 ⊢
    have h6 := hR5.below hb6
    have hX6 := hX5.below' hb6
    refine ln und51 ?_
    have hkl : (knownL (putL x L) x.cl).length ≤ L.length + 1 := by
      unfold knownL
      rw [List.length_map, ← putL_len x L]
      exact List.length_filter_le _ _
    refine bi_gtr_c (fun hbig => ?_) (fun hbig => ?_)
    · have hbig' : 4 < (knownL (putL x L) x.cl).length := by omega
      have hdr6 : Below w6.heap.size w6 w6.drew := (Below.refl _ _).drew
      have z0 : ∀ w', Below w6.heap.size w6 w' → w'.cell? ⟨w.heap.size, 0, none⟩ = some (.int .i64 x.cl) := fun w' h => (hX6.below' h).cell 0
      obtain ⟨a6, rfl, hca⟩ := Rd.atI hrd6 ((knownL (putL x L) x.cl).length - 5) (by omega)
      have z1 : ∀ w', Below w6.heap.size w6 w' → w'.cell? (a6.add ((knownL (putL x L) x.cl).length - 5)) = some (.int .i64 (knownL (putL x L) x.cl)[(knownL (putL x L) x.cl).length - 5]) := fun w' h => by rw [h.cell (World.block_lt_of_cell? _ _ hca), hca]
      (repeat with_reducible first|refine z_b ?_)
      refine draw (Below w6.heap.size w6) hdr6 ?_
      (repeat with_reducible first|refine yfd o0 (by decide) ?_|refine yl1 one3 z0 ?_)
      refine yln und51 ?_
      refine yi_sub64 (by omega) ?_
      rw [show (((knownL (putL x L) x.cl).length : Nat) : Int) - 5 = (((knownL (putL x L) x.cl).length - 5 : Nat) : Int) from by omega]
      refine yix1 und51 sz3 _ (by omega) ?_
      refine yl1 one3 z1 ?_
      refine (raise_spec x.cl _ (h6.below hdr6) (by omega) (by rw [putL_len]; omega)).mono ?_
      rintro _ w7 ⟨vL7, vF7, h7, hT7⟩
      refine ⟨col (col c w.heap.size hu) w6.drew.heap.size hu, vL7, vF7, fun k hk => ?_, ?_, ((hT05.then_below hb6).then_below hdr6).trans (hT7.mono fun k _ e => .inl e)⟩
      · have hs6 := hb6.size
        rw [col_lt _ _ _ k (show k < w6.drew.heap.size from by show k < w6.heap.size; omega), col_lt _ _ _ k hk]
      · rw [putR, if_pos hbig']
        have e : (knownL (putL x L) x.cl).getD ((knownL (putL x L) x.cl).length - 5) 0 = (knownL (putL x L) x.cl)[(knownL (putL x L) x.cl).length - 5] := by
          rw [List.getD_eq_getElem?_getD, List.getElem?_eq_getElem (by omega)]; rfl
        rw [e]
        exact h7
    · (repeat with_reducible first|refine z_c ?_)
      refine ⟨col c w.heap.size hu, v4, vF, col_lt _ _ _, ?_, hT05.then_below hb6⟩
      rw [putR, if_neg (by omega)]
      exact h6
end Go.Proofs.YtmnaggdhkggjhaaGreatDoor.E
namespace Go.Proofs.YtmnaggdhkggjhaaGreatDoor.E
open Go Go.RowKit
set_option linter.unusedSimpArgs false
set_option linter.unusedVariables false

section
variable {P : Program} {K : Value → World → Prop} {w : World}
theorem seqT {t : TypeId} {x y : Operand} {a b : ByteArray} (h : a.data.toList = b.data.toList) (k : K (.bool true) w) : LiftP P (binS .eql t x y (.string a) (.string b)) K w := bi_seql (by rw [decide_eq_true h]; exact k)
theorem seqF {t : TypeId} {x y : Operand} {a b : ByteArray} (h : ¬ a.data.toList = b.data.toList) (k : K (.bool false) w) : LiftP P (binS .eql t x y (.string a) (.string b)) K w := bi_seql (by rw [decide_eq_false h]; exact k)
end
theorem refGood_spec (v : ValT) (w : World) : CallP Tryz.prog 64 #[.agg (valF v).toArray] (fun r w' => r = .bool (goodV v) ∧ Below w.heap.size w w') w := by
  refine ⟨S64.calls _ _ _ ?_⟩
  unfold S64
  refine bx ?_
  have hL : Blk (w.alloc (.cells (Value.agg (valF v).toArray).cells 91)) w.heap.size 91 (valF v).toArray := Blk.new w 91 _
  have ha := (Below.refl w.heap.size w).alloc (Nat.le_refl _) (.cells (Value.agg (valF v).toArray).cells 91)
  generalize w.alloc (.cells (Value.agg (valF v).toArray).cells 91) = w1 at *
  have c0 : w1.cell? ⟨w.heap.size, 0, none⟩ = some (.int .i64 v.1) := hL.cell 0
  have c1 : w1.cell? ⟨w.heap.size, 1, none⟩ = some (.int .i64 v.2.1) := hL.cell 1
  have c2 : w1.cell? ⟨w.heap.size, 2, none⟩ = some (.string v.2.2.1) := hL.cell 2
  by_cases k0 : v.1 = 0 <;> by_cases k1 : v.1 = 1 <;> by_cases k2 : v.1 = 2 <;> by_cases n0 : v.2.1 = 0 <;> by_cases s0 : v.2.2.1.data.toList = (⟨#[]⟩ : ByteArray).data.toList <;> by_cases l0 : ((v.2.2.1.size : Nat) : Int) ≤ 32
  all_goals first
    | (exfalso; omega)
    | ((repeat with_reducible first|refine fd v0 (by decide) ?_|refine fd v1 (by decide) ?_|refine fd v2 (by decide) ?_|refine ld one3 c0 ?_|refine ld one3 c1 ?_|refine ld one9 c2 ?_|refine seqT s0 ?_|refine seqF s0 ?_|refine lns und9 ?_|refine z_d ?_|refine z_e ?_|refine z_f ?_|refine z_g ?_|refine z_k ?_|refine z_l ?_|refine z_q (by omega) ?_|refine z_r (by omega) ?_|refine z_w (by omega) ?_|refine z_x (by omega) ?_)
       refine ⟨?_, ha⟩
       have s1 := s0
       rw [← ByteArray.toList_eq, ← ByteArray.toList_eq] at s1
       simp only [goodV, sameV]
       simp_all
       try omega)
theorem refRow_spec (v : Value) (vs : List ValT) (w : World) (hv : Vals w [v] vs) (hl : vs.length ≤ 1000) :
    CallP Tryz.prog 49 #[v] (fun r w' => r = .int .i64 (if 4 < vs.length then 4 else if (vs.any fun x => !goodV x) then 1 else 0) ∧ Below w.heap.size w w') w := by
  obtain ⟨A, c, rfl, hc, hm⟩ := hv.slice
  refine ⟨S49.calls _ _ _ ?_⟩
  unfold S49
  refine ln und23 ?_
  refine bi_gtr_c (fun h => ?_) (fun h => ?_)
  · (repeat with_reducible first|refine z_b ?_)
    exact ⟨by rw [if_pos (by omega)], Below.refl _ _⟩
  (repeat with_reducible first|refine z_c ?_)
  refine LoopP.inv1 (fun iv w' => ∃ i : Nat, i ≤ vs.length ∧ iv = .int .i64 i ∧ (∀ x ∈ vs.take i, goodV x = true) ∧ Below w.heap.size w w') (fun iv _ => vs.length - (intOf iv).toNat) ⟨0, by omega, rfl, by simp, Below.refl _ _⟩ ?_
  rintro _ w1 ⟨i, hi, rfl, hall, hb1⟩ J hJ
  dsimp only [List.headD_cons, List.tail_cons]
  refine ln und23 ?_
  refine bi_lss_c (fun h => ?_) (fun h => ?_)
  · have hi' : i < vs.length := by omega
    obtain ⟨a, us, rfl, hus, hcell, hrd⟩ := rRow.at (keeps_Vals _ _ _ _ hb1 hv) i hi'
    have hue := (val_cells hrd).1
    subst hue
    (repeat with_reducible first|refine ixN und23 sz36 i hi' ?_|refine z_b ?_)
    refine ldR agg36 hcell (by exact sz36) ?_
    refine (refGood_spec vs[i] w1).mono ?_
    rintro _ w2 ⟨rfl, hb2⟩
    have hb2' := below_then hb1 hb2
    cases hg : goodV vs[i] with
    | true =>
      (repeat with_reducible first|refine z_c ?_|refine z_o (by omega) ?_|refine z_E ?_)
      refine hJ _ _ ⟨i + 1, by omega, by simp, fun x hx => ?_, hb2'⟩ (by simp [intOf]; omega)
      rw [List.take_succ_eq_append_getElem hi'] at hx
      rcases List.mem_append.1 hx with hx | hx
      · exact hall x hx
      · simp only [List.mem_cons, List.not_mem_nil, or_false] at hx
        subst hx; exact hg
    | false =>
      (repeat with_reducible first|refine z_b ?_|refine z_F ?_)
      refine ⟨?_, hb2'⟩
      rw [if_neg (by omega), if_pos (List.any_eq_true.2 ⟨vs[i], List.getElem_mem hi', by rw [hg]; rfl⟩)]
  · (repeat with_reducible first|refine z_c ?_)
    have : i = vs.length := by omega
    subst this
    rw [List.take_length] at hall
    refine ⟨?_, hb1⟩
    rw [if_neg (by omega), if_neg]
    intro hh
    obtain ⟨x, hx, h2⟩ := List.any_eq_true.1 hh
    rw [hall x hx] at h2
    cases h2
theorem refCheck_spec (v : Value) (vs : List ValT) (w : World) (hv : Vals w [v] vs) (hl : vs.length ≤ 1000) :
    CallP Tryz.prog 22 #[v] (fun r w' => r = .int .i64 (chk vs) ∧ Below w.heap.size w w') w := by
  obtain ⟨A, c, rfl, hc, hm⟩ := hv.slice
  refine ⟨S22.calls _ _ _ ?_⟩
  unfold S22
  refine ln und23 ?_
  refine bi_eql_c (fun h => ?_) (fun h => ?_)
  · (repeat with_reducible first|refine z_b ?_)
    refine ⟨?_, Below.refl _ _⟩
    have : vs.length = 0 := by omega
    simp [chk, firstP, this]
  · (repeat with_reducible first|refine z_c ?_)
    refine (refRow_spec _ vs w hv hl).mono ?_
    rintro _ w1 ⟨rfl, hb1⟩
    refine ⟨?_, hb1⟩
    have h0 : ¬ vs.length = 0 := by omega
    have h00 : vs ≠ [] := fun e => h0 (by rw [e]; rfl)
    congr 1
    by_cases h4 : 4 < vs.length
    · simp [chk, firstP, h00, h4]
    · cases hb : (vs.any fun x => !goodV x) <;> simp [chk, firstP, h00, h4, hb]
end Go.Proofs.YtmnaggdhkggjhaaGreatDoor.E
namespace Go.Proofs.YtmnaggdhkggjhaaGreatDoor.E
open Go Go.RowKit
set_option linter.unusedSimpArgs false
set_option linter.unusedVariables false

def KeepR (hu : Nat) (c : Nat → Nat) (w : World) (g : Nat) (L : List OneM) (F : List (Int × Int)) (id n : Int) (R : Rep) (q : Value) (vs : List ValT) (rows : Nat) (r : Value) (w' : World) : Prop :=
  (argP id n R vs rows = true ∧ r = .int .i64 1 ∧ Below w.heap.size w w') ∨
  (argP id n R vs rows = false ∧ ∃ o, LookR L F id n o ∧ ((o.1 = 0 ∧ r = .int .i64 8 ∧ Below w.heap.size w w') ∨ (o.1 = 12 ∧ r = .int .i64 12 ∧ Below w.heap.size w w') ∨
    (o.1 = 7 ∧ r = .int .i64 0 ∧ ∃ c' vL' vF' p', (∀ k, k < w.heap.size → c' k = c k) ∧ RefAt hu c' w' g vL' vF' (putR L F ⟨id, n, R, p', q, vs⟩).1 (putR L F ⟨id, n, R, p', q, vs⟩).2 ∧ Turns (fun k => k = g) w w')))
theorem refKeep_spec {hu : Nat} {c : Nat → Nat} {w : World} {g : Nat} {vL vF : Value} {L : List OneM} {F : List (Int × Int)} (id n : Int) (R : Rep) (p q : Value) (vs : List ValT) (rows : List RowT) (h : RefAt hu c w g vL vF L F)
    (hp : Vals w [p] vs) (hq : RowsR w [q] rows) (hvl : vs.length ≤ 1000) (hl : F.length ≤ 80000) (hlL : L.length ≤ 90000) :
    CallP Tryz.prog 8 #[.pointer (some ⟨g, 0, none⟩), .int .i64 id, .int .i64 n, .agg (R.cells p q)] (KeepR hu c w g L F id n R q vs rows.length) w := by
  obtain ⟨A, cA, rfl, _, hmA⟩ := hp.slice
  obtain ⟨A', cA', rfl, _, hmA'⟩ := hq.slice
  refine ⟨S8.calls _ _ _ _ _ _ ?_⟩
  unfold S8
  refine bx ?_
  have hB : Blk (w.alloc (.cells (Value.agg (R.cells (.slice A vs.length cA) (.slice A' rows.length cA'))).cells 39)) w.heap.size 39 (R.cells (.slice A vs.length cA) (.slice A' rows.length cA')) := Blk.new w 39 _
  have ha := (Below.refl w.heap.size w).alloc (Nat.le_refl _) (.cells (Value.agg (R.cells (.slice A vs.length cA) (.slice A' rows.length cA'))).cells 39)
  generalize w.alloc (.cells (Value.agg (R.cells (.slice A vs.length cA) (.slice A' rows.length cA'))).cells 39) = w1 at *
  have c0 : w1.cell? ⟨w.heap.size, 0, none⟩ = some (.int .i64 R.code) := hB.cell 0
  have c2 : w1.cell? ⟨w.heap.size, 2, none⟩ = some (.slice A vs.length cA) := hB.cell 2
  have c3 : w1.cell? ⟨w.heap.size, 3, none⟩ = some (.slice A' rows.length cA') := hB.cell 3
  have c4 : w1.cell? ⟨w.heap.size, 4, none⟩ = some (.int .i64 R.id) := hB.cell 4
  have fail : ∀ {w' : World}, argP id n R vs rows.length = true → Below w.heap.size w w' → KeepR hu c w g L F id n R (.slice A' rows.length cA') vs rows.length (.int .i64 1) w' := fun h1 h2 => .inl ⟨h1, rfl, h2⟩
  refine (refBad_spec id n w1).mono ?_
  rintro _ _ ⟨rfl, rfl⟩
  cases hbad : badP id n with
  | true =>
    (repeat with_reducible first|refine z_b ?_|refine z_f ?_|refine z_g ?_|refine z_k ?_)
    exact fail (by simp [argP, hbad]) ha
  | false =>
  (repeat with_reducible first|refine fd r3 (by decide) ?_|refine ld one25 c3 ?_|refine z_d ?_)
  refine ln und25 ?_
  (repeat with_reducible first|refine z_d ?_)
  refine bi_gtr_c (fun hr => ?_) (fun hr => ?_)
  · (repeat with_reducible first|refine z_b ?_|refine z_f ?_|refine z_g ?_|refine z_k ?_|refine z_l ?_)
    exact fail (by simp [argP]; omega) ha
  have hr0 : rows = [] := List.eq_nil_of_length_eq_zero (by omega)
  (repeat with_reducible first|refine fd r0 (by decide) ?_|refine ld one22 c0 ?_|refine z_d ?_|refine z_l ?_)
  refine bi_lss_c (fun h1 => ?_) (fun h1 => ?_)
  · (repeat with_reducible first|refine z_b ?_|refine z_f ?_|refine z_g ?_|refine z_k ?_|refine z_l ?_)
    exact fail (by simp [argP]; omega) ha
  (repeat with_reducible first|refine fd r0 (by decide) ?_|refine ld one22 c0 ?_|refine z_d ?_|refine z_l ?_)
  refine bi_gtr_c (fun h2 => ?_) (fun h2 => ?_)
  · (repeat with_reducible first|refine z_b ?_|refine z_f ?_|refine z_g ?_|refine z_k ?_|refine z_l ?_)
    exact fail (by simp [argP]; omega) ha
  (repeat with_reducible first|refine fd r4 (by decide) ?_|refine ld one3 c4 ?_|refine z_d ?_|refine z_l ?_)
  refine bi_lss_c (fun h3 => ?_) (fun h3 => ?_)
  · (repeat with_reducible first|refine z_b ?_|refine z_f ?_|refine z_g ?_|refine z_k ?_|refine z_l ?_)
    exact fail (by simp [argP]; omega) ha
  (repeat with_reducible first|refine fd r4 (by decide) ?_|refine ld one3 c4 ?_|refine z_d ?_|refine z_l ?_)
  refine bi_gtr_c (fun h4 => ?_) (fun h4 => ?_)
  · (repeat with_reducible first|refine z_b ?_|refine z_f ?_|refine z_g ?_|refine z_k ?_|refine z_l ?_)
    exact fail (by simp [argP]; omega) ha
  (repeat with_reducible first|refine fd r2 (by decide) ?_|refine ld one24 c2 ?_|refine z_d ?_|refine z_l ?_)
  refine ln und24 ?_
  (repeat with_reducible first|refine z_d ?_)
  refine bi_gtr_c (fun h5 => ?a) (fun h5 => ?b)
  case' a =>
    (repeat with_reducible first|refine fd r2 (by decide) ?_|refine ld one24 c2 ?_|refine z_d ?_)
    refine (refCheck_spec _ vs w1 (keeps_Vals _ _ _ _ ha hp) hvl).mono ?_
    rintro _ w2 ⟨rfl, hb2⟩
    have hb2' := below_then ha hb2
    (repeat with_reducible first|refine z_d ?_)
    refine bi_neq_c (fun h6 => ?a1) (fun h6 => ?a2)
  case a1 =>
    (repeat with_reducible first|refine z_b ?_|refine z_d ?_|refine z_k ?_|refine z_l ?_)
    exact fail (by simp [argP, h6]; omega) hb2'
  case' a2 =>
    have hB2 := hB.below' hb2
    have harg : argP id n R vs rows.length = false := by
      have h6' : chk vs = 0 := by simpa using h6
      simp [argP, hbad, hr0, h6']; omega
  case' b =>
    have hb2' := ha
    have hB2 := hB
    generalize w1 = w2 at *
    have harg : argP id n R vs rows.length = false := by
      have : vs = [] := List.eq_nil_of_length_eq_zero (by omega)
      simp [argP, hbad, hr0, this]; omega
  all_goals
    (repeat with_reducible first|refine z_c ?_|refine z_d ?_|refine z_e ?_|refine z_k ?_|refine z_l ?_)
    have h2 := h.below hb2'
    refine (refLook_spec id n h2 (by omega) (by omega)).mono ?_
    rintro _ w3 ⟨o, hlook, rfl, hb3⟩
    have hb3' := below_then hb2' hb3
    have h3 := h2.below hb3
    have hB3 := hB2.below' hb3
    (repeat with_reducible first|refine z_A ?_|refine z_B ?_)
    refine al z27 ?_
    have hb4 := (Below.refl w3.heap.size w3).alloc (Nat.le_refl _) (.cells (Value.agg (zeroRep.cells (.slice none 0 0) (.slice none 0 0))).cells 39)
    have hN4 : Blk (w3.alloc (.cells (Value.agg (zeroRep.cells (.slice none 0 0) (.slice none 0 0))).cells 39)) w3.heap.size 39 (zeroRep.cells (.slice none 0 0) (.slice none 0 0)) := Blk.new w3 39 _
    generalize w3.alloc (.cells (Value.agg (zeroRep.cells (.slice none 0 0) (.slice none 0 0))).cells 39) = w4 at *
    obtain ⟨oc, hoc, hone⟩ : ∃ oc : Array Value, oc = cellsOf o.2 ∧ (oc.size = 5 ∧ oc.all (·.oneCell') = true) := by
      refine ⟨_, rfl, ?_⟩
      rcases hlook with ⟨_, e⟩ | ⟨_, _, e⟩ | ⟨_, _, ⟨x, hx, _, _, e⟩ | ⟨_, e⟩⟩ <;> rw [e]
      · exact ⟨rfl, cellsR_one _ _ _ rfl rfl⟩
      · exact ⟨rfl, cellsR_one _ _ _ rfl rfl⟩
      · exact ⟨rfl, cellsR_one _ _ _ (h3.el x hx).one (h3.el x hx).oneq⟩
      · exact ⟨rfl, cellsR_one _ _ _ rfl rfl⟩
    rw [← hoc]
    refine stA hN4 (by rw [sz27, hone.1]) (by rw [hone.1]; rfl) hone.2 ?_
    have hb5 : Below w3.heap.size w3 (w4.setRow w3.heap.size oc) := below_setRow hb4 (Nat.le_refl _) _
    generalize w4.setRow w3.heap.size oc = w5 at *
    have hb5' := below_then hb3' hb5
    have h5' := h3.below hb5
    have hB5 := hB3.below' hb5
    have hcase : o.1 = 0 ∨ o.1 = 12 ∨ o.1 = 7 := by
      rcases hlook with ⟨hb, e⟩ | ⟨_, _, e⟩ | ⟨_, _, ⟨x, hx, _, _, e⟩ | ⟨_, e⟩⟩
      · rw [hbad] at hb; cases hb
      · rw [e]; exact .inr (.inl rfl)
      · rw [e]; exact .inl rfl
      · rw [e]; exact .inr (.inr rfl)
    rcases hcase with e | e | e
    · rw [e]
      (repeat with_reducible first|refine z_b ?_|refine z_q (by omega) ?_)
      exact .inr ⟨harg, o, hlook, .inl ⟨e, rfl, hb5'⟩⟩
    · rw [e]
      (repeat with_reducible first|refine z_b ?_|refine z_c ?_|refine z_q (by omega) ?_|refine z_r (by omega) ?_)
      exact .inr ⟨harg, o, hlook, .inr (.inl ⟨e, rfl, hb5'⟩)⟩
    · rw [e]
      have d2 : w5.cell? ⟨w.heap.size, 2, none⟩ = some (.slice A vs.length cA) := hB5.cell 2
      (repeat with_reducible first|refine fd r2 (by decide) ?_|refine ld one24 d2 ?_|refine z_c ?_|refine z_r (by omega) ?_)
      have hpv := keeps_Vals _ _ _ _ hb5' hp
      have hnil : w5.ownsRow 0 91 3 (.slice none 0 0) 0 [] := ⟨by simp, .inl ⟨rfl, rfl⟩⟩
      refine apR w5.heap.size und24 inf36 (by rfl) (by decide) hnil (Fresh.nil _) (Nat.le_refl _) (fun _ => rfl) valF_one (fun w us x h => (val_cells h).1) hpv (by omega) (by omega) ?_
      intro p6 w6 ho6 hf6 hb6 _
      rw [Nat.zero_add, List.nil_append] at ho6
      have hB6 := hB5.below' hb6
      have hs5 := hb5'.size
      have hwl := hB5.lt
      (repeat with_reducible first|refine fd r2 (by decide) ?_)
      refine st sz24 (own1 ho6) (by rw [hB6.cell 2]; rfl) (hB6.frozen 2) ?_
      have hT7 := Turns.setCell (F := fun k => k = w.heap.size) (p := ⟨w.heap.size, 2, none⟩) (Turns.refl _ w6) (.inl rfl) p6
      have hB7 := hB6.set_ 2 p6
      rw [setR2] at hB7
      have ho7 := ownsRow_turns ho6 hT7 (fun k hk e => by have := hf6 k hk; omega)
      have hb7 : Below w.heap.size w (w6.setCell ⟨w.heap.size, 2, none⟩ p6) := (below_then hb5' hb6).trans (hT7.below (by have := hb6.size; omega) fun k hk e => by omega)
      generalize w6.setCell ⟨w.heap.size, 2, none⟩ p6 = w7 at *
      refine ldA agg27 hB7 (by exact sz27) ?_
      refine bd (cells := (oneF ⟨id, n, R, p6, .slice A' rows.length cA', vs⟩).toArray) (by kernel_rfl) ?_
      have h7 : RefAt hu (col c w.heap.size 999) w7 g vL vF L F := (h.re (col_lt _ _ _)).below hb7
      have hx7 : ElAt (col c w.heap.size 999) w7 ⟨id, n, R, p6, .slice A' rows.length cA', vs⟩ := ⟨OwnR.of_own ho7, fun k hk => col_ge _ _ _ (by have := hf6 k hk; omega), vals_ok hp, hvl, A', cA', by rw [hr0]; rfl, hmA'⟩
      refine (put_spec _ h7 hx7 hl hlL).mono ?_
      rintro _ w8 ⟨c8, vL8, vF8, hc8, h8, hT8⟩
      have hs7 := hb7.size
      exact .inr ⟨harg, o, hlook, .inr (.inr ⟨e, rfl, c8, vL8, vF8, p6, fun k hk => by rw [hc8 k (by omega), col_lt _ _ _ k hk], h8, (Turns.of_below hb7).trans (hT8.mono fun k _ e => .inl e)⟩)⟩
end Go.Proofs.YtmnaggdhkggjhaaGreatDoor.E
