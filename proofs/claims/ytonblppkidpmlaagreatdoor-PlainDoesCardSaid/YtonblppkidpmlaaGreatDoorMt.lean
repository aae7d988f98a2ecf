import Derived.Test.YtonblppkidpmlaaGreatDoorMs
namespace Go.Proofs.YtonblppkidpmlaaGreatDoor.E
open Go Go.RowKit
set_option linter.unusedSimpArgs false
set_option linter.unusedVariables false

section
variable {α β : Type}
theorem posR_map (k : Txt) (f : α → β) : ∀ R : List (Txt × α), posR k (R.map fun p => (p.1, f p.2)) = posR k R
  | [] => rfl
  | (a, x) :: t => by
    have := posR_map k f t
    simp only [List.map_cons, posR, this]
theorem isR_map (k : Txt) (f : α → β) : ∀ R : List (Txt × α), isR k (R.map fun p => (p.1, f p.2)) = isR k R
  | [] => rfl
  | (a, x) :: t => by
    have := isR_map k f t
    by_cases h : a < k
    · rw [List.map_cons, isR_cons_lt h, isR_cons_lt h, this]
    · rw [List.map_cons, isR_cons_ge h, isR_cons_ge h]
end
theorem posR_mkr (k : Txt) (M : List Mm) : posR k (M.map mkr) = posR k M := posR_map k (·.2) M
theorem isR_mkr (k : Txt) (M : List Mm) : isR k (M.map mkr) = isR k M := isR_map k (·.2) M
abbrev Fm := Value × List Int
theorem s0 : fofs Tryz.prog 63 0 = some (0, 1) := by kernel_rfl
theorem s1 : fofs Tryz.prog 63 1 = some (1, 1) := by kernel_rfl
theorem undII : Tryz.prog.underlying 61 = some (.slice 24) := by kernel_rfl
theorem oneII : oneB Tryz.prog 61 = true := by kernel_rfl
theorem szII : (Tryz.prog.info? 61).map (·.size) = some 1 := by kernel_rfl
theorem szRws : (Tryz.prog.info? 35).map (·.size) = some 1 := by kernel_rfl
theorem infIs : (Tryz.prog.info? 24).map (fun i => (i.zero, i.size, i.bytes)) = some (some (.slice none 0 0), 1, 24) := by kernel_rfl
/-- The document's store: its struct's block and its row of indexes turn; rows, records and fields never do. -/
structure RfAt (ht : Nat) (c : Nat → Nat) (w : World) (g : Nat) (vR vX : Value) (M : List Mm) (F : List Fm) : Prop where
  pos : 0 < ht ∧ ht < 999
  blk : Blk w g 63 #[vR, vX]
  cg : c g = ht
  row : RowsC 999 c w vR M
  xs : w.ownsRow 0 24 1 vX F.length (F.map (·.1))
  cx : InC c ht vX
  xm : ∀ f ∈ F, FS 999 c w f.1 f.2
section
variable {ht : Nat} {c c' : Nat → Nat} {w w' : World} {g : Nat} {vR vX : Value} {M : List Mm} {F : List Fm}
theorem RfAt.turns {G : Nat → Prop} (h : RfAt ht c w g vR vX M F) (hT : Turns G w w') (hG : ∀ k, G k → c k ≠ ht ∧ c k ≠ 999) : RfAt ht c w' g vR vX M F :=
  ⟨h.pos, h.blk.turns hT fun e => (hG _ e).1 h.cg, h.cg, h.row.turns hT fun k hk => (hG k hk).2, ownsRow_turns h.xs hT fun k hk e => (hG k e).1 (h.cx k hk), h.cx, fun f hf => (h.xm f hf).turns hT fun k hk => (hG k hk).2⟩
theorem RfAt.below (h : RfAt ht c w g vR vX M F) (hb : Below w.heap.size w w') : RfAt ht c w' g vR vX M F := h.turns (G := fun _ => False) (Turns.of_below hb) fun _ h => h.elim
theorem RfAt.re (h : RfAt ht c w g vR vX M F) (hc : ∀ k, k < w.heap.size → c' k = c k) : RfAt ht c' w g vR vX M F :=
  ⟨h.pos, h.blk, (hc _ h.blk.lt).trans h.cg, h.row.re hc, h.xs, h.cx.re (fun b hb => ownsRow_lt h.xs hb) hc, fun f hf => (h.xm f hf).re hc⟩
end
def RfS (ht : Nat) (c : Nat → Nat) (w : World) (g : Nat) (S : StT) : Prop := ∃ vR vX M F, RfAt ht c w g vR vX M F ∧ M.map mkr = S.R ∧ F.map (·.2) = S.X
section
variable {ht : Nat} {c c' : Nat → Nat} {w w' : World} {g : Nat} {S : StT}
theorem RfS.turns {G : Nat → Prop} (h : RfS ht c w g S) (hT : Turns G w w') (hG : ∀ k, G k → c k ≠ ht ∧ c k ≠ 999) : RfS ht c w' g S := by
  obtain ⟨vR, vX, M, F, h, h'⟩ := h
  exact ⟨vR, vX, M, F, h.turns hT hG, h'⟩
theorem RfS.below (h : RfS ht c w g S) (hb : Below w.heap.size w w') : RfS ht c w' g S := by
  obtain ⟨vR, vX, M, F, h, h'⟩ := h
  exact ⟨vR, vX, M, F, h.below hb, h'⟩
theorem RfS.re (h : RfS ht c w g S) (hc : ∀ k, k < w.heap.size → c' k = c k) : RfS ht c' w g S := by
  obtain ⟨vR, vX, M, F, h, h'⟩ := h
  exact ⟨vR, vX, M, F, h.re hc, h'⟩
end
theorem New24 (ht : Nat) (hh : 0 < ht ∧ ht < 999) (c : Nat → Nat) (w : World) : CallP Tryz.prog 24 #[] (fun r w' => ∃ g c', r = .pointer (some ⟨g, 0, none⟩) ∧ (∀ k, k < w.heap.size → c' k = c k) ∧ RfS ht c' w' g st0 ∧ Below w.heap.size w w') w := by
  refine ⟨S24.calls _ _ ?_⟩
  unfold S24
  refine bd (cells := #[.slice none 0 0, .slice none 0 0]) (by kernel_rfl) ?_
  refine bxB ?_
  intro g w2 hg hB hb2
  exact ⟨g, col c w.heap.size ht, rfl, col_lt _ _ _, ⟨_, _, [], [], ⟨hh, hB, col_ge _ _ _ (by omega), RowsC.nil, ⟨rfl, .inl ⟨rfl, rfl⟩⟩, InC.nil _ _ _ _, by simp⟩, rfl, rfl⟩, hb2⟩
/-- A key's place. -/
theorem Find52 {ht : Nat} {c : Nat → Nat} {w : World} {g : Nat} {vR vX : Value} {M : List Mm} {F : List Fm} (h : RfAt ht c w g vR vX M F) (k : Txt) :
    CallP Tryz.prog 52 #[.pointer (some ⟨g, 0, none⟩), tS k] (fun r w' => r = .tuple #[.int .i64 (posR k M : Nat), .bool (isR k M)] ∧ Below w.heap.size w w') w := by
  obtain ⟨A, cR, hv, hc, hm⟩ := h.row.row.slice
  simp only [maxLen] at hm
  have hpl := posR_le k M
  refine ⟨S52.calls _ _ _ _ ?_⟩
  unfold S52
  refine LoopP.inv1 (fun iv w' => ∃ i : Nat, iv = .int .i64 i ∧ i ≤ posR k M ∧ Below w.heap.size w w') (fun iv _ => M.length - (intOf iv).toNat) ⟨0, rfl, Nat.zero_le _, Below.refl _ _⟩ ?_
  rintro _ w1 ⟨i, rfl, hi, hb1⟩ J hJ
  dsimp only [List.headD_cons, List.tail_cons]
  have h1 := h.below hb1
  have q0 : ∀ w', Below w1.heap.size w1 w' → w'.cell? ⟨g, 0, none⟩ = some (.slice A M.length cR) := fun w' hb => by rw [← hv]; exact (h1.blk.below' hb).cell 0
  have hr := Below.refl w1.heap.size w1
  have hdr : Below w1.heap.size w1 w1.drew := (Below.refl _ _).drew
  (repeat with_reducible first|refine fd s0 (by decide) ?_|refine ld oneRows (q0 _ hr) ?_|refine z_a ?_)
  refine ln undRw ?_
  by_cases hlt : i < M.length
  · obtain ⟨gx, cx, he, hcell⟩ := rowAt mmF_len h1.row.row i hlt (by decide)
    rw [hv] at he
    cases he
    have k0 := keepR hcell 0 _ rfl
    refine bi_lss_t (by omega) ?_
    (repeat with_reducible first|refine fd s0 (by decide) ?_|refine ld oneRows (q0 _ hr) ?_|refine z_a ?_|refine z_d ?_)
    refine ixG undRw szRw i hlt ?_
    (repeat with_reducible first|refine fdG w0 (by decide) ?_|refine ld one9 (k0 _ hr) ?_|refine z_d ?_)
    refine tl_lss_c (fun h2 => ?_) (fun h2 => ?_)
    · (repeat with_reducible first|refine z_b ?_|refine z_k ?_|refine z_o (by omega) ?_)
      exact hJ _ _ ⟨i + 1, by simp, posR_step hi hlt h2, hb1⟩ (by simp [intOf]; omega)
    · have hip := posR_stop hi hlt h2
      (repeat with_reducible first|refine z_c ?_|refine z_k ?_)
      refine draw (Below w1.heap.size w1) hdr ?_
      (repeat with_reducible first|refine yfd s0 (by decide) ?_|refine yl1 oneRows q0 ?_|refine z_W ?_)
      refine yln undRw ?_
      refine yi_lss_t (by omega) ?_
      (repeat with_reducible first|refine yfd s0 (by decide) ?_|refine yl1 oneRows q0 ?_|refine z_W ?_|refine z_d ?_)
      refine yixG undRw szRw i hlt ?_
      (repeat with_reducible first|refine yfdG w0 (by decide) ?_|refine yl1 one9 k0 ?_|refine z_d ?_)
      have his : isR k M = decide (M[i].1 = k) := by
        unfold isR
        rw [← hip, List.getElem?_eq_getElem hlt]
      refine ty_eql_c (fun h3 => ?_) (fun h3 => ?_)
      · (repeat with_reducible first|refine z_k ?_)
        exact ⟨by rw [his, decide_eq_true h3, hip], below_then hb1 hdr⟩
      · (repeat with_reducible first|refine z_k ?_)
        exact ⟨by rw [his, decide_eq_false h3, hip], below_then hb1 hdr⟩
  · have hip : i = posR k M := by omega
    refine bi_lss_f (by omega) ?_
    (repeat with_reducible first|refine z_c ?_|refine z_e ?_|refine z_l ?_)
    refine draw (Below w1.heap.size w1) hdr ?_
    (repeat with_reducible first|refine yfd s0 (by decide) ?_|refine yl1 oneRows q0 ?_|refine z_W ?_)
    refine yln undRw ?_
    refine yi_lss_f (by omega) ?_
    (repeat with_reducible first|refine z_e ?_|refine z_l ?_)
    have his : isR k M = false := by
      unfold isR
      rw [← hip, List.getElem?_eq_none (by omega)]
    exact ⟨by rw [his, hip], below_then hb1 hdr⟩
/-- The rows are others now. -/
theorem RfAt.setRows {ht : Nat} {c : Nat → Nat} {w w5 : World} {g : Nat} {vR vX v' : Value} {M M' : List Mm} {F : List Fm} (h : RfAt ht c w g vR vX M F) (hb : Below w.heap.size w w5) (hR : RowsC 999 (col c w.heap.size 999) w5 v' M') :
    RfAt ht (col c w.heap.size 999) (w5.setCell ⟨g, 0, none⟩ v') g v' vX M' F ∧ Turns (fun k => c k = ht) w (w5.setCell ⟨g, 0, none⟩ v') := by
  have hp := h.pos
  have hc := col_lt c w.heap.size 999
  have h5 := (h.re hc).below hb
  have hT := Turns.setCell (F := fun k => k = g) (p := ⟨g, 0, none⟩) (Turns.refl _ w5) (.inl rfl) v'
  have hG : ∀ k, k = g → col c w.heap.size 999 k ≠ 999 := fun k hk => by rw [hk, h5.cg]; omega
  refine ⟨⟨h.pos, h5.blk.set_ 0 v', h5.cg, hR.turns hT hG, ownsRow_turns h5.xs hT fun k hk e => ?_, h5.cx, fun f hf => (h5.xm f hf).turns hT hG⟩, (Turns.of_below hb).trans (hT.mono fun k _ e => .inl (by rw [e]; exact h.cg))⟩
  exact own_ne_blk h5.xs h5.blk (by decide) (by rw [hk, e])
theorem put53 {ht : Nat} {c : Nat → Nat} {w : World} {g : Nat} {S : StT} (hS : RfS ht c w g S) (k : Txt) (vr : Value) (r : List ValT) (hr : Vals w [vr] r) (hrl : r.length ≤ 1000) (hRl : S.R.length ≤ 100000) :
    CallP Tryz.prog 53 #[.pointer (some ⟨g, 0, none⟩), tS k, vr] (fun _ w' => ∃ c', (∀ k, k < w.heap.size → c' k = c k) ∧ RfS ht c' w' g ⟨insR k r S.R, S.X⟩ ∧ Turns (fun k => c k = ht) w w') w := by
  obtain ⟨vR, vX, M, F, h, hM, hF⟩ := hS
  have hMl : M.length = S.R.length := by rw [← hM, List.length_map]
  obtain ⟨A, cR, hv, hc, hm⟩ := h.row.row.slice
  have hpl := posR_le k M
  simp only [maxLen] at hm
  refine ⟨S53.calls _ _ _ _ _ ?_⟩
  unfold S53
  refine (Find52 h k).mono ?_
  rintro _ w1 ⟨rfl, hb1⟩
  have h1 := h.below hb1
  have q0 : ∀ w', Below w1.heap.size w1 w' → w'.cell? ⟨g, 0, none⟩ = some (.slice A M.length cR) := fun w' hb => by rw [← hv]; exact (h1.blk.below' hb).cell 0
  have hok : ∀ m ∈ M, ∀ w', Below w1.heap.size w1 w' → ∀ u ∈ mmF m, u.oneCell' = true := fun m hm w' _ => mmF_one (h1.row.ms m hm).rd
  have hs1 := hb1.size
  (repeat with_reducible first|refine fd s0 (by decide) ?_|refine ld oneRows (q0 _ (Below.refl _ _)) ?_|refine z_a ?_|refine z_A ?_|refine z_B ?_)
  have hrd1 := h1.row.row.rd (r := fun _ us x => us = mmF x) mmF_len fun _ _ => rfl
  rw [hv] at hrd1
  refine ctTo undRw szRw hrd1 hpl rfl ?_
  intro va hva
  refine apRm w1.heap.size undRw infRw (by rfl) (by decide) (v := .slice none 0 0) (n := 0) (xs := []) ⟨by simp, .inl ⟨rfl, rfl⟩⟩ (Fresh.nil _) (Nat.le_refl _) mmF_len (fun m hm => hok m (List.mem_of_mem_take hm) _ (Below.refl _ _)) hva (by rw [List.length_take]; omega) (by rw [List.length_take]; omega) ?_
  intro v2 w2 ho2 hf2 hb2
  rw [Nat.zero_add, List.nil_append] at ho2
  refine apR w2.heap.size undRec infVal (by rfl) (by decide) (v := .slice none 0 0) (n := 0) (xs := []) ⟨by simp, .inl ⟨rfl, rfl⟩⟩ (Fresh.nil _) (Nat.le_refl _) (fun _ => rfl) valF_one (fun w us x h => (val_cells h).1) (keeps_Vals _ _ _ _ (below_then hb1 hb2) hr) (by omega) (by omega) ?_
  intro v3 w3 ho3 hf3 hb3 _
  rw [Nat.zero_add, List.nil_append] at ho3
  have hV3 : OwnV w2 w3 v3 r := ⟨ho3, hf3, hb3⟩
  obtain ⟨A3, c3, rfl, _⟩ := hV3.slice
  have hs2 := hb2.size
  have ho2' := ownsRow_turns ho2 (Turns.of_below (F := fun _ => False) hb3) fun _ _ h => h
  refine bd (cells := (mmF (k, .slice A3 r.length c3, r)).toArray) (by kernel_rfl) ?_
  refine apOne (us := mmF (k, .slice A3 r.length c3, r)) undRw infRw (by rfl) (by decide) ho2' rfl (fun u hu => by
    simp only [mmF, List.mem_cons, List.not_mem_nil, or_false] at hu
    rcases hu with rfl | rfl <;> rfl) (by rw [List.length_take]; omega) (by rw [List.length_take]; omega) (by kernel_rfl) ?_
  intro v4 w4 ho4 hbl4 hT4
  have hs3 := hb3.size
  have hf4 : Fresh w1.heap.size v4 := hf2.one (by omega) hbl4
  have hb13 := below_then hb2 hb3
  have hb14 : Below w1.heap.size w1 w4 := hb13.trans (hT4.fresh hf2 (by omega))
  have hV4 : w4.ownsRow 0 67 3 (.slice A3 r.length c3) r.length (r.flatMap valF) := ownsRow_turns hV3.own hT4 (ownsRow_ne ho2' hV3.own (by decide))
  refine JoinP.cut (fun vs w' => vs = [.int .i64 ((if isR k M = true then posR k M + 1 else posR k M : Nat))] ∧ w' = w4) ?_ ?_
  · intro J hJ
    cases hi : isR k M with
    | true =>
      (repeat with_reducible first|refine z_b ?_|refine z_o (by omega) ?_)
      exact hJ _ _ ⟨by rw [if_pos hi]; simp, rfl⟩
    | false =>
      (repeat with_reducible first|refine z_c ?_)
      exact hJ _ _ ⟨by rw [if_neg (by rw [hi]; decide)], rfl⟩
  rintro _ _ ⟨rfl, rfl⟩
  dsimp only [List.headD_cons, List.tail_cons]
  have hjl : (if isR k M = true then posR k M + 1 else posR k M) ≤ M.length := by
    split
    · rename_i hi
      unfold isR at hi
      split at hi
      · rename_i p hp
        have := (List.getElem?_eq_some_iff.1 hp).1
        omega
      · cases hi
    · exact hpl
  have hins := insR_pos k r S.R
  rw [← hM, posR_mkr, isR_mkr, ← List.map_take, ← List.map_drop] at hins
  generalize (if isR k M = true then posR k M + 1 else posR k M) = j at *
  have h4 := h1.below hb14
  (repeat with_reducible first|refine fd s0 (by decide) ?_|refine ld oneRows (q0 _ hb14) ?_|refine z_a ?_)
  refine ofPR (pr_cut undRw szRw (.at _ _) .no .no hjl (fun _ => hjl) hc (Nat.le_refl _) (.inl rfl)) ?_
  have hrow4 := h4.row.row
  rw [hv] at hrow4
  have hcut := OwnR.cutFrom mmF_len (by decide) hrow4 j hjl
  refine apRt undRw infRw (by rfl) (by decide) ho4 mmF_len (fun m hm => hok m (List.mem_of_mem_drop hm) _ (Below.refl _ _)) hcut (by rw [List.length_take, List.length_drop]; omega) (by rw [List.length_take, List.length_drop]; omega) ?_
  intro v5 w5 ho5 hbl5 hT5
  have hs4 := hb14.size
  have hf5 : Fresh w1.heap.size v5 := hf4.one (by omega) (hbl5.imp id fun e => ⟨_, e, Nat.le_refl _⟩)
  have hb15 : Below w1.heap.size w1 w5 := hb14.trans (hT5.fresh hf4 (by omega))
  have hb05 := below_then hb1 hb15
  have hV5 : OwnV w w5 (.slice A3 r.length c3) r := ⟨ownsRow_turns hV4 hT5 (ownsRow_ne ho4 hV4 (by decide)), fun k hk => by have := hf3 k hk; omega, hb05⟩
  have hrow5 : RowsC 999 (col c w.heap.size 999) w5 v5 (M.take (posR k M) ++ (k, .slice A3 r.length c3, r) :: M.drop j) := by
    refine ⟨OwnR.of_own ?_, InC.fresh fun k hk => by have := hf5 k hk; omega, fun m hm => ?_⟩
    · have e1 : (M.take (posR k M) ++ (k, .slice A3 r.length c3, r) :: M.drop j).length = (M.take (posR k M)).length + 1 + (M.drop j).length := by simp; omega
      have e2 : (M.take (posR k M) ++ (k, Value.slice A3 r.length c3, r) :: M.drop j).flatMap mmF = (M.take (posR k M)).flatMap mmF ++ mmF (k, .slice A3 r.length c3, r) ++ (M.drop j).flatMap mmF := by simp
      rw [e1, e2]
      exact ho5
    · rcases List.mem_append.1 hm with hm | hm
      · exact ((h.row.ms m (List.mem_of_mem_take hm)).re (col_lt _ _ _)).below hb05
      · rcases List.mem_cons.1 hm with rfl | hm
        · exact hV5.vs (vals_ok hr) c 999
        · exact ((h.row.ms m (List.mem_of_mem_drop hm)).re (col_lt _ _ _)).below hb05
  obtain ⟨hR6, hT6⟩ := h.setRows hb05 hrow5
  have hB5 := (h.below hb05).blk
  obtain ⟨A5, c5, e5, _⟩ := hrow5.row.slice
  (repeat with_reducible first|refine fd s0 (by decide) ?_|refine z_a ?_)
  refine st szRws (by rw [e5]; rfl) (by rw [hB5.cell 0]; rfl) (hB5.frozen 0) ?_
  refine ⟨_, col_lt _ _ _, ⟨_, _, _, _, hR6, ?_, hF⟩, hT6⟩
  show List.map mkr _ = insR k r S.R
  rw [← hM, hins, List.map_append, List.map_cons]
  rfl
theorem del54 {ht : Nat} {c : Nat → Nat} {w : World} {g : Nat} {S : StT} (hS : RfS ht c w g S) (hris : Rising S.R) (k : Txt) (hRl : S.R.length ≤ 100000) :
    CallP Tryz.prog 54 #[.pointer (some ⟨g, 0, none⟩), tS k] (fun _ w' => ∃ c', (∀ k, k < w.heap.size → c' k = c k) ∧ RfS ht c' w' g ⟨T.delK k S.R, S.X⟩ ∧ Turns (fun k => c k = ht) w w') w := by
  obtain ⟨vR, vX, M, F, h, hM, hF⟩ := hS
  have hMl : M.length = S.R.length := by rw [← hM, List.length_map]
  obtain ⟨A, cR, hv, hc, hm⟩ := h.row.row.slice
  have hpl := posR_le k M
  simp only [maxLen] at hm
  have hdel := delK_pos (k := k) hris
  rw [← hM, isR_mkr, posR_mkr] at hdel
  refine ⟨S54.calls _ _ _ _ ?_⟩
  unfold S54
  refine (Find52 h k).mono ?_
  rintro _ w1 ⟨rfl, hb1⟩
  have h1 := h.below hb1
  cases hi : isR k M with
  | false =>
    rw [hi, if_neg (by decide)] at hdel
    (repeat with_reducible first|refine z_b ?_|refine z_A ?_|refine z_B ?_|refine z_F ?_)
    simp only [Bool.not_false]
    skip
    exact ⟨c, fun _ _ => rfl, ⟨vR, vX, M, F, h1, by rw [← hM, hdel], hF⟩, Turns.of_below hb1⟩
  | true =>
  rw [hi, if_pos rfl] at hdel
  have hlt : posR k M < M.length := by
    unfold isR at hi
    split at hi
    · rename_i p hp
      exact (List.getElem?_eq_some_iff.1 hp).1
    · cases hi
  have q0 : ∀ w', Below w1.heap.size w1 w' → w'.cell? ⟨g, 0, none⟩ = some (.slice A M.length cR) := fun w' hb => by rw [← hv]; exact (h1.blk.below' hb).cell 0
  have hok : ∀ m ∈ M, ∀ u ∈ mmF m, u.oneCell' = true := fun m hm => mmF_one (h1.row.ms m hm).rd
  have hs1 := hb1.size
  (repeat with_reducible first|refine z_a ?_|refine z_c ?_|refine z_A ?_|refine z_B ?_|refine z_E ?_)
  simp only [Bool.not_true]
  (repeat with_reducible first|refine fd s0 (by decide) ?_|refine ld oneRows (q0 _ (Below.refl _ _)) ?_)
  have hrd1 := h1.row.row.rd (r := fun _ us x => us = mmF x) mmF_len fun _ _ => rfl
  rw [hv] at hrd1
  refine ctTo undRw szRw hrd1 hpl rfl ?_
  intro va hva
  refine apRm w1.heap.size undRw infRw (by rfl) (by decide) (v := .slice none 0 0) (n := 0) (xs := []) ⟨by simp, .inl ⟨rfl, rfl⟩⟩ (Fresh.nil _) (Nat.le_refl _) mmF_len (fun m hm => hok m (List.mem_of_mem_take hm)) hva (by rw [List.length_take]; omega) (by rw [List.length_take]; omega) ?_
  intro v2 w2 ho2 hf2 hb2
  rw [Nat.zero_add, List.nil_append] at ho2
  have h2 := h1.below hb2
  have hs2 := hb2.size
  (repeat with_reducible first|refine fd s0 (by decide) ?_|refine ld oneRows (q0 _ hb2) ?_|refine z_a ?_|refine z_o (by omega) ?_)
  rw [show (posR k M : Int) + 1 = ((posR k M + 1 : Nat) : Int) by omega]
  refine ofPR (pr_cut undRw szRw (.at _ _) .no .no (show posR k M + 1 ≤ M.length by omega) (fun _ => by omega) hc (Nat.le_refl _) (.inl rfl)) ?_
  have hrow2 := h2.row.row
  rw [hv] at hrow2
  have hcut := OwnR.cutFrom mmF_len (by decide) hrow2 (posR k M + 1) (by omega)
  refine apRt undRw infRw (by rfl) (by decide) ho2 mmF_len (fun m hm => hok m (List.mem_of_mem_drop hm)) hcut (by rw [List.length_take, List.length_drop]; omega) (by rw [List.length_take, List.length_drop]; omega) ?_
  intro v5 w5 ho5 hbl5 hT5
  have hf5 : Fresh w1.heap.size v5 := hf2.one (by omega) (hbl5.imp id fun e => ⟨_, e, Nat.le_refl _⟩)
  have hb15 : Below w1.heap.size w1 w5 := hb2.trans (hT5.fresh hf2 (by omega))
  have hb05 := below_then hb1 hb15
  have hrow5 : RowsC 999 (col c w.heap.size 999) w5 v5 (M.take (posR k M) ++ M.drop (posR k M + 1)) := by
    refine ⟨OwnR.of_own ?_, InC.fresh fun k hk => by have := hf5 k hk; omega, fun m hm => ?_⟩
    · rw [List.length_append, List.flatMap_append]
      exact ho5
    · rcases List.mem_append.1 hm with hm | hm
      · exact ((h.row.ms m (List.mem_of_mem_take hm)).re (col_lt _ _ _)).below hb05
      · exact ((h.row.ms m (List.mem_of_mem_drop hm)).re (col_lt _ _ _)).below hb05
  obtain ⟨hR6, hT6⟩ := h.setRows hb05 hrow5
  have hB5 := (h.below hb05).blk
  obtain ⟨A5, c5, e5, _⟩ := hrow5.row.slice
  (repeat with_reducible first|refine fd s0 (by decide) ?_|refine z_a ?_)
  refine st szRws (by rw [e5]; rfl) (by rw [hB5.cell 0]; rfl) (hB5.frozen 0) ?_
  refine ⟨_, col_lt _ _ _, ⟨_, _, _, _, hR6, ?_, hF⟩, hT6⟩
  show List.map mkr _ = T.delK k S.R
  rw [← hM, hdel, List.map_append, List.map_take, List.map_drop]
/-- An index that is there. -/
theorem Index55 {ht : Nat} {c : Nat → Nat} {w : World} {g : Nat} {vR vX : Value} {M : List Mm} {F : List Fm} {X : List (List Int)} (h : RfAt ht c w g vR vX M F) (hF : F.map (·.2) = X) (hX : X.length ≤ 6) (id : Int) (hid : -9223372036854775808 ≤ id ∧ id ≤ 9223372036854775807) :
    CallP Tryz.prog 55 #[.pointer (some ⟨g, 0, none⟩), .int .i64 id] (fun r w' => Below w.heap.size w w' ∧ ((fieldsOf X id = none ∧ r = .tuple #[.agg #[.int .i64 0, .slice none 0 0], .bool false]) ∨ ∃ f ∈ F, fieldsOf X id = some f.2 ∧ 1 ≤ id ∧ id ≤ 6 ∧ f.1.oneCell' = true ∧ r = .tuple #[.agg #[.int .i64 id, f.1], .bool true])) w := by
  have hFl : F.length = X.length := by rw [← hF, List.length_map]
  refine ⟨S55.calls _ _ _ _ ?_⟩
  unfold S55
  refine alB zIx ?_
  intro g1 w1 hg1 hB1 hb1
  have h1 := h.below hb1
  obtain ⟨A, cX, hvX, _⟩ := (OwnR.of_own h1.xs).slice
  have c1 : w1.cell? ⟨g, 1, none⟩ = some (.slice A F.length cX) := by rw [← hvX]; exact h1.blk.cell 1
  have no : (¬ (1 ≤ id ∧ id ≤ X.length)) → fieldsOf X id = none := fun hn => by unfold fieldsOf; rw [if_neg hn]
  refine bi_lss_c (fun h2 => ?_) (fun h2 => ?_)
  · (repeat with_reducible first|refine z_b ?_|refine z_f ?_|refine z_k ?_)
    refine bd (cells := #[.int .i64 0, .slice none 0 0]) (by kernel_rfl) ?_
    refine stB hB1 (by exact szIx) rfl (allOne (l := [.int .i64 0, .slice none 0 0]) rfl) ?_
    intro w2 hB2 hT2
    refine retA aggIx hB2 (by exact szIx) ?_
    exact ⟨below_own hb1 hT2 (by omega), .inl ⟨no (by omega), rfl⟩⟩
  (repeat with_reducible first|refine fd s1 (by decide) ?_|refine ld oneII c1 ?_|refine ln undII ?_|refine z_a ?_|refine z_d ?_)
  refine bi_gtr_c (fun h3 => ?_) (fun h3 => ?_)
  · (repeat with_reducible first|refine z_b ?_|refine z_f ?_|refine z_k ?_|refine z_l ?_)
    refine bd (cells := #[.int .i64 0, .slice none 0 0]) (by kernel_rfl) ?_
    refine stB hB1 (by exact szIx) rfl (allOne (l := [.int .i64 0, .slice none 0 0]) rfl) ?_
    intro w2 hB2 hT2
    refine retA aggIx hB2 (by exact szIx) ?_
    exact ⟨below_own hb1 hT2 (by omega), .inl ⟨no (by omega), rfl⟩⟩
  obtain ⟨i, hi, rfl⟩ : ∃ i : Nat, i < F.length ∧ id = (i : Int) + 1 := ⟨(id - 1).toNat, by omega, by omega⟩
  have e1 : (i : Int) + 1 - 1 = i := by omega
  have hrdx : Rd w1 vX (F.map (·.1)) := by
    have h9 : Own 24 w1 vX (F.map (·.1)) := by
      have := h1.xs
      unfold Own
      rwa [List.length_map]
    exact h9.rd
  rw [hvX] at hrdx
  obtain ⟨a, rfl, hca⟩ := hrdx.at i (by rw [List.length_map]; exact hi)
  rw [List.getElem_map] at hca
  have hfm := List.getElem_mem hi
  have hfs := (h1.xm _ hfm).rd
  obtain ⟨Af, cf, hfv, _⟩ := hfs.slice
  have hfl : (iV F[i].2).length = F[i].2.length := List.length_map _
  rw [hfl] at hfv
  have hXi : X[i]? = some F[i].2 := by rw [← hF, List.getElem?_map, List.getElem?_eq_getElem hi]; rfl
  have hfo : fieldsOf X ((i : Int) + 1) = if F[i].2.length = 0 then none else some F[i].2 := by
    unfold fieldsOf
    rw [if_pos ⟨by omega, by omega⟩, show ((i : Int) + 1 - 1).toNat = i by omega, hXi]
  have hone : F[i].1.oneCell' = true := by rw [hfv]; rfl
  rw [hfv] at hca
  (repeat with_reducible first|refine fd s1 (by decide) ?_|refine ld oneII c1 ?_|refine z_a ?_|refine z_d ?_|refine z_l ?_|refine z_p (by omega) ?_)
  rw [e1]
  refine ix1 undII szIs hi ?_
  (repeat with_reducible first|refine ld oneIs hca ?_|refine ln undIs ?_|refine z_d ?_)
  refine bi_eql_c (fun h4 => ?_) (fun h4 => ?_)
  · (repeat with_reducible first|refine z_b ?_|refine z_l ?_)
    refine bd (cells := #[.int .i64 0, .slice none 0 0]) (by kernel_rfl) ?_
    refine stB hB1 (by exact szIx) rfl (allOne (l := [.int .i64 0, .slice none 0 0]) rfl) ?_
    intro w2 hB2 hT2
    refine retA aggIx hB2 (by exact szIx) ?_
    exact ⟨below_own hb1 hT2 (by omega), .inl ⟨by rw [hfo, if_pos (by omega)], rfl⟩⟩
  · (repeat with_reducible first|refine fd s1 (by decide) ?_|refine ld oneII c1 ?_|refine z_a ?_|refine z_c ?_|refine z_l ?_|refine z_p (by omega) ?_)
    rw [e1]
    refine ix1 undII szIs hi ?_
    refine ld oneIs hca ?_
    refine bd (cells := #[.int .i64 ((i : Int) + 1), .slice Af F[i].2.length cf]) (by kernel_rfl) ?_
    refine stB hB1 (cells := #[.int .i64 ((i : Int) + 1), .slice Af F[i].2.length cf]) (by exact szIx) rfl (allOne (l := [.int .i64 ((i : Int) + 1), .slice Af F[i].2.length cf]) rfl) ?_
    intro w2 hB2 hT2
    refine retA aggIx hB2 (by exact szIx) ?_
    exact ⟨below_own hb1 hT2 (by omega), .inr ⟨F[i], hfm, by rw [hfo, if_neg (by omega)], by omega, by omega, hone, by rw [hfv]⟩⟩
end Go.Proofs.YtonblppkidpmlaaGreatDoor.E
