import Derived.Test.YtonblppkidpmlaaGreatDoorMq
namespace Go.Proofs.YtonblppkidpmlaaGreatDoor.E
open Go Go.RowKit
set_option linter.unusedSimpArgs false
set_option linter.unusedVariables false

section
variable {P : Program} {K : Value → World → Prop} {w : World}
/-- append(v, x...), x any row of structs: the row's block is v's, or new; only v's turns. -/
theorem apRt {t ty e : TypeId} {cs : Array Bool} {z : Value} {size bytes : Nat} (ht : P.underlying t = some (.slice e)) (hinfo : (P.info? e).map (fun i => (i.zero, i.size, i.bytes)) = some (some z, size, bytes)) (hz : z.cells.size = size) (hsz : 0 < size)
    {v : Value} {xs : List Value} {n : Nat} (hown : w.ownsRow 0 e size v n xs) {α : Type} {f : α → List Value} (hfl : ∀ x, (f x).length = size)
    {x : Value} {l : List α} (hf1 : ∀ x ∈ l, ∀ u ∈ f x, u.oneCell' = true) (hx : rRow size (fun _ us x => us = f x) w [x] l) (h63 : n + l.length ≤ 9223372036854775807) (hbytes : (n + l.length) * bytes ≤ 140737488355328)
    (k : ∀ v' w', w'.ownsRow 0 e size v' (n + l.length) (xs ++ l.flatMap f) → (v'.ownBlock = v.ownBlock ∨ v'.ownBlock = some w.heap.size) → Turns (fun j => v.ownBlock = some j) w w' → K v' w') : NextP P (builtin .append #[t, t] ty cs #[v, x]) K w := by
  obtain ⟨A, c, he, h1, h2, h3⟩ := hx
  simp only [List.cons.injEq, and_true] at he
  subst he
  cases A with
  | none =>
    have h0 : l = [] := by
      cases l with
      | nil => rfl
      | cons p r => obtain ⟨a, us, h, _⟩ := h3 0 p rfl; cases h
    subst h0
    obtain ⟨i, hi, hzz⟩ := Option.map_eq_some_iff.1 hinfo
    refine nextV (v := v) (w' := w) ?_ (k v w (by simpa using hown) (.inl rfl) (Turns.refl _ w))
    have hrun : (Builtin.append_ #[t, t] ty #[v, .slice none 0 c]).run P w = .ok v w := by
      rcases hown.2 with ⟨rfl, _⟩ | ⟨g, cap, cur, rfl, _, _, hnc, _⟩
      · simp [Builtin.append_, run_underlying ht, sizeOf, typeInfo, hi, Builtin.lenOf, Builtin.firstCells]
      · simp [Builtin.append_, run_underlying ht, sizeOf, typeInfo, hi, Builtin.lenOf, Builtin.firstCells, hnc, storeCells]
    simp only [builtin, List.length_nil] at hrun ⊢
    simp [hrun]
  | some a =>
    refine apGb ht hinfo hz hsz hown (news := l.flatMap f) (flatMap_len f size hfl l) (fun j u hu => ?_) (fun u hu => ?_) h63 hbytes k
    · have hj := (List.getElem?_eq_some_iff.1 hu).1
      rw [flatMap_len f size hfl] at hj
      have hi : j / size < l.length := Nat.div_lt_of_lt_mul (by rw [Nat.mul_comm]; exact hj)
      have hm : j % size < size := Nat.mod_lt _ hsz
      obtain ⟨a', us, ha, hus, hcell, hrd⟩ := h3 (j / size) l[j / size] (List.getElem?_eq_getElem hi)
      cases ha
      have hdm : j / size * size + j % size = j := Nat.div_add_mod' j size
      have := flatMap_at f size hfl l (j / size) (j % size) l[j / size] (List.getElem?_eq_getElem hi) hm
      rw [hdm, hu] at this
      have hx : us = f l[j / size] := hrd
      subst hx
      have := hcell (j % size) u this.symm
      rwa [hdm] at this
    · obtain ⟨x, hxl, hx⟩ := List.mem_flatMap.1 hu
      exact hf1 x hxl u hx
end
theorem sliceOf' {w : World} {v : Value} {l : List ValT} (h : Vals w [v] l) : v.oneCell' = true := by obtain ⟨A, c, rfl, _⟩ := h.slice; rfl
theorem mmF_one {w : World} {m : Mm} (h : Vals w [m.2.1] m.2.2) : ∀ u ∈ mmF m, u.oneCell' = true := by
  intro u hu
  simp only [mmF, List.mem_cons, List.not_mem_nil, or_false] at hu
  rcases hu with rfl | rfl
  · rfl
  · exact sliceOf' h
end Go.Proofs.YtonblppkidpmlaaGreatDoor.E
namespace Go.Proofs.YtonblppkidpmlaaGreatDoor.E
open Go Go.RowKit
set_option linter.unusedSimpArgs false
set_option linter.unusedVariables false

theorem ownsRow_ne {s s' : Nat} {e e' : TypeId} {w : World} {v v' : Value} {n n' : Nat} {xs xs' : List Value} (h : w.ownsRow 0 e s v n xs) (h' : w.ownsRow 0 e' s' v' n' xs') (hne : e ≠ e') : ∀ j, v'.ownBlock = some j → ¬ v.ownBlock = some j := by
  intro j hj hk
  rcases h.2 with ⟨rfl, _⟩ | ⟨g, cap, cur, rfl, _, hg, _⟩
  · cases hk
  · rcases h'.2 with ⟨rfl, _⟩ | ⟨g', cap', cur', rfl, _, hg', _⟩
    · cases hj
    · have e1 : g = j := by simpa [Value.ownBlock] using hk
      have e2 : g' = j := by simpa [Value.ownBlock] using hj
      rw [e1] at hg
      rw [e2, hg] at hg'
      simp only [Option.some.injEq, Obj.cells.injEq] at hg'
      exact hne hg'.2.1
/-- Indexes that read so. -/
structure IxAt (w : World) (v : Value) (L : List Xm) : Prop where
  row : OwnR 2 53 w v L.length (L.flatMap xmF)
  ms : ∀ x ∈ L, Rd w x.fv (iV x.fs)
theorem IxAt.below {w w' : World} {v : Value} {L : List Xm} (h : IxAt w v L) (hb : Below w.heap.size w w') : IxAt w' v L :=
  ⟨h.row.turns' (F := fun _ => False) (Turns.of_below hb) fun _ _ h => h, fun x hx => (h.ms x hx).below hb⟩
/-- Indexes of the call's own, the fields of each a row of the call's own. -/
structure OwnXs (w0 w : World) (v : Value) (L : List Xm) : Prop where
  row : OwnL xmF 2 53 w0 w v L
  ms : ∀ x ∈ L, Own 3 w x.fv (iV x.fs) ∧ Fresh w0.heap.size x.fv
section
variable {w0 w w' : World} {v : Value} {L : List Xm}
theorem OwnXs.nil (hb : Below w0.heap.size w0 w) : OwnXs w0 w (.slice none 0 0) [] := ⟨OwnL.nil hb, by simp⟩
theorem OwnXs.kept (h : OwnXs w0 w v L) (hb : Below w.heap.size w w') : OwnXs w0 w' v L := ⟨h.row.kept hb, fun x hx => ⟨(h.ms x hx).1.below hb, (h.ms x hx).2⟩⟩
theorem OwnXs.at (h : OwnXs w0 w v L) : IxAt w v L := ⟨OwnR.of_own h.row.own, fun x hx => (h.ms x hx).1.rd⟩
theorem OwnXs.grow {w6 : World} {v6 : Value} (h : OwnXs w0 w v L) (x : Xm) (hx : Own 3 w x.fv (iV x.fs) ∧ Fresh w0.heap.size x.fv) (ho : w6.ownsRow 0 53 2 v6 (L.length + 1) (L.flatMap xmF ++ xmF x))
    (hbl : v6.ownBlock = v.ownBlock ∨ ∃ j, v6.ownBlock = some j ∧ w.heap.size ≤ j) (hT : Turns (fun j => v.ownBlock = some j) w w6) : OwnXs w0 w6 v6 (L ++ [x]) := by
  have e : (L ++ [x]).flatMap xmF = L.flatMap xmF ++ xmF x := by simp
  refine ⟨⟨by rw [e, List.length_append]; exact ho, h.row.fresh.one h.row.bel.size hbl, h.row.bel.trans (hT.fresh h.row.fresh h.row.bel.size)⟩, fun y hy => ?_⟩
  rcases List.mem_append.1 hy with hy | hy
  · exact ⟨(h.ms y hy).1.turns hT (ownsRow_ne h.row.own (h.ms y hy).1 (by decide)), (h.ms y hy).2⟩
  · simp only [List.mem_cons, List.not_mem_nil, or_false] at hy
    subst hy
    exact ⟨hx.1.turns hT (ownsRow_ne h.row.own hx.1 (by decide)), hx.2⟩
end
def xmP (x : Xm) : Int × List Int := (x.id, x.fs)
theorem ckI_small {fs : List Int} (h : fs = [] ∨ ckI fs = 0) : fs.length ≤ 2 := by
  rcases h with rfl | h
  · simp
  · have := ckI_len h; omega
set_option maxHeartbeats 1000000 in
theorem Indexes21 {hu : Nat} {c : Nat → Nat} {w : World} {g n : Nat} {S : StT} (hS : PlS hu c w g S) (hok : StOk n S) :
    CallP Tryz.prog 21 #[.pointer (some ⟨g, 0, none⟩)] (fun r w' => ∃ L, L.map xmP = idxV 0 S.X ∧ OwnXs w w' r L) w := by
  obtain ⟨b, vX, M, X, h, hp, hX, hids⟩ := hS
  have hXl := X_len hX
  have hx6 := hok.xmany
  refine ⟨S21.calls _ _ _ ?_⟩
  unfold S21
  obtain ⟨A, cX, hvX, _⟩ := (OwnR.of_own h.xs).slice
  have q1 : w.cell? ⟨g, 1, none⟩ = some (.slice A X.length cX) := by rw [← hvX]; exact h.blk.cell 1
  (repeat with_reducible first|refine fd p1 (by decide) ?_|refine ld oneXs q1 ?_|refine z_a ?_)
  refine ln undSt ?_
  refine LoopP.inv2 (fun ov iv w' => ∃ (i : Nat) (L : List Xm), i ≤ X.length ∧ iv = .int .i64 i ∧ L.map xmP = idxV 0 (S.X.take i) ∧ OwnXs w w' ov L) (fun _ iv _ => X.length - (intOf iv).toNat) ⟨0, [], by omega, rfl, by simp [idxV], OwnXs.nil (Below.refl _ _)⟩ ?_
  rintro ov _ w1 ⟨i, L, hi, rfl, hL, ho⟩ J hJ
  dsimp only [List.headD_cons, List.tail_cons]
  refine bi_lss_c (fun h1 => ?_) (fun h1 => ?_)
  · have hi' : i < X.length := by omega
    have hb1 := ho.row.bel
    have h1' := h.below hb1
    have hSx : i < S.X.length := by omega
    have hSe : S.X[i] = X[i].fs := by
      have : (X.map (·.fs))[i]? = S.X[i]? := by rw [hX]
      rw [List.getElem?_map, List.getElem?_eq_getElem hi', List.getElem?_eq_getElem hSx] at this
      exact (Option.some.inj this).symm
    have hstep := idxV_take 0 S.X i hSx
    rw [hSe] at hstep
    have hLl : L.length ≤ 6 := by
      have := congrArg List.length hL
      rw [List.length_map] at this
      have h2 : (idxV 0 (S.X.take i)).length ≤ (S.X.take i).length := by
        have : ∀ (m : Nat) (Y : List (List Int)), (idxV m Y).length ≤ Y.length := by
          intro m Y
          induction Y generalizing m with
          | nil => simp [idxV]
          | cons fs t ih =>
            unfold idxV
            have := ih (m + 1)
            split <;> simp only [List.length_cons] <;> omega
        exact this _ _
      rw [List.length_take] at h2
      omega
    have hfs2 : X[i].fs.length ≤ 2 := by rw [← hSe]; exact ckI_small (hok.xs _ (List.getElem_mem hSx))
    have hidx := hids i X[i] (List.getElem?_eq_getElem hi')
    refine CondP.yes rfl ?_
    refine JoinP.cut (fun vs w' => ∃ v L', vs = [v] ∧ L'.map xmP = idxV 0 (S.X.take (i + 1)) ∧ OwnXs w w' v L') ?_ ?_
    · intro J1 hJ1
      obtain ⟨gx, cx, he, hcell⟩ := rowAt xmF_len (OwnR.of_own h1'.xs) i hi' (by decide)
      rw [hvX] at he
      cases he
      obtain ⟨Af, cf, hfv, _⟩ := (h1'.xm X[i] (List.getElem_mem hi')).rd.slice
      have hfl : (iV X[i].fs).length = X[i].fs.length := List.length_map _
      rw [hfl] at hfv
      have hrd := (h1'.xm X[i] (List.getElem_mem hi')).rd
      refine ixG undSt szIx i hi' ?_
      have hca : ∀ j u, (xmF X[i])[j]? = some u → w1.cell? ((⟨gx, i * 2, none⟩ : Addr).add j) = some u := fun j u hu => by
        rw [add0]
        exact hcell j u hu
      refine ldR aggIx hca (by rw [szIx]; rfl) ?_
      refine cpB zIx (cells := (xmF X[i]).toArray) (by rw [szIx]; rfl) (by rfl) (allOne (by unfold xmF; rw [hfv]; rfl)) ?_
      intro g5 w2 hg5 hB5 hb2
      have r0 : ∀ w', Blk w' g5 53 (xmF X[i]).toArray → w'.cell? ⟨g5, 0, none⟩ = some (.int .i64 X[i].id) := fun w' hB => hB.cell 0
      have r1 : ∀ w', Blk w' g5 53 (xmF X[i]).toArray → w'.cell? ⟨g5, 1, none⟩ = some (.slice Af X[i].fs.length cf) := fun w' hB => by rw [← hfv]; exact hB.cell 1
      (repeat with_reducible first|refine fd x1 (by decide) ?_|refine ld oneIs (r1 _ hB5) ?_)
      refine ln undIs ?_
      refine bi_gtr_c (fun h2 => ?_) (fun h2 => ?_)
      · (repeat with_reducible first|refine z_b ?_)
        have hdr : Below w2.heap.size w2 w2.drew := (Below.refl _ _).drew
        refine draw (fun w' => Blk w' g5 53 (xmF X[i]).toArray) (hB5.below' hdr) ?_
        (repeat with_reducible first|refine yfd x0 (by decide) ?_|refine yl1 one3 r0 ?_|refine yfd x1 (by decide) ?_|refine yl1 oneIs r1 ?_)
        refine act ?_
        have hb2d := below_then hb2 hdr
        refine (Clone28 _ X[i].fs (by omega) w2.drew (by rw [← hfv]; exact hrd.below hb2d)).mono ?_
        rintro vc w3 ⟨hoc, hfc, hb3⟩
        have hb23 := below_then hdr hb3
        refine ⟨_, hB5.below' hb23, fun _ h => h, ?_⟩
        obtain ⟨Ac, cc, rfl⟩ := hoc.slice
        refine ybd (cells := (xmF ⟨X[i].id, .slice Ac (iV X[i].fs).length cc, X[i].fs⟩).toArray) (by kernel_rfl) ?_
        have ho3 := ho.kept (below_then hb2 hb23)
        have hd2 := hdr.size
        have hs2 := hb2.size
        have hs1 := hb1.size
        refine apOneA (us := xmF ⟨X[i].id, .slice Ac (iV X[i].fs).length cc, X[i].fs⟩) undSt infIx (by rfl) (by decide) ho3.row.own rfl (fun u hu => by
          simp only [xmF, List.mem_cons, List.not_mem_nil, or_false] at hu
          rcases hu with rfl | rfl <;> rfl) (by omega) (by omega) (by kernel_rfl) (fun w' hb => (hB5.below' hb23).below' hb) ?_
        intro v6 w6 ho6 hbl6 hT6
        have hgl : ∀ k, ov.ownBlock = some k → k < w1.heap.size := fun k hk => ownsRow_lt ho.row.own hk
        refine ⟨_, (hB5.below' hb23).turns hT6 fun e => by have := hgl _ e; omega, fun _ h => h, ?_⟩
        refine hJ1 _ _ ⟨_, _, rfl, ?_, ho3.grow ⟨X[i].id, .slice Ac (iV X[i].fs).length cc, X[i].fs⟩ ⟨hoc, fun k hk => by have := hfc k hk; omega⟩ ho6 hbl6 hT6⟩
        rw [List.map_append, hL, hstep, if_neg (by omega), hidx]
        simp [xmP]
      · (repeat with_reducible first|refine z_c ?_)
        refine hJ1 _ _ ⟨_, L, rfl, ?_, ho.kept hb2⟩
        rw [hL, hstep, if_pos (by omega), List.append_nil]
    · rintro _ w2 ⟨v, L', rfl, hL', ho'⟩
      dsimp only [List.headD_cons, List.tail_cons]
      (repeat with_reducible first|refine z_o (by omega) ?_)
      exact hJ _ _ _ ⟨i + 1, L', by omega, by simp, hL', ho'⟩ (by simp [intOf]; omega)
  · have : i = X.length := by omega
    subst this
    rw [hXl, List.take_length] at hL
    (repeat with_reducible first|refine z_c ?_)
    exact ⟨L, hL, ho⟩
noncomputable def shownV (S : StT) (id : Int) : List Txt := match fieldsOf S.X id with
  | none => []
  | some fs => (areaV S.R id fs [] []).map (·.1)
set_option maxHeartbeats 1000000 in
theorem Shown27 {hu : Nat} {c : Nat → Nat} {w : World} {g n : Nat} {S : StT} (hS : PlS hu c w g S) (hok : StOk n S) (hn : n ≤ 100000) (id : Int) (hid : -9223372036854775808 ≤ id ∧ id ≤ 9223372036854775807) (hm : GMx w) :
    CallP Tryz.prog 27 #[.pointer (some ⟨g, 0, none⟩), .int .i64 id] (fun r w' => OwnTx w w' r (shownV S id)) w := by
  obtain ⟨b, vX, M, X, h, hp, hX, hids⟩ := hS
  have hXl := X_len hX
  have hML : M.length = S.R.length := by rw [← hp.length_eq, List.length_map]
  have hmany := hok.many
  refine ⟨S27.calls _ _ _ _ ?_⟩
  unfold S27
  refine JoinP.cut (fun vs w' => ∃ v, vs = [v] ∧ OwnTx w w' v (shownV S id)) ?_ ?_
  · intro J hJ
    refine (index57 h (by have := hok.xmany; omega) id hid).mono ?_
    rintro _ w1 ⟨rfl, hb1⟩
    obtain ⟨cells, bk, hix, hcs, hc1, hbf, hbt⟩ := ix_cases hX hids (fun x hx => fv_one (h.xm x hx)) id
    rw [hix]
    (repeat with_reducible first|refine z_A ?_|refine z_B ?_)
    refine cpB zIx (cells := cells) (by rw [szIx, hcs]) (by rw [hcs]; rfl) hc1 ?_
    intro g5 w2 hg5 hI hb2
    have hb02 := below_then hb1 hb2
    cases bk with
    | false =>
      (repeat with_reducible first|refine z_c ?_)
      refine hJ _ _ ⟨_, rfl, ?_⟩
      have : shownV S id = [] := by unfold shownV; rw [hbf rfl]
      rw [this]
      exact OwnTx.nil hb02
    | true =>
    obtain ⟨i, x, hx, rfl, hfo, hid', hxid⟩ := hbt rfl
    have h2 := h.below hb02
    have hxm := h2.xm x (List.mem_of_getElem? hx)
    (repeat with_reducible first|refine z_b ?_)
    refine ldA aggIx hI (by exact szIx) ?_
    have hok' : ∀ p ∈ M.map mkr, ∀ x ∈ p.2, valOk x := fun p hp' => (hok.recs p (hp.mem_iff.1 hp')).2
    refine (entries58 h2 (hok.ent hp) (by omega) x.id x.fv _ _ x.fs [] [] hxm.rd (vals_nil _) (vals_nil _) (hm.below hb02)).mono ?_
    rintro r w3 ⟨L, hpL, hs, hE, hb3⟩
    have hb03 := below_then hb02 hb3
    have hL := areaV_eq hok' hpL hs
    have hsh : shownV S id = L.map (·.1) := by
      unfold shownV
      rw [hfo, hL, area_perm hp (fun p hp' => (hok.recs p hp').2), hxid]
    have hlen : L.length ≤ 100000 := by
      rw [hpL.length_eq]
      have := List.length_filterMap_le (entOf x.id x.fs [] []) (M.map mkr)
      rw [List.length_map] at this
      omega
    obtain ⟨A, cc, hr, _⟩ := hE.1.slice
    rw [hr]
    refine ln undEn ?_
    refine LoopP.inv2 (fun rv iv w' => ∃ i : Nat, i ≤ L.length ∧ iv = .int .i64 i ∧ OwnTx w3 w' rv ((L.take i).map (·.1))) (fun _ iv _ => L.length - (intOf iv).toNat) ⟨0, by omega, rfl, OwnTx.nil (Below.refl _ _)⟩ ?_
    rintro rv _ w4 ⟨i, hi, rfl, ho⟩ J1 hJ1
    dsimp only [List.headD_cons, List.tail_cons]
    refine bi_lss_c (fun h1 => ?_) (fun h1 => ?_)
    · have hi' : i < L.length := by omega
      obtain ⟨ge, ce, he, hcell⟩ := rowAt enF_len (hE.1.below ho.bel) i hi' (by decide)
      rw [hr] at he
      cases he
      (repeat with_reducible first|refine z_b ?_)
      refine ixG undEn szEn i hi' ?_
      refine ldR (us := enF L[i]) aggEn (fun j u hu => by rw [add0]; exact hcell j u hu) (by rw [szEn]; rfl) ?_
      refine cpB zEn (cells := enA L[i]) (by exact szEn) (by rfl) (enA_one _) ?_
      intro g6 w5 hg6 hB6 hb5
      have c1 : w5.cell? ⟨g6, 0, none⟩ = some (tS L[i].1) := hB6.cell 0
      (repeat with_reducible first|refine fd e0 (by decide) ?_|refine ld one9 c1 ?_)
      refine (ho.kept hb5).push (by simp; omega) L[i].1 ?_
      intro v6 w6 ho6
      (repeat with_reducible first|refine z_o (by omega) ?_)
      refine hJ1 _ _ _ ⟨i + 1, by omega, by simp, ?_⟩ (by simp [intOf]; omega)
      rw [List.take_succ_eq_append_getElem hi', List.map_append]
      exact ho6
    · have : i = L.length := by omega
      subst this
      rw [List.take_length] at ho
      (repeat with_reducible first|refine z_c ?_)
      refine hJ _ _ ⟨_, rfl, ?_⟩
      rw [hsh]
      exact ho.old hb03
  · rintro _ w1 ⟨v, rfl, ho⟩
    dsimp only [List.headD_cons, List.tail_cons]
    exact ho
end Go.Proofs.YtonblppkidpmlaaGreatDoor.E
