import Derived.Test.YtonblppkidpmlaaGreatDoorMm
namespace Go.Proofs.YtonblppkidpmlaaGreatDoor.E
open Go Go.RowKit
set_option linter.unusedSimpArgs false
set_option linter.unusedVariables false

section
variable {P : Program} {K : Value → World → Prop} {S : World → Prop} {w : World} {b : Nat} {l : List (Txt × Value)}
theorem T.ylkp {t e : TypeId} {z : Value} (ht : P.underlying t = some (.map 9 e)) (hk : P.underlying 9 = some .string) (hz : (P.info? e).bind (·.zero) = some z) (h : ∀ w', S w' → T.MapI w' b l) {k : Txt}
    (kk : K (.tuple #[(T.getK k l).getD z, .bool (T.getK k l).isSome]) w) : YieldP P S (Instr.lookup t (.map (some b)) (tS k) true) K w := by
  refine yld (fun w' hw => ?_) kk
  obtain ⟨es, c, h1, h2, _⟩ := h w' hw
  obtain ⟨i, hi, hzz⟩ := Option.bind_eq_some_iff.1 hz
  rw [T.getK_idx]
  cases hx : T.idxK k l with
  | none => simp [Instr.lookup, run_underlying ht, MapKept.run_getObj_map h1, T.run_chk hk, T.run_find hk h2, hx, zeroValue, typeInfo, hi, hzz]
  | some p => simp [Instr.lookup, run_underlying ht, MapKept.run_getObj_map h1, T.run_chk hk, T.run_find hk h2, hx]
end
theorem setT_map {α β : Type} (k : Txt) (f : α → β) (v : α) : ∀ L : List (Txt × α), T.setK k (f v) (L.map fun p => (p.1, f p.2)) = (T.setK k v L).map fun p => (p.1, f p.2)
  | [] => rfl
  | (a, x) :: r => by
    rw [List.map_cons, T.setK, T.setK, setT_map k f v r]
    split <;> rfl
theorem delT_map {α β : Type} (k : Txt) (f : α → β) : ∀ L : List (Txt × α), T.delK k (L.map fun p => (p.1, f p.2)) = (T.delK k L).map fun p => (p.1, f p.2)
  | [] => rfl
  | (a, x) :: r => by
    rw [List.map_cons, T.delK, T.delK, delT_map k f r]
    split <;> rfl
theorem setT_mem {α : Type} {k : Txt} {v : α} : ∀ {L : List (Txt × α)} {p : Txt × α}, p ∈ T.setK k v L → p ∈ L ∨ p = (k, v)
  | [], p, h => by
    simp only [T.setK, List.mem_cons, List.not_mem_nil, or_false] at h
    exact .inr h
  | (a, x) :: r, p, h => by
    rw [T.setK] at h
    split at h
    · rcases List.mem_cons.1 h with h | h
      · exact .inr h
      · exact .inl (List.mem_cons_of_mem _ h)
    · rcases List.mem_cons.1 h with h | h
      · exact .inl (by rw [h]; simp)
      · exact (setT_mem h).imp (List.mem_cons_of_mem _) id
section
variable {hu : Nat} {c : Nat → Nat} {w w' : World} {g b : Nat} {vX : Value} {M : List Mm} {X : List Xm}
theorem PlAt.mapped (h : PlAt hu c w g b vX M X) {M' : List Mm} (hm : T.MapI w' b (M'.map mkv)) (hT : Turns (fun j => j = b) w w') (hms : ∀ m ∈ M', VS 999 c w m.2.1 m.2.2) : PlAt hu c w' g b vX M' X ∧ Turns (fun k => c k = hu) w w' := by
  have hpos := h.pos
  have hG : ∀ k, k = b → c k ≠ 999 := fun k hk => by rw [hk, h.cb]; omega
  refine ⟨⟨h.pos, h.blk.turns hT fun e => blk_ne_map h.blk h.map e, hm, h.cg, h.cb, fun m hm' => (hms m hm').turns hT hG, ownsRow_turns h.xs hT fun k hk e => own_ne_map h.xs h.map (by rw [hk, e]), h.cx, fun x hx => (h.xm x hx).turns hT hG⟩, hT.mono fun k _ e => by rw [e]; exact h.cb⟩
theorem PlAt.putM (h : PlAt hu c w g b vX M X) {k : Txt} {v : Value} {r : List ValT} (hv : VS 999 c w v r) (hm : T.MapI w' b (T.setK k v (M.map mkv))) (hT : Turns (fun j => j = b) w w') : PlAt hu c w' g b vX (T.setK k (v, r) M) X ∧ Turns (fun k => c k = hu) w w' := by
  have e : T.setK k v (M.map mkv) = (T.setK k (v, r) M).map mkv := setT_map k (·.1) (v, r) M
  rw [e] at hm
  refine h.mapped hm hT fun m hm' => ?_
  rcases setT_mem hm' with h1 | h1
  · exact h.ms m h1
  · rw [h1]; exact hv
theorem PlAt.delM (h : PlAt hu c w g b vX M X) {k : Txt} (hm : T.MapI w' b (T.delK k (M.map mkv))) (hT : Turns (fun j => j = b) w w') : PlAt hu c w' g b vX (T.delK k M) X ∧ Turns (fun k => c k = hu) w w' := by
  have e : T.delK k (M.map mkv) = (T.delK k M).map mkv := delT_map k (·.1) M
  rw [e] at hm
  exact h.mapped hm hT fun m hm' => h.ms m (T.delK_sub k M m hm')
end
theorem sliceOf {w : World} {v : Value} {l : List ValT} (h : Vals w [v] l) : v.oneCell' = true := by
  obtain ⟨A, c, rfl, _⟩ := h.slice; rfl
section
variable {hu hr : Nat} {c : Nat → Nat} {w : World} {g : Nat} {S : StT} {n : Nat} {o : OpP} {s : OpS}
set_option maxHeartbeats 4000000 in
theorem Do15 (hS : PlS hu c w g S) (hok : StOk n S) (hn : n ≤ 100000) (hne : hr ≠ hu ∧ hr ≠ 999) (ho : OpAt w o s) (hm : GMx w) :
    CallP Tryz.prog 15 #[.pointer (some ⟨g, 0, none⟩), .agg (opC o s)] (fun r w' => DoPost hu hr c w g (doS S o) r w') w := by
  have hS0 := hS
  obtain ⟨b, vX, M, X, h, hp, hX, hids⟩ := hS
  have hpos := h.pos
  have hML : M.length = S.R.length := by rw [← hp.length_eq, List.length_map]
  have hmany := hok.many
  refine ⟨S15.calls _ _ _ _ ?_⟩
  unfold S15
  refine bxB ?_
  intro g1 w1 hg1 hO hb1
  refine alB zRep ?_
  intro g4 w2 hg4 hRep hb2
  have hb12 := below_then hb1 hb2
  refine ldA aggOp (hO.below' hb2) (by exact szOp) ?_
  refine (Check11 o s w2 (ho.below hb12) (hm.below hb12)).mono ?_
  rintro _ w4 ⟨rfl, hb3⟩
  have hb14 := below_then hb2 hb3
  have hb04 := below_then hb1 hb14
  have hO4 := hO.below' hb14
  have hRep4 := hRep.below' hb3
  have h4 := h.below hb04
  have ho4 := ho.below hb04
  have hm4 := hm.below hb04
  have hr4 := Below.refl w4.heap.size w4
  have hw4 : w.heap.size ≤ w4.heap.size := hb04.size
  have hg4w : w.heap.size ≤ g4 := by rw [hg4]; exact hb1.size
  have hg4l := hRep4.lt
  obtain ⟨cz, hcz⟩ : ∃ cz, cz = col c w.heap.size (hu + hr + 1000) := ⟨_, rfl⟩
  have czw : ∀ k, k < w.heap.size → cz k = c k := fun k hk => by rw [hcz, col_lt _ _ _ k hk]
  have czg : cz g4 = hu + hr + 1000 := by rw [hcz, col_ge _ _ _ hg4w]
  have one2 : ∀ {a d : Int} {t : Bool} {v v' : Value}, v.oneCell' = true → v'.oneCell' = true → (#[Value.int .i64 a, .bool t, v, v', .int .i64 d] : Array Value).all (·.oneCell') = true := fun h1 h2 => allOne (l := [_, _, _, _, _]) (by simp only [List.all_cons, h1, h2]; rfl)
  have turn : ∀ (w5 w' : World), Below w4.heap.size w4 w5 → Turns (fun j => j = g4) w5 w' → Turns (fun k => c k = hu) w w' := fun w5 w' hb5 hT => Turns.of_below (below_own (below_then hb04 hb5) hT hg4w)
  -- a reply that leaves the store as it was
  have same : ∀ (q : RepT) (w5 w' : World) (v : Value), OwnV w4 w5 v q.rcd → (∀ x ∈ q.rcd, valOk x) → Turns (fun j => j = g4) w5 w' → q.rows = [] → doS S o = (S, q) →
      DoPost hu hr c w g (doS S o) (.agg #[.int .i64 q.code, .bool q.there, v, .slice none 0 0, .int .i64 q.id]) w' := fun q w5 w' v hv hvo hT h2 hd => by
    rw [hd]
    have cw : ∀ k, k < w.heap.size → col cz w4.heap.size hr k = c k := fun k hk => by rw [col_lt _ _ _ k (by omega), czw k hk]
    have cg : col cz w4.heap.size hr g4 = hu + hr + 1000 := by rw [col_lt _ _ _ _ hg4l, czg]
    refine ⟨col cz w4.heap.size hr, cw, ?_, ⟨_, _, [], rfl, ?_, RowsC.nil, by rw [h2]; rfl⟩, turn _ _ hv.bel hT⟩
    · exact PlS.turns (PlS.below (⟨b, vX, M, X, (h.re cw).below hb04, hp, hX, hids⟩ : PlS hu _ w4 g S) hv.bel) hT (fun k hk => by rw [hk, cg]; omega)
    · exact (hv.vs hvo cz hr).turns hT fun k hk => by rw [hk, cg]; omega
  refine bi_neq_c (fun hck => ?_) (fun hck => ?_)
  · (repeat with_reducible first|refine z_b ?_)
    refine repL (cells := #[.int .i64 (chk o), .bool false, .slice none 0 0, .slice none 0 0, .int .i64 0]) (by kernel_rfl) rfl (one2 rfl rfl) hRep4 rfl ?_
    intro w5 hT
    refine same { rep0 with code := chk o } w4 w5 _ (OwnL.nil hr4) (by simp [rep0]) hT rfl ?_
    unfold doS
    simp only [hck, ne_eq, not_false_eq_true, ↓reduceIte]
  have hck : chk o = 0 := hck
  (repeat with_reducible first|refine z_c ?_)
  have hdr : Below w4.heap.size w4 w4.drew := (Below.refl _ _).drew
  have yr0 : ∀ w', Below w4.heap.size w4 w' → w'.cell? ⟨g, 0, none⟩ = some (.map (some b)) := fun w' hb => (h4.blk.below' hb).cell 0
  have yr1 : ∀ w', Below w4.heap.size w4 w' → w'.cell? ⟨g1, 1, none⟩ = some (tS o.key.data.toList) := fun w' hb => by rw [← tS_of]; exact opk1 hO4 _ hb
  have hnodM : ((M.map mkr).map (·.1)).Nodup := (hp.map _).nodup_iff.2 (rising_nodup hok.rising)
  obtain ⟨vw, hvw, hVw, hsome⟩ : ∃ vw, (T.getK o.key.data.toList (M.map mkv)).getD (.slice none 0 0) = vw ∧ VS 999 c w4 vw ((T.getK o.key.data.toList S.R).getD []) ∧ (T.getK o.key.data.toList (M.map mkv)).isSome = (T.getK o.key.data.toList S.R).isSome := by
    rw [← perm_get hp hnodM, getK_mkv, getK_mkr]
    cases hg : T.getK o.key.data.toList M with
    | none => exact ⟨_, rfl, VS.nil _ _ _, rfl⟩
    | some p => exact ⟨_, rfl, h4.ms _ (getT_mem hg), rfl⟩
  have hwasL : ((T.getK o.key.data.toList S.R).getD []).length ≤ 1000 := by
    cases hg : T.getK o.key.data.toList S.R with
    | none => simp
    | some r => exact hok.recl _ (getT_mem hg)
  have hg4z : ∀ x : Nat → Nat, (∀ k, k < w4.heap.size → x k = cz k) → x g4 ≠ hu ∧ x g4 ≠ 999 := fun x hx => by rw [hx g4 hg4l, czg]; omega
  -- a record put
  have put : ∀ (wd w5 w6 : World) (vc : Value), Below w4.heap.size w4 wd → OwnV wd w5 vc o.rcd → (∀ x ∈ o.rcd, valOk x) → T.MapI w6 b (T.setK o.key.data.toList vc (M.map mkv)) → Turns (fun j => j = b) w5 w6 → (doS S o).1 = ⟨insR o.key.data.toList o.rcd S.R, S.X⟩ →
      Blk w6 g4 37 #[.int .i64 0, .bool false, .slice none 0 0, .slice none 0 0, .int .i64 0] ∧ ∃ c', (∀ k, k < w.heap.size → c' k = c k) ∧ (c' g4 ≠ hu ∧ c' g4 ≠ 999) ∧ PlS hu c' w6 g (doS S o).1 ∧ Turns (fun k => c k = hu) w w6 := fun wd w5 w6 vc hbd hv hvo hm6 hT6 hd => by
    have hb5 := below_then hbd hv.bel
    have hb05 := below_then hb04 hb5
    have hcc := col_lt cz w4.heap.size 999
    have cw : ∀ k, k < w.heap.size → col cz w4.heap.size 999 k = c k := fun k hk => by rw [hcc k (by omega), czw k hk]
    have hP5 : PlAt hu (col cz w4.heap.size 999) w5 g b vX M X := (h.re cw).below hb05
    obtain ⟨hP6, hT6'⟩ := hP5.putM ((hv.old hbd).vs hvo cz 999) hm6 hT6
    have hbw : b < w.heap.size := h.map.lt
    refine ⟨(hRep4.below' hb5).turns hT6 fun e => by omega, _, cw, hg4z _ hcc, ?_, (Turns.of_below hb05).trans (hT6.mono fun k _ e => .inl (by rw [e]; exact h.cb))⟩
    rw [hd]
    refine ⟨b, vX, _, X, hP6, ?_, hX, hids⟩
    have e : (T.setK o.key.data.toList (vc, o.rcd) M).map mkr = T.setK o.key.data.toList o.rcd (M.map mkr) := (setT_map o.key.data.toList (·.2) (vc, o.rcd) M).symm
    rw [e]
    exact perm_ins hp hnodM hok.rising _ _
  refine draw (Below w4.heap.size w4) hdr ?_
  (repeat with_reducible first|refine yfd p0 (by decide) ?_|refine yl1 oneMp yr0 ?_|refine yfd of1 (by decide) ?_|refine yl1 one9 yr1 ?_|refine z_W ?_)
  refine T.ylkp undMp und9 zRec (fun w' hb => h4.map.below hb) ?_
  rw [hvw, hsome]
  (repeat with_reducible first|refine z_l1 ?_|refine z_m1 ?_)
  generalize w4.drew = wd at *
  have hOd := hO4.below' hdr
  have hrd := Below.refl wd.heap.size wd
  have hVwd := hVw.below hdr
  refine JoinP.cut (fun vs w' => vs = [] ∧ (doS S o).2 = { rep0 with there := (T.getK o.key.data.toList S.R).isSome } ∧ Blk w' g4 37 #[.int .i64 0, .bool false, .slice none 0 0, .slice none 0 0, .int .i64 0] ∧ ∃ c', (∀ k, k < w.heap.size → c' k = c k) ∧ (c' g4 ≠ hu ∧ c' g4 ≠ 999) ∧ PlS hu c' w' g (doS S o).1 ∧ Turns (fun k => c k = hu) w w') ?_ ?_
  · intro J hJ
    (repeat with_reducible first|refine fd of0 (by decide) ?_|refine ld one3 (opk0 hOd _ hrd) ?_)
    refine bi_eql_c (fun k1 => ?_) (fun k1 => ?_)
    · -- put
      have hd : doS S o = (⟨insR o.key.data.toList o.rcd S.R, S.X⟩, { rep0 with there := (T.getK o.key.data.toList S.R).isSome }) := by
        unfold doS
        simp only [hck, ne_eq, not_true_eq_false, ↓reduceIte, k1]
      have hc1 := chk_1 hck k1
      have hkl := keyOk_0 hc1.1
      have hrl := (recE_0 hc1.2).2.1
      (repeat with_reducible first|refine z_b ?_)
      have hdr2 : Below wd.heap.size wd wd.drew := (Below.refl _ _).drew
      have hb2d := below_then hdr hdr2
      have yr3 : ∀ w', Below w4.heap.size w4 w' → w'.cell? ⟨g1, 3, none⟩ = some s.rcd := opk3 hO4
      refine draw (Below w4.heap.size w4) hb2d ?_
      (repeat with_reducible first|refine yfd p0 (by decide) ?_|refine yl1 oneMp yr0 ?_|refine yfd of1 (by decide) ?_|refine yl1 one9 yr1 ?_|refine yfd of3 (by decide) ?_|refine yl1 oneRec yr3 ?_|refine z_W ?_)
      refine act ?_
      refine (Clone45 s.rcd o.rcd wd.drew (keeps_Vals _ _ _ _ hb2d ho4.rcd) (by omega)).mono ?_
      intro vc w5 hv5
      have hb5 := below_then hb2d hv5.bel
      refine ⟨_, hb5, fun _ h => h, ?_⟩
      refine T.mup undMp und9 (h4.map.below hb5) (by omega) (by rw [List.length_map]; simp only [maxLen]; omega) ?_
      intro w6 hm6 hT6
      obtain ⟨hB6, c', hc'⟩ := put _ w5 w6 vc hb2d hv5 (vals_ok ho4.rcd) hm6 hT6 (by rw [hd])
      exact hJ _ _ ⟨rfl, by rw [hd], hB6, c', hc'⟩
    (repeat with_reducible first|refine z_c ?_)
    refine bi_eql_c (fun k2 => ?_) (fun k2 => ?_)
    · -- delete
      have hd : doS S o = (⟨T.delK o.key.data.toList S.R, S.X⟩, { rep0 with there := (T.getK o.key.data.toList S.R).isSome }) := by
        unfold doS
        simp only [hck, ne_eq, not_true_eq_false, ↓reduceIte, k2]
        rfl
      (repeat with_reducible first|refine z_b ?_)
      have hdr2 : Below wd.heap.size wd wd.drew := (Below.refl _ _).drew
      have hb2d := below_then hdr hdr2
      refine draw (Below w4.heap.size w4) hb2d ?_
      (repeat with_reducible first|refine yfd p0 (by decide) ?_|refine yl1 oneMp yr0 ?_|refine yfd of1 (by decide) ?_|refine yl1 one9 yr1 ?_|refine z_W ?_)
      refine T.dlt undMp und9 (h4.map.below hb2d) ?_
      intro w6 hm6 hT6
      have hP5 : PlAt hu cz wd.drew g b vX M X := (h.re czw).below (below_then hb04 hb2d)
      obtain ⟨hP6, hT6'⟩ := hP5.delM hm6 hT6
      have hbw : b < w.heap.size := h.map.lt
      refine hJ _ _ ⟨rfl, by rw [hd], (hRep4.below' hb2d).turns hT6 fun e => by omega, cz, czw, hg4z _ fun _ _ => rfl, ?_, (Turns.of_below (below_then hb04 hb2d)).trans (hT6.mono fun k _ e => .inl (by rw [e]; exact h.cb))⟩
      rw [hd]
      refine ⟨b, vX, _, X, hP6, ?_, hX, hids⟩
      have e : (T.delK o.key.data.toList M).map mkr = T.delK o.key.data.toList (M.map mkr) := (delT_map o.key.data.toList (·.2) M).symm
      rw [e]
      exact perm_del hp hnodM _
    (repeat with_reducible first|refine z_c ?_)
    refine bi_eql_c (fun k3 => ?_) (fun k3 => ?_)
    · -- get
      have hd : doS S o = (S, { rep0 with there := (T.getK o.key.data.toList S.R).isSome, rcd := (T.getK o.key.data.toList S.R).getD [] }) := by
        unfold doS
        simp only [hck, ne_eq, not_true_eq_false, ↓reduceIte, k3]
        rfl
      (repeat with_reducible first|refine z_b ?_)
      refine (Clone45 vw _ wd hVwd.rd (by omega)).mono ?_
      intro vc w5 hv5
      obtain ⟨A, cc, rfl, _⟩ := hv5.slice
      refine repL (cells := #[.int .i64 0, .bool (T.getK o.key.data.toList S.R).isSome, .slice A ((T.getK o.key.data.toList S.R).getD []).length cc, .slice none 0 0, .int .i64 0]) (by kernel_rfl) rfl (one2 rfl rfl) (hRep4.below' (below_then hdr hv5.bel)) rfl ?_
      intro w6 hT
      exact same _ w5 w6 _ (hv5.old hdr) (vals_ok hVw.rd) hT rfl hd
    (repeat with_reducible first|refine z_c ?_)
    refine bi_eql_c (fun k4 => ?_) (fun k4 => ?_)
    · -- compare and put
      have hc1 := chk_4 hck k4
      have hkl := keyOk_0 hc1.1
      have hrl := (recE_0 hc1.2.1).2.1
      (repeat with_reducible first|refine fd of4 (by decide) ?_|refine ld oneRec (opk4 hOd _ hrd) ?_|refine z_b ?_)
      refine (Equal46 vw s.old _ o.old wd hVwd.rd (keeps_Vals _ _ _ _ hdr ho4.old)).mono ?_
      rintro _ w5 ⟨rfl, hb5⟩
      refine bi_not ?_
      have hb45 := below_then hdr hb5
      by_cases heq : (T.getK o.key.data.toList S.R).getD [] = o.old
      · have hd : doS S o = (⟨insR o.key.data.toList o.rcd S.R, S.X⟩, { rep0 with there := (T.getK o.key.data.toList S.R).isSome }) := by
          unfold doS
          simp only [hck, ne_eq, not_true_eq_false, ↓reduceIte, k4, heq]
          rfl
        rw [decide_eq_true heq]
        refine CondP.no_ rfl ?_
        have hdr2 : Below w5.heap.size w5 w5.drew := (Below.refl _ _).drew
        have hb2d := below_then hb45 hdr2
        have yr3 : ∀ w', Below w4.heap.size w4 w' → w'.cell? ⟨g1, 3, none⟩ = some s.rcd := opk3 hO4
        refine draw (Below w4.heap.size w4) hb2d ?_
        (repeat with_reducible first|refine yfd p0 (by decide) ?_|refine yl1 oneMp yr0 ?_|refine yfd of1 (by decide) ?_|refine yl1 one9 yr1 ?_|refine yfd of3 (by decide) ?_|refine yl1 oneRec yr3 ?_|refine z_W ?_)
        refine act ?_
        refine (Clone45 s.rcd o.rcd w5.drew (keeps_Vals _ _ _ _ hb2d ho4.rcd) (by omega)).mono ?_
        intro vc w6 hv6
        have hb6 := below_then hb2d hv6.bel
        refine ⟨_, hb6, fun _ h => h, ?_⟩
        refine T.mup undMp und9 (h4.map.below hb6) (by omega) (by rw [List.length_map]; simp only [maxLen]; omega) ?_
        intro w7 hm7 hT7
        obtain ⟨hB7, c', hc'⟩ := put _ w6 w7 vc hb2d hv6 (vals_ok ho4.rcd) hm7 hT7 (by rw [hd])
        exact hJ _ _ ⟨rfl, by rw [hd], hB7, c', hc'⟩
      · have hd : doS S o = (S, { rep0 with code := 9, there := (T.getK o.key.data.toList S.R).isSome, rcd := (T.getK o.key.data.toList S.R).getD [] }) := by
          unfold doS
          simp only [hck, ne_eq, not_true_eq_false, ↓reduceIte, k4, heq]
          rfl
        rw [decide_eq_false heq]
        refine CondP.yes rfl ?_
        refine (Clone45 vw _ w5 (hVw.below hb45).rd (by omega)).mono ?_
        intro vc w6 hv6
        obtain ⟨A, cc, rfl, _⟩ := hv6.slice
        refine repL (cells := #[.int .i64 9, .bool (T.getK o.key.data.toList S.R).isSome, .slice A ((T.getK o.key.data.toList S.R).getD []).length cc, .slice none 0 0, .int .i64 0]) (by kernel_rfl) rfl (one2 rfl rfl) (hRep4.below' (below_then hb45 hv6.bel)) rfl ?_
        intro w7 hT
        exact same _ w6 w7 _ (hv6.old hb45) (vals_ok hVw.rd) hT rfl hd
    · -- the others
      (repeat with_reducible first|refine z_c ?_)
      refine ldA aggOp hOd (by exact szOp) ?_
      have hbd := below_then hb04 hdr
      have hSz : PlS hu cz wd g S := ⟨b, vX, M, X, (h.re czw).below hbd, hp, hX, hids⟩
      refine (other47 hSz hok hn hne (ho4.below hdr) (hm4.below hdr) hck ⟨k1, k2, k3, k4⟩).mono ?_
      rintro _ w5 ⟨c', hc', hP, ⟨vr, vw', M', rfl, hvr, hvw', hM'⟩, hT⟩
      have hgd : g4 < wd.heap.size := (hRep4.below' hdr).lt
      have hcg : c' g4 = hu + hr + 1000 := by rw [hc' _ hgd, czg]
      have hB5 := (hRep4.below' hdr).turns hT fun e => by rw [czg] at e; omega
      have o1 : vr.oneCell' = true := sliceOf hvr.rd
      have o2 : vw'.oneCell' = true := by obtain ⟨A, cc, rfl, _⟩ := hvw'.row.slice; rfl
      refine stB hB5 (cells := #[.int .i64 (doS S o).2.code, .bool (doS S o).2.there, vr, vw', .int .i64 (doS S o).2.id]) (by exact szRep) rfl (one2 o1 o2) ?_
      intro w6 hB6 hT6
      refine retA aggRep hB6 (by exact szRep) ?_
      refine ⟨c', fun k hk => ?_, hP.turns hT6 (fun k hk => by rw [hk, hcg]; omega), ⟨vr, vw', M', rfl, hvr.turns hT6 fun k hk => by rw [hk, hcg]; omega, hvw'.turns hT6 fun k hk => by rw [hk, hcg]; omega, hM'⟩, ?_⟩
      · have := hbd.size
        rw [hc' k (by omega), czw k hk]
      · have t1 : Turns (fun k => c k = hu) w w5 := (Turns.of_below hbd).trans (hT.mono fun k hk e => by
          by_cases hkw : k < w.heap.size
          · exact .inl ((czw k hkw).symm.trans e)
          · exact .inr (by omega))
        exact t1.trans (hT6.mono fun k _ e => .inr (by rw [e]; exact hg4w))
  · rintro _ w5 ⟨rfl, hrep, hB5, c', hc', hcg, hP, hT5⟩
    refine repL (cells := #[.int .i64 0, .bool (T.getK o.key.data.toList S.R).isSome, .slice none 0 0, .slice none 0 0, .int .i64 0]) (by kernel_rfl) rfl (one2 rfl rfl) hB5 rfl ?_
    intro w6 hT6
    refine ⟨c', hc', hP.turns hT6 (fun k hk => by rw [hk]; exact hcg), ?_, ?_⟩
    · rw [hrep]
      exact ⟨_, _, [], rfl, VS.nil _ _ _, RowsC.nil, rfl⟩
    · exact hT5.trans (hT6.mono fun k _ e => .inr (by rw [e]; exact hg4w))
end
end Go.Proofs.YtonblppkidpmlaaGreatDoor.E
namespace Go.Proofs.YtonblppkidpmlaaGreatDoor.E
open Go Go.RowKit
set_option linter.unusedSimpArgs false
set_option linter.unusedVariables false

theorem insR_len {α : Type} {k : Txt} {r : α} : ∀ (R : List (Txt × α)), (insR k r R).length ≤ R.length + 1
  | [] => by simp [insR]
  | (a, x) :: t => by
    have := insR_len (k := k) (r := r) t
    unfold insR
    split
    · simp only [List.length_cons]; omega
    · split <;> simp
theorem delT_len {α : Type} (k : Txt) : ∀ (R : List (Txt × α)), (T.delK k R).length ≤ R.length
  | [] => by simp [T.delK]
  | (a, x) :: t => by
    have := delT_len k t
    unfold T.delK
    split
    · simp
    · simp only [List.length_cons]; omega
theorem ckX_1 {fs : List Int} : ckX 1 fs = ckI fs := by unfold ckX; rw [if_pos (by omega)]
theorem StOk.mono {n m : Nat} {S : StT} (h : StOk n S) (hm : n ≤ m) : StOk m S := ⟨h.rising, h.keys, h.recs, Nat.le_trans h.many hm, h.xs, h.xmany⟩
theorem StOk.put {n : Nat} {S : StT} (h : StOk n S) {k : Txt} {r : List ValT} (hk : 1 ≤ k.length ∧ k.length ≤ 16) (hr : recE r = 0) (hv : ∀ x ∈ r, valOk x) : StOk (n + 1) ⟨insR k r S.R, S.X⟩ := by
  refine ⟨insR_rising h.rising, fun p hp => ?_, fun p hp => ?_, ?_, h.xs, h.xmany⟩
  · rcases insR_mem hp with e | hp
    · rw [e]; exact hk
    · exact h.keys p hp
  · rcases insR_mem hp with e | hp
    · rw [e]; exact ⟨hr, hv⟩
    · exact h.recs p hp
  · have := insR_len (k := k) (r := r) S.R
    have := h.many
    show (insR k r S.R).length ≤ n + 1
    omega
theorem StOk.del {n : Nat} {S : StT} (h : StOk n S) (k : Txt) : StOk n ⟨T.delK k S.R, S.X⟩ := by
  refine ⟨delK_rising h.rising, fun p hp => h.keys p (T.delK_sub k _ p hp), fun p hp => h.recs p (T.delK_sub k _ p hp), ?_, h.xs, h.xmany⟩
  have := delT_len k S.R
  have := h.many
  show (T.delK k S.R).length ≤ n
  omega
/-- One operation. -/
theorem StOk.step {n : Nat} {S : StT} (h : StOk n S) (o : OpP) (hv : ∀ x ∈ o.rcd, valOk x) : StOk (n + 1) (doS S o).1 := by
  have hs := h.mono (Nat.le_succ n)
  unfold doS
  by_cases hck : chk o = 0
  · simp only [hck, ne_eq, not_true_eq_false, ↓reduceIte]
    by_cases k1 : o.kind = 1
    · have h1 := chk_1 hck k1
      rw [if_pos k1]
      exact h.put (keyOk_0 h1.1) h1.2 hv
    by_cases k2 : o.kind = 2
    · rw [if_neg k1, if_pos k2]
      exact (h.del _).mono (Nat.le_succ n)
    by_cases k3 : o.kind = 3
    · rw [if_neg k1, if_neg k2, if_pos k3]
      exact hs
    by_cases k4 : o.kind = 4
    · have h1 := chk_4 hck k4
      rw [if_neg k1, if_neg k2, if_neg k3, if_pos k4]
      split
      · exact h.put (keyOk_0 h1.1) h1.2.1 hv
      · exact hs
    by_cases k5 : o.kind = 5
    · rw [if_neg k1, if_neg k2, if_neg k3, if_neg k4, if_pos k5]
      exact hs
    by_cases k6 : o.kind = 6
    · rw [if_neg k1, if_neg k2, if_neg k3, if_neg k4, if_neg k5, if_pos k6]
      cases fieldsOf S.X o.id <;> exact hs
    by_cases k7 : o.kind = 7
    · have h1 := chk_7 hck k7
      rw [if_neg k1, if_neg k2, if_neg k3, if_neg k4, if_neg k5, if_neg k6, if_pos k7]
      split
      · exact hs
      · rename_i h6
        have hx := h.xmany
        refine ⟨hs.rising, hs.keys, hs.recs, hs.many, fun fs hfs => ?_, ?_⟩
        · rcases List.mem_append.1 hfs with hfs | hfs
          · exact h.xs fs hfs
          · simp only [List.mem_cons, List.not_mem_nil, or_false] at hfs
            rw [hfs]
            exact .inr (by rw [← ckX_1]; exact h1)
        · show (S.X ++ [o.fields]).length ≤ 6
          rw [List.length_append]
          simp only [List.length_cons, List.length_nil]
          omega
    by_cases k8 : o.kind = 8
    · rw [if_neg k1, if_neg k2, if_neg k3, if_neg k4, if_neg k5, if_neg k6, if_neg k7, if_pos k8]
      cases fieldsOf S.X o.id with
      | none => exact hs
      | some fs =>
        refine ⟨hs.rising, hs.keys, hs.recs, hs.many, fun fs' hfs => ?_, ?_⟩
        · rcases List.mem_or_eq_of_mem_set hfs with hfs | hfs
          · exact h.xs fs' hfs
          · exact .inl hfs
        · show (S.X.set (o.id - 1).toNat []).length ≤ 6
          rw [List.length_set]
          exact h.xmany
    · rw [if_neg k1, if_neg k2, if_neg k3, if_neg k4, if_neg k5, if_neg k6, if_neg k7, if_neg k8]
      exact hs
  · simp only [hck, ne_eq, not_false_eq_true, ↓reduceIte]
    exact hs
end Go.Proofs.YtonblppkidpmlaaGreatDoor.E
namespace Go.Proofs.YtonblppkidpmlaaGreatDoor.E
open Go Go.RowKit
set_option linter.unusedSimpArgs false
set_option linter.unusedVariables false

def v11 : ValT := (1, 1, ⟨#[]⟩, ())
def kB : ByteArray := ⟨#[107]⟩
def eB : ByteArray := ⟨#[]⟩
def opA : OpP := ⟨1, kB, eB, [v11], [], 0, [], [], [], 0, 0, 0⟩
def opD : OpP := ⟨7, eB, eB, [], [], 0, [0], [], [], 0, 0, 0⟩
def opQ : OpP := ⟨6, eB, eB, [], [], 1, [], [], [], 5, 0, 0⟩
theorem good11 : goodV v11 = true := by unfold v11; rw [goodV_1]; rfl
theorem rec11 : recE [v11] = 0 := by
  unfold recE
  rw [if_neg (by simp)]
  exact rowE_0.2 ⟨by simp, by simp [good11]⟩
theorem row0 : rowE [] = 0 := rowE_0.2 ⟨by simp, rfl⟩
theorem ck0 : ckI [0] = 0 := by
  unfold ckI
  rw [if_neg (by simp), if_neg (by simp), if_pos ⟨by simp, by simp⟩]
theorem chkA : chk opA = 0 := by
  unfold chk
  rw [if_pos (show opA.kind = 1 from rfl)]
  show firstE [mustE (keyOk kB), recE [v11]] = 0
  rw [rec11, mustE_t (show keyOk kB = true from rfl)]
  rfl
theorem chkD : chk opD = 0 := by
  unfold chk
  show ckX 1 [0] = 0
  rw [ckX_1, ck0]
theorem chkQ : chk opQ = 0 := by
  unfold chk
  show firstE [inE 1 1 6, rowE [], rowE [], inE 5 1 64] = 0
  rw [row0]
  rfl
def sA1 : StT := ⟨[([107], [v11])], []⟩
def sD1 : StT := ⟨[([107], [v11])], [[0]]⟩
theorem doA : doS st0 opA = (sA1, rep0) := by
  unfold doS
  simp only [chkA, ne_eq, not_true_eq_false, ↓reduceIte]
  rw [if_pos (show opA.kind = 1 from rfl)]
  rfl
theorem doD : doS sA1 opD = (sD1, { rep0 with id := 1 }) := by
  unfold doS
  simp only [chkD, ne_eq, not_true_eq_false, ↓reduceIte]
  rw [if_neg (show ¬ opD.kind = 1 by decide), if_neg (show ¬ opD.kind = 2 by decide), if_neg (show ¬ opD.kind = 3 by decide), if_neg (show ¬ opD.kind = 4 by decide), if_neg (show ¬ opD.kind = 5 by decide), if_neg (show ¬ opD.kind = 6 by decide), if_pos (show opD.kind = 7 from rfl), if_neg (show ¬ sA1.X.length = 6 by decide)]
  rfl
theorem show11 : showV 1 [0] [v11] = some [v11] := by
  unfold showV
  rw [if_neg (by rw [ckX_1, ck0, rec11]; simp)]
  rfl
theorem lies11 : liesV [v11] [] [] = true := by
  unfold liesV
  rw [decide_eq_true_iff]
  have h1 : rowE [v11] = 0 := rowE_0.2 ⟨by simp, by simp [good11]⟩
  refine ⟨h1, row0, row0, ?_, ?_⟩
  · unfold compV
    rw [if_neg (by rw [h1, row0]; simp)]
    decide
  · unfold compV
    split
    · omega
    · show cmpR [] [] ≤ 0
      decide
theorem area11 : areaV sD1.R 1 [0] [] [] = [(entT 1 [v11] [107], [107])] := by
  have he : entOf 1 [0] [] [] ([107], [v11]) = some (entT 1 [v11] [107], [107]) := by
    unfold entOf
    simp only [show11, lies11, ↓reduceIte]
  unfold areaV sD1
  simp only [List.filterMap_cons, List.filterMap_nil, he]
  exact List.mergeSort_singleton _
theorem doQ : doS sD1 opQ = (sD1, { rep0 with rows := [([107], [v11])] }) := by
  have hf : fieldsOf sD1.X opQ.id = some [0] := rfl
  have ha : areaV sD1.R opQ.id [0] opQ.low opQ.high = [(entT 1 [v11] [107], [107])] := area11
  unfold doS
  simp only [chkQ, ne_eq, not_true_eq_false, ↓reduceIte]
  rw [if_neg (show ¬ opQ.kind = 1 by decide), if_neg (show ¬ opQ.kind = 2 by decide), if_neg (show ¬ opQ.kind = 3 by decide), if_neg (show ¬ opQ.kind = 4 by decide), if_neg (show ¬ opQ.kind = 5 by decide), if_pos (show opQ.kind = 6 from rfl), hf]
  simp only [ha]
  rfl
theorem val11 : valOk v11 := ⟨by decide, by decide, by decide⟩
end Go.Proofs.YtonblppkidpmlaaGreatDoor.E
namespace Go.Proofs.YtonblppkidpmlaaGreatDoor.E
open Go Go.RowKit
set_option linter.unusedSimpArgs false
set_option linter.unusedVariables false

theorem vals_nil (w : World) : Vals w [.slice none 0 0] [] := ⟨none, 0, rfl, Nat.le_refl _, Nat.zero_le _, fun i x h => by simp at h⟩
theorem ints_nil (w : World) : Ints w [.slice none 0 0] [] := ⟨none, 0, rfl, Nat.le_refl _, Nat.zero_le _, fun i x h => by simp at h⟩
def sN : OpS := ⟨.slice none 0 0, .slice none 0 0, .slice none 0 0, .slice none 0 0, .slice none 0 0⟩
theorem rp0 : fofs Tryz.prog 37 0 = some (0, 1) := by kernel_rfl
theorem rp1 : fofs Tryz.prog 37 1 = some (1, 1) := by kernel_rfl
theorem rp2 : fofs Tryz.prog 37 2 = some (2, 1) := by kernel_rfl
theorem rp3 : fofs Tryz.prog 37 3 = some (3, 1) := by kernel_rfl
theorem rp4 : fofs Tryz.prog 37 4 = some (4, 1) := by kernel_rfl
theorem oneRows : oneB Tryz.prog 35 = true := by kernel_rfl
/-- What a reply's cells are. -/
theorem RepC.cells {hr : Nat} {c : Nat → Nat} {w : World} {r : Value} {p : RepT} (h : RepC hr c w r p) : ∃ vr vw M, r = .agg #[.int .i64 p.code, .bool p.there, vr, vw, .int .i64 p.id] ∧ VS hr c w vr p.rcd ∧ RowsC hr c w vw M ∧ M.map mkr = p.rows ∧ (#[Value.int .i64 p.code, .bool p.there, vr, vw, .int .i64 p.id] : Array Value).all (·.oneCell') = true := by
  obtain ⟨vr, vw, M, e, h1, h2, h3⟩ := h
  have o1 : vr.oneCell' = true := sliceOf h1.rd
  have o2 : vw.oneCell' = true := by obtain ⟨A, cc, rfl, _⟩ := h2.row.slice; rfl
  exact ⟨vr, vw, M, e, h1, h2, h3, allOne (l := [_, _, _, _, _]) (by simp only [List.all_cons, o1, o2]; rfl)⟩
theorem ints_own {w : World} {v : Value} {l : List Int} (h : Own 3 w v (iV l)) (hw : ∀ n ∈ l, (Lit.int .i64 n).wf = true) : Ints w [v] l := by
  have h1 := OwnR.of_own h
  have e : iV l = l.flatMap fun n => [Value.int .i64 n] := by
    clear h1 h hw
    induction l with
    | nil => rfl
    | cons a t ih => rw [List.flatMap_cons, ← ih]; rfl
  have hl : (iV l).length = l.length := List.length_map _
  rw [hl, e] at h1
  exact h1.rd (fun _ => rfl) fun n hn => ⟨rfl, hw n hn⟩
theorem okA : StOk 1 sA1 := by
  have := st0_ok.step opA (by simp [opA, val11])
  rw [doA] at this
  exact this
theorem okD : StOk 2 sD1 := by
  have := okA.step opD (by simp [opD])
  rw [doD] at this
  exact this
theorem undPS : Tryz.prog.underlying 33 = some (.pointer 82) := by kernel_rfl
set_option maxHeartbeats 2000000 in
theorem awake9 (w : World) (hm : GMx w) : CallP Tryz.prog 9 #[] (fun r w' => r = .bool true ∧ Below w.heap.size w w') w := by
  refine ⟨S9.calls _ _ ?_⟩
  unfold S9
  refine (New14 1 (by omega) (fun _ => 0) w).mono ?_
  rintro _ w1 ⟨g, c1, rfl, hc1, hS1, hb1⟩
  refine ofPR (pr_pnil undPS) ?_
  simp only [Option.isNone_some]
  (repeat with_reducible first|refine z_c ?_)
  refine bd (cells := (valF v11).toArray) (by kernel_rfl) ?_
  refine lift (v := .slice (some ⟨w1.heap.size, 0, none⟩) 1 1) (w' := w1.alloc (.cells (valF v11).toArray 67)) (by kernel_rfl) ?_
  have hbA := (Below.refl w1.heap.size w1).alloc (Nat.le_refl _) (.cells (valF v11).toArray 67)
  have hBv := Blk.new w1 67 (valF v11).toArray
  have hv : OwnV w1 (w1.alloc (.cells (valF v11).toArray 67)) (.slice (some ⟨w1.heap.size, 0, none⟩) 1 1) [v11] :=
    ⟨⟨rfl, .inr ⟨w1.heap.size, 1, _, rfl, Nat.zero_le _, hBv, Nat.le_refl _, by decide, rfl, rfl⟩⟩, Fresh.new (Nat.le_refl _) _ _, hbA⟩
  generalize w1.alloc (.cells (valF v11).toArray 67) = w2 at *
  have hvv := hv.vals (l := [v11]) (by simp [val11])
  refine bd (cells := opC opA ⟨.slice (some ⟨w1.heap.size, 0, none⟩) 1 1, .slice none 0 0, .slice none 0 0, .slice none 0 0, .slice none 0 0⟩) (by kernel_rfl) ?_
  have hb2 := below_then hb1 hbA
  refine (Do15 (hr := 3) (hS1.below hbA) st0_ok (by omega) (by omega) ⟨hvv, vals_nil _, ints_nil _, vals_nil _, vals_nil _, by decide, by decide⟩ (hm.below hb2)).mono ?_
  rintro _ w3 ⟨c3, hc3, hS3, hR3, hT3⟩
  rw [doA] at hS3 hR3
  obtain ⟨vr3, vw3, M3, rfl, hvr3, hvw3, hM3, hone3⟩ := hR3.cells
  have hb3 : Below w.heap.size w w3 := hb2.trans (hT3.below hb2.size fun k hk e => by
    have h1 : c1 k = 1 := e
    rw [hc1 k hk] at h1; omega)
  refine cpB zRep (by rw [szRep]; rfl) (by rfl) hone3 ?_
  intro gA w4 hgA hBA hb4
  have hb04 := below_then hb3 hb4
  -- declare
  refine lift (v := .slice (some ⟨w4.heap.size, 0, none⟩) 1 1) (w' := w4.alloc (.cells #[.int .i64 0] 3)) (by kernel_rfl) ?_
  have hbB := (Below.refl w4.heap.size w4).alloc (Nat.le_refl _) (.cells #[.int .i64 0] 3)
  have hoi := Own.new w4 3 [.int .i64 0] (by simp)
  generalize w4.alloc (.cells #[.int .i64 0] 3) = w5 at *
  have hfi := ints_own (l := [0]) hoi (by decide)
  refine bd (cells := opC opD ⟨.slice none 0 0, .slice none 0 0, .slice (some ⟨w4.heap.size, 0, none⟩) 1 1, .slice none 0 0, .slice none 0 0⟩) (by kernel_rfl) ?_
  have hb45 := below_then hb4 hbB
  have hb05 := below_then hb04 hbB
  refine (Do15 (hr := 4) ((hS3.re (col_lt c3 w3.heap.size 0)).below hb45) okA (by omega) (by omega) ⟨vals_nil _, vals_nil _, hfi, vals_nil _, vals_nil _, by decide, by decide⟩ (hm.below hb05)).mono ?_
  rintro _ w6 ⟨c6, hc6, hS6, hR6, hT6⟩
  rw [doD] at hS6 hR6
  have hs12 := hb1.size
  have hs2 := hb2.size
  have hs23 := hT3.size
  have hs34 := hb4.size
  have hs45 := hbB.size
  have col3 : ∀ k, k < w.heap.size → col c3 w3.heap.size 0 k = 0 := fun k hk => by rw [col_lt _ _ _ k (by omega), hc3 k (by omega), hc1 k hk]
  have gA0 : col c3 w3.heap.size 0 gA = 0 := col_ge _ _ _ (by omega)
  have hBA6 : Blk w6 gA 37 _ := (hBA.below' hbB).turns hT6 fun e => by
    have e : col c3 w3.heap.size 0 gA = 1 := e
    rw [gA0] at e; omega
  have hb06 : Below w.heap.size w w6 := hb05.trans (hT6.below hb05.size fun k hk e => by
    have e : col c3 w3.heap.size 0 k = 1 := e
    rw [col3 k hk] at e; omega)
  obtain ⟨vr6, vw6, M6, rfl, hvr6, hvw6, hM6, hone6⟩ := hR6.cells
  refine cpB zRep (by rw [szRep]; rfl) (by rfl) hone6 ?_
  intro gB w7 hgB hBB hb7
  have hb07 := below_then hb06 hb7
  -- query
  refine bd (cells := opC opQ sN) (by kernel_rfl) ?_
  refine (Do15 (hr := 5) ((hS6.re (col_lt c6 w6.heap.size 0)).below hb7) okD (by omega) (by omega) ⟨vals_nil _, vals_nil _, ints_nil _, vals_nil _, vals_nil _, by decide, by decide⟩ (hm.below hb07)).mono ?_
  rintro _ w8 ⟨c8, hc8, hS8, hR8, hT8⟩
  rw [doQ] at hS8 hR8
  have hs56 := hT6.size
  have hs67 := hb7.size
  have col6 : ∀ k, k < w5.heap.size → col c6 w6.heap.size 0 k = col c3 w3.heap.size 0 k := fun k hk => by rw [col_lt _ _ _ k (by omega), hc6 k hk]
  have hBA8 : Blk w8 gA 37 _ := (hBA6.below' hb7).turns hT8 fun e => by
    have e : col c6 w6.heap.size 0 gA = 1 := e
    rw [col6 gA (by have := hBA.lt; omega), gA0] at e; omega
  have hBB8 : Blk w8 gB 37 _ := hBB.turns hT8 fun e => by
    have e : col c6 w6.heap.size 0 gB = 1 := e
    rw [col_ge _ _ _ (by omega)] at e; omega
  have hb08 : Below w.heap.size w w8 := hb07.trans (hT8.below hb07.size fun k hk e => by
    have e : col c6 w6.heap.size 0 k = 1 := e
    rw [col6 k (by omega), col3 k hk] at e; omega)
  obtain ⟨vr8, vw8, M8, rfl, hvr8, hvw8, hM8, hone8⟩ := hR8.cells
  refine cpB zRep (by rw [szRep]; rfl) (by rfl) hone8 ?_
  intro gC w9 hgC hBC hb9
  have hBA9 := hBA8.below' hb9
  have hBB9 := hBB8.below' hb9
  have hrw := hvw8.below hb9
  have hM8l : M8.length = 1 := by
    have := congrArg List.length hM8
    simpa using this
  obtain ⟨A8, cc8, hv8, _⟩ := hrw.row.slice
  rw [hM8l] at hv8
  obtain ⟨gR, cR, he, hcell⟩ := rowAt mmF_len hrw.row 0 (by omega) (by decide)
  rw [hM8l, hv8] at he
  cases he
  have hk8 : (M8[0]'(by omega)).1 = [107] := by
    have h0 : (M8.map mkr)[0]? = some ([107], [v11]) := by rw [hM8]; rfl
    rw [List.getElem?_map, List.getElem?_eq_getElem (by omega)] at h0
    simp only [Option.map_some, Option.some.injEq] at h0
    exact congrArg Prod.fst h0
  have r1 : w9.cell? ⟨gA, 1, none⟩ = some (.bool false) := hBA9.cell 1
  have r2 : w9.cell? ⟨gB, 4, none⟩ = some (.int .i64 1) := hBB9.cell 4
  have r3 : w9.cell? ⟨gC, 3, none⟩ = some (.slice (some ⟨gR, 0, none⟩) 1 cc8) := by rw [← hv8]; exact hBC.cell 3
  have r4 : w9.cell? ⟨gR, 0 * 2 + 0, none⟩ = some (tS [107]) := by rw [← hk8]; exact hcell 0 _ rfl
  (repeat with_reducible first|refine fd rp1 (by decide) ?_|refine ld one4 r1 ?_|refine z_d ?_|refine z_F ?_)
  (repeat with_reducible first|refine fd rp4 (by decide) ?_|refine ld one3 r2 ?_|refine fd rp3 (by decide) ?_|refine ld oneRows r3 ?_|refine ln undRw ?_|refine z_d ?_|refine z_k ?_|refine z_q (by omega) ?_)
  refine ixG undRw szRw 0 (by omega) ?_
  (repeat with_reducible first|refine fdG w0 (by decide) ?_|refine z_d ?_)
  refine ld one9 r4 ?_
  (repeat with_reducible first|refine z_d ?_)
  refine tl_eql (t := [107]) (u := [107]) ?_
  (repeat with_reducible first|refine z_k ?_)
  exact ⟨by rw [decide_eq_true rfl], below_then hb08 hb9⟩
end Go.Proofs.YtonblppkidpmlaaGreatDoor.E
