import Derived.Test.YtonblppkidpmlaaGreatDoorMl
namespace Go.Proofs.YtonblppkidpmlaaGreatDoor.E
open Go Go.RowKit
set_option linter.unusedSimpArgs false
set_option linter.unusedVariables false

/-- What index tells of an id. -/
theorem ix_cases {X : List Xm} {S : StT} (hX : X.map (·.fs) = S.X) (hids : ∀ (i : Nat) (x : Xm), X[i]? = some x → x.id = (i : Int) + 1) (hone : ∀ x ∈ X, x.fv.oneCell' = true) (id : Int) : ∃ cells bk, ixOut X id = .tuple #[.agg cells, .bool bk] ∧ cells.size = 2 ∧ cells.all (·.oneCell') = true ∧
    (bk = false → fieldsOf S.X id = none) ∧ (bk = true → ∃ (i : Nat) (x : Xm), X[i]? = some x ∧ cells = (xmF x).toArray ∧ fieldsOf S.X id = some x.fs ∧ id = (i : Int) + 1 ∧ x.id = id) := by
  have hl := X_len hX
  have hno : ixOut X id = .tuple #[.agg #[.int .i64 0, .slice none 0 0], .bool false] → fieldsOf S.X id = none → ∃ cells bk, ixOut X id = .tuple #[.agg cells, .bool bk] ∧ cells.size = 2 ∧ cells.all (·.oneCell') = true ∧
    (bk = false → fieldsOf S.X id = none) ∧ (bk = true → ∃ (i : Nat) (x : Xm), X[i]? = some x ∧ cells = (xmF x).toArray ∧ fieldsOf S.X id = some x.fs ∧ id = (i : Int) + 1 ∧ x.id = id) :=
    fun h1 h2 => ⟨#[.int .i64 0, .slice none 0 0], false, h1, rfl, allOne (l := [.int .i64 0, .slice none 0 0]) rfl, fun _ => h2, fun h => by cases h⟩
  cases hx : X[(id - 1).toNat]? with
  | none =>
    refine hno (by unfold ixOut; rw [hx]) ?_
    have := List.getElem?_eq_none_iff.1 hx
    unfold fieldsOf
    rw [if_neg (by omega)]
  | some x =>
    have hlt := (List.getElem?_eq_some_iff.1 hx).1
    have hSx : S.X[(id - 1).toNat]? = some x.fs := by rw [← hX, List.getElem?_map, hx]; rfl
    by_cases h1 : 1 ≤ id
    · by_cases h0 : x.fs.length = 0
      · refine hno (by unfold ixOut; rw [hx]; simp only; rw [if_neg (fun e => e.2 h0)]) ?_
        unfold fieldsOf
        rw [if_pos ⟨h1, by omega⟩, hSx]
        simp only [if_pos h0]
      · have hid := hids _ _ hx
        refine ⟨(xmF x).toArray, true, ?_, rfl, allOne (by have := hone x (List.mem_of_getElem? hx); unfold xmF; rw [List.all_cons, List.all_cons, this]; rfl), (fun h => by cases h), fun _ => ⟨_, x, hx, rfl, ?_, by omega, by omega⟩⟩
        · unfold ixOut
          rw [hx]
          simp only
          rw [if_pos ⟨h1, h0⟩]
          rfl
        · unfold fieldsOf
          rw [if_pos ⟨h1, by omega⟩, hSx]
          simp only [if_neg h0]
    · refine hno (by unfold ixOut; rw [hx]; simp only; rw [if_neg (fun e => h1 e.1)]) ?_
      unfold fieldsOf
      rw [if_neg (fun e => h1 e.1)]
theorem firstE_all {l : List Int} (h : firstE l = 0) : ∀ e ∈ l, e = 0 := by
  induction l with
  | nil => simp
  | cons a t ih =>
    unfold firstE at h
    split at h
    · rename_i h0; exact absurd h h0
    · rename_i h0
      have h0 : a = 0 := Classical.not_not.1 h0
      intro e he
      rcases List.mem_cons.1 he with rfl | he
      · exact h0
      · exact ih h e he
theorem inE_0 {n a b : Int} (h : inE n a b = 0) : a ≤ n ∧ n ≤ b := by
  unfold inE at h
  split at h
  · assumption
  · omega
theorem mustE_0 {b : Bool} (h : mustE b = 0) : b = true := by
  cases b
  · cases h
  · rfl
theorem keyOk_0 {s : ByteArray} (h : keyOk s = true) : 1 ≤ s.data.toList.length ∧ s.data.toList.length ≤ 16 := by
  unfold keyOk at h
  rw [decide_eq_true_iff] at h
  exact h
theorem chk_1 {o : OpP} (h : chk o = 0) (k : o.kind = 1) : keyOk o.key = true ∧ recE o.rcd = 0 := by
  unfold chk at h
  rw [if_pos k] at h
  have := firstE_all h
  exact ⟨mustE_0 (this _ (by simp)), this _ (by simp)⟩
theorem chk_4 {o : OpP} (h : chk o = 0) (k : o.kind = 4) : keyOk o.key = true ∧ recE o.rcd = 0 ∧ oldE o.old = 0 := by
  unfold chk at h
  rw [if_neg (by omega), if_neg (by omega), if_pos k] at h
  have := firstE_all h
  exact ⟨mustE_0 (this _ (by simp)), this _ (by simp), this _ (by simp)⟩
theorem chk_5 {o : OpP} (h : chk o = 0) (k : o.kind = 5) : 1 ≤ o.limit ∧ o.limit ≤ 64 := by
  unfold chk at h
  rw [if_neg (by omega), if_neg (by omega), if_neg (by omega), if_pos k] at h
  have := firstE_all h
  exact inE_0 (this _ (by simp))
theorem chk_6 {o : OpP} (h : chk o = 0) (k : o.kind = 6) : (1 ≤ o.id ∧ o.id ≤ 6) ∧ rowE o.low = 0 ∧ rowE o.high = 0 ∧ 1 ≤ o.limit ∧ o.limit ≤ 64 := by
  unfold chk at h
  rw [if_neg (by omega), if_neg (by omega), if_neg (by omega), if_neg (by omega), if_pos k] at h
  have := firstE_all h
  exact ⟨inE_0 (this _ (by simp)), this _ (by simp), this _ (by simp), inE_0 (this _ (by simp))⟩
theorem chk_7 {o : OpP} (h : chk o = 0) (k : o.kind = 7) : ckX 1 o.fields = 0 := by
  unfold chk at h
  rwa [if_neg (by omega), if_neg (by omega), if_neg (by omega), if_neg (by omega), if_neg (by omega), if_pos k] at h
theorem chk_8 {o : OpP} (h : chk o = 0) (k : o.kind = 8) : 1 ≤ o.id ∧ o.id ≤ 6 := by
  unfold chk at h
  rw [if_neg (by omega), if_neg (by omega), if_neg (by omega), if_neg (by omega), if_neg (by omega), if_neg (by omega), if_pos k] at h
  exact inE_0 h
theorem fv_one {hu : Nat} {c : Nat → Nat} {w : World} {v : Value} {l : List Int} (h : FS hu c w v l) : v.oneCell' = true := by
  obtain ⟨A, cc, rfl, _⟩ := h.rd.slice; rfl
theorem scan_map {M : List Mm} {R : RowsT} (h : M.map mkr = R) (o : OpP) : (M.filter fun x => !outP o x).map mkr = scanV R o.key.data.toList o.to.data.toList := by
  subst h
  unfold scanV
  rw [List.filter_map]
  congr 1
  refine List.filter_congr fun m _ => ?_
  simp only [Function.comp, mkr, outP]
  by_cases h1 : m.1 < o.key.data.toList
  · simp [h1]
  · by_cases h2 : o.to.data.toList = []
    · simp [h1, h2]
    · simp only [h1, h2, false_or, ne_eq, not_false_eq_true, true_and, decide_not, Bool.not_not]
theorem StOk.recl {n : Nat} {S : StT} (h : StOk n S) : ∀ p ∈ S.R, p.2.length ≤ 1000 := fun p hp => by
  have := (recE_0 (h.recs p hp).1).2.1
  omega
theorem StOk.ent {n : Nat} {S : StT} (h : StOk n S) {M : List Mm} (hp : (M.map mkr).Perm S.R) : ∀ p ∈ M.map mkr, (1 ≤ p.1.length ∧ p.1.length ≤ 16) ∧ recE p.2 = 0 := fun p hp' => ⟨h.keys p (hp.mem_iff.1 hp'), (h.recs p (hp.mem_iff.1 hp')).1⟩
/-- An area of the same rows in another order. -/
theorem area_perm {L R : RowsT} (hp : L.Perm R) (hok : ∀ p ∈ R, ∀ x ∈ p.2, valOk x) (id : Int) (fs : List Int) (low high : List ValT) : areaV L id fs low high = areaV R id fs low high :=
  areaV_eq hok ((areaV_perm L id fs low high).trans (hp.filterMap _)) (areaV_sorted L id fs low high)
theorem area_key {R : RowsT} {id : Int} {fs : List Int} {low high : List ValT} {e : En} (he : e ∈ areaV R id fs low high) : ∃ p ∈ R, p.1 = e.2 := by
  have := (areaV_perm R id fs low high).mem_iff.1 he
  obtain ⟨p, hp, hpe⟩ := List.mem_filterMap.1 this
  obtain ⟨key, _, _, rfl⟩ := entOf_some hpe
  exact ⟨p, hp, rfl⟩
section
variable {P : Program} {S : World → Prop}
theorem ybd {K : Value → World → Prop} {w : World} {t : TypeId} {parts : Array (Nat × Value)} {cells : Array Value} (h : P.built t parts.toList = some cells) (k : K (.agg cells) w) : YieldP P S (Instr.build t parts) K w := yld (fun w' _ => run_build w' t parts cells h) k
/-- append(v, x) in a region that draws. -/
theorem apOneA {K : (World → Prop) → Value → World → Prop} {w : World} {t ty e : TypeId} {cs : Array Bool} {z : Value} {size bytes : Nat} (ht : P.underlying t = some (.slice e)) (hinfo : (P.info? e).map (fun i => (i.zero, i.size, i.bytes)) = some (some z, size, bytes)) (hz : z.cells.size = size) (hsz : 0 < size)
    {v : Value} {xs : List Value} {n : Nat} (hown : w.ownsRow 0 e size v n xs) {us : List Value} (hl : us.length = size) (h1 : ∀ u ∈ us, u.oneCell' = true) (h63 : n + 1 ≤ 9223372036854775807) (hbytes : (n + 1) * bytes ≤ 140737488355328)
    (hb : (Instr.buildSlice t 1 #[(0, .agg us.toArray)]).run P w = .ok (.slice (some ⟨w.heap.size, 0, none⟩) 1 1) (w.alloc (.cells us.toArray e)))
    (hS : ∀ w', Below w.heap.size w w' → S w')
    (k : ∀ v' w', w'.ownsRow 0 e size v' (n + 1) (xs ++ us) → (v'.ownBlock = v.ownBlock ∨ ∃ b, v'.ownBlock = some b ∧ w.heap.size ≤ b) → Turns (fun j => v.ownBlock = some j) w w' → ∃ S' : World → Prop, S' w' ∧ (∀ x, S' x → S x) ∧ K S' v' w') :
    ActP S (fun K w => LiftP P (Instr.buildSlice t 1 #[(0, .agg us.toArray)]) K w) (fun S u w => ActP S (fun K w => NextP P (builtin .append #[t, t] ty cs #[v, u]) K w) K w) w := by
  refine act (lift hb ?_)
  have hB := Blk.new w e us.toArray
  have ha := (Below.refl w.heap.size w).alloc (Nat.le_refl _) (.cells us.toArray e)
  have hs := ha.size
  refine ⟨S, hS _ ha, fun _ h => h, act ?_⟩
  refine apGb ht hinfo hz hsz (ownsRow_turns hown (Turns.of_below (F := fun _ => False) ha) (fun _ _ h => h)) (a := ⟨w.heap.size, 0, none⟩) (m := 1) (c := 1) (news := us) (by rw [hl, Nat.one_mul]) (fun j u hu => by
    rw [add0, Nat.zero_add, hB.cell j]
    simpa using hu) h1 h63 hbytes ?_
  intro v' w' ho hbl hT
  exact k v' w' ho (hbl.imp id fun h => ⟨_, h, hs⟩) ((Turns.of_below ha).trans (hT.mono fun j _ e => .inl e))
end
theorem own_ne_blk {s : Nat} {e t : TypeId} {w : World} {v : Value} {n g : Nat} {cs : List Value} {cur : Array Value} (h : w.ownsRow 0 e s v n cs) (hB : Blk w g t cur) (hne : e ≠ t) : v.ownBlock ≠ some g := by
  intro he
  rcases h.2 with ⟨rfl, _⟩ | ⟨g', cap', cur', rfl, _, hg', _⟩
  · cases he
  · have e2 : g' = g := by simpa [Value.ownBlock] using he
    rw [e2] at hg'
    unfold Blk at hB
    rw [hB] at hg'
    simp only [Option.some.injEq, Obj.cells.injEq] at hg'
    exact hne hg'.2.1.symm
theorem own_ne_map {s : Nat} {e : TypeId} {w : World} {v : Value} {n b : Nat} {cs : List Value} {l : List (Txt × Value)} (h : w.ownsRow 0 e s v n cs) (hM : T.MapI w b l) : v.ownBlock ≠ some b := by
  intro he
  obtain ⟨es, ck, h1, _⟩ := hM
  rcases h.2 with ⟨rfl, _⟩ | ⟨g', cap', cur', rfl, _, hg', _⟩
  · cases he
  · have e2 : g' = b := by simpa [Value.ownBlock] using he
    rw [e2, h1] at hg'
    cases hg'
theorem blk_ne_map {t : TypeId} {w : World} {g b : Nat} {cur : Array Value} {l : List (Txt × Value)} (hB : Blk w g t cur) (hM : T.MapI w b l) : g ≠ b := by
  intro he
  obtain ⟨es, ck, h1, _⟩ := hM
  unfold Blk at hB
  rw [he, h1] at hB
  cases hB
section
variable {hu : Nat} {c : Nat → Nat} {w w6 : World} {g b : Nat} {vX v6 : Value} {M : List Mm} {X : List Xm}
/-- An index more in the store's row, the row told to the store. -/
theorem PlAt.growX (h : PlAt hu c w g b vX M X) (x : Xm) (hx : FS 999 c w x.fv x.fs) (ho : w6.ownsRow 0 53 2 v6 (X.length + 1) (X.flatMap xmF ++ xmF x)) (hbl : v6.ownBlock = vX.ownBlock ∨ ∃ j, v6.ownBlock = some j ∧ w.heap.size ≤ j) (hT : Turns (fun j => vX.ownBlock = some j) w w6) :
    Blk w6 g 82 #[.map (some b), vX] ∧ PlAt hu (col c w.heap.size hu) (w6.setCell ⟨g, 1, none⟩ v6) g b v6 M (X ++ [x]) ∧ Turns (fun k => c k = hu) w (w6.setCell ⟨g, 1, none⟩ v6) := by
  have hpos := h.pos
  have hcc := col_lt c w.heap.size hu
  have hB6 : Blk w6 g 82 #[.map (some b), vX] := h.blk.turns hT fun e => own_ne_blk h.xs h.blk (by decide) e
  have hM6 : T.MapI w6 b (M.map mkv) := h.map.turns hT fun e => own_ne_map h.xs h.map e
  have hT7 := Turns.setCell (F := fun k => k = g) (p := ⟨g, 1, none⟩) (Turns.refl _ w6) (.inl rfl) v6
  have hG : ∀ k, vX.ownBlock = some k → c k ≠ 999 := fun k hk => by rw [h.cx k hk]; omega
  have hgc := hcc _ h.blk.lt
  have hgn : ∀ k, k = g → col c w.heap.size hu k ≠ 999 := fun k hk => by rw [hk, hgc, h.cg]; omega
  refine ⟨hB6, ⟨h.pos, hB6.set_ 1 v6, hM6.turns hT7 fun e => blk_ne_map hB6 hM6 e.symm, hgc.trans h.cg, (hcc _ h.map.lt).trans h.cb, fun m hm => ?_, ?_, ?_, fun y hy => ?_⟩, ?_⟩
  · have h1 := (h.ms m hm).turns hT hG
    exact (((h.ms m hm).re hcc).turns hT fun k hk => by rw [hcc k (ownsRow_lt h.xs hk)]; exact hG k hk).turns hT7 hgn
  · have e : (X ++ [x]).flatMap xmF = X.flatMap xmF ++ xmF x := by simp
    rw [e, List.length_append]
    exact ownsRow_turns ho hT7 fun k hk e => own_ne_blk ho hB6 (by decide) (by rw [hk, e])
  · intro k hk
    rcases hbl with hbl | ⟨j, hj, hjw⟩
    · rw [hbl] at hk
      rw [hcc k (ownsRow_lt h.xs hk)]
      exact h.cx k hk
    · rw [hj] at hk
      cases hk
      exact col_ge _ _ _ hjw
  · rcases List.mem_append.1 hy with hy | hy
    · exact (((h.xm y hy).re hcc).turns hT fun k hk => by rw [hcc k (ownsRow_lt h.xs hk)]; exact hG k hk).turns hT7 hgn
    · simp only [List.mem_cons, List.not_mem_nil, or_false] at hy
      subst hy
      exact ((hx.re hcc).turns hT fun k hk => by rw [hcc k (ownsRow_lt h.xs hk)]; exact hG k hk).turns hT7 hgn
  · exact (hT.mono fun k _ hk => h.cx k hk).trans (hT7.mono fun k _ e => .inl (by rw [e]; exact h.cg))
end
theorem ownsRow_set {s : Nat} {e : TypeId} {w : World} {g n c : Nat} {xs : List Value} (h : w.ownsRow 0 e s (.slice (some ⟨g, 0, none⟩) n c) n xs) (j : Nat) (u : Value) : (w.setCell ⟨g, j, none⟩ u).ownsRow 0 e s (.slice (some ⟨g, 0, none⟩) n c) n (xs.set j u) := by
  obtain ⟨hl, h⟩ := h
  refine ⟨by simpa using hl, ?_⟩
  rcases h with ⟨h, _⟩ | ⟨g', c', cur, he, hg, hb, h1, h2, h3, h4⟩
  · cases h
  · cases he
    refine .inr ⟨g, c, cur.setIfInBounds j u, rfl, hg, Blk.set_ hb j u, h1, h2, by simpa using h3, ?_⟩
    rw [Array.toList_setIfInBounds, List.take_set, h4]
theorem flat_setX (u : Value) : ∀ (X : List Xm) (i : Nat) (h : i < X.length), (X.flatMap xmF).set (i * 2 + 1) u = (X.set i ⟨X[i].id, u, []⟩).flatMap xmF
  | x :: r, 0, _ => rfl
  | x :: r, i + 1, h => by
    have ih := flat_setX u r i (by simpa using h)
    have e : (i + 1) * 2 + 1 = (i * 2 + 1) + 1 + 1 := by omega
    rw [e]
    show (Value.int .i64 x.id :: x.fv :: r.flatMap xmF).set (i * 2 + 1 + 1 + 1) u = _
    rw [List.set_cons_succ, List.set_cons_succ, ih]
    rfl
section
variable {hu : Nat} {c : Nat → Nat} {w : World} {g b : Nat} {vX : Value} {M : List Mm} {X : List Xm}
/-- An index dropped. -/
theorem PlAt.dropX (h : PlAt hu c w g b vX M X) (i : Nat) (hi : i < X.length) {gx n cX : Nat} (hv : vX = .slice (some ⟨gx, 0, none⟩) n cX) :
    PlAt hu c (w.setCell ⟨gx, i * 2 + 1, none⟩ (.slice none 0 0)) g b vX M (X.set i ⟨X[i].id, .slice none 0 0, []⟩) ∧ Turns (fun j => j = gx) w (w.setCell ⟨gx, i * 2 + 1, none⟩ (.slice none 0 0)) ∧ c gx = hu ∧
      w.frozen? ⟨gx, i * 2 + 1, none⟩ = false ∧ (w.cell? ⟨gx, i * 2 + 1, none⟩).isSome = true := by
  have hpos := h.pos
  subst hv
  have hn : n = X.length := by
    obtain ⟨A, cc, e, _⟩ := (OwnR.of_own h.xs).slice
    cases e; rfl
  subst hn
  have hT := Turns.setCell (F := fun k => k = gx) (p := ⟨gx, i * 2 + 1, none⟩) (Turns.refl _ w) (.inl rfl) (.slice none 0 0)
  have hcx : c gx = hu := h.cx gx rfl
  have hG : ∀ k, k = gx → c k ≠ 999 := fun k hk => by rw [hk, hcx]; omega
  obtain ⟨g', u, he, hu', hc, hf⟩ := (OwnR.of_own h.xs).at (i * 2 + 1) (by omega)
  cases he
  refine ⟨⟨h.pos, h.blk.turns hT fun e => own_ne_blk h.xs h.blk (by decide) (by rw [e]; rfl), h.map.turns hT fun e => own_ne_map h.xs h.map (by rw [e]; rfl), h.cg, h.cb, fun m hm => (h.ms m hm).turns hT hG, ?_, h.cx, fun y hy => ?_⟩, hT, hcx, hf, by rw [hc]; rfl⟩
  · have := ownsRow_set h.xs (i * 2 + 1) (.slice none 0 0)
    rw [flat_setX _ X i hi] at this
    rw [List.length_set]
    exact this
  · rcases List.mem_or_eq_of_mem_set hy with hy | hy
    · exact (h.xm y hy).turns hT hG
    · rw [hy]
      exact ⟨⟨none, 0, rfl, Nat.le_refl _, by decide, fun i u h => by simp at h⟩, .inl rfl⟩
end
section
variable {hu hr : Nat} {c : Nat → Nat} {w : World} {g : Nat} {S : StT} {n : Nat} {o : OpP} {s : OpS}
set_option maxHeartbeats 4000000 in
theorem other47 (hS : PlS hu c w g S) (hok : StOk n S) (hn : n ≤ 100000) (hne : hr ≠ hu ∧ hr ≠ 999) (ho : OpAt w o s) (hm : GMx w) (hck : chk o = 0) (hk : o.kind ≠ 1 ∧ o.kind ≠ 2 ∧ o.kind ≠ 3 ∧ o.kind ≠ 4) :
    CallP Tryz.prog 47 #[.pointer (some ⟨g, 0, none⟩), .agg (opC o s)] (fun r w' => DoPost hu hr c w g (doS S o) r w') w := by
  obtain ⟨b, vX, M, X, h, hp, hX, hids⟩ := hS
  have hXl := X_len hX
  have hML : M.length = S.R.length := by rw [← hp.length_eq, List.length_map]
  have hmany := hok.many
  refine ⟨S47.calls _ _ _ _ ?_⟩
  unfold S47
  refine bxB ?_
  intro g1 w1 hg1 hO hb1
  refine alB zRep ?_
  intro g4 w2 hg4 hRep hb2
  have hb12 := below_then hb1 hb2
  (repeat with_reducible first|refine fd of5 (by decide) ?_|refine ld one3 (opk5 hO _ hb2) ?_)
  refine (index57 (h.below hb12) (by have := hok.xmany; omega) o.id ⟨ho.wf.2.2.1, ho.wf.2.2.2.1⟩).mono ?_
  rintro _ w3 ⟨rfl, hb3⟩
  obtain ⟨cells, bk, hix, hcs, hc1, hbf, hbt⟩ := ix_cases hX hids (fun x hx => fv_one (h.xm x hx)) o.id
  rw [hix]
  (repeat with_reducible first|refine z_A ?_|refine z_B ?_)
  refine cpB zIx (cells := cells) (by rw [szIx, hcs]) (by rw [hcs]; rfl) hc1 ?_
  intro g5 w4 hg5 hI hb4
  have hb14 := below_then (below_then hb2 hb3) hb4
  have hb04 := below_then hb1 hb14
  have hO4 := hO.below' hb14
  have hRep4 := hRep.below' (below_then hb3 hb4)
  have h4 := h.below hb04
  have ho4 := ho.below hb04
  have hm4 := hm.below hb04
  have hr4 := Below.refl w4.heap.size w4
  have hdS : ∀ {q : StT × RepT}, doS S o = q → DoPost hu hr c w g (doS S o) = DoPost hu hr c w g q := fun e => by rw [e]
  have hw4 : w.heap.size ≤ w4.heap.size := hb04.size
  have hg4w : w.heap.size ≤ g4 := by rw [hg4]; exact hb1.size
  have hg4l := hRep4.lt
  obtain ⟨c0, hc0⟩ : ∃ c0, c0 = col (col c w.heap.size (hu + hr + 1000)) w4.heap.size hr := ⟨_, rfl⟩
  have c0w : ∀ k, k < w.heap.size → c0 k = c k := fun k hk => by rw [hc0, col_lt _ _ _ k (by omega), col_lt _ _ _ k hk]
  have c0g : c0 g4 = hu + hr + 1000 := by rw [hc0, col_lt _ _ _ _ hg4l, col_ge _ _ _ hg4w]
  have hh4 : PlS hu c0 w4 g S := ⟨b, vX, M, X, (h.re c0w).below hb04, hp, hX, hids⟩
  have turn : ∀ (w5 w' : World), Below w4.heap.size w4 w5 → Turns (fun j => j = g4) w5 w' → Turns (fun k => c k = hu) w w' := fun w5 w' hb5 hT => Turns.of_below (below_own (below_then hb04 hb5) hT hg4w)
  -- a reply that tells no memory and leaves the store as it was
  have plain : ∀ (q : RepT) (w5 w' : World), Below w4.heap.size w4 w5 → Turns (fun j => j = g4) w5 w' → q.rcd = [] → q.rows = [] → doS S o = (S, q) →
      DoPost hu hr c w g (doS S o) (.agg #[.int .i64 q.code, .bool q.there, .slice none 0 0, .slice none 0 0, .int .i64 q.id]) w' := fun q w5 w' hb5 hT h1 h2 hd => by
    rw [hd]
    refine ⟨c0, c0w, (hh4.below hb5).turns hT (fun k hk => ?_), ⟨_, _, [], rfl, by rw [h1]; exact VS.nil _ _ _, RowsC.nil, by rw [h2]; rfl⟩, turn _ _ hb5 hT⟩
    rw [hk, c0g]; omega
  have rows : ∀ (q : RepT) (w5 w' : World) (v : Value) (M' : List Mm), RwG w4 w5 v M' → Turns (fun j => j = g4) w5 w' → q.rcd = [] → M'.map mkr = q.rows → doS S o = (S, q) →
      DoPost hu hr c w g (doS S o) (.agg #[.int .i64 q.code, .bool q.there, .slice none 0 0, v, .int .i64 q.id]) w' := fun q w5 w' v M' hR hT h1 h2 hd => by
    rw [hd]
    refine ⟨c0, c0w, (hh4.below hR.bel).turns hT (fun k hk => ?_), ⟨_, _, M', rfl, by rw [h1]; exact VS.nil _ _ _, ?_, h2⟩, turn _ _ hR.bel hT⟩
    · rw [hk, c0g]; omega
    · have := hR.rc (col c w.heap.size (hu + hr + 1000)) hr
      rw [← hc0] at this
      exact this.turns hT fun k hk => by rw [hk, c0g]; omega
  have one2 : ∀ {a d : Int} {t : Bool} {v v' : Value}, v.oneCell' = true → v'.oneCell' = true → (#[Value.int .i64 a, .bool t, v, v', .int .i64 d] : Array Value).all (·.oneCell') = true := fun h1 h2 => allOne (l := [_, _, _, _, _]) (by simp only [List.all_cons, h1, h2]; rfl)
  have dS5 : o.kind = 5 → doS S o = (S, { rep0 with rows := (scanV S.R o.key.data.toList o.to.data.toList).take o.limit.toNat }) := fun e => by
    unfold doS
    simp only [hck, ne_eq, not_true_eq_false, ↓reduceIte, e]
    rfl
  refine JoinP.cut (fun vs w' => vs = [] ∧ (doS S o).2 = rep0 ∧ Blk w' g4 37 #[.int .i64 0, .bool false, .slice none 0 0, .slice none 0 0, .int .i64 0] ∧ ∃ c', (∀ k, k < w.heap.size → c' k = c k) ∧ (c' g4 ≠ hu ∧ c' g4 ≠ 999) ∧ PlS hu c' w' g (doS S o).1 ∧ Turns (fun k => c k = hu) w w') ?_ ?_
  · intro J hJ
    (repeat with_reducible first|refine fd of0 (by decide) ?_|refine ld one3 (opk0 hO4 _ hr4) ?_)
    refine bi_eql_c (fun k5 => ?_) (fun k5 => ?_)
    · -- a scan
      (repeat with_reducible first|refine z_b ?_)
      refine (Rows20 h4 hp hok.rising (by omega) hok.recl).mono ?_
      rintro v5 w5 ⟨M', hM', hw5⟩
      refine mkf ?_
      have hO5 := hO4.below' hw5.row.bel
      have hg1l := hO4.lt
      refine (delete69 v5 M' 70 #[.pointer (some ⟨g1, 0, none⟩)] (outP o) (by kernel_rfl) w5 w4 (out_pred o s g1 v5 w5 hO5 (fun e => by have := hw5.row.fresh g1 e; omega)) hw5.g).mono ?_
      intro v6 w6 hw6
      obtain ⟨A, cc, rfl, hcc, _⟩ := hw6.row.slice
      have hO6 := hO4.below' hw6.bel
      skip
      refine ln undRw ?_
      (repeat with_reducible first|refine fd of9 (by decide) ?_|refine ld one3 (opk9 hO6 _ (Below.refl _ _)) ?_)
      refine mnI ?_
      have hlim := (chk_5 hck k5).1
      have emin : min (((M'.filter fun x => !outP o x).length : Nat) : Int) o.limit = ((min (M'.filter fun x => !outP o x).length o.limit.toNat : Nat) : Int) := by omega
      rw [emin]
      refine ofPR (pr_cut undRw szRw .no (.at _ _) .no (Nat.zero_le _) (fun h => by cases h) (by omega) (Nat.le_refl _) (.inl rfl)) ?_
      have hcut := hw6.cut rfl (min (M'.filter fun x => !outP o x).length o.limit.toNat) (Nat.min_le_left _ _)
      refine repL (cells := #[.int .i64 0, .bool false, .slice none 0 0, sliced A 0 (min (M'.filter fun x => !outP o x).length o.limit.toNat) cc 2, .int .i64 0]) (by kernel_rfl) rfl (one2 rfl rfl) (hRep4.below' hw6.bel) rfl ?_
      intro w7 hT
      have hd := dS5 k5
      have := rows _ w6 w7 _ _ hcut hT rfl ?_ hd
      · exact this
      · rw [List.map_take, scan_map hM']
        show _ = List.take o.limit.toNat _
        have hl : (M'.filter fun x => !outP o x).length = (scanV S.R o.key.data.toList o.to.data.toList).length := by rw [← scan_map hM', List.length_map]
        rw [hl, Nat.min_comm, ← List.take_eq_take_min]
    (repeat with_reducible first|refine z_c ?_)
    refine bi_eql_c (fun k6 => ?_) (fun k6 => ?_)
    · -- a query
      cases bk with
      | false =>
        have hfo := hbf rfl
        (repeat with_reducible first|refine z_b ?_|refine z_F ?_)
        refine repL (cells := #[.int .i64 7, .bool false, .slice none 0 0, .slice none 0 0, .int .i64 0]) (by kernel_rfl) rfl (one2 rfl rfl) hRep4 rfl ?_
        intro w5 hT
        refine plain { rep0 with code := 7 } w4 w5 hr4 hT rfl rfl ?_
        unfold doS
        simp only [hck, ne_eq, not_true_eq_false, ↓reduceIte, k6, hfo]
        rfl
      | true =>
      obtain ⟨i, x, hx, rfl, hfo, hid, hxid⟩ := hbt rfl
      have hxm := h4.xm x (List.mem_of_getElem? hx)
      (repeat with_reducible first|refine z_b ?_|refine z_c ?_|refine z_E ?_)
      refine ldA aggIx hI (by exact szIx) ?_
      (repeat with_reducible first|refine fd of7 (by decide) ?_|refine ld oneVs (opk7 hO4 _ hr4) ?_|refine fd of8 (by decide) ?_|refine ld oneVs (opk8 hO4 _ hr4) ?_)
      refine (keys71 h4 (hok.ent hp) (by omega) x.id x.fv _ _ x.fs o.low o.high hxm.rd ho4.low ho4.high hm4).mono ?_
      intro v5 w5 hks
      rw [area_perm hp (fun p hp' => (hok.recs p hp').2), hxid] at hks
      have hlim := (chk_6 hck k6).2.2.2.1
      have hd : doS S o = (S, { rep0 with rows := ((areaV S.R o.id x.fs o.low o.high).take o.limit.toNat).map fun e => rowOf S.R e.2 }) := by
        unfold doS
        simp only [hck, ne_eq, not_true_eq_false, ↓reduceIte, k6, hfo]
        rfl
      have hal : (areaV S.R o.id x.fs o.low o.high).length ≤ 100000 := by
        rw [(areaV_perm _ _ _ _ _).length_eq]
        have := List.length_filterMap_le (entOf o.id x.fs o.low o.high) S.R
        omega
      have hkey : ∀ e ∈ areaV S.R o.id x.fs o.low o.high, ∃ p ∈ S.R, p.1 = e.2 := fun e he => area_key he
      generalize areaV S.R o.id x.fs o.low o.high = L at *
      obtain ⟨A, cc, rfl⟩ := hks.own.slice
      have hlen : ((L.map (·.2)).map tS).length = L.length := by simp
      rw [hlen] at hks ⊢
      refine ln undTx ?_
      refine LoopP.inv2 (fun rv iv w' => ∃ (i : Nat) (M' : List Mm), i ≤ L.length ∧ iv = .int .i64 i ∧ M'.map mkr = ((L.take i).take o.limit.toNat).map (fun e => rowOf S.R e.2) ∧ OwnRw w5 w' rv M') (fun _ iv _ => L.length - (intOf iv).toNat) ⟨0, [], by omega, rfl, by simp, OwnRw.nil (Below.refl _ _)⟩ ?_
      rintro rv _ w6 ⟨i, M', hi, rfl, hM', ho6⟩ J' hJ'
      dsimp only [List.headD_cons, List.tail_cons]
      have hM'l : M'.length = min o.limit.toNat i := by
        have := congrArg List.length hM'
        rw [List.length_map, List.length_map, List.length_take, List.length_take] at this
        omega
      have hb6 := below_then hks.bel ho6.row.bel
      have hO6 := hO4.below' hb6
      refine bi_lss_c (fun h1 => ?_) (fun h1 => ?_)
      · have hi' : i < L.length := by omega
        obtain ⟨a, rfl, hca⟩ := Rd.at (hks.own.rd.below ho6.row.bel) i (by rw [hlen]; exact hi')
        have e9 : ((L.map (·.2)).map tS)[i]'(by rw [hlen]; exact hi') = tS L[i].2 := by simp
        rw [e9] at hca
        obtain ⟨Ar, cr, rfl, _⟩ := ho6.row.slice
        (repeat with_reducible first|refine z_b ?_)
        refine JoinP.plain ?_
        refine ix1 undTx sz9 hi' ?_
        refine ld one9 hca ?_
        refine ln undRw ?_
        (repeat with_reducible first|refine fd of9 (by decide) ?_|refine ld one3 (opk9 hO6 _ (Below.refl _ _)) ?_)
        refine bi_lss_c (fun h2 => ?_) (fun h2 => ?_)
        · have h6 := h4.below hb6
          have q6 : w6.cell? ⟨g, 0, none⟩ = some (.map (some b)) := h6.blk.cell 0
          obtain ⟨p, hpR, hpk⟩ := hkey _ (List.getElem_mem hi')
          have hgR : T.getK L[i].2 S.R = some p.2 := T.getK_of_mem (rising_nodup hok.rising) (by rw [← hpk]; exact hpR)
          have hnodM : ((M.map mkr).map (·.1)).Nodup := (hp.map _).nodup_iff.2 (rising_nodup hok.rising)
          have hgM := perm_get hp hnodM L[i].2
          rw [hgR, getK_mkr] at hgM
          obtain ⟨⟨vr, rr⟩, hgM, he⟩ := Option.map_eq_some_iff.1 hgM
          simp only at he
          subst he
          have hVS : VS 999 c w6 vr p.2 := h6.ms _ (getT_mem hgM)
          (repeat with_reducible first|refine fd p0 (by decide) ?_|refine ld oneMp q6 ?_|refine z_a ?_|refine z_b ?_)
          refine T.lkq undMp und9 zRec h6.map ?_
          have e10 : (T.getK L[i].2 (M.map mkv)).getD (.slice none 0 0) = vr := by rw [getK_mkv, hgM]; rfl
          rw [e10]
          refine (Clone45 vr _ w6 hVS.rd (by have := hok.recl p hpR; omega)).mono ?_
          intro vc w7 ho7
          refine (ho6.kept ho7.bel).push (by omega) L[i].2 vc p.2 (ho7.old ho6.row.bel) (vals_ok hVS.rd) ?_
          intro v8 w8 ho8
          (repeat with_reducible first|refine z_o (by omega) ?_)
          refine hJ' _ _ _ ⟨i + 1, _, by omega, by simp, ?_, ho8⟩ (by simp [intOf]; omega)
          rw [List.map_append, hM', List.take_take, List.take_take, Nat.min_eq_right (by omega), Nat.min_eq_right (by omega), List.take_succ_eq_append_getElem hi', List.map_append]
          congr 1
          simp only [List.map_cons, List.map_nil, mkr, rowOf, hgR, Option.getD_some]
        · (repeat with_reducible first|refine z_c ?_|refine z_o (by omega) ?_)
          refine hJ' _ _ _ ⟨i + 1, M', by omega, by simp, ?_, ho6⟩ (by simp [intOf]; omega)
          rw [hM', List.take_take, List.take_take, Nat.min_eq_left (by omega), Nat.min_eq_left (by omega)]
      · have : i = L.length := by omega
        subst this
        rw [List.take_length] at hM'
        obtain ⟨Ar, cr, rfl, _⟩ := ho6.row.slice
        (repeat with_reducible first|refine z_c ?_)
        refine repL (cells := #[.int .i64 0, .bool false, .slice none 0 0, .slice Ar M'.length cr, .int .i64 0]) (by kernel_rfl) rfl (one2 rfl rfl) (hRep4.below' hb6) rfl ?_
        intro w7 hT
        exact rows _ w6 w7 _ M' (ho6.g.old hks.bel) hT rfl hM' hd
    (repeat with_reducible first|refine z_c ?_)
    refine bi_eql_c (fun k7 => ?_) (fun k7 => ?_)
    · -- an index made
      obtain ⟨AX, cX, hvX, _⟩ := (OwnR.of_own h4.xs).slice
      have r1 : w4.cell? ⟨g, 1, none⟩ = some (.slice AX X.length cX) := by rw [← hvX]; exact h4.blk.cell 1
      have hx6 := hok.xmany
      (repeat with_reducible first|refine fd p1 (by decide) ?_|refine ld oneXs r1 ?_|refine ln undSt ?_|refine z_a ?_|refine z_b ?_)
      refine bi_eql_c (fun h6 => ?_) (fun h6 => ?_)
      · (repeat with_reducible first|refine z_b ?_)
        refine repL (cells := #[.int .i64 17, .bool false, .slice none 0 0, .slice none 0 0, .int .i64 0]) (by kernel_rfl) rfl (one2 rfl rfl) hRep4 rfl ?_
        intro w5 hT
        refine plain { rep0 with code := 17 } w4 w5 hr4 hT rfl rfl ?_
        have e6 : S.X.length = 6 := by omega
        unfold doS
        simp only [hck, ne_eq, not_true_eq_false, ↓reduceIte, k7, e6]
        rfl
      have hfl := ckX_0 (chk_7 hck k7)
      have hd : doS S o = (⟨S.R, S.X ++ [o.fields]⟩, { rep0 with id := S.X.length + 1 }) := by
        unfold doS
        have e6 : ¬ S.X.length = 6 := by omega
        simp only [hck, ne_eq, not_true_eq_false, ↓reduceIte, k7, e6]
        rfl
      (repeat with_reducible first|refine z_c ?_)
      have hdr : Below w4.heap.size w4 w4.drew := (Below.refl _ _).drew
      obtain ⟨Af, cf, hfv, _⟩ := (ints_rd ho4.fields).1.slice
      obtain ⟨S0, hS0⟩ : ∃ S0 : World → Prop, S0 = fun w' => w'.cell? ⟨g, 1, none⟩ = some (.slice AX X.length cX) ∧ Blk w' g1 26 (opC o s) := ⟨_, rfl⟩
      have yS : ∀ w', Below w4.heap.size w4 w' → S0 w' := fun w' hb => by rw [hS0]; exact ⟨by rw [hb.cell h4.blk.lt]; exact r1, hO4.below' hb⟩
      have yr1 : ∀ w', S0 w' → w'.cell? ⟨g, 1, none⟩ = some (.slice AX X.length cX) := fun w' hb => by rw [hS0] at hb; exact hb.1
      have yr6 : ∀ w', S0 w' → w'.cell? ⟨g1, 6, none⟩ = some s.fields := fun w' hb => by rw [hS0] at hb; exact hb.2.cell 6
      refine draw S0 (yS _ hdr) ?_
      generalize w4.drew = wd at *
      (repeat with_reducible first|refine yfd p1 (by decide) ?_|refine yl1 oneXs yr1 ?_|refine yln undSt ?_|refine yfd of6 (by decide) ?_|refine yl1 oneIs yr6 ?_|refine z_W ?_|refine z_Z (by omega) ?_)
      refine act ?_
      refine (Clone28 s.fields o.fields (by omega) wd ((ints_rd ho4.fields).1.below hdr)).mono ?_
      rintro vc w5 ⟨hoc, hfc, h5⟩
      have hb5 := below_then hdr h5
      have hb05 := below_then hb04 hb5
      have hs5 := hb5.size
      have hsd := hdr.size
      refine ⟨_, yS _ hb5, fun _ h => h, ?_⟩
      -- colours: the clone 999
      obtain ⟨c5, hc5⟩ : ∃ c5, c5 = col (col c w.heap.size (hu + hr + 1000)) w4.heap.size 999 := ⟨_, rfl⟩
      have c5w : ∀ k, k < w.heap.size → c5 k = c k := fun k hk => by rw [hc5, col_lt _ _ _ k (by omega), col_lt _ _ _ k hk]
      have c5g : c5 g4 = hu + hr + 1000 := by rw [hc5, col_lt _ _ _ _ hg4l, col_ge _ _ _ hg4w]
      have h5p : PlAt hu c5 w5 g b vX M X := (h.re c5w).below hb05
      have hFS : FS 999 c5 w5 vc o.fields := ⟨hoc.rd, .inr fun k hk => by rw [hc5]; exact col_ge _ _ _ (Nat.le_trans hsd (hfc k hk))⟩
      obtain ⟨Ac, cc, rfl⟩ := hoc.slice
      refine ybd (cells := (xmF ⟨(X.length : Int) + 1, .slice Ac (iV o.fields).length cc, o.fields⟩).toArray) (by kernel_rfl) ?_
      rw [← hvX]
      refine apOneA (us := xmF ⟨(X.length : Int) + 1, .slice Ac (iV o.fields).length cc, o.fields⟩) undSt infIx (by rfl) (by decide) h5p.xs rfl (fun u hu => by
        simp only [xmF, List.mem_cons, List.not_mem_nil, or_false] at hu
        rcases hu with rfl | rfl <;> rfl) (by omega) (by omega) (by kernel_rfl) (fun w' hb => yS _ (below_then hb5 hb)) ?_
      intro v6 w6 ho6 hbl6 hT6
      obtain ⟨hB6, hP7, hT7⟩ := h5p.growX ⟨(X.length : Int) + 1, .slice Ac (iV o.fields).length cc, o.fields⟩ hFS ho6 hbl6 hT6
      have hvw : ∀ k, vX.ownBlock = some k → k < w.heap.size := fun k hk => ownsRow_lt h.xs hk
      have hO6 : Blk w6 g1 26 (opC o s) := (hO4.below' hb5).turns hT6 fun e => by have := hvw _ e; omega
      refine ⟨S0, by rw [hS0]; exact ⟨by rw [← hvX]; exact hB6.cell 1, hO6⟩, fun _ h => h, ?_⟩
      (repeat with_reducible first|refine yfd p1 (by decide) ?_|refine z_W ?_)
      have hv6 : v6.oneCell' = true := by
        obtain ⟨A6, c6, rfl, _⟩ := (OwnR.of_own ho6).slice
        rfl
      refine st szXs hv6 (by rw [hB6.cell 1]; rfl) (hB6.frozen 1) ?_
      generalize w6.setCell ⟨g, 1, none⟩ v6 = w7 at *
      obtain ⟨A6, c6, hv6e, _⟩ := (OwnR.of_own hP7.xs).slice
      have r7 : w7.cell? ⟨g, 1, none⟩ = some (.slice A6 (X ++ [(⟨(X.length : Int) + 1, .slice Ac (iV o.fields).length cc, o.fields⟩ : Xm)]).length c6) := by rw [← hv6e]; exact hP7.blk.cell 1
      (repeat with_reducible first|refine fd p1 (by decide) ?_|refine ld oneXs r7 ?_|refine ln undSt ?_|refine z_a ?_)
      have hRep5 := hRep4.below' hb5
      have hRep7 : Blk w7 g4 37 #[.int .i64 0, .bool false, .slice none 0 0, .slice none 0 0, .int .i64 0] := hRep5.turns hT7 fun e => by rw [c5g] at e; omega
      refine repL (cells := #[.int .i64 0, .bool false, .slice none 0 0, .slice none 0 0, .int .i64 ((X ++ [(⟨(X.length : Int) + 1, .slice Ac (iV o.fields).length cc, o.fields⟩ : Xm)]).length : Nat)]) (by kernel_rfl) rfl (one2 rfl rfl) hRep7 rfl ?_
      intro w8 hT8
      rw [hd]
      have cf : ∀ k, k < w.heap.size → col c5 w5.heap.size hu k = c k := fun k hk => by rw [col_lt _ _ _ k (by omega), c5w k hk]
      have cfg : col c5 w5.heap.size hu g4 = hu + hr + 1000 := by rw [col_lt _ _ _ _ hRep5.lt, c5g]
      refine ⟨col c5 w5.heap.size hu, cf, ⟨b, v6, M, _, hP7.turns hT8 (fun k hk => by rw [hk, cfg]; omega), hp, ?_, ?_⟩, ⟨_, _, [], ?_, VS.nil _ _ _, RowsC.nil, rfl⟩, ?_⟩
      · rw [List.map_append, hX]; rfl
      · intro i x hx
        rcases Nat.lt_or_ge i X.length with hi | hi
        · rw [List.getElem?_append_left hi] at hx
          exact hids i x hx
        · rw [List.getElem?_append_right hi] at hx
          have h0 : i - X.length = 0 := by
            have := (List.getElem?_eq_some_iff.1 hx).1
            simp at this; omega
          rw [h0] at hx
          cases hx
          show (X.length : Int) + 1 = i + 1
          omega
      · rw [List.length_append, hXl]
        rfl
      · have t5 : Turns (fun k => c k = hu) w w5 := Turns.of_below hb05
        have t7 : Turns (fun k => c k = hu) w w7 := t5.trans (hT7.mono fun k hk e => by
          by_cases hkw : k < w.heap.size
          · exact .inl ((c5w k hkw).symm.trans e)
          · exact .inr (by omega))
        exact t7.trans (hT8.mono fun k _ e => .inr (by rw [e]; exact hg4w))
    (repeat with_reducible first|refine z_c ?_)
    refine bi_eql_c (fun k8 => ?_) (fun k8 => ?_)
    · -- an index dropped
      cases bk with
      | false =>
        have hfo := hbf rfl
        (repeat with_reducible first|refine z_b ?_|refine z_F ?_)
        refine repL (cells := #[.int .i64 7, .bool false, .slice none 0 0, .slice none 0 0, .int .i64 0]) (by kernel_rfl) rfl (one2 rfl rfl) hRep4 rfl ?_
        intro w5 hT
        refine plain { rep0 with code := 7 } w4 w5 hr4 hT rfl rfl ?_
        unfold doS
        simp only [hck, ne_eq, not_true_eq_false, ↓reduceIte, k8, hfo]
        rfl
      | true =>
      obtain ⟨i, x, hx, rfl, hfo, hid, hxid⟩ := hbt rfl
      have hi : i < X.length := (List.getElem?_eq_some_iff.1 hx).1
      have hx6 := hok.xmany
      obtain ⟨gx, cX, hvX, hcell⟩ := rowAt xmF_len (OwnR.of_own h4.xs) i hi (by decide)
      have hdr : Below w4.heap.size w4 w4.drew := (Below.refl _ _).drew
      have yr1 : ∀ w', Below w4.heap.size w4 w' → w'.cell? ⟨g, 1, none⟩ = some (.slice (some ⟨gx, 0, none⟩) X.length cX) := fun w' hb => by rw [← hvX]; exact (h4.blk.below' hb).cell 1
      (repeat with_reducible first|refine z_b ?_|refine z_c ?_|refine z_E ?_)
      refine draw (Below w4.heap.size w4) hdr ?_
      (repeat with_reducible first|refine yfd p1 (by decide) ?_|refine yl1 oneXs yr1 ?_|refine yfd of5 (by decide) ?_|refine yl1 one3 (opk5 hO4) ?_|refine z_W ?_|refine z_a1 (by omega) ?_)
      have e1 : o.id - 1 = (i : Int) := by omega
      rw [e1]
      refine yixG undSt szIx i hi ?_
      (repeat with_reducible first|refine yfdG x1 (by decide) ?_)
      have hhd : PlAt hu c0 w4.drew g b vX M X := ((h.re c0w).below hb04).below hdr
      obtain ⟨hP, hT5, hgx, hfz, hcs⟩ := hhd.dropX i hi hvX
      refine st szIs rfl hcs hfz ?_
      have hd : doS S o = (⟨S.R, S.X.set (o.id - 1).toNat []⟩, rep0) := by
        unfold doS
        simp only [hck, ne_eq, not_true_eq_false, ↓reduceIte, k8, hfo]
        rfl
      have ei : (o.id - 1).toNat = i := by omega
      have hgxw : gx < w.heap.size := ownsRow_lt h.xs (k := gx) (by rw [hvX]; rfl)
      refine hJ _ _ ⟨rfl, by rw [hd], (hRep4.below' hdr).turns hT5 fun e => by rw [← e, c0g] at hgx; omega, c0, c0w, by rw [c0g]; omega, ?_, ?_⟩
      · rw [hd, ei]
        refine ⟨b, vX, M, _, hP, hp, ?_, ?_⟩
        · rw [List.map_set, hX]
        · intro j y hy
          rcases Nat.decEq i j with hij | hij
          · rw [List.getElem?_set_ne hij] at hy
            exact hids j y hy
          · subst hij
            rw [List.getElem?_set_self hi] at hy
            cases hy
            exact hids i X[i] (List.getElem?_eq_getElem hi)
      · exact (Turns.of_below (below_then hb04 hdr)).trans (hT5.mono fun k _ e => .inl (by rw [e]; exact (c0w gx hgxw).symm.trans hgx))
    · (repeat with_reducible first|refine z_c ?_)
      have hd : doS S o = (S, rep0) := by
        unfold doS
        simp only [hck, ne_eq, not_true_eq_false, ↓reduceIte, k5, k6, k7, k8, hk.1, hk.2.1, hk.2.2.1, hk.2.2.2]
      refine hJ _ _ ⟨rfl, by rw [hd], hRep4, c0, c0w, by rw [c0g]; omega, by rw [hd]; exact hh4, Turns.of_below hb04⟩
  · rintro _ w5 ⟨rfl, hrep, hB5, c', hc', hcg, hP, hT5⟩
    refine repL (cells := #[.int .i64 0, .bool false, .slice none 0 0, .slice none 0 0, .int .i64 0]) (by kernel_rfl) rfl (one2 rfl rfl) hB5 rfl ?_
    intro w6 hT6
    refine ⟨c', hc', hP.turns hT6 (fun k hk => by rw [hk]; exact hcg), ?_, ?_⟩
    · rw [hrep]
      exact ⟨_, _, [], rfl, VS.nil _ _ _, RowsC.nil, rfl⟩
    · exact hT5.trans (hT6.mono fun k _ e => .inr (by rw [e]; exact hg4w))
end
end Go.Proofs.YtonblppkidpmlaaGreatDoor.E
