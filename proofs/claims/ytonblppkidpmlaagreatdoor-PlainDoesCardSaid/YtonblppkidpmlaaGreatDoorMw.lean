import Derived.Test.YtonblppkidpmlaaGreatDoorMu
import Derived.Test.YtonblppkidpmlaaGreatDoorMv
namespace Go.Proofs.YtonblppkidpmlaaGreatDoor.E
open Go Go.RowKit
set_option linter.unusedSimpArgs false
set_option linter.unusedVariables false

/-- The indexes are others now: their row turned, or new. -/
theorem RfAt.setX {ht : Nat} {c : Nat → Nat} {w w6 : World} {g : Nat} {vR vX v6 : Value} {M : List Mm} {F F' : List Fm} (h : RfAt ht c w g vR vX M F) (hT : Turns (fun j => vX.ownBlock = some j) w w6) (ho : w6.ownsRow 0 24 1 v6 F'.length (F'.map (·.1)))
    (hbl : v6.ownBlock = vX.ownBlock ∨ ∃ j, v6.ownBlock = some j ∧ w.heap.size ≤ j) (hxm : ∀ f ∈ F', FS 999 (col c w.heap.size ht) w6 f.1 f.2) :
    Blk w6 g 63 #[vR, vX] ∧ RfAt ht (col c w.heap.size ht) (w6.setCell ⟨g, 1, none⟩ v6) g vR v6 M F' ∧ Turns (fun k => c k = ht) w (w6.setCell ⟨g, 1, none⟩ v6) := by
  have hpos := h.pos
  have hcc := col_lt c w.heap.size ht
  have hgX : vX.ownBlock ≠ some g := own_ne_blk h.xs h.blk (by decide)
  have hB6 : Blk w6 g 63 #[vR, vX] := h.blk.turns hT hgX
  have hT7 := Turns.setCell (F := fun k => k = g) (p := ⟨g, 1, none⟩) (Turns.refl _ w6) (.inl rfl) v6
  have hG : ∀ k, vX.ownBlock = some k → c k ≠ 999 := fun k hk => by rw [h.cx k hk]; omega
  have hgc := hcc _ h.blk.lt
  have hgn : ∀ k, k = g → col c w.heap.size ht k ≠ 999 := fun k hk => by rw [hk, hgc, h.cg]; omega
  refine ⟨hB6, ⟨h.pos, hB6.set_ 1 v6, hgc.trans h.cg, ?_, ?_, ?_, fun f hf => (hxm f hf).turns hT7 hgn⟩, ?_⟩
  · exact ((h.row.re hcc).turns hT fun k hk => by rw [hcc k (ownsRow_lt h.xs hk)]; exact hG k hk).turns hT7 hgn
  · refine ownsRow_turns ho hT7 fun k hk e => ?_
    rcases hbl with hbl | ⟨j, hj, hjw⟩
    · rw [hbl] at hk
      exact hgX (by rw [hk, e])
    · rw [hj] at hk
      have := h.blk.lt
      cases hk
      omega
  · intro k hk
    rcases hbl with hbl | ⟨j, hj, hjw⟩
    · rw [hbl] at hk
      rw [hcc k (ownsRow_lt h.xs hk)]
      exact h.cx k hk
    · rw [hj] at hk
      cases hk
      exact col_ge _ _ _ hjw
  · exact (hT.mono fun k _ hk => h.cx k hk).trans (hT7.mono fun k _ e => .inl (by rw [e]; exact h.cg))
/-- Rows of a reply: their own row of one colour, their records never turned. -/
structure RowsD (c : Nat → Nat) (w : World) (v : Value) (M : List Mm) : Prop where
  row : OwnR 2 40 w v M.length (M.flatMap mmF)
  cv : InC c 5 v
  ms : ∀ m ∈ M, VS 999 c w m.2.1 m.2.2
theorem RowsD.turns {c : Nat → Nat} {w w' : World} {v : Value} {M : List Mm} {G : Nat → Prop} (h : RowsD c w v M) (hT : Turns G w w') (hG : ∀ k, G k → c k ≠ 5 ∧ c k ≠ 999) : RowsD c w' v M :=
  ⟨h.row.turns' hT fun k hk e => (hG k e).1 (h.cv k hk), h.cv, fun m hm => (h.ms m hm).turns hT fun k hk => (hG k hk).2⟩
theorem RowsD.at {c : Nat → Nat} {w : World} {v : Value} {M : List Mm} (h : RowsD c w v M) : RwAt w v M := ⟨h.row, fun m hm => (h.ms m hm).rd⟩
theorem RowsD.nil (c : Nat → Nat) (w : World) : RowsD c w (.slice none 0 0) [] := ⟨⟨by simp, .inl ⟨rfl, rfl⟩⟩, InC.nil _ _ _ _, by simp⟩
def DoPostR (ht : Nat) (c : Nat → Nat) (w : World) (g : Nat) (q : StT × RepT) (r : Value) (w' : World) : Prop :=
  ∃ c', (∀ k, k < w.heap.size → c' k = c k) ∧ RfS ht c' w' g q.1 ∧ RepAt w' r q.2 ∧ Turns (fun k => c k = ht) w w'
theorem takeWhile_take {α : Type} {p : α → Bool} : ∀ {l : List α} {j n : Nat}, (∀ x ∈ l.take j, p x = true) → (∀ (h : j < l.length), j = n ∨ p l[j] = false) → j ≤ n → j ≤ l.length → (l.takeWhile p).take n = l.take j
  | [], j, n, _, _, _, _ => by simp
  | a :: t, 0, n, _, h2, _, _ => by
    rcases h2 (by simp) with h | h
    · rw [← h]; rfl
    · have h : p a = false := h
      rw [List.takeWhile_cons, h]; simp
  | a :: t, j + 1, 0, _, _, h3, _ => by omega
  | a :: t, j + 1, n + 1, h1, h2, h3, h4 => by
    have ha : p a = true := h1 a (by simp)
    rw [List.takeWhile_cons, if_pos ha, List.take_succ_cons, List.take_succ_cons]
    congr 1
    refine takeWhile_take (fun x hx => h1 x (by simp [hx])) (fun h => ?_) (by omega) (by simpa using h4)
    have := h2 (by simpa using h)
    rcases this with h | h
    · exact .inl (by omega)
    · exact .inr h
section
variable {P : Program} {S : World → Prop}
/-- append(v, x), x one cell, in a region that draws. -/
theorem apOneB {K : (World → Prop) → Value → World → Prop} {w : World} {t ty e : TypeId} {cs : Array Bool} {z : Value} {bytes : Nat} (ht : P.underlying t = some (.slice e)) (hinfo : (P.info? e).map (fun i => (i.zero, i.size, i.bytes)) = some (some z, 1, bytes)) (hz : z.cells.size = 1)
    {v : Value} {xs : List Value} {n : Nat} (hown : w.ownsRow 0 e 1 v n xs) {u : Value} (h1 : u.oneCell' = true) (h63 : n + 1 ≤ 9223372036854775807) (hbytes : (n + 1) * bytes ≤ 140737488355328)
    (hb : (Instr.buildSlice t 1 #[(0, u)]).run P w = .ok (.slice (some ⟨w.heap.size, 0, none⟩) 1 1) (w.alloc (.cells #[u] e)))
    (hS : ∀ w', Below w.heap.size w w' → S w')
    (k : ∀ v' w', w'.ownsRow 0 e 1 v' (n + 1) (xs ++ [u]) → (v'.ownBlock = v.ownBlock ∨ ∃ b, v'.ownBlock = some b ∧ w.heap.size ≤ b) → Turns (fun j => v.ownBlock = some j) w w' → ∃ S' : World → Prop, S' w' ∧ (∀ x, S' x → S x) ∧ K S' v' w') :
    ActP S (fun K w => LiftP P (Instr.buildSlice t 1 #[(0, u)]) K w) (fun S x w => ActP S (fun K w => NextP P (builtin .append #[t, t] ty cs #[v, x]) K w) K w) w := by
  refine act (lift hb ?_)
  have hB := Blk.new w e #[u]
  have ha := (Below.refl w.heap.size w).alloc (Nat.le_refl _) (.cells #[u] e)
  have hs := ha.size
  refine ⟨S, hS _ ha, fun _ h => h, act ?_⟩
  refine apGb ht hinfo hz (by decide) (ownsRow_turns hown (Turns.of_below (F := fun _ => False) ha) (fun _ _ h => h)) (a := ⟨w.heap.size, 0, none⟩) (m := 1) (c := 1) (news := [u]) (by simp) (fun j x hx => by
    rw [add0, Nat.zero_add, hB.cell j]
    simpa using hx) (by simpa using h1) h63 hbytes ?_
  intro v' w' ho hbl hT
  exact k v' w' ho (hbl.imp id fun h => ⟨_, h, hs⟩) ((Turns.of_below ha).trans (hT.mono fun j _ e => .inl e))
end
section
variable {ht : Nat} {c : Nat → Nat} {w : World} {g : Nat} {S : StT} {n : Nat} {o : OpP} {s : OpS}
set_option maxHeartbeats 8000000 in
theorem Do25 (hS : RfS ht c w g S) (hok : StOk n S) (hn : n ≤ 100000) (ho : OpAt w o s) (hl : o.fields.length ≤ 1000) :
    CallP Tryz.prog 25 #[.pointer (some ⟨g, 0, none⟩), .agg (opC o s)] (fun r w' => DoPostR ht c w g (doS S o) r w') w := by
  have hS0 := hS
  obtain ⟨vR, vX, M, F, h, hM, hF⟩ := hS
  have hpos := h.pos
  have hMl : M.length = S.R.length := by rw [← hM, List.length_map]
  have hmany := hok.many
  refine ⟨S25.calls _ _ _ _ ?_⟩
  unfold S25
  refine bxB ?_
  intro g3 w1 hg3 hO hb1
  refine alB zRep ?_
  intro g4 w2 hg4 hRep hb2
  have hb12 := below_then hb1 hb2
  refine ldA aggOp (hO.below' hb2) (by exact szOp) ?_
  refine (Check12 o s w2 (ho.below hb12)).mono ?_
  rintro _ w3 ⟨rfl, hb3⟩
  have hb13 := below_then hb2 hb3
  have hb03 := below_then hb1 hb13
  have hO3 := hO.below' hb13
  have hRep3 := hRep.below' hb3
  have hg4w : w.heap.size ≤ g4 := by rw [hg4]; exact hb1.size
  have one2 : ∀ {a d : Int} {t : Bool} {v v' : Value}, v.oneCell' = true → v'.oneCell' = true → (#[Value.int .i64 a, .bool t, v, v', .int .i64 d] : Array Value).all (·.oneCell') = true := fun h1 h2 => allOne (l := [_, _, _, _, _]) (by simp only [List.all_cons, h1, h2]; rfl)
  obtain ⟨cz, hcz⟩ : ∃ cz, cz = col c w.heap.size 1000 := ⟨_, rfl⟩
  have czw : ∀ k, k < w.heap.size → cz k = c k := fun k hk => by rw [hcz, col_lt _ _ _ k hk]
  have czg : cz g4 = 1000 := by rw [hcz, col_ge _ _ _ hg4w]
  have h3 : RfAt ht cz w3 g vR vX M F := (h.re czw).below hb03
  refine bi_neq_c (fun hck => ?_) (fun hck => ?_)
  · (repeat with_reducible first|refine z_b ?_)
    refine repL (cells := #[.int .i64 (chk o), .bool false, .slice none 0 0, .slice none 0 0, .int .i64 0]) (by kernel_rfl) rfl (one2 rfl rfl) hRep3 rfl ?_
    intro w5 hT
    have hd : doS S o = (S, { rep0 with code := chk o }) := by
      unfold doS
      simp only [hck, ne_eq, not_false_eq_true, ↓reduceIte]
    rw [hd]
    exact ⟨cz, czw, ⟨vR, vX, M, F, h3.turns hT (fun k hk => by rw [hk, czg]; omega), hM, hF⟩, ⟨_, _, [], rfl, vals_nil _, (RowsD.nil cz _).at, rfl⟩, Turns.of_below (below_own hb03 hT hg4w)⟩
  have hck : chk o = 0 := hck
  (repeat with_reducible first|refine fd of1 (by decide) ?_|refine ld one9 (opk1 hO3 _ (Below.refl _ _)) ?_|refine z_c ?_)
  rw [tS_of]
  refine (Find52 h3 o.key.data.toList).mono ?_
  rintro _ w4 ⟨rfl, hb4⟩
  have hb04 := below_then hb03 hb4
  have hb34 := hb4
  have h4 := h3.below hb4
  have hO4 := hO3.below' hb4
  have hRep4 := hRep3.below' hb4
  have ho4 := ho.below hb04
  have hr4 := Below.refl w4.heap.size w4
  have hs04 := hb04.size
  have hg4l := hRep4.lt
  have hget := getK_pos (k := o.key.data.toList) hok.rising
  rw [← hM, isR_mkr, posR_mkr, List.getElem?_map] at hget
  have hmk : T.getK o.key.data.toList (M.map mkr) = T.getK o.key.data.toList S.R := by rw [hM]
  rw [hmk] at hget
  have hsome : (T.getK o.key.data.toList S.R).isSome = isR o.key.data.toList M := by
    rw [hget]
    cases hi : isR o.key.data.toList M with
    | false => rfl
    | true =>
      unfold isR at hi
      split at hi
      · rename_i p hp; rw [hp]; rfl
      · cases hi
  have hpl := posR_le o.key.data.toList M
  obtain ⟨A, cR, hv, hc, hm⟩ := h4.row.row.slice
  simp only [maxLen] at hm
  have q0 : ∀ w', Below w4.heap.size w4 w' → w'.cell? ⟨g, 0, none⟩ = some (.slice A M.length cR) := fun w' hb => by rw [← hv]; exact (h4.blk.below' hb).cell 0
  (repeat with_reducible first|refine z_A ?_|refine z_B ?_)
  refine JoinP.cut (fun vs w' => ∃ vw, vs = [vw] ∧ w' = w4 ∧ VS 999 cz w4 vw ((T.getK o.key.data.toList S.R).getD [])) ?_ ?_
  · intro J hJ
    cases hi : isR o.key.data.toList M with
    | false =>
      (repeat with_reducible first|refine z_c ?_)
      refine hJ _ _ ⟨_, rfl, rfl, ?_⟩
      rw [hi] at hget
      rw [hget]
      exact VS.nil _ _ _
    | true =>
      have hlt : posR o.key.data.toList M < M.length := by
        have hi' := hi
        unfold isR at hi'
        split at hi'
        · rename_i p hp
          exact (List.getElem?_eq_some_iff.1 hp).1
        · cases hi'
      rw [hi, if_pos rfl, List.getElem?_eq_getElem hlt] at hget
      obtain ⟨gx, cx, he, hcell⟩ := rowAt mmF_len h4.row.row _ hlt (by decide)
      rw [hv] at he
      cases he
      (repeat with_reducible first|refine fd s0 (by decide) ?_|refine ld oneRows (q0 _ hr4) ?_|refine z_a ?_|refine z_b ?_)
      refine ixG undRw szRw _ hlt ?_
      (repeat with_reducible first|refine fdG fRow1 (by decide) ?_)
      refine ld oneRec (hcell 1 _ rfl) ?_
      refine hJ _ _ ⟨_, rfl, rfl, ?_⟩
      rw [hget]
      exact h4.row.ms _ (List.getElem_mem hlt)
  rintro _ w4 ⟨vw, rfl, rfl, hVw⟩
  dsimp only [List.headD_cons, List.tail_cons]
  -- a reply that leaves the store as it was
  have same : ∀ (q : RepT) (c5 : Nat → Nat) (w5 w' : World) (va vb : Value) (Mq : List Mm), Below w4.heap.size w4 w5 → (∀ k, k < w4.heap.size → c5 k = cz k) → VS 999 c5 w5 va q.rcd → RowsD c5 w5 vb Mq → Mq.map mkr = q.rows → Turns (fun j => j = g4) w5 w' → doS S o = (S, q) →
      DoPostR ht c w g (doS S o) (.agg #[.int .i64 q.code, .bool q.there, va, vb, .int .i64 q.id]) w' := fun q c5 w5 w' va vb Mq hb5 hc5 hva hvb hMq hT hd => by
    rw [hd]
    have hg5 : ∀ k, k = g4 → c5 k = 1000 := fun k hk => by rw [hk, hc5 g4 hg4l, czg]
    refine ⟨c5, fun k hk => by rw [hc5 k (by omega), czw k hk], ⟨vR, vX, M, F, ((h4.re hc5).below hb5).turns hT (fun k hk => by rw [hg5 k hk]; omega), hM, hF⟩, ⟨va, vb, Mq, rfl, (hva.turns hT fun k hk => by rw [hg5 k hk]; omega).rd, (hvb.turns hT fun k hk => by rw [hg5 k hk]; omega).at, hMq⟩, ?_⟩
    exact Turns.of_below (below_own (below_then hb04 hb5) hT hg4w)
  -- a reply behind a store that was turned
  have turned : ∀ (q : StT × RepT) (c5 : Nat → Nat) (w5 w' : World), (∀ k, k < w4.heap.size → c5 k = cz k) → RfS ht c5 w5 g q.1 → Turns (fun k => cz k = ht) w4 w5 → q.2.rcd = [] → q.2.rows = [] → Turns (fun j => j = g4) w5 w' → doS S o = q →
      DoPostR ht c w g (doS S o) (.agg #[.int .i64 q.2.code, .bool q.2.there, .slice none 0 0, .slice none 0 0, .int .i64 q.2.id]) w' := fun q c5 w5 w' hc5 hR hT4 h1 h2 hT hd => by
    rw [hd]
    have hg5 : ∀ k, k = g4 → c5 k = 1000 := fun k hk => by rw [hk, hc5 g4 hg4l, czg]
    refine ⟨c5, fun k hk => by rw [hc5 k (by omega), czw k hk], hR.turns hT (fun k hk => by rw [hg5 k hk]; omega), ⟨_, _, [], rfl, by rw [h1]; exact vals_nil _, (RowsD.nil cz _).at, by rw [h2]; rfl⟩, ?_⟩
    refine ((Turns.of_below hb04).trans (hT4.mono fun k hk e => ?_)).trans (hT.mono fun k _ e => .inr (by omega))
    by_cases hkw : k < w.heap.size
    · exact .inl ((czw k hkw).symm.trans e)
    · exact .inr (by omega)
  have hwasL : ((T.getK o.key.data.toList S.R).getD []).length ≤ 1000 := by
    cases hg : T.getK o.key.data.toList S.R with
    | none => simp
    | some r => exact hok.recl _ (getT_mem hg)
  have ovw : vw.oneCell' = true := sliceOf' hVw.rd
  have hRf4 : RfS ht cz w4 g S := ⟨vR, vX, M, F, h4, hM, hF⟩
  rw [← hsome]
  refine JoinP.cut (fun vs w' => vs = [] ∧ (doS S o).2 = rep0 ∧ ∃ c5, (∀ k, k < w4.heap.size → c5 k = cz k) ∧ RfS ht c5 w' g (doS S o).1 ∧ Turns (fun k => cz k = ht) w4 w') ?_ ?_
  rotate_left
  · rintro _ w5 ⟨rfl, hrep, c5, hc5, hR, hT5⟩
    have hg5 : cz g4 ≠ ht := by rw [czg]; omega
    refine repL (cells := #[.int .i64 0, .bool false, .slice none 0 0, .slice none 0 0, .int .i64 0]) (by kernel_rfl) rfl (one2 rfl rfl) (hRep4.turns hT5 hg5) rfl ?_
    intro w6 hT
    have := turned (doS S o) c5 w5 w6 hc5 hR hT5 (by rw [hrep]; rfl) (by rw [hrep]; rfl) hT rfl
    rw [hrep] at this
    exact this
  intro J hJ
  (repeat with_reducible first|refine fd of0 (by decide) ?_|refine ld one3 (opk0 hO4 _ hr4) ?_)
  refine bi_eql_c (fun k1 => ?_) (fun k1 => ?_)
  · -- put
    have hd : doS S o = (⟨insR o.key.data.toList o.rcd S.R, S.X⟩, { rep0 with there := (T.getK o.key.data.toList S.R).isSome }) := by
      unfold doS
      simp only [hck, ne_eq, not_true_eq_false, ↓reduceIte, k1]
    have hrl := (recE_0 (chk_1 hck k1).2).2.1
    (repeat with_reducible first|refine fd of1 (by decide) ?_|refine ld one9 (opk1 hO4 _ hr4) ?_|refine fd of3 (by decide) ?_|refine ld oneRec (opk3 hO4 _ hr4) ?_|refine z_b ?_)
    rw [tS_of]
    refine (put53 hRf4 o.key.data.toList s.rcd o.rcd ho4.rcd (by omega) (by omega)).mono ?_
    rintro _ w5 ⟨c5, hc5, hR, hT5⟩
    refine repL (cells := #[.int .i64 0, .bool (T.getK o.key.data.toList S.R).isSome, .slice none 0 0, .slice none 0 0, .int .i64 0]) (by kernel_rfl) rfl (one2 rfl rfl) (hRep4.turns hT5 (by rw [czg]; omega)) rfl ?_
    intro w6 hT
    exact turned _ c5 w5 w6 hc5 hR hT5 rfl rfl hT hd
  (repeat with_reducible first|refine z_c ?_)
  refine bi_eql_c (fun k2 => ?_) (fun k2 => ?_)
  · -- delete
    have hd : doS S o = (⟨T.delK o.key.data.toList S.R, S.X⟩, { rep0 with there := (T.getK o.key.data.toList S.R).isSome }) := by
      unfold doS
      simp only [hck, ne_eq, not_true_eq_false, ↓reduceIte, k2]
      rfl
    (repeat with_reducible first|refine fd of1 (by decide) ?_|refine ld one9 (opk1 hO4 _ hr4) ?_|refine z_b ?_)
    rw [tS_of]
    refine (del54 hRf4 hok.rising o.key.data.toList (by omega)).mono ?_
    rintro _ w5 ⟨c5, hc5, hR, hT5⟩
    refine repL (cells := #[.int .i64 0, .bool (T.getK o.key.data.toList S.R).isSome, .slice none 0 0, .slice none 0 0, .int .i64 0]) (by kernel_rfl) rfl (one2 rfl rfl) (hRep4.turns hT5 (by rw [czg]; omega)) rfl ?_
    intro w6 hT
    exact turned _ c5 w5 w6 hc5 hR hT5 rfl rfl hT hd
  (repeat with_reducible first|refine z_c ?_)
  refine bi_eql_c (fun k3 => ?_) (fun k3 => ?_)
  · -- get
    have hd : doS S o = (S, { rep0 with there := (T.getK o.key.data.toList S.R).isSome, rcd := (T.getK o.key.data.toList S.R).getD [] }) := by
      unfold doS
      simp only [hck, ne_eq, not_true_eq_false, ↓reduceIte, k3]
      rfl
    obtain ⟨Aw, cw, rfl, _⟩ := hVw.rd.slice
    (repeat with_reducible first|refine z_b ?_)
    refine repL (cells := #[.int .i64 0, .bool (T.getK o.key.data.toList S.R).isSome, .slice Aw ((T.getK o.key.data.toList S.R).getD []).length cw, .slice none 0 0, .int .i64 0]) (by kernel_rfl) rfl (one2 rfl rfl) hRep4 rfl ?_
    intro w6 hT
    exact same _ cz w4 w6 _ _ [] hr4 (fun _ _ => rfl) hVw (RowsD.nil _ _) rfl hT hd
  (repeat with_reducible first|refine z_c ?_)
  refine bi_eql_c (fun k4 => ?_) (fun k4 => ?_)
  · -- compare and put
    have hc1 := chk_4 hck k4
    have hrl := (recE_0 hc1.2.1).2.1
    obtain ⟨Aw, cw, rfl, _⟩ := hVw.rd.slice
    obtain ⟨Ao, co, hso, _⟩ := ho4.old.slice
    have c4 : ∀ w', Below w4.heap.size w4 w' → w'.cell? ⟨g3, 4, none⟩ = some (.slice Ao o.old.length co) := fun w' hb => by rw [← hso]; exact opk4 hO4 _ hb
    have hdOk : (T.getK o.key.data.toList S.R).getD [] = o.old → doS S o = (⟨insR o.key.data.toList o.rcd S.R, S.X⟩, { rep0 with there := (T.getK o.key.data.toList S.R).isSome }) := fun heq => by
      unfold doS
      simp only [hck, ne_eq, not_true_eq_false, ↓reduceIte, k4, heq]
      rfl
    have hdNo : ¬ (T.getK o.key.data.toList S.R).getD [] = o.old → doS S o = (S, { rep0 with code := 9, there := (T.getK o.key.data.toList S.R).isSome, rcd := (T.getK o.key.data.toList S.R).getD [] }) := fun heq => by
      unfold doS
      simp only [hck, ne_eq, not_true_eq_false, ↓reduceIte, k4, heq]
      rfl
    (repeat with_reducible first|refine fd of4 (by decide) ?_|refine ld oneRec (c4 _ hr4) ?_|refine z_b ?_)
    refine ln undRec ?_
    have hrep : ∀ r, T.getK o.key.data.toList S.R = some r → r ≠ [] := fun r hg e => by
      have := (recE_0 (hok.recs _ (getT_mem hg)).1).1
      rw [e] at this
      simp at this
    by_cases h0 : o.old.length = 0
    · have hold : o.old = [] := List.eq_nil_of_length_eq_zero h0
      refine bi_gtr_f (by omega) ?_
      refine bi_bneq und4 ?_
      cases hg : T.getK o.key.data.toList S.R with
      | none =>
        have heq : (T.getK o.key.data.toList S.R).getD [] = o.old := by rw [hg, hold]; rfl
        rw [show (none : Option (List ValT)).isSome = (T.getK o.key.data.toList S.R).isSome by rw [hg]]
        rw [show decide ((T.getK o.key.data.toList S.R).isSome ≠ false) = false by rw [hg]; rfl]
        have e3 : Value.bool (T.getK o.key.data.toList S.R).isSome = .bool false := by rw [hg]; rfl
        (repeat with_reducible first|refine z_d ?_)
        rw [e3]
        (repeat with_reducible first|refine z_c ?_|refine z_d ?_|refine z_e ?_|refine z_l ?_)
        rw [← e3]
        (repeat with_reducible first|refine fd of1 (by decide) ?_|refine ld one9 (opk1 hO4 _ hr4) ?_|refine fd of3 (by decide) ?_|refine ld oneRec (opk3 hO4 _ hr4) ?_)
        rw [tS_of]
        refine (put53 (hRf4.below hr4) o.key.data.toList s.rcd o.rcd (keeps_Vals _ _ _ _ hr4 ho4.rcd) (by omega) (by omega)).mono ?_
        rintro _ w5 ⟨c5, hc5, hR, hT5⟩
        have hT45 : Turns (fun k => cz k = ht) w4 w5 := (Turns.of_below hr4).trans (hT5.mono fun k _ e => .inl e)
        have hsX := (show Below w4.heap.size w4 w4 from hr4).size
        refine repL (cells := #[.int .i64 0, .bool (T.getK o.key.data.toList S.R).isSome, .slice none 0 0, .slice none 0 0, .int .i64 0]) (by kernel_rfl) rfl (one2 rfl rfl) (hRep4.turns hT45 (by rw [czg]; omega)) rfl ?_
        intro w6 hT
        exact turned _ c5 w5 w6 (fun k hk => hc5 k (by omega)) hR hT45 rfl rfl hT (hdOk heq)
      | some r =>
        have hne : ¬ (T.getK o.key.data.toList S.R).getD [] = o.old := by rw [hg, hold]; exact hrep r hg
        rw [show (some r : Option (List ValT)).isSome = (T.getK o.key.data.toList S.R).isSome by rw [hg], show (some r : Option (List ValT)).getD [] = (T.getK o.key.data.toList S.R).getD [] by rw [hg]]
        rw [show decide ((T.getK o.key.data.toList S.R).isSome ≠ false) = true by rw [hg]; rfl]
        (repeat with_reducible first|refine z_b ?_|refine z_f ?_|refine z_g ?_|refine z_k ?_)
        refine repL (cells := #[.int .i64 9, .bool (T.getK o.key.data.toList S.R).isSome, .slice Aw ((T.getK o.key.data.toList S.R).getD []).length cw, .slice none 0 0, .int .i64 0]) (by kernel_rfl) rfl (one2 rfl rfl) (hRep4.below' hr4) rfl ?_
        intro w6 hT
        exact same _ cz w4 w6 _ _ [] hr4 (fun _ _ => rfl) (hVw.below hr4) (RowsD.nil _ _) rfl hT (hdNo hne)
    · refine bi_gtr_t (by omega) ?_
      refine bi_bneq und4 ?_
      cases hg : T.getK o.key.data.toList S.R with
      | none =>
        have hne : ¬ (T.getK o.key.data.toList S.R).getD [] = o.old := by
          rw [hg]
          intro e
          have e : ([] : List ValT) = o.old := e
          rw [← e] at h0
          exact h0 rfl
        rw [show (none : Option (List ValT)).isSome = (T.getK o.key.data.toList S.R).isSome by rw [hg], show (none : Option (List ValT)).getD [] = (T.getK o.key.data.toList S.R).getD [] by rw [hg]]
        rw [show decide ((T.getK o.key.data.toList S.R).isSome ≠ true) = true by rw [hg]; rfl]
        (repeat with_reducible first|refine z_b ?_|refine z_f ?_|refine z_g ?_|refine z_k ?_)
        refine repL (cells := #[.int .i64 9, .bool (T.getK o.key.data.toList S.R).isSome, .slice Aw ((T.getK o.key.data.toList S.R).getD []).length cw, .slice none 0 0, .int .i64 0]) (by kernel_rfl) rfl (one2 rfl rfl) (hRep4.below' hr4) rfl ?_
        intro w6 hT
        exact same _ cz w4 w6 _ _ [] hr4 (fun _ _ => rfl) (hVw.below hr4) (RowsD.nil _ _) rfl hT (hdNo hne)
      | some r =>
        rw [show (some r : Option (List ValT)).isSome = (T.getK o.key.data.toList S.R).isSome by rw [hg], show (some r : Option (List ValT)).getD [] = (T.getK o.key.data.toList S.R).getD [] by rw [hg]]
        rw [show decide ((T.getK o.key.data.toList S.R).isSome ≠ true) = false by rw [hg]; rfl]
        have e3 : Value.bool (T.getK o.key.data.toList S.R).isSome = .bool true := by rw [hg]; rfl
        (repeat with_reducible first|refine z_d ?_)
        rw [e3]
        (repeat with_reducible first|refine fd of4 (by decide) ?_|refine ld oneRec (c4 _ hr4) ?_|refine z_d ?_)
        refine (Same17 _ _ _ _ w4 hVw.rd (by rw [← hso]; exact ho4.old)).mono ?_
        rintro _ w7 ⟨rfl, hb7⟩
        by_cases heq : (T.getK o.key.data.toList S.R).getD [] = o.old
        · rw [decide_eq_true heq]
          (repeat with_reducible first|refine z_c ?_|refine z_d ?_|refine z_k ?_|refine z_l ?_|refine z_E ?_)
          try simp only [Bool.not_true]
          skip
          (repeat with_reducible first|refine fd of1 (by decide) ?_|refine ld one9 (opk1 hO4 _ hb7) ?_|refine fd of3 (by decide) ?_|refine ld oneRec (opk3 hO4 _ hb7) ?_)
          rw [tS_of]
          refine (put53 (hRf4.below hb7) o.key.data.toList s.rcd o.rcd (keeps_Vals _ _ _ _ hb7 ho4.rcd) (by omega) (by omega)).mono ?_
          rintro _ w5 ⟨c5, hc5, hR, hT5⟩
          have hT45 : Turns (fun k => cz k = ht) w4 w5 := (Turns.of_below hb7).trans (hT5.mono fun k _ e => .inl e)
          have hsX := (show Below w4.heap.size w4 w7 from hb7).size
          rw [← e3]
          refine repL (cells := #[.int .i64 0, .bool (T.getK o.key.data.toList S.R).isSome, .slice none 0 0, .slice none 0 0, .int .i64 0]) (by kernel_rfl) rfl (one2 rfl rfl) (hRep4.turns hT45 (by rw [czg]; omega)) rfl ?_
          intro w6 hT
          exact turned _ c5 w5 w6 (fun k hk => hc5 k (by omega)) hR hT45 rfl rfl hT (hdOk heq)
        · rw [decide_eq_false heq]
          (repeat with_reducible first|refine z_b ?_|refine z_d ?_|refine z_k ?_|refine z_l ?_|refine z_F ?_)
          try simp only [Bool.not_false]
          skip
          rw [← e3]
          refine repL (cells := #[.int .i64 9, .bool (T.getK o.key.data.toList S.R).isSome, .slice Aw ((T.getK o.key.data.toList S.R).getD []).length cw, .slice none 0 0, .int .i64 0]) (by kernel_rfl) rfl (one2 rfl rfl) (hRep4.below' hb7) rfl ?_
          intro w6 hT
          exact same _ cz w7 w6 _ _ [] hb7 (fun _ _ => rfl) (hVw.below hb7) (RowsD.nil _ _) rfl hT (hdNo heq)
  (repeat with_reducible first|refine z_c ?_)
  refine bi_eql_c (fun k5 => ?_) (fun k5 => ?_)
  · -- a scan
    have hd : doS S o = (S, { rep0 with rows := (scanV S.R o.key.data.toList o.to.data.toList).take o.limit.toNat }) := by
      unfold doS
      simp only [hck, ne_eq, not_true_eq_false, ↓reduceIte, k5]
      rfl
    have hlim := (chk_5 hck k5).1
    have hrows : scanV S.R o.key.data.toList o.to.data.toList = (((M.drop (posR o.key.data.toList M)).takeWhile fun m => decide (o.to.data.toList = [] ∨ m.1 < o.to.data.toList)).map mkr) := by
      show S.R.filter _ = _
      rw [scan_pos hok.rising, ← hM, posR_mkr, ← List.map_drop, List.takeWhile_map]
      rfl
    (repeat with_reducible first|refine z_b ?_)
    refine LoopP.inv2 (fun rv iv w' => ∃ j : Nat, j ≤ (M.drop (posR o.key.data.toList M)).length ∧ iv = .int .i64 ((posR o.key.data.toList M + j : Nat)) ∧ j ≤ o.limit.toNat ∧ (∀ x ∈ (M.drop (posR o.key.data.toList M)).take j, decide (o.to.data.toList = [] ∨ x.1 < o.to.data.toList) = true) ∧ OwnL mmF 2 40 w4 w' rv ((M.drop (posR o.key.data.toList M)).take j)) (fun _ iv _ => M.length - (intOf iv).toNat) ⟨0, Nat.zero_le _, by simp, Nat.zero_le _, by simp, OwnL.nil hr4⟩ ?_
    rintro rv _ w5 ⟨j, hj, rfl, hjl, hall, ho5⟩ J2 hJ2
    dsimp only [List.headD_cons, List.tail_cons]
    have hb5 := ho5.bel
    have hdl : (M.drop (posR o.key.data.toList M)).length = M.length - posR o.key.data.toList M := List.length_drop
    have hGl : ((M.drop (posR o.key.data.toList M)).take j).length = j := by rw [List.length_take]; omega
    have hr5 := Below.refl w5.heap.size w5
    have hdr : Below w5.heap.size w5 w5.drew := (Below.refl _ _).drew
    have hb5d := below_then hb5 hdr
    have hO5 := hO4.below' hb5
    have q5 : ∀ w', Below w5.heap.size w5 w' → w'.cell? ⟨g, 0, none⟩ = some (.slice A M.length cR) := fun w' hb => q0 w' (below_then hb5 hb)
    have t2 : ∀ w', Below w5.heap.size w5 w' → w'.cell? ⟨g3, 2, none⟩ = some (tS o.to.data.toList) := fun w' hb => by rw [← tS_of]; exact opk2 hO5 _ hb
    obtain ⟨Ag, cg, hrv, _⟩ := ho5.slice
    -- the loop is left
    have fin : ∀ (wX : World) (hbX : Below w4.heap.size w4 wX) (hex : ∀ (h : j < (M.drop (posR o.key.data.toList M)).length), j = o.limit.toNat ∨ decide (o.to.data.toList = [] ∨ (M.drop (posR o.key.data.toList M))[j].1 < o.to.data.toList) = false) (w6 : World), Turns (fun k => k = g4) wX w6 → Below w5.heap.size w5 wX →
        DoPostR ht c w g (doS S o) (.agg #[.int .i64 0, .bool false, .slice none 0 0, .slice Ag ((M.drop (posR o.key.data.toList M)).take j).length cg, .int .i64 0]) w6 := fun wX hbX hex w6 hT hb5X => by
      have hoX := ho5.kept hb5X
      rw [hrv] at hoX
      refine same _ (col cz w4.heap.size 5) wX w6 _ _ ((M.drop (posR o.key.data.toList M)).take j) hbX (col_lt _ _ _) (VS.nil _ _ _) ⟨OwnR.of_own hoX.own, InC.fresh hoX.fresh, fun m hm => ((h4.row.ms m (List.mem_of_mem_drop (List.mem_of_mem_take hm))).re (col_lt _ _ _)).below hbX⟩ ?_ hT hd
      show _ = (scanV S.R o.key.data.toList o.to.data.toList).take o.limit.toNat
      rw [hrows, ← List.map_take, takeWhile_take hall hex hjl hj]
    refine draw (Below w5.heap.size w5) hdr ?_
    (repeat with_reducible first|refine yfd s0 (by decide) ?_|refine yl1 oneRows q5 ?_|refine z_W ?_)
    refine yln undRw ?_
    by_cases hlt : posR o.key.data.toList M + j < M.length
    rotate_left
    · refine yi_lss_f (by omega) ?_
      (repeat with_reducible first|refine z_c ?_|refine z_e ?_|refine z_g ?_|refine z_l ?_)
      rw [hrv]
      refine repL (cells := #[.int .i64 0, .bool false, .slice none 0 0, .slice Ag ((M.drop (posR o.key.data.toList M)).take j).length cg, .int .i64 0]) (by kernel_rfl) rfl (one2 rfl rfl) (hRep4.below' hb5d) rfl ?_
      intro w6 hT
      exact fin _ hb5d (fun h => by omega) w6 hT hdr
    have hjd : j < (M.drop (posR o.key.data.toList M)).length := by omega
    have hgd : (M.drop (posR o.key.data.toList M))[j] = M[posR o.key.data.toList M + j] := List.getElem_drop
    refine yi_lss_t (by omega) ?_
    (repeat with_reducible first|refine z_d ?_)
    rw [hrv]
    refine yln undRw ?_
    (repeat with_reducible first|refine yfd of9 (by decide) ?_|refine yl1 one3 (opk9 hO5) ?_|refine z_d ?_)
    rw [hGl]
    by_cases hjm : j < o.limit.toNat
    rotate_left
    · refine yi_lss_f (by omega) ?_
      (repeat with_reducible first|refine z_c ?_|refine z_e ?_|refine z_g ?_|refine z_k ?_|refine z_l ?_)
      have hjm : j = o.limit.toNat := by omega
      rw [← hGl]
      refine repL (cells := #[.int .i64 0, .bool false, .slice none 0 0, .slice Ag ((M.drop (posR o.key.data.toList M)).take j).length cg, .int .i64 0]) (by kernel_rfl) rfl (one2 rfl rfl) (hRep4.below' hb5d) rfl ?_
      intro w6 hT
      exact fin _ hb5d (fun h => .inl hjm) w6 hT hdr
    refine yi_lss_t (by omega) ?_
    (repeat with_reducible first|refine yfd of2 (by decide) ?_|refine yl1 one9 t2 ?_|refine z_d ?_|refine z_k ?_)
    have h5 := h4.below hb5
    obtain ⟨gx, cx, he, hcell⟩ := rowAt mmF_len h5.row.row (posR o.key.data.toList M + j) hlt (by decide)
    rw [hv] at he
    cases he
    have a0 := keepR hcell 0 _ rfl
    -- a row more
    have more : (o.to.data.toList = [] ∨ M[posR o.key.data.toList M + j].1 < o.to.data.toList) → ∀ (x1 y1 : Operand), LiftP Tryz.prog (Instr.fieldAt 63 (.pointer (some ⟨g, 0, none⟩)) 0) (fun v136 w =>
        LiftP Tryz.prog (Instr.loadAt 35 v136) (fun v137 w =>
        LiftP Tryz.prog (Instr.indexAt 35 v137 (.int .i64 ((posR o.key.data.toList M + j : Nat)))) (fun v139 w =>
        LiftP Tryz.prog (Instr.loadAt 40 v139) (fun v140 w =>
        LiftP Tryz.prog (Instr.buildSlice 35 1 #[(0, v140)]) (fun v141 w =>
        NextP Tryz.prog (builtin .append #[35, 35] 35 #[false, false] #[.slice Ag j cg, v141]) (fun v142 w =>
        LiftP Tryz.prog (binS .add 3 x1 y1 (.int .i64 ((posR o.key.data.toList M + j : Nat))) (.int .i64 1)) (fun v132 w => J2 [v142, v132] w) w) w) w) w) w) w) w5.drew := fun hyes x1 y1 => by
      (repeat with_reducible first|refine fd s0 (by decide) ?_|refine ld oneRows (q5 _ hdr) ?_)
      refine ixG undRw szRw _ hlt ?_
      refine ldR (us := mmF M[posR o.key.data.toList M + j]) aggRw (fun i u hu => by rw [add0]; exact keepR hcell i u hu _ hdr) (by rw [szRw]; rfl) ?_
      have ho5d := ho5.kept hdr
      rw [hrv, hGl] at ho5d
      have hmv := h4.row.ms _ (List.getElem_mem hlt)
      have hown := ho5d.own
      rw [hGl] at hown
      refine apOne (us := mmF M[posR o.key.data.toList M + j]) undRw infRw (by rfl) (by decide) hown rfl (mmF_one hmv.rd) (by omega) (by omega) (by kernel_rfl) ?_
      intro v7 w7 ho7 hbl7 hT7
      (repeat with_reducible first|refine z_o (by omega) ?_)
      have etk : (M.drop (posR o.key.data.toList M)).take (j + 1) = (M.drop (posR o.key.data.toList M)).take j ++ [M[posR o.key.data.toList M + j]] := by rw [List.take_succ_eq_append_getElem hjd, hgd]
      refine hJ2 _ _ _ ⟨j + 1, hjd, by rw [show ((posR o.key.data.toList M + (j + 1) : Nat) : Int) = ((posR o.key.data.toList M + j : Nat) : Int) + 1 by omega], hjm, fun x hx => ?_, ?_⟩ (by simp [intOf]; omega)
      · rw [etk] at hx
        rcases List.mem_append.1 hx with hx | hx
        · exact hall x hx
        · rw [List.mem_singleton.1 hx]; exact decide_eq_true hyes
      · rw [etk]
        refine ⟨?_, ho5d.fresh.one ho5d.bel.size hbl7, ho5d.bel.trans (hT7.fresh ho5d.fresh ho5d.bel.size)⟩
        rw [List.length_append, hGl, List.flatMap_append]
        simpa using ho7
    refine ty_eql0_c (fun h6 => ?_) (fun h6 => ?_)
    · (repeat with_reducible first|refine z_a ?_|refine z_b ?_|refine z_d ?_|refine z_f ?_|refine z_k ?_)
      exact more (.inl h6) _ _
    · (repeat with_reducible first|refine yfd s0 (by decide) ?_|refine yl1 oneRows q5 ?_|refine z_W ?_|refine z_d ?_)
      refine yixG undRw szRw _ hlt ?_
      (repeat with_reducible first|refine yfdG w0 (by decide) ?_|refine yl1 one9 a0 ?_|refine yfd of2 (by decide) ?_|refine yl1 one9 t2 ?_|refine z_d ?_)
      refine ty_lss_c (fun h7 => ?_) (fun h7 => ?_)
      · (repeat with_reducible first|refine z_a ?_|refine z_b ?_|refine z_d ?_|refine z_k ?_|refine z_l ?_)
        exact more (.inr h7) _ _
      · (repeat with_reducible first|refine z_c ?_|refine z_d ?_|refine z_k ?_|refine z_l ?_)
        rw [← hGl]
        refine repL (cells := #[.int .i64 0, .bool false, .slice none 0 0, .slice Ag ((M.drop (posR o.key.data.toList M)).take j).length cg, .int .i64 0]) (by kernel_rfl) rfl (one2 rfl rfl) (hRep4.below' hb5d) rfl ?_
        intro w6 hT
        exact fin _ hb5d (fun h => .inr (decide_eq_false (by rw [hgd]; exact fun e => e.elim h6 h7))) w6 hT hdr
  (repeat with_reducible first|refine z_c ?_)
  refine bi_eql_c (fun k6 => ?_) (fun k6 => ?_)
  · -- a query
    have hid := (chk_6 hck k6).1
    have hlim := (chk_6 hck k6).2.2.2.1
    (repeat with_reducible first|refine fd of5 (by decide) ?_|refine ld one3 (opk5 hO4 _ hr4) ?_|refine z_b ?_)
    refine (Index55 h4 hF hok.xmany o.id (by omega)).mono ?_
    rintro _ w5 ⟨hb5, ⟨hno, rfl⟩ | ⟨f, hf, hfo, hi1, hi2, hone, rfl⟩⟩
    · (repeat with_reducible first|refine z_A ?_|refine z_B ?_)
      refine cpB zIx (cells := #[.int .i64 0, .slice none 0 0]) (by exact szIx) (by rfl) (allOne (l := [.int .i64 0, .slice none 0 0]) rfl) ?_
      intro g5 w6 hg5 hI hb6
      have hb46 := below_then hb5 hb6
      (repeat with_reducible first|refine z_b ?_|refine z_F ?_)
      try simp only [Bool.not_false]
      skip
      refine repL (cells := #[.int .i64 7, .bool false, .slice none 0 0, .slice none 0 0, .int .i64 0]) (by kernel_rfl) rfl (one2 rfl rfl) (hRep4.below' hb46) rfl ?_
      intro w7 hT
      refine same { rep0 with code := 7 } cz w6 w7 _ _ [] hb46 (fun _ _ => rfl) (VS.nil _ _ _) (RowsD.nil _ _) rfl hT ?_
      unfold doS
      simp only [hck, ne_eq, not_true_eq_false, ↓reduceIte, k6, hno]
      rfl
    have hd : doS S o = (S, { rep0 with rows := ((areaV S.R o.id f.2 o.low o.high).take o.limit.toNat).map fun e => rowOf S.R e.2 }) := by
      unfold doS
      simp only [hck, ne_eq, not_true_eq_false, ↓reduceIte, k6, hfo]
      rfl
    (repeat with_reducible first|refine z_A ?_|refine z_B ?_)
    refine cpB zIx (cells := #[.int .i64 o.id, f.1]) (by exact szIx) (by rfl) (allOne (l := [.int .i64 o.id, f.1]) (by simp only [List.all_cons, hone]; rfl)) ?_
    intro g5 w6 hg5 hI hb6
    have hb46 := below_then hb5 hb6
    have h6 := h4.below hb46
    (repeat with_reducible first|refine z_c ?_|refine z_E ?_)
    try simp only [Bool.not_true]
    skip
    refine ldA aggIx hI (by exact szIx) ?_
    (repeat with_reducible first|refine fd of7 (by decide) ?_|refine ld oneVs (opk7 hO4 _ hb46) ?_|refine fd of8 (by decide) ?_|refine ld oneVs (opk8 hO4 _ hb46) ?_)
    refine (Area56 h6 (hok.rows hM) (by omega) o.id hid f.1 _ _ f.2 o.low o.high (h6.xm f hf).rd (keeps_Vals _ _ _ _ hb46 ho4.low) (keeps_Vals _ _ _ _ hb46 ho4.high)).mono ?_
    rintro r w7 ⟨L, hOL, hL, hLm⟩
    rw [hM] at hL
    have hb47 := below_then hb46 hOL.bel
    have hlen : L.length ≤ 100000 := by
      have e1 := congrArg List.length hL
      rw [List.length_map, (areaV_perm _ _ _ _ _).length_eq] at e1
      have := List.length_filterMap_le (entOf o.id f.2 o.low o.high) S.R
      omega
    obtain ⟨A7, c7, rfl, _⟩ := hOL.slice
    refine LoopP.inv2 (fun rv iv w' => ∃ i : Nat, i ≤ L.length ∧ iv = .int .i64 i ∧ i ≤ o.limit.toNat ∧ OwnL mmF 2 40 w7 w' rv ((L.take i).map (·.2))) (fun _ iv _ => L.length - (intOf iv).toNat) ⟨0, by omega, rfl, Nat.zero_le _, OwnL.nil (Below.refl _ _)⟩ ?_
    rintro rv _ w8 ⟨i, hi, rfl, hil, ho8⟩ J2 hJ2
    dsimp only [List.headD_cons, List.tail_cons]
    have hb48 := below_then hb47 ho8.bel
    obtain ⟨Ag, cg, hrv, _⟩ := ho8.slice
    have hGl : ((L.take i).map (·.2)).length = i := by rw [List.length_map, List.length_take]; omega
    have fin : (i = L.length ∨ i = o.limit.toNat) → ∀ w9, Turns (fun k => k = g4) w8 w9 → DoPostR ht c w g (doS S o) (.agg #[.int .i64 0, .bool false, .slice none 0 0, .slice Ag ((L.take i).map (·.2)).length cg, .int .i64 0]) w9 := fun hex w9 hT => by
      have hoX := ho8
      rw [hrv] at hoX
      have hs47 := hb47.size
      refine same _ (col cz w4.heap.size 5) w8 w9 _ _ ((L.take i).map (·.2)) hb48 (col_lt _ _ _) (VS.nil _ _ _) ⟨OwnR.of_own hoX.own, InC.fresh fun k hk => Nat.le_trans hs47 (hoX.fresh k hk), fun m hm => ?_⟩ ?_ hT hd
      · obtain ⟨s, hs, rfl⟩ := List.mem_map.1 hm
        exact ((h4.row.ms s.2 (hLm s (List.mem_of_mem_take hs))).re (col_lt _ _ _)).below hb48
      · show _ = ((areaV S.R o.id f.2 o.low o.high).take o.limit.toNat).map fun e => rowOf S.R e.2
        have etk : L.take i = L.take o.limit.toNat := by
          rcases hex with e | e
          · rw [e, List.take_length, List.take_of_length_le (by omega)]
          · rw [e]
        rw [← hL, etk, ← List.map_take, List.map_map, List.map_map]
        refine List.map_congr_left fun s hs => ?_
        have hsM := hLm s (List.mem_of_mem_take hs)
        have hin : (s.2.1, s.2.2.2) ∈ S.R := by rw [← hM]; exact List.mem_map.2 ⟨s.2, hsM, rfl⟩
        show mkr s.2 = rowOf S.R s.2.1
        unfold rowOf
        rw [T.getK_of_mem (rising_nodup hok.rising) hin]
        rfl
    refine ln undSh ?_
    by_cases hlt : i < L.length
    rotate_left
    · refine bi_lss_f (by omega) ?_
      (repeat with_reducible first|refine z_c ?_|refine z_e ?_|refine z_l ?_)
      rw [hrv]
      refine repL (cells := #[.int .i64 0, .bool false, .slice none 0 0, .slice Ag ((L.take i).map (·.2)).length cg, .int .i64 0]) (by kernel_rfl) rfl (one2 rfl rfl) (hRep4.below' hb48) rfl ?_
      intro w9 hT
      exact fin (by omega) w9 hT
    refine bi_lss_t (by omega) ?_
    (repeat with_reducible first|refine fd of9 (by decide) ?_|refine ld one3 (opk9 hO4 _ hb48) ?_|refine z_d ?_)
    by_cases hlt2 : i < o.limit.toNat
    rotate_left
    · refine bi_lss_f (by omega) ?_
      (repeat with_reducible first|refine z_c ?_|refine z_k ?_)
      rw [hrv]
      refine repL (cells := #[.int .i64 0, .bool false, .slice none 0 0, .slice Ag ((L.take i).map (·.2)).length cg, .int .i64 0]) (by kernel_rfl) rfl (one2 rfl rfl) (hRep4.below' hb48) rfl ?_
      intro w9 hT
      exact fin (by omega) w9 hT
    refine bi_lss_t (by omega) ?_
    (repeat with_reducible first|refine z_b ?_|refine z_k ?_)
    obtain ⟨ge, ce, he, hcell⟩ := rowAt shF_len (OwnR.of_own (hOL.kept ho8.bel).own) i hlt (by decide)
    cases he
    refine ixG undSh szSh i hlt ?_
    (repeat with_reducible first|refine fdG h1f (by decide) ?_)
    refine ldR (us := mmF L[i].2) aggRw (fun j u hu => by
      rw [add0, Nat.add_assoc, Nat.add_comm 1 j]
      refine hcell (j + 1) u ?_
      exact hu) (by rw [szRw]; rfl) ?_
    have hmv := h4.row.ms _ (hLm _ (List.getElem_mem hlt))
    have hown := ho8.own
    rw [hGl] at hown
    refine apOne (us := mmF L[i].2) undRw infRw (by rfl) (by decide) hown rfl (mmF_one hmv.rd) (by omega) (by omega) (by kernel_rfl) ?_
    intro v9 w9 ho9 hbl9 hT9
    (repeat with_reducible first|refine z_o (by omega) ?_)
    have etk : (L.take (i + 1)).map (·.2) = (L.take i).map (·.2) ++ [L[i].2] := by rw [List.take_succ_eq_append_getElem hlt, List.map_append]; rfl
    refine hJ2 _ _ _ ⟨i + 1, by omega, by simp, by omega, ?_⟩ (by simp [intOf]; omega)
    rw [etk]
    refine ⟨?_, ho8.fresh.one ho8.bel.size hbl9, ho8.bel.trans (hT9.fresh ho8.fresh ho8.bel.size)⟩
    rw [List.length_append, hGl, List.flatMap_append]
    simpa using ho9
  (repeat with_reducible first|refine z_c ?_)
  refine bi_eql_c (fun k7 => ?_) (fun k7 => ?_)
  · -- an index made
    have hx6 := hok.xmany
    have hFl : F.length = S.X.length := by rw [← hF, List.length_map]
    obtain ⟨AX, cX, hvX, _⟩ := (OwnR.of_own h4.xs).slice
    have r1 : ∀ w', Below w4.heap.size w4 w' → w'.cell? ⟨g, 1, none⟩ = some (.slice AX F.length cX) := fun w' hb => by rw [← hvX]; exact (h4.blk.below' hb).cell 1
    (repeat with_reducible first|refine fd s1 (by decide) ?_|refine ld oneII (r1 _ hr4) ?_|refine ln undII ?_|refine z_a ?_|refine z_b ?_)
    refine bi_geq_c (fun h6 => ?_) (fun h6 => ?_)
    · (repeat with_reducible first|refine z_b ?_)
      refine repL (cells := #[.int .i64 17, .bool false, .slice none 0 0, .slice none 0 0, .int .i64 0]) (by kernel_rfl) rfl (one2 rfl rfl) hRep4 rfl ?_
      intro w5 hT
      refine same { rep0 with code := 17 } cz w4 w5 _ _ [] hr4 (fun _ _ => rfl) (VS.nil _ _ _) (RowsD.nil _ _) rfl hT ?_
      have e6 : S.X.length = 6 := by omega
      unfold doS
      simp only [hck, ne_eq, not_true_eq_false, ↓reduceIte, k7, e6]
      rfl
    have hd : doS S o = (⟨S.R, S.X ++ [o.fields]⟩, { rep0 with id := S.X.length + 1 }) := by
      unfold doS
      have e6 : ¬ S.X.length = 6 := by omega
      simp only [hck, ne_eq, not_true_eq_false, ↓reduceIte, k7, e6]
      rfl
    (repeat with_reducible first|refine z_c ?_)
    have hdr : Below w4.heap.size w4 w4.drew := (Below.refl _ _).drew
    have hrdf := (ints_rd ho4.fields).1
    obtain ⟨Af, cf, hfv, _⟩ := hrdf.slice
    obtain ⟨S0, hS0⟩ : ∃ S0 : World → Prop, S0 = fun w' => w'.cell? ⟨g, 1, none⟩ = some (.slice AX F.length cX) ∧ w'.cell? ⟨g3, 6, none⟩ = some s.fields := ⟨_, rfl⟩
    have yS : ∀ w', Below w4.heap.size w4 w' → S0 w' := fun w' hb => by rw [hS0]; exact ⟨r1 w' hb, opk6 hO4 w' hb⟩
    have yr1 : ∀ w', S0 w' → w'.cell? ⟨g, 1, none⟩ = some (.slice AX F.length cX) := fun w' hb => by rw [hS0] at hb; exact hb.1
    have yr6 : ∀ w', S0 w' → w'.cell? ⟨g3, 6, none⟩ = some s.fields := fun w' hb => by rw [hS0] at hb; exact hb.2
    refine draw S0 (yS _ hdr) ?_
    generalize w4.drew = wd at *
    (repeat with_reducible first|refine yfd s1 (by decide) ?_|refine yl1 oneII yr1 ?_|refine yfd of6 (by decide) ?_|refine yl1 oneIs yr6 ?_|refine z_W ?_)
    refine act ?_
    have hsd := hdr.size
    refine apF wd.heap.size undIs infI (by rfl) (by decide) (Own.nil _ _) (Fresh.nil _) (Nat.le_refl _) (ys := iV o.fields) (hrdf.below hdr) (fun u hu => by obtain ⟨n, _, rfl⟩ := List.mem_map.1 hu; rfl) (by simp only [List.length_nil, List.length_map]; omega) ?_
    intro vf w5 hof hff hb5 _
    rw [List.nil_append] at hof
    have hb45 := below_then hdr hb5
    have hs5 := hb5.size
    refine ⟨_, yS _ hb45, fun _ h => h, ?_⟩
    have h5 : RfAt ht (col cz w4.heap.size 999) w5 g vR vX M F := (h4.re (col_lt _ _ _)).below hb45
    have hFS : FS 999 (col cz w4.heap.size 999) w5 vf o.fields := ⟨hof.rd, .inr fun k hk => col_ge _ _ _ (by have := hff k hk; omega)⟩
    obtain ⟨Ac, cc, rfl⟩ := hof.slice
    rw [← hvX]
    refine apOneB (u := .slice Ac (iV o.fields).length cc) undII infIs (by rfl) h5.xs rfl (by omega) (by omega) (by kernel_rfl) (fun w' hb => yS _ (below_then hb45 hb)) ?_
    intro v6 w6 ho6 hbl6 hT6
    have hcol6 := col_lt (col cz w4.heap.size 999) w5.heap.size ht
    have nX : ∀ k, vX.ownBlock = some k → col (col cz w4.heap.size 999) w5.heap.size ht k ≠ 999 := fun k hk => by rw [hcol6 k (ownsRow_lt h5.xs hk), h5.cx k hk]; omega
    obtain ⟨hB6, hR7, hT7⟩ := h5.setX (F' := F ++ [(.slice Ac (iV o.fields).length cc, o.fields)]) hT6 (by rw [List.length_append, List.map_append]; exact ho6) hbl6 (fun f hf => by
      rcases List.mem_append.1 hf with hf | hf
      · exact ((h5.xm f hf).re hcol6).turns hT6 nX
      · rw [List.mem_singleton.1 hf]
        exact (hFS.re hcol6).turns hT6 nX)
    have hvw : ∀ k, vX.ownBlock = some k → k < w4.heap.size := fun k hk => ownsRow_lt h4.xs hk
    have hg3 : w6.cell? ⟨g3, 6, none⟩ = some s.fields := ((hO4.below' hb45).turns hT6 fun e => by
      have h8 := h5.cx g3 e
      rw [col_lt _ _ _ _ hO4.lt, hcz, col_ge _ _ _ (by omega)] at h8
      omega).cell 6
    refine ⟨S0, by rw [hS0, ← hvX]; exact ⟨hB6.cell 1, hg3⟩, fun _ h => h, ?_⟩
    (repeat with_reducible first|refine yfd s1 (by decide) ?_|refine z_W ?_)
    have hv6 : v6.oneCell' = true := by
      obtain ⟨A6, c6, rfl, _⟩ := (OwnR.of_own ho6).slice
      rfl
    refine st szII hv6 (by rw [hB6.cell 1]; rfl) (hB6.frozen 1) ?_
    generalize w6.setCell ⟨g, 1, none⟩ v6 = w7 at *
    obtain ⟨A7, c7, hv7, _⟩ := (OwnR.of_own hR7.xs).slice
    have r7 : w7.cell? ⟨g, 1, none⟩ = some (.slice A7 (F ++ [((.slice Ac (iV o.fields).length cc, o.fields) : Fm)]).length c7) := by rw [← hv7]; exact hR7.blk.cell 1
    (repeat with_reducible first|refine fd s1 (by decide) ?_|refine ld oneII r7 ?_|refine ln undII ?_|refine z_a ?_)
    have c9 : ∀ k, k < w4.heap.size → col (col cz w4.heap.size 999) w5.heap.size ht k = cz k := fun k hk => by rw [col_lt _ _ _ k (by omega), col_lt _ _ _ k hk]
    have hT47 : Turns (fun k => cz k = ht) w4 w7 := (Turns.of_below hb45).trans (hT7.mono fun k hk e => by
      by_cases hkw : k < w4.heap.size
      · exact .inl ((col_lt cz w4.heap.size 999 k hkw).symm.trans e)
      · exact .inr (by omega))
    refine repL (cells := #[.int .i64 0, .bool false, .slice none 0 0, .slice none 0 0, .int .i64 ((F ++ [((.slice Ac (iV o.fields).length cc, o.fields) : Fm)]).length : Nat)]) (by kernel_rfl) rfl (one2 rfl rfl) (hRep4.turns hT47 (by rw [czg]; omega)) rfl ?_
    intro w8 hT8
    have := turned (⟨S.R, S.X ++ [o.fields]⟩, { rep0 with id := S.X.length + 1 }) _ w7 w8 c9 ⟨vR, v6, M, _, hR7, hM, by rw [List.map_append, hF]; rfl⟩ hT47 rfl rfl hT8 hd
    have e9 : (((F ++ [((.slice Ac (iV o.fields).length cc, o.fields) : Fm)]).length : Nat) : Int) = (S.X.length : Int) + 1 := by rw [List.length_append, hFl]; rfl
    rw [e9]
    exact this
  (repeat with_reducible first|refine z_c ?_)
  refine bi_eql_c (fun k8 => ?_) (fun k8 => ?_)
  · -- an index dropped
    have hid := chk_8 hck k8
    have hFl : F.length = S.X.length := by rw [← hF, List.length_map]
    have hx6 := hok.xmany
    (repeat with_reducible first|refine fd of5 (by decide) ?_|refine ld one3 (opk5 hO4 _ hr4) ?_|refine z_b ?_)
    refine (Index55 h4 hF hok.xmany o.id (by omega)).mono ?_
    rintro _ w5 ⟨hb5, ⟨hno, rfl⟩ | ⟨f, hf, hfo, hi1, hi2, hone, rfl⟩⟩
    · (repeat with_reducible first|refine z_A ?_|refine z_B ?_)
      refine cpB zIx (cells := #[.int .i64 0, .slice none 0 0]) (by exact szIx) (by rfl) (allOne (l := [.int .i64 0, .slice none 0 0]) rfl) ?_
      intro g5 w6 hg5 hI hb6
      have hb46 := below_then hb5 hb6
      (repeat with_reducible first|refine z_b ?_|refine z_F ?_)
      try simp only [Bool.not_false]
      skip
      refine repL (cells := #[.int .i64 7, .bool false, .slice none 0 0, .slice none 0 0, .int .i64 0]) (by kernel_rfl) rfl (one2 rfl rfl) (hRep4.below' hb46) rfl ?_
      intro w7 hT
      refine same { rep0 with code := 7 } cz w6 w7 _ _ [] hb46 (fun _ _ => rfl) (VS.nil _ _ _) (RowsD.nil _ _) rfl hT ?_
      unfold doS
      simp only [hck, ne_eq, not_true_eq_false, ↓reduceIte, k8, hno]
      rfl
    have hd : doS S o = (⟨S.R, S.X.set (o.id - 1).toNat []⟩, rep0) := by
      unfold doS
      simp only [hck, ne_eq, not_true_eq_false, ↓reduceIte, k8, hfo]
      rfl
    have hidl : (o.id - 1).toNat < F.length := by
      unfold fieldsOf at hfo
      split at hfo
      · omega
      · cases hfo
    obtain ⟨i, hi⟩ : ∃ i : Nat, i = (o.id - 1).toNat := ⟨_, rfl⟩
    rw [← hi] at hd hidl
    (repeat with_reducible first|refine z_A ?_|refine z_B ?_)
    refine cpB zIx (cells := #[.int .i64 o.id, f.1]) (by exact szIx) (by rfl) (allOne (l := [.int .i64 o.id, f.1]) (by simp only [List.all_cons, hone]; rfl)) ?_
    intro g5 w6 hg5 hI hb6
    have hb46 := below_then hb5 hb6
    have h6 := h4.below hb46
    obtain ⟨AX, cX, hvX, _⟩ := (OwnR.of_own h6.xs).slice
    have r1 : ∀ w', Below w6.heap.size w6 w' → w'.cell? ⟨g, 1, none⟩ = some (.slice AX F.length cX) := fun w' hb => by rw [← hvX]; exact (h6.blk.below' hb).cell 1
    have hrdx : Rd w6 vX (F.map (·.1)) := by
      have h9 : Own 24 w6 vX (F.map (·.1)) := by
        have := h6.xs
        unfold Own
        rwa [List.length_map]
      exact h9.rd
    rw [hvX] at hrdx
    (repeat with_reducible first|refine z_a ?_|refine z_c ?_|refine z_E ?_)
    try simp only [Bool.not_true]
    (repeat with_reducible first|refine fd s1 (by decide) ?_|refine ld oneII (r1 _ (Below.refl _ _)) ?_)
    refine apF w6.heap.size undII infIs (by rfl) (by decide) (Own.nil _ _) (Fresh.nil _) (Nat.le_refl _) (ys := F.map (·.1)) hrdx (fun u hu => by
      obtain ⟨f, hf, rfl⟩ := List.mem_map.1 hu
      obtain ⟨Af, cf, hfv, _⟩ := (h6.xm f hf).rd.slice
      rw [hfv]; rfl) (by simp only [List.length_nil, List.length_map]; omega) ?_
    intro v7 w7 ho7 hf7 hb7 _
    rw [List.nil_append] at ho7
    have hb47 := below_then hb46 hb7
    have hml : (F.map (·.1)).length = F.length := List.length_map _
    obtain ⟨A7, c7, rfl⟩ := ho7.slice
    rw [hml] at ho7 ⊢
    obtain ⟨g7, rfl, hc7, hfz7⟩ := ho7.at i (by rw [hml]; exact hidl)
    (repeat with_reducible first|refine fd of5 (by decide) ?_|refine ld one3 (opk5 hO4 _ hb47) ?_|refine z_p (by omega) ?_)
    rw [show o.id - 1 = (i : Int) by omega]
    refine ix1 undII szIs hidl ?_
    refine st szIs rfl (by rw [hc7]; rfl) hfz7 ?_
    have ho8 := ho7.set i (by rw [hml]; exact hidl) (.slice none 0 0)
    have hT8 := Turns.setCell (F := fun k => k = g7) (p := (⟨g7, 0, none⟩ : Addr).add i) (Turns.refl _ w7) (.inl (by rw [add0])) (.slice none 0 0)
    have hg7 : w6.heap.size ≤ g7 := hf7 g7 rfl
    have hb68 := below_own hb7 hT8 hg7
    generalize w7.setCell ((⟨g7, 0, none⟩ : Addr).add i) (.slice none 0 0) = w8 at *
    have hset : (F.set i ((.slice none 0 0, []) : Fm)).map (·.1) = (F.map (·.1)).set i (.slice none 0 0) := by rw [List.map_set]
    have hcol8 := col_lt cz w6.heap.size ht
    obtain ⟨hB8, hR9, hT9⟩ := h6.setX (v6 := .slice (some ⟨g7, 0, none⟩) F.length c7) (F' := F.set i ((.slice none 0 0, []) : Fm)) (Turns.of_below hb68) (by
      rw [hset, List.length_set]
      have := ho8
      unfold Own at this
      rwa [List.length_set, hml] at this) (.inr ⟨g7, rfl, hg7⟩) (fun f hf => by
      rcases List.mem_or_eq_of_mem_set hf with hf | hf
      · exact ((h6.xm f hf).re hcol8).below hb68
      · rw [hf]
        exact ⟨⟨none, 0, rfl, Nat.le_refl _, by decide, fun i u h => by simp at h⟩, .inl rfl⟩)
    (repeat with_reducible first|refine fd s1 (by decide) ?_|refine z_a ?_)
    refine st szII rfl (by rw [hB8.cell 1]; rfl) (hB8.frozen 1) ?_
    refine hJ _ _ ⟨rfl, by rw [hd], col cz w6.heap.size ht, fun k hk => col_lt _ _ _ k (by have := hb46.size; omega), ?_, (Turns.of_below hb46).trans (hT9.mono fun k _ e => .inl e)⟩
    rw [hd]
    refine ⟨vR, _, M, _, hR9, hM, ?_⟩
    rw [List.map_set, hF]
  · (repeat with_reducible first|refine z_c ?_)
    have hd : doS S o = (S, rep0) := by
      unfold doS
      simp only [hck, ne_eq, not_true_eq_false, ↓reduceIte, k5, k6, k7, k8, k1, k2, k3, k4]
    exact hJ _ _ ⟨rfl, by rw [hd], cz, fun _ _ => rfl, by rw [hd]; exact hRf4, Turns.refl _ _⟩
end
end Go.Proofs.YtonblppkidpmlaaGreatDoor.E
