/- The client of a table; DeleteFunc, the least number, trim. -/
import Derived.Test.YtmnaggdhkggjhaaOnB
namespace Go.Proofs.Ytmnaggdhkggjhaa.E
open Go Go.Proofs Go.RowKit
set_option linter.unusedSimpArgs false
set_option linter.unusedVariables false

/-- What a call leaves: the table, and that nothing else has turned. -/
def LeftT (hu : Nat) (c : Nat → Nat) (w : World) (g : Nat) (T : List (Int × Cli)) (w' : World) : Prop := ∃ c', (∀ k, k < w.heap.size → c' k = c k) ∧ TabC hu c' w' g T ∧ Turns (Dh hu c) w w'
theorem New_tab (hu : Nat) (hh : 0 < hu ∧ hu < 1000) (c : Nat → Nat) (w : World) : CallP Try.prog 10 #[] (fun r w' => ∃ g c', r = .pointer (some ⟨g, 0, none⟩) ∧ (∀ k, k < w.heap.size → c' k = c k) ∧ TabC hu c' w' g [] ∧ Below w.heap.size w w') w := by
  refine ⟨S10.calls _ _ ?_⟩
  unfold S10
  refine mkm ?_
  intro w1 hm1 hb1
  refine bd (cells := #[.map (some w.heap.size)]) (by kernel_rfl) ?_
  refine bx ?_
  have hbl : Blk (w1.alloc (.cells (Value.agg #[.map (some w.heap.size)]).cells 60)) w1.heap.size 60 #[.map (some w.heap.size)] := Blk.new w1 60 _
  have ha := (Below.refl w1.heap.size w1).alloc (Nat.le_refl _) (.cells (Value.agg #[.map (some w.heap.size)]).cells 60)
  have hlt := hm1.lt
  have hsz := hb1.size
  refine ⟨w1.heap.size, col c w.heap.size hu, rfl, col_lt _ _ _, ⟨w.heap.size, hh, col_ge _ _ _ hsz, col_ge _ _ _ (Nat.le_refl _), hbl, hm1.below ha, fun x hx => by simp at hx⟩, below_then hb1 ha⟩
theorem client_tab {hu : Nat} (c : Nat → Nat) (w : World) (g : Nat) (T : List (Int × Cli)) (id : Int) (h : TabC hu c w g T) (hid : 0 ≤ id ∧ id ≤ 9223372036854775807) (hT : T.length < 1000000) :
    CallP Try.prog 26 #[.pointer (some ⟨g, 0, none⟩), .int .i64 id] (fun r w' => ∃ (C : Cli) (T' : List (Int × Cli)), r = .pointer (some ⟨C.gc, 0, none⟩) ∧ getK id T' = some C ∧ (match getK id T with | some C0 => T' = T ∧ C = C0 | none => T' = T ++ [(id, C)] ∧ C.fl = 0 ∧ C.l = []) ∧ LeftT hu c w g T' w') w := by
  obtain ⟨bm, h⟩ := h
  refine ⟨S26.calls _ _ _ _ ?_⟩
  unfold S26
  have c0 : w.cell? ⟨g, 0, none⟩ = some (.map (some bm)) := h.blk.cell 0
  refine JoinP.cut (fun vs w' => ∃ (C : Cli) (T' : List (Int × Cli)), getK id T' = some C ∧ (match getK id T with | some C0 => T' = T ∧ C = C0 | none => T' = T ++ [(id, C)] ∧ C.fl = 0 ∧ C.l = []) ∧ ∃ c', (∀ k, k < w.heap.size → c' k = c k) ∧ TabAt hu c' w' g bm T' ∧ Turns (Dh hu c) w w') (fun J hJ => ?_) (fun vs w' hI => ?_)
  · (repeat (first | (with_reducible refine fd t0 (by decide) ?_) | (with_reducible refine ld one58 c0 ?_) | (with_reducible refine nck ?_) | (with_reducible refine cdT ?_) | (with_reducible refine cdF ?_) | (with_reducible refine gdY ?_) | (with_reducible refine gdFT ?_) | (with_reducible refine gdTF ?_) | (with_reducible refine gdU ?_) | (with_reducible refine gaY ?_) | (with_reducible refine gaFT ?_) | (with_reducible refine gaTF ?_) | (with_reducible refine pickT ?_) | (with_reducible refine pickF ?_) | (with_reducible refine bi_lss_t (by omega) ?_) | (with_reducible refine bi_lss_f (by omega) ?_) | (with_reducible refine bi_add64 (by omega) ?_) | (with_reducible refine bi_sub64 (by omega) ?_) | (with_reducible refine bi_eql_t (by omega) ?_) | (with_reducible refine bi_eql_f (by omega) ?_) | (with_reducible refine bi_neq_t (by omega) ?_) | (with_reducible refine bi_neq_f (by omega) ?_) | (with_reducible refine bi_gtr_t (by omega) ?_) | (with_reducible refine bi_gtr_f (by omega) ?_) | (with_reducible refine bi_leq_t (by omega) ?_) | (with_reducible refine bi_leq_f (by omega) ?_) | (with_reducible refine bi_geq_t (by omega) ?_) | (with_reducible refine bi_geq_f (by omega) ?_) | (with_reducible refine bi_xt0 ?_) | (with_reducible refine bi_xt1 ?_) | (with_reducible refine bi_xt2 ?_) | (with_reducible refine bi_xt3 ?_) | (with_reducible refine bi_T ?_) | (with_reducible refine bi_F ?_) | (with_reducible refine bi_not ?_) | (with_reducible refine bi_and ?_) | (with_reducible refine bi_or ?_) | (with_reducible refine bi_xor ?_) | (with_reducible refine bi_shr (by omega) (by decide) ?_) | (with_reducible refine bi_shl (by omega) (by decide) ?_) | (with_reducible refine bi_quo64 (by omega) ?_) | (with_reducible refine bi_rem64 (by omega) ?_) | (with_reducible refine bi_mul64 (by omega) ?_) | (with_reducible refine bi_neg ?_) | (with_reducible refine bi_un_xor32 ?_) | (with_reducible refine bi_add ?_) | (with_reducible refine bi_sub ?_) | (with_reducible refine bi_mul ?_) | (with_reducible refine bi_quo (by decide) ?_) | (with_reducible refine bi_rem (by decide) ?_)))
    refine lkq und58 und3 z63 h.map ?_
    rw [getK_map (fun C : Cli => Value.pointer (some ⟨C.gc, 0, none⟩))]
    cases hx : getK id T with
    | some C =>
      simp only [Option.map_some, Option.getD_some]
      refine ofPR (pr_pnil und63) ?_
      simp only [Option.isNone_some]
      (repeat (first | (with_reducible refine nck ?_) | (with_reducible refine cdT ?_) | (with_reducible refine cdF ?_) | (with_reducible refine gdY ?_) | (with_reducible refine gdFT ?_) | (with_reducible refine gdTF ?_) | (with_reducible refine gdU ?_) | (with_reducible refine gaY ?_) | (with_reducible refine gaFT ?_) | (with_reducible refine gaTF ?_) | (with_reducible refine pickT ?_) | (with_reducible refine pickF ?_) | (with_reducible refine bi_lss_t (by omega) ?_) | (with_reducible refine bi_lss_f (by omega) ?_) | (with_reducible refine bi_add64 (by omega) ?_) | (with_reducible refine bi_sub64 (by omega) ?_) | (with_reducible refine bi_eql_t (by omega) ?_) | (with_reducible refine bi_eql_f (by omega) ?_) | (with_reducible refine bi_neq_t (by omega) ?_) | (with_reducible refine bi_neq_f (by omega) ?_) | (with_reducible refine bi_gtr_t (by omega) ?_) | (with_reducible refine bi_gtr_f (by omega) ?_) | (with_reducible refine bi_leq_t (by omega) ?_) | (with_reducible refine bi_leq_f (by omega) ?_) | (with_reducible refine bi_geq_t (by omega) ?_) | (with_reducible refine bi_geq_f (by omega) ?_) | (with_reducible refine bi_xt0 ?_) | (with_reducible refine bi_xt1 ?_) | (with_reducible refine bi_xt2 ?_) | (with_reducible refine bi_xt3 ?_) | (with_reducible refine bi_T ?_) | (with_reducible refine bi_F ?_) | (with_reducible refine bi_not ?_) | (with_reducible refine bi_and ?_) | (with_reducible refine bi_or ?_) | (with_reducible refine bi_xor ?_) | (with_reducible refine bi_shr (by omega) (by decide) ?_) | (with_reducible refine bi_shl (by omega) (by decide) ?_) | (with_reducible refine bi_quo64 (by omega) ?_) | (with_reducible refine bi_rem64 (by omega) ?_) | (with_reducible refine bi_mul64 (by omega) ?_) | (with_reducible refine bi_neg ?_) | (with_reducible refine bi_un_xor32 ?_) | (with_reducible refine bi_add ?_) | (with_reducible refine bi_sub ?_) | (with_reducible refine bi_mul ?_) | (with_reducible refine bi_quo (by decide) ?_) | (with_reducible refine bi_rem (by decide) ?_)))
      refine hJ _ _ ⟨C, T, hx, ?_, c, fun _ _ => rfl, h, Turns.refl _ _⟩
      rw [hx]
      exact ⟨rfl, rfl⟩
    | none =>
      simp only [Option.map_none, Option.getD_none]
      refine ofPR (pr_pnil und63) ?_
      simp only [Option.isNone_none]
      (repeat (first | (with_reducible refine fd t0 (by decide) ?_) | (with_reducible refine ld one58 c0 ?_) | (with_reducible refine nck ?_) | (with_reducible refine cdT ?_) | (with_reducible refine cdF ?_) | (with_reducible refine gdY ?_) | (with_reducible refine gdFT ?_) | (with_reducible refine gdTF ?_) | (with_reducible refine gdU ?_) | (with_reducible refine gaY ?_) | (with_reducible refine gaFT ?_) | (with_reducible refine gaTF ?_) | (with_reducible refine pickT ?_) | (with_reducible refine pickF ?_) | (with_reducible refine bi_lss_t (by omega) ?_) | (with_reducible refine bi_lss_f (by omega) ?_) | (with_reducible refine bi_add64 (by omega) ?_) | (with_reducible refine bi_sub64 (by omega) ?_) | (with_reducible refine bi_eql_t (by omega) ?_) | (with_reducible refine bi_eql_f (by omega) ?_) | (with_reducible refine bi_neq_t (by omega) ?_) | (with_reducible refine bi_neq_f (by omega) ?_) | (with_reducible refine bi_gtr_t (by omega) ?_) | (with_reducible refine bi_gtr_f (by omega) ?_) | (with_reducible refine bi_leq_t (by omega) ?_) | (with_reducible refine bi_leq_f (by omega) ?_) | (with_reducible refine bi_geq_t (by omega) ?_) | (with_reducible refine bi_geq_f (by omega) ?_) | (with_reducible refine bi_xt0 ?_) | (with_reducible refine bi_xt1 ?_) | (with_reducible refine bi_xt2 ?_) | (with_reducible refine bi_xt3 ?_) | (with_reducible refine bi_T ?_) | (with_reducible refine bi_F ?_) | (with_reducible refine bi_not ?_) | (with_reducible refine bi_and ?_) | (with_reducible refine bi_or ?_) | (with_reducible refine bi_xor ?_) | (with_reducible refine bi_shr (by omega) (by decide) ?_) | (with_reducible refine bi_shl (by omega) (by decide) ?_) | (with_reducible refine bi_quo64 (by omega) ?_) | (with_reducible refine bi_rem64 (by omega) ?_) | (with_reducible refine bi_mul64 (by omega) ?_) | (with_reducible refine bi_neg ?_) | (with_reducible refine bi_un_xor32 ?_) | (with_reducible refine bi_add ?_) | (with_reducible refine bi_sub ?_) | (with_reducible refine bi_mul ?_) | (with_reducible refine bi_quo (by decide) ?_) | (with_reducible refine bi_rem (by decide) ?_)))
      refine mkm ?_
      intro w1 hm1 hb1
      refine bd (cells := #[.int .i64 0, .map (some w.heap.size)]) (by kernel_rfl) ?_
      refine bx ?_
      have hbl : Blk (w1.alloc (.cells (Value.agg #[.int .i64 0, .map (some w.heap.size)]).cells 68)) w1.heap.size 68 #[.int .i64 0, .map (some w.heap.size)] := Blk.new w1 68 _
      have ha := (Below.refl w1.heap.size w1).alloc (Nat.le_refl _) (.cells (Value.agg #[.int .i64 0, .map (some w.heap.size)]).cells 68)
      have hm2 := hm1.below ha
      have hb2 := below_then hb1 ha
      have hs1 := hb1.size
      generalize hgc : w1.heap.size = gc at *
      generalize w1.alloc (.cells (Value.agg #[.int .i64 0, .map (some w.heap.size)]).cells 68) = w2 at *
      have h2 := (h.re (col_lt c w.heap.size (hueC hu id))).below hb2
      have hbl0 := h.map.lt
      have hgl0 := h.blk.lt
      have hl : (T.map fun p : Int × Cli => (p.1, Value.pointer (some ⟨p.2.gc, 0, none⟩))).length < maxLen := by rw [List.length_map]; simp only [maxLen]; omega
      refine mup und58 und3 h2.map (wf64 (by omega)) hl ?_
      intro w3 hm3 hT3
      have hcb : col c w.heap.size (hueC hu id) bm = hu := h2.huem
      have hgb : g ≠ bm := map_ne h.blk h.map
      have hC0 : CliAt (col c w.heap.size (hueC hu id)) (hueC hu id) w2 ⟨gc, w.heap.size, 0, []⟩ := ⟨col_ge _ _ _ hs1, col_ge _ _ _ (Nat.le_refl _), hbl, hm2, fun p hp => by simp at hp⟩
      have hnone : getK id (T.map fun p : Int × Cli => (p.1, Value.pointer (some ⟨p.2.gc, 0, none⟩))) = none := by
        rw [getK_map (fun C : Cli => Value.pointer (some ⟨C.gc, 0, none⟩)), hx]; rfl
      refine hJ _ _ ⟨⟨gc, w.heap.size, 0, []⟩, T ++ [(id, ⟨gc, w.heap.size, 0, []⟩)], getK_app _ _ _ hx, ?_, col c w.heap.size (hueC hu id), col_lt _ _ _, ⟨h2.hh, h2.hue, h2.huem, h2.blk.turns hT3 hgb, ?_, fun p hp => ?_⟩, ?_⟩
      · rw [hx]
        exact ⟨rfl, rfl, rfl⟩
      · rw [setK_new _ _ _ hnone] at hm3
        rw [List.map_append]
        exact hm3
      · rcases List.mem_append.1 hp with hp | hp
        · exact ⟨(h2.el p hp).1, (h2.el p hp).2.turns hT3 (fun k hk e => absurd (e.symm.trans (by rw [hk, hcb])) (hueC_ne hu _))⟩
        · simp only [List.mem_cons, List.not_mem_nil, or_false] at hp
          subst hp
          exact ⟨hid.1, hC0.turns hT3 (fun k hk e => absurd (e.symm.trans (by rw [hk, hcb])) (hueC_ne hu _))⟩
      · exact (Turns.of_below hb2).trans (hT3.mono fun k hk e => .inl (by rw [e]; show c bm % 1000 = hu; rw [h.huem, Nat.mod_eq_of_lt h.hh.2]))
  · obtain ⟨C, T', hx, hT', c', hc', h', hTu⟩ := hI
    have c0' : w'.cell? ⟨g, 0, none⟩ = some (.map (some bm)) := h'.blk.cell 0
    (repeat (first | (with_reducible refine fd t0 (by decide) ?_) | (with_reducible refine ld one58 c0' ?_) | (with_reducible refine nck ?_) | (with_reducible refine cdT ?_) | (with_reducible refine cdF ?_) | (with_reducible refine gdY ?_) | (with_reducible refine gdFT ?_) | (with_reducible refine gdTF ?_) | (with_reducible refine gdU ?_) | (with_reducible refine gaY ?_) | (with_reducible refine gaFT ?_) | (with_reducible refine gaTF ?_) | (with_reducible refine pickT ?_) | (with_reducible refine pickF ?_) | (with_reducible refine bi_lss_t (by omega) ?_) | (with_reducible refine bi_lss_f (by omega) ?_) | (with_reducible refine bi_add64 (by omega) ?_) | (with_reducible refine bi_sub64 (by omega) ?_) | (with_reducible refine bi_eql_t (by omega) ?_) | (with_reducible refine bi_eql_f (by omega) ?_) | (with_reducible refine bi_neq_t (by omega) ?_) | (with_reducible refine bi_neq_f (by omega) ?_) | (with_reducible refine bi_gtr_t (by omega) ?_) | (with_reducible refine bi_gtr_f (by omega) ?_) | (with_reducible refine bi_leq_t (by omega) ?_) | (with_reducible refine bi_leq_f (by omega) ?_) | (with_reducible refine bi_geq_t (by omega) ?_) | (with_reducible refine bi_geq_f (by omega) ?_) | (with_reducible refine bi_xt0 ?_) | (with_reducible refine bi_xt1 ?_) | (with_reducible refine bi_xt2 ?_) | (with_reducible refine bi_xt3 ?_) | (with_reducible refine bi_T ?_) | (with_reducible refine bi_F ?_) | (with_reducible refine bi_not ?_) | (with_reducible refine bi_and ?_) | (with_reducible refine bi_or ?_) | (with_reducible refine bi_xor ?_) | (with_reducible refine bi_shr (by omega) (by decide) ?_) | (with_reducible refine bi_shl (by omega) (by decide) ?_) | (with_reducible refine bi_quo64 (by omega) ?_) | (with_reducible refine bi_rem64 (by omega) ?_) | (with_reducible refine bi_mul64 (by omega) ?_) | (with_reducible refine bi_neg ?_) | (with_reducible refine bi_un_xor32 ?_) | (with_reducible refine bi_add ?_) | (with_reducible refine bi_sub ?_) | (with_reducible refine bi_mul ?_) | (with_reducible refine bi_quo (by decide) ?_) | (with_reducible refine bi_rem (by decide) ?_)))
    refine lkq und58 und3 z63 h'.map ?_
    rw [getK_map (fun C : Cli => Value.pointer (some ⟨C.gc, 0, none⟩)), hx]
    exact ⟨C, T', rfl, hx, hT', c', hc', ⟨bm, h'⟩, hTu⟩
/-! ### trim -/
theorem call47 : callable Try.prog 47 = true := by kernel_rfl
theorem trim1_spec (k : Int) (R : Rep) (p q : Value) (b1 gc : Nat) (fl : Int) (br : Value) (w : World) (hb1 : Blk w b1 63 #[.pointer (some ⟨gc, 0, none⟩)]) (hgc : Blk w gc 68 #[.int .i64 fl, br]) :
    CallP Try.prog 47 #[.int .i64 k, .agg (R.cells p q), .pointer (some ⟨b1, 0, none⟩)] (fun r w' => r = .bool (decide (k ≤ fl)) ∧ Below w.heap.size w w') w := by
  refine ⟨S47.calls _ _ _ _ _ ?_⟩
  unfold S47
  refine bx ?_
  have ha := (Below.refl w.heap.size w).alloc (Nat.le_refl _) (.cells (Value.agg (R.cells p q)).cells 27)
  have e0 := (hb1.below' ha).cell 0
  have f0 := (hgc.below' ha).cell 0
  generalize w.alloc (.cells (Value.agg (R.cells p q)).cells 27) = w1 at *
  have e0' : w1.cell? ⟨b1, 0, none⟩ = some (.pointer (some ⟨gc, 0, none⟩)) := e0
  have f0' : w1.cell? ⟨gc, 0, none⟩ = some (.int .i64 fl) := f0
  (repeat (first | (with_reducible refine ld one63 e0' ?_) | (with_reducible refine fd k0 (by decide) ?_) | (with_reducible refine ld one3 f0' ?_) | (with_reducible refine nck ?_) | (with_reducible refine cdT ?_) | (with_reducible refine cdF ?_) | (with_reducible refine gdY ?_) | (with_reducible refine gdFT ?_) | (with_reducible refine gdTF ?_) | (with_reducible refine gdU ?_) | (with_reducible refine gaY ?_) | (with_reducible refine gaFT ?_) | (with_reducible refine gaTF ?_) | (with_reducible refine pickT ?_) | (with_reducible refine pickF ?_) | (with_reducible refine bi_lss_t (by omega) ?_) | (with_reducible refine bi_lss_f (by omega) ?_) | (with_reducible refine bi_add64 (by omega) ?_) | (with_reducible refine bi_sub64 (by omega) ?_) | (with_reducible refine bi_eql_t (by omega) ?_) | (with_reducible refine bi_eql_f (by omega) ?_) | (with_reducible refine bi_neq_t (by omega) ?_) | (with_reducible refine bi_neq_f (by omega) ?_) | (with_reducible refine bi_gtr_t (by omega) ?_) | (with_reducible refine bi_gtr_f (by omega) ?_) | (with_reducible refine bi_leq_t (by omega) ?_) | (with_reducible refine bi_leq_f (by omega) ?_) | (with_reducible refine bi_geq_t (by omega) ?_) | (with_reducible refine bi_geq_f (by omega) ?_) | (with_reducible refine bi_xt0 ?_) | (with_reducible refine bi_xt1 ?_) | (with_reducible refine bi_xt2 ?_) | (with_reducible refine bi_xt3 ?_) | (with_reducible refine bi_T ?_) | (with_reducible refine bi_F ?_) | (with_reducible refine bi_not ?_) | (with_reducible refine bi_and ?_) | (with_reducible refine bi_or ?_) | (with_reducible refine bi_xor ?_) | (with_reducible refine bi_shr (by omega) (by decide) ?_) | (with_reducible refine bi_shl (by omega) (by decide) ?_) | (with_reducible refine bi_quo64 (by omega) ?_) | (with_reducible refine bi_rem64 (by omega) ?_) | (with_reducible refine bi_mul64 (by omega) ?_) | (with_reducible refine bi_neg ?_) | (with_reducible refine bi_un_xor32 ?_) | (with_reducible refine bi_add ?_) | (with_reducible refine bi_sub ?_) | (with_reducible refine bi_mul ?_) | (with_reducible refine bi_quo (by decide) ?_) | (with_reducible refine bi_rem (by decide) ?_)))
  refine bi_leq ?_
  exact ⟨rfl, ha⟩
/-- maps.DeleteFunc(c.replies, n <= c.floor) -/
theorem DelF_spec (c : Nat → Nat) (x : Nat) (C : Cli) (b1 : Nat) (w : World) (h : CliAt c x w C) (hb1 : Blk w b1 63 #[.pointer (some ⟨C.gc, 0, none⟩)]) :
    CallP Try.prog 46 #[.map (some C.br), .func (.func 47) #[] #[.pointer (some ⟨b1, 0, none⟩)]] (fun r w' => MapI w' C.br ((C.l.filter fun p => decide (C.fl < p.1)).map fun p => (p.1, p.2.val)) ∧ Turns (fun k => k = C.br) w w') w := by
  refine ⟨S46.calls _ _ _ _ ?_⟩
  unfold S46
  have hn1 := map_ne hb1 h.map
  have hn2 := map_ne h.blk h.map
  have hl1 := hb1.lt
  have hl2 := h.blk.lt
  have hl3 := h.map.lt
  have hnd : (C.l.map (·.1)).Nodup := by
    have := h.map.nodup
    rwa [List.map_map] at this
  refine rng und66 h.map ?_
  intro w1 hm1 hbw1
  have hTw1 : Turns (fun k => k = C.br) w w1 := Turns.of_below hbw1
  generalize hr : w.heap.size = r at *
  refine LoopP.inv0n (fun n w' => ∃ todo : List Int, todo.length = n ∧ MapR w' C.br r ((C.l.filter fun p => decide (p.1 ∈ todo ∨ C.fl < p.1)).map fun p => (p.1, p.2.val)) todo ∧ Turns (fun k => k = C.br) w w') (C.l.map (·.1)).length ⟨C.l.map (·.1), rfl, ?_, hTw1⟩ ?_
  · have : (C.l.filter fun p => decide (p.1 ∈ C.l.map (·.1) ∨ C.fl < p.1)) = C.l := List.filter_eq_self.2 fun p hp => by
      simp only [decide_eq_true_eq]
      exact .inl (List.mem_map.2 ⟨p, hp, rfl⟩)
    rw [this]
    rw [List.map_map] at hm1
    exact hm1
  · rintro n w2 ⟨todo, rfl, hm2, hT2⟩ J hJ
    refine nxt hm2 (fun e => ?_) ?_
    · (repeat (first | (with_reducible refine nck ?_) | (with_reducible refine cdT ?_) | (with_reducible refine cdF ?_) | (with_reducible refine gdY ?_) | (with_reducible refine gdFT ?_) | (with_reducible refine gdTF ?_) | (with_reducible refine gdU ?_) | (with_reducible refine gaY ?_) | (with_reducible refine gaFT ?_) | (with_reducible refine gaTF ?_) | (with_reducible refine pickT ?_) | (with_reducible refine pickF ?_) | (with_reducible refine bi_lss_t (by omega) ?_) | (with_reducible refine bi_lss_f (by omega) ?_) | (with_reducible refine bi_add64 (by omega) ?_) | (with_reducible refine bi_sub64 (by omega) ?_) | (with_reducible refine bi_eql_t (by omega) ?_) | (with_reducible refine bi_eql_f (by omega) ?_) | (with_reducible refine bi_neq_t (by omega) ?_) | (with_reducible refine bi_neq_f (by omega) ?_) | (with_reducible refine bi_gtr_t (by omega) ?_) | (with_reducible refine bi_gtr_f (by omega) ?_) | (with_reducible refine bi_leq_t (by omega) ?_) | (with_reducible refine bi_leq_f (by omega) ?_) | (with_reducible refine bi_geq_t (by omega) ?_) | (with_reducible refine bi_geq_f (by omega) ?_) | (with_reducible refine bi_xt0 ?_) | (with_reducible refine bi_xt1 ?_) | (with_reducible refine bi_xt2 ?_) | (with_reducible refine bi_xt3 ?_) | (with_reducible refine bi_T ?_) | (with_reducible refine bi_F ?_) | (with_reducible refine bi_not ?_) | (with_reducible refine bi_and ?_) | (with_reducible refine bi_or ?_) | (with_reducible refine bi_xor ?_) | (with_reducible refine bi_shr (by omega) (by decide) ?_) | (with_reducible refine bi_shl (by omega) (by decide) ?_) | (with_reducible refine bi_quo64 (by omega) ?_) | (with_reducible refine bi_rem64 (by omega) ?_) | (with_reducible refine bi_mul64 (by omega) ?_) | (with_reducible refine bi_neg ?_) | (with_reducible refine bi_un_xor32 ?_) | (with_reducible refine bi_add ?_) | (with_reducible refine bi_sub ?_) | (with_reducible refine bi_mul ?_) | (with_reducible refine bi_quo (by decide) ?_) | (with_reducible refine bi_rem (by decide) ?_)))
      subst e
      have : (C.l.filter fun p => decide (p.1 ∈ ([] : List Int) ∨ C.fl < p.1)) = C.l.filter fun p => decide (C.fl < p.1) := List.filter_congr fun p _ => by simp
      rw [this] at hm2
      exact ⟨hm2.map, hT2⟩
    · intro k v w3 hk hget hm3 hT3 hent
      have hT3' : Turns (fun k => k = C.br) w w3 := hT2.trans (hT3.mono fun j _ e => .inr (by omega))
      rw [getK_map Rp.val] at hget
      obtain ⟨m, hgm, rfl⟩ := Option.map_eq_some_iff.1 hget
      have hmem : (k, m) ∈ C.l := (List.mem_filter.1 (getK_mem _ _ _ hgm)).1
      have hm := h.el _ hmem
      (repeat (first | (with_reducible refine nck ?_) | (with_reducible refine cdT ?_) | (with_reducible refine cdF ?_) | (with_reducible refine gdY ?_) | (with_reducible refine gdFT ?_) | (with_reducible refine gdTF ?_) | (with_reducible refine gdU ?_) | (with_reducible refine gaY ?_) | (with_reducible refine gaFT ?_) | (with_reducible refine gaTF ?_) | (with_reducible refine pickT ?_) | (with_reducible refine pickF ?_) | (with_reducible refine bi_lss_t (by omega) ?_) | (with_reducible refine bi_lss_f (by omega) ?_) | (with_reducible refine bi_add64 (by omega) ?_) | (with_reducible refine bi_sub64 (by omega) ?_) | (with_reducible refine bi_eql_t (by omega) ?_) | (with_reducible refine bi_eql_f (by omega) ?_) | (with_reducible refine bi_neq_t (by omega) ?_) | (with_reducible refine bi_neq_f (by omega) ?_) | (with_reducible refine bi_gtr_t (by omega) ?_) | (with_reducible refine bi_gtr_f (by omega) ?_) | (with_reducible refine bi_leq_t (by omega) ?_) | (with_reducible refine bi_leq_f (by omega) ?_) | (with_reducible refine bi_geq_t (by omega) ?_) | (with_reducible refine bi_geq_f (by omega) ?_) | (with_reducible refine bi_xt0 ?_) | (with_reducible refine bi_xt1 ?_) | (with_reducible refine bi_xt2 ?_) | (with_reducible refine bi_xt3 ?_) | (with_reducible refine bi_T ?_) | (with_reducible refine bi_F ?_) | (with_reducible refine bi_not ?_) | (with_reducible refine bi_and ?_) | (with_reducible refine bi_or ?_) | (with_reducible refine bi_xor ?_) | (with_reducible refine bi_shr (by omega) (by decide) ?_) | (with_reducible refine bi_shl (by omega) (by decide) ?_) | (with_reducible refine bi_quo64 (by omega) ?_) | (with_reducible refine bi_rem64 (by omega) ?_) | (with_reducible refine bi_mul64 (by omega) ?_) | (with_reducible refine bi_neg ?_) | (with_reducible refine bi_un_xor32 ?_) | (with_reducible refine bi_add ?_) | (with_reducible refine bi_sub ?_) | (with_reducible refine bi_mul ?_) | (with_reducible refine bi_quo (by decide) ?_) | (with_reducible refine bi_rem (by decide) ?_)))
      refine lift hent ?_
      (repeat (first | (with_reducible refine nck ?_) | (with_reducible refine cdT ?_) | (with_reducible refine cdF ?_) | (with_reducible refine gdY ?_) | (with_reducible refine gdFT ?_) | (with_reducible refine gdTF ?_) | (with_reducible refine gdU ?_) | (with_reducible refine gaY ?_) | (with_reducible refine gaFT ?_) | (with_reducible refine gaTF ?_) | (with_reducible refine pickT ?_) | (with_reducible refine pickF ?_) | (with_reducible refine bi_lss_t (by omega) ?_) | (with_reducible refine bi_lss_f (by omega) ?_) | (with_reducible refine bi_add64 (by omega) ?_) | (with_reducible refine bi_sub64 (by omega) ?_) | (with_reducible refine bi_eql_t (by omega) ?_) | (with_reducible refine bi_eql_f (by omega) ?_) | (with_reducible refine bi_neq_t (by omega) ?_) | (with_reducible refine bi_neq_f (by omega) ?_) | (with_reducible refine bi_gtr_t (by omega) ?_) | (with_reducible refine bi_gtr_f (by omega) ?_) | (with_reducible refine bi_leq_t (by omega) ?_) | (with_reducible refine bi_leq_f (by omega) ?_) | (with_reducible refine bi_geq_t (by omega) ?_) | (with_reducible refine bi_geq_f (by omega) ?_) | (with_reducible refine bi_xt0 ?_) | (with_reducible refine bi_xt1 ?_) | (with_reducible refine bi_xt2 ?_) | (with_reducible refine bi_xt3 ?_) | (with_reducible refine bi_T ?_) | (with_reducible refine bi_F ?_) | (with_reducible refine bi_not ?_) | (with_reducible refine bi_and ?_) | (with_reducible refine bi_or ?_) | (with_reducible refine bi_xor ?_) | (with_reducible refine bi_shr (by omega) (by decide) ?_) | (with_reducible refine bi_shl (by omega) (by decide) ?_) | (with_reducible refine bi_quo64 (by omega) ?_) | (with_reducible refine bi_rem64 (by omega) ?_) | (with_reducible refine bi_mul64 (by omega) ?_) | (with_reducible refine bi_neg ?_) | (with_reducible refine bi_un_xor32 ?_) | (with_reducible refine bi_add ?_) | (with_reducible refine bi_sub ?_) | (with_reducible refine bi_mul ?_) | (with_reducible refine bi_quo (by decide) ?_) | (with_reducible refine bi_rem (by decide) ?_)))
      refine newRep hm.one rfl ?_
      intro w4 hM4 hb4
      have hT4 := hT3'.then_below hb4
      have hm4 := hm3.below hb4
      refine ldA agg27 hM4 (by exact sz27) ?_
      refine cvl call47 ?_
      show CallP Try.prog 47 #[.int .i64 k, .agg (m.R.cells m.p (.slice none 0 0)), .pointer (some ⟨b1, 0, none⟩)] _ w4
      refine (trim1_spec k m.R m.p _ b1 C.gc C.fl _ w4 (hb1.turns hT4 hn1) (h.blk.turns hT4 hn2)).mono ?_
      rintro _ w5 ⟨rfl, hb5⟩
      have hT5 := hT4.then_below hb5
      have hm5 := hm4.below hb5
      have hlt : (todo.filter fun j => decide (j ≠ k)).length < todo.length := by
        rw [List.length_filter_lt_length_iff_exists]
        exact ⟨k, hk, by simp⟩
      have hnotin : k ∉ todo.filter fun j => decide (j ≠ k) := by simp
      refine CondP.dec (fun hle => ?_) (fun hle => ?_)
      · refine dltR und66 und3 hm5 hnotin ?_
        intro w6 hm6 hT6
        refine hJ _ _ hlt ⟨_, rfl, ?_, hT5.trans (hT6.mono fun j _ e => .inl e)⟩
        rw [delK_map Rp.val, delK_filter k _ ((List.Sublist.map _ List.filter_sublist).nodup hnd), List.filter_filter] at hm6
        have : (C.l.filter fun p => decide (p.1 ≠ k) && decide (p.1 ∈ todo ∨ C.fl < p.1)) = C.l.filter fun p => decide (p.1 ∈ (todo.filter fun j => decide (j ≠ k)) ∨ C.fl < p.1) := List.filter_congr fun p _ => by
          rw [← Bool.decide_and]
          refine decide_eq_decide.2 ?_
          rw [List.mem_filter]
          simp only [decide_eq_true_eq]
          constructor
          · rintro ⟨h1, h2 | h2⟩
            · exact .inl ⟨h2, h1⟩
            · exact .inr h2
          · rintro (⟨h1, h2⟩ | h2)
            · exact ⟨h2, .inl h1⟩
            · exact ⟨fun e => by omega, .inr h2⟩
        rw [this] at hm6
        exact hm6
      · refine hJ _ _ hlt ⟨_, rfl, ?_, hT5⟩
        have : (C.l.filter fun p => decide (p.1 ∈ todo ∨ C.fl < p.1)) = C.l.filter fun p => decide (p.1 ∈ (todo.filter fun j => decide (j ≠ k)) ∨ C.fl < p.1) := List.filter_congr fun p _ => by
          refine decide_eq_decide.2 ?_
          rw [List.mem_filter]
          simp only [decide_eq_true_eq]
          constructor
          · rintro (h1 | h2)
            · by_cases e : p.1 = k
              · exact .inr (by omega)
              · exact .inl ⟨h1, e⟩
            · exact .inr h2
          · rintro (⟨h1, _⟩ | h2)
            · exact .inl h1
            · exact .inr h2
        rw [this] at hm5
        exact hm5
end Go.Proofs.Ytmnaggdhkggjhaa.E
