import Derived.Test.YtmnaggdhkggjhaaGreatDoorM6
namespace Go.Proofs.YtmnaggdhkggjhaaGreatDoor.E
open Go Go.Proofs Go.RowKit Go.Maps Go.Sort Go.Shelf
set_option linter.unusedSimpArgs false
set_option linter.unusedVariables false

/-- The map's words of the library's: whatever the values are. -/
theorem MapI.owns {w : World} {b : Nat} {l : List (Int × Value)} (h : MapI w b l) : ∃ D0 : DataW Unit, w.ownsMap Tryz.prog 3 (fun _ => some (.nil, [])) b l.length D0 ∧ (intKeys D0).Perm (l.map (·.1)) ∧ Maps.size D0 = l.length := by
  have hl := h
  obtain ⟨es, c, h1, h2, hst, hsz, hwf⟩ := h
  have hel : es.size = l.length := by have := congrArg List.length h2; simpa using this
  have hrd : ∀ x ∈ es.toList, ∃ k : Int, x.key = .int .i64 k ∧ WideElems.rd Tryz.prog 3 (fun _ => some ((.nil : DataW Unit), [])) x = some (.int .i64 k, .nil) := by
    intro x hx
    have hm : (x.key, x.val) ∈ es.toList.map (fun e => (e.key, e.val)) := List.mem_map.2 ⟨x, hx, rfl⟩
    rw [h2] at hm
    obtain ⟨p, hp, hpe⟩ := List.mem_map.1 hm
    have hk : x.key = .int .i64 p.1 := (congrArg Prod.fst hpe).symm
    refine ⟨p.1, hk, ?_⟩
    simp [WideElems.rd, hk, keyOf_int_mk und3 (hwf p hp)]
  refine ⟨.map ((es.toList.map (WideElems.rg Tryz.prog 3 fun _ => some (.nil, []))).foldr DataW.insert []), ⟨es, c, h1, ⟨hsz, hst, fun x hx => by obtain ⟨k, _, hk⟩ := hrd x hx; exact ⟨_, hk⟩⟩, by omega, rfl⟩, ?_, ?_⟩
  · have hp := (WideShapes.sorted_perm (es.toList.map (WideElems.rg Tryz.prog 3 fun _ => some ((.nil : DataW Unit), [])))).map fun p => Go.intOf p.1
    refine hp.trans ?_
    have e1 : (es.toList.map (WideElems.rg Tryz.prog 3 fun _ => some ((.nil : DataW Unit), []))).map (fun p => Go.intOf p.1) = l.map (·.1) := by
      have : (es.toList.map fun x => x.key) = l.map fun p => Value.int .i64 p.1 := by
        have := congrArg (List.map Prod.fst) h2
        simpa [List.map_map, Function.comp_def] using this
      have e2 : (es.toList.map (WideElems.rg Tryz.prog 3 fun _ => some ((.nil : DataW Unit), []))).map (fun p => Go.intOf p.1) = (es.toList.map fun x => x.key).map (fun v => match v with | .int _ n => n | _ => 0) := by
        rw [List.map_map, List.map_map]
        refine List.map_congr_left fun x hx => ?_
        obtain ⟨k, hk, hr⟩ := hrd x hx
        simp only [Function.comp]
        rw [WideElems.rg_of hr, hk]
        rfl
      rw [e2, this, List.map_map]
      rfl
    rw [e1]
  · have : (es.toList.map (WideElems.rg Tryz.prog 3 fun _ => some ((.nil : DataW Unit), []))).length = l.length := by rw [List.length_map, Array.length_toList, hel]
    rw [← this]
    exact length_sorted _
theorem keys_spec (b : Nat) (w : World) : CallP Tryz.prog 31 #[.map (some b)] (fun r w' => r = .func (.func 57) #[] #[.pointer (some ⟨w.heap.size, 0, none⟩)] ∧ w' = w.alloc (.cells #[.map (some b)] 61)) w := by
  have h : CallsIn Fence.wide 5 Tryz.prog 31 #[.map (some b)] w fun e w' => e = .returned (.func (.func 57) #[] #[.pointer (some ⟨w.heap.size, 0, none⟩)]) ∧ w' = w.alloc (.cells #[.map (some b)] 61) := AnyZI.keys_in keysA Fence.wide 5 trivial rfl (some b) w
  exact ⟨(callsIn_wide.1 h).mono fun e w' ⟨h1, h2⟩ => ⟨_, h1, rfl, h2⟩⟩
theorem collect_spec (b g : Nat) (l : List (Int × Value)) (w : World) (h : MapI w b l) (hg : w.cell? ⟨g, 0, none⟩ = some (.map (some b))) (hl : l.length ≤ 1000000) :
    CallP Tryz.prog 48 #[.func (.func 57) #[] #[.pointer (some ⟨g, 0, none⟩)]] (fun r w' => ∃ ss : List Int, ss.Perm (l.map (·.1)) ∧ Own 3 w' r (ss.map (Value.int .i64)) ∧ Fresh w.heap.size r ∧ Below w.heap.size w w') w := by
  obtain ⟨D0, hown, hperm, hsize⟩ := h.owns
  have hseq : SeqGives Fence.wide 3 Tryz.prog 57 #[.pointer (some ⟨g, 0, none⟩)] encZ (fun ss => ss.Perm (intKeys D0)) (Maps.size D0) w :=
    AnyZI.keys_gives (ρ := keysA_ren) { keysA with } Fence.wide _ trivial rfl (by omega) g b l.length D0 _ (World.block_lt_of_cell? _ _ hg) hg hown
  have cS := AnyZI.collect_in collectA Fence.wide 5 trivial trivial rfl (by omega) 57 #[.pointer (some ⟨g, 0, none⟩)] trivial (enters_of Tryz.func57 (by kernel_rfl) rfl) _ _ (by rw [hsize]; simp only [maxLen]; omega) (by rw [hsize]; omega) _ hseq
  change CallsIn _ _ Tryz.prog 48 _ _ _ at cS
  refine ⟨(callsIn_wide.1 cS).mono fun e w' ⟨v, ss, h1, hS, hrow, hnil, hb⟩ => ⟨v, h1, ss, hS.trans hperm, ?_, ?_, hb⟩⟩
  · refine ⟨by simp, ?_⟩
    rw [List.length_map]
    rcases hrow.2 with h | ⟨gb, cap, cur, rfl, hbase, hgb, r1, r2, r3, r4⟩
    · exact .inl h
    · exact .inr ⟨gb, cap, cur, rfl, Nat.zero_le _, hgb, r1, r2, r3, r4⟩
  · intro k hk
    rcases hrow.2 with ⟨rfl, _⟩ | ⟨gb, cap, cur, rfl, hbase, _⟩
    · cases hk
    · have : gb = k := by simpa [Value.ownBlock] using hk
      omega
theorem min_spec (v : Value) (ys : List Int) (w : World) (hv : Rd w v (ys.map (Value.int .i64))) (hne : ys ≠ []) (hl : ys.length ≤ 1000000) :
    CallP Tryz.prog 47 #[v] (fun r w' => ∃ m, r = .int .i64 m ∧ m ∈ ys ∧ (∀ y ∈ ys, m ≤ y) ∧ w = w') w := by
  obtain ⟨A, c, rfl, hc1, hc2⟩ := hv.slice
  have hlen : (ys.map (Value.int .i64)).length = ys.length := List.length_map _
  rw [hlen] at hv hc1 ⊢
  have h0 : 0 < ys.length := List.length_pos_iff.2 hne
  refine ⟨S47.calls _ _ _ ?_⟩
  unfold S47
  refine JoinP.cut (fun vs w' => vs = [] ∧ w = w') (fun J hJ => ?_) (fun vs w' hI => ?_)
  · refine ln und51 ?_
    (repeat with_reducible first|refine z_c ?_|refine z_n (by omega) ?_)
    exact hJ _ _ ⟨rfl, rfl⟩
  · obtain ⟨rfl, rfl⟩ := hI
    obtain ⟨a, rfl, hca⟩ := Rd.atI hv 0 h0
    refine ix1 (i := 0) und51 sz3 h0 ?_
    (repeat with_reducible first|refine ld one3 hca ?_)
    refine LoopP.inv2 (fun mv iv w' => ∃ (i : Nat) (m : Int), 1 ≤ i ∧ i ≤ ys.length ∧ iv = .int .i64 i ∧ mv = .int .i64 m ∧ m ∈ ys ∧ (∀ y ∈ ys.take i, m ≤ y) ∧ w = w') (fun _ iv _ => ys.length - (intOf iv).toNat)
      ⟨1, ys[0], Nat.le_refl _, h0, rfl, rfl, List.getElem_mem h0, fun y hy => ?_, rfl⟩ ?_
    · cases ys with
      | nil => simp at h0
      | cons y0 r => simp at hy; subst hy; simp
    rintro _ _ _ ⟨i, m, h1, hi, rfl, rfl, hm, hall, rfl⟩ J hJ
    dsimp only [List.headD_cons, List.tail_cons]
    refine ln und51 ?_
    refine bi_lss_c (fun h => ?_) (fun h => ?_)
    · have hi' : i < ys.length := by omega
      obtain ⟨a', ha', hca'⟩ := Rd.atI hv i hi'
      cases ha'
      (repeat with_reducible first|refine ix1 und51 sz3 hi' ?_|refine ld one3 hca' ?_|refine z_b ?_)
      refine mnI ?_
      (repeat with_reducible first|refine z_o (by omega) ?_)
      refine hJ _ _ _ ⟨i + 1, min m ys[i], by omega, by omega, by simp, rfl, ?_, fun y hy => ?_, rfl⟩ (by simp [intOf]; omega)
      · rcases Int.min_def m ys[i] with e
        rw [e]
        split
        · exact hm
        · exact List.getElem_mem hi'
      · rw [List.take_succ_eq_append_getElem hi'] at hy
        rcases List.mem_append.1 hy with hy | hy
        · have := hall y hy; omega
        · simp only [List.mem_cons, List.not_mem_nil, or_false] at hy
          subst hy; omega
    · (repeat with_reducible first|refine z_c ?_)
      have : i = ys.length := by omega
      subst this
      rw [List.take_length] at hall
      exact ⟨m, rfl, hm, hall, rfl⟩
/-- The least number; what is left behind the trimming. -/
def minK {α : Type} : List (Int × α) → Int
  | [] => 0
  | p :: r => r.foldl (fun a q => min a q.1) p.1
theorem minK_spec {α : Type} (l : List (Int × α)) (h : l ≠ []) : minK l ∈ l.map (·.1) ∧ ∀ y ∈ l.map (·.1), minK l ≤ y := by
  cases l with
  | nil => exact absurd rfl h
  | cons p r =>
    obtain ⟨h1, h2, h3⟩ := foldl_min r p.1
    refine ⟨?_, fun y hy => ?_⟩
    · rcases h1 with h1 | ⟨q, hq, h1⟩
      · exact List.mem_map.2 ⟨p, by simp, h1.symm⟩
      · exact List.mem_map.2 ⟨q, by simp [hq], h1.symm⟩
    · obtain ⟨q, hq, rfl⟩ := List.mem_map.1 hy
      rcases List.mem_cons.1 hq with rfl | hq
      · exact h2
      · exact h3 q hq
def shrink : Nat → Int → List (Int × Rp) → Int × List (Int × Rp)
  | 0, fl, l => (fl, l)
  | n + 1, fl, l => if 4 < l.length then shrink n (minK l) (delK (minK l) l) else (fl, l)
theorem shrink_small (n : Nat) (fl : Int) (l : List (Int × Rp)) (h : l.length ≤ 4) : shrink n fl l = (fl, l) := by
  cases n with
  | zero => rfl
  | succ n => rw [shrink, if_neg (by omega)]
def trimP (fl : Int) (l : List (Int × Rp)) : Int × List (Int × Rp) := shrink (l.filter fun p => decide (fl < p.1)).length fl (l.filter fun p => decide (fl < p.1))
theorem trim_spec (c : Nat → Nat) (x : Nat) (C : Cli) (w : World) (h : CliAt c x w C) (hl : C.l.length ≤ 1000000) :
    CallP Tryz.prog 20 #[.pointer (some ⟨C.gc, 0, none⟩)] (fun r w' => CliAt c x w' ⟨C.gc, C.br, (trimP C.fl C.l).1, (trimP C.fl C.l).2⟩ ∧ Turns (fun k => k = C.gc ∨ k = C.br) w w') w := by
  refine ⟨S20.calls _ _ _ ?_⟩
  unfold S20
  refine bx ?_
  have hB : Blk (w.alloc (.cells (Value.pointer (some ⟨C.gc, 0, none⟩)).cells 58)) w.heap.size 58 #[.pointer (some ⟨C.gc, 0, none⟩)] := Blk.new w 58 _
  have ha := (Below.refl w.heap.size w).alloc (Nat.le_refl _) (.cells (Value.pointer (some ⟨C.gc, 0, none⟩)).cells 58)
  have h1 := h.below ha
  have hgl := h.blk.lt
  have hbl := h.map.lt
  have hTa : Turns (fun k => k = C.gc ∨ k = C.br) w (w.alloc (.cells (Value.pointer (some ⟨C.gc, 0, none⟩)).cells 58)) := Turns.of_below ha
  generalize w.alloc (.cells (Value.pointer (some ⟨C.gc, 0, none⟩)).cells 58) = w1 at *
  have b0 : w1.cell? ⟨w.heap.size, 0, none⟩ = some (.pointer (some ⟨C.gc, 0, none⟩)) := hB.cell 0
  have e1 : w1.cell? ⟨C.gc, 1, none⟩ = some (.map (some C.br)) := h1.blk.cell 1
  (repeat with_reducible first|refine ld one63 b0 ?_|refine fd k1 (by decide) ?_|refine ld one66 e1 ?_|refine z_a ?_)
  refine mkf ?_
  refine (DelF_spec c x C w.heap.size w1 h1 hB).mono ?_
  rintro _ w2 ⟨hm2, hT2⟩
  have hne1 := map_ne hB h1.map
  have hne2 := map_ne h1.blk h1.map
  have hbk2 := h1.blk.turns hT2 hne2
  have hB2 := hB.turns hT2 hne1
  have hrows2 : ∀ p ∈ C.l, RpAt c x w2 p.2 := fun p hp => (h1.el p hp).turns hT2 (fun k hk e => own_nemR (h1.el p hp).own h1.map (by rw [← e]; exact hk))
  have hC2 : CliAt c x w2 ⟨C.gc, C.br, C.fl, C.l.filter fun p => decide (C.fl < p.1)⟩ := ⟨h.hue, h.huem, hbk2, hm2, fun p hp => hrows2 p (List.mem_filter.1 hp).1⟩
  have hTw2 : Turns (fun k => k = C.gc ∨ k = C.br) w w2 := hTa.trans (hT2.mono fun k _ e => .inl (.inr e))
  have hfl : (C.l.filter fun p => decide (C.fl < p.1)).length ≤ C.l.length := List.length_filter_le _ _
  refine LoopP.inv0n (fun n w' => ∃ (fl : Int) (l : List (Int × Rp)), l.length = n ∧ n ≤ 1000000 ∧ shrink n fl l = trimP C.fl C.l ∧ CliAt c x w' ⟨C.gc, C.br, fl, l⟩ ∧ Blk w' w.heap.size 58 #[.pointer (some ⟨C.gc, 0, none⟩)] ∧ Turns (fun k => k = C.gc ∨ k = C.br) w w') _
    ⟨C.fl, C.l.filter fun p => decide (C.fl < p.1), rfl, by omega, rfl, hC2, hB2, hTw2⟩ ?_
  rintro n w3 ⟨fl, l, hn, hn6, hsh, hC3, hB3, hT3⟩ J hJ
  have b3 : w3.cell? ⟨w.heap.size, 0, none⟩ = some (.pointer (some ⟨C.gc, 0, none⟩)) := hB3.cell 0
  have f1 : w3.cell? ⟨C.gc, 1, none⟩ = some (.map (some C.br)) := hC3.blk.cell 1
  (repeat with_reducible first|refine ld one63 b3 ?_|refine fd k1 (by decide) ?_|refine ld one66 f1 ?_|refine z_a ?_)
  refine lnm und66 hC3.map ?_
  rw [List.length_map]
  refine bi_gtr_c (fun hbig => ?_) (fun hbig => ?_)
  · have hbig2 : (4 : Int) < (l.length : Int) := hbig
    have hbig' : 4 < l.length := by omega
    (repeat with_reducible first|refine z_b ?_)
    have hdr : Below w3.heap.size w3 w3.drew := (Below.refl _ _).drew
    have sp : ∀ w', (Blk w' w.heap.size 58 #[.pointer (some ⟨C.gc, 0, none⟩)] ∧ Blk w' C.gc 63 #[.int .i64 fl, .map (some C.br)]) → w'.cell? ⟨w.heap.size, 0, none⟩ = some (.pointer (some ⟨C.gc, 0, none⟩)) := fun w' h => h.1.cell 0
    have sm : ∀ w', (Blk w' w.heap.size 58 #[.pointer (some ⟨C.gc, 0, none⟩)] ∧ Blk w' C.gc 63 #[.int .i64 fl, .map (some C.br)]) → w'.cell? ⟨C.gc, 1, none⟩ = some (.map (some C.br)) := fun w' h => h.2.cell 1
    refine draw (fun w' => Blk w' w.heap.size 58 #[.pointer (some ⟨C.gc, 0, none⟩)] ∧ Blk w' C.gc 63 #[.int .i64 fl, .map (some C.br)]) ⟨hB3.below' hdr, hC3.blk.below' hdr⟩ ?_
    (repeat with_reducible first|refine yl1 one63 sp ?_|refine yfd k1 (by decide) ?_|refine yl1 one66 sm ?_|refine z_W ?_)
    refine act ?_
    refine (keys_spec C.br w3.drew).mono ?_
    rintro _ w4 ⟨rfl, hw4⟩
    have hK : Blk w4 w3.drew.heap.size 61 #[.map (some C.br)] := by rw [hw4]; exact Blk.new _ 61 _
    have hb4 : Below w3.heap.size w3 w4 := by
      rw [hw4]
      exact below_then hdr ((Below.refl w3.drew.heap.size w3.drew).alloc (Nat.le_refl _) (.cells #[.map (some C.br)] 61))
    refine ⟨_, ⟨hB3.below' hb4, hC3.blk.below' hb4⟩, fun _ h => h, ?_⟩
    refine act ?_
    refine (collect_spec C.br w3.drew.heap.size _ w4 (hC3.map.below hb4) (hK.cell 0) (by rw [List.length_map]; show l.length ≤ _; omega)).mono ?_
    rintro r5 w5 ⟨ss, hss, hown, hfr, hb5⟩
    have hb5' := below_then hb4 hb5
    rw [List.map_map] at hss
    have hss' : ss.Perm (l.map (·.1)) := hss
    refine ⟨_, ⟨hB3.below' hb5', hC3.blk.below' hb5'⟩, fun _ h => h, ?_⟩
    have hlne : l ≠ [] := fun e => by rw [e] at hbig'; simp at hbig'
    have hsl : ss.length = l.length := by rw [hss'.length_eq, List.length_map]
    have hsne : ss ≠ [] := fun e => by rw [e] at hsl; simp at hsl; omega
    refine act ?_
    refine (min_spec _ ss w5 hown.rd hsne (by omega)).mono ?_
    rintro _ _ ⟨m, rfl, hm1, hm2', rfl⟩
    have hmm : m = minK l := by
      obtain ⟨q1, q2⟩ := minK_spec l hlne
      exact min_unique hss' hm1 hm2' q1 q2
    subst hmm
    refine ⟨_, ⟨hB3.below' hb5', hC3.blk.below' hb5'⟩, fun _ h => h, ?_⟩
    (repeat with_reducible first|refine yfd k0 (by decide) ?_|refine z_W ?_)
    have hC5 := hC3.below hb5'
    have hB5 := hB3.below' hb5'
    refine st (w := w5) sz3 rfl (by rw [hC5.blk.cell 0]; rfl) (hC5.blk.frozen 0) ?_
    have hT6 := Turns.setCell (F := fun k => k = C.gc) (p := ⟨C.gc, 0, none⟩) (Turns.refl _ w5) (.inl rfl) (.int .i64 (minK l))
    have hne5 : C.gc ≠ C.br := map_ne hC5.blk hC5.map
    have hnb5 : w.heap.size ≠ C.gc := by omega
    have hC6 : CliAt c x (w5.setCell ⟨C.gc, 0, none⟩ (.int .i64 (minK l))) ⟨C.gc, C.br, minK l, l⟩ :=
      ⟨h.hue, h.huem, hC5.blk.set_ 0 _, hC5.map.turns hT6 (fun e => hne5 e.symm), fun p hp => (hC5.el p hp).turns hT6 (fun k hk e => own_neR (hC5.el p hp).own hC5.blk (by decide) (by rw [← e]; exact hk))⟩
    have hB6 := hB5.turns hT6 hnb5
    have hT36 : Turns (fun k => k = C.gc ∨ k = C.br) w (w5.setCell ⟨C.gc, 0, none⟩ (.int .i64 (minK l))) := (hT3.then_below hb5').trans (hT6.mono fun k _ e => .inl (.inl e))
    generalize w5.setCell ⟨C.gc, 0, none⟩ (.int .i64 (minK l)) = w6 at *
    have hdr6 : Below w6.heap.size w6 w6.drew := (Below.refl _ _).drew
    have sp6 : ∀ w', (Blk w' w.heap.size 58 #[.pointer (some ⟨C.gc, 0, none⟩)] ∧ Blk w' C.gc 63 #[.int .i64 (minK l), .map (some C.br)]) → w'.cell? ⟨w.heap.size, 0, none⟩ = some (.pointer (some ⟨C.gc, 0, none⟩)) := fun w' h => h.1.cell 0
    have sm6 : ∀ w', (Blk w' w.heap.size 58 #[.pointer (some ⟨C.gc, 0, none⟩)] ∧ Blk w' C.gc 63 #[.int .i64 (minK l), .map (some C.br)]) → w'.cell? ⟨C.gc, 1, none⟩ = some (.map (some C.br)) := fun w' h => h.2.cell 1
    have sf6 : ∀ w', (Blk w' w.heap.size 58 #[.pointer (some ⟨C.gc, 0, none⟩)] ∧ Blk w' C.gc 63 #[.int .i64 (minK l), .map (some C.br)]) → w'.cell? ⟨C.gc, 0, none⟩ = some (.int .i64 (minK l)) := fun w' h => h.2.cell 0
    refine draw (fun w' => Blk w' w.heap.size 58 #[.pointer (some ⟨C.gc, 0, none⟩)] ∧ Blk w' C.gc 63 #[.int .i64 (minK l), .map (some C.br)]) ⟨hB6.below' hdr6, hC6.blk.below' hdr6⟩ ?_
    (repeat with_reducible first|refine yl1 one63 sp6 ?_|refine yfd k1 (by decide) ?_|refine yl1 one66 sm6 ?_|refine yfd k0 (by decide) ?_|refine yl1 one3 sf6 ?_|refine z_W ?_)
    have hC7 := hC6.below hdr6
    refine dlt und66 und3 hC7.map ?_
    intro w8 hm8 hT8
    rw [delK_map Rp.val] at hm8
    obtain ⟨q1, _⟩ := minK_spec l hlne
    obtain ⟨p0, hp0, hpe⟩ := List.mem_map.1 q1
    have hnd : (l.map (·.1)).Nodup := by
      have := hC3.map.nodup
      rwa [List.map_map] at this
    have hget : getK (minK l) l = some p0.2 := getK_of_mem hnd (by rw [← hpe]; exact hp0)
    have hlen := delK_len _ _ _ hget
    refine hJ (delK (minK l) l).length w8 (by omega) ⟨minK l, delK (minK l) l, rfl, by omega, ?_, ⟨h.hue, h.huem, hC7.blk.turns hT8 hne5, hm8, fun p hp => ?_⟩, (hB6.below' hdr6).turns hT8 (by omega), (hT36.then_below hdr6).trans (hT8.mono fun k _ e => .inl (.inr e))⟩
    · rw [← hsh, show n = (delK (minK l) l).length + 1 from by omega, shrink, if_pos hbig']
    · have hp' := delK_sub _ _ _ hp
      exact (hC7.el p hp').turns hT8 (fun k hk e => own_nemR (hC7.el p hp').own hC7.map (by rw [← e]; exact hk))
  · have hbig2 : ¬ (4 : Int) < (l.length : Int) := hbig
    (repeat with_reducible first|refine z_c ?_)
    rw [shrink_small n fl l (by omega)] at hsh
    rw [← hsh]
    exact ⟨hC3, hT3⟩
end Go.Proofs.YtmnaggdhkggjhaaGreatDoor.E
namespace Go.Proofs.YtmnaggdhkggjhaaGreatDoor.E
open Go Go.RowKit
set_option linter.unusedSimpArgs false
set_option linter.unusedVariables false

theorem when_spec (b : Bool) (e : Int) (w : World) : CallP Tryz.prog 40 #[.bool b, .int .i64 e] (fun r w' => r = .int .i64 (if b then e else 0) ∧ w = w') w := by
  refine ⟨S40.calls _ _ _ _ ?_⟩
  unfold S40
  cases b
  · (repeat with_reducible first|refine z_c ?_)
    exact ⟨rfl, rfl⟩
  · (repeat with_reducible first|refine z_b ?_)
    exact ⟨rfl, rfl⟩
/-- The first that is not nought. -/
def firstP : List Int → Int
  | [] => 0
  | e :: r => if e ≠ 0 then e else firstP r
theorem firstP_drop (ys : List Int) (i : Nat) (h : ∀ y ∈ ys.take i, y = 0) : firstP ys = firstP (ys.drop i) := by
  induction i generalizing ys with
  | zero => rfl
  | succ i ih =>
    cases ys with
    | nil => rfl
    | cons y r =>
      have h0 : y = 0 := h y (by simp)
      rw [List.drop_succ_cons, firstP, if_neg (by omega)]
      exact ih r fun z hz => h z (by simp [hz])
theorem first_spec (v : Value) (ys : List Int) (w : World) (hv : Rd w v (ys.map (Value.int .i64))) (hl : ys.length ≤ 1000000) :
    CallP Tryz.prog 39 #[v] (fun r w' => r = .int .i64 (firstP ys) ∧ w = w') w := by
  obtain ⟨A, c, rfl, hc1, hc2⟩ := hv.slice
  have hlen : (ys.map (Value.int .i64)).length = ys.length := List.length_map _
  rw [hlen] at hv hc1 ⊢
  refine ⟨S39.calls _ _ _ ?_⟩
  unfold S39
  refine ln und97 ?_
  refine LoopP.inv1 (fun iv w' => ∃ i : Nat, i ≤ ys.length ∧ iv = .int .i64 i ∧ (∀ y ∈ ys.take i, y = 0) ∧ w = w') (fun iv _ => ys.length - (intOf iv).toNat) ⟨0, by omega, rfl, by simp, rfl⟩ ?_
  rintro _ _ ⟨i, hi, rfl, hall, rfl⟩ J hJ
  dsimp only [List.headD_cons, List.tail_cons]
  refine bi_lss_c (fun h => ?_) (fun h => ?_)
  · have hi' : i < ys.length := by omega
    obtain ⟨a, rfl, hca⟩ := Rd.atI hv i hi'
    (repeat with_reducible first|refine ix1 und97 sz22 hi' ?_|refine ld one22 hca ?_|refine z_b ?_)
    refine bi_neq_c (fun h0 => ?_) (fun h0 => ?_)
    · (repeat with_reducible first|refine z_b ?_)
      refine ⟨?_, rfl⟩
      rw [firstP_drop ys i hall, List.drop_eq_getElem_cons hi', firstP, if_pos h0]
    · (repeat with_reducible first|refine z_c ?_|refine z_o (by omega) ?_)
      refine hJ _ _ ⟨i + 1, by omega, by simp, fun y hy => ?_, rfl⟩ (by simp [intOf]; omega)
      rw [List.take_succ_eq_append_getElem hi'] at hy
      rcases List.mem_append.1 hy with hy | hy
      · exact hall y hy
      · simp only [List.mem_cons, List.not_mem_nil, or_false] at hy
        subst hy; exact h0
  · (repeat with_reducible first|refine z_c ?_)
    have : i = ys.length := by omega
    subst this
    refine ⟨?_, rfl⟩
    rw [firstP_drop ys ys.length hall, List.drop_length]; rfl
/-- May a value be? -/
def goodV (v : ValT) : Bool :=
  if v.1 = 0 then sameV v (0, 0, ⟨#[]⟩, ()) else if v.1 = 1 then decide (v.2.2.1.data.toList = []) else if v.1 = 2 then decide (v.2.1 = 0) && decide (v.2.2.1.size ≤ 32) else false
theorem good_spec (v : ValT) (w : World) : CallP Tryz.prog 62 #[.agg (valF v).toArray] (fun r w' => r = .bool (goodV v) ∧ Below w.heap.size w w') w := by
  refine ⟨S62.calls _ _ _ ?_⟩
  unfold S62
  refine bx ?_
  have hL : Blk (w.alloc (.cells (Value.agg (valF v).toArray).cells 91)) w.heap.size 91 (valF v).toArray := Blk.new w 91 _
  have ha := (Below.refl w.heap.size w).alloc (Nat.le_refl _) (.cells (Value.agg (valF v).toArray).cells 91)
  generalize w.alloc (.cells (Value.agg (valF v).toArray).cells 91) = w1 at *
  have c0 : w1.cell? ⟨w.heap.size, 0, none⟩ = some (.int .i64 v.1) := hL.cell 0
  have c1 : w1.cell? ⟨w.heap.size, 1, none⟩ = some (.int .i64 v.2.1) := hL.cell 1
  have c2 : w1.cell? ⟨w.heap.size, 2, none⟩ = some (.string v.2.2.1) := hL.cell 2
  unfold goodV
  (repeat with_reducible first|refine fd v0 (by decide) ?_|refine ld one3 c0 ?_)
  refine bi_eql_c (fun h0 => ?_) (fun h0 => ?_)
  · rw [if_pos h0]
    (repeat with_reducible first|refine z_b ?_)
    refine ldA agg36 hL (by exact sz36) ?_
    refine bd (cells := (valF (0, 0, ⟨#[]⟩, ())).toArray) (by kernel_rfl) ?_
    refine ofPR (pr_eql36 v (0, 0, ⟨#[]⟩, ())) ?_
    exact ⟨rfl, ha⟩
  rw [if_neg h0]
  (repeat with_reducible first|refine z_c ?_)
  refine bi_eql_c (fun h1 => ?_) (fun h1 => ?_)
  · rw [if_pos h1]
    (repeat with_reducible first|refine fd v2 (by decide) ?_|refine ld one9 c2 ?_|refine z_b ?_)
    refine bi_seql ?_
    exact ⟨rfl, ha⟩
  rw [if_neg h1]
  (repeat with_reducible first|refine z_c ?_)
  refine bi_eql_c (fun h2 => ?_) (fun h2 => ?_)
  · rw [if_pos h2]
    (repeat with_reducible first|refine fd v1 (by decide) ?_|refine ld one3 c1 ?_|refine z_b ?_)
    refine bi_eql_c (fun h3 => ?_) (fun h3 => ?_)
    · (repeat with_reducible first|refine fd v2 (by decide) ?_|refine ld one9 c2 ?_|refine z_d ?_)
      refine lns und9 ?_
      (repeat with_reducible first|refine z_d ?_)
      refine bi_leq ?_
      (repeat with_reducible first|refine z_k ?_)
      refine ⟨?_, ha⟩
      rw [decide_eq_true h3, Bool.true_and]
      congr 1
      exact decide_eq_decide.2 (by omega)
    · (repeat with_reducible first|refine z_e ?_|refine z_l ?_)
      exact ⟨by rw [decide_eq_false h3]; rfl, ha⟩
  · rw [if_neg h2]
    (repeat with_reducible first|refine z_c ?_)
    exact ⟨rfl, ha⟩
theorem call43 : callable Tryz.prog 42 = true := by kernel_rfl
theorem bad_spec (v : ValT) (w : World) : CallP Tryz.prog 42 #[.agg (valF v).toArray] (fun r w' => r = .bool (!goodV v) ∧ Below w.heap.size w w') w := by
  refine ⟨S42.calls _ _ _ ?_⟩
  unfold S42
  refine bx ?_
  have hL : Blk (w.alloc (.cells (Value.agg (valF v).toArray).cells 91)) w.heap.size 91 (valF v).toArray := Blk.new w 91 _
  have ha := (Below.refl w.heap.size w).alloc (Nat.le_refl _) (.cells (Value.agg (valF v).toArray).cells 91)
  generalize w.alloc (.cells (Value.agg (valF v).toArray).cells 91) = w1 at *
  refine ldA agg36 hL (by exact sz36) ?_
  refine (good_spec v w1).mono ?_
  rintro _ w2 ⟨rfl, hb⟩
  refine bi_not ?_
  exact ⟨rfl, below_then ha hb⟩
theorem any_spec (v : Value) (vs : List ValT) (w : World) (hv : Vals w [v] vs) :
    CallP Tryz.prog 41 #[v, .func (.func 42) #[] #[]] (fun r w' => r = .bool (vs.any fun x => !goodV x) ∧ Below w.heap.size w w') w := by
  obtain ⟨A, c, rfl, hc, hm⟩ := hv.slice
  refine ⟨S41.calls _ _ _ _ ?_⟩
  unfold S41
  have hidx : CallP Tryz.prog 61 #[.slice A vs.length c, .func (.func 42) #[] #[]] (fun r w' => (∃ i : Int, r = .int .i64 i ∧ decide (0 ≤ i) = (vs.any fun x => !goodV x)) ∧ Below w.heap.size w w') w := by
    refine ⟨S61.calls _ _ _ _ ?_⟩
    unfold S61
    refine ln und24 ?_
    refine LoopP.inv1 (fun iv w' => ∃ i : Nat, i ≤ vs.length ∧ iv = .int .i64 i ∧ (∀ x ∈ vs.take i, goodV x = true) ∧ Below w.heap.size w w') (fun iv _ => vs.length - (intOf iv).toNat) ⟨0, by omega, rfl, by simp, Below.refl _ _⟩ ?_
    rintro _ w1 ⟨i, hi, rfl, hall, hb1⟩ J hJ
    dsimp only [List.headD_cons, List.tail_cons]
    refine bi_lss_c (fun h => ?_) (fun h => ?_)
    · have hi' : i < vs.length := by omega
      obtain ⟨a, us, rfl, hus, hcell, hrd⟩ := rRow.at (keeps_Vals _ _ _ _ hb1 hv) i hi'
      have hue := (val_cells hrd).1
      subst hue
      (repeat with_reducible first|refine z_b ?_)
      refine ix und24 sz36 (by omega) (by omega) ?_
      rw [Int.toNat_natCast]
      refine ldR agg36 hcell (by exact sz36) ?_
      refine cvl call43 ?_
      show CallP Tryz.prog 42 #[.agg (valF vs[i]).toArray] _ w1
      refine (bad_spec vs[i] w1).mono ?_
      rintro _ w2 ⟨rfl, hb2⟩
      have hb2' := below_then hb1 hb2
      cases hg : goodV vs[i] with
      | true =>
        simp only [Bool.not_true]
        (repeat with_reducible first|refine z_c ?_|refine z_o (by omega) ?_)
        refine hJ _ _ ⟨i + 1, by omega, by simp, fun x hx => ?_, hb2'⟩ (by simp [intOf]; omega)
        rw [List.take_succ_eq_append_getElem hi'] at hx
        rcases List.mem_append.1 hx with hx | hx
        · exact hall x hx
        · simp only [List.mem_cons, List.not_mem_nil, or_false] at hx
          subst hx; exact hg
      | false =>
        simp only [Bool.not_false]
        (repeat with_reducible first|refine z_b ?_)
        refine ⟨⟨i, rfl, ?_⟩, hb2'⟩
        rw [decide_eq_true (by omega)]
        exact (List.any_eq_true.2 ⟨vs[i], List.getElem_mem hi', by rw [hg]; rfl⟩).symm
    · (repeat with_reducible first|refine z_c ?_)
      refine ⟨⟨-1, rfl, ?_⟩, hb1⟩
      have : i = vs.length := by omega
      subst this
      rw [List.take_length] at hall
      rw [decide_eq_false (by omega)]
      symm
      rw [List.any_eq_false]
      intro x hx
      rw [hall x hx]; simp
  refine hidx.mono ?_
  rintro _ w1 ⟨⟨i, rfl, hi⟩, hb1⟩
  refine bi_geq ?_
  exact ⟨by rw [hi], hb1⟩
/-- What is wrong with a record. -/
def chk (vs : List ValT) : Int := firstP [if decide (vs.length = 0) then 1 else 0, if decide (4 < vs.length) then 4 else 0, if (vs.any fun x => !goodV x) then 1 else 0]
theorem check_spec (v : Value) (vs : List ValT) (w : World) (hv : Vals w [v] vs) : CallP Tryz.prog 17 #[v] (fun r w' => r = .int .i64 (chk vs) ∧ Below w.heap.size w w') w := by
  have hv0 := hv
  obtain ⟨A, c, rfl, hc, hm⟩ := hv.slice
  refine ⟨S17.calls _ _ _ ?_⟩
  unfold S17
  refine ln und24 ?_
  refine bi_eql ?_
  refine (when_spec _ 1 w).mono ?_
  rintro _ _ ⟨rfl, rfl⟩
  refine ln und24 ?_
  refine bi_gtr ?_
  refine (when_spec _ 4 w).mono ?_
  rintro _ _ ⟨rfl, rfl⟩
  refine (any_spec _ vs w hv).mono ?_
  rintro _ w1 ⟨rfl, hb1⟩
  refine (when_spec _ 1 w1).mono ?_
  rintro _ _ ⟨rfl, rfl⟩
  have e1 : decide (((vs.length : Nat) : Int) = 0) = decide (vs.length = 0) := decide_eq_decide.2 (by omega)
  have e2 : decide ((4 : Int) < ((vs.length : Nat) : Int)) = decide (4 < vs.length) := decide_eq_decide.2 (by omega)
  rw [e1, e2]
  unfold chk
  generalize (if decide (vs.length = 0) = true then (1 : Int) else 0) = x1
  generalize (if decide (4 < vs.length) = true then (4 : Int) else 0) = x2
  generalize (if (vs.any fun x => !goodV x) = true then (1 : Int) else 0) = x3
  refine lift (v := .slice (some ⟨w1.heap.size, 0, none⟩) 3 3) (w' := w1.alloc (.cells #[.int .i64 x1, .int .i64 x2, .int .i64 x3] 34)) (by kernel_rfl) ?_
  have ha := (Below.refl w1.heap.size w1).alloc (Nat.le_refl _) (.cells #[.int .i64 x1, .int .i64 x2, .int .i64 x3] 34)
  refine (first_spec _ [x1, x2, x3] _ (Own.new w1 34 [.int .i64 x1, .int .i64 x2, .int .i64 x3] (by simp)).rd (by simp)).mono ?_
  rintro _ _ ⟨rfl, rfl⟩
  exact ⟨rfl, below_then hb1 ha⟩
theorem Floor_tab {hu : Nat} (c : Nat → Nat) (w : World) (g : Nat) (T : List (Int × Cli)) (id : Int) (h : TabC hu c w g T) :
    CallP Tryz.prog 14 #[.pointer (some ⟨g, 0, none⟩), .int .i64 id] (fun r w' => r = .int .i64 (((getK id T).map (·.fl)).getD 0) ∧ w = w') w := by
  obtain ⟨bm, h⟩ := h
  refine ⟨S14.calls _ _ _ _ ?_⟩
  unfold S14
  have c0 : w.cell? ⟨g, 0, none⟩ = some (.map (some bm)) := h.blk.cell 0
  (repeat with_reducible first|refine fd t0 (by decide) ?_|refine ld one58 c0 ?_|refine z_a ?_)
  refine lkq und58 und3 z63 h.map ?_
  rw [getK_map (fun C : Cli => Value.pointer (some ⟨C.gc, 0, none⟩))]
  cases hx : getK id T with
  | none =>
    simp only [Option.map_none, Option.getD_none]
    refine ofPR (pr_pnot und63) ?_
    simp only [Option.isSome_none]
    (repeat with_reducible first|refine z_c ?_)
    first | exact ⟨rfl, rfl⟩ | exact ⟨trivial, rfl⟩
  | some C =>
    simp only [Option.map_some, Option.getD_some]
    refine ofPR (pr_pnot und63) ?_
    have hC := (h.el _ (getK_mem _ _ _ hx)).2
    have e0 : w.cell? ⟨C.gc, 0, none⟩ = some (.int .i64 C.fl) := hC.blk.cell 0
    simp only [Option.isSome_some]
    (repeat with_reducible first|refine fd k0 (by decide) ?_|refine ld one3 e0 ?_|refine z_a ?_|refine z_b ?_)
    exact ⟨rfl, rfl⟩
end Go.Proofs.YtmnaggdhkggjhaaGreatDoor.E
