import Derived.Test.YtmnaggdhkggjhaaGreatDoorM7
import Derived.Test.YtmnaggdhkggjhaaGreatDoorM4
import Derived.Laws.CopyRow
namespace Go.Proofs.YtmnaggdhkggjhaaGreatDoor.E
open Go Go.RowKit
set_option linter.unusedSimpArgs false
set_option linter.unusedVariables false

theorem TabAt.upd {hu : Nat} {c : Nat → Nat} {w w' : World} {g bm : Nat} {T : List (Int × Cli)} {F : Nat → Prop} {id : Int} {C C' : Cli} (h : TabAt hu c w g bm T) (hx : getK id T = some C) (hT : Turns F w w') (hF : ∀ k, F k → c k = hueC hu id)
    (hC : CliAt c (hueC hu id) w' C') (hgc : C'.gc = C.gc) : TabAt hu c w' g bm (setK id C' T) := by
  have hid := (h.el _ (getK_mem _ _ _ hx)).1
  have hnd : (T.map (·.1)).Nodup := by
    have := h.map.nodup
    rwa [List.map_map] at this
  refine ⟨h.hh, h.hue, h.huem, h.blk.turns hT (fun e => by have := hF g e; rw [h.hue] at this; exact hueC_ne hu _ this.symm), ?_, fun p hp => ?_⟩
  · rw [setK_same (fun C : Cli => Value.pointer (some ⟨C.gc, 0, none⟩)) (by rw [hgc]) hx]
    exact h.map.turns hT (fun e => by have := hF bm e; rw [h.huem] at this; exact hueC_ne hu _ this.symm)
  · rcases setK_mem' hnd hp with rfl | ⟨hp, hne⟩
    · exact ⟨hid, hC⟩
    · have h0 := (h.el p hp).1
      exact ⟨h0, (h.el p hp).2.turns hT (fun k hk e => hne (hueC_inj h0 hid ((e.symm).trans (hF k hk))))⟩
/-- Is a request no request? -/
def argP (id n : Int) (R : Rep) (vs : List ValT) (rows : Nat) : Bool :=
  badP id n || decide (0 < rows) || !decide (0 ≤ R.code ∧ R.code ≤ 1099511627776) || !decide (0 ≤ R.id ∧ R.id ≤ 1099511627776) || (decide (0 < vs.length) && decide (chk vs ≠ 0))
theorem lookP_arg (T : List (Int × Cli)) (id n : Int) : (lookP T id n).1 = 1 ↔ badP id n = true := by
  unfold lookP
  cases badP id n
  · simp only [Bool.false_eq_true, if_false]
    constructor
    · intro h
      split at h
      · cases h
      · split at h
        · cases h
        · split at h <;> cases h
    · intro h; cases h
  · simp
/-- What a keeping leaves. -/
def KeepPost (hu : Nat) (c : Nat → Nat) (w : World) (g : Nat) (T : List (Int × Cli)) (id n : Int) (R : Rep) (vs : List ValT) (rows : Nat) (r : Value) (w' : World) : Prop :=
  if argP id n R vs rows = true then r = .int .i64 1 ∧ LeftT hu c w g T w'
  else if (lookP T id n).1 = 12 then r = .int .i64 12 ∧ LeftT hu c w g T w'
  else if (lookP T id n).1 = 0 then r = .int .i64 8 ∧ LeftT hu c w g T w'
  else r = .int .i64 0 ∧ ∃ (C : Cli) (T1 : List (Int × Cli)) (p' : Value), getK id T1 = some C ∧ (match getK id T with | some C0 => T1 = T ∧ C = C0 | none => T1 = T ++ [(id, C)] ∧ C.fl = 0 ∧ C.l = []) ∧
    LeftT hu c w g (setK id ⟨C.gc, C.br, (trimP C.fl (C.l ++ [(n, ⟨R, p', vs⟩)])).1, (trimP C.fl (C.l ++ [(n, ⟨R, p', vs⟩)])).2⟩ T1) w'
theorem LeftT.of_below {hu : Nat} {c : Nat → Nat} {w w' : World} {g : Nat} {T : List (Int × Cli)} (h : TabC hu c w g T) (hb : Below w.heap.size w w') : LeftT hu c w g T w' := ⟨c, fun _ _ => rfl, h.below hb, Turns.of_below hb⟩
theorem Keep_tab {hu : Nat} (c : Nat → Nat) (w : World) (g : Nat) (T : List (Int × Cli)) (id n : Int) (R : Rep) (p q : Value) (vs : List ValT) (rows : List RowT) (h : TabC hu c w g T)
    (hp : Vals w [p] vs) (hpc : vs = [] ∨ ∀ k, p.ownBlock = some k → c k % 1000 ≠ hu) (hq : RowsR w [q] rows) (hvl : vs.length ≤ 1000) (hTl : T.length < 1000000) (hcl : ∀ C, (id, C) ∈ T → C.l.length ≤ 100000) :
    CallP Tryz.prog 7 #[.pointer (some ⟨g, 0, none⟩), .int .i64 id, .int .i64 n, .agg (R.cells p q)] (KeepPost hu c w g T id n R vs rows.length) w := by
  obtain ⟨A, cA, rfl, _, hmA⟩ := hp.slice
  obtain ⟨A', cA', rfl, _, hmA'⟩ := hq.slice
  refine ⟨S7.calls _ _ _ _ _ _ ?_⟩
  unfold S7
  refine bx ?_
  have hB : Blk (w.alloc (.cells (Value.agg (R.cells (.slice A vs.length cA) (.slice A' rows.length cA'))).cells 39)) w.heap.size 39 (R.cells (.slice A vs.length cA) (.slice A' rows.length cA')) := Blk.new w 39 _
  have ha := (Below.refl w.heap.size w).alloc (Nat.le_refl _) (.cells (Value.agg (R.cells (.slice A vs.length cA) (.slice A' rows.length cA'))).cells 39)
  generalize w.alloc (.cells (Value.agg (R.cells (.slice A vs.length cA) (.slice A' rows.length cA'))).cells 39) = w1 at *
  have hc0 := col_lt c w.heap.size 0
  have h1 : TabC hu (col c w.heap.size 0) w1 g T := (h.re hc0).below ha
  refine (Look_tab _ w1 g T id n h1).mono ?_
  rintro _ w2 ⟨p2, rfl, hop2, hfp2, hb2⟩
  have hb2' := below_then ha hb2
  have hB2 := hB.below' hb2
  have h1p : p2.oneCell' = true := by obtain ⟨A, e⟩ := hop2.slice; rw [e]; rfl
  obtain ⟨er, her⟩ : ∃ er, (lookP T id n).1 = er := ⟨_, rfl⟩
  rw [her]
  (repeat with_reducible first|refine z_A ?_|refine z_B ?_)
  refine newRep h1p rfl ?_
  intro w3 _ hb3
  have hb3' := below_then hb2' hb3
  have hB3 := hB2.below' hb3
  have h3 : TabC hu (col c w.heap.size 0) w3 g T := (h1.below hb2).below hb3
  have hbadE : er = 1 ↔ badP id n = true := by rw [← her]; exact lookP_arg T id n
  refine JoinP.cut (fun v w' => v = [.bool (argP id n R vs rows.length)] ∧ Below w3.heap.size w3 w') (fun J hJ => ?_) (fun v w' hI => ?_)
  · refine bi_eql_c (fun h1 => ?_) (fun h1 => ?_)
    · (repeat with_reducible first|refine z_b ?_)
      refine hJ _ _ ⟨?_, Below.refl _ _⟩
      rw [argP, hbadE.1 h1]; rfl
    have hbad : badP id n = false := by
      cases hb : badP id n
      · rfl
      · exact absurd (hbadE.2 hb) h1
    have c3 : w3.cell? ⟨w.heap.size, 3, none⟩ = some (.slice A' rows.length cA') := hB3.cell 3
    have c0 : w3.cell? ⟨w.heap.size, 0, none⟩ = some (.int .i64 R.code) := hB3.cell 0
    have c4 : w3.cell? ⟨w.heap.size, 4, none⟩ = some (.int .i64 R.id) := hB3.cell 4
    have c2 : w3.cell? ⟨w.heap.size, 2, none⟩ = some (.slice A vs.length cA) := hB3.cell 2
    (repeat with_reducible first|refine fd r3 (by decide) ?_|refine ld one25 c3 ?_|refine z_c ?_)
    refine ln und25 ?_
    refine bi_gtr_c (fun h2 => ?_) (fun h2 => ?_)
    · (repeat with_reducible first|refine z_b ?_)
      refine hJ _ _ ⟨?_, Below.refl _ _⟩
      rw [argP, hbad, decide_eq_true (show 0 < rows.length by omega)]; rfl
    have hr0 : decide (0 < rows.length) = false := decide_eq_false (by omega)
    (repeat with_reducible first|refine fd r0 (by decide) ?_|refine ld one22 c0 ?_|refine z_c ?_)
    refine (within_spec R.code 0 w3).mono ?_
    rintro _ _ ⟨rfl, rfl⟩
    refine bi_not ?_
    by_cases h4 : 0 ≤ R.code ∧ R.code ≤ 1099511627776
    · rw [decide_eq_true h4]
      simp only [Bool.not_true]
      (repeat with_reducible first|refine z_c ?_)
      refine fd r4 (by decide) ?_
      refine ld one3 c4 ?_
      refine (within_spec R.id 0 w3).mono ?_
      rintro _ _ ⟨rfl, rfl⟩
      refine bi_not ?_
      by_cases h5 : 0 ≤ R.id ∧ R.id ≤ 1099511627776
      · rw [decide_eq_true h5]
        simp only [Bool.not_true]
        (repeat with_reducible first|refine z_c ?_)
        refine fd r2 (by decide) ?_
        refine ld one24 c2 ?_
        refine ln und24 ?_
        refine bi_gtr_c (fun h6 => ?_) (fun h6 => ?_)
        · (repeat with_reducible first|refine z_d ?_)
          refine fd r2 (by decide) ?_
          (repeat with_reducible first|refine z_d ?_)
          refine ld one24 c2 ?_
          (repeat with_reducible first|refine z_d ?_)
          refine (check_spec _ vs w3 (keeps_Vals _ _ _ _ hb3' hp)).mono ?_
          rintro _ w4 ⟨rfl, hb4⟩
          (repeat with_reducible first|refine z_d ?_)
          refine bi_neq ?_
          (repeat with_reducible first|refine z_k ?_)
          refine hJ _ _ ⟨?_, hb4⟩
          rw [argP, hbad, hr0, decide_eq_true h4, decide_eq_true h5, decide_eq_true (show 0 < vs.length by omega)]
          simp
        · (repeat with_reducible first|refine z_e ?_|refine z_l ?_)
          refine hJ _ _ ⟨?_, Below.refl _ _⟩
          rw [argP, hbad, hr0, decide_eq_true h4, decide_eq_true h5, decide_eq_false (show ¬ 0 < vs.length by omega)]
          rfl
      · rw [decide_eq_false h5]
        simp only [Bool.not_false]
        (repeat with_reducible first|refine z_b ?_)
        refine hJ _ _ ⟨?_, Below.refl _ _⟩
        rw [argP, hbad, hr0, decide_eq_true h4, decide_eq_false h5]; rfl
    · rw [decide_eq_false h4]
      simp only [Bool.not_false]
      (repeat with_reducible first|refine z_b ?_)
      refine hJ _ _ ⟨?_, Below.refl _ _⟩
      rw [argP, hbad, hr0, decide_eq_false h4]; rfl
  · obtain ⟨rfl, hbv⟩ := hI
    have hbv' := below_then hb3' hbv
    have h4 := h3.below hbv
    have hB4 := hB3.below' hbv
    dsimp only [List.headD_cons, List.tail_cons]
    unfold KeepPost
    cases harg : argP id n R vs rows.length with
    | true =>
      (repeat with_reducible first|refine z_b ?_)
      rw [if_pos rfl]
      exact ⟨rfl, LeftT.of_below h hbv'⟩
    | false =>
    (repeat with_reducible first|refine z_c ?_)
    refine bi_eql_c (fun e12 => ?_) (fun e12 => ?_)
    · (repeat with_reducible first|refine z_b ?_)
      rw [if_neg Bool.false_ne_true, her, if_pos e12, e12]
      exact ⟨rfl, LeftT.of_below h hbv'⟩
    (repeat with_reducible first|refine z_c ?_)
    refine bi_eql_c (fun e0 => ?_) (fun e0 => ?_)
    · (repeat with_reducible first|refine z_b ?_)
      rw [if_neg Bool.false_ne_true, her, if_neg e12, if_pos e0]
      exact ⟨rfl, LeftT.of_below h hbv'⟩
    (repeat with_reducible first|refine z_c ?_)
    -- it is kept
    have hbad : badP id n = false := by
      unfold argP at harg
      cases hb : badP id n
      · rfl
      · rw [hb] at harg; simp at harg
    have hidn : (0 ≤ id ∧ id ≤ 1099511627776) ∧ (1 ≤ n ∧ n ≤ 1099511627776) := by
      simpa [badP] using hbad
    refine (client_tab _ w' g T id h4 ⟨hidn.1.1, by omega⟩ hTl).mono ?_
    rintro _ w5 ⟨C, T1, rfl, hx, hT1, c5, hc5, ⟨bm, h5⟩, hT5⟩
    have hxl : getK n C.l = none := by
      have hk : lookP T id n = match getK id T with
          | none => (7, none)
          | some C => if n ≤ C.fl then (12, none) else match getK n C.l with
            | some m => (0, some m)
            | none => (7, none) := by rw [lookP, hbad]; rfl
      cases hg : getK id T with
      | none =>
        rw [hg] at hT1
        rw [hT1.2.2]; rfl
      | some C0 =>
        rw [hg] at hT1 hk
        rw [hT1.2]
        simp only at hk
        rw [hk] at her
        split at her
        · exact absurd her.symm e12
        · split at her
          · exact absurd her.symm e0
          · assumption
    have hlC : C.l.length ≤ 100000 := by
      cases hg : getK id T with
      | none =>
        rw [hg] at hT1
        rw [hT1.2.2]; simp
      | some C0 =>
        rw [hg] at hT1
        have := hcl C0 (getK_mem _ _ _ hg)
        rw [hT1.2]; exact this
    have hwl : w.heap.size < w3.heap.size := hB3.lt
    have hwl' : w.heap.size < w'.heap.size := hB4.lt
    obtain ⟨hh1, hh2⟩ := h5.hh
    have hB5 : Blk w5 w.heap.size 39 (R.cells (.slice A vs.length cA) (.slice A' rows.length cA')) := hB4.turns hT5 (fun hF => by rw [Dh, col_ge _ _ _ (Nat.le_refl _)] at hF; omega)
    have hC5 := (h5.el _ (getK_mem _ _ _ hx)).2
    simp only at hC5
    have hdr : Below w5.heap.size w5 w5.drew := (Below.refl _ _).drew
    have sm : ∀ w', (Blk w' C.gc 63 #[.int .i64 C.fl, .map (some C.br)] ∧ Blk w' w.heap.size 39 (R.cells (.slice A vs.length cA) (.slice A' rows.length cA'))) → w'.cell? ⟨C.gc, 1, none⟩ = some (.map (some C.br)) := fun w' h => h.1.cell 1
    refine draw (fun w' => Blk w' C.gc 63 #[.int .i64 C.fl, .map (some C.br)] ∧ Blk w' w.heap.size 39 (R.cells (.slice A vs.length cA) (.slice A' rows.length cA'))) ⟨hC5.blk.below' hdr, hB5.below' hdr⟩ ?_
    (repeat with_reducible first|refine yfd k1 (by decide) ?_|refine yl1 one66 sm ?_|refine z_W ?_)
    refine yldA agg27 (fun w' h => h.2) (by exact sz27) ?_
    refine act ?_
    -- its values read on
    have hTw5 : Turns (Dh hu c) w w5 := (Turns.of_below hbv').stepH hc0 hT5
    have hp5 : Vals w5 [.slice A vs.length cA] vs := by
      refine rRow.turns rVal_all (keeps_Vals _ _ _ _ hbv' hp) (by decide) hT5 (hpc.imp (fun h => h) fun hpc k hk hD => ?_)
      rcases Nat.lt_or_ge k w.heap.size with hlt | hge
      · rw [Dh, hc0 k hlt] at hD; exact hpc k hk hD
      · rw [Dh, col_ge _ _ _ hge] at hD; omega
    have hpd : Vals w5.drew [.slice A vs.length cA] vs := keeps_Vals _ _ _ _ hdr hp5
    refine (copied_spec R _ _ vs w5.drew hpd rfl (by omega)).mono ?_
    rintro _ w6 ⟨p6, rfl, hop6, hfp6, hb6⟩
    have hb56 : Below w5.heap.size w5 w6 := below_then hdr hb6
    refine ⟨_, ⟨hC5.blk.below' hb56, hB5.below' hb56⟩, fun _ h => h, ?_⟩
    have hs5 := hT5.size
    have hsb := hbv'.size
    have hok := vals_ok hp
    have hc6 : ∀ k, k < w5.heap.size → col c5 w5.heap.size (hueC hu id) k = c5 k := col_lt c5 w5.heap.size _
    have h6 : TabAt hu (col c5 w5.heap.size (hueC hu id)) w5 g bm T1 := h5.re hc6
    have hC6 : CliAt (col c5 w5.heap.size (hueC hu id)) (hueC hu id) w6 C := ((h6.el _ (getK_mem _ _ _ hx)).2).below hb56
    have hrp6 : RpAt (col c5 w5.heap.size (hueC hu id)) (hueC hu id) w6 ⟨R, p6, vs⟩ := ⟨hop6.r, InC.fresh hfp6, hok, hvl⟩
    have hnone : getK n (C.l.map fun p => (p.1, p.2.val)) = none := by rw [getK_map Rp.val, hxl]; rfl
    refine mup und66 und3 hC6.map (wf64 (by omega)) (by rw [List.length_map]; simp only [maxLen]; omega) ?_
    intro w7 hm7 hT7
    rw [setK_new _ _ _ hnone] at hm7
    have hne6 : C.gc ≠ C.br := map_ne hC6.blk hC6.map
    have hC7 : CliAt (col c5 w5.heap.size (hueC hu id)) (hueC hu id) w7 ⟨C.gc, C.br, C.fl, C.l ++ [(n, ⟨R, p6, vs⟩)]⟩ := by
      refine ⟨hC6.hue, hC6.huem, hC6.blk.turns hT7 hne6, ?_, fun p hp => ?_⟩
      · rw [List.map_append]; exact hm7
      · rcases List.mem_append.1 hp with hp | hp
        · exact (hC6.el p hp).turns hT7 (fun k hk e => own_nemR (hC6.el p hp).own hC6.map (by rw [← e]; exact hk))
        · simp only [List.mem_cons, List.not_mem_nil, or_false] at hp
          subst hp
          exact hrp6.turns hT7 (fun k hk e => own_nemR hrp6.own hC6.map (by rw [← e]; exact hk))
    refine (trim_spec _ _ _ w7 hC7 (by simp only [List.length_append, List.length_cons, List.length_nil]; omega)).mono ?_
    rintro _ w8 ⟨hC8, hT8⟩
    rw [if_neg Bool.false_ne_true, her, if_neg e12, if_neg e0]
    refine ⟨rfl, C, T1, p6, hx, hT1, ?_⟩
    have hT58 : Turns (fun k => k = C.gc ∨ k = C.br) w5 w8 := ((Turns.of_below hb56).trans (hT7.mono fun k _ e => .inl (.inr e))).trans (hT8.mono fun k _ e => .inl e)
    have hFc : ∀ k, (k = C.gc ∨ k = C.br) → col c5 w5.heap.size (hueC hu id) k = hueC hu id := by
      rintro k (rfl | rfl)
      · exact hC6.hue
      · exact hC6.huem
    have hag : ∀ k, k < w.heap.size → col c5 w5.heap.size (hueC hu id) k = c k := fun k hk => by
      rw [hc6 k (by omega), hc5 k (by omega), hc0 k hk]
    refine ⟨_, hag, ⟨bm, h6.upd hx hT58 hFc hC8 rfl⟩, hTw5.trans (hT58.mono fun k hk e => ?_)⟩
    rcases Nat.lt_or_ge k w.heap.size with hlt | hge
    · left
      show c k % 1000 = hu
      rw [← hag k hlt, hFc k e, hueC_mod hh2]
    · exact .inr hge
end Go.Proofs.YtmnaggdhkggjhaaGreatDoor.E
namespace Go.Proofs.YtmnaggdhkggjhaaGreatDoor.E
open Go Go.RowKit
set_option linter.unusedSimpArgs false
set_option linter.unusedVariables false

theorem getK_none_mem {α : Type} (k : Int) : ∀ l : List (Int × α), getK k l = none → ∀ p ∈ l, p.1 ≠ k
  | [], _, p, hp => by simp at hp
  | (a, u) :: r, h, p, hp => by
    rw [getK] at h
    split at h
    · cases h
    · rename_i hk
      rcases List.mem_cons.1 hp with rfl | hp
      · exact fun e => hk e.symm
      · exact getK_none_mem k r h p hp
theorem getK_none_of {α : Type} (k : Int) : ∀ l : List (Int × α), (∀ p ∈ l, p.1 ≠ k) → getK k l = none
  | [], _ => rfl
  | (a, u) :: r, h => by
    rw [getK, if_neg (fun e => h (a, u) (by simp) e.symm)]
    exact getK_none_of k r fun p hp => h p (by simp [hp])
theorem getK_perm {α : Type} {l l' : List (Int × α)} (h : l.Perm l') (hn : (l'.map (·.1)).Nodup) (k : Int) : getK k l = getK k l' := by
  cases hx : getK k l with
  | none =>
    refine (getK_none_of k l' fun p hp => ?_).symm
    exact getK_none_mem k l hx p (h.mem_iff.2 hp)
  | some v => exact (getK_of_mem hn (h.mem_iff.1 (getK_mem k v l hx))).symm
def insK {α : Type} (n : Int) (x : α) : List (Int × α) → List (Int × α)
  | [] => [(n, x)]
  | (a, u) :: r => if n < a then (n, x) :: (a, u) :: r else (a, u) :: insK n x r
theorem insK_perm {α : Type} (n : Int) (x : α) : ∀ l : List (Int × α), (insK n x l).Perm ((n, x) :: l)
  | [] => List.Perm.refl _
  | (a, u) :: r => by
    rw [insK]
    split
    · exact List.Perm.refl _
    · exact ((insK_perm n x r).cons (a, u)).trans (List.Perm.swap _ _ _)
def Rising {α : Type} (l : List (Int × α)) : Prop := l.Pairwise fun p q => p.1 < q.1
theorem insK_rising {α : Type} (n : Int) (x : α) : ∀ l : List (Int × α), Rising l → (∀ p ∈ l, p.1 ≠ n) → Rising (insK n x l)
  | [], _, _ => by simp [insK, Rising]
  | (a, u) :: r, h, hne => by
    obtain ⟨h1, h2⟩ := List.pairwise_cons.1 h
    rw [insK]
    split
    · rename_i hlt
      refine List.pairwise_cons.2 ⟨fun p hp => ?_, h⟩
      rcases List.mem_cons.1 hp with rfl | hp
      · exact hlt
      · have := h1 p hp; simp only at this ⊢; omega
    · rename_i hlt
      refine List.pairwise_cons.2 ⟨fun p hp => ?_, insK_rising n x r h2 fun p hp => hne p (by simp [hp])⟩
      have hna := hne (a, u) (by simp)
      rcases List.mem_cons.1 ((insK_perm n x r).mem_iff.1 hp) with rfl | hp
      · simp only at hna ⊢; omega
      · exact h1 p hp
theorem Rising.nodup {α : Type} {l : List (Int × α)} (h : Rising l) : (l.map (·.1)).Nodup := by
  refine List.pairwise_map.2 (h.imp fun hlt e => ?_)
  omega
theorem insK_len {α : Type} (n : Int) (x : α) (l : List (Int × α)) : (insK n x l).length = l.length + 1 := by rw [(insK_perm n x l).length_eq]; rfl

abbrev Rm := Rep × List ValT
abbrev VC := Int × List (Int × Rm)
def Rp.abs (m : Rp) : Rm := (m.R, m.vs)
def absL (l : List (Int × Rp)) : List (Int × Rm) := l.map fun p => (p.1, p.2.abs)
structure GoodV (v : VC) : Prop where
  rise : Rising v.2
  len : v.2.length ≤ 4
  above : ∀ p ∈ v.2, v.1 < p.1
  ok : ∀ p ∈ v.2, ∀ x ∈ p.2.2, valOk x
  key : ∀ p ∈ v.2, 1 ≤ p.1 ∧ p.1 ≤ 1099511627776
  fl : 0 ≤ v.1 ∧ v.1 ≤ 1099511627776
theorem goodV0 : GoodV (0, []) := ⟨List.Pairwise.nil, by simp, fun p hp => by simp at hp, fun p hp => by simp at hp, fun p hp => by simp at hp, by simp⟩
def lookV (v : VC) (n : Int) : Int × Option Rm := if n ≤ v.1 then (12, none) else match getK n v.2 with
  | some m => (0, some m)
  | none => (7, none)
/-- What is too much is forgotten. -/
def cutV (fl : Int) (l : List (Int × Rm)) : VC := match l with
  | [] => (fl, [])
  | p :: r => if 4 < (p :: r).length then (p.1, r) else (fl, p :: r)
def putV (v : VC) (n : Int) (x : Rm) : VC := cutV v.1 (insK n x v.2)
theorem putV_good {v : VC} (h : GoodV v) {n : Int} {x : Rm} (hn : v.1 < n) (hk : 1 ≤ n ∧ n ≤ 1099511627776) (hne : ∀ p ∈ v.2, p.1 ≠ n) (hx : ∀ y ∈ x.2, valOk y) : GoodV (putV v n x) := by
  have hr := insK_rising n x v.2 h.rise hne
  have hl := insK_len n x v.2
  have hm : ∀ p ∈ insK n x v.2, p = (n, x) ∨ p ∈ v.2 := fun p hp => List.mem_cons.1 ((insK_perm n x v.2).mem_iff.1 hp)
  have h4 := h.len
  unfold putV cutV
  cases he : insK n x v.2 with
  | nil => rw [he] at hl; simp at hl
  | cons p r =>
    rw [he] at hr hl hm
    simp only
    split
    · obtain ⟨h1, h2⟩ := List.pairwise_cons.1 hr
      have hp := hm p (by simp)
      refine ⟨h2, by simp at hl ⊢; omega, fun q hq => h1 q hq, fun q hq => ?_, fun q hq => ?_, ?_⟩
      · rcases hm q (by simp [hq]) with rfl | hq
        · exact hx
        · exact h.ok q hq
      · rcases hm q (by simp [hq]) with rfl | hq
        · exact hk
        · exact h.key q hq
      · rcases hp with rfl | hp
        · simp only; omega
        · have := h.key p hp; simp only; omega
    · rename_i hlen
      refine ⟨hr, by simp only; omega, fun q hq => ?_, fun q hq => ?_, fun q hq => ?_, h.fl⟩
      · rcases hm q hq with rfl | hq
        · exact hn
        · exact h.above q hq
      · rcases hm q hq with rfl | hq
        · exact hx
        · exact h.ok q hq
      · rcases hm q hq with rfl | hq
        · exact hk
        · exact h.key q hq
/-- A client in memory is seen so. -/
structure Sees (C : Cli) (v : VC) : Prop where
  fl : C.fl = v.1
  l : (absL C.l).Perm v.2
theorem absL_keys (l : List (Int × Rp)) : (absL l).map (·.1) = l.map (·.1) := by simp [absL, Function.comp_def]
theorem Sees.keys {C : Cli} {v : VC} (h : Sees C v) : (C.l.map (·.1)).Perm (v.2.map (·.1)) := by
  have := h.l.map (·.1)
  rwa [absL_keys] at this
theorem Sees.get {C : Cli} {v : VC} (h : Sees C v) (hg : GoodV v) (n : Int) : (getK n C.l).map Rp.abs = getK n v.2 := by
  rw [← getK_map Rp.abs]
  exact getK_perm h.l hg.rise.nodup n
theorem Sees.nodup {C : Cli} {v : VC} (h : Sees C v) (hg : GoodV v) : (C.l.map (·.1)).Nodup := h.keys.symm.nodup hg.rise.nodup
theorem minK_head {α β : Type} {l : List (Int × α)} {p : Int × β} {r : List (Int × β)} (hp : (l.map (·.1)).Perm ((p :: r).map (·.1))) (hr : Rising (p :: r)) : minK l = p.1 := by
  have hne : l ≠ [] := fun e => by have := hp.length_eq; rw [e] at this; simp at this
  obtain ⟨q1, q2⟩ := minK_spec l hne
  refine min_unique hp q1 q2 (by simp) fun y hy => ?_
  obtain ⟨q, hq, rfl⟩ := List.mem_map.1 hy
  rcases List.mem_cons.1 hq with rfl | hq
  · exact Int.le_refl _
  · have := (List.pairwise_cons.1 hr).1 q hq; omega
theorem perm_filter_tail {l : List (Int × Rm)} {p : Int × Rm} {r : List (Int × Rm)} (h : l.Perm (p :: r)) (hr : Rising (p :: r)) (hn : (l.map (·.1)).Nodup) : (delK p.1 l).Perm r := by
  rw [delK_filter p.1 l hn]
  have h1 := h.filter fun q => decide (q.1 ≠ p.1)
  refine h1.trans ?_
  rw [List.filter_cons]
  simp only [ne_eq, not_true_eq_false, decide_false, Bool.false_eq_true, if_false]
  rw [List.filter_eq_self.2 fun q hq => ?_]
  have := (List.pairwise_cons.1 hr).1 q hq
  simp only [decide_eq_true_eq]
  omega
/-- A new answer, and the trimming behind it. -/
theorem Sees.put {C : Cli} {v : VC} (h : Sees C v) (hg : GoodV v) {n : Int} {m : Rp} (hn : v.1 < n) (hne : ∀ p ∈ v.2, p.1 ≠ n) (gc br : Nat) :
    Sees ⟨gc, br, (trimP C.fl (C.l ++ [(n, m)])).1, (trimP C.fl (C.l ++ [(n, m)])).2⟩ (putV v n m.abs) := by
  have hall : (C.l ++ [(n, m)]).filter (fun p => decide (C.fl < p.1)) = C.l ++ [(n, m)] := List.filter_eq_self.2 fun p hp => by
    simp only [decide_eq_true_eq]
    rw [h.fl]
    rcases List.mem_append.1 hp with hp | hp
    · have : p.1 ∈ C.l.map (·.1) := List.mem_map.2 ⟨p, hp, rfl⟩
      rw [h.keys.mem_iff] at this
      obtain ⟨q, hq, he⟩ := List.mem_map.1 this
      rw [← he]; exact hg.above q hq
    · simp only [List.mem_cons, List.not_mem_nil, or_false] at hp
      subst hp; exact hn
  have hperm : (absL (C.l ++ [(n, m)])).Perm (insK n m.abs v.2) := by
    refine List.Perm.trans ?_ (insK_perm n m.abs v.2).symm
    unfold absL
    rw [List.map_append]
    refine (List.perm_append_comm).trans ?_
    exact h.l.cons _
  have hr := insK_rising n m.abs v.2 hg.rise hne
  have hlen : (C.l ++ [(n, m)]).length = (insK n m.abs v.2).length := by have := hperm.length_eq; simpa [absL] using this
  have hl5 : (insK n m.abs v.2).length ≤ 5 := by rw [insK_len]; have := hg.len; omega
  have htr : trimP C.fl (C.l ++ [(n, m)]) = shrink (C.l ++ [(n, m)]).length C.fl (C.l ++ [(n, m)]) := by unfold trimP; rw [hall]
  rw [htr]
  generalize C.l ++ [(n, m)] = L at *
  unfold putV cutV
  cases he : insK n m.abs v.2 with
  | nil => have := insK_len n m.abs v.2; rw [he] at this; simp at this
  | cons p r =>
    rw [he] at hperm hr hlen hl5
    simp only
    split
    · rename_i h4
      have hk : minK L = p.1 := minK_head (l := L) (p := p) (r := r) (by have := hperm.map (·.1); rwa [absL_keys] at this) hr
      have hnd : (L.map (·.1)).Nodup := by
        have := (hperm.map (·.1)).symm.nodup hr.nodup
        rwa [absL_keys] at this
      have h5 : L.length = 4 + 1 := by omega
      have hd : (absL (delK p.1 L)).Perm r := by
        unfold absL
        rw [← delK_map Rp.abs]
        exact perm_filter_tail hperm hr (by have := absL_keys L; unfold absL at this; rw [this]; exact hnd)
      have hdl : (delK p.1 L).length ≤ 4 := by
        have := hd.length_eq
        simp only [absL, List.length_map, List.length_cons] at this hl5
        omega
      rw [h5, shrink, if_pos (by omega), hk, shrink_small _ _ _ hdl]
      exact ⟨rfl, hd⟩
    · rename_i h4
      rw [shrink_small _ _ _ (by omega)]
      exact ⟨h.fl, hperm⟩
end Go.Proofs.YtmnaggdhkggjhaaGreatDoor.E
namespace Go.Proofs.YtmnaggdhkggjhaaGreatDoor.E
open Go Go.RowKit
set_option linter.unusedSimpArgs false
set_option linter.unusedVariables false

theorem setK_len {α : Type} {k : Int} {v u : α} : ∀ {l : List (Int × α)}, getK k l = some u → (setK k v l).length = l.length
  | [], h => by cases h
  | (a, x) :: r, h => by
    rw [getK] at h
    rw [setK]
    split at h
    · rename_i hk; rw [if_pos hk]; rfl
    · rename_i hk; rw [if_neg hk, List.length_cons, setK_len h, List.length_cons]
theorem getK_setK_same {α : Type} {k : Int} {v : α} : ∀ {l : List (Int × α)}, getK k (setK k v l) = some v
  | [] => by simp [setK, getK]
  | (a, x) :: r => by
    rw [setK]
    split
    · simp [getK]
    · rename_i hk; rw [getK, if_neg hk, getK_setK_same]
theorem getK_setK_other {α : Type} {k i : Int} (v : α) : ∀ (l : List (Int × α)), i ≠ k → getK i (setK k v l) = getK i l
  | [], h => by simp [setK, getK, h]
  | (a, x) :: r, h => by
    rw [setK]
    split
    · rename_i hk; subst hk; rw [getK, getK, if_neg h, if_neg h]
    · rw [getK, getK, getK_setK_other v r h]
theorem getK_app_other {α : Type} {k i : Int} (v : α) : ∀ (l : List (Int × α)), i ≠ k → getK i (l ++ [(k, v)]) = getK i l
  | [], h => by simp [getK, h]
  | (a, x) :: r, h => by rw [List.cons_append, getK, getK, getK_app_other v r h]
def SeesO (o : Option Cli) (v : VC) : Prop := match o with
  | none => v = (0, [])
  | some C => Sees C v
/-- A table in memory, in its colour: what is known of each client; there are at most N clients. -/
structure TabV (hu : Nat) (c : Nat → Nat) (w : World) (g : Nat) (V : Int → VC) (N : Nat) : Prop where
  good : ∀ id, GoodV (V id)
  out : ∃ T, TabC hu c w g T ∧ (T.length ≤ N ∧ ∀ p ∈ T, p.2.l ≠ []) ∧ ∀ id, SeesO (getK id T) (V id)
def V0 : Int → VC := fun _ => (0, [])
def setV (V : Int → VC) (id : Int) (v : VC) : Int → VC := fun i => if i = id then v else V i
theorem setV_same (V : Int → VC) (id : Int) (v : VC) : setV V id v id = v := by simp [setV]
theorem setV_other (V : Int → VC) {id i : Int} (v : VC) (h : i ≠ id) : setV V id v i = V i := by simp [setV, h]
section
variable {hu : Nat} {c c' : Nat → Nat} {w w' : World} {g : Nat} {V : Int → VC} {N : Nat}
theorem TabV.turns {F : Nat → Prop} (h : TabV hu c w g V N) (hT : Turns F w w') (hF : ∀ k, F k → c k % 1000 ≠ hu) : TabV hu c w' g V N := by
  obtain ⟨T, h1, h2⟩ := h.out
  exact ⟨h.good, T, h1.turns hT hF, h2⟩
theorem TabV.below (h : TabV hu c w g V N) (hb : Below w.heap.size w w') : TabV hu c w' g V N := by
  obtain ⟨T, h1, h2⟩ := h.out
  exact ⟨h.good, T, h1.below hb, h2⟩
theorem TabV.re (h : TabV hu c w g V N) (hc : ∀ k, k < w.heap.size → c' k = c k) : TabV hu c' w g V N := by
  obtain ⟨T, h1, h2⟩ := h.out
  exact ⟨h.good, T, h1.re hc, h2⟩
theorem TabV.mono (h : TabV hu c w g V N) {M : Nat} (hm : N ≤ M) : TabV hu c w g V M := by
  obtain ⟨T, h1, h2, h3⟩ := h.out
  exact ⟨h.good, T, h1, ⟨by omega, h2.2⟩, h3⟩
theorem TabV.hh (h : TabV hu c w g V N) : 0 < hu ∧ hu < 1000 := by
  obtain ⟨T, ⟨bm, h1⟩, _⟩ := h.out
  exact h1.hh
theorem TabV.other {hu2 : Nat} (h : TabV hu2 c w g V N) (hT : Turns (Dh hu c) w w') (hne : hu ≠ hu2) (hc : ∀ k, k < w.heap.size → c' k = c k) : TabV hu2 c' w' g V N := by
  refine (h.re hc).turns (F := fun k => Dh hu c k ∧ k < w.heap.size) ⟨hT.os, hT.tape, hT.output, hT.size, fun k hk hF => hT.block k hk fun e => hF ⟨e, hk⟩⟩ fun k hk => ?_
  rw [hc k hk.2, hk.1]; exact hne
end
theorem New_V (hu : Nat) (hh : 0 < hu ∧ hu < 1000) (c : Nat → Nat) (w : World) : CallP Tryz.prog 6 #[] (fun r w' => ∃ g c', r = .pointer (some ⟨g, 0, none⟩) ∧ (∀ k, k < w.heap.size → c' k = c k) ∧ TabV hu c' w' g V0 0 ∧ Below w.heap.size w w') w := by
  refine (New_tab hu hh c w).mono ?_
  rintro _ w' ⟨g, c', rfl, h1, h2, h3⟩
  exact ⟨g, c', rfl, h1, ⟨fun _ => goodV0, [], h2, ⟨by simp, by simp⟩, fun _ => rfl⟩, h3⟩
def lookQ (V : Int → VC) (id n : Int) : Int × Option Rm := if badP id n then (1, none) else lookV (V id) n
theorem lookP_V {T : List (Int × Cli)} {V : Int → VC} (hg : ∀ id, GoodV (V id)) (h : ∀ id, SeesO (getK id T) (V id)) (id n : Int) : (lookP T id n).1 = (lookQ V id n).1 ∧ (lookP T id n).2.map Rp.abs = (lookQ V id n).2 := by
  unfold lookP lookQ
  split
  · exact ⟨rfl, rfl⟩
  · rename_i hbad
    have hn : 1 ≤ n := by
      simp only [badP, Bool.not_eq_true, Bool.not_eq_false', Bool.and_eq_true, decide_eq_true_eq] at hbad
      omega
    have h1 := h id
    cases hx : getK id T with
    | none =>
      rw [hx] at h1
      have h1 : V id = (0, []) := h1
      rw [h1, lookV, if_neg (by simp only; omega)]
      exact ⟨rfl, rfl⟩
    | some C =>
      rw [hx] at h1
      have h1 : Sees C (V id) := h1
      have h2 := h1.get (hg id) n
      unfold lookV
      simp only
      rw [← h2, h1.fl]
      split
      · exact ⟨rfl, rfl⟩
      · cases getK n C.l <;> exact ⟨rfl, rfl⟩
def toldQR (o : Option Rm) : Rep := (o.map (·.1)).getD zeroRep
def toldQV (o : Option Rm) : List ValT := (o.map (·.2)).getD []
/-- What a look tells: the error; a reply with values of its own. -/
def LookQ (w : World) (o : Int × Option Rm) (r : Value) (w' : World) : Prop :=
  ∃ p', r = .tuple #[.agg ((toldQR o.2).cells p' (.slice none 0 0)), .int .i64 o.1] ∧ OwnS 3 91 w' p' (toldQV o.2).length ((toldQV o.2).flatMap valF) ∧ Fresh w.heap.size p' ∧ Below w.heap.size w w'
theorem Look_V {hu : Nat} {c : Nat → Nat} {w : World} {g : Nat} {V : Int → VC} {N : Nat} (id n : Int) (h : TabV hu c w g V N) :
    CallP Tryz.prog 13 #[.pointer (some ⟨g, 0, none⟩), .int .i64 id, .int .i64 n] (LookQ w (lookQ V id n)) w := by
  obtain ⟨T, h1, h2, h3⟩ := h.out
  refine (Look_tab c w g T id n h1).mono ?_
  rintro _ w' ⟨p', rfl, ho, hf, hb⟩
  obtain ⟨e1, e2⟩ := lookP_V h.good h3 id n
  have eR : toldQR (lookQ V id n).2 = toldR (lookP T id n).2 := by rw [← e2]; cases (lookP T id n).2 <;> rfl
  have eV : toldQV (lookQ V id n).2 = toldV (lookP T id n).2 := by rw [← e2]; cases (lookP T id n).2 <;> rfl
  unfold LookQ
  rw [eR, eV, ← e1]
  exact ⟨p', rfl, ho, hf, hb⟩
theorem lookV_mem {v : VC} {n : Int} {m : Rm} (h : (lookV v n).2 = some m) : (n, m) ∈ v.2 := by
  unfold lookV at h
  split at h
  · cases h
  · split at h
    · rename_i m' hm
      simp only [Option.some.injEq] at h
      subst h
      exact getK_mem _ _ _ hm
    · cases h
theorem lookQ_ok {V : Int → VC} (hg : ∀ id, GoodV (V id)) (id n : Int) : ∀ x ∈ toldQV (lookQ V id n).2, valOk x := by
  intro x hx
  cases ho : (lookQ V id n).2 with
  | none => rw [ho] at hx; simp [toldQV] at hx
  | some m =>
    rw [ho] at hx
    unfold lookQ at ho
    split at ho
    · cases ho
    · exact (hg id).ok _ (lookV_mem ho) x hx
def keepQ (V : Int → VC) (id n : Int) (R : Rep) (vs : List ValT) (rows : Nat) : Int × (Int → VC) :=
  if argP id n R vs rows = true then (1, V) else if (lookQ V id n).1 = 12 then (12, V) else if (lookQ V id n).1 = 0 then (8, V) else (0, setV V id (putV (V id) n (R, vs)))
theorem lookQ_new {V : Int → VC} {id n : Int} (h1 : (lookQ V id n).1 ≠ 1) (h12 : (lookQ V id n).1 ≠ 12) (h0 : (lookQ V id n).1 ≠ 0) : (0 ≤ id ∧ id ≤ 1099511627776) ∧ (1 ≤ n ∧ n ≤ 1099511627776) ∧ (V id).1 < n ∧ ∀ p ∈ (V id).2, p.1 ≠ n := by
  unfold lookQ at h1 h12 h0
  split at h1
  · exact absurd rfl h1
  · rename_i hbad
    rw [if_neg hbad] at h12 h0
    unfold lookV at h12 h0
    split at h12
    · exact absurd rfl h12
    · rename_i hle
      rw [if_neg hle] at h0
      simp only [badP, Bool.not_eq_true, Bool.not_eq_false', Bool.and_eq_true, decide_eq_true_eq] at hbad
      refine ⟨hbad.1, hbad.2, by omega, ?_⟩
      cases hx : getK n (V id).2 with
      | none => exact getK_none_mem _ _ hx
      | some m => rw [hx] at h0; exact absurd rfl h0
theorem argP_bad {id n : Int} {R : Rep} {vs : List ValT} {rows : Nat} (h : argP id n R vs rows = false) : badP id n = false := by
  unfold argP at h
  cases hb : badP id n
  · rfl
  · rw [hb] at h; simp at h
theorem lookQ_bad {V : Int → VC} {id n : Int} (h : badP id n = false) : (lookQ V id n).1 ≠ 1 := by
  rw [lookQ, if_neg (by rw [h]; exact Bool.false_ne_true)]
  unfold lookV
  split
  · decide
  · split <;> simp
theorem keepQ_good {V : Int → VC} (hg : ∀ id, GoodV (V id)) (id n : Int) (R : Rep) (vs : List ValT) (rows : Nat) (hvs : ∀ x ∈ vs, valOk x) : ∀ i, GoodV ((keepQ V id n R vs rows).2 i) := by
  intro i
  unfold keepQ
  split
  · exact hg i
  · rename_i harg
    split
    · exact hg i
    · rename_i h12
      split
      · exact hg i
      · rename_i h0
        obtain ⟨_, h2, h3, h4⟩ := lookQ_new (lookQ_bad (argP_bad (by simpa using harg))) h12 h0
        simp only [setV]
        split
        · exact putV_good (hg id) h3 h2 h4 hvs
        · exact hg i
theorem putV_ne (v : VC) (n : Int) (x : Rm) : (putV v n x).2 ≠ [] := by
  have hl := insK_len n x v.2
  unfold putV cutV
  cases he : insK n x v.2 with
  | nil => rw [he] at hl; simp at hl
  | cons p r =>
    rw [he] at hl
    simp only
    split
    · rename_i h
      simp only [List.length_cons] at h
      intro e
      simp only at e
      rw [e] at h
      simp at h
    · simp
theorem Keep_V {hu : Nat} {c : Nat → Nat} {w : World} {g : Nat} {V : Int → VC} {N : Nat} (id n : Int) (R : Rep) (p q : Value) (vs : List ValT) (rows : List RowT) (h : TabV hu c w g V N)
    (hp : Vals w [p] vs) (hpc : vs = [] ∨ ∀ k, p.ownBlock = some k → c k % 1000 ≠ hu) (hq : RowsR w [q] rows) (hvl : vs.length ≤ 1000) (hN : N < 1000000) :
    CallP Tryz.prog 7 #[.pointer (some ⟨g, 0, none⟩), .int .i64 id, .int .i64 n, .agg (R.cells p q)]
      (fun r w' => r = .int .i64 (keepQ V id n R vs rows.length).1 ∧ ∃ c', (∀ k, k < w.heap.size → c' k = c k) ∧ TabV hu c' w' g (keepQ V id n R vs rows.length).2 (N + 1) ∧ Turns (Dh hu c) w w') w := by
  obtain ⟨T, h1, h2, h3⟩ := h.out
  have hg := h.good
  have hlenC : ∀ C, (id, C) ∈ T → C.l.length ≤ 100000 := by
    intro C hC
    obtain ⟨bm, hT⟩ := h1
    have hnd : (T.map (·.1)).Nodup := by
      have := hT.map.nodup
      rwa [List.map_map] at this
    have := h3 id
    rw [getK_of_mem hnd hC] at this
    have hs : Sees C (V id) := this
    have := hs.l.length_eq
    have h4 := (hg id).len
    simp only [absL, List.length_map] at this
    omega
  have hvs := vals_ok hp
  have hgood := keepQ_good hg id n R vs rows.length hvs
  refine (Keep_tab c w g T id n R p q vs rows h1 hp hpc hq hvl (by omega) hlenC).mono ?_
  intro r w' hk
  obtain ⟨e1, e2⟩ := lookP_V hg h3 id n
  unfold KeepPost at hk
  have leave : ∀ {e : Int}, r = .int .i64 e ∧ LeftT hu c w g T w' → keepQ V id n R vs rows.length = (e, V) → r = .int .i64 (keepQ V id n R vs rows.length).1 ∧ ∃ c', (∀ k, k < w.heap.size → c' k = c k) ∧ TabV hu c' w' g (keepQ V id n R vs rows.length).2 (N + 1) ∧ Turns (Dh hu c) w w' := by
    rintro e ⟨rfl, c', hc, hT, hTu⟩ hke
    rw [hke]
    exact ⟨rfl, c', hc, ⟨hg, T, hT, ⟨by omega, h2.2⟩, h3⟩, hTu⟩
  by_cases harg : argP id n R vs rows.length = true
  · rw [if_pos harg] at hk
    exact leave hk (by rw [keepQ, if_pos harg])
  rw [if_neg harg, e1] at hk
  by_cases h12 : (lookQ V id n).1 = 12
  · rw [if_pos h12] at hk
    exact leave hk (by rw [keepQ, if_neg harg, if_pos h12])
  rw [if_neg h12] at hk
  by_cases h0 : (lookQ V id n).1 = 0
  · rw [if_pos h0] at hk
    exact leave hk (by rw [keepQ, if_neg harg, if_neg h12, if_pos h0])
  rw [if_neg h0] at hk
  have hke : keepQ V id n R vs rows.length = (0, setV V id (putV (V id) n (R, vs))) := by rw [keepQ, if_neg harg, if_neg h12, if_neg h0]
  obtain ⟨rfl, C, T1, p', hx, hT1, c', hc, hT, hTu⟩ := hk
  rw [hke] at hgood ⊢
  obtain ⟨_, hn2, hn3, hn4⟩ := lookQ_new (lookQ_bad (argP_bad (by simpa using harg))) h12 h0
  have hsee : Sees C (V id) := by
    have := h3 id
    cases hg0 : getK id T with
    | none =>
      rw [hg0] at hT1 this
      have hv : V id = (0, []) := this
      rw [hv]
      exact ⟨hT1.2.1, by rw [hT1.2.2]; exact List.Perm.refl _⟩
    | some C0 =>
      rw [hg0] at hT1 this
      rw [hT1.2]; exact this
  have hput := hsee.put (hg id) (m := ⟨R, p', vs⟩) hn3 hn4 C.gc C.br
  have hl0 : T.length ≤ N := h2.1
  refine ⟨rfl, c', hc, ⟨hgood, _, hT, ⟨?_, fun p hp => ?_⟩, fun i => ?_⟩, hTu⟩
  · have hl1 : T1.length ≤ N + 1 := by
      cases hg0 : getK id T with
      | none => rw [hg0] at hT1; rw [hT1.1]; simp; omega
      | some C0 => rw [hg0] at hT1; rw [hT1.1]; omega
    rw [setK_len hx]; exact hl1
  · obtain ⟨bm, h1'⟩ := h1
    have hnd : (T.map (·.1)).Nodup := by
      have := h1'.map.nodup
      rwa [List.map_map] at this
    have hnd1 : (T1.map (·.1)).Nodup ∧ ∀ q ∈ T1, q.1 ≠ id → q ∈ T := by
      cases hg0 : getK id T with
      | none =>
        rw [hg0] at hT1
        rw [hT1.1]
        refine ⟨?_, fun q hq hne => ?_⟩
        · rw [List.map_append, List.nodup_append]
          refine ⟨hnd, by simp, fun a ha b hb e => ?_⟩
          obtain ⟨q, hq, rfl⟩ := List.mem_map.1 ha
          simp only [List.map_cons, List.map_nil, List.mem_singleton] at hb
          exact getK_none_mem _ _ hg0 q hq (by rw [e, hb])
        · rcases List.mem_append.1 hq with h | h
          · exact h
          · rw [List.mem_singleton.1 h] at hne; exact absurd rfl hne
      | some C0 => rw [hg0] at hT1; rw [hT1.1]; exact ⟨hnd, fun q hq _ => hq⟩
    rcases setK_mem' hnd1.1 hp with rfl | ⟨hp, hne⟩
    · intro e
      have e : (trimP C.fl (C.l ++ [(n, (⟨R, p', vs⟩ : Rp))])).2 = [] := e
      have h5 := hput.l.length_eq
      simp only [e, absL, List.map_nil, List.length_nil] at h5
      exact putV_ne _ _ _ (List.eq_nil_of_length_eq_zero h5.symm)
    · exact h2.2 p (hnd1.2 p hp hne)
  · by_cases hi : i = id
    · subst hi
      show SeesO _ (setV V i _ i)
      rw [setV_same, getK_setK_same]
      exact hsee.put (hg i) (m := ⟨R, p', vs⟩) hn3 hn4 C.gc C.br
    · show SeesO _ (setV V id _ i)
      rw [setV_other _ _ hi, getK_setK_other _ _ hi]
      have := h3 i
      cases hg0 : getK id T with
      | none =>
        rw [hg0] at hT1
        rw [hT1.1, getK_app_other _ _ hi]; exact this
      | some C0 => rw [hg0] at hT1; rw [hT1.1]; exact this
theorem Floor_V {hu : Nat} {c : Nat → Nat} {w : World} {g : Nat} {V : Int → VC} {N : Nat} (id : Int) (h : TabV hu c w g V N) :
    CallP Tryz.prog 14 #[.pointer (some ⟨g, 0, none⟩), .int .i64 id] (fun r w' => r = .int .i64 (V id).1 ∧ w = w') w := by
  obtain ⟨T, h1, h2, h3⟩ := h.out
  refine (Floor_tab c w g T id h1).mono ?_
  rintro _ w' ⟨rfl, rfl⟩
  refine ⟨?_, rfl⟩
  have := h3 id
  cases hx : getK id T with
  | none =>
    rw [hx] at this
    have hv : V id = (0, []) := this
    rw [hv]; rfl
  | some C =>
    rw [hx] at this
    have hs : Sees C (V id) := this
    rw [← hs.fl]; rfl
end Go.Proofs.YtmnaggdhkggjhaaGreatDoor.E
namespace Go.Proofs.YtmnaggdhkggjhaaGreatDoor.E
open Go Go.RowKit

section
variable {P : Program} {K : Value → World → Prop} {S : World → Prop} {w : World}
/-- x[i], any element size. -/
theorem ixN {t e : TypeId} (h : P.underlying t = some (.slice e)) {s : Nat} (hs : (P.info? e).map (·.size) = some s) {a : Addr} {n c : Nat} {kd : IntKind} (i : Nat) (h1 : i < n)
    (k : K (.pointer (some (a.add (i * s)))) w) : LiftP P (Instr.indexAt t (.slice (some a) n c) (.int kd (i : Int))) K w :=
  ix h hs (by omega) (by omega) (by rw [Int.toNat_natCast]; exact k)
theorem ixG {t e : TypeId} (h : P.underlying t = some (.slice e)) {s : Nat} (hs : (P.info? e).map (·.size) = some s) {g n c : Nat} {kd : IntKind} (i : Nat) (h1 : i < n)
    (k : K (.pointer (some ⟨g, i * s, none⟩)) w) : LiftP P (Instr.indexAt t (.slice (some ⟨g, 0, none⟩) n c) (.int kd (i : Int))) K w :=
  ixN h hs i h1 (by rw [add0, Nat.zero_add]; exact k)
theorem yixG {t e : TypeId} (h : P.underlying t = some (.slice e)) {s : Nat} (hs : (P.info? e).map (·.size) = some s) {g n c : Nat} {kd : IntKind} (i : Nat) (h1 : i < n)
    (k : K (.pointer (some ⟨g, i * s, none⟩)) w) : YieldP P S (Instr.indexAt t (.slice (some ⟨g, 0, none⟩) n c) (.int kd (i : Int))) K w :=
  yixA h hs i h1 (by rw [add0, Nat.zero_add]; exact k)
/-- a field behind any place of a block -/
theorem fdG {s : TypeId} {i o n : Nat} (h : fofs P s i = some (o, n)) (hn : n ≠ 0) {g q : Nat} (k : K (.pointer (some ⟨g, q + o, none⟩)) w) : LiftP P (Instr.fieldAt s (.pointer (some ⟨g, q, none⟩)) i) K w :=
  fdA h hn (by rw [add0]; exact k)
theorem yfdG {s : TypeId} {i o n : Nat} (h : fofs P s i = some (o, n)) (hn : n ≠ 0) {g q : Nat} (k : K (.pointer (some ⟨g, q + o, none⟩)) w) : YieldP P S (Instr.fieldAt s (.pointer (some ⟨g, q, none⟩)) i) K w :=
  yfdA h hn (by rw [add0]; exact k)
end
section
variable {P : Program} {K : Value → World → Prop} {S : World → Prop} {w : World}
theorem yixB {t e : TypeId} {n : Nat} (h : P.underlying t = some (.array n e)) (hs : (P.info? e).map (·.size) = some 1) {g : Nat} {kd : IntKind} (i : Nat) (h1 : i < n)
    (k : K (.pointer (some ⟨g, i, none⟩)) w) : YieldP P S (Instr.indexAt t (.pointer (some ⟨g, 0, none⟩)) (.int kd (i : Int))) K w := by
  obtain ⟨j, hj, hs⟩ := Option.map_eq_some_iff.1 hs
  refine yld (v := .pointer (some ⟨g, i, none⟩)) (fun w' _ => ?_) k
  simp [Instr.indexAt, run_underlying h, asIntOf, h1, sizeOf, typeInfo, hj, hs, Instr.sureAddr, add0]
/-- append(v, x...), elements of any size: the row's block is v's, or new. -/
theorem apGb {t ty e : TypeId} {cs : Array Bool} {z : Value} {size bytes : Nat} (ht : P.underlying t = some (.slice e)) (hinfo : (P.info? e).map (fun i => (i.zero, i.size, i.bytes)) = some (some z, size, bytes)) (hz : z.cells.size = size) (hsz : 0 < size)
    {v : Value} {xs : List Value} {n : Nat} (hown : w.ownsRow 0 e size v n xs) {a : Addr} {m c : Nat} {news : List Value} (hl : news.length = m * size) (hnews : ∀ j u, news[j]? = some u → w.cell? (a.add j) = some u) (h1 : ∀ u ∈ news, u.oneCell' = true)
    (h63 : n + m ≤ 9223372036854775807) (hbytes : (n + m) * bytes ≤ 140737488355328)
    (k : ∀ v' w', w'.ownsRow 0 e size v' (n + m) (xs ++ news) → (v'.ownBlock = v.ownBlock ∨ v'.ownBlock = some w.heap.size) → Turns (fun j => v.ownBlock = some j) w w' → K v' w') : NextP P (builtin .append #[t, t] ty cs #[v, .slice (some a) m c]) K w := by
  obtain ⟨i, hi, hzz⟩ := Option.map_eq_some_iff.1 hinfo
  simp only [Prod.mk.injEq] at hzz
  obtain ⟨hz0, hz1, hz2⟩ := hzz
  obtain ⟨v', w', hr, h2, h3, _, h5⟩ := run_append_own_at (P := P) w 0 t ty e i z size bytes ht hi hz0 hz1 hz2 hz hsz v n xs hown a m c news hl hnews h1 (by simp only [maxLen]; omega) hbytes (Nat.zero_le _)
  refine nextV (v := v') (w' := w') ?_ (k v' w' h2 h5 ⟨h3.os, h3.tape, h3.output, h3.size, fun j hj hF => h3.block j hj (fun e => hF e.symm)⟩)
  simp only [builtin]
  simp [hr]
end
theorem ownsRow_turns {s : Nat} {e : TypeId} {w w' : World} {v : Value} {n : Nat} {xs : List Value} {F : Nat → Prop} (h : w.ownsRow 0 e s v n xs) (hT : Turns F w w') (hF : ∀ k, v.ownBlock = some k → ¬ F k) : w'.ownsRow 0 e s v n xs := by
  refine ⟨h.1, ?_⟩
  rcases h.2 with h | ⟨g, c, cur, rfl, h0, hb, h1⟩
  · exact .inl h
  · have hlt : g < w.heap.size := (Array.getElem?_eq_some_iff.1 hb).1
    exact .inr ⟨g, c, cur, rfl, h0, (hT.block g hlt (hF g rfl)).trans hb, h1⟩
theorem ownsRow_lt {s : Nat} {e : TypeId} {w : World} {v : Value} {n : Nat} {xs : List Value} (h : w.ownsRow 0 e s v n xs) {k : Nat} (hk : v.ownBlock = some k) : k < w.heap.size := by
  rcases h.2 with ⟨rfl, _⟩ | ⟨g, c, cur, rfl, h0, hb, h1⟩
  · cases hk
  · have : g = k := by simpa [Value.ownBlock] using hk
    subst this
    exact (Array.getElem?_eq_some_iff.1 hb).1
section
variable {P : Program} {K : Value → World → Prop} {w : World}
/-- append(v, x...), x any row of structs: of its elements alone something is asked. -/
theorem apRm {t ty e : TypeId} {cs : Array Bool} {z : Value} {size bytes : Nat} (B : Nat) (ht : P.underlying t = some (.slice e)) (hinfo : (P.info? e).map (fun i => (i.zero, i.size, i.bytes)) = some (some z, size, bytes)) (hz : z.cells.size = size) (hsz : 0 < size)
    {v : Value} {xs : List Value} {n : Nat} (hown : w.ownsRow 0 e size v n xs) (hf : Fresh B v) (hB : B ≤ w.heap.size) {α : Type} {f : α → List Value} (hfl : ∀ x, (f x).length = size)
    {x : Value} {l : List α} (hf1 : ∀ x ∈ l, ∀ u ∈ f x, u.oneCell' = true) (hx : rRow size (fun _ us x => us = f x) w [x] l) (h63 : n + l.length ≤ 9223372036854775807) (hbytes : (n + l.length) * bytes ≤ 140737488355328)
    (k : ∀ v' w', w'.ownsRow 0 e size v' (n + l.length) (xs ++ l.flatMap f) → Fresh B v' → Below B w w' → K v' w') : NextP P (builtin .append #[t, t] ty cs #[v, x]) K w := by
  obtain ⟨A, c, he, h1, h2, h3⟩ := hx
  simp only [List.cons.injEq, and_true] at he
  subst he
  cases A with
  | none =>
    have h0 : l = [] := by
      cases l with
      | nil => rfl
      | cons p r => obtain ⟨a, us, h, _⟩ := h3 0 p rfl; cases h
    subst h0
    obtain ⟨i, hi, hzz⟩ := Option.map_eq_some_iff.1 hinfo
    refine nextV (v := v) (w' := w) ?_ (k v w (by simpa using hown) hf (Below.refl B w))
    have hrun : (Builtin.append_ #[t, t] ty #[v, .slice none 0 c]).run P w = .ok v w := by
      rcases hown.2 with ⟨rfl, _⟩ | ⟨g, cap, cur, rfl, _, _, hnc, _⟩
      · simp [Builtin.append_, run_underlying ht, sizeOf, typeInfo, hi, Builtin.lenOf, Builtin.firstCells]
      · simp [Builtin.append_, run_underlying ht, sizeOf, typeInfo, hi, Builtin.lenOf, Builtin.firstCells, hnc, storeCells]
    simp only [builtin, List.length_nil] at hrun ⊢
    simp [hrun]
  | some a =>
    refine apG B ht hinfo hz hsz hown hf hB (news := l.flatMap f) (flatMap_len f size hfl l) (fun j u hu => ?_) (fun u hu => ?_) h63 hbytes (fun v' w' q1 q2 q3 _ => k v' w' q1 q2 q3)
    · have hj := (List.getElem?_eq_some_iff.1 hu).1
      rw [flatMap_len f size hfl] at hj
      have hi : j / size < l.length := Nat.div_lt_of_lt_mul (by rw [Nat.mul_comm]; exact hj)
      have hm : j % size < size := Nat.mod_lt _ hsz
      obtain ⟨a', us, ha, hus, hcell, hrd⟩ := h3 (j / size) l[j / size] (List.getElem?_eq_getElem hi)
      cases ha
      have hdm : j / size * size + j % size = j := Nat.div_add_mod' j size
      have := flatMap_at f size hfl l (j / size) (j % size) l[j / size] (List.getElem?_eq_getElem hi) hm
      rw [hdm, hu] at this
      have hx : us = f l[j / size] := hrd
      subst hx
      have := hcell (j % size) u this.symm
      rwa [hdm] at this
    · obtain ⟨x, hxl, hx⟩ := List.mem_flatMap.1 hu
      exact hf1 x hxl u hx
end
theorem Turns.cut {F : Nat → Prop} {w w' : World} (h : Turns F w w') : Turns (fun k => F k ∧ k < w.heap.size) w w' := ⟨h.os, h.tape, h.output, h.size, fun k hk hF => h.block k hk fun e => hF ⟨e, hk⟩⟩
end Go.Proofs.YtmnaggdhkggjhaaGreatDoor.E
