import Derived.Test.YtmnaggdhkggjhaaGreatDoorMk
namespace Go.Proofs.YtmnaggdhkggjhaaGreatDoor.E
open Go Go.Proofs Go.RowKit
set_option linter.unusedSimpArgs false
set_option linter.unusedVariables false

def rdReply (bs : List UInt8) (st : St) : Rm × St :=
  let a := rNum bs Most st
  let b := rNum bs 1 a.2
  let c := rNum bs Most b.2
  let t := rText bs c.2
  if t.1 = [] then ((⟨a.1, decide (b.1 = 1), c.1⟩, []), t.2)
  else ((⟨a.1, decide (b.1 = 1), c.1⟩, (Pl.unpackP t.1).2), (t.2.1, t.2.2 || decide ((Pl.unpackP t.1).1 ≠ 0)))
theorem rText_len {bs : List UInt8} {st : St} : (rText bs st).1.length ≤ bs.length := by
  unfold rText
  split
  · simp
  · unfold textAt
    split
    · simp
    · split
      · simp
      · split
        · simp
        · simp only [List.length_take, List.length_drop]; omega
theorem rdReply_le {bs : List UInt8} {st : St} (h : st.1 ≤ bs.length) : (rdReply bs st).2.1 ≤ bs.length := by
  have h1 := rNum_le (most := Most) h
  have h2 := rNum_le (most := 1) h1
  have h3 := rNum_le (most := Most) h2
  have h4 := rText_le h3
  unfold rdReply
  simp only
  split
  · exact h4
  · exact h4
theorem sz36r : (Tryz.prog.info? 36).map (·.size) = some 1 := sz24
theorem rdB_lt {w : World} {v : Value} {bs : List UInt8} (h : RdB w v bs) : bs = [] ∨ ∀ k, v.ownBlock = some k → k < w.heap.size := by
  by_cases e : bs = []
  · exact .inl e
  · refine .inr fun k hk => ?_
    obtain ⟨A, c, rfl, _⟩ := h.slice
    have hl : 0 < bs.length := by cases bs with
      | nil => exact absurd rfl e
      | cons a r => simp
    obtain ⟨p, rfl, hc⟩ := RdB.at h 0 hl
    have := World.block_lt_of_cell? _ _ hc
    have e2 : (p.add 0).block = k := by simpa [Value.ownBlock, Addr.add] using hk
    rw [e2] at this
    exact this
set_option maxHeartbeats 2000000 in
theorem reply26 {w : World} {g : Nat} {v : Value} {bs : List UInt8} {zs : St} (h : RdAt w g v bs zs) (hbl : bs.length ≤ 200000) :
    CallP Tryz.prog 26 #[.pointer (some ⟨g, 0, none⟩)] (fun r w' => ∃ p, r = .agg ((rdReply bs zs).1.1.cells p (.slice none 0 0)) ∧ Pl.OwnVs w.heap.size w' p (rdReply bs zs).1.2 ∧ RdAt w' g v bs (rdReply bs zs).2 ∧ Turns (fun k => k = g) w w') w := by
  have hgl : g < w.heap.size := h.blk.lt
  have hv0 := rdB_lt h.rd
  refine ⟨S26.calls _ _ _ ?_⟩
  unfold S26
  refine alB z27 ?_
  intro g2 w1 hg2 hB1 hb1
  have hg2g : g2 ≠ g := by omega
  refine (num25 (v := v) (bs := bs) Most (Nat.le_refl _) (h.below hb1) (by omega)).mono ?_
  rintro _ w2 ⟨rfl, hR2, hT2⟩
  have hB2 := hB1.turns hT2 hg2g
  refine (num25 1 (by decide) hR2 (by omega)).mono ?_
  rintro _ w3 ⟨rfl, hR3, hT3⟩
  have hB3 := hB2.turns hT3 hg2g
  have hT13 : Turns (fun k => k = g) w1 w3 := hT2.trans (hT3.mono fun _ _ e => .inl e)
  have eR : rdReply bs zs = (let a := rNum bs Most zs; let b := rNum bs 1 a.2; let c := rNum bs Most b.2; let t := rText bs c.2; if t.1 = [] then ((⟨a.1, decide (b.1 = 1), c.1⟩, []), t.2) else ((⟨a.1, decide (b.1 = 1), c.1⟩, (Pl.unpackP t.1).2), (t.2.1, t.2.2 || decide ((Pl.unpackP t.1).1 ≠ 0)))) := rfl
  rw [eR]
  simp only
  have ed : (decide (((rNum bs 1 (rNum bs Most zs).2).1 : Int) = 1)) = decide ((rNum bs 1 (rNum bs Most zs).2).1 = 1) := by
    by_cases e : (rNum bs 1 (rNum bs Most zs).2).1 = 1
    · rw [decide_eq_true e, decide_eq_true (by omega)]
    · rw [decide_eq_false e, decide_eq_false (by omega)]
  refine bi_eql ?_
  rw [ed]
  generalize rNum bs Most zs = a at *
  generalize rNum bs 1 a.2 = b at *
  refine (num25 Most (Nat.le_refl _) hR3 (by omega)).mono ?_
  rintro _ w4 ⟨rfl, hR4, hT4⟩
  have hB4 := hB3.turns hT4 hg2g
  have hT14 : Turns (fun k => k = g) w1 w4 := hT13.trans (hT4.mono fun _ _ e => .inl e)
  generalize rNum bs Most b.2 = c at *
  refine bd (cells := (Rep.mk a.1 (decide (b.1 = 1)) c.1).cells (.slice none 0 0) (.slice none 0 0)) (by kernel_rfl) ?_
  refine alB z27 ?_
  intro g3 w5 hg3 hB5 hb5
  have hs14 := hT14.size
  have hg3g : g3 ≠ g := by have := hb1.size; omega
  have hg32 : g3 ≠ g2 := by have := hB4.lt; omega
  refine stB (cells := (Rep.mk a.1 (decide (b.1 = 1)) c.1).cells (.slice none 0 0) (.slice none 0 0)) hB5 sz27 rfl (cellsR_one _ _ _ rfl rfl) ?_
  intro w6 hB6 hT6
  have hb46 : Below w4.heap.size w4 w6 := below_own hb5 hT6 (by omega)
  have hR6 := hR4.below hb46
  have hB26 := hB4.below' hb46
  have hT16 : Turns (fun k => k = g) w1 w6 := hT14.then_below hb46
  refine JoinP.cut (fun vs w' => ∃ p, vs = [] ∧ Blk w' g3 39 ((Rep.mk a.1 (decide (b.1 = 1)) c.1).cells p (.slice none 0 0)) ∧ p.oneCell' = true ∧ Pl.OwnVs w1.heap.size w' p (if (rText bs c.2).1 = [] then [] else (Pl.unpackP (rText bs c.2).1).2) ∧ Blk w' g2 39 (zeroRep.cells (.slice none 0 0) (.slice none 0 0)) ∧ RdAt w' g v bs (if (rText bs c.2).1 = [] then (rText bs c.2).2 else ((rText bs c.2).2.1, (rText bs c.2).2.2 || decide ((Pl.unpackP (rText bs c.2).1).1 ≠ 0))) ∧ Turns (fun k => k = g) w1 w') (fun J hJ => ?_) ?_
  · refine (text52 hR6 (by omega)).mono ?_
    rintro _ w7 ⟨rfl, hR7, hT7⟩
    have hB7 := hB6.turns hT7 hg3g
    have hB27 := hB26.turns hT7 hg2g
    have hT17 : Turns (fun k => k = g) w1 w7 := hT16.trans (hT7.mono fun _ _ e => .inl e)
    have htl := rText_len (bs := bs) (st := c.2)
    generalize rText bs c.2 = t at *
    by_cases ht : t.1 = []
    · rw [if_pos ht, if_pos ht] at hJ
      refine tl_neq_f (by simpa using ht) ?_
      (repeat with_reducible first|refine z_c ?_)
      exact hJ _ _ ⟨_, rfl, hB7, rfl, Pl.ownV0 _ _, hB27, hR7, hT17⟩
    · rw [if_neg ht, if_neg ht] at hJ
      refine tl_neq_t ht ?_
      (repeat with_reducible first|refine z_b ?_)
      refine (Pl.Unpack53 t.1 w7 (by omega)).mono ?_
      rintro _ w8 ⟨p, rfl, hp8, hb8⟩
      (repeat with_reducible first|refine z_a ?_|refine z_A ?_|refine z_B ?_)
      have hR8 := hR7.below hb8
      have hB8 := hB7.below' hb8
      have hB28 := hB27.below' hb8
      have c2 : w8.cell? ⟨g, 2, none⟩ = some (.bool t.2.2) := hR8.blk.cell 2
      have hpo : p.oneCell' = true := by
        obtain ⟨A, k, e, _⟩ := (OwnR.of_own hp8.own).slice
        rw [e]; rfl
      have hT18 : Turns (fun k => k = g) w1 w8 := hT17.then_below hb8
      have hs17 := hT17.size
      have hpg3 : p.ownBlock ≠ some g3 := fun e => by have := hp8.fresh g3 e; have := hB7.lt; omega
      have hpg : p.ownBlock ≠ some g := fun e => by have := hp8.fresh g e; have := hR7.blk.lt; omega
      -- behind: the record is stored, the mark is set
      have fin : ∀ bb : Bool, bb = (t.2.2 || decide ((Pl.unpackP t.1).1 ≠ 0)) → LiftP Tryz.prog (Instr.fieldAt 39 (.pointer (some ⟨g3, 0, none⟩)) 2) (fun v34 w => LiftU Tryz.prog (Instr.storeAt 36 v34 p) (fun _ w => NextP Tryz.prog (nilChk (.pointer (some ⟨g, 0, none⟩))) (fun v35 w => LiftP Tryz.prog (Instr.fieldAt 71 v35 2) (fun v36 w => LiftU Tryz.prog (Instr.storeAt 4 v36 (.bool bb)) (fun _ w => J [] w) w) w) w) w) w8 := by
        intro bb hbb
        (repeat with_reducible first|refine fd r2 (by decide) ?_)
        refine st sz36r hpo (by rw [hB8.cell 2]; rfl) (hB8.frozen 2) ?_
        have hB9 := hB8.set_ 2 p
        have hT9 : Turns (fun k => k = g3) w8 (w8.setCell ⟨g3, 2, none⟩ p) := Turns.setCell (F := fun k => k = g3) (p := ⟨g3, 2, none⟩) (Turns.refl _ w8) (.inl rfl) p
        rw [setR2] at hB9
        generalize w8.setCell ⟨g3, 2, none⟩ p = w9 at *
        have hR9 : RdAt w9 g v bs t.2 := hR8.turns hT9 (fun e => hg3g e.symm) (hv0.imp id fun hh k hk e3 => by have := hh k hk; have := hb1.size; omega)
        have hp9 : w9.ownsRow 0 91 3 p (Pl.unpackP t.1).2.length ((Pl.unpackP t.1).2.flatMap valF) := ownsRow_turns hp8.own hT9 fun k hk e => hpg3 (by rw [hk, e])
        have hB29 := hB28.turns hT9 fun e => hg32 e.symm
        (repeat with_reducible first|refine fd rd2 (by decide) ?_|refine z_a ?_)
        obtain ⟨m1, m2, m3, m4⟩ := hR9.mark bb
        refine st sz4 rfl m1 m2 ?_
        have hs28 := hT18.size
        refine hJ _ _ ⟨p, rfl, hB9.turns m4 hg3g, hpo, ⟨ownsRow_turns hp9 m4 fun k hk e => hpg (by rw [hk, e]), fun k hk => by have := hp8.fresh k hk; omega⟩, hB29.turns m4 hg2g, ?_, ?_⟩
        · rw [← hbb]; exact m3
        · refine (hT18.trans (hT9.mono fun k _ e => .inr (by have := hs14; omega))).trans (m4.mono fun _ _ e => .inl e)
      have ce : ∀ bb : Bool, ((bb = true ↔ t.2.2 = true ∨ (Pl.unpackP t.1).1 ≠ 0)) → bb = (t.2.2 || decide ((Pl.unpackP t.1).1 ≠ 0)) := fun bb hb => by
        rw [Bool.eq_iff_iff, hb, Bool.or_eq_true, decide_eq_true_eq]
      (repeat with_reducible first|refine fd rd2 (by decide) ?_|refine ld one4 c2 ?_)
      cases ht2 : t.2.2 with
      | true =>
        (repeat with_reducible first|refine z_f ?_|refine z_k ?_)
        exact fin true (ce true ⟨fun _ => .inl ht2, fun _ => rfl⟩)
      | false =>
        (repeat with_reducible first|refine z_d ?_)
        refine bi_neq_c (fun e => ?_) (fun e => ?_)
        · (repeat with_reducible first|refine z_l ?_)
          exact fin true (ce true ⟨fun _ => .inr (by omega), fun _ => rfl⟩)
        · (repeat with_reducible first|refine z_l ?_)
          exact fin false (ce false ⟨fun e => (by cases e), fun e' => by
            rcases e' with e' | e'
            · rw [ht2] at e'; cases e'
            · exact absurd (by omega) e'⟩)
  · rintro _ w9 ⟨p, rfl, hB9, hpo, hp9, hB29, hR9, hT19⟩
    refine ldA agg27 hB9 (by rw [sz27]; rfl) ?_
    refine stB (cells := (Rep.mk a.1 (decide (b.1 = 1)) c.1).cells p (.slice none 0 0)) hB29 sz27 rfl (cellsR_one _ _ _ hpo rfl) ?_
    intro w10 hB10 hT10
    refine retA agg27 hB10 (by rw [sz27]; rfl) ?_
    have hs1 := hb1.size
    have hs19 := hT19.size
    have hR10 := hR9.turns hT10 (fun e => hg2g e.symm) (hv0.imp id fun hh k hk e3 => by have := hh k hk; omega)
    have hpg2 : ∀ k, p.ownBlock = some k → ¬ k = g2 := fun k hk e => by have := hp9.fresh k hk; have := hB1.lt; omega
    have hp10 : Pl.OwnVs w.heap.size w10 p (if (rText bs c.2).1 = [] then [] else (Pl.unpackP (rText bs c.2).1).2) := ⟨ownsRow_turns hp9.own hT10 hpg2, fun k hk => by have := hp9.fresh k hk; omega⟩
    have hT9 : Turns (fun k => k = g) w w9 := (Turns.of_below hb1).trans (hT19.mono fun k _ e => .inl e)
    have hTT : Turns (fun k => k = g) w w10 := hT9.trans (hT10.mono fun k _ e => .inr (by omega))
    refine ⟨p, ?_, ?_, ?_, hTT⟩
    · split <;> rfl
    · by_cases ht : (rText bs c.2).1 = []
      · rw [if_pos ht] at hp10 ⊢; exact hp10
      · rw [if_neg ht] at hp10 ⊢; exact hp10
    · by_cases ht : (rText bs c.2).1 = []
      · rw [if_pos ht] at hR10 ⊢; exact hR10
      · rw [if_neg ht] at hR10 ⊢; exact hR10
end Go.Proofs.YtmnaggdhkggjhaaGreatDoor.E
namespace Go.Proofs.YtmnaggdhkggjhaaGreatDoor.E
open Go Go.Proofs Go.RowKit
set_option linter.unusedSimpArgs false
set_option linter.unusedVariables false

abbrev Ents := List (Int × Rm)
abbrev Tp := List (Int × VC)
def absC (C : Cli) : VC := (C.fl, absL C.l)
def absT (T : List (Int × Cli)) : Tp := T.map fun p => (p.1, absC p.2)
def lstOf (A : Tp) : Lst := (srt A).map fun p => (p.1, (p.2.1, srt p.2.2))
theorem lstT_of (T : List (Int × Cli)) : lstT T = lstOf (absT T) := by
  unfold lstT lstOf absT
  rw [srt_map, List.map_map]
  rfl
def rEnts (bs : List UInt8) : Nat → St → Ents → Ents × St
  | 0, s, l => (l, s)
  | k + 1, s, l => if s.2 then (l, s) else rEnts bs k (rdReply bs (rNum bs Most s).2).2 (setK ((rNum bs Most s).1 : Int) (rdReply bs (rNum bs Most s).2).1 l)
def oldL (id : Int) (A : Tp) : Ents := ((getK id A).map (·.2)).getD []
/-- A client's row: floor, answers, place behind. -/
def rCli (bs : List UInt8) (s : St) (A : Tp) : Tp × St :=
  let a := rNum bs Most s
  let f := rNum bs Most a.2
  let k := rNum bs 4 f.2
  let e := rEnts bs k.1 k.2 (oldL a.1 A)
  (setK (a.1 : Int) ((f.1 : Int), e.1) A, e.2)
def rClis (bs : List UInt8) : Nat → St → Tp → Tp × St
  | 0, s, A => (A, s)
  | k + 1, s, A => if s.2 then (A, s) else rClis bs k (rCli bs s A).2 (rCli bs s A).1
def wrongC (v : VC) : Prop := v.2 = [] ∨ (0 < v.1 ∧ v.2.length ≠ 4) ∨ ∃ q ∈ v.2, q.1 ≤ v.1
def wrongT (A : Tp) : Prop := ∃ p ∈ A, wrongC p.2
open Classical in
noncomputable def loadP (bs : List UInt8) : Option Tp :=
  let n := rNum bs bs.length (0, false)
  let R := rClis bs n.1 n.2 []
  if R.2.2 = true ∨ saveT (lstOf R.1) ≠ bs ∨ wrongT R.1 then none else some R.1
theorem loadP_eq {bs : List UInt8} {R : Tp × St} (h : rClis bs (rNum bs bs.length (0, false)).1 (rNum bs bs.length (0, false)).2 [] = R) :
    ((R.2.2 = true ∨ saveT (lstOf R.1) ≠ bs ∨ wrongT R.1) → loadP bs = none) ∧ (¬ (R.2.2 = true ∨ saveT (lstOf R.1) ≠ bs ∨ wrongT R.1) → loadP bs = some R.1) := by
  subst h
  exact ⟨fun h => if_pos h, fun h => if_neg h⟩
def okQ (q : Int × Rm) : Prop := Num40 q.1 ∧ Num40 q.2.1.code ∧ Num40 q.2.1.id
theorem rNum_good {bs : List UInt8} {most : Nat} {s : St} (h : (rNum bs most s).2.2 = false) (hi : s.1 ≤ bs.length) : s.2 = false ∧ (rNum bs most s).1 ≤ most ∧ s.1 + 1 ≤ (rNum bs most s).2.1 ∧ (rNum bs most s).2.1 ≤ bs.length := by
  unfold rNum at h ⊢
  split at h
  · rename_i h1; simp only at h; rw [h1] at h; cases h
  · rename_i h1
    rw [if_neg h1]
    simp only [decide_eq_false_iff_not, not_or, Classical.not_not] at h
    have := getAt_le bs s.1 hi h.1
    exact ⟨by simpa using h1, by simp only; omega, by simp only; omega, this.2⟩
theorem rText_good {bs : List UInt8} {s : St} (h : (rText bs s).2.2 = false) (hi : s.1 ≤ bs.length) : s.2 = false ∧ s.1 + 1 ≤ (rText bs s).2.1 ∧ (rText bs s).2.1 ≤ bs.length := by
  have hle := rText_le (st := s) hi
  unfold rText at h hle ⊢
  split at h
  · rename_i h1; simp only at h; rw [h1] at h; cases h
  · rename_i h1
    rw [if_neg h1] at hle ⊢
    simp only [decide_eq_false_iff_not, Classical.not_not] at h
    refine ⟨by simpa using h1, ?_, hle⟩
    have h2 := h
    unfold textAt at h2
    split at h2
    · rename_i h3; exact absurd h2 h3
    rename_i h3
    have := getAt_le bs s.1 hi (Classical.not_not.1 h3)
    split at h2
    · simp at h2
    rename_i h4
    split at h2
    · simp at h2
    rename_i h5
    show s.1 + 1 ≤ (textAt bs s.1 bs.length).2.1
    unfold textAt
    rw [if_neg h3, if_neg h4, if_neg h5]
    simp only
    omega
theorem rdReply_good {bs : List UInt8} {s : St} (h : (rdReply bs s).2.2 = false) (hi : s.1 ≤ bs.length) : s.2 = false ∧ Num40 (rdReply bs s).1.1.code ∧ Num40 (rdReply bs s).1.1.id ∧ s.1 + 4 ≤ (rdReply bs s).2.1 ∧ (rdReply bs s).2.1 ≤ bs.length := by
  have key : ∀ (m : Rm) (q : St), rdReply bs s = (m, q) → q.2 = false → s.2 = false ∧ Num40 m.1.code ∧ Num40 m.1.id ∧ s.1 + 4 ≤ q.1 ∧ q.1 ≤ bs.length := by
    intro m q hq hb
    unfold rdReply at hq
    simp only at hq
    have i1 := rNum_le (most := Most) hi
    have i2 := rNum_le (most := 1) i1
    have i3 := rNum_le (most := Most) i2
    have ht : (rText bs (rNum bs Most (rNum bs 1 (rNum bs Most s).2).2).2).2.2 = false ∧ q.1 = (rText bs (rNum bs Most (rNum bs 1 (rNum bs Most s).2).2).2).2.1 ∧ m.1.code = (rNum bs Most s).1 ∧ m.1.id = (rNum bs Most (rNum bs 1 (rNum bs Most s).2).2).1 := by
      split at hq
      · cases hq; exact ⟨hb, rfl, rfl, rfl⟩
      · cases hq
        simp only [Bool.or_eq_false_iff] at hb
        exact ⟨hb.1, rfl, rfl, rfl⟩
    obtain ⟨t1, t2, t3, t4⟩ := ht
    obtain ⟨b3, g4, g5⟩ := rText_good t1 i3
    obtain ⟨b2, l3, g3, _⟩ := rNum_good b3 i2
    obtain ⟨b1, l2, g2, _⟩ := rNum_good b2 i1
    obtain ⟨b0, l1, g1, _⟩ := rNum_good b1 hi
    refine ⟨b0, ⟨by rw [t3]; omega, by rw [t3]; show _ ≤ (1099511627776 : Int); have : (rNum bs Most s).1 ≤ 1099511627776 := l1; omega⟩, ⟨by rw [t4]; omega, by rw [t4]; have : (rNum bs Most (rNum bs 1 (rNum bs Most s).2).2).1 ≤ 1099511627776 := l3; omega⟩, by rw [t2]; omega, by rw [t2]; exact g5⟩
  exact key _ _ rfl h
theorem setK_len' {α : Type} (k : Int) (v : α) : ∀ l : List (Int × α), (setK k v l).length ≤ l.length + 1
  | [] => by simp [setK]
  | (a, u) :: r => by
    rw [setK]
    split
    · simp
    · have := setK_len' k v r
      simp only [List.length_cons]; omega
theorem setK_mem {α : Type} {k : Int} {v : α} : ∀ {l : List (Int × α)} {q : Int × α}, q ∈ setK k v l → q = (k, v) ∨ q ∈ l
  | [], q, h => by rw [setK] at h; exact .inl (List.mem_singleton.1 h)
  | (a, u) :: r, q, h => by
    rw [setK] at h
    split at h
    · rcases List.mem_cons.1 h with h | h
      · exact .inl h
      · exact .inr (List.mem_cons_of_mem _ h)
    · rcases List.mem_cons.1 h with h | h
      · exact .inr (by rw [h]; exact List.mem_cons_self ..)
      · rcases setK_mem h with h | h
        · exact .inl h
        · exact .inr (List.mem_cons_of_mem _ h)
theorem rEnts_good {bs : List UInt8} : ∀ (k : Nat) (s : St) (l : Ents), (rEnts bs k s l).2.2 = false → s.1 ≤ bs.length → s.2 = false ∧ 5 * (rEnts bs k s l).1.length + s.1 ≤ (rEnts bs k s l).2.1 + 5 * l.length ∧ s.1 ≤ (rEnts bs k s l).2.1 ∧ (rEnts bs k s l).2.1 ≤ bs.length ∧ (∀ q ∈ (rEnts bs k s l).1, q ∈ l ∨ okQ q)
  | 0, s, l, h, hi => by rw [rEnts] at h ⊢; exact ⟨h, by simp only; omega, by simp only; omega, hi, fun q hq => .inl hq⟩
  | k + 1, s, l, h, hi => by
    rw [rEnts] at h ⊢
    split at h
    · rename_i h1; simp only at h; rw [h1] at h; cases h
    rename_i h1
    rw [if_neg h1]
    have i1 := rNum_le (most := Most) hi
    have i2 := rdReply_le (st := (rNum bs Most s).2) i1
    obtain ⟨a1, a2, a3, a4, a5⟩ := rEnts_good k _ _ h i2
    obtain ⟨b1, b2, b3, b4, b5⟩ := rdReply_good a1 i1
    obtain ⟨c1, c2, c3, c4⟩ := rNum_good b1 hi
    have hl := setK_len' ((rNum bs Most s).1 : Int) (rdReply bs (rNum bs Most s).2).1 l
    refine ⟨c1, by omega, by omega, a4, fun q hq => ?_⟩
    rcases a5 q hq with h | h
    · rcases setK_mem h with h | h
      · refine .inr ?_
        rw [h]
        exact ⟨⟨by omega, by have : (rNum bs Most s).1 ≤ 1099511627776 := c2; show ((rNum bs Most s).1 : Int) ≤ _; omega⟩, b2, b3⟩
      · exact .inl h
    · exact .inr h
def weight (A : Tp) : Nat := (A.map fun p => 3 + 5 * p.2.2.length).sum
theorem setK_weight (k : Int) (v : VC) : ∀ A : Tp, weight (setK k v A) + 5 * (oldL k A).length ≤ weight A + 3 + 5 * v.2.length
  | [] => by simp [setK, weight, oldL, getK]
  | (a, u) :: r => by
    have ih := setK_weight k v r
    rw [setK]
    unfold weight oldL at *
    rw [getK]
    split
    · simp; omega
    · simp only [List.map_cons, List.sum_cons]
      omega
def okC (p : Int × VC) : Prop := Num40 p.1 ∧ Num40 p.2.1 ∧ ∀ q ∈ p.2.2, okQ q
theorem oldL_mem {id : Int} {A : Tp} {q : Int × Rm} (h : q ∈ oldL id A) : ∃ v, (id, v) ∈ A ∧ q ∈ v.2 := by
  unfold oldL at h
  cases hg : getK id A with
  | none => rw [hg] at h; simp at h
  | some v => rw [hg] at h; exact ⟨v, getK_mem _ _ _ hg, by simpa using h⟩
theorem rCli_le {bs : List UInt8} {s : St} {A : Tp} (hi : s.1 ≤ bs.length) : (rCli bs s A).2.1 ≤ bs.length := by
  have i1 := rNum_le (most := Most) hi
  have i2 := rNum_le (most := Most) i1
  have i3 := rNum_le (most := 4) i2
  have key : ∀ (k : Nat) (s : St) (l : Ents), s.1 ≤ bs.length → (rEnts bs k s l).2.1 ≤ bs.length := by
    intro k
    induction k with
    | zero => intro s l h; rw [rEnts]; exact h
    | succ k ih =>
      intro s l h
      rw [rEnts]
      split
      · exact h
      · exact ih _ _ (rdReply_le (rNum_le h))
  exact key _ _ _ i3
theorem rCli_good {bs : List UInt8} {s : St} {A : Tp} (h : (rCli bs s A).2.2 = false) (hi : s.1 ≤ bs.length) (hok : ∀ p ∈ A, okC p) : s.2 = false ∧ weight (rCli bs s A).1 + s.1 ≤ (rCli bs s A).2.1 + weight A ∧ (∀ p ∈ (rCli bs s A).1, okC p) := by
  have i1 := rNum_le (most := Most) hi
  have i2 := rNum_le (most := Most) i1
  have i3 := rNum_le (most := 4) i2
  unfold rCli at h ⊢
  simp only at h ⊢
  obtain ⟨e1, e2, e3, e4, e5⟩ := rEnts_good _ _ _ h i3
  obtain ⟨k1, k2, k3, _⟩ := rNum_good e1 i2
  obtain ⟨f1, f2, f3, _⟩ := rNum_good k1 i1
  obtain ⟨a1, a2, a3, _⟩ := rNum_good f1 hi
  generalize rNum bs Most s = a at *
  generalize rNum bs Most a.2 = f at *
  generalize rNum bs 4 f.2 = kk at *
  generalize he : rEnts bs kk.1 kk.2 (oldL a.1 A) = e at *
  have hw := setK_weight (a.1 : Int) ((f.1 : Int), e.1) A
  simp only at hw
  refine ⟨a1, by omega, fun p hp => ?_⟩
  rcases setK_mem hp with hp | hp
  · rw [hp]
    have a2' : a.1 ≤ 1099511627776 := a2
    have f2' : f.1 ≤ 1099511627776 := f2
    refine ⟨⟨by simp only; omega, by simp only; omega⟩, ⟨by simp only; omega, by simp only; omega⟩, fun q hq => ?_⟩
    rcases e5 q hq with h | h
    · obtain ⟨v, hv, hq⟩ := oldL_mem h
      exact (hok _ hv).2.2 q hq
    · exact h
  · exact hok p hp
theorem rClis_good {bs : List UInt8} : ∀ (k : Nat) (s : St) (A : Tp), (rClis bs k s A).2.2 = false → s.1 ≤ bs.length → (∀ p ∈ A, okC p) → weight A ≤ s.1 → weight (rClis bs k s A).1 ≤ bs.length ∧ (∀ p ∈ (rClis bs k s A).1, okC p)
  | 0, s, A, h, hi, hok, hw => by rw [rClis]; exact ⟨by simp only; omega, hok⟩
  | k + 1, s, A, h, hi, hok, hw => by
    rw [rClis] at h ⊢
    split at h
    · rename_i h1; simp only at h; rw [h1] at h; cases h
    rename_i h1
    rw [if_neg h1]
    have hne : (rCli bs s A).2.2 = false := by
      cases hb : (rCli bs s A).2.2 with
      | false => rfl
      | true =>
        exfalso
        have stop : ∀ (k : Nat) (z : St) (B : Tp), z.2 = true → (rClis bs k z B).2.2 = true := fun k z B hz => by
          cases k with
          | zero => rw [rClis]; exact hz
          | succ k => rw [rClis, if_pos hz]; exact hz
        rw [stop k _ _ hb] at h
        cases h
    obtain ⟨g1, g2, g3⟩ := rCli_good hne hi hok
    exact rClis_good k _ _ h (rCli_le hi) g3 (by omega)
theorem load_good {bs : List UInt8} {n : Nat × St} (hn : n = rNum bs bs.length (0, false)) {R : Tp × St} (hR : R = rClis bs n.1 n.2 []) (h : R.2.2 = false) : weight R.1 ≤ bs.length ∧ (∀ p ∈ R.1, okC p) := by
  subst hR hn
  exact rClis_good _ _ _ h (rNum_le (Nat.zero_le _)) (by simp) (by simp [weight])
end Go.Proofs.YtmnaggdhkggjhaaGreatDoor.E
namespace Go.Proofs.YtmnaggdhkggjhaaGreatDoor.E
open Go Go.Proofs Go.RowKit
set_option linter.unusedSimpArgs false
set_option linter.unusedVariables false

/-- A table that is being read: made since w0 in the colour hu; the reader's block and the text's row stand by. -/
structure LdS (w0 : World) (hu : Nat) (c0 : Nat → Nat) (gr : Nat) (v : Value) (bs : List UInt8) (g : Nat) (c : Nat → Nat) (w : World) (T : List (Int × Cli)) (s : St) : Prop where
  tab : TabC hu c w g T
  rdr : RdAt w gr v bs s
  cg : c gr = 0
  cv : bs = [] ∨ ∀ k, v.ownBlock = some k → c k % 1000 ≠ hu
  old : ∀ k, k < w0.heap.size → c k = c0 k
  free : ∀ k, k < w0.heap.size → c0 k % 1000 ≠ hu
  grn : w0.heap.size ≤ gr
  bel : Below w0.heap.size w0 w
section
variable {w0 w w' : World} {hu : Nat} {c0 c : Nat → Nat} {gr g : Nat} {v : Value} {bs : List UInt8} {T : List (Int × Cli)} {s s' : St}
theorem LdS.hh (h : LdS w0 hu c0 gr v bs g c w T s) : 0 < hu ∧ hu < 1000 := by obtain ⟨bm, h1⟩ := h.tab; exact h1.hh
theorem LdS.below (h : LdS w0 hu c0 gr v bs g c w T s) (hb : Below w.heap.size w w') : LdS w0 hu c0 gr v bs g c w' T s :=
  ⟨h.tab.below hb, h.rdr.below hb, h.cg, h.cv, h.old, h.free, h.grn, below_then h.bel hb⟩
theorem LdS.read (h : LdS w0 hu c0 gr v bs g c w T s) (hR : RdAt w' gr v bs s') (hT : Turns (fun k => k = gr) w w') : LdS w0 hu c0 gr v bs g c w' T s' := by
  obtain ⟨hh1, hh2⟩ := h.hh
  have hgr := h.grn
  exact ⟨h.tab.turns hT fun k hk => by rw [hk, h.cg]; omega, hR, h.cg, h.cv, h.old, h.free, h.grn, h.bel.trans (hT.below h.bel.size fun k hk e => by omega)⟩
/-- The table alone is turned. -/
theorem LdS.turn (h : LdS w0 hu c0 gr v bs g c w T s) {c' : Nat → Nat} {T' : List (Int × Cli)} (hc : ∀ k, k < w.heap.size → c' k = c k) (ht : TabC hu c' w' g T') (hT : Turns (Dh hu c) w w') : LdS w0 hu c0 gr v bs g c' w' T' s := by
  obtain ⟨hh1, hh2⟩ := h.hh
  have hs := h.bel.size
  have hgl := h.rdr.blk.lt
  have hvl := rdB_lt h.rdr.rd
  refine ⟨ht, h.rdr.turns hT ?_ ?_, by rw [hc _ hgl]; exact h.cg, ?_, fun k hk => by rw [hc k (by omega)]; exact h.old k hk, h.free, h.grn, h.bel.trans (hT.below hs fun k hk e => ?_)⟩
  · intro e
    have e : c gr % 1000 = hu := e
    rw [h.cg] at e; omega
  · rcases h.cv with e | e
    · exact .inl e
    · refine .inr fun k hk e2 => ?_
      have e2 : c k % 1000 = hu := e2
      exact e k hk e2
  · rcases h.cv with e | e
    · exact .inl e
    · rcases hvl with e2 | e2
      · exact .inl e2
      · exact .inr fun k hk => by rw [hc k (e2 k hk)]; exact e k hk
  · have e : c k % 1000 = hu := e
    rw [h.old k hk] at e
    exact h.free k hk e
theorem LdS.num (h : LdS w0 hu c0 gr v bs g c w T s) (most : Nat) (hm : most ≤ Most) (hbl : bs.length ≤ 200000) :
    CallP Tryz.prog 25 #[.pointer (some ⟨gr, 0, none⟩), .int .i64 most] (fun r w' => r = .int .i64 (rNum bs most s).1 ∧ LdS w0 hu c0 gr v bs g c w' T (rNum bs most s).2) w := by
  refine (num25 most hm h.rdr (by omega)).mono ?_
  rintro r w' ⟨rfl, hR, hT⟩
  exact ⟨rfl, h.read hR hT⟩
theorem LdS.client (h : LdS w0 hu c0 gr v bs g c w T s) (id : Nat) (hid : id < 9223372036854775808) (hT : T.length < 1000000) :
    CallP Tryz.prog 18 #[.pointer (some ⟨g, 0, none⟩), .int .i64 id] (fun r w' => ∃ (C : Cli) (T' : List (Int × Cli)) (c' : Nat → Nat), r = .pointer (some ⟨C.gc, 0, none⟩) ∧ getK (id : Int) T' = some C ∧ absL C.l = oldL id (absT T) ∧ T'.length ≤ T.length + 1 ∧
      (∀ v : VC, setK (id : Int) v (absT T') = setK (id : Int) v (absT T)) ∧ LdS w0 hu c0 gr v bs g c' w' T' s) w := by
  refine (client_tab c w g T id h.tab (by omega) hT).mono ?_
  rintro r w' ⟨C, T', rfl, hx, hT', c', hc, ht, hTu⟩
  have hnone : ∀ v : VC, getK (id : Int) T = none → setK (id : Int) v (absT T ++ [((id : Int), absC C)]) = setK (id : Int) v (absT T) := by
    intro v hn
    have h1 : getK (id : Int) (absT T) = none := by
      show getK (id : Int) (T.map fun p => (p.1, absC p.2)) = none
      rw [getK_map absC, hn]; rfl
    rw [setK_new _ _ _ h1]
    have : ∀ (A : Tp) (k : Int) (u w : VC), getK k A = none → setK k w (A ++ [(k, u)]) = A ++ [(k, w)] := by
      intro A k u w
      induction A with
      | nil => intro _; simp [setK]
      | cons p A ih =>
        obtain ⟨a, x⟩ := p
        intro h
        rw [getK] at h
        split at h
        · cases h
        · rename_i hne
          rw [List.cons_append, setK, if_neg hne, ih h, List.cons_append]
    exact this _ _ _ _ h1
  have hold : oldL id (absT T) = ((getK (id : Int) T).map fun C => absL C.l).getD [] := by
    unfold oldL
    show ((getK (id : Int) (T.map fun p => (p.1, absC p.2))).map (·.2)).getD [] = _
    rw [getK_map absC, Option.map_map]
    rfl
  refine ⟨C, T', c', rfl, hx, ?_, ?_, ?_, h.turn hc ht hTu⟩
  · rw [hold]
    cases hg : getK (id : Int) T with
    | none => rw [hg] at hT'; simp only [Option.map_none, Option.getD_none]; rw [hT'.2.2]; rfl
    | some C0 => rw [hg] at hT'; simp only [Option.map_some, Option.getD_some]; rw [hT'.2]
  · cases hg : getK (id : Int) T with
    | none => rw [hg] at hT'; rw [hT'.1]; simp
    | some C0 => rw [hg] at hT'; rw [hT'.1]; omega
  · intro v
    cases hg : getK (id : Int) T with
    | none =>
      rw [hg] at hT'
      rw [hT'.1]
      have e : absT (T ++ [((id : Int), C)]) = absT T ++ [((id : Int), absC C)] := by unfold absT; rw [List.map_append]; rfl
      rw [e]
      exact hnone v hg
    | some C0 => rw [hg] at hT'; rw [hT'.1]
theorem setK_setK {α : Type} (k : Int) (a b : α) : ∀ l : List (Int × α), setK k a (setK k b l) = setK k a l
  | [] => by simp [setK]
  | (j, u) :: r => by
    rw [setK, setK]
    split
    · rw [setK, if_pos rfl]
    · rename_i hne
      rw [setK, if_neg hne, setK_setK k a b r]
theorem absT_set (id : Int) (C : Cli) (T : List (Int × Cli)) : absT (setK id C T) = setK id (absC C) (absT T) := (setK_map absC id C T).symm
theorem absL_set (n : Int) (m : Rp) (l : List (Int × Rp)) : absL (setK n m l) = setK n m.abs (absL l) := (setK_map Rp.abs n m l).symm
/-- A client's floor is set. -/
theorem LdS.floor (h : LdS w0 hu c0 gr v bs g c w T s) {id : Int} {C : Cli} (hx : getK id T = some C) (fl : Int) :
    (w.cell? ⟨C.gc, 0, none⟩).isSome = true ∧ w.frozen? ⟨C.gc, 0, none⟩ = false ∧ LdS w0 hu c0 gr v bs g c (w.setCell ⟨C.gc, 0, none⟩ (.int .i64 fl)) (setK id ⟨C.gc, C.br, fl, C.l⟩ T) s := by
  obtain ⟨bm, ht⟩ := h.tab
  obtain ⟨hh1, hh2⟩ := h.hh
  obtain ⟨hid, hC⟩ := ht.el _ (getK_mem _ _ _ hx)
  have hC : CliAt c (hueC hu id) w C := hC
  have hT := Turns.setCell (F := fun k => k = C.gc) (p := ⟨C.gc, 0, none⟩) (Turns.refl _ w) (.inl rfl) (.int .i64 fl)
  have hne : C.gc ≠ C.br := map_ne hC.blk hC.map
  have hC' : CliAt c (hueC hu id) (w.setCell ⟨C.gc, 0, none⟩ (.int .i64 fl)) ⟨C.gc, C.br, fl, C.l⟩ := by
    refine ⟨hC.hue, hC.huem, hC.blk.set_ 0 (.int .i64 fl), hC.map.turns hT fun e => hne e.symm, fun p hp => (hC.el p hp).turns hT fun k hk e => ?_⟩
    exact own_neR (hC.el p hp).own hC.blk (by decide) (by rw [← e]; exact hk)
  refine ⟨by rw [hC.blk.cell 0]; rfl, hC.blk.frozen 0, h.turn (fun _ _ => rfl) ⟨bm, ht.upd hx hT (fun k hk => by rw [hk]; exact hC.hue) hC' rfl⟩ (hT.mono fun k _ e => ?_)⟩
  show c k % 1000 = hu
  rw [e, hC.hue, hueC_mod hh2]
end
end Go.Proofs.YtmnaggdhkggjhaaGreatDoor.E
namespace Go.Proofs.YtmnaggdhkggjhaaGreatDoor.E
open Go Go.Proofs Go.RowKit
set_option linter.unusedSimpArgs false
set_option linter.unusedVariables false

section
variable {w0 w w' : World} {hu : Nat} {c0 c : Nat → Nat} {gr g : Nat} {v : Value} {bs : List UInt8} {T : List (Int × Cli)} {s s' : St}
theorem LdS.re (h : LdS w0 hu c0 gr v bs g c w T s) {c' : Nat → Nat} (hc : ∀ k, k < w.heap.size → c' k = c k) : LdS w0 hu c0 gr v bs g c' w T s := h.turn hc (h.tab.re hc) (Turns.refl _ _)
theorem LdS.put {K : Value → World → Prop} (h : LdS w0 hu c0 gr v bs g c w T s) {id : Int} {C : Cli} (hx : getK id T = some C) (hlen : C.l.length ≤ 1000000) {R : Rep} {p : Value} {vs : List ValT} (hR : RdAt w' gr v bs s') (hT : Turns (fun k => k = gr) w w')
    (hp : Pl.OwnVs w.heap.size w' p vs) (hok : ∀ x ∈ vs, valOk x) (hvl : vs.length ≤ 1000) (n : Nat) (hn : n < 9223372036854775808)
    (k : ∀ w2 c2, LdS w0 hu c0 gr v bs g c2 w2 (setK id ⟨C.gc, C.br, C.fl, setK (n : Int) ⟨R, p, vs⟩ C.l⟩ T) s' → K undef w2) :
    LiftU Tryz.prog (Instr.mapUpdate 61 (.map (some C.br)) (.int .i64 n) (.agg (R.cells p (.slice none 0 0)))) K w' := by
  have h1 := h.re (c' := col c w.heap.size (hueC hu id)) (col_lt _ _ _)
  have h6 := h1.read hR hT
  obtain ⟨bm, ht⟩ := h6.tab
  obtain ⟨hh1, hh2⟩ := h6.hh
  obtain ⟨hid, hC⟩ := ht.el _ (getK_mem _ _ _ hx)
  have hC : CliAt (col c w.heap.size (hueC hu id)) (hueC hu id) w' C := hC
  have hrp : RpAt (col c w.heap.size (hueC hu id)) (hueC hu id) w' ⟨R, p, vs⟩ := ⟨OwnR.of_own hp.own, fun k hk => col_ge _ _ _ (hp.fresh k hk), hok, hvl⟩
  refine mup und66 und3 hC.map (wf64 (by omega)) (by rw [List.length_map]; simp only [maxLen]; omega) ?_
  intro w7 hm7 hT7
  have hne : C.gc ≠ C.br := map_ne hC.blk hC.map
  have hC7 : CliAt (col c w.heap.size (hueC hu id)) (hueC hu id) w7 ⟨C.gc, C.br, C.fl, setK (n : Int) ⟨R, p, vs⟩ C.l⟩ := by
    refine ⟨hC.hue, hC.huem, hC.blk.turns hT7 hne, ?_, fun q hq => ?_⟩
    · have := setK_map Rp.val (n : Int) ⟨R, p, vs⟩ C.l
      rw [← this]
      exact hm7
    · rcases setK_mem hq with rfl | hq
      · exact hrp.turns hT7 (fun k hk e => own_nemR hrp.own hC.map (by rw [← e]; exact hk))
      · exact (hC.el q hq).turns hT7 (fun k hk e => own_nemR (hC.el q hq).own hC.map (by rw [← e]; exact hk))
  refine k w7 _ (h6.turn (fun _ _ => rfl) ⟨bm, ht.upd hx hT7 (fun k hk => by rw [hk]; exact hC.huem) hC7 rfl⟩ (hT7.mono fun k _ e => ?_))
  show col c w.heap.size (hueC hu id) k % 1000 = hu
  rw [e, hC.huem, hueC_mod hh2]
end
/-- 'n > 0 && !r.bad' -/
theorem loopGo {w : World} {g : Nat} {n : Nat} {bad : Bool} {x y : Operand} {K : Value → World → Prop} (hc : w.cell? ⟨g, 2, none⟩ = some (.bool bad)) (k : K (.bool (decide (0 < n) && !bad)) w) :
    LiftP Tryz.prog (binS .gtr 3 x y (.int .i64 n) (.int .i64 0)) (fun v35 w => GuardP v35 true (fun K w => K (.pointer (some ⟨g, 0, none⟩)) w) (fun v37 w => GuardP v35 true (fun K w => NextP Tryz.prog (nilChk v37) K w) (fun v38 w => GuardP v35 true (fun K w => LiftP Tryz.prog (Instr.fieldAt 71 v38 2) K w) (fun v39 w => GuardP v35 true (fun K w => LiftP Tryz.prog (Instr.loadAt 4 v39) K w) (fun v40 w => GuardP v35 true (fun K w => LiftP Tryz.prog (Op.unary .not v40) K w) (fun v41 w => PickP v35 v41 (.bool false) K w) w) w) w) w) w) w := by
  refine bi_gtr_c (fun h => ?_) (fun h => ?_)
  · have e : decide (0 < n) = true := decide_eq_true (by omega)
    rw [e] at k
    (repeat with_reducible first|refine fd rd2 (by decide) ?_|refine ld one4 hc ?_|refine z_a ?_|refine z_d ?_|refine z_k ?_|refine z_G ?_)
    cases bad with
    | true => skip; exact k
    | false => skip; exact k
  · have e : decide (0 < n) = false := decide_eq_false (by omega)
    rw [e] at k
    (repeat with_reducible first|refine z_e ?_|refine z_l ?_)
    cases bad <;> exact k
theorem rEnts_stop {bs : List UInt8} {k : Nat} {s : St} {l : Ents} (h : (decide (0 < k) && !s.2) = false) : rEnts bs k s l = (l, s) := by
  cases k with
  | zero => rw [rEnts]
  | succ k =>
    rw [rEnts, if_pos]
    simpa using h
theorem rEnts_go {bs : List UInt8} {k : Nat} {s : St} {l : Ents} (h : (decide (0 < k) && !s.2) = true) : rEnts bs k s l = rEnts bs (k - 1) (rdReply bs (rNum bs Most s).2).2 (setK ((rNum bs Most s).1 : Int) (rdReply bs (rNum bs Most s).2).1 l) := by
  cases k with
  | zero => simp at h
  | succ k =>
    rw [rEnts, if_neg]
    · rfl
    · simpa using h
theorem rClis_stop {bs : List UInt8} {k : Nat} {s : St} {A : Tp} (h : (decide (0 < k) && !s.2) = false) : rClis bs k s A = (A, s) := by
  cases k with
  | zero => rw [rClis]
  | succ k =>
    rw [rClis, if_pos]
    simpa using h
theorem rClis_go {bs : List UInt8} {k : Nat} {s : St} {A : Tp} (h : (decide (0 < k) && !s.2) = true) : rClis bs k s A = rClis bs (k - 1) (rCli bs s A).2 (rCli bs s A).1 := by
  cases k with
  | zero => simp at h
  | succ k =>
    rw [rClis, if_neg]
    · rfl
    · simpa using h
theorem rdReply_vals (bs : List UInt8) (s : St) : (rdReply bs s).1.2.length ≤ 4 ∧ ∀ x ∈ (rdReply bs s).1.2, valOk x := by
  unfold rdReply
  simp only
  split
  · simp
  · have := Pl.unpackP_good (rText bs (rNum bs Most (rNum bs 1 (rNum bs Most s).2).2).2).1
    exact ⟨this.1, fun x hx => (this.2.1 x hx).2⟩
end Go.Proofs.YtmnaggdhkggjhaaGreatDoor.E
