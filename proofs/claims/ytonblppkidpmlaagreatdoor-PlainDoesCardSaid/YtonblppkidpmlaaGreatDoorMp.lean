import Derived.Test.YtonblppkidpmlaaGreatDoorMo
namespace Go.Proofs.YtonblppkidpmlaaGreatDoor.E
open Go Go.RowKit
set_option linter.unusedSimpArgs false
set_option linter.unusedVariables false

theorem fRow1 : fofs Tryz.prog 40 1 = some (1, 1) := w1
/-- Rows that read so. -/
structure RwAt (w : World) (v : Value) (M : List Mm) : Prop where
  row : OwnR 2 40 w v M.length (M.flatMap mmF)
  ms : ∀ m ∈ M, Vals w [m.2.1] m.2.2
theorem RwAt.below {w w' : World} {v : Value} {M : List Mm} (h : RwAt w v M) (hb : Below w.heap.size w w') : RwAt w' v M :=
  ⟨h.row.turns' (F := fun _ => False) (Turns.of_below hb) fun _ _ h => h, fun m hm => keeps_Vals _ _ _ _ hb (h.ms m hm)⟩
theorem RowsC.at {hu : Nat} {c : Nat → Nat} {w : World} {v : Value} {M : List Mm} (h : RowsC hu c w v M) : RwAt w v M := ⟨h.row, fun m hm => (h.ms m hm).rd⟩
theorem OwnRw.at {w0 w : World} {v : Value} {M : List Mm} (h : OwnRw w0 w v M) : RwAt w v M := ⟨OwnR.of_own h.row.own, fun m hm => (h.ms m hm).1.vals (h.ms m hm).2⟩
theorem keepR {w : World} {g o : Nat} {us : List Value} (h : ∀ (j : Nat) (u : Value), us[j]? = some u → w.cell? ⟨g, o + j, none⟩ = some u) (j : Nat) (u : Value) (hj : us[j]? = some u) : ∀ w', Below w.heap.size w w' → w'.cell? ⟨g, o + j, none⟩ = some u := fun w' hb => by
  rw [hb.cell (World.block_lt_of_cell? _ _ (h j u hj)), h j u hj]
theorem mkr_at {M : List Mm} {k : Nat} (h : k < M.length) : (M.map mkr)[k]'(by rw [List.length_map]; exact h) = (M[k].1, M[k].2.2) := by simp [mkr]
theorem SameRows16 (v v' : Value) (M N : List Mm) (w : World) (hv : RwAt w v M) (hv' : RwAt w v' N) :
    CallP Tryz.prog 16 #[v, v'] (fun r w' => r = .bool (decide (M.map mkr = N.map mkr)) ∧ Below w.heap.size w w') w := by
  obtain ⟨A, c, rfl, hc, hcm⟩ := hv.row.slice
  simp only [maxLen] at hcm
  obtain ⟨A', c', rfl, _⟩ := hv'.row.slice
  refine ⟨S16.calls _ _ _ _ ?_⟩
  unfold S16
  refine ln undRw ?_
  refine ln undRw ?_
  refine bi_neq_c (fun h0 => ?_) (fun h0 => ?_)
  · (repeat with_reducible first|refine z_b ?_)
    refine ⟨fB fun e => h0 ?_, Below.refl _ _⟩
    have := congrArg List.length e
    rw [List.length_map, List.length_map] at this
    rw [this]
  have hlen : M.length = N.length := by omega
  (repeat with_reducible first|refine z_c ?_)
  refine LoopP.inv1 (fun iv w' => ∃ k : Nat, k ≤ M.length ∧ iv = .int .i64 k ∧ (M.map mkr).take k = (N.map mkr).take k ∧ Below w.heap.size w w') (fun iv _ => M.length - (intOf iv).toNat) ⟨0, by omega, rfl, by simp, Below.refl _ _⟩ ?_
  rintro _ w1 ⟨k, hk, rfl, heq, hb1⟩ J hJ
  dsimp only [List.headD_cons, List.tail_cons]
  refine ln undRw ?_
  refine bi_lss_c (fun h => ?_) (fun h => ?_)
  · have hk' : k < M.length := by omega
    have hkn : k < N.length := by omega
    have hdr : Below w1.heap.size w1 w1.drew := (Below.refl _ _).drew
    have h1 := hv.below hb1
    have h2 := hv'.below hb1
    obtain ⟨g1, c1, he, hc1⟩ := rowAt mmF_len h1.row k hk' (by decide)
    cases he
    obtain ⟨g2, c2, he, hc2⟩ := rowAt mmF_len h2.row k hkn (by decide)
    cases he
    have a0 := keepR hc1 0 _ rfl
    have a1 := keepR hc1 1 _ rfl
    have b0 := keepR hc2 0 _ rfl
    have b1 := keepR hc2 1 _ rfl
    have hm1 := h1.ms _ (List.getElem_mem hk')
    have hm2 := h2.ms _ (List.getElem_mem hkn)
    have eM := mkr_at hk'
    have eN := mkr_at hkn
    have hkM : k < (M.map mkr).length := by rw [List.length_map]; exact hk'
    have hkN : k < (N.map mkr).length := by rw [List.length_map]; exact hkn
    (repeat with_reducible first|refine z_b ?_)
    refine draw (Below w1.heap.size w1) hdr ?_
    refine yixG undRw szRw k hk' ?_
    (repeat with_reducible first|refine yfdG w0 (by decide) ?_|refine yl1 one9 a0 ?_)
    refine yixG undRw szRw k hkn ?_
    (repeat with_reducible first|refine yfdG w0 (by decide) ?_|refine yl1 one9 b0 ?_)
    refine ty_neq_c (fun h3 => ?_) (fun h3 => ?_)
    · (repeat with_reducible first|refine z_b ?_|refine z_f ?_|refine z_j ?_|refine z_k ?_)
      refine ⟨fB fun e => h3 ?_, below_then hb1 hdr⟩
      have e2 : (M.map mkr)[k]? = (N.map mkr)[k]? := by rw [e]
      rw [List.getElem?_eq_getElem hkM, List.getElem?_eq_getElem hkN, eM, eN] at e2
      have e3 : (M[k].1, M[k].2.2) = (N[k].1, N[k].2.2) := Option.some.inj e2
      exact (congrArg Prod.fst e3 :)
    · (repeat with_reducible first|refine z_d ?_)
      refine yixG undRw szRw k hk' ?_
      (repeat with_reducible first|refine yfdG fRow1 (by decide) ?_|refine yl1 oneRec a1 ?_|refine z_d ?_)
      refine yixG undRw szRw k hkn ?_
      (repeat with_reducible first|refine yfdG fRow1 (by decide) ?_|refine yl1 oneRec b1 ?_|refine z_d ?_|refine z_h ?_)
      refine act ?_
      refine (Same17 _ _ _ _ w1.drew (keeps_Vals _ _ _ _ hdr hm1) (keeps_Vals _ _ _ _ hdr hm2)).mono ?_
      rintro _ w2 ⟨rfl, hb2⟩
      have hb12 := below_then hdr hb2
      refine ⟨_, hb12, fun _ h => h, ?_⟩
      by_cases h4 : M[k].2.2 = N[k].2.2
      · rw [decide_eq_true h4]
        (repeat with_reducible first|refine z_c ?_|refine z_d ?_|refine z_l ?_|refine z_p1 ?_)
        (repeat with_reducible first|refine z_o (by omega) ?_)
        refine hJ _ _ ⟨k + 1, by omega, by simp, take_eq_step hkM hkN heq ?_, below_then hb1 hb12⟩ (by simp [intOf]; omega)
        rw [eM, eN, h4, Classical.not_not.1 h3]
      · rw [decide_eq_false h4]
        (repeat with_reducible first|refine z_b ?_|refine z_d ?_|refine z_l ?_|refine z_q1 ?_)
        refine ⟨fB fun e => h4 ?_, below_then hb1 hb12⟩
        have e2 : (M.map mkr)[k]? = (N.map mkr)[k]? := by rw [e]
        rw [List.getElem?_eq_getElem hkM, List.getElem?_eq_getElem hkN, eM, eN] at e2
        have e3 : (M[k].1, M[k].2.2) = (N[k].1, N[k].2.2) := Option.some.inj e2
        exact (congrArg Prod.snd e3 :)
  · have : k = M.length := by omega
    subst this
    (repeat with_reducible first|refine z_c ?_)
    refine ⟨tB ?_, hb1⟩
    rw [List.take_of_length_le (by rw [List.length_map]; omega), List.take_of_length_le (by rw [List.length_map]; omega)] at heq
    exact heq
/-- A reply that reads so. -/
def RepAt (w : World) (r : Value) (p : RepT) : Prop := ∃ vr vw M, r = .agg #[.int .i64 p.code, .bool p.there, vr, vw, .int .i64 p.id] ∧ Vals w [vr] p.rcd ∧ RwAt w vw M ∧ M.map mkr = p.rows
theorem RepC.at {hr : Nat} {c : Nat → Nat} {w : World} {r : Value} {p : RepT} (h : RepC hr c w r p) : RepAt w r p := by
  obtain ⟨vr, vw, M, e, h1, h2, h3⟩ := h
  exact ⟨vr, vw, M, e, h1.rd, h2.at, h3⟩
theorem SameReply18 (r r' : Value) (p : RepT) (w : World) (hr : RepAt w r p) (hr' : RepAt w r' p) :
    CallP Tryz.prog 18 #[r, r'] (fun r w' => r = .bool true ∧ Below w.heap.size w w') w := by
  obtain ⟨va, vb, M, rfl, h1, h2, h3⟩ := hr
  obtain ⟨va', vb', M', rfl, h1', h2', h3'⟩ := hr'
  refine ⟨S18.calls _ _ _ _ ?_⟩
  unfold S18
  refine bxB ?_
  intro g1 w1 hg1 hB1 hb1
  refine bxB ?_
  intro g2 w2 hg2 hB2 hb2
  have hB1' := hB1.below' hb2
  have hb12 := below_then hb1 hb2
  have a0 : w2.cell? ⟨g1, 0, none⟩ = some (.int .i64 p.code) := hB1'.cell 0
  have a1 : w2.cell? ⟨g1, 1, none⟩ = some (.bool p.there) := hB1'.cell 1
  have a2 : w2.cell? ⟨g1, 2, none⟩ = some va := hB1'.cell 2
  have a4 : w2.cell? ⟨g1, 4, none⟩ = some (.int .i64 p.id) := hB1'.cell 4
  have b0 : w2.cell? ⟨g2, 0, none⟩ = some (.int .i64 p.code) := hB2.cell 0
  have b1 : w2.cell? ⟨g2, 1, none⟩ = some (.bool p.there) := hB2.cell 1
  have b2 : w2.cell? ⟨g2, 2, none⟩ = some va' := hB2.cell 2
  have b4 : w2.cell? ⟨g2, 4, none⟩ = some (.int .i64 p.id) := hB2.cell 4
  (repeat with_reducible first|refine fd rp0 (by decide) ?_|refine ld oneE a0 ?_|refine ld oneE b0 ?_|refine z_d ?_|refine z_q (by omega) ?_)
  (repeat with_reducible first|refine fd rp1 (by decide) ?_|refine ld one4 a1 ?_|refine ld one4 b1 ?_|refine z_d ?_)
  refine bi_beql und4 ?_
  rw [decide_eq_true rfl]
  (repeat with_reducible first|refine fd rp4 (by decide) ?_|refine ld one3 a4 ?_|refine ld one3 b4 ?_|refine z_d ?_|refine z_k ?_|refine z_q (by omega) ?_)
  (repeat with_reducible first|refine fd rp2 (by decide) ?_|refine ld oneRec a2 ?_|refine ld oneRec b2 ?_|refine z_d ?_)
  refine (Same17 _ _ _ _ w2 (keeps_Vals _ _ _ _ hb12 h1) (keeps_Vals _ _ _ _ hb12 h1')).mono ?_
  rintro _ w3 ⟨rfl, hb3⟩
  rw [decide_eq_true rfl]
  have a3 : w3.cell? ⟨g1, 3, none⟩ = some vb := (hB1'.below' hb3).cell 3
  have b3 : w3.cell? ⟨g2, 3, none⟩ = some vb' := (hB2.below' hb3).cell 3
  (repeat with_reducible first|refine fd rp3 (by decide) ?_|refine ld oneRows a3 ?_|refine ld oneRows b3 ?_|refine z_d ?_|refine z_k ?_)
  have hb13 := below_then hb12 hb3
  refine (SameRows16 _ _ _ _ w3 (h2.below hb13) (h2'.below hb13)).mono ?_
  rintro _ w4 ⟨rfl, hb4⟩
  rw [decide_eq_true (h3.trans h3'.symm)]
  (repeat with_reducible first|refine z_k ?_)
  exact ⟨by first | rfl | trivial, below_then hb13 hb4⟩
end Go.Proofs.YtonblppkidpmlaaGreatDoor.E
namespace Go.Proofs.YtonblppkidpmlaaGreatDoor.E
open Go Go.RowKit
set_option linter.unusedSimpArgs false
set_option linter.unusedVariables false

/-- An object: its colour, what is so in memory; that it stands while no block of its colour, or of what never turns, is turned. -/
structure Ob9 where
  hu : Nat
  ok : (Nat → Nat) → World → Prop
  pos : 0 < hu ∧ hu < 999
  turns : ∀ {c : Nat → Nat} {w w' : World} {G : Nat → Prop}, ok c w → Turns G w w' → (∀ k, G k → c k ≠ hu ∧ c k ≠ 999) → ok c w'
  re : ∀ {c c' : Nat → Nat} {w : World}, ok c w → (∀ k, k < w.heap.size → c' k = c k) → ok c' w
def MemX (w0 w : World) (L : List Ob9) : Prop := ∃ c : Nat → Nat, (∀ k, k < w0.heap.size → c k = 0) ∧ (∀ o ∈ L, o.ok c w) ∧ Below w0.heap.size w0 w
section
variable {w0 w w' : World} {L A B : List Ob9} {o : Ob9}
theorem Ob9.below {c : Nat → Nat} (h : o.ok c w) (hb : Below w.heap.size w w') : o.ok c w' := o.turns (G := fun _ => False) h (Turns.of_below hb) fun _ h => h.elim
theorem MemX.bel (h : MemX w0 w L) : Below w0.heap.size w0 w := by obtain ⟨_, _, _, h⟩ := h; exact h
theorem MemX.below (h : MemX w0 w L) (hb : Below w.heap.size w w') : MemX w0 w' L := by
  obtain ⟨c, h1, h2, h3⟩ := h
  exact ⟨c, h1, fun o ho => Ob9.below (h2 o ho) hb, h3.trans (hb.mono h3.size)⟩
theorem MemX.nil (w : World) : MemX w w [] := ⟨fun _ => 0, fun _ _ => rfl, by simp, Below.refl _ _⟩
theorem MemX.sub (h : MemX w0 w L) (hs : ∀ x ∈ A, x ∈ L) : MemX w0 w A := by
  obtain ⟨c, h1, h2, h3⟩ := h
  exact ⟨c, h1, fun o ho => h2 o (hs o ho), h3⟩
/-- A call on the first of them: what stands in its place. -/
theorem MemX.call (h : MemX w0 w (o :: B)) (hd : ∀ x ∈ B, x.hu ≠ o.hu) : ∃ c, o.ok c w ∧ (∀ x ∈ B, x.ok c w) ∧ ∀ (os : List Ob9) (w' : World), (∃ c' : Nat → Nat, (∀ k, k < w.heap.size → c' k = c k) ∧ (∀ x ∈ os, x.ok c' w') ∧ Turns (fun k => c k = o.hu) w w') → MemX w0 w' (os ++ B) := by
  obtain ⟨c, h1, h2, h3⟩ := h
  have ho := h2 o (by simp)
  have hp := o.pos
  refine ⟨c, ho, fun x hx => h2 x (by simp [hx]), fun os w' ⟨c', hc, hS, hT⟩ => ⟨c', fun k hk => (hc k (Nat.lt_of_lt_of_le hk h3.size)).trans (h1 k hk), fun x hx => ?_, h3.trans (hT.below h3.size fun k hk e => ?_)⟩⟩
  · rcases List.mem_append.1 hx with h | h
    · exact hS x h
    · refine x.turns (x.re (h2 x (by simp [h])) hc) hT.cut fun k hk => ?_
      rw [hc k hk.2, show c k = o.hu from hk.1]
      exact ⟨fun e => hd x h e.symm, by omega⟩
  · rw [h1 k hk] at e
    omega
theorem MemX.look (h : MemX w0 w L) : ∃ c, (∀ k, k < w0.heap.size → c k = 0) ∧ ∀ o ∈ L, o.ok c w := by
  obtain ⟨c, h1, h2, _⟩ := h
  exact ⟨c, h1, h2⟩
/-- Objects are made. -/
theorem MemX.make (h : MemX w0 w L) : ∃ c : Nat → Nat, (∀ o ∈ L, o.ok c w) ∧ ∀ (os : List Ob9) w', (∃ c' : Nat → Nat, (∀ k, k < w.heap.size → c' k = c k) ∧ (∀ x ∈ os, x.ok c' w') ∧ Below w.heap.size w w') → MemX w0 w' (os ++ L) := by
  obtain ⟨c, h1, h2, h3⟩ := h
  refine ⟨c, h2, fun os w' ⟨c', hc, hS, hb⟩ => ⟨c', fun k hk => (hc k (Nat.lt_of_lt_of_le hk h3.size)).trans (h1 k hk), fun x hx => ?_, h3.trans (hb.mono h3.size)⟩⟩
  rcases List.mem_append.1 hx with h | h
  · exact hS x h
  · exact Ob9.below (x.re (h2 x h) hc) hb
end
theorem MemX.sw {w0 w : World} {a b : Ob9} {L : List Ob9} (h : MemX w0 w (a :: b :: L)) : MemX w0 w (b :: a :: L) := h.sub fun x hx => by
  simp only [List.mem_cons] at hx ⊢
  rcases hx with h | h | h <;> simp [h]
/-- A block known whole. -/
def bxO (g : Nat) (t : TypeId) (cs : Array Value) : Ob9 where
  hu := 9
  ok := fun c w => c g = 9 ∧ Blk w g t cs
  pos := by omega
  turns := fun h hT hG => ⟨h.1, h.2.turns hT fun e => (hG _ e).1 h.1⟩
  re := fun h hc => ⟨(hc _ h.2.lt).trans h.1, h.2⟩
/-- A store of plain's. -/
def plO (hu : Nat) (g : Nat) (S : StT) (hp : 0 < hu ∧ hu < 999) : Ob9 where
  hu := hu
  ok := fun c w => PlS hu c w g S
  pos := hp
  turns := fun h hT hG => h.turns hT hG
  re := fun h hc => h.re hc
abbrev pl1 (g : Nat) (S : StT) : Ob9 := plO 1 g S (by omega)
/-- A reply. -/
def rpO (r : Value) (p : RepT) : Ob9 where
  hu := 3
  ok := fun c w => RepC 3 c w r p
  pos := by omega
  turns := fun h hT hG => h.turns hT fun k hk => (hG k hk).1
  re := fun h hc => h.re hc
/-- Rows. -/
def rwO (v : Value) (M : List Mm) : Ob9 where
  hu := 4
  ok := fun c w => RowsC 4 c w v M
  pos := by omega
  turns := fun h hT hG => h.turns hT fun k hk => (hG k hk).1
  re := fun h hc => h.re hc
theorem MemX.box {w0 w w' : World} {L : List Ob9} {g : Nat} {t : TypeId} {cs : Array Value} (h : MemX w0 w L) (hg : g = w.heap.size) (hB : Blk w' g t cs) (hb : Below w.heap.size w w') : MemX w0 w' (bxO g t cs :: L) := by
  obtain ⟨c, h1, h2⟩ := h.make
  refine h2 [bxO g t cs] w' ⟨col c w.heap.size 9, col_lt _ _ _, fun x hx => ?_, hb⟩
  simp only [List.mem_cons, List.not_mem_nil, or_false] at hx
  subst hx
  exact ⟨col_ge _ _ _ (by omega), hB⟩
theorem MemX.rows {w0 w w' : World} {L : List Ob9} {v : Value} {M : List Mm} (h : MemX w0 w L) (hR : OwnRw w w' v M) : MemX w0 w' (rwO v M :: L) := by
  obtain ⟨c, h1, h2⟩ := h.make
  refine h2 [rwO v M] w' ⟨col c w.heap.size 4, col_lt _ _ _, fun x hx => ?_, hR.row.bel⟩
  simp only [List.mem_cons, List.not_mem_nil, or_false] at hx
  subst hx
  exact hR.rc c 4
theorem MemX.blk {w0 w : World} {L : List Ob9} {g : Nat} {t : TypeId} {cs : Array Value} (h : MemX w0 w L) (hm : bxO g t cs ∈ L) : Blk w g t cs := by
  obtain ⟨c, _, h2⟩ := h.look
  exact (h2 _ hm).2
theorem MemX.rep {w0 w : World} {L : List Ob9} {r : Value} {p : RepT} (h : MemX w0 w L) (hm : rpO r p ∈ L) : ∃ c, RepC 3 c w r p := by
  obtain ⟨c, _, h2⟩ := h.look
  exact ⟨c, h2 _ hm⟩
theorem MemX.row {w0 w : World} {L : List Ob9} {v : Value} {M : List Mm} (h : MemX w0 w L) (hm : rwO v M ∈ L) : RwAt w v M := by
  obtain ⟨c, _, h2⟩ := h.look
  exact RowsC.at (hu := 4) (c := c) (h2 _ hm)
theorem MemX.st {w0 w : World} {L : List Ob9} {g : Nat} {S : StT} (h : MemX w0 w L) (hm : pl1 g S ∈ L) : ∃ c, PlS 1 c w g S := by
  obtain ⟨c, _, h2⟩ := h.look
  exact ⟨c, h2 _ hm⟩
theorem MemX.repAt {w0 w : World} {L : List Ob9} {r : Value} {p : RepT} (h : MemX w0 w L) (hm : rpO r p ∈ L) : RepAt w r p := by
  obtain ⟨c, h⟩ := h.rep hm
  exact h.at
/-- An operation. -/
theorem do_mem {w0 w : World} {g n : Nat} {S : StT} {B : List Ob9} {o : OpP} {s : OpS} (h : MemX w0 w (pl1 g S :: B)) (hd : ∀ x ∈ B, x.hu ≠ 1) (hok : StOk n S) (hn : n ≤ 100000) (ho : OpAt w o s) (hm : GMx w) :
    CallP Tryz.prog 15 #[.pointer (some ⟨g, 0, none⟩), .agg (opC o s)] (fun r w' => MemX w0 w' (pl1 g (doS S o).1 :: rpO r (doS S o).2 :: B)) w := by
  obtain ⟨c, h1, h2, h3⟩ := h.call hd
  refine (Do15 (hr := 3) h1 hok hn ⟨by decide, by decide⟩ ho hm).mono ?_
  rintro r w' ⟨c', hc, hS, hR, hT⟩
  refine h3 [pl1 g (doS S o).1, rpO r (doS S o).2] w' ⟨c', hc, fun x hx => ?_, hT⟩
  simp only [List.mem_cons, List.not_mem_nil, or_false] at hx
  rcases hx with rfl | rfl
  · exact hS
  · exact hR
theorem new_mem (w : World) : CallP Tryz.prog 14 #[] (fun r w' => ∃ g, r = .pointer (some ⟨g, 0, none⟩) ∧ MemX w w' [pl1 g st0]) w := by
  refine (New14 1 (by omega) (fun _ => 0) w).mono ?_
  rintro _ w' ⟨g, c', rfl, hc, hS, hb⟩
  refine ⟨g, rfl, c', hc, fun x hx => ?_, hb⟩
  simp only [List.mem_cons, List.not_mem_nil, or_false] at hx
  subst hx
  exact hS
theorem MemX.old {w00 w0 w : World} {L : List Ob9} (h : MemX w0 w L) (hb : Below w00.heap.size w00 w0) : MemX w00 w L := by
  obtain ⟨c, h1, h2, h3⟩ := h
  exact ⟨c, fun k hk => h1 k (Nat.lt_of_lt_of_le hk hb.size), h2, below_then hb h3⟩
noncomputable def doAll (S : StT) (l : List OpT) : StT := l.foldl (fun S o => (doS S (toP o)).1) S
theorem doAll_snoc (S : StT) (l : List OpT) (x : OpT) : doAll S (l ++ [x]) = (doS (doAll S l) (toP x)).1 := by
  unfold doAll
  rw [List.foldl_append]
  rfl
theorem doAll_ok : ∀ (l : List OpT) {n : Nat} {S : StT}, StOk n S → (∀ x ∈ l, ∀ y ∈ (toP x).rcd, valOk y) → StOk (n + l.length) (doAll S l)
  | [], n, S, h, _ => h
  | x :: l, n, S, h, hv => by
    have := doAll_ok l (h.step (toP x) (hv x (by simp))) fun y hy => hv y (by simp [hy])
    rw [List.length_cons, show n + (l.length + 1) = n + 1 + l.length by omega]
    exact this
theorem ops_rec {w : World} {v : Value} {l : List OpT} (h : Ops w [v] l) : ∀ x ∈ l, ∀ y ∈ (toP x).rcd, valOk y := by
  intro x hx
  obtain ⟨i, hi, rfl⟩ := List.getElem_of_mem hx
  obtain ⟨A, c, rfl, _⟩ := h.slice
  obtain ⟨a, us, rfl, hus, hcell, hrd⟩ := rRow.at h i hi
  obtain ⟨s, rfl, hat⟩ := op_at hrd
  exact vals_ok hat.rcd
end Go.Proofs.YtonblppkidpmlaaGreatDoor.E
