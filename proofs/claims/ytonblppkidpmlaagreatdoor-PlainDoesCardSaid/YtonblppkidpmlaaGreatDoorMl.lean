import Derived.Test.YtonblppkidpmlaaGreatDoorMk
namespace Go.Proofs.YtonblppkidpmlaaGreatDoor.E
open Go Go.RowKit
set_option linter.unusedSimpArgs false
set_option linter.unusedVariables false

/-- Rows of the call's own that need not grow. -/
structure RwG (w0 w : World) (v : Value) (M : List Mm) : Prop where
  row : OwnR 2 40 w v M.length (M.flatMap mmF)
  fresh : Fresh w0.heap.size v
  bel : Below w0.heap.size w0 w
  ms : ∀ m ∈ M, OwnV w0 w m.2.1 m.2.2 ∧ ∀ x ∈ m.2.2, valOk x
theorem OwnRw.g {w0 w : World} {v : Value} {M : List Mm} (h : OwnRw w0 w v M) : RwG w0 w v M := ⟨OwnR.of_own h.row.own, h.row.fresh, h.row.bel, h.ms⟩
theorem RwG.rc {w0 w : World} {v : Value} {M : List Mm} (h : RwG w0 w v M) (c : Nat → Nat) (hu : Nat) : RowsC hu (col c w0.heap.size hu) w v M :=
  ⟨h.row, InC.fresh h.fresh, fun m hm => (h.ms m hm).1.vs (h.ms m hm).2 c hu⟩
theorem RwG.kept {w0 w w1 : World} {v : Value} {M : List Mm} (h : RwG w0 w v M) (hb : Below w.heap.size w w1) : RwG w0 w1 v M :=
  ⟨h.row.below hb, h.fresh, below_then h.bel hb, fun m hm => ⟨(h.ms m hm).1.kept hb, (h.ms m hm).2⟩⟩
theorem RwG.old {w0' w0 w : World} {v : Value} {M : List Mm} (h : RwG w0 w v M) (hb : Below w0'.heap.size w0' w0) : RwG w0' w v M :=
  ⟨h.row, fun k hk => Nat.le_trans hb.size (h.fresh k hk), below_then hb h.bel, fun m hm => ⟨(h.ms m hm).1.old hb, (h.ms m hm).2⟩⟩
theorem mm_one {w0 w : World} {m : Mm} (h : OwnV w0 w m.2.1 m.2.2) : (mmF m).toArray.all (·.oneCell') = true := by
  obtain ⟨A, c, e, _⟩ := h.slice
  refine allOne ?_
  unfold mmF
  rw [e]; rfl
abbrev MmR : Rdr (List Mm) := rRow 2 fun _ us m => us = mmF m
theorem RwG.rd {w0 w : World} {v : Value} {M : List Mm} (h : RwG w0 w v M) : MmR w [v] M := h.row.rd mmF_len fun _ _ => rfl
def PredM (f : FuncId) (caps : Array Value) (p : Mm → Bool) (v : Value) (w : World) : Prop := ∀ (m : Mm) (w' : World), Turns (fun j => v.ownBlock = some j) w w' → CallP Tryz.prog f (#[.agg (mmF m).toArray] ++ caps) (fun r w'' => r = .bool (p m) ∧ Below w'.heap.size w' w'') w'
theorem index87 (v : Value) (l : List Mm) (f : FuncId) (caps : Array Value) (p : Mm → Bool) (hf : callable Tryz.prog f = true) (w w0 : World) (hp : PredM f caps p v w) (hv : RwG w0 w v l) :
    CallP Tryz.prog 87 #[v, .func (.func f) #[] caps] (fun r w' => ((∃ (k : Nat) (hk : k < l.length), r = .int .i64 k ∧ p l[k] = true ∧ ∀ x ∈ l.take k, p x = false) ∨ (r = .int .i64 (-1) ∧ ∀ x ∈ l, p x = false)) ∧ Below w.heap.size w w') w := by
  obtain ⟨A, c, rfl, hc, hm⟩ := hv.row.slice
  have hm : c ≤ 9223372036854775807 := hm
  refine ⟨S87.calls _ _ _ _ ?_⟩
  unfold S87
  refine ln undRw ?_
  refine LoopP.inv1 (fun iv w' => ∃ k : Nat, k ≤ l.length ∧ iv = .int .i64 k ∧ (∀ x ∈ l.take k, p x = false) ∧ Below w.heap.size w w') (fun iv _ => l.length - (intOf iv).toNat) ⟨0, by omega, rfl, by simp, Below.refl _ _⟩ ?_
  rintro _ w1 ⟨k, hk, rfl, hall, hb1⟩ J hJ
  dsimp only [List.headD_cons, List.tail_cons]
  refine bi_lss_c (fun h => ?_) (fun h => ?_)
  · have hk' : k < l.length := by omega
    obtain ⟨a, us, rfl, hus, hcell, rfl⟩ := rRow.at (hv.kept hb1).rd k hk'
    (repeat with_reducible first|refine ixN undRw szRw k hk' ?_|refine z_b ?_)
    refine ldR (us := mmF l[k]) aggRw hcell (by rw [szRw]; rfl) ?_
    refine cvl hf ?_
    refine (hp l[k] w1 (Turns.of_below hb1)).mono ?_
    rintro _ w2 ⟨rfl, hb2⟩
    cases hh : p l[k] with
    | true =>
      (repeat with_reducible first|refine z_b ?_)
      exact ⟨.inl ⟨k, hk', rfl, hh, hall⟩, below_then hb1 hb2⟩
    | false =>
      (repeat with_reducible first|refine z_c ?_|refine z_o (by omega) ?_)
      refine hJ _ _ ⟨k + 1, by omega, by simp, fun x hx => ?_, below_then hb1 hb2⟩ (by simp [intOf]; omega)
      rw [List.take_succ_eq_append_getElem hk'] at hx
      rcases List.mem_append.1 hx with hx | hx
      · exact hall x hx
      · simp only [List.mem_cons, List.not_mem_nil, or_false] at hx
        rw [hx]; exact hh
  · (repeat with_reducible first|refine z_c ?_)
    have : k = l.length := by omega
    subst this
    rw [List.take_length] at hall
    exact ⟨.inr ⟨rfl, hall⟩, hb1⟩
theorem filter_takeM {p : Mm → Bool} {l : List Mm} {j : Nat} (hj : j < l.length) : (l.take (j + 1)).filter p = (l.take j).filter p ++ (if p l[j] = true then [l[j]] else []) := by
  rw [List.take_succ_eq_append_getElem hj, List.filter_append, List.filter_cons, List.filter_nil]
/-- A record's block is no block of rows. -/
theorem rec_ne {w0 w : World} {v : Value} {r : List ValT} (h : OwnV w0 w v r) {g : Nat} {cur : Array Value} (hB : Blk w g 40 cur) : ∀ j, v.ownBlock = some j → ¬ j = g := by
  intro j hj e
  subst e
  rcases h.own.2 with ⟨rfl, _⟩ | ⟨g', cap', cur', rfl, _, hg', _⟩
  · cases hj
  · have e2 : g' = j := by simpa [Value.ownBlock] using hj
    rw [e2] at hg'
    unfold Blk at hB
    rw [hB] at hg'
    simp only [Option.some.injEq, Obj.cells.injEq] at hg'
    exact absurd hg'.2.1 (by decide)
theorem OwnR.blk {s : Nat} {e : TypeId} {w : World} {g n c : Nat} {cs : List Value} (h : OwnR s e w (.slice (some ⟨g, 0, none⟩) n c) n cs) : ∃ cur, Blk w g e cur := by
  rcases h.2 with ⟨h, _⟩ | ⟨g', c', cur, he, hb, _⟩
  · cases h
  · cases he; exact ⟨cur, hb⟩
theorem delete69 (v : Value) (l : List Mm) (f : FuncId) (caps : Array Value) (p : Mm → Bool) (hf : callable Tryz.prog f = true) (w w0 : World) (hp : PredM f caps p v w) (hv : RwG w0 w v l) :
    CallP Tryz.prog 69 #[v, .func (.func f) #[] caps] (fun r w' => RwG w0 w' r (l.filter fun x => !p x)) w := by
  obtain ⟨A, c, rfl, hc, hm⟩ := hv.row.slice
  have hm : c ≤ 9223372036854775807 := hm
  refine ⟨S69.calls _ _ _ _ ?_⟩
  unfold S69
  refine (index87 _ l f caps p hf w w0 hp hv).mono ?_
  rintro _ w1 ⟨hr, hb1⟩
  have hv1 := hv.kept hb1
  rcases hr with ⟨k, hk, rfl, hpk, hall⟩ | ⟨rfl, hall⟩
  · (repeat with_reducible first|refine z_c ?_|refine z_o (by omega) ?_|refine z_r (by omega) ?_)
    have hA : ∃ g, A = some ⟨g, 0, none⟩ := by
      obtain ⟨g, _, he, _⟩ := hv1.row.at 0 (by omega)
      exact ⟨g, he⟩
    obtain ⟨g, rfl⟩ := hA
    have hgB : w0.heap.size ≤ g := hv.fresh g rfl
    refine LoopP.inv2 (fun iv jv w' => ∃ (i j : Nat) (m : List Mm), i < j ∧ j ≤ l.length ∧ m.length = l.length ∧ iv = .int .i64 i ∧ jv = .int .i64 j ∧ m.take i = (l.take j).filter (fun x => !p x) ∧ m.drop j = l.drop j ∧ OwnR 2 40 w' (.slice (some ⟨g, 0, none⟩) l.length c) l.length (m.flatMap mmF) ∧ (Below w0.heap.size w0 w' ∧ Turns (fun j => j = g) w1 w') ∧ (∀ x ∈ l, OwnV w0 w' x.2.1 x.2.2 ∧ ∀ y ∈ x.2.2, valOk y)) (fun _ jv _ => l.length - (intOf jv).toNat)
      ⟨k, k + 1, l, by omega, by omega, rfl, rfl, by simp, ?_, rfl, hv1.row, ⟨hv1.bel, Turns.refl _ _⟩, hv1.ms⟩ ?_
    · rw [filter_takeM hk]
      have h1 : (l.take k).filter (fun x => !p x) = l.take k := List.filter_eq_self.2 fun x hx => by have := hall x hx; simpa using this
      have h2 : ¬ ((!p l[k]) = true) := by simpa using hpk
      rw [h1, if_neg h2, List.append_nil]
    rintro _ _ w2 ⟨i, j, m, hij, hj, hml, rfl, rfl, htk, hdr, ho2, ⟨hb2, hT2⟩, hms⟩ J hJ
    dsimp only [List.headD_cons, List.tail_cons]
    refine ln undRw ?_
    refine bi_lss_c (fun h => ?_) (fun h => ?_)
    · have hj' : j < l.length := by omega
      have hmj : m[j]'(by omega) = l[j] := by
        have e1 := List.getElem_drop (xs := m) (i := j) (j := 0) (h := by simp; omega)
        have e2 := List.getElem_drop (xs := l) (i := j) (j := 0) (h := by simp; omega)
        simp only [Nat.add_zero] at e1 e2
        rw [← e1, ← e2]
        simp only [hdr]
      have hov := (hms l[j] (List.getElem_mem hj')).1
      rw [← hmj] at hov
      (repeat with_reducible first|refine z_b ?_)
      refine JoinP.cut (fun vs w' => ∃ (i' : Nat) (m' : List Mm), i' < j + 1 ∧ m'.length = l.length ∧ vs = [.int .i64 i'] ∧ m'.take i' = (l.take (j + 1)).filter (fun x => !p x) ∧ m'.drop (j + 1) = l.drop (j + 1) ∧ OwnR 2 40 w' (.slice (some ⟨g, 0, none⟩) l.length c) l.length (m'.flatMap mmF) ∧ (Below w0.heap.size w0 w' ∧ Turns (fun j => j = g) w1 w') ∧ (∀ x ∈ l, OwnV w0 w' x.2.1 x.2.2 ∧ ∀ y ∈ x.2.2, valOk y)) (fun J2 hJ2 => ?_) (fun xs w' hI => ?_)
      · have hrow : MmR w2 [.slice (some ⟨g, 0, none⟩) l.length c] m := by
          have := (OwnR.rd (r := fun _ us x => us = mmF x) (l := m) (by rw [hml]; exact ho2) mmF_len (fun _ _ => rfl))
          exact this
        obtain ⟨a, us, ha, hus, hcell, rfl⟩ := rRow.at hrow j (by omega)
        cases ha
        (repeat with_reducible first|refine ixN undRw szRw j hj' ?_)
        refine ldR (us := mmF m[j]) aggRw hcell (by rw [szRw]; rfl) ?_
        refine cpB zRw (cells := (mmF m[j]).toArray) (by rw [szRw]; rfl) (by rfl) (mm_one hov) ?_
        intro gv w4 hgv hV4 h4
        refine ldA aggRw hV4 (by rw [szRw]; rfl) ?_
        refine cvl hf ?_
        have hw4 : Turns (fun j => (Value.slice (some ⟨g, 0, none⟩) l.length c).ownBlock = some j) w w4 :=
          (Turns.of_below hb1).trans ((hT2.then_below h4).mono fun j _ e => .inl (by rw [e]; rfl))
        refine (hp m[j] w4 hw4).mono ?_
        rintro _ w5 ⟨rfl, h5⟩
        have h5' := below_then h4 h5
        have ho5 := ho2.below h5'
        have hb5 := below_then hb2 h5'
        have hT5 := hT2.then_below h5'
        have hms5 : ∀ x ∈ l, OwnV w0 w5 x.2.1 x.2.2 ∧ ∀ y ∈ x.2.2, valOk y := fun x hx => ⟨(hms x hx).1.kept h5', (hms x hx).2⟩
        have hd1 : m.drop (j + 1) = l.drop (j + 1) := by rw [← List.drop_drop, hdr, List.drop_drop]
        cases he : p m[j] with
        | true =>
          (repeat with_reducible first|refine z_c ?_|refine z_E ?_)
          refine hJ2 _ _ ⟨i, m, by omega, hml, rfl, ?_, hd1, ho5, ⟨hb5, hT5⟩, hms5⟩
          rw [filter_takeM hj', htk, if_neg (by rw [← hmj]; simpa using he), List.append_nil]
        | false =>
          (repeat with_reducible first|refine z_b ?_|refine z_F ?_)
          refine ldA aggRw (hV4.below' h5) (by rw [szRw]; rfl) ?_
          refine ixG undRw szRw i (by omega) ?_
          refine stE ho5 i (by omega) (by rfl) szRw (mm_one hov) ?_
          intro w6 ho6 hT6
          have hput := flatMap_put mmF 2 mmF_len m[j] m i (by omega)
          have e : ((mmF m[j]).toArray).toList = mmF m[j] := rfl
          rw [e, hput] at ho6
          obtain ⟨cur, hBg⟩ := ho5.blk
          have hms6 : ∀ x ∈ l, OwnV w0 w6 x.2.1 x.2.2 ∧ ∀ y ∈ x.2.2, valOk y := fun x hx =>
            ⟨⟨ownsRow_turns (hms5 x hx).1.own hT6 (rec_ne (hms5 x hx).1 hBg), (hms5 x hx).1.fresh, hb5.trans (hT6.own hgB hb5.size)⟩, (hms5 x hx).2⟩
          (repeat with_reducible first|refine z_o (by omega) ?_)
          refine hJ2 _ _ ⟨i + 1, m.set i m[j], by omega, by simpa using hml, by simp, ?_, ?_, ho6, ⟨hb5.trans (hT6.own hgB hb5.size), hT5.trans (hT6.mono fun _ _ h => .inl h)⟩, hms6⟩
          · rw [filter_takeM hj', ← htk, if_pos (by rw [← hmj]; simpa using he), List.take_succ_eq_append_getElem (by simp; omega), List.take_set_of_le (Nat.le_refl _), List.getElem_set_self, hmj]
          · rw [List.drop_set_of_lt (by omega)]; exact hd1
      · obtain ⟨i', m', hi', hm', rfl, htk', hdr', ho', hb', hms'⟩ := hI
        dsimp only [List.headD_cons, List.tail_cons]
        (repeat with_reducible first|refine z_o (by omega) ?_)
        exact hJ _ _ _ ⟨i', j + 1, m', by omega, by omega, hm', rfl, by simp, htk', hdr', ho', hb', hms'⟩ (by simp [intOf]; omega)
    · have : j = l.length := by omega
      subst this
      (repeat with_reducible first|refine z_c ?_)
      have hle : l.length ≤ c := hc
      refine ofPR (pr_cut undRw szRw (.at _ _) .no .no (show i ≤ l.length by omega) (fun _ => by omega) hc (Nat.le_refl _) (.inl rfl)) ?_
      have e1 : sliced (some ⟨g, 0, none⟩) i l.length c 2 = .slice (some ⟨g, i * 2, none⟩) (l.length - i) (c - i) := by
        unfold sliced
        rw [if_neg (by omega), Option.map_some, add0, Nat.zero_add]
      rw [e1]
      refine clrR undRw zRw (by rfl) (allOne (l := [.string ⟨#[]⟩, .slice none 0 0]) rfl) (by decide) ho2 (by omega) ?_
      intro w3 ho3 hT3
      refine ofPR (pr_cut undRw szRw .no (.at _ _) .no (Nat.zero_le _) (fun h => by cases h) (show i ≤ c by omega) (Nat.le_refl _) (.inl rfl)) ?_
      have e2 : sliced (some ⟨g, 0, none⟩) 0 i c 2 = .slice (some ⟨g, 0, none⟩) i c := by
        unfold sliced
        by_cases h0 : c = 0
        · omega
        · rw [if_neg h0, Option.map_some, add0]; simp
      rw [e2]
      rw [List.take_length] at htk
      have hlen : i = (l.filter fun x => !p x).length := by rw [← htk, List.length_take]; omega
      obtain ⟨cur, hBg⟩ := ho2.blk
      have hb3 := hb2.trans (hT3.own hgB hb2.size)
      refine ⟨?_, fun k hk => by cases hk; exact hgB, hb3, fun x hx => ?_⟩
      · have e3 : (m.flatMap mmF).take (i * 2) = (m.take i).flatMap mmF := by
          have h := List.take_append_drop i m
          conv => lhs; rw [← h, List.flatMap_append]
          rw [List.take_append_of_le_length (by rw [flatMap_len mmF 2 mmF_len, List.length_take]; omega), List.take_of_length_le (by rw [flatMap_len mmF 2 mmF_len, List.length_take]; omega)]
        rw [e3, htk] at ho3
        rw [← hlen]
        exact ho3
      · have hx' := (List.mem_filter.1 hx).1
        exact ⟨⟨ownsRow_turns (hms x hx').1.own hT3 (rec_ne (hms x hx').1 hBg), (hms x hx').1.fresh, hb3⟩, (hms x hx').2⟩
  · (repeat with_reducible first|refine z_b ?_|refine z_q (by omega) ?_)
    have h1 : l.filter (fun x => !p x) = l := List.filter_eq_self.2 fun x hx => by have := hall x hx; simpa using this
    rw [h1]
    exact hv1
end Go.Proofs.YtonblppkidpmlaaGreatDoor.E
namespace Go.Proofs.YtonblppkidpmlaaGreatDoor.E
open Go Go.RowKit
set_option linter.unusedSimpArgs false
set_option linter.unusedVariables false

theorem zRep : (Tryz.prog.info? 37).bind (·.zero) = some (.agg #[.int .i64 0, .bool false, .slice none 0 0, .slice none 0 0, .int .i64 0]) := by kernel_rfl
theorem szRep : (Tryz.prog.info? 37).map (·.size) = some 5 := by kernel_rfl
theorem aggRep : aggB Tryz.prog 37 = true := by kernel_rfl
/-- A reply is told and given. -/
theorem repL {parts : Array (Nat × Value)} {cells old : Array Value} {g : Nat} {R : Value → World → Prop} {w : World} (hbt : Tryz.prog.built 37 parts.toList = some cells) (hl : cells.size = 5) (h1 : cells.all (·.oneCell') = true)
    (hB : Blk w g 37 old) (ho : old.size = 5) (k : ∀ w', Turns (fun j => j = g) w w' → R (.agg cells) w') :
    LiftP Tryz.prog (Instr.build 37 parts) (fun v w => LiftU Tryz.prog (Instr.storeAt 37 (.pointer (some ⟨g, 0, none⟩)) v) (fun _ w => RetC Tryz.prog (.pointer (some ⟨g, 0, none⟩)) 37 (fun x => R x w) w) w) w := by
  refine bd hbt ?_
  refine stB hB (by rw [szRep, hl]) (by rw [ho, hl]) h1 ?_
  intro w' hB' hT
  exact retA aggRep hB' (by rw [szRep, hl]) (k w' hT)
/-- A reply in memory, of the colour hr. -/
def RepC (hr : Nat) (c : Nat → Nat) (w : World) (r : Value) (p : RepT) : Prop := ∃ vr vw M, r = .agg #[.int .i64 p.code, .bool p.there, vr, vw, .int .i64 p.id] ∧ VS hr c w vr p.rcd ∧ RowsC hr c w vw M ∧ M.map mkr = p.rows
theorem RepC.turns {hr : Nat} {c : Nat → Nat} {w w' : World} {r : Value} {p : RepT} {G : Nat → Prop} (h : RepC hr c w r p) (hT : Turns G w w') (hG : ∀ k, G k → c k ≠ hr) : RepC hr c w' r p := by
  obtain ⟨vr, vw, M, e, h1, h2, h3⟩ := h
  exact ⟨vr, vw, M, e, h1.turns hT hG, h2.turns hT hG, h3⟩
theorem RepC.below {hr : Nat} {c : Nat → Nat} {w w' : World} {r : Value} {p : RepT} (h : RepC hr c w r p) (hb : Below w.heap.size w w') : RepC hr c w' r p := h.turns (G := fun _ => False) (Turns.of_below hb) fun _ h => h.elim
theorem RepC.re {hr : Nat} {c c' : Nat → Nat} {w : World} {r : Value} {p : RepT} (h : RepC hr c w r p) (hc : ∀ k, k < w.heap.size → c' k = c k) : RepC hr c' w r p := by
  obtain ⟨vr, vw, M, e, h1, h2, h3⟩ := h
  exact ⟨vr, vw, M, e, h1.re hc, h2.re hc, h3⟩
theorem VS.nil (hr : Nat) (c : Nat → Nat) (w : World) : VS hr c w (.slice none 0 0) [] := ⟨⟨none, 0, rfl, Nat.le_refl _, Nat.zero_le _, fun i x h => by simp at h⟩, .inl rfl⟩
/-- What a call of Do leaves. -/
def DoPost (hu hr : Nat) (c : Nat → Nat) (w : World) (g : Nat) (q : StT × RepT) (r : Value) (w' : World) : Prop :=
  ∃ c', (∀ k, k < w.heap.size → c' k = c k) ∧ PlS hu c' w' g q.1 ∧ RepC hr c' w' r q.2 ∧ Turns (fun k => c k = hu) w w'
/-- What a scan leaves out. -/
def outP (o : OpP) (m : Mm) : Bool := decide (m.1 < o.key.data.toList ∨ (o.to.data.toList ≠ [] ∧ ¬ m.1 < o.to.data.toList))
theorem out70 (o : OpP) (s : OpS) (g : Nat) (m : Mm) (w : World) (hB : Blk w g 26 (opC o s)) :
    CallP Tryz.prog 70 #[.agg (mmF m).toArray, .pointer (some ⟨g, 0, none⟩)] (fun r w' => r = .bool (outP o m) ∧ Below w.heap.size w w') w := by
  refine ⟨S70.calls _ _ _ _ ?_⟩
  unfold S70
  refine bxB ?_
  intro g1 w2 hg1 hM hb
  have c0 : w2.cell? ⟨g1, 0, none⟩ = some (tS m.1) := hM.cell 0
  have k1 : w2.cell? ⟨g, 1, none⟩ = some (tS o.key.data.toList) := by rw [← tS_of]; exact opk1 hB _ hb
  have k2 : w2.cell? ⟨g, 2, none⟩ = some (tS o.to.data.toList) := by rw [← tS_of]; exact opk2 hB _ hb
  (repeat with_reducible first|refine fd w0 (by decide) ?_|refine ld one9 c0 ?_|refine fd of1 (by decide) ?_|refine ld one9 k1 ?_)
  refine tl_lss_c (fun h1 => ?_) (fun h1 => ?_)
  · (repeat with_reducible first|refine z_f ?_|refine z_g ?_|refine z_k ?_)
    exact ⟨tB (.inl h1), hb⟩
  (repeat with_reducible first|refine fd of2 (by decide) ?_|refine ld one9 k2 ?_|refine z_d ?_)
  refine tl_neq0_c (fun h2 => ?_) (fun h2 => ?_)
  · (repeat with_reducible first|refine fd w0 (by decide) ?_|refine ld one9 c0 ?_|refine fd of2 (by decide) ?_|refine ld one9 k2 ?_|refine z_d ?_)
    refine tl_geq ?_
    (repeat with_reducible first|refine z_d ?_|refine z_k ?_|refine z_l ?_)
    refine ⟨?_, hb⟩
    unfold outP
    congr 1
    rw [decide_eq_decide]
    exact ⟨fun h => .inr ⟨h2, h⟩, fun h => (h.resolve_left h1).2⟩
  · (repeat with_reducible first|refine z_d ?_|refine z_e ?_|refine z_l ?_)
    exact ⟨fB fun e => e.elim h1 fun e => h2 e.1, hb⟩
theorem out_pred (o : OpP) (s : OpS) (g : Nat) (v : Value) (w : World) (hB : Blk w g 26 (opC o s)) (hne : v.ownBlock ≠ some g) : PredM 70 #[.pointer (some ⟨g, 0, none⟩)] (outP o) v w :=
  fun m w' hT => out70 o s g m w' (hB.turns hT hne)
/-- A row cut short. -/
theorem OwnR.cutK {s : Nat} {e : TypeId} {w : World} {A : Option Addr} {n c : Nat} {cs : List Value} (h : OwnR s e w (.slice A n c) n cs) (k : Nat) (hk : k ≤ n) : OwnR s e w (sliced A 0 k c s) k (cs.take (k * s)) ∧ ∀ j, (sliced A 0 k c s).ownBlock = some j → (Value.slice A n c).ownBlock = some j := by
  have hle : k * s ≤ n * s := Nat.mul_le_mul_right s hk
  have hlen := h.1
  refine ⟨⟨by rw [List.length_take]; omega, ?_⟩, ?_⟩
  · rcases h.2 with ⟨e, h0⟩ | ⟨g, c', cur, e, hb, h1, h2, h3, h4⟩
    · simp only [Value.slice.injEq] at e
      obtain ⟨rfl, rfl, rfl⟩ := e
      have : k = 0 := by omega
      subst this
      exact .inl ⟨by simp [sliced], rfl⟩
    · simp only [Value.slice.injEq] at e
      obtain ⟨rfl, _, rfl⟩ := e
      refine .inr ⟨g, c, cur, ?_, hb, by omega, h2, by omega, ?_⟩
      · unfold sliced
        by_cases h0 : c = 0
        · subst h0
          simp
        · rw [if_neg (by omega), Option.map_some, add0]; simp
      · rw [← h4, List.take_take, Nat.min_eq_left hle]
  · intro j hj
    rcases h.2 with ⟨e, h0⟩ | ⟨g, c', cur, e, hb, h1, h2, h3, h4⟩
    · simp only [Value.slice.injEq] at e
      obtain ⟨rfl, rfl, rfl⟩ := e
      unfold sliced at hj
      split at hj <;> cases hj
    · simp only [Value.slice.injEq] at e
      obtain ⟨rfl, _, rfl⟩ := e
      unfold sliced at hj
      split at hj
      · exact hj
      · rw [Option.map_some, add0] at hj; exact hj
theorem flat_take {α : Type} {f : α → List Value} {s : Nat} (hf : ∀ x, (f x).length = s) (l : List α) (k : Nat) : (l.flatMap f).take (k * s) = (l.take k).flatMap f := by
  rcases Nat.le_total k l.length with hk | hk
  · have h := List.take_append_drop k l
    conv => lhs; rw [← h, List.flatMap_append]
    have hl : ((l.take k).flatMap f).length = k * s := by rw [flatMap_len f s hf, List.length_take, Nat.min_eq_left hk]
    rw [List.take_append_of_le_length (by omega), List.take_of_length_le (by omega)]
  · rw [List.take_of_length_le hk, List.take_of_length_le]
    rw [flatMap_len f s hf]
    exact Nat.mul_le_mul_right s hk
theorem RwG.cut {w0 w : World} {A : Option Addr} {n c : Nat} {M : List Mm} (h : RwG w0 w (.slice A n c) M) (hn : n = M.length) (k : Nat) (hk : k ≤ M.length) : RwG w0 w (sliced A 0 k c 2) (M.take k) := by
  subst hn
  obtain ⟨h1, h2⟩ := h.row.cutK k hk
  refine ⟨?_, fun j hj => h.fresh j (h2 j hj), h.bel, fun m hm => h.ms m (List.mem_of_mem_take hm)⟩
  rw [flat_take mmF_len] at h1
  rw [List.length_take, Nat.min_eq_left hk]
  exact h1
end Go.Proofs.YtonblppkidpmlaaGreatDoor.E
