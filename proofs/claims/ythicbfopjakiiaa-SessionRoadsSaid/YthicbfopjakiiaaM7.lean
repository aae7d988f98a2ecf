import Derived.Test.YthicbfopjakiiaaM6
import Derived.Test.YthicbfopjakiiaaM3
import Derived.Laws.StructEq
import Derived.Test.YthicbfopjakiiaaS3
namespace Go.Proofs.Ythicbfopjakiiaa.E
open Go Go.RowKit
set_option linter.unusedSimpArgs false
set_option linter.unusedVariables false

theorem und81 : Try.prog.underlying 81 = some (.slice 3) := by kernel_rfl
end Go.Proofs.Ythicbfopjakiiaa.E
namespace Go.Proofs.Ythicbfopjakiiaa.E
open Go Go.RowKit
set_option linter.unusedSimpArgs false
set_option linter.unusedVariables false

end Go.Proofs.Ythicbfopjakiiaa.E
namespace Go.Proofs.Ythicbfopjakiiaa.E
open Go Go.RowKit
set_option linter.unusedSimpArgs false
set_option linter.unusedVariables false

theorem und116 : Try.prog.underlying 116 = some (.map 3 58) := by kernel_rfl
theorem one116 : oneB Try.prog 116 = true := by kernel_rfl
theorem n0 : fofs Try.prog 118 0 = some (0, 1) := by kernel_rfl
theorem n1 : fofs Try.prog 118 1 = some (1, 1) := by kernel_rfl
/-- A letter with its rows. -/
structure Msg where
  L : Let
  p : Value
  q : Value
  ps : List PairT
  is : List IntentT
def Msg.val (m : Msg) : Value := .agg (m.L.cells m.p m.q)
def pairOk (p : PairT) : Prop := p.1.size ≤ maxLen ∧ p.2.1.size ≤ maxLen
def intentOk (p : IntentT) : Prop := p.1.size ≤ maxLen ∧ (Lit.int .i64 p.2.1).wf = true
structure MsgAt (c : Nat → Nat) (x : Nat) (w : World) (m : Msg) : Prop where
  op : OwnS 2 64 w m.p m.ps.length (m.ps.flatMap pairF)
  oq : OwnS 3 68 w m.q m.is.length (m.is.flatMap intentF)
  cp : InC c x m.p
  cq : InC c x m.q
  kp : ∀ p ∈ m.ps, pairOk p
  kq : ∀ i ∈ m.is, intentOk i
  lp : m.ps.length ≤ 256
  lq : m.is.length ≤ 256
  ap : m.p.ownBlock = none ∨ m.p.ownBlock ≠ m.q.ownBlock
theorem rPair_all : ∀ (w w' : World) (us : List Value) (x : PairT), rPair w us x → rPair w' us x := fun _ _ _ _ h => h
theorem rIntent_all : ∀ (w w' : World) (us : List Value) (x : IntentT), rIntent w us x → rIntent w' us x := fun _ _ _ _ h => h
theorem rPair_of {w : World} {x : PairT} (h : pairOk x) : rPair w (pairF x) x := ⟨⟨rfl, h.1⟩, ⟨rfl, h.2⟩, rfl⟩
theorem rIntent_of {w : World} {x : IntentT} (h : intentOk x) : rIntent w (intentF x) x := ⟨⟨rfl, h.1⟩, ⟨rfl, h.2⟩, rfl, rfl⟩
theorem pairs_ok {w : World} {v : Value} {l : List PairT} (h : Pairs w [v] l) : ∀ p ∈ l, pairOk p := by
  intro p hp
  obtain ⟨A, c, he, _, _, h⟩ := h
  obtain ⟨i, hi, rfl⟩ := List.getElem_of_mem hp
  obtain ⟨a, us, _, _, _, hr⟩ := h i l[i] (List.getElem?_eq_getElem hi)
  exact (pair_cells hr).2
theorem intents_ok {w : World} {v : Value} {l : List IntentT} (h : Intents w [v] l) : ∀ p ∈ l, intentOk p := by
  intro p hp
  obtain ⟨A, c, he, _, _, h⟩ := h
  obtain ⟨i, hi, rfl⟩ := List.getElem_of_mem hp
  obtain ⟨a, us, _, _, _, hr⟩ := h i l[i] (List.getElem?_eq_getElem hi)
  refine ⟨(intent_cells hr).2, ?_⟩
  obtain ⟨r, e1, _, h2⟩ := rCons_S hr
  obtain ⟨r', e2, h3, _⟩ := rCons_I h2
  exact h3
section
variable {c c' : Nat → Nat} {x : Nat} {w w' : World} {m : Msg}
theorem MsgAt.pairs (h : MsgAt c x w m) : Pairs w [m.p] m.ps := h.op.rd (fun _ => rfl) fun p hp => rPair_of (h.kp p hp)
theorem MsgAt.intents (h : MsgAt c x w m) : Intents w [m.q] m.is := h.oq.rd (fun _ => rfl) fun p hp => rIntent_of (h.kq p hp)
theorem MsgAt.turns {F : Nat → Prop} (h : MsgAt c x w m) (hT : Turns F w w') (hF : ∀ k, F k → c k ≠ x) : MsgAt c x w' m :=
  ⟨h.op.turns hT (fun k hk he => hF k he (h.cp k hk)), h.oq.turns hT (fun k hk he => hF k he (h.cq k hk)), h.cp, h.cq, h.kp, h.kq, h.lp, h.lq, h.ap⟩
theorem MsgAt.re (h : MsgAt c x w m) (hc : ∀ k, k < w.heap.size → c' k = c k) : MsgAt c' x w m := ⟨h.op, h.oq, h.cp.re (fun b hb => h.op.lt hb) hc, h.cq.re (fun b hb => h.oq.lt hb) hc, h.kp, h.kq, h.lp, h.lq, h.ap⟩
end
/-- A net in memory: its struct and map have colour 1; a letter's rows the colour of its number and 10. -/
structure NetAt (c : Nat → Nat) (w : World) (g b last : Nat) (l : List (Int × Msg)) : Prop where
  hue : c g = 1
  huem : c b = 1
  ne : g ≠ b
  blk : Blk w g 118 #[.map (some b), .int .i64 last]
  map : MapI w b (l.map fun x => (x.1, x.2.val))
  el : ∀ x ∈ l, (1 ≤ x.1 ∧ x.1 ≤ last) ∧ MsgAt c (x.1.toNat + 10) w x.2
def NetC (c : Nat → Nat) (w : World) (g last : Nat) (l : List (Int × Msg)) : Prop := ∃ b, NetAt c w g b last l
section
variable {c c' : Nat → Nat} {w w' : World} {g b last : Nat} {l : List (Int × Msg)}
theorem NetAt.turns {F : Nat → Prop} (h : NetAt c w g b last l) (hT : Turns F w w') (hF : ∀ k, F k → c k = 0) : NetAt c w' g b last l :=
  ⟨h.hue, h.huem, h.ne, h.blk.turns hT (fun e => by have := hF g e; rw [h.hue] at this; omega), h.map.turns hT (fun e => by have := hF b e; rw [h.huem] at this; omega),
    fun x hx => ⟨(h.el x hx).1, (h.el x hx).2.turns hT (fun k hk => by rw [hF k hk]; omega)⟩⟩
theorem NetAt.below (h : NetAt c w g b last l) (hb : Below w.heap.size w w') : NetAt c w' g b last l := h.turns (F := fun _ => False) (Turns.of_below hb) (fun _ h => h.elim)
theorem NetAt.re (h : NetAt c w g b last l) (hc : ∀ k, k < w.heap.size → c' k = c k) : NetAt c' w g b last l :=
  ⟨(hc g h.blk.lt).trans h.hue, (hc b h.map.lt).trans h.huem, h.ne, h.blk, h.map, fun x hx => ⟨(h.el x hx).1, (h.el x hx).2.re hc⟩⟩
theorem NetC.turns {F : Nat → Prop} (h : NetC c w g last l) (hT : Turns F w w') (hF : ∀ k, F k → c k = 0) : NetC c w' g last l := by
  obtain ⟨b, h⟩ := h; exact ⟨b, h.turns hT hF⟩
theorem NetC.below (h : NetC c w g last l) (hb : Below w.heap.size w w') : NetC c w' g last l := by
  obtain ⟨b, h⟩ := h; exact ⟨b, h.below hb⟩
theorem NetC.re (h : NetC c w g last l) (hc : ∀ k, k < w.heap.size → c' k = c k) : NetC c' w g last l := by
  obtain ⟨b, h⟩ := h; exact ⟨b, h.re hc⟩
end
theorem setK_newN {α : Type} (k : Int) (v : α) : ∀ l : List (Int × α), (∀ x ∈ l, x.1 ≠ k) → setK k v l = l ++ [(k, v)]
  | [], _ => rfl
  | (a, u) :: r, h => by
    rw [setK, if_neg (fun e => h (a, u) (by simp) e.symm), setK_newN k v r (fun x hx => h x (by simp [hx]))]; rfl
theorem New_net (w : World) : CallP Try.prog 29 #[] (fun r w' => ∃ g c, r = .pointer (some ⟨g, 0, none⟩) ∧ (∀ k, k < w.heap.size → c k = 0) ∧ NetC c w' g 0 [] ∧ Below w.heap.size w w') w := by
  refine ⟨S29.calls _ _ ?_⟩
  unfold S29
  refine mkm ?_
  intro w1 hm1 hb1
  refine bd (cells := #[.map (some w.heap.size), .int .i64 0]) (by kernel_rfl) ?_
  refine bx ?_
  have hbl : Blk (w1.alloc (.cells (Value.agg #[.map (some w.heap.size), .int .i64 0]).cells 118)) w1.heap.size 118 #[.map (some w.heap.size), .int .i64 0] := Blk.new w1 118 _
  have ha := (Below.refl w1.heap.size w1).alloc (Nat.le_refl _) (.cells (Value.agg #[.map (some w.heap.size), .int .i64 0]).cells 118)
  have hlt := hm1.lt
  refine ⟨w1.heap.size, fun k => if k = w1.heap.size ∨ k = w.heap.size then 1 else 0, rfl, fun k hk => by simp only; rw [if_neg (by omega)], ⟨w.heap.size, by simp, by simp, by omega, hbl, hm1.below ha, fun x hx => by simp at hx⟩, below_then hb1 ha⟩
theorem Len_net (c : Nat → Nat) (w : World) (g last : Nat) (l : List (Int × Msg)) (h : NetC c w g last l) : CallP Try.prog 32 #[.pointer (some ⟨g, 0, none⟩)] (fun r w' => r = .int .i64 l.length ∧ w = w') w := by
  obtain ⟨b, h⟩ := h
  have c0 : w.cell? ⟨g, 0, none⟩ = some (.map (some b)) := h.blk.cell 0
  refine ⟨S32.calls _ _ _ ?_⟩
  unfold S32
  (repeat with_reducible first | refine fd n0 (by decide) ?_| refine ld one116 c0 ?_|refine z_a ?_|refine z_b ?_|refine z_c ?_|refine z_d ?_|refine z_e ?_|refine z_f ?_|refine z_g ?_|refine z_h ?_|refine z_i ?_|refine z_j ?_|refine z_k ?_|refine z_l ?_|refine z_m (by omega) ?_|refine z_n (by omega) ?_|refine z_o (by omega) ?_|refine z_p (by omega) ?_|refine z_q (by omega) ?_|refine z_r (by omega) ?_|refine z_s (by omega) ?_|refine z_t (by omega) ?_|refine z_u (by omega) ?_|refine z_v (by omega) ?_|refine z_w (by omega) ?_|refine z_x (by omega) ?_|refine z_y (by omega) ?_|refine z_z (by omega) ?_|refine z_A ?_|refine z_B ?_|refine z_C ?_|refine z_D ?_|refine z_E ?_|refine z_F ?_|refine z_G ?_|refine z_H ?_|refine z_I ?_|refine z_J ?_|refine z_K (by omega) (by decide) ?_|refine z_L (by omega) (by decide) ?_|refine z_M (by omega) ?_|refine z_N (by omega) ?_|refine z_O (by omega) ?_|refine z_P ?_|refine z_Q ?_|refine z_R ?_|refine z_S ?_|refine z_T ?_|refine z_U (by decide) ?_|refine z_V (by decide) ?_)
  refine lnm und116 h.map ?_
  rw [List.length_map]
  exact ⟨rfl, rfl⟩
/-- What a call leaves: the net, and that nothing else has turned. -/
def LeftN (c : Nat → Nat) (w : World) (g last : Nat) (l : List (Int × Msg)) (w' : World) : Prop := ∃ c', (∀ k, k < w.heap.size → c' k = c k) ∧ NetC c' w' g last l ∧ Turns (D c) w w'
/-- A letter as it is handed in. -/
theorem add_net (c : Nat → Nat) (w : World) (g last : Nat) (l : List (Int × Msg)) (L : Let) (p q : Value) (ps : List PairT) (is : List IntentT) (h : NetC c w g last l) (hlast : last ≤ 1000000000)
    (hp : Pairs w [p] ps) (hq : Intents w [q] is) (hl : ps.length ≤ 256) (hl2 : is.length ≤ 256)
    (hpc : ps = [] ∨ ∀ k, p.ownBlock = some k → c k ≠ 1) (hqc : is = [] ∨ ∀ k, q.ownBlock = some k → c k ≠ 1) :
    CallP Try.prog 60 #[.pointer (some ⟨g, 0, none⟩), .agg (L.cells p q)] (fun r w' => if 4096 ≤ l.length then r = .tuple #[.int .i64 0, .int .i64 17] ∧ LeftN c w g last l w'
      else r = .tuple #[.int .i64 ((last + 1 : Nat) : Int), .int .i64 0] ∧ ∃ p' q', LeftN c w g (last + 1) (l ++ [(((last + 1 : Nat) : Int), ⟨L, p', q', ps, is⟩)]) w') w := by
  have hC := h
  obtain ⟨b, h⟩ := h
  refine ⟨S60.calls _ _ _ _ ?_⟩
  unfold S60
  refine bx ?_
  have hL : Blk (w.alloc (.cells (Value.agg (L.cells p q)).cells 58)) w.heap.size 58 (L.cells p q) := Blk.new w 58 _
  have ha := (Below.refl w.heap.size w).alloc (Nat.le_refl _) (.cells (Value.agg (L.cells p q)).cells 58)
  generalize w.alloc (.cells (Value.agg (L.cells p q)).cells 58) = w1 at *
  have h1 := (h.re (col_lt c w.heap.size (last + 11))).below ha
  have hg0 := hL.lt
  have c0 : w1.cell? ⟨g, 0, none⟩ = some (.map (some b)) := h1.blk.cell 0
  have c1 : w1.cell? ⟨g, 1, none⟩ = some (.int .i64 last) := h1.blk.cell 1
  (repeat with_reducible first | refine fd n0 (by decide) ?_| refine ld one116 c0 ?_|refine z_a ?_|refine z_b ?_|refine z_c ?_|refine z_d ?_|refine z_e ?_|refine z_f ?_|refine z_g ?_|refine z_h ?_|refine z_i ?_|refine z_j ?_|refine z_k ?_|refine z_l ?_|refine z_m (by omega) ?_|refine z_n (by omega) ?_|refine z_o (by omega) ?_|refine z_p (by omega) ?_|refine z_q (by omega) ?_|refine z_r (by omega) ?_|refine z_s (by omega) ?_|refine z_t (by omega) ?_|refine z_u (by omega) ?_|refine z_v (by omega) ?_|refine z_w (by omega) ?_|refine z_x (by omega) ?_|refine z_y (by omega) ?_|refine z_z (by omega) ?_|refine z_A ?_|refine z_B ?_|refine z_C ?_|refine z_D ?_|refine z_E ?_|refine z_F ?_|refine z_G ?_|refine z_H ?_|refine z_I ?_|refine z_J ?_|refine z_K (by omega) (by decide) ?_|refine z_L (by omega) (by decide) ?_|refine z_M (by omega) ?_|refine z_N (by omega) ?_|refine z_O (by omega) ?_|refine z_P ?_|refine z_Q ?_|refine z_R ?_|refine z_S ?_|refine z_T ?_|refine z_U (by decide) ?_|refine z_V (by decide) ?_)
  refine lnm und116 h1.map ?_
  rw [List.length_map]
  refine bi_geq_c (fun hfull => ?_) (fun hfull => ?_)
  · (repeat with_reducible first|refine z_a ?_|refine z_b ?_|refine z_c ?_|refine z_d ?_|refine z_e ?_|refine z_f ?_|refine z_g ?_|refine z_h ?_|refine z_i ?_|refine z_j ?_|refine z_k ?_|refine z_l ?_|refine z_m (by omega) ?_|refine z_n (by omega) ?_|refine z_o (by omega) ?_|refine z_p (by omega) ?_|refine z_q (by omega) ?_|refine z_r (by omega) ?_|refine z_s (by omega) ?_|refine z_t (by omega) ?_|refine z_u (by omega) ?_|refine z_v (by omega) ?_|refine z_w (by omega) ?_|refine z_x (by omega) ?_|refine z_y (by omega) ?_|refine z_z (by omega) ?_|refine z_A ?_|refine z_B ?_|refine z_C ?_|refine z_D ?_|refine z_E ?_|refine z_F ?_|refine z_G ?_|refine z_H ?_|refine z_I ?_|refine z_J ?_|refine z_K (by omega) (by decide) ?_|refine z_L (by omega) (by decide) ?_|refine z_M (by omega) ?_|refine z_N (by omega) ?_|refine z_O (by omega) ?_|refine z_P ?_|refine z_Q ?_|refine z_R ?_|refine z_S ?_|refine z_T ?_|refine z_U (by decide) ?_|refine z_V (by decide) ?_)
    show ite _ _ _
    rw [if_pos (by omega)]
    exact ⟨rfl, c, fun _ _ => rfl, hC.below ha, Turns.of_below ha⟩
  (repeat with_reducible first | refine fd n1 (by decide) ?_| refine ld one3 c1 ?_| refine fd n1 (by decide) ?_|refine z_a ?_|refine z_b ?_|refine z_c ?_|refine z_d ?_|refine z_e ?_|refine z_f ?_|refine z_g ?_|refine z_h ?_|refine z_i ?_|refine z_j ?_|refine z_k ?_|refine z_l ?_|refine z_m (by omega) ?_|refine z_n (by omega) ?_|refine z_o (by omega) ?_|refine z_p (by omega) ?_|refine z_q (by omega) ?_|refine z_r (by omega) ?_|refine z_s (by omega) ?_|refine z_t (by omega) ?_|refine z_u (by omega) ?_|refine z_v (by omega) ?_|refine z_w (by omega) ?_|refine z_x (by omega) ?_|refine z_y (by omega) ?_|refine z_z (by omega) ?_|refine z_A ?_|refine z_B ?_|refine z_C ?_|refine z_D ?_|refine z_E ?_|refine z_F ?_|refine z_G ?_|refine z_H ?_|refine z_I ?_|refine z_J ?_|refine z_K (by omega) (by decide) ?_|refine z_L (by omega) (by decide) ?_|refine z_M (by omega) ?_|refine z_N (by omega) ?_|refine z_O (by omega) ?_|refine z_P ?_|refine z_Q ?_|refine z_R ?_|refine z_S ?_|refine z_T ?_|refine z_U (by decide) ?_|refine z_V (by decide) ?_)
  rw [show ((last : Int) + 1) = ((last + 1 : Nat) : Int) from by omega]
  refine st sz3 rfl (by rw [c1]; rfl) (h1.blk.frozen 1) ?_
  have hT2 := Turns.setCell (F := fun k => k = g) (p := ⟨g, 1, none⟩) (Turns.refl _ w1) (.inl rfl) (.int .i64 ((last + 1 : Nat) : Int))
  have hblk2 := h1.blk.set_ 1 (.int .i64 ((last + 1 : Nat) : Int))
  have hgl : g ≠ w.heap.size := by have := h.blk.lt; omega
  have hL2 := hL.turns hT2 (fun e => hgl e.symm)
  have hm2 := h1.map.turns hT2 (fun e => h1.ne e.symm)
  have hel2 : ∀ x ∈ l, MsgAt (col c w.heap.size (last + 11)) (x.1.toNat + 10) _ x.2 := fun x hx => (h1.el x hx).2.turns hT2 (fun k hk => by rw [hk, h1.hue]; omega)
  have hTw : Turns (D c) w (w1.setCell ⟨g, 1, none⟩ (.int .i64 ((last + 1 : Nat) : Int))) := (Turns.of_below ha).setCell (.inl (by show c g ≠ 0; rw [h.hue]; omega)) _
  have hp2 : Pairs (w1.setCell ⟨g, 1, none⟩ (.int .i64 ((last + 1 : Nat) : Int))) [p] ps := rRow.turns rPair_all (keeps_Pairs _ _ _ _ ha hp) (by decide) hT2 (hpc.imp_right fun hc k hk he => hc k hk (by rw [he]; exact h.hue))
  have hq2 : Intents (w1.setCell ⟨g, 1, none⟩ (.int .i64 ((last + 1 : Nat) : Int))) [q] is := rRow.turns rIntent_all (keeps_Intents _ _ _ _ ha hq) (by decide) hT2 (hqc.imp_right fun hc k hk he => hc k hk (by rw [he]; exact h.hue))
  have hsz2 : (w1.setCell ⟨g, 1, none⟩ (.int .i64 ((last + 1 : Nat) : Int))).heap.size = w1.heap.size := by simp [World.setCell]
  have hblk2' : Blk (w1.setCell ⟨g, 1, none⟩ (.int .i64 ((last + 1 : Nat) : Int))) g 118 #[.map (some b), .int .i64 ((last + 1 : Nat) : Int)] := hblk2
  generalize w1.setCell ⟨g, 1, none⟩ (.int .i64 ((last + 1 : Nat) : Int)) = w2 at *
  have hdr : Below w2.heap.size w2 w2.drew := (Below.refl _ _).drew
  have d0 : ∀ w', (Blk w' g 118 #[.map (some b), .int .i64 ((last + 1 : Nat) : Int)] ∧ Blk w' w.heap.size 58 (L.cells p q)) → w'.cell? ⟨g, 0, none⟩ = some (.map (some b)) := fun w' h => h.1.cell 0
  have d1 : ∀ w', (Blk w' g 118 #[.map (some b), .int .i64 ((last + 1 : Nat) : Int)] ∧ Blk w' w.heap.size 58 (L.cells p q)) → w'.cell? ⟨g, 1, none⟩ = some (.int .i64 ((last + 1 : Nat) : Int)) := fun w' h => h.1.cell 1
  refine draw (fun w' => Blk w' g 118 #[.map (some b), .int .i64 ((last + 1 : Nat) : Int)] ∧ Blk w' w.heap.size 58 (L.cells p q)) ⟨hblk2'.below' hdr, hL2.below' hdr⟩ ?_
  (repeat with_reducible first | refine yfd n0 (by decide) ?_| refine yl1 one116 d0 ?_| refine yfd n1 (by decide) ?_| refine yl1 one3 d1 ?_|refine z_W ?_|refine z_a ?_|refine z_b ?_|refine z_c ?_|refine z_d ?_|refine z_e ?_|refine z_f ?_|refine z_g ?_|refine z_h ?_|refine z_i ?_|refine z_j ?_|refine z_k ?_|refine z_l ?_|refine z_X (by omega) ?_|refine z_Y (by omega) ?_|refine z_Z (by omega) ?_|refine z_a1 (by omega) ?_|refine z_b1 (by omega) ?_|refine z_c1 (by omega) ?_|refine z_d1 (by omega) ?_|refine z_e1 (by omega) ?_|refine z_f1 (by omega) ?_|refine z_g1 (by omega) ?_|refine z_h1 (by omega) ?_|refine z_i1 (by omega) ?_|refine z_j1 (by omega) ?_|refine z_k1 (by omega) ?_|refine z_l1 ?_|refine z_m1 ?_|refine z_n1 ?_|refine z_o1 ?_|refine z_p1 ?_|refine z_q1 ?_|refine z_r1 ?_|refine z_s1 ?_|refine z_t1 ?_|refine z_u1 ?_|refine z_v1 (by omega) (by decide) ?_|refine z_w1 (by omega) (by decide) ?_|refine z_x1 (by omega) ?_|refine z_y1 (by omega) ?_|refine z_z1 (by omega) ?_|refine z_A1 ?_|refine z_B1 ?_|refine z_C1 ?_|refine z_D1 ?_|refine z_E1 ?_|refine z_F1 (by decide) ?_|refine z_G1 (by decide) ?_)
  refine yldA agg58 (fun w' h => h.2) (by exact sz58) ?_
  refine act ?_
  refine (Copy_spec L p q ps is w2.drew (keeps_Pairs _ _ _ _ hdr hp2) (keeps_Intents _ _ _ _ hdr hq2) (by omega) (by omega)).mono ?_
  rintro _ w3 ⟨p', q', rfl, hop, hoq, hfp, hfq, hapart, hb3⟩
  have hb23 := below_then hdr hb3
  have hsd := hdr.size
  refine ⟨_, ⟨hblk2'.below' hb23, hL2.below' hb23⟩, fun _ h => h, ?_⟩
  refine mup und116 und3 (hm2.below hb23) (wf64 (by omega)) (by rw [List.length_map]; show l.length < maxLen; simp only [maxLen]; omega) ?_
  intro w4 hm4 hT4
  have hblk4 := (hblk2'.below' hb23).turns hT4 h1.ne
  have c1' : w4.cell? ⟨g, 1, none⟩ = some (.int .i64 ((last + 1 : Nat) : Int)) := hblk4.cell 1
  (repeat with_reducible first | refine fd n1 (by decide) ?_| refine ld one3 c1' ?_|refine z_a ?_|refine z_b ?_|refine z_c ?_|refine z_d ?_|refine z_e ?_|refine z_f ?_|refine z_g ?_|refine z_h ?_|refine z_i ?_|refine z_j ?_|refine z_k ?_|refine z_l ?_|refine z_m (by omega) ?_|refine z_n (by omega) ?_|refine z_o (by omega) ?_|refine z_p (by omega) ?_|refine z_q (by omega) ?_|refine z_r (by omega) ?_|refine z_s (by omega) ?_|refine z_t (by omega) ?_|refine z_u (by omega) ?_|refine z_v (by omega) ?_|refine z_w (by omega) ?_|refine z_x (by omega) ?_|refine z_y (by omega) ?_|refine z_z (by omega) ?_|refine z_A ?_|refine z_B ?_|refine z_C ?_|refine z_D ?_|refine z_E ?_|refine z_F ?_|refine z_G ?_|refine z_H ?_|refine z_I ?_|refine z_J ?_|refine z_K (by omega) (by decide) ?_|refine z_L (by omega) (by decide) ?_|refine z_M (by omega) ?_|refine z_N (by omega) ?_|refine z_O (by omega) ?_|refine z_P ?_|refine z_Q ?_|refine z_R ?_|refine z_S ?_|refine z_T ?_|refine z_U (by decide) ?_|refine z_V (by decide) ?_)
  show ite _ _ _
  rw [if_neg (by omega)]
  have hcb : col c w.heap.size (last + 11) b = 1 := h1.huem
  have hfresh : ∀ {v : Value}, Fresh w2.drew.heap.size v → InC (col c w.heap.size (last + 11)) (last + 11) v := fun hf k hk => col_ge _ _ _ (by have := hf k hk; omega)
  refine ⟨rfl, p', q', col c w.heap.size (last + 11), col_lt _ _ _, ⟨b, h1.hue, h1.huem, h1.ne, hblk4, ?_, ?_⟩, ?_⟩
  · rw [setK_newN _ _ _ (fun x hx => by
      obtain ⟨y, hy, rfl⟩ := List.mem_map.1 hx
      have := (h1.el y hy).1.2
      simp only
      omega)] at hm4
    rw [List.map_append]
    exact hm4
  · intro x hx
    rcases List.mem_append.1 hx with hx | hx
    · refine ⟨⟨(h1.el x hx).1.1, by have := (h1.el x hx).1.2; omega⟩, ((hel2 x hx).turns (Turns.of_below (F := fun _ => False) hb23) (fun _ h => h.elim)).turns hT4 (fun k hk => by rw [hk, hcb]; omega)⟩
    · simp only [List.mem_cons, List.not_mem_nil, or_false] at hx
      subst hx
      refine ⟨⟨by simp only; omega, by simp only; omega⟩, ?_⟩
      have hcol : (((last + 1 : Nat) : Int)).toNat + 10 = last + 11 := by omega
      simp only [hcol]
      have hne : ∀ {v : Value}, InC (col c w.heap.size (last + 11)) (last + 11) v → ∀ k, v.ownBlock = some k → ¬ k = b := fun hv k hk he => by
        have := hv k hk
        rw [he, hcb] at this; omega
      exact ⟨hop.turns hT4 (hne (hfresh hfp)), hoq.turns hT4 (hne (hfresh hfq)), hfresh hfp, hfresh hfq, pairs_ok hp, intents_ok hq, hl, hl2, hapart⟩
  · refine (hTw.then_below hb23).trans (hT4.mono fun k hk he => ?_)
    rw [he]
    exact .inl (by show c b ≠ 0; rw [h.huem]; omega)
end Go.Proofs.Ythicbfopjakiiaa.E
namespace Go.Proofs.Ythicbfopjakiiaa.E
open Go Go.RowKit
set_option linter.unusedSimpArgs false
set_option linter.unusedVariables false

theorem packErr_small {L : Let} {ps : List PairT} {is : List IntentT} (h : packErr L ps is = 0) : ps.length ≤ 256 ∧ is.length ≤ 256 := by
  unfold packErr at h
  split at h
  · cases h
  split at h
  · cases h
  · rename_i h1; omega
/-- What an adding leaves. -/
def Added (c : Nat → Nat) (w : World) (g last : Nat) (l : List (Int × Msg)) (L : Let) (ps : List PairT) (is : List IntentT) (r : Value) (w' : World) : Prop :=
  if 4096 ≤ l.length then r = .tuple #[.int .i64 0, .int .i64 17] ∧ LeftN c w g last l w'
  else r = .tuple #[.int .i64 ((last + 1 : Nat) : Int), .int .i64 0] ∧ ∃ p' q', LeftN c w g (last + 1) (l ++ [(((last + 1 : Nat) : Int), ⟨L, p', q', ps, is⟩)]) w'
theorem LeftN.after {c c1 : Nat → Nat} {w w1 w2 : World} {g last : Nat} {l : List (Int × Msg)} (hT : Turns (D c) w w1) (hc : ∀ k, k < w.heap.size → c1 k = c k) (h : LeftN c1 w1 g last l w2) : LeftN c w g last l w2 := by
  obtain ⟨c2, h1, h2, h3⟩ := h
  exact ⟨c2, fun k hk => (h1 k (Nat.lt_of_lt_of_le hk hT.size)).trans (hc k hk), h2, hT.step hc h3⟩
theorem Added.after {c c1 : Nat → Nat} {w w1 w2 : World} {g last : Nat} {l : List (Int × Msg)} {L : Let} {ps : List PairT} {is : List IntentT} {r : Value} (hT : Turns (D c) w w1) (hc : ∀ k, k < w.heap.size → c1 k = c k) (h : Added c1 w1 g last l L ps is r w2) : Added c w g last l L ps is r w2 := by
  unfold Added at *
  split
  · rename_i hf
    rw [if_pos hf] at h
    exact ⟨h.1, h.2.after hT hc⟩
  · rename_i hf
    rw [if_neg hf] at h
    obtain ⟨h1, p', q', h2⟩ := h
    exact ⟨h1, p', q', h2.after hT hc⟩
theorem Added.pair {c : Nat → Nat} {w w2 : World} {g last : Nat} {l : List (Int × Msg)} {L : Let} {ps : List PairT} {is : List IntentT} {r : Value} (h : Added c w g last l L ps is r w2) : ∃ x y : Int, r = .tuple #[.int .i64 x, .int .i64 y] := by
  unfold Added at h
  split at h
  · exact ⟨_, _, h.1⟩
  · exact ⟨_, _, h.1⟩
theorem Send_net (c : Nat → Nat) (w : World) (g last : Nat) (l : List (Int × Msg)) (L : Let) (p q : Value) (ps : List PairT) (is : List IntentT) (h : NetC c w g last l) (hlast : last ≤ 1000000000)
    (hp : Pairs w [p] ps) (hq : Intents w [q] is) (hpc : ps = [] ∨ ∀ k, p.ownBlock = some k → c k ≠ 1) (hqc : is = [] ∨ ∀ k, q.ownBlock = some k → c k ≠ 1) :
    CallP Try.prog 30 #[.pointer (some ⟨g, 0, none⟩), .agg (L.cells p q)] (fun r w' => if packErr L ps is ≠ 0 then r = .tuple #[.int .i64 0, .int .i64 (packErr L ps is)] ∧ LeftN c w g last l w' else Added c w g last l L ps is r w') w := by
  refine ⟨S30.calls _ _ _ _ ?_⟩
  unfold S30
  refine bx ?_
  have hL : Blk (w.alloc (.cells (Value.agg (L.cells p q)).cells 58)) w.heap.size 58 (L.cells p q) := Blk.new w 58 _
  have ha := (Below.refl w.heap.size w).alloc (Nat.le_refl _) (.cells (Value.agg (L.cells p q)).cells 58)
  generalize w.alloc (.cells (Value.agg (L.cells p q)).cells 58) = w1 at *
  refine ldA agg58 hL (by exact sz58) ?_
  refine (Check_spec L p q ps is w1 (keeps_Pairs _ _ _ _ ha hp) (keeps_Intents _ _ _ _ ha hq)).mono ?_
  rintro _ w2 ⟨rfl, hb2⟩
  have hb2' := below_then ha hb2
  have hL2 := hL.below' hb2
  by_cases he : packErr L ps is = 0
  · rw [he]
    obtain ⟨e1, e2⟩ := packErr_small he
    (repeat with_reducible first|refine z_a ?_|refine z_b ?_|refine z_c ?_|refine z_d ?_|refine z_e ?_|refine z_f ?_|refine z_g ?_|refine z_h ?_|refine z_i ?_|refine z_j ?_|refine z_k ?_|refine z_l ?_|refine z_m (by omega) ?_|refine z_n (by omega) ?_|refine z_o (by omega) ?_|refine z_p (by omega) ?_|refine z_q (by omega) ?_|refine z_r (by omega) ?_|refine z_s (by omega) ?_|refine z_t (by omega) ?_|refine z_u (by omega) ?_|refine z_v (by omega) ?_|refine z_w (by omega) ?_|refine z_x (by omega) ?_|refine z_y (by omega) ?_|refine z_z (by omega) ?_|refine z_A ?_|refine z_B ?_|refine z_C ?_|refine z_D ?_|refine z_E ?_|refine z_F ?_|refine z_G ?_|refine z_H ?_|refine z_I ?_|refine z_J ?_|refine z_K (by omega) (by decide) ?_|refine z_L (by omega) (by decide) ?_|refine z_M (by omega) ?_|refine z_N (by omega) ?_|refine z_O (by omega) ?_|refine z_P ?_|refine z_Q ?_|refine z_R ?_|refine z_S ?_|refine z_T ?_|refine z_U (by decide) ?_|refine z_V (by decide) ?_)
    refine ldA agg58 hL2 (by exact sz58) ?_
    refine (add_net c w2 g last l L p q ps is (h.below hb2') hlast (keeps_Pairs _ _ _ _ hb2' hp) (keeps_Intents _ _ _ _ hb2' hq) e1 e2 hpc hqc).mono ?_
    intro r w3 hr
    have hr' : Added c w2 g last l L ps is r w3 := hr
    obtain ⟨x, y, rfl⟩ := hr'.pair
    (repeat with_reducible first|refine z_a ?_|refine z_b ?_|refine z_c ?_|refine z_d ?_|refine z_e ?_|refine z_f ?_|refine z_g ?_|refine z_h ?_|refine z_i ?_|refine z_j ?_|refine z_k ?_|refine z_l ?_|refine z_m (by omega) ?_|refine z_n (by omega) ?_|refine z_o (by omega) ?_|refine z_p (by omega) ?_|refine z_q (by omega) ?_|refine z_r (by omega) ?_|refine z_s (by omega) ?_|refine z_t (by omega) ?_|refine z_u (by omega) ?_|refine z_v (by omega) ?_|refine z_w (by omega) ?_|refine z_x (by omega) ?_|refine z_y (by omega) ?_|refine z_z (by omega) ?_|refine z_A ?_|refine z_B ?_|refine z_C ?_|refine z_D ?_|refine z_E ?_|refine z_F ?_|refine z_G ?_|refine z_H ?_|refine z_I ?_|refine z_J ?_|refine z_K (by omega) (by decide) ?_|refine z_L (by omega) (by decide) ?_|refine z_M (by omega) ?_|refine z_N (by omega) ?_|refine z_O (by omega) ?_|refine z_P ?_|refine z_Q ?_|refine z_R ?_|refine z_S ?_|refine z_T ?_|refine z_U (by decide) ?_|refine z_V (by decide) ?_)
    show ite _ _ _
    rw [if_neg (by omega)]
    exact hr'.after (Turns.of_below hb2') (fun _ _ => rfl)
  · refine bi_neq_t (by omega) ?_
    (repeat with_reducible first|refine z_a ?_|refine z_b ?_|refine z_c ?_|refine z_d ?_|refine z_e ?_|refine z_f ?_|refine z_g ?_|refine z_h ?_|refine z_i ?_|refine z_j ?_|refine z_k ?_|refine z_l ?_|refine z_m (by omega) ?_|refine z_n (by omega) ?_|refine z_o (by omega) ?_|refine z_p (by omega) ?_|refine z_q (by omega) ?_|refine z_r (by omega) ?_|refine z_s (by omega) ?_|refine z_t (by omega) ?_|refine z_u (by omega) ?_|refine z_v (by omega) ?_|refine z_w (by omega) ?_|refine z_x (by omega) ?_|refine z_y (by omega) ?_|refine z_z (by omega) ?_|refine z_A ?_|refine z_B ?_|refine z_C ?_|refine z_D ?_|refine z_E ?_|refine z_F ?_|refine z_G ?_|refine z_H ?_|refine z_I ?_|refine z_J ?_|refine z_K (by omega) (by decide) ?_|refine z_L (by omega) (by decide) ?_|refine z_M (by omega) ?_|refine z_N (by omega) ?_|refine z_O (by omega) ?_|refine z_P ?_|refine z_Q ?_|refine z_R ?_|refine z_S ?_|refine z_T ?_|refine z_U (by decide) ?_|refine z_V (by decide) ?_)
    show ite _ _ _
    rw [if_pos he]
    exact ⟨rfl, c, fun _ _ => rfl, h.below hb2', Turns.of_below hb2'⟩
theorem looked {l : List (Int × Msg)} (n : Int) : (getK n (l.map fun x => (x.1, x.2.val))).getD (.agg (zeroLet.cells (.slice none 0 0) (.slice none 0 0))) = (match getK n l with | some m => m.val | none => .agg (zeroLet.cells (.slice none 0 0) (.slice none 0 0))) ∧ (getK n (l.map fun x => (x.1, x.2.val))).isSome = (getK n l).isSome := by
  rw [getK_map (fun m : Msg => m.val)]
  cases getK n l <;> exact ⟨rfl, rfl⟩
theorem Twice_net (c : Nat → Nat) (w : World) (g last : Nat) (l : List (Int × Msg)) (n : Int) (h : NetC c w g last l) (hlast : last ≤ 1000000000) :
    CallP Try.prog 31 #[.pointer (some ⟨g, 0, none⟩), .int .i64 n] (fun r w' => match getK n l with
      | none => r = .tuple #[.int .i64 0, .int .i64 7] ∧ LeftN c w g last l w'
      | some m => Added c w g last l m.L m.ps m.is r w') w := by
  have hC := h
  obtain ⟨b, h⟩ := h
  have c0 : w.cell? ⟨g, 0, none⟩ = some (.map (some b)) := h.blk.cell 0
  refine ⟨S31.calls _ _ _ _ ?_⟩
  unfold S31
  (repeat with_reducible first | refine fd n0 (by decide) ?_| refine ld one116 c0 ?_|refine z_a ?_|refine z_b ?_|refine z_c ?_|refine z_d ?_|refine z_e ?_|refine z_f ?_|refine z_g ?_|refine z_h ?_|refine z_i ?_|refine z_j ?_|refine z_k ?_|refine z_l ?_|refine z_m (by omega) ?_|refine z_n (by omega) ?_|refine z_o (by omega) ?_|refine z_p (by omega) ?_|refine z_q (by omega) ?_|refine z_r (by omega) ?_|refine z_s (by omega) ?_|refine z_t (by omega) ?_|refine z_u (by omega) ?_|refine z_v (by omega) ?_|refine z_w (by omega) ?_|refine z_x (by omega) ?_|refine z_y (by omega) ?_|refine z_z (by omega) ?_|refine z_A ?_|refine z_B ?_|refine z_C ?_|refine z_D ?_|refine z_E ?_|refine z_F ?_|refine z_G ?_|refine z_H ?_|refine z_I ?_|refine z_J ?_|refine z_K (by omega) (by decide) ?_|refine z_L (by omega) (by decide) ?_|refine z_M (by omega) ?_|refine z_N (by omega) ?_|refine z_O (by omega) ?_|refine z_P ?_|refine z_Q ?_|refine z_R ?_|refine z_S ?_|refine z_T ?_|refine z_U (by decide) ?_|refine z_V (by decide) ?_)
  refine lkp und116 und3 z58 h.map ?_
  obtain ⟨e1, e2⟩ := looked (l := l) n
  rw [e1, e2]
  cases hx : getK n l with
  | none =>
    simp only [Option.isSome_none]
    (repeat with_reducible first|refine z_a ?_|refine z_b ?_|refine z_c ?_|refine z_d ?_|refine z_e ?_|refine z_f ?_|refine z_g ?_|refine z_h ?_|refine z_i ?_|refine z_j ?_|refine z_k ?_|refine z_l ?_|refine z_m (by omega) ?_|refine z_n (by omega) ?_|refine z_o (by omega) ?_|refine z_p (by omega) ?_|refine z_q (by omega) ?_|refine z_r (by omega) ?_|refine z_s (by omega) ?_|refine z_t (by omega) ?_|refine z_u (by omega) ?_|refine z_v (by omega) ?_|refine z_w (by omega) ?_|refine z_x (by omega) ?_|refine z_y (by omega) ?_|refine z_z (by omega) ?_|refine z_A ?_|refine z_B ?_|refine z_C ?_|refine z_D ?_|refine z_E ?_|refine z_F ?_|refine z_G ?_|refine z_H ?_|refine z_I ?_|refine z_J ?_|refine z_K (by omega) (by decide) ?_|refine z_L (by omega) (by decide) ?_|refine z_M (by omega) ?_|refine z_N (by omega) ?_|refine z_O (by omega) ?_|refine z_P ?_|refine z_Q ?_|refine z_R ?_|refine z_S ?_|refine z_T ?_|refine z_U (by decide) ?_|refine z_V (by decide) ?_)
    refine al z58 ?_
    have hR : Blk (w.alloc (.cells (Value.agg (zeroLet.cells (.slice none 0 0) (.slice none 0 0))).cells 58)) w.heap.size 58 (zeroLet.cells (.slice none 0 0) (.slice none 0 0)) := Blk.new w 58 _
    have ha := (Below.refl w.heap.size w).alloc (Nat.le_refl _) (.cells (Value.agg (zeroLet.cells (.slice none 0 0) (.slice none 0 0))).cells 58)
    refine stA hR (by exact sz58) (by rfl) (cells_one _ _ _ rfl rfl) ?_
    have hb1 := below_setRow ha (Nat.le_refl _) (zeroLet.cells (.slice none 0 0) (.slice none 0 0))
    (repeat with_reducible first|refine z_a ?_|refine z_b ?_|refine z_c ?_|refine z_d ?_|refine z_e ?_|refine z_f ?_|refine z_g ?_|refine z_h ?_|refine z_i ?_|refine z_j ?_|refine z_k ?_|refine z_l ?_|refine z_m (by omega) ?_|refine z_n (by omega) ?_|refine z_o (by omega) ?_|refine z_p (by omega) ?_|refine z_q (by omega) ?_|refine z_r (by omega) ?_|refine z_s (by omega) ?_|refine z_t (by omega) ?_|refine z_u (by omega) ?_|refine z_v (by omega) ?_|refine z_w (by omega) ?_|refine z_x (by omega) ?_|refine z_y (by omega) ?_|refine z_z (by omega) ?_|refine z_A ?_|refine z_B ?_|refine z_C ?_|refine z_D ?_|refine z_E ?_|refine z_F ?_|refine z_G ?_|refine z_H ?_|refine z_I ?_|refine z_J ?_|refine z_K (by omega) (by decide) ?_|refine z_L (by omega) (by decide) ?_|refine z_M (by omega) ?_|refine z_N (by omega) ?_|refine z_O (by omega) ?_|refine z_P ?_|refine z_Q ?_|refine z_R ?_|refine z_S ?_|refine z_T ?_|refine z_U (by decide) ?_|refine z_V (by decide) ?_)
    exact ⟨by first | rfl | trivial, c, fun _ _ => rfl, hC.below hb1, Turns.of_below hb1⟩
  | some m =>
    simp only [Option.isSome_some]
    have hm := (h.el _ (getK_mem _ _ _ hx)).2
    have h1p : m.p.oneCell' = true := by obtain ⟨A, e⟩ := hm.op.slice; rw [e]; rfl
    have h1q : m.q.oneCell' = true := by obtain ⟨A, e⟩ := hm.oq.slice; rw [e]; rfl
    (repeat with_reducible first|refine z_a ?_|refine z_b ?_|refine z_c ?_|refine z_d ?_|refine z_e ?_|refine z_f ?_|refine z_g ?_|refine z_h ?_|refine z_i ?_|refine z_j ?_|refine z_k ?_|refine z_l ?_|refine z_m (by omega) ?_|refine z_n (by omega) ?_|refine z_o (by omega) ?_|refine z_p (by omega) ?_|refine z_q (by omega) ?_|refine z_r (by omega) ?_|refine z_s (by omega) ?_|refine z_t (by omega) ?_|refine z_u (by omega) ?_|refine z_v (by omega) ?_|refine z_w (by omega) ?_|refine z_x (by omega) ?_|refine z_y (by omega) ?_|refine z_z (by omega) ?_|refine z_A ?_|refine z_B ?_|refine z_C ?_|refine z_D ?_|refine z_E ?_|refine z_F ?_|refine z_G ?_|refine z_H ?_|refine z_I ?_|refine z_J ?_|refine z_K (by omega) (by decide) ?_|refine z_L (by omega) (by decide) ?_|refine z_M (by omega) ?_|refine z_N (by omega) ?_|refine z_O (by omega) ?_|refine z_P ?_|refine z_Q ?_|refine z_R ?_|refine z_S ?_|refine z_T ?_|refine z_U (by decide) ?_|refine z_V (by decide) ?_)
    refine al z58 ?_
    have hR : Blk (w.alloc (.cells (Value.agg (zeroLet.cells (.slice none 0 0) (.slice none 0 0))).cells 58)) w.heap.size 58 (zeroLet.cells (.slice none 0 0) (.slice none 0 0)) := Blk.new w 58 _
    have ha := (Below.refl w.heap.size w).alloc (Nat.le_refl _) (.cells (Value.agg (zeroLet.cells (.slice none 0 0) (.slice none 0 0))).cells 58)
    refine stA hR (by exact sz58) (by rfl) (cells_one _ _ _ h1p h1q) ?_
    have hL1 := hR.row (m.L.cells m.p m.q)
    have hb1 := below_setRow ha (Nat.le_refl _) (m.L.cells m.p m.q)
    generalize (w.alloc (.cells (Value.agg (zeroLet.cells (.slice none 0 0) (.slice none 0 0))).cells 58)).setRow w.heap.size (m.L.cells m.p m.q) = w1 at *
    (repeat with_reducible first|refine z_a ?_|refine z_b ?_|refine z_c ?_|refine z_d ?_|refine z_e ?_|refine z_f ?_|refine z_g ?_|refine z_h ?_|refine z_i ?_|refine z_j ?_|refine z_k ?_|refine z_l ?_|refine z_m (by omega) ?_|refine z_n (by omega) ?_|refine z_o (by omega) ?_|refine z_p (by omega) ?_|refine z_q (by omega) ?_|refine z_r (by omega) ?_|refine z_s (by omega) ?_|refine z_t (by omega) ?_|refine z_u (by omega) ?_|refine z_v (by omega) ?_|refine z_w (by omega) ?_|refine z_x (by omega) ?_|refine z_y (by omega) ?_|refine z_z (by omega) ?_|refine z_A ?_|refine z_B ?_|refine z_C ?_|refine z_D ?_|refine z_E ?_|refine z_F ?_|refine z_G ?_|refine z_H ?_|refine z_I ?_|refine z_J ?_|refine z_K (by omega) (by decide) ?_|refine z_L (by omega) (by decide) ?_|refine z_M (by omega) ?_|refine z_N (by omega) ?_|refine z_O (by omega) ?_|refine z_P ?_|refine z_Q ?_|refine z_R ?_|refine z_S ?_|refine z_T ?_|refine z_U (by decide) ?_|refine z_V (by decide) ?_)
    refine ldA agg58 hL1 (by exact sz58) ?_
    refine (add_net c w1 g last l m.L m.p m.q m.ps m.is (hC.below hb1) hlast (keeps_Pairs _ _ _ _ hb1 hm.pairs) (keeps_Intents _ _ _ _ hb1 hm.intents) hm.lp hm.lq (.inr fun k hk => by rw [hm.cp k hk]; omega) (.inr fun k hk => by rw [hm.cq k hk]; omega)).mono ?_
    intro r w3 hr
    have hr' : Added c w1 g last l m.L m.ps m.is r w3 := hr
    obtain ⟨x, y, rfl⟩ := hr'.pair
    (repeat with_reducible first|refine z_a ?_|refine z_b ?_|refine z_c ?_|refine z_d ?_|refine z_e ?_|refine z_f ?_|refine z_g ?_|refine z_h ?_|refine z_i ?_|refine z_j ?_|refine z_k ?_|refine z_l ?_|refine z_m (by omega) ?_|refine z_n (by omega) ?_|refine z_o (by omega) ?_|refine z_p (by omega) ?_|refine z_q (by omega) ?_|refine z_r (by omega) ?_|refine z_s (by omega) ?_|refine z_t (by omega) ?_|refine z_u (by omega) ?_|refine z_v (by omega) ?_|refine z_w (by omega) ?_|refine z_x (by omega) ?_|refine z_y (by omega) ?_|refine z_z (by omega) ?_|refine z_A ?_|refine z_B ?_|refine z_C ?_|refine z_D ?_|refine z_E ?_|refine z_F ?_|refine z_G ?_|refine z_H ?_|refine z_I ?_|refine z_J ?_|refine z_K (by omega) (by decide) ?_|refine z_L (by omega) (by decide) ?_|refine z_M (by omega) ?_|refine z_N (by omega) ?_|refine z_O (by omega) ?_|refine z_P ?_|refine z_Q ?_|refine z_R ?_|refine z_S ?_|refine z_T ?_|refine z_U (by decide) ?_|refine z_V (by decide) ?_)
    exact hr'.after (Turns.of_below hb1) (fun _ _ => rfl)
theorem Deliver_net (c : Nat → Nat) (w : World) (g last : Nat) (l : List (Int × Msg)) (n : Int) (h : NetC c w g last l) :
    CallP Try.prog 33 #[.pointer (some ⟨g, 0, none⟩), .int .i64 n] (fun r w' => match getK n l with
      | none => r = .tuple #[.agg (zeroLet.cells (.slice none 0 0) (.slice none 0 0)), .int .i64 7] ∧ LeftN c w g last l w'
      | some m => r = .tuple #[m.val, .int .i64 0] ∧ NetC c w' g last (delK n l) ∧ MsgAt c (n.toNat + 10) w' m ∧ Turns (D c) w w') w := by
  have hC := h
  obtain ⟨b, h⟩ := h
  refine ⟨S33.calls _ _ _ _ ?_⟩
  unfold S33
  refine al z58 ?_
  have hR : Blk (w.alloc (.cells (Value.agg (zeroLet.cells (.slice none 0 0) (.slice none 0 0))).cells 58)) w.heap.size 58 (zeroLet.cells (.slice none 0 0) (.slice none 0 0)) := Blk.new w 58 _
  have ha := (Below.refl w.heap.size w).alloc (Nat.le_refl _) (.cells (Value.agg (zeroLet.cells (.slice none 0 0) (.slice none 0 0))).cells 58)
  generalize w.alloc (.cells (Value.agg (zeroLet.cells (.slice none 0 0) (.slice none 0 0))).cells 58) = w1 at *
  have h1 := h.below ha
  have hs1 := hR.lt
  have c0 : w1.cell? ⟨g, 0, none⟩ = some (.map (some b)) := h1.blk.cell 0
  (repeat with_reducible first | refine fd n0 (by decide) ?_| refine ld one116 c0 ?_|refine z_a ?_|refine z_b ?_|refine z_c ?_|refine z_d ?_|refine z_e ?_|refine z_f ?_|refine z_g ?_|refine z_h ?_|refine z_i ?_|refine z_j ?_|refine z_k ?_|refine z_l ?_|refine z_m (by omega) ?_|refine z_n (by omega) ?_|refine z_o (by omega) ?_|refine z_p (by omega) ?_|refine z_q (by omega) ?_|refine z_r (by omega) ?_|refine z_s (by omega) ?_|refine z_t (by omega) ?_|refine z_u (by omega) ?_|refine z_v (by omega) ?_|refine z_w (by omega) ?_|refine z_x (by omega) ?_|refine z_y (by omega) ?_|refine z_z (by omega) ?_|refine z_A ?_|refine z_B ?_|refine z_C ?_|refine z_D ?_|refine z_E ?_|refine z_F ?_|refine z_G ?_|refine z_H ?_|refine z_I ?_|refine z_J ?_|refine z_K (by omega) (by decide) ?_|refine z_L (by omega) (by decide) ?_|refine z_M (by omega) ?_|refine z_N (by omega) ?_|refine z_O (by omega) ?_|refine z_P ?_|refine z_Q ?_|refine z_R ?_|refine z_S ?_|refine z_T ?_|refine z_U (by decide) ?_|refine z_V (by decide) ?_)
  refine lkp und116 und3 z58 h1.map ?_
  obtain ⟨e1, e2⟩ := looked (l := l) n
  rw [e1, e2]
  cases hx : getK n l with
  | none =>
    simp only [Option.isSome_none]
    (repeat with_reducible first|refine z_a ?_|refine z_b ?_|refine z_c ?_|refine z_d ?_|refine z_e ?_|refine z_f ?_|refine z_g ?_|refine z_h ?_|refine z_i ?_|refine z_j ?_|refine z_k ?_|refine z_l ?_|refine z_m (by omega) ?_|refine z_n (by omega) ?_|refine z_o (by omega) ?_|refine z_p (by omega) ?_|refine z_q (by omega) ?_|refine z_r (by omega) ?_|refine z_s (by omega) ?_|refine z_t (by omega) ?_|refine z_u (by omega) ?_|refine z_v (by omega) ?_|refine z_w (by omega) ?_|refine z_x (by omega) ?_|refine z_y (by omega) ?_|refine z_z (by omega) ?_|refine z_A ?_|refine z_B ?_|refine z_C ?_|refine z_D ?_|refine z_E ?_|refine z_F ?_|refine z_G ?_|refine z_H ?_|refine z_I ?_|refine z_J ?_|refine z_K (by omega) (by decide) ?_|refine z_L (by omega) (by decide) ?_|refine z_M (by omega) ?_|refine z_N (by omega) ?_|refine z_O (by omega) ?_|refine z_P ?_|refine z_Q ?_|refine z_R ?_|refine z_S ?_|refine z_T ?_|refine z_U (by decide) ?_|refine z_V (by decide) ?_)
    refine al z58 ?_
    have hR2 : Blk (w1.alloc (.cells (Value.agg (zeroLet.cells (.slice none 0 0) (.slice none 0 0))).cells 58)) w1.heap.size 58 (zeroLet.cells (.slice none 0 0) (.slice none 0 0)) := Blk.new w1 58 _
    have ha2 := (Below.refl w1.heap.size w1).alloc (Nat.le_refl _) (.cells (Value.agg (zeroLet.cells (.slice none 0 0) (.slice none 0 0))).cells 58)
    refine stA hR2 (by exact sz58) (by rfl) (cells_one _ _ _ rfl rfl) ?_
    have hb2 := below_setRow ha2 (Nat.le_refl _) (zeroLet.cells (.slice none 0 0) (.slice none 0 0))
    have hR3 := hR.below' hb2
    have hb2' := below_then ha hb2
    generalize (w1.alloc (.cells (Value.agg (zeroLet.cells (.slice none 0 0) (.slice none 0 0))).cells 58)).setRow w1.heap.size (zeroLet.cells (.slice none 0 0) (.slice none 0 0)) = w2 at *
    (repeat with_reducible first|refine z_a ?_|refine z_b ?_|refine z_c ?_|refine z_d ?_|refine z_e ?_|refine z_f ?_|refine z_g ?_|refine z_h ?_|refine z_i ?_|refine z_j ?_|refine z_k ?_|refine z_l ?_|refine z_m (by omega) ?_|refine z_n (by omega) ?_|refine z_o (by omega) ?_|refine z_p (by omega) ?_|refine z_q (by omega) ?_|refine z_r (by omega) ?_|refine z_s (by omega) ?_|refine z_t (by omega) ?_|refine z_u (by omega) ?_|refine z_v (by omega) ?_|refine z_w (by omega) ?_|refine z_x (by omega) ?_|refine z_y (by omega) ?_|refine z_z (by omega) ?_|refine z_A ?_|refine z_B ?_|refine z_C ?_|refine z_D ?_|refine z_E ?_|refine z_F ?_|refine z_G ?_|refine z_H ?_|refine z_I ?_|refine z_J ?_|refine z_K (by omega) (by decide) ?_|refine z_L (by omega) (by decide) ?_|refine z_M (by omega) ?_|refine z_N (by omega) ?_|refine z_O (by omega) ?_|refine z_P ?_|refine z_Q ?_|refine z_R ?_|refine z_S ?_|refine z_T ?_|refine z_U (by decide) ?_|refine z_V (by decide) ?_)
    refine bd (cells := zeroLet.cells (.slice none 0 0) (.slice none 0 0)) (by kernel_rfl) ?_
    refine stA hR3 (by exact sz58) (by rfl) (cells_one _ _ _ rfl rfl) ?_
    have hR4 := hR3.row (zeroLet.cells (.slice none 0 0) (.slice none 0 0))
    have hb3 := below_setRow hb2' (Nat.le_refl _) (zeroLet.cells (.slice none 0 0) (.slice none 0 0))
    refine retA agg58 hR4 (by exact sz58) ?_
    exact ⟨rfl, c, fun _ _ => rfl, hC.below hb3, Turns.of_below hb3⟩
  | some m =>
    simp only [Option.isSome_some]
    have hmem := getK_mem _ _ _ hx
    have hm := (h1.el _ hmem).2
    have h1p : m.p.oneCell' = true := by obtain ⟨A, e⟩ := hm.op.slice; rw [e]; rfl
    have h1q : m.q.oneCell' = true := by obtain ⟨A, e⟩ := hm.oq.slice; rw [e]; rfl
    (repeat with_reducible first|refine z_a ?_|refine z_b ?_|refine z_c ?_|refine z_d ?_|refine z_e ?_|refine z_f ?_|refine z_g ?_|refine z_h ?_|refine z_i ?_|refine z_j ?_|refine z_k ?_|refine z_l ?_|refine z_m (by omega) ?_|refine z_n (by omega) ?_|refine z_o (by omega) ?_|refine z_p (by omega) ?_|refine z_q (by omega) ?_|refine z_r (by omega) ?_|refine z_s (by omega) ?_|refine z_t (by omega) ?_|refine z_u (by omega) ?_|refine z_v (by omega) ?_|refine z_w (by omega) ?_|refine z_x (by omega) ?_|refine z_y (by omega) ?_|refine z_z (by omega) ?_|refine z_A ?_|refine z_B ?_|refine z_C ?_|refine z_D ?_|refine z_E ?_|refine z_F ?_|refine z_G ?_|refine z_H ?_|refine z_I ?_|refine z_J ?_|refine z_K (by omega) (by decide) ?_|refine z_L (by omega) (by decide) ?_|refine z_M (by omega) ?_|refine z_N (by omega) ?_|refine z_O (by omega) ?_|refine z_P ?_|refine z_Q ?_|refine z_R ?_|refine z_S ?_|refine z_T ?_|refine z_U (by decide) ?_|refine z_V (by decide) ?_)
    refine al z58 ?_
    have hR2 : Blk (w1.alloc (.cells (Value.agg (zeroLet.cells (.slice none 0 0) (.slice none 0 0))).cells 58)) w1.heap.size 58 (zeroLet.cells (.slice none 0 0) (.slice none 0 0)) := Blk.new w1 58 _
    have ha2 := (Below.refl w1.heap.size w1).alloc (Nat.le_refl _) (.cells (Value.agg (zeroLet.cells (.slice none 0 0) (.slice none 0 0))).cells 58)
    refine stA hR2 (by exact sz58) (by rfl) (cells_one _ _ _ h1p h1q) ?_
    have hL2 := hR2.row (m.L.cells m.p m.q)
    have hb2 := below_setRow ha2 (Nat.le_refl _) (m.L.cells m.p m.q)
    have hR3 := hR.below' hb2
    have hb2' := below_then ha hb2
    generalize hg6 : w1.heap.size = g6 at *
    generalize (w1.alloc (.cells (Value.agg (zeroLet.cells (.slice none 0 0) (.slice none 0 0))).cells 58)).setRow g6 (m.L.cells m.p m.q) = w2 at *
    have h2 := h.below hb2'
    have c0' : w2.cell? ⟨g, 0, none⟩ = some (.map (some b)) := h2.blk.cell 0
    (repeat with_reducible first | refine fd n0 (by decide) ?_| refine ld one116 c0' ?_|refine z_a ?_|refine z_b ?_|refine z_c ?_|refine z_d ?_|refine z_e ?_|refine z_f ?_|refine z_g ?_|refine z_h ?_|refine z_i ?_|refine z_j ?_|refine z_k ?_|refine z_l ?_|refine z_m (by omega) ?_|refine z_n (by omega) ?_|refine z_o (by omega) ?_|refine z_p (by omega) ?_|refine z_q (by omega) ?_|refine z_r (by omega) ?_|refine z_s (by omega) ?_|refine z_t (by omega) ?_|refine z_u (by omega) ?_|refine z_v (by omega) ?_|refine z_w (by omega) ?_|refine z_x (by omega) ?_|refine z_y (by omega) ?_|refine z_z (by omega) ?_|refine z_A ?_|refine z_B ?_|refine z_C ?_|refine z_D ?_|refine z_E ?_|refine z_F ?_|refine z_G ?_|refine z_H ?_|refine z_I ?_|refine z_J ?_|refine z_K (by omega) (by decide) ?_|refine z_L (by omega) (by decide) ?_|refine z_M (by omega) ?_|refine z_N (by omega) ?_|refine z_O (by omega) ?_|refine z_P ?_|refine z_Q ?_|refine z_R ?_|refine z_S ?_|refine z_T ?_|refine z_U (by decide) ?_|refine z_V (by decide) ?_)
    refine dlt und116 und3 h2.map ?_
    intro w3 hm3 hT3
    rw [delK_map (fun m : Msg => m.val)] at hm3
    have hbg : g < w.heap.size := h.blk.lt
    have hbb : b < w.heap.size := h.map.lt
    have hL3 := hL2.turns hT3 (by omega)
    have hR4 := hR3.turns hT3 (by omega)
    refine ldA agg58 hL3 (by exact sz58) ?_
    refine stA hR4 (by exact sz58) (by rfl) (cells_one _ _ _ h1p h1q) ?_
    have hR5 := hR4.row (m.L.cells m.p m.q)
    have hT4 : Turns (fun k => k = w.heap.size) w3 (w3.setRow w.heap.size (m.L.cells m.p m.q)) := Turns.setRow (F := fun k => k = w.heap.size) (Turns.refl _ w3) (.inl rfl) _
    refine retA agg58 hR5 (by exact sz58) ?_
    have msg : ∀ x ∈ l, MsgAt c (x.1.toNat + 10) (w3.setRow w.heap.size (m.L.cells m.p m.q)) x.2 := by
      intro x hx
      have hx2 := (h2.el x hx).2
      have hxw := (h.el x hx).2
      have h3 := hx2.turns hT3 (fun k hk => by rw [hk, h.huem]; omega)
      exact ⟨h3.op.turns hT4 (fun k hk he => by have := hxw.op.lt hk; omega), h3.oq.turns hT4 (fun k hk he => by have := hxw.oq.lt hk; omega), h3.cp, h3.cq, h3.kp, h3.kq, h3.lp, h3.lq, h3.ap⟩
    refine ⟨rfl, ⟨b, h.hue, h.huem, h.ne, (h2.blk.turns hT3 h.ne).turns hT4 (by omega), hm3.turns hT4 (by omega), fun x hx => ⟨(h.el x (delK_sub _ _ _ hx)).1, msg x (delK_sub _ _ _ hx)⟩⟩, msg _ hmem, ?_⟩
    refine ((Turns.of_below hb2').trans (hT3.mono fun k hk he => .inl (by rw [he]; show c b ≠ 0; rw [h.huem]; omega))).setRow (.inr (Nat.le_refl _)) _
end Go.Proofs.Ythicbfopjakiiaa.E
namespace Go.Proofs.Ythicbfopjakiiaa.E
open Go Go.RowKit
set_option linter.unusedSimpArgs false
set_option linter.unusedVariables false

theorem pnil (w : World) : Pairs w [.slice none 0 0] [] := ⟨none, 0, rfl, Nat.le_refl _, Nat.zero_le _, fun i x hx => by simp at hx⟩
theorem inil (w : World) : Intents w [.slice none 0 0] [] := ⟨none, 0, rfl, Nat.le_refl _, Nat.zero_le _, fun i x hx => by simp at hx⟩
theorem NetC.one {c : Nat → Nat} {w : World} {g last : Nat} {l : List (Int × Msg)} (h : NetC c w g last l) {x : Int × Msg} (hx : x ∈ l) : x.2.p.oneCell' = true ∧ x.2.q.oneCell' = true := by
  obtain ⟨b, h⟩ := h
  have hm := (h.el _ hx).2
  exact ⟨by obtain ⟨A, e⟩ := hm.op.slice; rw [e]; rfl, by obtain ⟨A, e⟩ := hm.oq.slice; rw [e]; rfl⟩
end Go.Proofs.Ythicbfopjakiiaa.E
namespace Go.Proofs.Ythicbfopjakiiaa.E
open Go Go.RowKit
set_option linter.unusedSimpArgs false
set_option linter.unusedVariables false

end Go.Proofs.Ythicbfopjakiiaa.E
