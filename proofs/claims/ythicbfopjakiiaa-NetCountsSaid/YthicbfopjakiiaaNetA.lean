/- The net: contracts of its methods. -/
import Derived.Test.YthicbfopjakiiaaLetF
import Derived.Test.YthicbfopjakiiaaShNet
namespace Go.Proofs.Ythicbfopjakiiaa.E
open Go Go.RowKit
set_option linter.unusedSimpArgs false
set_option linter.unusedVariables false

theorem und116 : Try.prog.underlying 116 = some (.map 3 58) := by kernel_rfl
theorem one116 : oneB Try.prog 116 = true := by kernel_rfl
theorem n0 : fofs Try.prog 118 0 = some (0, 1) := by kernel_rfl
theorem n1 : fofs Try.prog 118 1 = some (1, 1) := by kernel_rfl
/-- A letter with its rows. -/
structure Msg where
  L : Let
  p : Value
  q : Value
  ps : List PairT
  is : List IntentT
def Msg.val (m : Msg) : Value := .agg (m.L.cells m.p m.q)
def pairOk (p : PairT) : Prop := p.1.size ≤ maxLen ∧ p.2.1.size ≤ maxLen
def intentOk (p : IntentT) : Prop := p.1.size ≤ maxLen ∧ (Lit.int .i64 p.2.1).wf = true
structure MsgAt (c : Nat → Nat) (x : Nat) (w : World) (m : Msg) : Prop where
  op : OwnS 2 64 w m.p m.ps.length (m.ps.flatMap pairF)
  oq : OwnS 3 68 w m.q m.is.length (m.is.flatMap intentF)
  cp : InC c x m.p
  cq : InC c x m.q
  kp : ∀ p ∈ m.ps, pairOk p
  kq : ∀ i ∈ m.is, intentOk i
  lp : m.ps.length ≤ 256
  lq : m.is.length ≤ 256
  ap : m.p.ownBlock = none ∨ m.p.ownBlock ≠ m.q.ownBlock
theorem rPair_all : ∀ (w w' : World) (us : List Value) (x : PairT), rPair w us x → rPair w' us x := fun _ _ _ _ h => h
theorem rIntent_all : ∀ (w w' : World) (us : List Value) (x : IntentT), rIntent w us x → rIntent w' us x := fun _ _ _ _ h => h
theorem rPair_of {w : World} {x : PairT} (h : pairOk x) : rPair w (pairF x) x := ⟨⟨rfl, h.1⟩, ⟨rfl, h.2⟩, rfl⟩
theorem rIntent_of {w : World} {x : IntentT} (h : intentOk x) : rIntent w (intentF x) x := ⟨⟨rfl, h.1⟩, ⟨rfl, h.2⟩, rfl, rfl⟩
theorem pairs_ok {w : World} {v : Value} {l : List PairT} (h : Pairs w [v] l) : ∀ p ∈ l, pairOk p := by
  intro p hp
  obtain ⟨A, c, he, _, _, h⟩ := h
  obtain ⟨i, hi, rfl⟩ := List.getElem_of_mem hp
  obtain ⟨a, us, _, _, _, hr⟩ := h i l[i] (List.getElem?_eq_getElem hi)
  exact (pair_cells hr).2
theorem intents_ok {w : World} {v : Value} {l : List IntentT} (h : Intents w [v] l) : ∀ p ∈ l, intentOk p := by
  intro p hp
  obtain ⟨A, c, he, _, _, h⟩ := h
  obtain ⟨i, hi, rfl⟩ := List.getElem_of_mem hp
  obtain ⟨a, us, _, _, _, hr⟩ := h i l[i] (List.getElem?_eq_getElem hi)
  refine ⟨(intent_cells hr).2, ?_⟩
  obtain ⟨r, e1, _, h2⟩ := rCons_S hr
  obtain ⟨r', e2, h3, _⟩ := rCons_I h2
  exact h3
section
variable {c c' : Nat → Nat} {x : Nat} {w w' : World} {m : Msg}
theorem MsgAt.pairs (h : MsgAt c x w m) : Pairs w [m.p] m.ps := h.op.rd (fun _ => rfl) fun p hp => rPair_of (h.kp p hp)
theorem MsgAt.intents (h : MsgAt c x w m) : Intents w [m.q] m.is := h.oq.rd (fun _ => rfl) fun p hp => rIntent_of (h.kq p hp)
theorem MsgAt.turns {F : Nat → Prop} (h : MsgAt c x w m) (hT : Turns F w w') (hF : ∀ k, F k → c k ≠ x) : MsgAt c x w' m :=
  ⟨h.op.turns hT (fun k hk he => hF k he (h.cp k hk)), h.oq.turns hT (fun k hk he => hF k he (h.cq k hk)), h.cp, h.cq, h.kp, h.kq, h.lp, h.lq, h.ap⟩
theorem MsgAt.re (h : MsgAt c x w m) (hc : ∀ k, k < w.heap.size → c' k = c k) : MsgAt c' x w m := ⟨h.op, h.oq, h.cp.re (fun b hb => h.op.lt hb) hc, h.cq.re (fun b hb => h.oq.lt hb) hc, h.kp, h.kq, h.lp, h.lq, h.ap⟩
end
/-- A net in memory: its struct and map have colour 1; a letter's rows the colour of its number and 10. -/
structure NetAt (c : Nat → Nat) (w : World) (g b last : Nat) (l : List (Int × Msg)) : Prop where
  hue : c g = 1
  huem : c b = 1
  ne : g ≠ b
  blk : Blk w g 118 #[.map (some b), .int .i64 last]
  map : MapI w b (l.map fun x => (x.1, x.2.val))
  el : ∀ x ∈ l, (1 ≤ x.1 ∧ x.1 ≤ last) ∧ MsgAt c (x.1.toNat + 10) w x.2
def NetC (c : Nat → Nat) (w : World) (g last : Nat) (l : List (Int × Msg)) : Prop := ∃ b, NetAt c w g b last l
section
variable {c c' : Nat → Nat} {w w' : World} {g b last : Nat} {l : List (Int × Msg)}
theorem NetAt.turns {F : Nat → Prop} (h : NetAt c w g b last l) (hT : Turns F w w') (hF : ∀ k, F k → c k = 0) : NetAt c w' g b last l :=
  ⟨h.hue, h.huem, h.ne, h.blk.turns hT (fun e => by have := hF g e; rw [h.hue] at this; omega), h.map.turns hT (fun e => by have := hF b e; rw [h.huem] at this; omega),
    fun x hx => ⟨(h.el x hx).1, (h.el x hx).2.turns hT (fun k hk => by rw [hF k hk]; omega)⟩⟩
theorem NetAt.below (h : NetAt c w g b last l) (hb : Below w.heap.size w w') : NetAt c w' g b last l := h.turns (F := fun _ => False) (Turns.of_below hb) (fun _ h => h.elim)
theorem NetAt.re (h : NetAt c w g b last l) (hc : ∀ k, k < w.heap.size → c' k = c k) : NetAt c' w g b last l :=
  ⟨(hc g h.blk.lt).trans h.hue, (hc b h.map.lt).trans h.huem, h.ne, h.blk, h.map, fun x hx => ⟨(h.el x hx).1, (h.el x hx).2.re hc⟩⟩
theorem NetC.turns {F : Nat → Prop} (h : NetC c w g last l) (hT : Turns F w w') (hF : ∀ k, F k → c k = 0) : NetC c w' g last l := by
  obtain ⟨b, h⟩ := h; exact ⟨b, h.turns hT hF⟩
theorem NetC.below (h : NetC c w g last l) (hb : Below w.heap.size w w') : NetC c w' g last l := by
  obtain ⟨b, h⟩ := h; exact ⟨b, h.below hb⟩
theorem NetC.re (h : NetC c w g last l) (hc : ∀ k, k < w.heap.size → c' k = c k) : NetC c' w g last l := by
  obtain ⟨b, h⟩ := h; exact ⟨b, h.re hc⟩
end
theorem getK_map {α β : Type} (f : α → β) (k : Int) : ∀ l : List (Int × α), getK k (l.map fun x => (x.1, f x.2)) = (getK k l).map f
  | [] => rfl
  | (a, v) :: r => by
    simp only [List.map_cons, getK]
    split
    · rfl
    · exact getK_map f k r
theorem delK_map {α β : Type} (f : α → β) (k : Int) : ∀ l : List (Int × α), delK k (l.map fun x => (x.1, f x.2)) = (delK k l).map fun x => (x.1, f x.2)
  | [] => rfl
  | (a, v) :: r => by
    simp only [List.map_cons, delK]
    split
    · rfl
    · rw [delK_map f k r]; rfl
theorem setK_map {α β : Type} (f : α → β) (k : Int) (v : α) : ∀ l : List (Int × α), setK k (f v) (l.map fun x => (x.1, f x.2)) = (setK k v l).map fun x => (x.1, f x.2)
  | [] => rfl
  | (a, u) :: r => by
    simp only [List.map_cons, setK]
    split
    · rfl
    · rw [setK_map f k v r]; rfl
theorem getK_mem {α : Type} (k : Int) (v : α) : ∀ l : List (Int × α), getK k l = some v → (k, v) ∈ l
  | [], h => by cases h
  | (a, u) :: r, h => by
    rw [getK] at h
    split at h
    · rename_i hk
      cases h; rw [hk]; simp
    · exact List.mem_cons_of_mem _ (getK_mem k v r h)
theorem setK_new {α : Type} (k : Int) (v : α) : ∀ l : List (Int × α), (∀ x ∈ l, x.1 ≠ k) → setK k v l = l ++ [(k, v)]
  | [], _ => rfl
  | (a, u) :: r, h => by
    rw [setK, if_neg (fun e => h (a, u) (by simp) e.symm), setK_new k v r (fun x hx => h x (by simp [hx]))]; rfl
theorem New_net (w : World) : CallP Try.prog 29 #[] (fun r w' => ∃ g c, r = .pointer (some ⟨g, 0, none⟩) ∧ (∀ k, k < w.heap.size → c k = 0) ∧ NetC c w' g 0 [] ∧ Below w.heap.size w w') w := by
  refine ⟨S29.calls _ _ ?_⟩
  unfold S29
  refine mkm ?_
  intro w1 hm1 hb1
  refine bd (cells := #[.map (some w.heap.size), .int .i64 0]) (by kernel_rfl) ?_
  refine bx ?_
  have hbl : Blk (w1.alloc (.cells (Value.agg #[.map (some w.heap.size), .int .i64 0]).cells 118)) w1.heap.size 118 #[.map (some w.heap.size), .int .i64 0] := Blk.new w1 118 _
  have ha := (Below.refl w1.heap.size w1).alloc (Nat.le_refl _) (.cells (Value.agg #[.map (some w.heap.size), .int .i64 0]).cells 118)
  have hlt := hm1.lt
  refine ⟨w1.heap.size, fun k => if k = w1.heap.size ∨ k = w.heap.size then 1 else 0, rfl, fun k hk => by simp only; rw [if_neg (by omega)], ⟨w.heap.size, by simp, by simp, by omega, hbl, hm1.below ha, fun x hx => by simp at hx⟩, below_then hb1 ha⟩
theorem Len_net (c : Nat → Nat) (w : World) (g last : Nat) (l : List (Int × Msg)) (h : NetC c w g last l) : CallP Try.prog 32 #[.pointer (some ⟨g, 0, none⟩)] (fun r w' => r = .int .i64 l.length ∧ w = w') w := by
  obtain ⟨b, h⟩ := h
  have c0 : w.cell? ⟨g, 0, none⟩ = some (.map (some b)) := h.blk.cell 0
  refine ⟨S32.calls _ _ _ ?_⟩
  unfold S32
  (repeat (first | (with_reducible refine fd n0 (by decide) ?_) | (with_reducible refine ld one116 c0 ?_) | (with_reducible refine nck ?_) | (with_reducible refine cdT ?_) | (with_reducible refine cdF ?_) | (with_reducible refine gdY ?_) | (with_reducible refine gdFT ?_) | (with_reducible refine gdTF ?_) | (with_reducible refine gdU ?_) | (with_reducible refine gaY ?_) | (with_reducible refine gaFT ?_) | (with_reducible refine gaTF ?_) | (with_reducible refine pickT ?_) | (with_reducible refine pickF ?_) | (with_reducible refine bi_lss_t (by omega) ?_) | (with_reducible refine bi_lss_f (by omega) ?_) | (with_reducible refine bi_add64 (by omega) ?_) | (with_reducible refine bi_sub64 (by omega) ?_) | (with_reducible refine bi_eql_t (by omega) ?_) | (with_reducible refine bi_eql_f (by omega) ?_) | (with_reducible refine bi_neq_t (by omega) ?_) | (with_reducible refine bi_neq_f (by omega) ?_) | (with_reducible refine bi_gtr_t (by omega) ?_) | (with_reducible refine bi_gtr_f (by omega) ?_) | (with_reducible refine bi_leq_t (by omega) ?_) | (with_reducible refine bi_leq_f (by omega) ?_) | (with_reducible refine bi_geq_t (by omega) ?_) | (with_reducible refine bi_geq_f (by omega) ?_) | (with_reducible refine bi_xt0 ?_) | (with_reducible refine bi_xt1 ?_) | (with_reducible refine bi_xt2 ?_) | (with_reducible refine bi_xt3 ?_) | (with_reducible refine bi_T ?_) | (with_reducible refine bi_F ?_) | (with_reducible refine bi_not ?_) | (with_reducible refine bi_and ?_) | (with_reducible refine bi_or ?_) | (with_reducible refine bi_xor ?_) | (with_reducible refine bi_shr (by omega) (by decide) ?_) | (with_reducible refine bi_shl (by omega) (by decide) ?_) | (with_reducible refine bi_quo64 (by omega) ?_) | (with_reducible refine bi_rem64 (by omega) ?_) | (with_reducible refine bi_mul64 (by omega) ?_) | (with_reducible refine bi_neg ?_) | (with_reducible refine bi_un_xor32 ?_) | (with_reducible refine bi_add ?_) | (with_reducible refine bi_sub ?_) | (with_reducible refine bi_mul ?_) | (with_reducible refine bi_quo (by decide) ?_) | (with_reducible refine bi_rem (by decide) ?_)))
  refine lnm und116 h.map ?_
  rw [List.length_map]
  exact ⟨rfl, rfl⟩
/-- What a call leaves: the net, and that nothing else has turned. -/
def LeftN (c : Nat → Nat) (w : World) (g last : Nat) (l : List (Int × Msg)) (w' : World) : Prop := ∃ c', (∀ k, k < w.heap.size → c' k = c k) ∧ NetC c' w' g last l ∧ Turns (D c) w w'
theorem yldA {P : Program} {K : Value → World → Prop} {S : World → Prop} {w : World} {t : TypeId} (ha : aggB P t = true) {g : Nat} {cells : Array Value} (hb : ∀ w', S w' → Blk w' g t cells) (hi : (P.info? t).map (·.size) = some cells.size) (k : K (.agg cells) w) : YieldP P S (Instr.loadAt t (.pointer (some ⟨g, 0, none⟩))) K w :=
  yld (fun w' h => by simpa [Instr.loadAt, Instr.sureAddr] using run_ldA ha (hb w' h) hi) k
/-- A letter as it is handed in. -/
theorem add_net (c : Nat → Nat) (w : World) (g last : Nat) (l : List (Int × Msg)) (L : Let) (p q : Value) (ps : List PairT) (is : List IntentT) (h : NetC c w g last l) (hlast : last ≤ 1000000000)
    (hp : Pairs w [p] ps) (hq : Intents w [q] is) (hl : ps.length ≤ 256) (hl2 : is.length ≤ 256)
    (hpc : ps = [] ∨ ∀ k, p.ownBlock = some k → c k ≠ 1) (hqc : is = [] ∨ ∀ k, q.ownBlock = some k → c k ≠ 1) :
    CallP Try.prog 60 #[.pointer (some ⟨g, 0, none⟩), .agg (L.cells p q)] (fun r w' => if 4096 ≤ l.length then r = .tuple #[.int .i64 0, .int .i64 17] ∧ LeftN c w g last l w'
      else r = .tuple #[.int .i64 ((last + 1 : Nat) : Int), .int .i64 0] ∧ ∃ p' q', LeftN c w g (last + 1) (l ++ [(((last + 1 : Nat) : Int), ⟨L, p', q', ps, is⟩)]) w') w := by
  have hC := h
  obtain ⟨b, h⟩ := h
  refine ⟨S60.calls _ _ _ _ ?_⟩
  unfold S60
  refine bx ?_
  have hL : Blk (w.alloc (.cells (Value.agg (L.cells p q)).cells 58)) w.heap.size 58 (L.cells p q) := Blk.new w 58 _
  have ha := (Below.refl w.heap.size w).alloc (Nat.le_refl _) (.cells (Value.agg (L.cells p q)).cells 58)
  generalize w.alloc (.cells (Value.agg (L.cells p q)).cells 58) = w1 at *
  have h1 := (h.re (col_lt c w.heap.size (last + 11))).below ha
  have hg0 := hL.lt
  have c0 : w1.cell? ⟨g, 0, none⟩ = some (.map (some b)) := h1.blk.cell 0
  have c1 : w1.cell? ⟨g, 1, none⟩ = some (.int .i64 last) := h1.blk.cell 1
  (repeat (first | (with_reducible refine fd n0 (by decide) ?_) | (with_reducible refine ld one116 c0 ?_) | (with_reducible refine nck ?_) | (with_reducible refine cdT ?_) | (with_reducible refine cdF ?_) | (with_reducible refine gdY ?_) | (with_reducible refine gdFT ?_) | (with_reducible refine gdTF ?_) | (with_reducible refine gdU ?_) | (with_reducible refine gaY ?_) | (with_reducible refine gaFT ?_) | (with_reducible refine gaTF ?_) | (with_reducible refine pickT ?_) | (with_reducible refine pickF ?_) | (with_reducible refine bi_lss_t (by omega) ?_) | (with_reducible refine bi_lss_f (by omega) ?_) | (with_reducible refine bi_add64 (by omega) ?_) | (with_reducible refine bi_sub64 (by omega) ?_) | (with_reducible refine bi_eql_t (by omega) ?_) | (with_reducible refine bi_eql_f (by omega) ?_) | (with_reducible refine bi_neq_t (by omega) ?_) | (with_reducible refine bi_neq_f (by omega) ?_) | (with_reducible refine bi_gtr_t (by omega) ?_) | (with_reducible refine bi_gtr_f (by omega) ?_) | (with_reducible refine bi_leq_t (by omega) ?_) | (with_reducible refine bi_leq_f (by omega) ?_) | (with_reducible refine bi_geq_t (by omega) ?_) | (with_reducible refine bi_geq_f (by omega) ?_) | (with_reducible refine bi_xt0 ?_) | (with_reducible refine bi_xt1 ?_) | (with_reducible refine bi_xt2 ?_) | (with_reducible refine bi_xt3 ?_) | (with_reducible refine bi_T ?_) | (with_reducible refine bi_F ?_) | (with_reducible refine bi_not ?_) | (with_reducible refine bi_and ?_) | (with_reducible refine bi_or ?_) | (with_reducible refine bi_xor ?_) | (with_reducible refine bi_shr (by omega) (by decide) ?_) | (with_reducible refine bi_shl (by omega) (by decide) ?_) | (with_reducible refine bi_quo64 (by omega) ?_) | (with_reducible refine bi_rem64 (by omega) ?_) | (with_reducible refine bi_mul64 (by omega) ?_) | (with_reducible refine bi_neg ?_) | (with_reducible refine bi_un_xor32 ?_) | (with_reducible refine bi_add ?_) | (with_reducible refine bi_sub ?_) | (with_reducible refine bi_mul ?_) | (with_reducible refine bi_quo (by decide) ?_) | (with_reducible refine bi_rem (by decide) ?_)))
  refine lnm und116 h1.map ?_
  rw [List.length_map]
  refine bi_geq_c (fun hfull => ?_) (fun hfull => ?_)
  · (repeat (first | (with_reducible refine nck ?_) | (with_reducible refine cdT ?_) | (with_reducible refine cdF ?_) | (with_reducible refine gdY ?_) | (with_reducible refine gdFT ?_) | (with_reducible refine gdTF ?_) | (with_reducible refine gdU ?_) | (with_reducible refine gaY ?_) | (with_reducible refine gaFT ?_) | (with_reducible refine gaTF ?_) | (with_reducible refine pickT ?_) | (with_reducible refine pickF ?_) | (with_reducible refine bi_lss_t (by omega) ?_) | (with_reducible refine bi_lss_f (by omega) ?_) | (with_reducible refine bi_add64 (by omega) ?_) | (with_reducible refine bi_sub64 (by omega) ?_) | (with_reducible refine bi_eql_t (by omega) ?_) | (with_reducible refine bi_eql_f (by omega) ?_) | (with_reducible refine bi_neq_t (by omega) ?_) | (with_reducible refine bi_neq_f (by omega) ?_) | (with_reducible refine bi_gtr_t (by omega) ?_) | (with_reducible refine bi_gtr_f (by omega) ?_) | (with_reducible refine bi_leq_t (by omega) ?_) | (with_reducible refine bi_leq_f (by omega) ?_) | (with_reducible refine bi_geq_t (by omega) ?_) | (with_reducible refine bi_geq_f (by omega) ?_) | (with_reducible refine bi_xt0 ?_) | (with_reducible refine bi_xt1 ?_) | (with_reducible refine bi_xt2 ?_) | (with_reducible refine bi_xt3 ?_) | (with_reducible refine bi_T ?_) | (with_reducible refine bi_F ?_) | (with_reducible refine bi_not ?_) | (with_reducible refine bi_and ?_) | (with_reducible refine bi_or ?_) | (with_reducible refine bi_xor ?_) | (with_reducible refine bi_shr (by omega) (by decide) ?_) | (with_reducible refine bi_shl (by omega) (by decide) ?_) | (with_reducible refine bi_quo64 (by omega) ?_) | (with_reducible refine bi_rem64 (by omega) ?_) | (with_reducible refine bi_mul64 (by omega) ?_) | (with_reducible refine bi_neg ?_) | (with_reducible refine bi_un_xor32 ?_) | (with_reducible refine bi_add ?_) | (with_reducible refine bi_sub ?_) | (with_reducible refine bi_mul ?_) | (with_reducible refine bi_quo (by decide) ?_) | (with_reducible refine bi_rem (by decide) ?_)))
    show ite _ _ _
    rw [if_pos (by omega)]
    exact ⟨rfl, c, fun _ _ => rfl, hC.below ha, Turns.of_below ha⟩
  (repeat (first | (with_reducible refine fd n1 (by decide) ?_) | (with_reducible refine ld one3 c1 ?_) | (with_reducible refine fd n1 (by decide) ?_) | (with_reducible refine nck ?_) | (with_reducible refine cdT ?_) | (with_reducible refine cdF ?_) | (with_reducible refine gdY ?_) | (with_reducible refine gdFT ?_) | (with_reducible refine gdTF ?_) | (with_reducible refine gdU ?_) | (with_reducible refine gaY ?_) | (with_reducible refine gaFT ?_) | (with_reducible refine gaTF ?_) | (with_reducible refine pickT ?_) | (with_reducible refine pickF ?_) | (with_reducible refine bi_lss_t (by omega) ?_) | (with_reducible refine bi_lss_f (by omega) ?_) | (with_reducible refine bi_add64 (by omega) ?_) | (with_reducible refine bi_sub64 (by omega) ?_) | (with_reducible refine bi_eql_t (by omega) ?_) | (with_reducible refine bi_eql_f (by omega) ?_) | (with_reducible refine bi_neq_t (by omega) ?_) | (with_reducible refine bi_neq_f (by omega) ?_) | (with_reducible refine bi_gtr_t (by omega) ?_) | (with_reducible refine bi_gtr_f (by omega) ?_) | (with_reducible refine bi_leq_t (by omega) ?_) | (with_reducible refine bi_leq_f (by omega) ?_) | (with_reducible refine bi_geq_t (by omega) ?_) | (with_reducible refine bi_geq_f (by omega) ?_) | (with_reducible refine bi_xt0 ?_) | (with_reducible refine bi_xt1 ?_) | (with_reducible refine bi_xt2 ?_) | (with_reducible refine bi_xt3 ?_) | (with_reducible refine bi_T ?_) | (with_reducible refine bi_F ?_) | (with_reducible refine bi_not ?_) | (with_reducible refine bi_and ?_) | (with_reducible refine bi_or ?_) | (with_reducible refine bi_xor ?_) | (with_reducible refine bi_shr (by omega) (by decide) ?_) | (with_reducible refine bi_shl (by omega) (by decide) ?_) | (with_reducible refine bi_quo64 (by omega) ?_) | (with_reducible refine bi_rem64 (by omega) ?_) | (with_reducible refine bi_mul64 (by omega) ?_) | (with_reducible refine bi_neg ?_) | (with_reducible refine bi_un_xor32 ?_) | (with_reducible refine bi_add ?_) | (with_reducible refine bi_sub ?_) | (with_reducible refine bi_mul ?_) | (with_reducible refine bi_quo (by decide) ?_) | (with_reducible refine bi_rem (by decide) ?_)))
  rw [show ((last : Int) + 1) = ((last + 1 : Nat) : Int) from by omega]
  refine st sz3 rfl (by rw [c1]; rfl) (h1.blk.frozen 1) ?_
  have hT2 := Turns.setCell (F := fun k => k = g) (p := ⟨g, 1, none⟩) (Turns.refl _ w1) (.inl rfl) (.int .i64 ((last + 1 : Nat) : Int))
  have hblk2 := h1.blk.set_ 1 (.int .i64 ((last + 1 : Nat) : Int))
  have hgl : g ≠ w.heap.size := by have := h.blk.lt; omega
  have hL2 := hL.turns hT2 (fun e => hgl e.symm)
  have hm2 := h1.map.turns hT2 (fun e => h1.ne e.symm)
  have hel2 : ∀ x ∈ l, MsgAt (col c w.heap.size (last + 11)) (x.1.toNat + 10) _ x.2 := fun x hx => (h1.el x hx).2.turns hT2 (fun k hk => by rw [hk, h1.hue]; omega)
  have hTw : Turns (D c) w (w1.setCell ⟨g, 1, none⟩ (.int .i64 ((last + 1 : Nat) : Int))) := (Turns.of_below ha).setCell (.inl (by show c g ≠ 0; rw [h.hue]; omega)) _
  have hp2 : Pairs (w1.setCell ⟨g, 1, none⟩ (.int .i64 ((last + 1 : Nat) : Int))) [p] ps := rRow.turns rPair_all (keeps_Pairs _ _ _ _ ha hp) (by decide) hT2 (hpc.imp_right fun hc k hk he => hc k hk (by rw [he]; exact h.hue))
  have hq2 : Intents (w1.setCell ⟨g, 1, none⟩ (.int .i64 ((last + 1 : Nat) : Int))) [q] is := rRow.turns rIntent_all (keeps_Intents _ _ _ _ ha hq) (by decide) hT2 (hqc.imp_right fun hc k hk he => hc k hk (by rw [he]; exact h.hue))
  have hsz2 : (w1.setCell ⟨g, 1, none⟩ (.int .i64 ((last + 1 : Nat) : Int))).heap.size = w1.heap.size := by simp [World.setCell]
  have hblk2' : Blk (w1.setCell ⟨g, 1, none⟩ (.int .i64 ((last + 1 : Nat) : Int))) g 118 #[.map (some b), .int .i64 ((last + 1 : Nat) : Int)] := hblk2
  generalize w1.setCell ⟨g, 1, none⟩ (.int .i64 ((last + 1 : Nat) : Int)) = w2 at *
  have hdr : Below w2.heap.size w2 w2.drew := (Below.refl _ _).drew
  have d0 : ∀ w', (Blk w' g 118 #[.map (some b), .int .i64 ((last + 1 : Nat) : Int)] ∧ Blk w' w.heap.size 58 (L.cells p q)) → w'.cell? ⟨g, 0, none⟩ = some (.map (some b)) := fun w' h => h.1.cell 0
  have d1 : ∀ w', (Blk w' g 118 #[.map (some b), .int .i64 ((last + 1 : Nat) : Int)] ∧ Blk w' w.heap.size 58 (L.cells p q)) → w'.cell? ⟨g, 1, none⟩ = some (.int .i64 ((last + 1 : Nat) : Int)) := fun w' h => h.1.cell 1
  refine draw (fun w' => Blk w' g 118 #[.map (some b), .int .i64 ((last + 1 : Nat) : Int)] ∧ Blk w' w.heap.size 58 (L.cells p q)) ⟨hblk2'.below' hdr, hL2.below' hdr⟩ ?_
  (repeat (first | (with_reducible refine yfd n0 (by decide) ?_) | (with_reducible refine yl1 one116 d0 ?_) | (with_reducible refine yfd n1 (by decide) ?_) | (with_reducible refine yl1 one3 d1 ?_) | (with_reducible refine ynck ?_) | (with_reducible refine nck ?_) | (with_reducible refine cdT ?_) | (with_reducible refine cdF ?_) | (with_reducible refine gdY ?_) | (with_reducible refine gdFT ?_) | (with_reducible refine gdTF ?_) | (with_reducible refine gdU ?_) | (with_reducible refine gaY ?_) | (with_reducible refine gaFT ?_) | (with_reducible refine gaTF ?_) | (with_reducible refine pickT ?_) | (with_reducible refine pickF ?_) | (with_reducible refine yi_lss_t (by omega) ?_) | (with_reducible refine yi_lss_f (by omega) ?_) | (with_reducible refine yi_add64 (by omega) ?_) | (with_reducible refine yi_sub64 (by omega) ?_) | (with_reducible refine yi_eql_t (by omega) ?_) | (with_reducible refine yi_eql_f (by omega) ?_) | (with_reducible refine yi_neq_t (by omega) ?_) | (with_reducible refine yi_neq_f (by omega) ?_) | (with_reducible refine yi_gtr_t (by omega) ?_) | (with_reducible refine yi_gtr_f (by omega) ?_) | (with_reducible refine yi_leq_t (by omega) ?_) | (with_reducible refine yi_leq_f (by omega) ?_) | (with_reducible refine yi_geq_t (by omega) ?_) | (with_reducible refine yi_geq_f (by omega) ?_) | (with_reducible refine yi_xt0 ?_) | (with_reducible refine yi_xt1 ?_) | (with_reducible refine yi_xt2 ?_) | (with_reducible refine yi_xt3 ?_) | (with_reducible refine yi_T ?_) | (with_reducible refine yi_F ?_) | (with_reducible refine yi_not ?_) | (with_reducible refine yi_and ?_) | (with_reducible refine yi_or ?_) | (with_reducible refine yi_xor ?_) | (with_reducible refine yi_shr (by omega) (by decide) ?_) | (with_reducible refine yi_shl (by omega) (by decide) ?_) | (with_reducible refine yi_quo64 (by omega) ?_) | (with_reducible refine yi_rem64 (by omega) ?_) | (with_reducible refine yi_mul64 (by omega) ?_) | (with_reducible refine yi_neg ?_) | (with_reducible refine yi_un_xor32 ?_) | (with_reducible refine yi_add ?_) | (with_reducible refine yi_sub ?_) | (with_reducible refine yi_mul ?_) | (with_reducible refine yi_quo (by decide) ?_) | (with_reducible refine yi_rem (by decide) ?_)))
  refine yldA agg58 (fun w' h => h.2) (by exact sz58) ?_
  refine act ?_
  refine (Copy_spec L p q ps is w2.drew (keeps_Pairs _ _ _ _ hdr hp2) (keeps_Intents _ _ _ _ hdr hq2) (by omega) (by omega)).mono ?_
  rintro _ w3 ⟨p', q', rfl, hop, hoq, hfp, hfq, hapart, hb3⟩
  have hb23 := below_then hdr hb3
  have hsd := hdr.size
  refine ⟨_, ⟨hblk2'.below' hb23, hL2.below' hb23⟩, fun _ h => h, ?_⟩
  refine mup und116 und3 (hm2.below hb23) (wf64 (by omega)) (by rw [List.length_map]; show l.length < maxLen; simp only [maxLen]; omega) ?_
  intro w4 hm4 hT4
  have hblk4 := (hblk2'.below' hb23).turns hT4 h1.ne
  have c1' : w4.cell? ⟨g, 1, none⟩ = some (.int .i64 ((last + 1 : Nat) : Int)) := hblk4.cell 1
  (repeat (first | (with_reducible refine fd n1 (by decide) ?_) | (with_reducible refine ld one3 c1' ?_) | (with_reducible refine nck ?_) | (with_reducible refine cdT ?_) | (with_reducible refine cdF ?_) | (with_reducible refine gdY ?_) | (with_reducible refine gdFT ?_) | (with_reducible refine gdTF ?_) | (with_reducible refine gdU ?_) | (with_reducible refine gaY ?_) | (with_reducible refine gaFT ?_) | (with_reducible refine gaTF ?_) | (with_reducible refine pickT ?_) | (with_reducible refine pickF ?_) | (with_reducible refine bi_lss_t (by omega) ?_) | (with_reducible refine bi_lss_f (by omega) ?_) | (with_reducible refine bi_add64 (by omega) ?_) | (with_reducible refine bi_sub64 (by omega) ?_) | (with_reducible refine bi_eql_t (by omega) ?_) | (with_reducible refine bi_eql_f (by omega) ?_) | (with_reducible refine bi_neq_t (by omega) ?_) | (with_reducible refine bi_neq_f (by omega) ?_) | (with_reducible refine bi_gtr_t (by omega) ?_) | (with_reducible refine bi_gtr_f (by omega) ?_) | (with_reducible refine bi_leq_t (by omega) ?_) | (with_reducible refine bi_leq_f (by omega) ?_) | (with_reducible refine bi_geq_t (by omega) ?_) | (with_reducible refine bi_geq_f (by omega) ?_) | (with_reducible refine bi_xt0 ?_) | (with_reducible refine bi_xt1 ?_) | (with_reducible refine bi_xt2 ?_) | (with_reducible refine bi_xt3 ?_) | (with_reducible refine bi_T ?_) | (with_reducible refine bi_F ?_) | (with_reducible refine bi_not ?_) | (with_reducible refine bi_and ?_) | (with_reducible refine bi_or ?_) | (with_reducible refine bi_xor ?_) | (with_reducible refine bi_shr (by omega) (by decide) ?_) | (with_reducible refine bi_shl (by omega) (by decide) ?_) | (with_reducible refine bi_quo64 (by omega) ?_) | (with_reducible refine bi_rem64 (by omega) ?_) | (with_reducible refine bi_mul64 (by omega) ?_) | (with_reducible refine bi_neg ?_) | (with_reducible refine bi_un_xor32 ?_) | (with_reducible refine bi_add ?_) | (with_reducible refine bi_sub ?_) | (with_reducible refine bi_mul ?_) | (with_reducible refine bi_quo (by decide) ?_) | (with_reducible refine bi_rem (by decide) ?_)))
  show ite _ _ _
  rw [if_neg (by omega)]
  have hcb : col c w.heap.size (last + 11) b = 1 := h1.huem
  have hfresh : ∀ {v : Value}, Fresh w2.drew.heap.size v → InC (col c w.heap.size (last + 11)) (last + 11) v := fun hf k hk => col_ge _ _ _ (by have := hf k hk; omega)
  refine ⟨rfl, p', q', col c w.heap.size (last + 11), col_lt _ _ _, ⟨b, h1.hue, h1.huem, h1.ne, hblk4, ?_, ?_⟩, ?_⟩
  · rw [setK_new _ _ _ (fun x hx => by
      obtain ⟨y, hy, rfl⟩ := List.mem_map.1 hx
      have := (h1.el y hy).1.2
      simp only
      omega)] at hm4
    rw [List.map_append]
    exact hm4
  · intro x hx
    rcases List.mem_append.1 hx with hx | hx
    · refine ⟨⟨(h1.el x hx).1.1, by have := (h1.el x hx).1.2; omega⟩, ((hel2 x hx).turns (Turns.of_below (F := fun _ => False) hb23) (fun _ h => h.elim)).turns hT4 (fun k hk => by rw [hk, hcb]; omega)⟩
    · simp only [List.mem_cons, List.not_mem_nil, or_false] at hx
      subst hx
      refine ⟨⟨by simp only; omega, by simp only; omega⟩, ?_⟩
      have hcol : (((last + 1 : Nat) : Int)).toNat + 10 = last + 11 := by omega
      simp only [hcol]
      have hne : ∀ {v : Value}, InC (col c w.heap.size (last + 11)) (last + 11) v → ∀ k, v.ownBlock = some k → ¬ k = b := fun hv k hk he => by
        have := hv k hk
        rw [he, hcb] at this; omega
      exact ⟨hop.turns hT4 (hne (hfresh hfp)), hoq.turns hT4 (hne (hfresh hfq)), hfresh hfp, hfresh hfq, pairs_ok hp, intents_ok hq, hl, hl2, hapart⟩
  · refine (hTw.then_below hb23).trans (hT4.mono fun k hk he => ?_)
    rw [he]
    exact .inl (by show c b ≠ 0; rw [h.huem]; omega)
end Go.Proofs.Ythicbfopjakiiaa.E
