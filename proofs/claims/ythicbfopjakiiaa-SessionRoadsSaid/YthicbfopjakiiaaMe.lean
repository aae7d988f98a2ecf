import Derived.Test.YthicbfopjakiiaaM3
import Derived.Laws.CopyRow
import Derived.IntWalk
import Derived.Test.YthicbfopjakiiaaMa
import Derived.Test.YthicbfopjakiiaaMd
namespace Go.Proofs.Ythicbfopjakiiaa.E
open Go Go.RowKit

section
variable {P : Program} {K : Value → World → Prop} {S : World → Prop} {w : World}
/-- x[i], any element size. -/
theorem ixN {t e : TypeId} (h : P.underlying t = some (.slice e)) {s : Nat} (hs : (P.info? e).map (·.size) = some s) {a : Addr} {n c : Nat} {kd : IntKind} (i : Nat) (h1 : i < n)
    (k : K (.pointer (some (a.add (i * s)))) w) : LiftP P (Instr.indexAt t (.slice (some a) n c) (.int kd (i : Int))) K w :=
  ix h hs (by omega) (by omega) (by rw [Int.toNat_natCast]; exact k)
end
theorem ownsRow_turns {s : Nat} {e : TypeId} {w w' : World} {v : Value} {n : Nat} {xs : List Value} {F : Nat → Prop} (h : w.ownsRow 0 e s v n xs) (hT : Turns F w w') (hF : ∀ k, v.ownBlock = some k → ¬ F k) : w'.ownsRow 0 e s v n xs := by
  refine ⟨h.1, ?_⟩
  rcases h.2 with h | ⟨g, c, cur, rfl, h0, hb, h1⟩
  · exact .inl h
  · have hlt : g < w.heap.size := (Array.getElem?_eq_some_iff.1 hb).1
    exact .inr ⟨g, c, cur, rfl, h0, (hT.block g hlt (hF g rfl)).trans hb, h1⟩
theorem ownsRow_lt {s : Nat} {e : TypeId} {w : World} {v : Value} {n : Nat} {xs : List Value} (h : w.ownsRow 0 e s v n xs) {k : Nat} (hk : v.ownBlock = some k) : k < w.heap.size := by
  rcases h.2 with ⟨rfl, _⟩ | ⟨g, c, cur, rfl, h0, hb, h1⟩
  · cases hk
  · have : g = k := by simpa [Value.ownBlock] using hk
    subst this
    exact (Array.getElem?_eq_some_iff.1 hb).1
theorem Turns.cut {F : Nat → Prop} {w w' : World} (h : Turns F w w') : Turns (fun k => F k ∧ k < w.heap.size) w w' := ⟨h.os, h.tape, h.output, h.size, fun k hk hF => h.block k hk fun e => hF ⟨e, hk⟩⟩
end Go.Proofs.Ythicbfopjakiiaa.E
namespace Go.Proofs.Ythicbfopjakiiaa.E
open Go Go.RowKit

end Go.Proofs.Ythicbfopjakiiaa.E
namespace Go.Proofs.Ythicbfopjakiiaa.E
open Go Go.RowKit

theorem rowAt {s : Nat} {e : TypeId} {w : World} {v : Value} {α : Type} {f : α → List Value} {l : List α} (hf : ∀ x, (f x).length = s) (h : OwnR s e w v l.length (l.flatMap f)) (i : Nat) (hi : i < l.length) (hs : 0 < s) :
    ∃ g c, v = .slice (some ⟨g, 0, none⟩) l.length c ∧ ∀ j u, (f l[i])[j]? = some u → w.cell? ⟨g, i * s + j, none⟩ = some u := by
  obtain ⟨A, c, rfl, _, _⟩ := h.slice
  have hle : i * s + s ≤ l.length * s := by
    have := Nat.mul_le_mul_right s (show i + 1 ≤ l.length from hi)
    rw [Nat.succ_mul] at this; omega
  obtain ⟨g, _, rfl, _, _, _⟩ := h.at (i * s) (by omega)
  refine ⟨g, c, rfl, fun j u hu => ?_⟩
  have hj : j < s := by have := (List.getElem?_eq_some_iff.1 hu).1; rw [hf] at this; exact this
  obtain ⟨g', u', he, hu', hc, _⟩ := h.at (i * s + j) (by omega)
  cases he
  rw [hc]
  have := flatMap_at f s hf l i j l[i] (List.getElem?_eq_getElem hi) hj
  rw [hu', hu] at this
  exact this
theorem Fresh.one {B : Nat} {w : World} {v v' : Value} (h : Fresh B v) (hB : B ≤ w.heap.size) (hbl : v'.ownBlock = v.ownBlock ∨ ∃ b, v'.ownBlock = some b ∧ w.heap.size ≤ b) : Fresh B v' := fun k hk => by
  rcases hbl with e | ⟨b, e, hb⟩
  · exact h k (by rw [← e]; exact hk)
  · rw [e] at hk; cases hk; omega
theorem Turns.fresh {B : Nat} {w w' : World} {v : Value} (hT : Turns (fun j => v.ownBlock = some j) w w') (h : Fresh B v) (hB : B ≤ w.heap.size) : Below B w w' := hT.below hB fun k hk e => by have := h k e; omega
section
variable {P : Program} {K : Value → World → Prop} {S : World → Prop} {w : World} {t : TypeId}
theorem bxB {cs : Array Value} (k : ∀ g w', g = w.heap.size → Blk w' g t cs → Below w.heap.size w w' → K (.pointer (some ⟨g, 0, none⟩)) w') : LiftP P (Instr.box t (.agg cs)) K w :=
  bx (k _ _ rfl (Blk.new w t cs) ((Below.refl _ _).alloc (Nat.le_refl _) _))
theorem alB {cs : Array Value} (hz : (P.info? t).bind (·.zero) = some (.agg cs)) (k : ∀ g w', g = w.heap.size → Blk w' g t cs → Below w.heap.size w w' → K (.pointer (some ⟨g, 0, none⟩)) w') : LiftP P (Instr.alloc t true (.tuple #[])) K w :=
  al hz (k _ _ rfl (Blk.new w t cs) ((Below.refl _ _).alloc (Nat.le_refl _) _))
theorem stB {g : Nat} {old cells : Array Value} (hb : Blk w g t old) (hi : (P.info? t).map (·.size) = some cells.size) (ho : old.size = cells.size) (h1 : cells.all (·.oneCell') = true)
    {K : Value → World → Prop} (k : ∀ w', Blk w' g t cells → Turns (fun j => j = g) w w' → K undef w') : LiftU P (Instr.storeAt t (.pointer (some ⟨g, 0, none⟩)) (.agg cells)) K w :=
  stA hb hi ho h1 (k _ (hb.row cells) (Turns.setRow (F := fun j => j = g) (Turns.refl _ w) (.inl rfl) _))
theorem Turns.own {B g : Nat} {w w' : World} (h : Turns (fun j => j = g) w w') (hg : B ≤ g) (hB : B ≤ w.heap.size) : Below B w w' := h.below hB fun k hk e => by omega
theorem below_own {W w w' : World} {g : Nat} (hb : Below W.heap.size W w) (h : Turns (fun j => j = g) w w') (hg : W.heap.size ≤ g) : Below W.heap.size W w' := hb.trans (h.own hg hb.size)
end
end Go.Proofs.Ythicbfopjakiiaa.E
namespace Go.Proofs.Ythicbfopjakiiaa.E
open Go Go.RowKit

theorem add_add (a : Addr) (m n : Nat) : (a.add m).add n = a.add (m + n) := by
  unfold Addr.add
  by_cases hm : m = 0 <;> by_cases hn : n = 0 <;> simp [hm, hn, Nat.add_assoc]
end Go.Proofs.Ythicbfopjakiiaa.E
namespace Go.Proofs.Ythicbfopjakiiaa.E
open Go Go.RowKit

theorem delK_len_le {α : Type} (k : Int) : ∀ l : List (Int × α), (delK k l).length ≤ l.length
  | [] => by simp [delK]
  | (a, u) :: r => by
    have := delK_len_le k r
    rw [delK]
    split
    · simp
    · simp; exact this
end Go.Proofs.Ythicbfopjakiiaa.E
namespace Go.Proofs.Ythicbfopjakiiaa.E
open Go Go.RowKit
set_option linter.unusedSimpArgs false
set_option linter.unusedVariables false

/-- An object: its colour, what is so in memory; that it stands while no block of its colour is turned. -/
structure Thg where
  hu : Nat
  ok : (Nat → Nat) → World → Prop
  pos : 0 < hu
  turns : ∀ {c : Nat → Nat} {w w' : World} {G : Nat → Prop}, ok c w → Turns G w w' → (∀ k, G k → c k ≠ hu) → ok c w'
  re : ∀ {c c' : Nat → Nat} {w : World}, ok c w → (∀ k, k < w.heap.size → c' k = c k) → ok c' w
/-- Objects, and that what was there at w0 stands. -/
def Mem (w0 w : World) (L : List Thg) : Prop := ∃ c : Nat → Nat, (∀ k, k < w0.heap.size → c k = 0) ∧ (∀ o ∈ L, o.ok c w) ∧ Below w0.heap.size w0 w
section
variable {w0 w w' : World} {L A B : List Thg} {o : Thg}
theorem Thg.below {c : Nat → Nat} (h : o.ok c w) (hb : Below w.heap.size w w') : o.ok c w' := o.turns (G := fun _ => False) h (Turns.of_below hb) fun _ h => h.elim
theorem Mem.bel (h : Mem w0 w L) : Below w0.heap.size w0 w := by obtain ⟨_, _, _, h⟩ := h; exact h
theorem Mem.below (h : Mem w0 w L) (hb : Below w.heap.size w w') : Mem w0 w' L := by
  obtain ⟨c, h1, h2, h3⟩ := h
  exact ⟨c, h1, fun o ho => Thg.below (h2 o ho) hb, h3.trans (hb.mono h3.size)⟩
theorem Mem.nil (w : World) : Mem w w [] := ⟨fun _ => 0, fun _ _ => rfl, by simp, Below.refl _ _⟩
theorem Mem.sub (h : Mem w0 w L) (hs : ∀ x ∈ A, x ∈ L) : Mem w0 w A := by
  obtain ⟨c, h1, h2, h3⟩ := h
  exact ⟨c, h1, fun o ho => h2 o (hs o ho), h3⟩
/-- A call on one of them. -/
theorem Mem.call (h : Mem w0 w (A ++ o :: B)) (hd : ∀ x ∈ A ++ B, x.hu ≠ o.hu) : ∃ c, o.ok c w ∧ ∀ (o' : Thg) (w' : World), (∃ c' : Nat → Nat, (∀ k, k < w.heap.size → c' k = c k) ∧ o'.ok c' w' ∧ Turns (fun k => c k = o.hu) w w') → Mem w0 w' (A ++ o' :: B) := by
  obtain ⟨c, h1, h2, h3⟩ := h
  have ho := h2 o (by simp)
  have hp := o.pos
  refine ⟨c, ho, fun o' w' ⟨c', hc, hS, hT⟩ => ⟨c', fun k hk => (hc k (Nat.lt_of_lt_of_le hk h3.size)).trans (h1 k hk), fun x hx => ?_, h3.trans (hT.below h3.size fun k hk e => ?_)⟩⟩
  · have keep : x ∈ A ++ B → x.ok c' w' := fun hx => by
      refine x.turns (x.re (h2 x ?_) hc) hT.cut fun k hk => ?_
      · rcases List.mem_append.1 hx with h | h
        · simp [h]
        · simp [h]
      · rw [hc k hk.2, show c k = o.hu from hk.1]
        exact fun e => hd x hx e.symm
    rcases List.mem_append.1 hx with h | h
    · exact keep (List.mem_append.2 (.inl h))
    · rcases List.mem_cons.1 h with rfl | h
      · exact hS
      · exact keep (List.mem_append.2 (.inr h))
  · rw [h1 k hk] at e
    omega
/-- What one of them is. -/
theorem Mem.look (h : Mem w0 w L) (hm : o ∈ L) : ∃ c, o.ok c w := by
  obtain ⟨c, _, h2, _⟩ := h
  exact ⟨c, h2 o hm⟩
/-- An object is made. -/
theorem Mem.make (h : Mem w0 w L) : ∃ c : Nat → Nat, ∀ (o : Thg) w', (∃ c' : Nat → Nat, (∀ k, k < w.heap.size → c' k = c k) ∧ o.ok c' w' ∧ Below w.heap.size w w') → Mem w0 w' (L ++ [o]) := by
  obtain ⟨c, h1, h2, h3⟩ := h
  refine ⟨c, fun o w' ⟨c', hc, hS, hb⟩ => ⟨c', fun k hk => (hc k (Nat.lt_of_lt_of_le hk h3.size)).trans (h1 k hk), fun x hx => ?_, h3.trans (hb.mono h3.size)⟩⟩
  rcases List.mem_append.1 hx with h | h
  · exact Thg.below (x.re (h2 x h) hc) hb
  · simp only [List.mem_cons, List.not_mem_nil, or_false] at h
    rw [h]; exact hS
end
/-- A block known whole. -/
def blkO (hu g : Nat) (t : TypeId) (cs : Array Value) (hp : 0 < hu) : Thg where
  hu := hu
  ok := fun c w => c g = hu ∧ Blk w g t cs
  pos := hp
  turns := fun h hT hG => ⟨h.1, h.2.turns hT fun e => hG _ e h.1⟩
  re := fun h hc => ⟨(hc _ h.2.lt).trans h.1, h.2⟩
/-- A row of the call's own. -/
def rowO (hu : Nat) (e : TypeId) (v : Value) (xs : List Value) (hp : 0 < hu) : Thg where
  hu := hu
  ok := fun c w => InC c hu v ∧ Own e w v xs
  pos := hp
  turns := fun h hT hG => ⟨h.1, h.2.turns hT fun k hk e => hG k e (h.1 k hk)⟩
  re := fun h hc => ⟨h.1.re (fun b hb => ownsRow_lt h.2 hb) hc, h.2⟩
end Go.Proofs.Ythicbfopjakiiaa.E
namespace Go.Proofs.Ythicbfopjakiiaa.Roads
set_option linter.unusedSimpArgs false
set_option linter.unusedVariables false
variable {α : Type}

/-- A letter under way: a text under its number, or a mark; to whom. -/
inductive Lt (α : Type) where
  | body (to : Bool) (k : Nat) (b : α)
  | ack (to : Bool) (m : Nat)
/-- Of each end: what it sent, what it took, its mark, what waits at it. -/
structure Rs (α : Type) where
  S : Bool → List α
  T : Bool → List α
  mrk : Bool → Nat
  wt : Bool → List α
def up {β : Type} (f : Bool → β) (i : Bool) (x : β) : Bool → β := fun j => if j = i then x else f j
theorem up_at {β : Type} (f : Bool → β) (i : Bool) (x : β) : up f i x i = x := if_pos rfl
theorem up_ne {β : Type} (f : Bool → β) (i j : Bool) (x : β) (h : j ≠ i) : up f i x j = f j := if_neg h
/-- One way: S sent, T taken. -/
structure Dir (S T : List α) (mark : Nat) (wt : List α) : Prop where
  lw : wt.length ≤ S.length
  hw : wt = S.drop (S.length - wt.length)
  hm : mark ≤ S.length
  ht : T = S.take mark
  hb : S.length - wt.length ≤ mark
def okL (s : Rs α) : Lt α → Prop
  | .body to k b => 1 ≤ k ∧ (s.S (!to))[k - 1]? = some b
  | .ack to m => m ≤ s.mrk (!to)
structure Good (s : Rs α) (net : List (Lt α)) : Prop where
  dir : ∀ i, Dir (s.S i) (s.T (!i)) (s.mrk (!i)) (s.wt i)
  ok : ∀ x ∈ net, okL s x
theorem Dir.begins {S T : List α} {m : Nat} {w : List α} (h : Dir S T m w) : T.length ≤ S.length ∧ T = S.take T.length := by
  have hl : T.length = m := by rw [h.ht, List.length_take]; have := h.hm; omega
  exact ⟨by have := h.hm; omega, by rw [hl]; exact h.ht⟩
theorem Dir.len {S T : List α} {m : Nat} {w : List α} (h : Dir S T m w) : T.length = m := by rw [h.ht, List.length_take]; have := h.hm; omega
theorem Dir.send {S T : List α} {m : Nat} {w : List α} (h : Dir S T m w) (b : α) : Dir (S ++ [b]) T m (w ++ [b]) := by
  have h1 := h.lw; have h2 := h.hm; have h3 := h.hb
  refine ⟨by simp; omega, ?_, by simp; omega, ?_, by simp; omega⟩
  · have e : (S ++ [b]).length - (w ++ [b]).length = S.length - w.length := by simp
    rw [e, List.drop_append_of_le_length (by omega), ← h.hw]
  · rw [List.take_append_of_le_length h2]; exact h.ht
theorem Dir.take {S T : List α} {m : Nat} {w : List α} (h : Dir S T m w) {b : α} (hb : S[m]? = some b) : Dir S (T ++ [b]) (m + 1) w := by
  have h3 := h.hb
  obtain ⟨hlt, e⟩ := List.getElem?_eq_some_iff.1 hb
  refine ⟨h.lw, h.hw, by omega, ?_, by omega⟩
  rw [h.ht, ← e, List.take_append_getElem hlt]
theorem Dir.ack {S T : List α} {m : Nat} {w : List α} (h : Dir S T m w) {n : Nat} (hn : S.length - w.length + n ≤ m) : Dir S T m (w.drop n) := by
  have h1 := h.lw; have h2 := h.hm; have h3 := h.hb
  refine ⟨by rw [List.length_drop]; omega, ?_, h2, h.ht, by rw [List.length_drop]; omega⟩
  have e : S.length - (w.drop n).length = (S.length - w.length) + n := by rw [List.length_drop]; omega
  rw [e, ← List.drop_drop, ← h.hw]
theorem Dir.post {S T : List α} {m : Nat} {w : List α} (h : Dir S T m w) {i : Nat} {b : α} (hi : w[i]? = some b) : S[S.length - w.length + i]? = some b := by
  rw [← List.getElem?_drop, ← h.hw]; exact hi
def sendR (s : Rs α) (i : Bool) (b : α) : Rs α := ⟨up s.S i (s.S i ++ [b]), s.T, s.mrk, up s.wt i (s.wt i ++ [b])⟩
/-- How many texts an ack takes off. -/
def ackd (S w : List α) (m : Nat) : Nat := if S.length - w.length < m ∧ m ≤ S.length then m - (S.length - w.length) else 0
noncomputable def bring (s : Rs α) : Lt α → Rs α
  | .body to k b => if k = s.mrk to + 1 then ⟨s.S, up s.T to (s.T to ++ [b]), up s.mrk to k, s.wt⟩ else s
  | .ack to m => ⟨s.S, s.T, s.mrk, up s.wt to ((s.wt to).drop (ackd (s.S to) (s.wt to) m))⟩
theorem nn (i : Bool) : (!(!i)) = i := Bool.not_not i
theorem ne_not (i : Bool) : (!i) ≠ i := by cases i <;> simp
theorem eq_or (i j : Bool) : j = i ∨ j = !i := by cases i <;> cases j <;> simp
theorem Good.send {s : Rs α} {net : List (Lt α)} (h : Good s net) (i : Bool) (b : α) : Good (sendR s i b) net := by
  refine ⟨fun j => ?_, fun x hx => ?_⟩
  · unfold sendR
    rcases eq_or i j with rfl | rfl
    · simp only [up_at]; exact (h.dir j).send b
    · simp only [up_ne _ i (!i) _ (ne_not i)]; exact h.dir _
  · have := h.ok x hx
    cases x with
    | ack to m => exact this
    | body to k c =>
      obtain ⟨h1, h2⟩ := this
      refine ⟨h1, ?_⟩
      show (up s.S i (s.S i ++ [b]) (!to))[k - 1]? = some c
      rcases eq_or i (!to) with e | e
      · rw [e, up_at]
        rw [e] at h2
        obtain ⟨hlt, _⟩ := List.getElem?_eq_some_iff.1 h2
        rw [List.getElem?_append_left hlt]; exact h2
      · rw [e, up_ne _ _ _ _ (ne_not i), ← e]; exact h2
theorem Good.sub {s : Rs α} {net net' : List (Lt α)} (h : Good s net) (hs : ∀ x ∈ net', x ∈ net ∨ okL s x) : Good s net' :=
  ⟨h.dir, fun x hx => (hs x hx).elim (h.ok x) id⟩
theorem Good.posted {s : Rs α} {net : List (Lt α)} (h : Good s net) (i : Bool) {j : Nat} {b : α} (hj : (s.wt i)[j]? = some b) : okL s (.body (!i) ((s.S i).length - (s.wt i).length + 1 + j) b) := by
  refine ⟨by omega, ?_⟩
  rw [nn]
  have := (h.dir i).post hj
  rw [show (s.S i).length - (s.wt i).length + 1 + j - 1 = (s.S i).length - (s.wt i).length + j by omega]
  exact this
theorem Good.told {s : Rs α} (i : Bool) : okL s (.ack (!i) (s.mrk i)) := by
  show s.mrk i ≤ s.mrk (!(!i))
  rw [nn]; exact Nat.le_refl _
theorem bring_S (s : Rs α) (x : Lt α) : (bring s x).S = s.S := by
  cases x with
  | ack to m => rfl
  | body to k b => unfold bring; simp only; split <;> rfl
theorem bring_mk (s : Rs α) (x : Lt α) (i : Bool) : s.mrk i ≤ (bring s x).mrk i := by
  cases x with
  | ack to m => exact Nat.le_refl _
  | body to k b =>
    unfold bring
    simp only
    split
    · rename_i h
      show s.mrk i ≤ up s.mrk to k i
      rcases eq_or to i with rfl | e
      · rw [up_at]; omega
      · rw [e, up_ne _ _ _ _ (ne_not to)]; exact Nat.le_refl _
    · exact Nat.le_refl _
theorem okL_mono {s t : Rs α} {x : Lt α} (hS : t.S = s.S) (hm : ∀ i, s.mrk i ≤ t.mrk i) (h : okL s x) : okL t x := by
  cases x with
  | ack to m => exact Nat.le_trans h (hm _)
  | body to k b => unfold okL at *; rw [hS]; exact h
theorem ackd_le {S w : List α} {m mark : Nat} (hb : S.length - w.length ≤ mark) (h : m ≤ mark) : S.length - w.length + ackd S w m ≤ mark := by
  unfold ackd
  split
  · omega
  · omega
theorem Good.bring {s : Rs α} {net : List (Lt α)} (h : Good s net) {x : Lt α} (hx : okL s x) : Good (bring s x) net := by
  refine ⟨fun i => ?_, fun y hy => okL_mono (bring_S s x) (bring_mk s x) (h.ok y hy)⟩
  cases x with
  | ack to m =>
    unfold Roads.bring
    simp only
    rcases eq_or to i with rfl | e
    · rw [up_at]
      exact (h.dir i).ack (ackd_le (h.dir i).hb hx)
    · rw [e, up_ne _ _ _ _ (ne_not to)]
      exact h.dir _
  | body to k b =>
    obtain ⟨h1, h2⟩ := hx
    unfold Roads.bring
    simp only
    split
    · rename_i hk
      rcases eq_or to (!i) with e | e
      · have ei : i = !to := by rw [← e, nn]
        simp only
        rw [e, up_at, up_at]
        rw [← ei, hk, Nat.add_sub_cancel] at h2
        have hd := h.dir i
        rw [e] at hd
        rw [hk]
        exact hd.take h2
      · simp only
        rw [e, up_ne _ _ _ _ (ne_not to), up_ne _ _ _ _ (ne_not to), ← e]
        exact h.dir i
    · exact h.dir i
noncomputable def all (s : Rs α) (l : List (Lt α)) : Rs α := l.foldl bring s
theorem all_S : ∀ (l : List (Lt α)) (s : Rs α), (all s l).S = s.S
  | [], _ => rfl
  | x :: l, s => (all_S l (bring s x)).trans (bring_S s x)
theorem all_mk : ∀ (l : List (Lt α)) (s : Rs α) (i : Bool), s.mrk i ≤ (all s l).mrk i
  | [], _, _ => Nat.le_refl _
  | x :: l, s, i => Nat.le_trans (bring_mk s x i) (all_mk l (bring s x) i)
theorem all_app (s : Rs α) (a b : List (Lt α)) : all s (a ++ b) = all (all s a) b := List.foldl_append
theorem Good.all : ∀ {l : List (Lt α)} {s : Rs α}, Good s l → Good (all s l) []
  | [], s, h => h
  | x :: l, s, h => by
    have h1 : Good s l := ⟨h.dir, fun y hy => h.ok y (by simp [hy])⟩
    have := Good.all (l := l) (s := Roads.bring s x) (h1.bring (h.ok x (by simp)))
    exact this
/-- Texts that come in order are all taken. -/
theorem brings_row (to : Bool) : ∀ (bs : List α) (k : Nat) (s : Rs α), k ≤ s.mrk to → k + bs.length ≤ (all s ((bs.zipIdx (k + 1)).map fun p => .body to p.2 p.1)).mrk to
  | [], k, s, h => h
  | b :: bs, k, s, h => by
    rw [List.zipIdx_cons, List.map_cons]
    show _ ≤ (all (bring s (.body to (k + 1) b)) _).mrk to
    have hk : k + 1 ≤ (bring s (.body to (k + 1) b)).mrk to := by
      unfold bring
      simp only
      split
      · show k + 1 ≤ up s.mrk to (k + 1) to
        rw [up_at]; exact Nat.le_refl _
      · omega
    have := brings_row to bs (k + 1) _ hk
    rw [List.length_cons]
    omega
/-- What an end posts: all that waits. -/
def posts (s : Rs α) (i : Bool) : List (Lt α) := ((s.wt i).zipIdx ((s.S i).length - (s.wt i).length + 1)).map fun p => .body (!i) p.2 p.1
def tells (s : Rs α) (i : Bool) : List (Lt α) := [.ack (!i) (s.mrk i)]
/-- All that is under way in a turn: what was there, what both ends post and tell. -/
def turnL (s : Rs α) (net : List (Lt α)) : List (Lt α) := net ++ posts s false ++ tells s false ++ posts s true ++ tells s true
theorem posts_ok {s : Rs α} {net : List (Lt α)} (h : Good s net) (i : Bool) : ∀ x ∈ posts s i, okL s x := fun x hx => by
  obtain ⟨⟨b, n⟩, hp, rfl⟩ := List.mem_map.1 hx
  rw [List.mem_zipIdx_iff_le_and_getElem?_sub] at hp
  have := h.posted i hp.2
  have h1 := hp.1
  simp only at h1 this ⊢
  rw [show (s.S i).length - (s.wt i).length + 1 + (n - ((s.S i).length - (s.wt i).length + 1)) = n by omega] at this
  exact this
theorem Good.turn {s : Rs α} {net : List (Lt α)} (h : Good s net) : Good s (turnL s net) := h.sub fun x hx => by
  unfold turnL at hx
  simp only [List.mem_append] at hx
  rcases hx with (((hx | hx) | hx) | hx) | hx
  · exact .inl hx
  · exact .inr (posts_ok h _ x hx)
  · exact .inr (by rw [List.mem_singleton.1 hx]; exact Good.told false)
  · exact .inr (posts_ok h _ x hx)
  · exact .inr (by rw [List.mem_singleton.1 hx]; exact Good.told true)
/-- Behind the first kind turn all is taken. -/
theorem turn_one {s : Rs α} {net : List (Lt α)} (h : Good s net) (i : Bool) : (all s (turnL s net)).mrk (!i) = (s.S i).length := by
  have hg := h.turn.all
  have hle := (hg.dir i).hm
  rw [all_S] at hle
  have hd := h.dir i
  have key : ∀ (a b : List (Lt α)), (s.S i).length ≤ (all s (a ++ posts s i ++ b)).mrk (!i) := fun a b => by
    rw [all_app, all_app]
    refine Nat.le_trans ?_ (all_mk b _ (!i))
    have := brings_row (!i) (s.wt i) ((s.S i).length - (s.wt i).length) (all s a) (Nat.le_trans hd.hb (all_mk a s (!i)))
    have h1 := hd.lw
    unfold posts
    omega
  refine Nat.le_antisymm hle ?_
  cases i with
  | false =>
    have := key net (tells s false ++ posts s true ++ tells s true)
    unfold turnL
    simpa only [List.append_assoc] using this
  | true =>
    have := key (net ++ posts s false ++ tells s false) (tells s true)
    unfold turnL
    simpa only [List.append_assoc] using this
theorem bring_wt (s : Rs α) (x : Lt α) (i : Bool) (h : s.wt i = []) : (bring s x).wt i = [] := by
  cases x with
  | body to k b => unfold bring; simp only; split <;> exact h
  | ack to m =>
    show up s.wt to _ i = []
    rcases eq_or to i with rfl | e
    · rw [up_at, h, List.drop_nil]
    · rw [e, up_ne _ _ _ _ (ne_not to), ← e]; exact h
theorem all_wt : ∀ (l : List (Lt α)) (s : Rs α) (i : Bool), s.wt i = [] → (all s l).wt i = []
  | [], _, _, h => h
  | x :: l, s, i, h => all_wt l (bring s x) i (bring_wt s x i h)
/-- A mark that is the last number's lets nothing wait. -/
theorem bring_full {s : Rs α} {i : Bool} (hw : (s.wt i).length ≤ (s.S i).length) : (bring s (.ack i (s.S i).length)).wt i = [] := by
  show up s.wt i _ i = []
  rw [up_at, List.drop_eq_nil_iff]
  unfold ackd
  split
  · omega
  · omega
theorem all_full {s : Rs α} {net : List (Lt α)} (h : Good s net) (i : Bool) : ∀ l : List (Lt α), (∀ x ∈ l, okL s x) → Lt.ack i (s.S i).length ∈ l → (all s l).wt i = [] := by
  intro l
  induction l generalizing s net with
  | nil => intro _ hm; cases hm
  | cons x l ih =>
    intro hok hm
    show (all (bring s x) l).wt i = []
    rcases List.mem_cons.1 hm with rfl | hm
    · exact all_wt l _ i (bring_full (h.dir i).lw)
    · have h1 : Good s [] := ⟨h.dir, by simp⟩
      refine ih (net := []) (h1.bring (hok x (by simp))) (fun y hy => okL_mono (bring_S s x) (bring_mk s x) (hok y (by simp [hy]))) ?_
      rw [bring_S]; exact hm
/-- Behind the second one nothing waits. -/
theorem turn_two {s : Rs α} {net : List (Lt α)} (h : Good s net) (hm : ∀ i, s.mrk (!i) = (s.S i).length) (i : Bool) : (all s (turnL s net)).wt i = [] := by
  refine all_full h i _ h.turn.ok ?_
  have hi : Lt.ack i (s.S i).length ∈ tells s (!i) := by
    unfold tells
    rw [nn, hm i]; simp
  unfold turnL
  simp only [List.mem_append]
  cases i with
  | false => exact .inr hi
  | true => exact .inl (.inl (.inr hi))
end Go.Proofs.Ythicbfopjakiiaa.Roads
namespace Go.Proofs.Ythicbfopjakiiaa.E
open Go Go.RowKit
set_option linter.unusedSimpArgs false
set_option linter.unusedVariables false

theorem EndF.re' {F G : Nat → Prop} {w : World} {g mark sent : Nat} {ts : List ByteArray} (h : EndF F w g mark sent ts) (hG : ∀ k, k < w.heap.size → F k → G k) : EndF G w g mark sent ts := by
  obtain ⟨h0, A, c, h1, h2, h3, h4⟩ := h
  exact ⟨hG _ h1.lt h0, A, c, h1, h2, fun k hk => hG k (h2.lt hk) (h3 k hk), h4⟩
/-- An end. -/
def endO (hu g mark sent : Nat) (ts : List ByteArray) (hp : 0 < hu) : Thg where
  hu := hu
  ok := fun c w => EndF (fun k => c k = hu) w g mark sent ts
  pos := hp
  turns := fun h hT hG => h.turns hT fun k hk e => hG k e hk
  re := fun h hc => h.re' fun k hk e => (hc k hk).trans e
/-- A net: its own colours (NetC) lie all in one. -/
def netO (hu g last : Nat) (l : List (Int × Msg)) (hp : 0 < hu) : Thg where
  hu := hu
  ok := fun c w => ∃ cn : Nat → Nat, (∀ k, k < w.heap.size → cn k ≠ 0 → c k = hu) ∧ NetC cn w g last l
  pos := hp
  turns := fun {c w w' G} h hT hG => by
    obtain ⟨cn, h1, h2⟩ := h
    refine ⟨col cn w.heap.size 0, fun k hk hne => ?_, (h2.re (col_lt cn _ 0)).turns hT.cut fun k hk => ?_⟩
    · rcases Nat.lt_or_ge k w.heap.size with hlt | hge
      · rw [col_lt _ _ _ k hlt] at hne
        exact h1 k hlt hne
      · rw [col_ge _ _ _ hge] at hne
        exact absurd rfl hne
    · rw [col_lt _ _ _ k hk.2]
      exact Classical.byContradiction fun hne => hG k hk.1 (h1 k hk.2 hne)
  re := fun {c c' w} h hc => by
    obtain ⟨cn, h1, h2⟩ := h
    exact ⟨cn, fun k hk hne => (hc k hk).trans (h1 k hk hne), h2⟩
section
variable {w0 w w' : World} {A B : List Thg} {hu g last : Nat} {l : List (Int × Msg)} {hp : 0 < hu}
/-- A call on the net. -/
theorem Mem.net (h : Mem w0 w (A ++ netO hu g last l hp :: B)) (hd : ∀ x ∈ A ++ B, x.hu ≠ hu) : ∃ cn, NetC cn w g last l ∧ ∀ (last' : Nat) (l' : List (Int × Msg)) (w' : World), LeftN cn w g last' l' w' → Mem w0 w' (A ++ netO hu g last' l' hp :: B) := by
  obtain ⟨c, ⟨cn, h1, h2⟩, back⟩ := h.call hd
  refine ⟨cn, h2, fun last' l' w' ⟨c2, e1, e2, hT⟩ => back (netO hu g last' l' hp) w' ⟨col c w.heap.size hu, col_lt _ _ _, ⟨c2, fun k hk hne => ?_, e2⟩, ?_⟩⟩
  · rcases Nat.lt_or_ge k w.heap.size with hlt | hge
    · rw [col_lt _ _ _ k hlt]
      rw [e1 k hlt] at hne
      exact h1 k hlt hne
    · exact col_ge _ _ _ hge
  · exact hT.mono fun k hk e => h1 k hk e
variable {mark sent : Nat} {ts : List ByteArray}
/-- A call on an end. -/
theorem Mem.end_ (h : Mem w0 w (A ++ endO hu g mark sent ts hp :: B)) (hd : ∀ x ∈ A ++ B, x.hu ≠ hu) : ∃ F, EndF F w g mark sent ts ∧ ∀ (mark' sent' : Nat) (ts' : List ByteArray) (w' : World), EndF (Ext F w.heap.size) w' g mark' sent' ts' → Turns F w w' → Mem w0 w' (A ++ endO hu g mark' sent' ts' hp :: B) := by
  obtain ⟨c, h1, back⟩ := h.call hd
  refine ⟨fun k => c k = hu, h1, fun mark' sent' ts' w' hE hT => back (endO hu g mark' sent' ts' hp) w' ⟨col c w.heap.size hu, col_lt _ _ _, EndF.re' (G := fun k => col c w.heap.size hu k = hu) hE fun k hk e => ?_, hT⟩⟩
  rcases Nat.lt_or_ge k w.heap.size with hlt | hge
  · show col c w.heap.size hu k = hu
    rw [col_lt _ _ _ k hlt]
    exact e.elim id fun e => absurd e (by omega)
  · exact col_ge _ _ _ hge
end
def letR (k to a : Int) (body : ByteArray) : Let := ⟨k, 0, to, a, 0, 0, 0, ⟨#[]⟩, ⟨#[]⟩, 0, false, body⟩
theorem packErr_R (k to a : Int) (body : ByteArray) (hk : 0 ≤ k ∧ k ≤ 2) (ht : 0 ≤ to ∧ to ≤ 1) (ha : 0 ≤ a ∧ a ≤ 1099511627776) (hb : body.size ≤ 100) : packErr (letR k to a body) [] [] = 0 := by
  have h0 : okN 0 = true := by decide
  have hi : okN a = true := by simpa [okN] using ha
  have hto : okN to = true := by simp only [okN, decide_eq_true_eq]; omega
  have hkd : decide (0 ≤ k ∧ k ≤ 255) = true := by rw [decide_eq_true_eq]; omega
  have hg : goodL (letR k to a body) [] = true := by
    have e : goodL (letR k to a body) [] = ((decide (0 ≤ k ∧ k ≤ 255) && decide (0 ≤ (0 : Int) ∧ (0 : Int) ≤ 1099511627776)) && (okN 0 && (okN to && (okN a && (okN 0 && (okN 0 && (okN 0 && true)))))) && true) := rfl
    rw [e, hkd, h0, hto, hi]
    rfl
  have hbk : bulkL (letR k to a body) [] [] ≤ 65536 := by
    show bulkT (letR k to a body) ≤ 65536
    unfold bulkT addB letR
    simp only
    have : (⟨#[]⟩ : ByteArray).size = 0 := rfl
    repeat' split
    all_goals omega
  have hl : (packedB (letR k to a body) [] []).length ≤ 300 := by
    have n0 := num_le6 0 (by omega)
    have n1 := num_le6 a.toNat (by omega)
    have n2 := num_le6 k.toNat (by omega)
    have n3 := num_le6 to.toNat (by omega)
    have t0 : (Pack.text ⟨#[]⟩).length ≤ 6 := by
      have := num_le6 0 (by omega)
      simp only [Pack.text, List.length_append]
      exact this
    have t1 : (Pack.text body).length ≤ 106 := by
      have := num_le6 body.size (by omega)
      have e : body.data.toList.length = body.size := by rw [Array.length_toList]; rfl
      simp only [Pack.text, List.length_append, e]
      omega
    simp only [packedB, numsB, textsB, pairsB, intentsB, Let.nums, Let.texts, letR, bitN, List.map_cons, List.map_nil, List.flatten_cons, List.flatten_nil, List.length_append, List.length_nil, Int.toNat_zero]
    simp only [Bool.false_eq_true, if_false]
    omega
  rw [packErr, if_neg (by rw [hg]; simp), if_neg (by simp only [List.length_nil]; omega), if_neg (by omega)]
/-- A letter of the road's. -/
structure IsR (m : Msg) : Prop where
  form : ∃ (k to a : Nat) (body : ByteArray), m.L = letR k to a body ∧ (k = 1 ∨ k = 2) ∧ to ≤ 1 ∧ a ≤ 1099511627776
  ps : m.ps = []
  is : m.is = []
/-- The plain letter that one is. -/
def ltOf (m : Msg) : Roads.Lt ByteArray := if m.L.kind = 2 then .ack (decide (m.L.to = 1)) m.L.a.toNat else .body (decide (m.L.to = 1)) m.L.a.toNat m.L.body
def bI (b : Bool) : Nat := if b then 1 else 0
end Go.Proofs.Ythicbfopjakiiaa.E
