import Derived.Test.YthicbfopjakiiaaMm
import Derived.Test.YthicbfopjakiiaaMj
namespace Go.Proofs.Ythicbfopjakiiaa.E
open Go Go.RowKit
set_option linter.unusedSimpArgs false
set_option linter.unusedVariables false

abbrev ActT := Int × LetterT × Int × Unit
abbrev rAct : Rdr ActT := rCons 1 (rI .i64) (rCons 14 rLetter (rCons 1 (rI .i64) rNil))
abbrev ActsN : Rdr (List ActT) := rRow 16 rAct
theorem keeps_Letter : Keeps rLetter := keeps_Cons (keeps_I _) (keeps_Cons (keeps_I _) (keeps_Cons (keeps_I _) (keeps_Cons (keeps_I _) (keeps_Cons (keeps_I _) (keeps_Cons (keeps_I _) (keeps_Cons (keeps_I _)
  (keeps_Cons keeps_S (keeps_Cons keeps_S (keeps_Cons keeps_Pairs (keeps_Cons keeps_Intents (keeps_Cons (keeps_I _) (keeps_Cons keeps_Bool (keeps_Cons keeps_S keeps_Nil)))))))))))))
theorem keeps_ActsN : Keeps ActsN := keeps_Row (keeps_Cons (keeps_I _) (keeps_Cons keeps_Letter (keeps_Cons (keeps_I _) keeps_Nil)))
theorem und70 : Try.prog.underlying 70 = some (.slice 76) := by kernel_rfl
theorem sz76 : (Try.prog.info? 76).map (·.size) = some 16 := by kernel_rfl
theorem a0' : fofs Try.prog 76 0 = some (0, 1) := by kernel_rfl
theorem a1' : fofs Try.prog 76 1 = some (1, 14) := by kernel_rfl
theorem a2' : fofs Try.prog 76 2 = some (15, 1) := by kernel_rfl
theorem opens_ActsN : Opens Try.prog 70 ActsN := opens_row und70 (by kernel_rfl) (opens_struct Try.underlying76 (by kernel_rfl)
  (opensF_cons rfl (by kernel_rfl) (by decide) (opens_int und3) (opensF_cons rfl (by kernel_rfl) (by decide) opens_Letter (opensF_cons rfl (by kernel_rfl) (by decide) (opens_int und3) opensF_nil))))
end Go.Proofs.Ythicbfopjakiiaa.E
namespace Go.Proofs.Ythicbfopjakiiaa.E
open Go Go.RowKit
set_option linter.unusedSimpArgs false
set_option linter.unusedVariables false

/-- An object: its colour, what is so in memory; that it stands while no block of its colour is turned. -/
structure Thg where
  hu : Nat
  ok : (Nat → Nat) → World → Prop
  pos : 0 < hu
  turns : ∀ {c : Nat → Nat} {w w' : World} {G : Nat → Prop}, ok c w → Turns G w w' → (∀ k, G k → c k ≠ hu) → ok c w'
  re : ∀ {c c' : Nat → Nat} {w : World}, ok c w → (∀ k, k < w.heap.size → c' k = c k) → ok c' w
/-- Objects, and that what was there at w0 stands. -/
def Mem (w0 w : World) (L : List Thg) : Prop := ∃ c : Nat → Nat, (∀ k, k < w0.heap.size → c k = 0) ∧ (∀ o ∈ L, o.ok c w) ∧ Below w0.heap.size w0 w
section
variable {w0 w w' : World} {L A B : List Thg} {o : Thg}
theorem Thg.below {c : Nat → Nat} (h : o.ok c w) (hb : Below w.heap.size w w') : o.ok c w' := o.turns (G := fun _ => False) h (Turns.of_below hb) fun _ h => h.elim
theorem Mem.bel (h : Mem w0 w L) : Below w0.heap.size w0 w := by obtain ⟨_, _, _, h⟩ := h; exact h
theorem Mem.below (h : Mem w0 w L) (hb : Below w.heap.size w w') : Mem w0 w' L := by
  obtain ⟨c, h1, h2, h3⟩ := h
  exact ⟨c, h1, fun o ho => Thg.below (h2 o ho) hb, h3.trans (hb.mono h3.size)⟩
theorem Mem.nil (w : World) : Mem w w [] := ⟨fun _ => 0, fun _ _ => rfl, by simp, Below.refl _ _⟩
theorem Mem.sub (h : Mem w0 w L) (hs : ∀ x ∈ A, x ∈ L) : Mem w0 w A := by
  obtain ⟨c, h1, h2, h3⟩ := h
  exact ⟨c, h1, fun o ho => h2 o (hs o ho), h3⟩
/-- A call on one of them. -/
theorem Mem.call (h : Mem w0 w (A ++ o :: B)) (hd : ∀ x ∈ A ++ B, x.hu ≠ o.hu) : ∃ c, o.ok c w ∧ ∀ (o' : Thg) (w' : World), (∃ c' : Nat → Nat, (∀ k, k < w.heap.size → c' k = c k) ∧ o'.ok c' w' ∧ Turns (fun k => c k = o.hu) w w') → Mem w0 w' (A ++ o' :: B) := by
  obtain ⟨c, h1, h2, h3⟩ := h
  have ho := h2 o (by simp)
  have hp := o.pos
  refine ⟨c, ho, fun o' w' ⟨c', hc, hS, hT⟩ => ⟨c', fun k hk => (hc k (Nat.lt_of_lt_of_le hk h3.size)).trans (h1 k hk), fun x hx => ?_, h3.trans (hT.below h3.size fun k hk e => ?_)⟩⟩
  · have keep : x ∈ A ++ B → x.ok c' w' := fun hx => by
      refine x.turns (x.re (h2 x ?_) hc) hT.cut fun k hk => ?_
      · rcases List.mem_append.1 hx with h | h
        · simp [h]
        · simp [h]
      · rw [hc k hk.2, show c k = o.hu from hk.1]
        exact fun e => hd x hx e.symm
    rcases List.mem_append.1 hx with h | h
    · exact keep (List.mem_append.2 (.inl h))
    · rcases List.mem_cons.1 h with rfl | h
      · exact hS
      · exact keep (List.mem_append.2 (.inr h))
  · rw [h1 k hk] at e
    omega
/-- What one of them is. -/
theorem Mem.look (h : Mem w0 w L) (hm : o ∈ L) : ∃ c, o.ok c w := by
  obtain ⟨c, _, h2, _⟩ := h
  exact ⟨c, h2 o hm⟩
/-- An object is made. -/
theorem Mem.make (h : Mem w0 w L) : ∃ c : Nat → Nat, ∀ (o : Thg) w', (∃ c' : Nat → Nat, (∀ k, k < w.heap.size → c' k = c k) ∧ o.ok c' w' ∧ Below w.heap.size w w') → Mem w0 w' (L ++ [o]) := by
  obtain ⟨c, h1, h2, h3⟩ := h
  refine ⟨c, fun o w' ⟨c', hc, hS, hb⟩ => ⟨c', fun k hk => (hc k (Nat.lt_of_lt_of_le hk h3.size)).trans (h1 k hk), fun x hx => ?_, h3.trans (hb.mono h3.size)⟩⟩
  rcases List.mem_append.1 hx with h | h
  · exact Thg.below (x.re (h2 x h) hc) hb
  · simp only [List.mem_cons, List.not_mem_nil, or_false] at h
    rw [h]; exact hS
end
/-- A block known whole. -/
def blkO (hu g : Nat) (t : TypeId) (cs : Array Value) (hp : 0 < hu) : Thg where
  hu := hu
  ok := fun c w => c g = hu ∧ Blk w g t cs
  pos := hp
  turns := fun h hT hG => ⟨h.1, h.2.turns hT fun e => hG _ e h.1⟩
  re := fun h hc => ⟨(hc _ h.2.lt).trans h.1, h.2⟩
end Go.Proofs.Ythicbfopjakiiaa.E
