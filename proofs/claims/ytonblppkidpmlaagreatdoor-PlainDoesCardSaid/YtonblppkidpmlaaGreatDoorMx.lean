import Derived.Test.YtonblppkidpmlaaGreatDoorMs
namespace Go.Proofs.YtonblppkidpmlaaGreatDoor.E
open Go Go.RowKit
set_option linter.unusedSimpArgs false
set_option linter.unusedVariables false

/-- A record of n values that may be written. -/
def Wr (w : World) (v : Value) (n : Nat) : Prop := (v = .slice none 0 0 ∧ n = 0) ∨ ∃ g c cur, v = .slice (some ⟨g, 0, none⟩) n c ∧ Blk w g 67 cur ∧ n * 3 ≤ cur.size ∧ n ≤ maxLen
theorem Wr.slice {w : World} {v : Value} {n : Nat} (h : Wr w v n) : ∃ A c, v = .slice A n c ∧ n ≤ maxLen := by
  rcases h with ⟨rfl, rfl⟩ | ⟨g, c, cur, rfl, _, _, h⟩
  · exact ⟨none, 0, rfl, Nat.zero_le _⟩
  · exact ⟨_, c, rfl, h⟩
theorem Wr.turns {F : Nat → Prop} {w w' : World} {v : Value} {n : Nat} (h : Wr w v n) (hT : Turns F w w') (hF : ∀ k, v.ownBlock = some k → ¬ F k) : Wr w' v n := by
  rcases h with h | ⟨g, c, cur, rfl, hB, h⟩
  · exact .inl h
  · exact .inr ⟨g, c, cur, rfl, hB.turns hT (hF g rfl), h⟩
theorem Wr.lt {w : World} {v : Value} {n : Nat} (h : Wr w v n) {k : Nat} (hk : v.ownBlock = some k) : k < w.heap.size := by
  rcases h with ⟨rfl, _⟩ | ⟨g, c, cur, rfl, hB, _⟩
  · cases hk
  · have : g = k := by simpa [Value.ownBlock] using hk
    rw [← this]; exact hB.lt
theorem OwnL.wr {w0 w : World} {v : Value} {l : List ValT} (h : OwnV w0 w v l) : Wr w v l.length := by
  have h1 := (OwnR.of_own h.own).2
  rcases h1 with ⟨e, h0⟩ | ⟨g, c, cur, e, hB, h2, h3, h4, _⟩
  · exact .inl ⟨e, h0⟩
  · exact .inr ⟨g, c, cur, e, hB, h4, Nat.le_trans h2 h3⟩
/-- A record that may be written. -/
def wrO (v : Value) (n : Nat) : Ob9 where
  hu := 6
  ok := fun c w => InC c 6 v ∧ Wr w v n
  pos := by omega
  turns := fun h hT hG => ⟨h.1, h.2.turns hT fun k hk e => (hG k e).1 (h.1 k hk)⟩
  re := fun h hc => ⟨h.1.re (fun b hb => h.2.lt hb) hc, h.2⟩
/-- Rows whose records may be written. -/
def spO (v : Value) (M : List Mm) : Ob9 where
  hu := 7
  ok := fun c w => OwnR 2 40 w v M.length (M.flatMap mmF) ∧ InC c 7 v ∧ ∀ m ∈ M, InC c 7 m.2.1 ∧ Wr w m.2.1 m.2.2.length
  pos := by omega
  turns := fun h hT hG => ⟨h.1.turns' hT fun k hk e => (hG k e).1 (h.2.1 k hk), h.2.1, fun m hm => ⟨(h.2.2 m hm).1, (h.2.2 m hm).2.turns hT fun k hk e => (hG k e).1 ((h.2.2 m hm).1 k hk)⟩⟩
  re := fun h hc => ⟨h.1, h.2.1.re (fun b hb => h.1.lt' hb) hc, fun m hm => ⟨(h.2.2 m hm).1.re (fun b hb => (h.2.2 m hm).2.lt hb) hc, (h.2.2 m hm).2⟩⟩
theorem MemX.wr {w0 w w' : World} {L : List Ob9} {v : Value} {l : List ValT} (h : MemX w0 w L) (hv : OwnV w w' v l) : MemX w0 w' (wrO v l.length :: L) := by
  obtain ⟨c, h1, h2⟩ := h.make
  refine h2 [wrO v l.length] w' ⟨col c w.heap.size 6, col_lt _ _ _, fun x hx => ?_, hv.bel⟩
  simp only [List.mem_cons, List.not_mem_nil, or_false] at hx
  subst hx
  exact ⟨InC.fresh hv.fresh, hv.wr⟩
theorem MemX.sp {w0 w w' : World} {L : List Ob9} {v : Value} {M : List Mm} (h : MemX w0 w L) (hR : OwnRw w w' v M) : MemX w0 w' (spO v M :: L) := by
  obtain ⟨c, h1, h2⟩ := h.make
  refine h2 [spO v M] w' ⟨col c w.heap.size 7, col_lt _ _ _, fun x hx => ?_, hR.row.bel⟩
  simp only [List.mem_cons, List.not_mem_nil, or_false] at hx
  subst hx
  exact ⟨OwnR.of_own hR.row.own, InC.fresh hR.row.fresh, fun m hm => ⟨InC.fresh (hR.ms m hm).1.fresh, (hR.ms m hm).1.wr⟩⟩
end Go.Proofs.YtonblppkidpmlaaGreatDoor.E
namespace Go.Proofs.YtonblppkidpmlaaGreatDoor.E
open Go Go.RowKit
set_option linter.unusedSimpArgs false
set_option linter.unusedVariables false

/-- Rows of a store, beside what else there is. -/
theorem rows_mem {w0 w : World} {L : List Ob9} {hu : Nat} {hp : 0 < hu ∧ hu < 999} {g n : Nat} {S : StT} (h : MemX w0 w L) (hm : plO hu g S hp ∈ L) (hok : StOk n S) (hn : n ≤ 100000) :
    CallP Tryz.prog 20 #[.pointer (some ⟨g, 0, none⟩)] (fun r w' => ∃ M, M.map mkr = S.R ∧ OwnRw w w' r M) w := by
  obtain ⟨c, _, h2⟩ := h.look
  obtain ⟨b, vX, M, X, h1, hp1, _, _⟩ : PlS hu c w g S := h2 _ hm
  have := hok.many
  exact Rows20 h1 hp1 hok.rising (by omega) hok.recl
theorem ixs_mem {w0 w : World} {L : List Ob9} {hu : Nat} {hp : 0 < hu ∧ hu < 999} {g n : Nat} {S : StT} (h : MemX w0 w L) (hm : plO hu g S hp ∈ L) (hok : StOk n S) :
    CallP Tryz.prog 21 #[.pointer (some ⟨g, 0, none⟩)] (fun r w' => ∃ X, X.map xmP = idxV 0 S.X ∧ OwnXs w w' r X) w := by
  obtain ⟨c, _, h2⟩ := h.look
  exact Indexes21 (hu := hu) (c := c) (h2 _ hm) hok
end Go.Proofs.YtonblppkidpmlaaGreatDoor.E
