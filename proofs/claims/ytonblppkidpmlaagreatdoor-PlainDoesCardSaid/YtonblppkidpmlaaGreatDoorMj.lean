import Derived.Test.YtonblppkidpmlaaGreatDoorM4
import Derived.Test.YtonblppkidpmlaaGreatDoorMi
import Derived.Shelf.SlSortCmp.NoneTotal
import Derived.Test.YtonblppkidpmlaaGreatDoorProg
namespace Go.Proofs.YtonblppkidpmlaaGreatDoor.E
open Go Go.RowKit

def T.getK {α : Type} (k : List UInt8) : List (List UInt8 × α) → Option α
  | [] => none
  | (a, v) :: r => if k = a then some v else getK k r
def T.setK {α : Type} (k : List UInt8) (v : α) : List (List UInt8 × α) → List (List UInt8 × α)
  | [] => [(k, v)]
  | (a, u) :: r => if k = a then (k, v) :: r else (a, u) :: setK k v r
def T.delK {α : Type} (k : List UInt8) : List (List UInt8 × α) → List (List UInt8 × α)
  | [] => []
  | (a, u) :: r => if k = a then r else (a, u) :: delK k r
def T.idxK {α : Type} (k : List UInt8) : List (List UInt8 × α) → Option (Nat × α)
  | [] => none
  | (a, v) :: r => if k = a then some (0, v) else (idxK k r).map fun p => (p.1 + 1, p.2)
theorem T.getK_idx {α : Type} (k : List UInt8) : ∀ l : List (List UInt8 × α), getK k l = (idxK k l).map (·.2)
  | [] => rfl
  | (a, v) :: r => by
    rw [getK, idxK]
    split
    · rfl
    · rw [getK_idx k r, Option.map_map]; rfl
/-- A map in memory: its entries, in the order of their birth. -/
def T.MapI (w : World) (b : Nat) (l : List (List UInt8 × Value)) : Prop := ∃ es clock, w.heap[b]? = some (.map es clock) ∧ es.toList.map (fun e => (e.key, e.val)) = (l.map fun p => (tS p.1, p.2)) ∧
  MapKept.Stamped es clock ∧ es.size ≤ maxLen ∧ ∀ p ∈ l, p.1.length ≤ 1000000
section
variable {w w' : World} {b : Nat} {l : List (List UInt8 × Value)}
theorem T.MapI.lt (h : MapI w b l) : b < w.heap.size := by
  obtain ⟨es, c, h1, _⟩ := h
  exact (Array.getElem?_eq_some_iff.1 h1).1
theorem T.MapI.turns {F : Nat → Prop} (h : MapI w b l) (hT : Turns F w w') (hF : ¬ F b) : MapI w' b l := by
  have hlt := h.lt
  obtain ⟨es, c, h1, h2, h3⟩ := h
  exact ⟨es, c, (hT.block b hlt hF).trans h1, h2, h3⟩
theorem T.MapI.below (h : MapI w b l) (hb : Below w.heap.size w w') : MapI w' b l := h.turns (F := fun _ => False) (Turns.of_below hb) (fun h => h)
theorem T.findNow_int (k : List UInt8) : ∀ (es : List MapEntry) (l : List (List UInt8 × Value)) (i : Nat), es.map (fun e => (e.key, e.val)) = l.map (fun p => (tS p.1, p.2)) →
    Instr.findNow .string (tS k) es i = some ((idxK k l).map fun p => (i + p.1, p.2)) := by
  intro es
  induction es with
  | nil => intro l i h; cases l with
    | nil => rfl
    | cons p r => simp at h
  | cons e es ih =>
    intro l i h
    cases l with
    | nil => simp at h
    | cons p r =>
      obtain ⟨a, v⟩ := p
      simp only [List.map_cons, List.cons.injEq, Prod.mk.injEq] at h
      obtain ⟨⟨h1, h2⟩, h3⟩ := h
      rw [Instr.findNow, h1, idxK]
      by_cases hk : k = a
      · subst hk
        have hs : Instr.sameNow .string (tS k) (tS k) = some true := by
          simp only [Instr.sameNow, tS, Option.some.injEq]
          show (k.toArray == k.toArray) = true
          simp
        rw [hs, h2]
        simp
      · have hs : Instr.sameNow .string (tS k) (tS a) = some false := by
          simp only [Instr.sameNow, tS, Option.some.injEq]
          show (k.toArray == a.toArray) = false
          simpa using hk
        simp only [hs, if_neg hk]
        rw [ih r (i + 1) h3, Option.map_map]
        congr 2
        funext p
        simp only [Function.comp]
        congr 1
        omega
end
section
variable {P : Program} {K : Value → World → Prop} {w : World} {b : Nat} {l : List (List UInt8 × Value)}
theorem T.run_find (hk : P.underlying 9 = some .string) {es : Array MapEntry} {k : List UInt8} (h : es.toList.map (fun e => (e.key, e.val)) = l.map fun p => (tS p.1, p.2)) :
    (Instr.findKey 9 (tS k) es.toList).run P w = .ok (idxK k l) w := by
  rw [MapKept.run_findKey hk (findNow_int k _ _ 0 h)]
  congr 1
  cases idxK k l with
  | none => rfl
  | some p => simp
theorem T.run_chk (hk : P.underlying 9 = some .string) (e : Bool) (k : List UInt8) : (Instr.checkKey e 10000 9 (tS k)).run P w = .ok () w := MapKept.run_checkKey (d := .string) hk (show MapKept.IsKey .string (tS k) from trivial) e 9999
end
theorem T.entries_set (k : List UInt8) (v : Value) : ∀ (es : List MapEntry) (l : List (List UInt8 × Value)) (i : Nat) (u : Value), es.map (fun e => (e.key, e.val)) = l.map (fun p => (tS p.1, p.2)) → idxK k l = some (i, u) →
    (es.modify i fun e => { e with key := tS k, val := v }).map (fun e => (e.key, e.val)) = (setK k v l).map fun p => (tS p.1, p.2) := by
  intro es
  induction es with
  | nil => intro l i u h hx; cases l with
    | nil => simp [idxK] at hx
    | cons p r => simp at h
  | cons e es ih =>
    intro l i u h hx
    cases l with
    | nil => simp at h
    | cons p r =>
      obtain ⟨a, y⟩ := p
      simp only [List.map_cons, List.cons.injEq] at h
      obtain ⟨h1, h3⟩ := h
      rw [idxK] at hx
      rw [setK]
      split at hx
      · rename_i hk
        rw [if_pos hk]
        cases hx
        simp [h3]
      · rename_i hk
        rw [if_neg hk]
        cases hr : idxK k r with
        | none => rw [hr] at hx; simp at hx
        | some q =>
          rw [hr] at hx
          obtain ⟨j, y'⟩ := q
          simp at hx
          obtain ⟨rfl, rfl⟩ := hx
          simp only [List.modify_succ_cons, List.map_cons, h1]
          rw [ih r j y' h3 hr]
theorem T.setK_none {α : Type} (k : List UInt8) (v : α) : ∀ l : List (List UInt8 × α), idxK k l = none → setK k v l = l ++ [(k, v)]
  | [], _ => rfl
  | (a, u) :: r, h => by
    rw [idxK] at h
    rw [setK]
    split at h
    · cases h
    · rename_i hk
      rw [if_neg hk, setK_none k v r (by simpa using h)]; rfl
theorem T.entries_del (k : List UInt8) : ∀ (es : List MapEntry) (l : List (List UInt8 × Value)) (i : Nat) (u : Value), es.map (fun e => (e.key, e.val)) = l.map (fun p => (tS p.1, p.2)) → idxK k l = some (i, u) →
    (es.eraseIdx i).map (fun e => (e.key, e.val)) = (delK k l).map fun p => (tS p.1, p.2) := by
  intro es
  induction es with
  | nil => intro l i u h hx; cases l with
    | nil => simp [idxK] at hx
    | cons p r => simp at h
  | cons e es ih =>
    intro l i u h hx
    cases l with
    | nil => simp at h
    | cons p r =>
      obtain ⟨a, y⟩ := p
      simp only [List.map_cons, List.cons.injEq] at h
      obtain ⟨h1, h3⟩ := h
      rw [idxK] at hx
      rw [delK]
      split at hx
      · rename_i hk
        rw [if_pos hk]
        cases hx
        simpa using h3
      · rename_i hk
        rw [if_neg hk]
        cases hr : idxK k r with
        | none => rw [hr] at hx; simp at hx
        | some q =>
          rw [hr] at hx
          obtain ⟨j, y'⟩ := q
          simp at hx
          obtain ⟨rfl, rfl⟩ := hx
          simp only [List.eraseIdx_cons_succ, List.map_cons, h1]
          rw [ih r j y' h3 hr]
theorem T.delK_none {α : Type} (k : List UInt8) : ∀ l : List (List UInt8 × α), idxK k l = none → delK k l = l
  | [], _ => rfl
  | (a, u) :: r, h => by
    rw [idxK] at h
    rw [delK]
    split at h
    · cases h
    · rename_i hk
      rw [if_neg hk, delK_none k r (by simpa using h)]
theorem T.idxK_none_mem {α : Type} (k : List UInt8) : ∀ l : List (List UInt8 × α), idxK k l = none → ∀ p ∈ l, p.1 ≠ k
  | [], _, p, hp => by simp at hp
  | (a, u) :: r, h, p, hp => by
    rw [idxK] at h
    split at h
    · cases h
    · rename_i hk
      rcases List.mem_cons.1 hp with rfl | hp
      · exact fun e => hk e.symm
      · exact idxK_none_mem k r (by simpa using h) p hp
theorem T.setK_sub {α : Type} (k : List UInt8) (v : α) : ∀ (l : List (List UInt8 × α)) (p : List UInt8 × α), p ∈ setK k v l → p ∈ l ∨ p.1 = k
  | [], p, h => by
    simp only [setK, List.mem_cons, List.not_mem_nil, or_false] at h
    rw [h]; exact .inr rfl
  | (a, u) :: r, p, h => by
    rw [setK] at h
    split at h
    · rcases List.mem_cons.1 h with h | h
      · rw [h]; exact .inr rfl
      · exact .inl (List.mem_cons_of_mem _ h)
    · rcases List.mem_cons.1 h with h | h
      · rw [h]; exact .inl (by simp)
      · exact (setK_sub k v r p h).imp (List.mem_cons_of_mem _) id
theorem T.delK_sub {α : Type} (k : List UInt8) : ∀ (l : List (List UInt8 × α)) (x : List UInt8 × α), x ∈ delK k l → x ∈ l
  | [], x, h => by simp [delK] at h
  | (a, u) :: r, x, h => by
    rw [delK] at h
    split at h
    · exact List.mem_cons_of_mem _ h
    · rcases List.mem_cons.1 h with h | h
      · rw [h]; simp
      · exact List.mem_cons_of_mem _ (delK_sub k r x h)
section
variable {P : Program} {K : Value → World → Prop} {w : World} {b : Nat} {l : List (List UInt8 × Value)}
/-- m[k] = v -/
theorem T.mup {t e : TypeId} (ht : P.underlying t = some (.map 9 e)) (hk : P.underlying 9 = some .string) (h : MapI w b l) {k : List UInt8} {v : Value} (hwf : k.length ≤ 1000000) (hroom : l.length < maxLen)
    (kk : ∀ w', MapI w' b (setK k v l) → Turns (fun j => j = b) w w' → K undef w') : LiftU P (Instr.mapUpdate t (.map (some b)) (tS k) v) K w := by
  obtain ⟨es, c, h1, h2, hst, hsz, hkw⟩ := h
  have hel : es.size = l.length := by have := congrArg List.length h2; simpa using this
  have hkey : MapKept.IsKey .string (tS k) := trivial
  cases hx : idxK k l with
  | none =>
    have hs := set_world_eq (w := w) (.map (es.push { key := tS k, val := v, born := c }) (c + 1)) h1
    refine liftU (u := ()) (w' := { w with heap := w.heap.setIfInBounds b (.map (es.push { key := tS k, val := v, born := c }) (c + 1)) }) ?_ (kk _ ⟨_, _, hs.2, ?_, MapKept.stamped_push hst ?_, by simp; omega, fun p hp => ?_⟩ hs.1)
    · simp [Instr.mapUpdate, run_underlying ht, MapKept.run_getObj_map h1, run_chk hk, run_find hk h2, hx, MapKept.run_setObj_map _ h1]
    · rw [setK_none _ _ _ hx]
      simp [h2]
    · intro x hx' he
      have hm : (x.key, x.val) ∈ es.toList.map (fun e => (e.key, e.val)) := List.mem_map.2 ⟨x, hx', rfl⟩
      rw [h2] at hm
      obtain ⟨p, hp, hpe⟩ := List.mem_map.1 hm
      have : p.1 = k := by
        have := congrArg Prod.fst hpe
        simp only [he] at this
        exact tS_inj this
      exact idxK_none_mem k l hx p hp this
    · rcases setK_sub k v l p hp with h | h
      · exact hkw p h
      · rw [h]; exact hwf
  | some p =>
    obtain ⟨i, u⟩ := p
    have hget : ∀ e, es[i]? = some e → e.key = tS k := by
      intro e he
      have : ∀ (es : List MapEntry) (l : List (List UInt8 × Value)) (i : Nat) (u : Value) (e : MapEntry), es.map (fun e => (e.key, e.val)) = l.map (fun p => (tS p.1, p.2)) → idxK k l = some (i, u) → es[i]? = some e → e.key = tS k := by
        intro es
        induction es with
        | nil => intro l i u e h hx he; simp at he
        | cons e0 es ih =>
          intro l i u e h hx he
          cases l with
          | nil => simp at h
          | cons p r =>
            obtain ⟨a, y⟩ := p
            simp only [List.map_cons, List.cons.injEq, Prod.mk.injEq] at h
            obtain ⟨⟨h1, _⟩, h3⟩ := h
            rw [idxK] at hx
            split at hx
            · rename_i hk
              cases hx
              simp at he
              rw [← he, h1, hk]
            · cases hr : idxK k r with
              | none => rw [hr] at hx; simp at hx
              | some q =>
                rw [hr] at hx
                obtain ⟨j, y'⟩ := q
                simp at hx
                obtain ⟨rfl, rfl⟩ := hx
                exact ih r j y' e h3 hr (by simpa using he)
      exact this es.toList l i u e h2 hx (by simpa using he)
    have hkk : ((es[i]?).map (·.key)).getD (tS k) = tS k := by
      cases he : es[i]? with
      | none => rfl
      | some e => simp [hget e he]
    have hs := set_world_eq (w := w) (.map (es.modify i fun e => { e with key := tS k, val := v }) c) h1
    refine liftU (u := ()) (w' := { w with heap := w.heap.setIfInBounds b (.map (es.modify i fun e => { e with key := tS k, val := v }) c) }) ?_ (kk _ ⟨_, _, hs.2, ?_, MapKept.stamped_modify hst i _ (fun _ _ => rfl) (fun e _ he => (hget e he).symm), by simpa using hsz, fun p hp => ?_⟩ hs.1)
    · simp [Instr.mapUpdate, run_underlying ht, MapKept.run_getObj_map h1, run_chk hk, run_find hk h2, hx, MapKept.run_setObj_map _ h1, hkk, MapKept.run_keyThatStays hkey]
    · rw [Array.toList_modify]
      exact entries_set k v _ _ i u h2 hx
    · rcases setK_sub k v l p hp with h | h
      · exact hkw p h
      · rw [h]; exact hwf
/-- delete(m, k) -/
theorem T.dlt {t ty e : TypeId} (ht : P.underlying t = some (.map 9 e)) (hk : P.underlying 9 = some .string) {t2 : TypeId} {cs : Array Bool} (h : MapI w b l) {k : List UInt8}
    (kk : ∀ w', MapI w' b (delK k l) → Turns (fun j => j = b) w w' → K (.tuple #[]) w') : NextP P (builtin .delete #[t, t2] ty cs #[.map (some b), tS k]) K w := by
  obtain ⟨es, c, h1, h2, hst, hsz, hkw⟩ := h
  have hel : es.size = l.length := by have := congrArg List.length h2; simpa using this
  cases hx : idxK k l with
  | none =>
    have hs := set_world_eq (w := w) (.map es c) h1
    refine nextV (v := .tuple #[]) (w' := { w with heap := w.heap.setIfInBounds b (.map es c) }) ?_ (kk _ ⟨_, _, hs.2, by rw [delK_none _ _ hx]; exact h2, hst, hsz, by rw [delK_none _ _ hx]; exact hkw⟩ hs.1)
    simp [builtin, Builtin.delete_, run_underlying ht, MapKept.run_getObj_map h1, run_chk hk, run_find hk h2, hx, MapKept.run_setObj_map _ h1]
  | some p =>
    obtain ⟨i, u⟩ := p
    have hs := set_world_eq (w := w) (.map (es.eraseIdxIfInBounds i) c) h1
    refine nextV (v := .tuple #[]) (w' := { w with heap := w.heap.setIfInBounds b (.map (es.eraseIdxIfInBounds i) c) }) ?_ (kk _ ⟨_, _, hs.2, ?_, MapKept.stamped_erase hst i, Nat.le_trans (MapFrom.size_erase es i) hsz, fun p hp => hkw p (delK_sub k l p hp)⟩ hs.1)
    · simp [builtin, Builtin.delete_, run_underlying ht, MapKept.run_getObj_map h1, run_chk hk, run_find hk h2, hx, MapKept.run_setObj_map _ h1]
    · have : (es.eraseIdxIfInBounds i).toList = es.toList.eraseIdx i := by
        unfold Array.eraseIdxIfInBounds
        split
        · simp
        · rename_i hn
          rw [List.eraseIdx_of_length_le (by simpa using hn)]
      rw [this]
      exact entries_del k _ _ i u h2 hx
theorem T.mkm {t : TypeId} (kk : ∀ w', MapI w' w.heap.size [] → Below w.heap.size w w' → K (.map (some w.heap.size)) w') : LiftP P (Instr.makeMap t none) K w := by
  have ha : Below w.heap.size w (w.alloc (.map #[] 0)) := (Below.refl _ _).alloc (Nat.le_refl _) _
  exact lift (v := .map (some w.heap.size)) (w' := w.alloc (.map #[] 0)) (by simp [Instr.makeMap]) (kk _ ⟨#[], 0, heap_alloc_new w _, rfl, MapKept.stamped_empty 0, Nat.zero_le _, fun p hp => by simp at hp⟩ ha)
end
/-- An iterator r over map b: the keys that are still to come. -/
def T.MapR (w : World) (b r : Nat) (l : List (List UInt8 × Value)) (todo : List (List UInt8)) : Prop :=
  ∃ es clock since seen c0, w.heap[b]? = some (.map es clock) ∧ es.toList.map (fun e => (e.key, e.val)) = (l.map fun p => (tS p.1, p.2)) ∧
  MapKept.Stamped es clock ∧ es.size ≤ maxLen ∧ (∀ p ∈ l, p.1.length ≤ 1000000) ∧
  w.heap[r]? = some (.mapIter (some b) since seen c0) ∧ (∀ x ∈ es.toList, x.born < since) ∧ since ≤ c0 ∧ since ≤ clock ∧
  ∀ k, k ∈ todo ↔ ∃ e ∈ es.toList, e.key = tS k ∧ seen.contains e.born = false
section
variable {w w' : World} {b r : Nat} {l : List (List UInt8 × Value)} {todo : List (List UInt8)}
theorem T.MapR.map (h : MapR w b r l todo) : MapI w b l := by
  obtain ⟨es, clock, since, seen, c0, h1, h2, h3, h4, h5, _⟩ := h
  exact ⟨es, clock, h1, h2, h3, h4, h5⟩
theorem T.MapR.ltb (h : MapR w b r l todo) : b < w.heap.size := h.map.lt
theorem T.MapR.ltr (h : MapR w b r l todo) : r < w.heap.size := by
  obtain ⟨es, clock, since, seen, c0, h1, h2, h3, h4, h5, h6, _⟩ := h
  exact (Array.getElem?_eq_some_iff.1 h6).1
theorem T.MapR.ne (h : MapR w b r l todo) : r ≠ b := by
  obtain ⟨es, clock, since, seen, c0, h1, h2, h3, h4, h5, h6, _⟩ := h
  intro e
  rw [e, h1] at h6
  cases h6
theorem T.MapR.turns {F : Nat → Prop} (h : MapR w b r l todo) (hT : Turns F w w') (hb : ¬ F b) (hr : ¬ F r) : MapR w' b r l todo := by
  have h1 := h.ltb
  have h2 := h.ltr
  obtain ⟨es, clock, since, seen, c0, e1, e2, e3, e4, e5, e6, e7⟩ := h
  exact ⟨es, clock, since, seen, c0, (hT.block b h1 hb).trans e1, e2, e3, e4, e5, (hT.block r h2 hr).trans e6, e7⟩
theorem T.MapR.below (h : MapR w b r l todo) (hb : Below w.heap.size w w') : MapR w' b r l todo := h.turns (F := fun _ => False) (Turns.of_below hb) (fun h => h) (fun h => h)
end
theorem T.key_of {es : List MapEntry} {l : List (List UInt8 × Value)} (h : es.map (fun e => (e.key, e.val)) = l.map fun p => (tS p.1, p.2)) {e : MapEntry} (he : e ∈ es) : ∃ k, e.key = tS k ∧ (k, e.val) ∈ l := by
  have hm : (e.key, e.val) ∈ es.map (fun e => (e.key, e.val)) := List.mem_map.2 ⟨e, he, rfl⟩
  rw [h] at hm
  obtain ⟨p, hp, hpe⟩ := List.mem_map.1 hm
  have h1 := congrArg Prod.fst hpe
  have h2 := congrArg Prod.snd hpe
  simp only at h1 h2
  exact ⟨p.1, h1.symm, by rw [← h2]; exact hp⟩
theorem T.mem_of_key {es : List MapEntry} {l : List (List UInt8 × Value)} (h : es.map (fun e => (e.key, e.val)) = l.map fun p => (tS p.1, p.2)) {p : List UInt8 × Value} (hp : p ∈ l) : ∃ e ∈ es, e.key = tS p.1 := by
  have hm : (tS p.1, p.2) ∈ l.map fun p => (tS p.1, p.2) := List.mem_map.2 ⟨p, hp, rfl⟩
  rw [← h] at hm
  obtain ⟨e, he, hpe⟩ := List.mem_map.1 hm
  exact ⟨e, he, congrArg Prod.fst hpe⟩
theorem T.keys_nodup_of {es : List MapEntry} {l : List (List UInt8 × Value)} (h : es.map (fun e => (e.key, e.val)) = l.map fun p => (tS p.1, p.2)) (hn : (es.map (·.key)).Nodup) : (l.map (·.1)).Nodup := by
  have hk : es.map (·.key) = (l.map (·.1)).map tS := by
    have := congrArg (List.map Prod.fst) h
    simpa [List.map_map, Function.comp_def] using this
  rw [hk] at hn
  exact (List.pairwise_map.1 hn).imp fun hne e => hne (by rw [e])
theorem T.MapI.nodup {w : World} {b : Nat} {l : List (List UInt8 × Value)} (h : MapI w b l) : (l.map (·.1)).Nodup := by
  obtain ⟨es, c, h1, h2, hst, _⟩ := h
  exact keys_nodup_of h2 hst.2.2
theorem T.getK_of_mem {α : Type} {k : List UInt8} {v : α} : ∀ {l : List (List UInt8 × α)}, (l.map (·.1)).Nodup → (k, v) ∈ l → getK k l = some v
  | [], _, h => by simp at h
  | (a, u) :: r, hn, h => by
    simp only [List.map_cons, List.nodup_cons] at hn
    rw [getK]
    rcases List.mem_cons.1 h with h | h
    · cases h; rw [if_pos rfl]
    · have hne : k ≠ a := fun e => hn.1 (by rw [← e]; exact List.mem_map.2 ⟨(k, v), h, rfl⟩)
      rw [if_neg hne]
      exact getK_of_mem hn.2 h
section
variable {P : Program} {K : Value → World → Prop} {w : World} {b r : Nat} {l : List (List UInt8 × Value)} {todo : List (List UInt8)}
/-- v := m[k] -/
theorem T.lkq {t e : TypeId} {z : Value} (ht : P.underlying t = some (.map 9 e)) (hk : P.underlying 9 = some .string) (hz : (P.info? e).bind (·.zero) = some z) (h : MapI w b l) {k : List UInt8}
    (kk : K ((getK k l).getD z) w) : LiftP P (Instr.lookup t (.map (some b)) (tS k) false) K w := by
  obtain ⟨es, c, h1, h2, _⟩ := h
  obtain ⟨i, hi, hzz⟩ := Option.bind_eq_some_iff.1 hz
  refine lift ?_ kk
  rw [getK_idx]
  cases hx : idxK k l with
  | none => simp [Instr.lookup, run_underlying ht, MapKept.run_getObj_map h1, run_chk hk, run_find hk h2, hx, zeroValue, typeInfo, hi, hzz]
  | some p => simp [Instr.lookup, run_underlying ht, MapKept.run_getObj_map h1, run_chk hk, run_find hk h2, hx]
/-- range m -/
theorem T.rng {t kt e : TypeId} (ht : P.underlying t = some (.map kt e)) (h : MapI w b l) (kk : ∀ w', MapR w' b w.heap.size l (l.map (·.1)) → Below w.heap.size w w' → K (.pointer (some ⟨w.heap.size, 0, none⟩)) w') :
    LiftP P (Instr.range t (.map (some b))) K w := by
  have hlt := h.lt
  obtain ⟨es, c, h1, h2, hst, hsz, hwf⟩ := h
  have ha : Below w.heap.size w (w.alloc (.mapIter (some b) c #[] c)) := (Below.refl _ _).alloc (Nat.le_refl _) _
  refine lift (v := .pointer (some ⟨w.heap.size, 0, none⟩)) (w' := w.alloc (.mapIter (some b) c #[] c)) ?_ (kk _ ⟨es, c, c, #[], c, (ha.block b hlt).trans h1, h2, hst, hsz, hwf, heap_alloc_new w _, hst.1, Nat.le_refl _, Nat.le_refl _, fun k => ?_⟩ ha)
  · simp [Instr.range, run_underlying ht, MapKept.run_getObj_map h1]
  · constructor
    · intro hk
      obtain ⟨p, hp, rfl⟩ := List.mem_map.1 hk
      obtain ⟨e, he, hek⟩ := mem_of_key h2 hp
      exact ⟨e, he, hek, by simp⟩
    · rintro ⟨e, he, hek, _⟩
      obtain ⟨k', hk', hm⟩ := key_of h2 he
      rw [hk'] at hek
      cases hek
      exact List.mem_map.2 ⟨_, hm, rfl⟩
/-- The next entry; whichever the tape says. -/
theorem T.nxt {ty : TypeId} (h : MapR w b r l todo) (k0 : todo = [] → K (.tuple #[.bool false]) w)
    (k1 : ∀ k v w', k ∈ todo → getK k l = some v → MapR w' b r l (todo.filter fun j => decide (j ≠ k)) → Turns (fun j => j = r) w w' → (Instr.entry (.pointer (some ⟨r, 0, none⟩))).run P w' = .ok (.tuple #[tS k, v]) w' → K (.tuple #[.bool true, tS k, v]) w') :
    LiftP P (Instr.next (.pointer (some ⟨r, 0, none⟩)) false ty) K w := by
  have hne := h.ne
  obtain ⟨es, clock, since, seen, c0, h1, h2, hst, hsz, hwf, h6, h7, h8, h9, h10⟩ := h
  have hmem : ∀ e, e ∈ (leftOf es seen).toList ↔ e ∈ es.toList ∧ seen.contains e.born = false := fun e => by
    simp [leftOf]
  rcases run_next_at (P := P) w ty r b since c0 seen es clock h6 h1 h7 h8 with ⟨h0, hr⟩ | ⟨e, he, w1, hw1, hr⟩
  · refine lift hr (k0 ?_)
    refine List.eq_nil_iff_forall_not_mem.2 fun k hk => ?_
    obtain ⟨e, he, hek, hs⟩ := (h10 k).1 hk
    have hl : (leftOf es seen).toList = [] := List.eq_nil_of_length_eq_zero (by simpa using h0)
    have := (hmem e).2 ⟨he, hs⟩
    rw [hl] at this
    simp at this
  · obtain ⟨hee, hes⟩ := (hmem e).1 he
    obtain ⟨k, hek, hkl⟩ := key_of h2 hee
    have hw1h : w1.heap = w.heap := by rcases hw1 with rfl | rfl <;> rfl
    have hr1 : w1.heap[r]? = some (.mapIter (some b) since seen c0) := by rw [hw1h]; exact h6
    have hT1 : Turns (fun j => j = r) w w1 := by
      rcases hw1 with rfl | rfl
      · exact Turns.refl _ _
      · exact (Turns.refl _ _).drew
    have hrl : r < w1.heap.size := (Array.getElem?_eq_some_iff.1 hr1).1
    have hblk : ∀ j, j ≠ r → (ChangeMaps.setBlock w1 r (.mapIter (some b) since (seen.push e.born) clock)).heap[j]? = w.heap[j]? := fun j hj => by
      show (w1.heap.setIfInBounds r _)[j]? = _
      rw [Array.getElem?_setIfInBounds_ne (Ne.symm hj), hw1h]
    have hnew : (ChangeMaps.setBlock w1 r (.mapIter (some b) since (seen.push e.born) clock)).heap[r]? = some (.mapIter (some b) since (seen.push e.born) clock) := by
      show (w1.heap.setIfInBounds r _)[r]? = _
      simp [hrl]
    have hT : Turns (fun j => j = r) w (ChangeMaps.setBlock w1 r (.mapIter (some b) since (seen.push e.born) clock)) :=
      ⟨hT1.os, hT1.tape, hT1.output, by show _ ≤ (w1.heap.setIfInBounds r _).size; rw [Array.size_setIfInBounds, hw1h]; exact Nat.le_refl _, fun j _ hj => hblk j hj⟩
    have hkt : k ∈ todo := (h10 k).2 ⟨e, hee, hek, hes⟩
    have hb' := (hblk b (Ne.symm hne)).trans h1
    rw [hek] at hr
    refine lift hr (k1 k e.val _ hkt (getK_of_mem (keys_nodup_of h2 hst.2.2) hkl) ⟨es, clock, since, seen.push e.born, clock, hb', h2, hst, hsz, hwf, hnew, h7, h9, h9, fun k' => ?_⟩ hT ?_)
    · rw [List.mem_filter]
      simp only [decide_eq_true_eq]
      constructor
      · rintro ⟨hk', hne'⟩
        obtain ⟨e', he', hek', hs'⟩ := (h10 k').1 hk'
        refine ⟨e', he', hek', ?_⟩
        rw [Array.contains_push, hs', Bool.false_or]
        simp only [beq_eq_false_iff_ne, ne_eq]
        intro hb
        have := born_eq hst.2.1 he' hee hb
        subst this
        rw [hek] at hek'
        cases hek'
        exact hne' rfl
      · rintro ⟨e', he', hek', hs'⟩
        rw [Array.contains_push, Bool.or_eq_false_iff] at hs'
        refine ⟨(h10 k').2 ⟨e', he', hek', hs'.1⟩, fun e1 => ?_⟩
        subst e1
        have := key_eq hst.2.2 he' hee (by rw [hek', hek])
        subst this
        simp at hs'
    · have := run_entry_at (P := P) _ r b since seen es clock e hnew hb' hee hst.2.1
      rw [hek] at this
      exact this
end
end Go.Proofs.YtonblppkidpmlaaGreatDoor.E
namespace Go.Proofs.YtonblppkidpmlaaGreatDoor.E
open Go Go.RowKit
set_option linter.unusedSimpArgs false
set_option linter.unusedVariables false

abbrev Txt := List UInt8
abbrev RowsT := List (Txt × List ValT)
/-- Rows by rising keys. -/
def Rising {α : Type} (R : List (Txt × α)) : Prop := R.Pairwise fun a b => a.1 < b.1
def insR {α : Type} (k : Txt) (r : α) : List (Txt × α) → List (Txt × α)
  | [] => [(k, r)]
  | (a, x) :: t => if a < k then (a, x) :: insR k r t else if a = k then (k, r) :: t else (k, r) :: (a, x) :: t
theorem lt_irr (a : Txt) : ¬ a < a := List.lt_irrefl a
theorem lt_tr {a b c : Txt} (h : a < b) (h' : b < c) : a < c := List.lt_trans h h'
theorem lt_tri (a b : Txt) : a < b ∨ a = b ∨ b < a := by grind
theorem lt_asy {a b : Txt} (h : a < b) : ¬ b < a := List.lt_asymm h
theorem insR_mem {α : Type} {k : Txt} {r : α} : ∀ {R : List (Txt × α)} {p : Txt × α}, p ∈ insR k r R → p = (k, r) ∨ p ∈ R
  | [], p, h => by simpa [insR] using h
  | (a, x) :: t, p, h => by
    unfold insR at h
    split at h
    · rcases List.mem_cons.1 h with h | h
      · exact .inr (by rw [h]; simp)
      · exact (insR_mem h).imp id (List.mem_cons_of_mem _)
    · split at h
      · rcases List.mem_cons.1 h with h | h
        · exact .inl h
        · exact .inr (List.mem_cons_of_mem _ h)
      · rcases List.mem_cons.1 h with h | h
        · exact .inl h
        · exact .inr h
theorem insR_rising {α : Type} {k : Txt} {r : α} : ∀ {R : List (Txt × α)}, Rising R → Rising (insR k r R)
  | [], _ => by simp [insR, Rising]
  | (a, x) :: t, h => by
    have h' := List.pairwise_cons.1 h
    unfold insR
    split
    · rename_i hlt
      refine List.pairwise_cons.2 ⟨fun p hp => ?_, insR_rising h'.2⟩
      rcases insR_mem hp with rfl | hp
      · exact hlt
      · exact h'.1 p hp
    · split
      · rename_i he
        subst he
        exact List.pairwise_cons.2 ⟨h'.1, h'.2⟩
      · rename_i h1 h2
        have hk : k < a := by rcases lt_tri a k with h | h | h <;> first | exact absurd h h1 | exact absurd h h2 | exact h
        refine List.pairwise_cons.2 ⟨fun p hp => ?_, h⟩
        rcases List.mem_cons.1 hp with rfl | hp
        · exact hk
        · exact lt_tr hk (h'.1 p hp)
theorem rising_nodup {α : Type} {R : List (Txt × α)} (h : Rising R) : (R.map (·.1)).Nodup := by
  refine List.pairwise_map.2 (h.imp fun hlt e => ?_)
  rw [e] at hlt
  exact lt_irr _ hlt
theorem delK_rising {α : Type} {k : Txt} {R : List (Txt × α)} (h : Rising R) : Rising (T.delK k R) := by
  have : (T.delK k R).Sublist R := by
    clear h
    induction R with
    | nil => exact List.Sublist.slnil
    | cons p t ih =>
      obtain ⟨a, x⟩ := p
      unfold T.delK
      split
      · exact List.sublist_cons_self _ _
      · exact ih.cons_cons _
  exact h.sublist this
theorem getT_mem {α : Type} {k : Txt} {x : α} {L : List (Txt × α)} (h : T.getK k L = some x) : (k, x) ∈ L := by
  induction L with
  | nil => cases h
  | cons p t ih =>
    obtain ⟨a, y⟩ := p
    unfold T.getK at h
    split at h
    · rename_i e; cases h; subst e; simp
    · exact List.mem_cons_of_mem _ (ih h)
theorem perm_get {α : Type} {L R : List (Txt × α)} (hp : L.Perm R) (hn : (L.map (·.1)).Nodup) (k : Txt) : T.getK k L = T.getK k R := by
  have hnR : (R.map (·.1)).Nodup := (hp.map _).nodup_iff.1 hn
  cases h : T.getK k R with
  | some x => exact T.getK_of_mem hn (hp.mem_iff.2 (getT_mem h))
  | none =>
    cases h' : T.getK k L with
    | none => rfl
    | some y =>
      have := T.getK_of_mem hnR (hp.mem_iff.1 (getT_mem h'))
      rw [h] at this; cases this
theorem perm_del {α : Type} {L R : List (Txt × α)} (hp : L.Perm R) (hn : (L.map (·.1)).Nodup) (k : Txt) : (T.delK k L).Perm (T.delK k R) := by
  induction hp with
  | nil => exact List.Perm.refl _
  | cons p _ ih =>
    obtain ⟨a, x⟩ := p
    rw [List.map_cons, List.nodup_cons] at hn
    unfold T.delK
    split
    · assumption
    · exact (ih hn.2).cons _
  | swap p q l =>
    obtain ⟨a, x⟩ := p
    obtain ⟨b, y⟩ := q
    simp only [List.map_cons, List.nodup_cons, List.mem_cons, not_or] at hn
    simp only [T.delK]
    by_cases h1 : k = a
    · have h2 : ¬ k = b := fun e => hn.1.1 (e.symm.trans h1)
      rw [if_neg h2, if_pos h1, if_pos h1]
    · by_cases h2 : k = b
      · rw [if_pos h2, if_neg h1, if_pos h2]
      · rw [if_neg h2, if_neg h1, if_neg h1, if_neg h2]
        exact List.Perm.swap _ _ _
  | trans h1 h2 ih1 ih2 => exact (ih1 hn).trans (ih2 ((h1.map _).nodup_iff.1 hn))
theorem perm_set {α : Type} {L R : List (Txt × α)} (hp : L.Perm R) (hn : (L.map (·.1)).Nodup) (k : Txt) (r : α) : (T.setK k r L).Perm (T.setK k r R) := by
  induction hp with
  | nil => exact List.Perm.refl _
  | @cons p l1 l2 h _ =>
    obtain ⟨a, x⟩ := p
    rename_i ih
    rw [List.map_cons, List.nodup_cons] at hn
    unfold T.setK
    split
    · exact h.cons _
    · exact (ih hn.2).cons _
  | swap p q l =>
    obtain ⟨a, x⟩ := p
    obtain ⟨b, y⟩ := q
    simp only [List.map_cons, List.nodup_cons, List.mem_cons, not_or] at hn
    simp only [T.setK]
    by_cases h1 : k = a
    · have h2 : ¬ k = b := fun e => hn.1.1 (e.symm.trans h1)
      rw [if_neg h2, if_pos h1, if_pos h1]
      exact List.Perm.swap _ _ _
    · by_cases h2 : k = b
      · rw [if_pos h2, if_neg h1, if_pos h2]
        exact List.Perm.swap _ _ _
      · rw [if_neg h2, if_neg h1, if_neg h1, if_neg h2]
        exact List.Perm.swap _ _ _
  | trans h1 h2 ih1 ih2 => exact (ih1 hn).trans (ih2 ((h1.map _).nodup_iff.1 hn))
theorem set_ins {α : Type} {k : Txt} {r : α} : ∀ {R : List (Txt × α)}, Rising R → (T.setK k r R).Perm (insR k r R)
  | [], _ => List.Perm.refl _
  | (a, x) :: t, h => by
    have h' := List.pairwise_cons.1 h
    unfold T.setK insR
    by_cases e : k = a
    · subst e
      rw [if_pos rfl, if_neg (lt_irr _), if_pos rfl]
    · rw [if_neg e]
      split
      · exact (set_ins h'.2).cons _
      · rw [if_neg (fun e' => e e'.symm)]
        have hnone : T.idxK k t = none := by
          cases hx : T.idxK k t with
          | none => rfl
          | some p =>
            exfalso
            rename_i hlt
            have hg : T.getK k t = some p.2 := by rw [T.getK_idx, hx]; rfl
            have := h'.1 _ (getT_mem hg)
            exact hlt this
        rw [T.setK_none _ _ _ hnone]
        have : ((a, x) :: (t ++ [(k, r)])).Perm ((k, r) :: (a, x) :: t) := by
          have := @List.perm_append_comm _ ((a, x) :: t) [(k, r)]
          simpa using this
        exact this
theorem perm_ins {α : Type} {L R : List (Txt × α)} (hp : L.Perm R) (hn : (L.map (·.1)).Nodup) (hR : Rising R) (k : Txt) (r : α) : (T.setK k r L).Perm (insR k r R) := (perm_set hp hn k r).trans (set_ins hR)
structure StT where
  R : RowsT
  X : List (List Int)
structure RepT where
  code : Int
  there : Bool
  rcd : List ValT
  rows : RowsT
  id : Int
def rep0 : RepT := ⟨0, false, [], [], 0⟩
/-- The fields of an index that is there. -/
def fieldsOf (X : List (List Int)) (id : Int) : Option (List Int) :=
  if 1 ≤ id ∧ id ≤ X.length then match X[(id - 1).toNat]? with
    | some fs => if fs.length = 0 then none else some fs
    | none => none
  else none
/-- The entry of a row, if it lies in the area. -/
noncomputable def entOf (id : Int) (fs : List Int) (low high : List ValT) (p : Txt × List ValT) : Option (Txt × Txt) :=
  match showV id fs p.2 with
  | some key => if liesV key low high = true then some (entT id key p.1, p.1) else none
  | none => none
/-- The entries of an area by their texts. -/
noncomputable def areaV (S : RowsT) (id : Int) (fs : List Int) (low high : List ValT) : List (Txt × Txt) :=
  (S.filterMap (entOf id fs low high)).mergeSort fun a b => decide (¬ b.1 < a.1)
def rowOf (R : RowsT) (k : Txt) : Txt × List ValT := (k, (T.getK k R).getD [])
def scanV (R : RowsT) (k to : Txt) : RowsT := R.filter fun p => decide (¬ p.1 < k ∧ (to = [] ∨ p.1 < to))
/-- What an operation leaves and answers. -/
noncomputable def doS (S : StT) (o : OpP) : StT × RepT :=
  let was := T.getK o.key.data.toList S.R
  if chk o ≠ 0 then (S, { rep0 with code := chk o })
  else if o.kind = 1 then (⟨insR o.key.data.toList o.rcd S.R, S.X⟩, { rep0 with there := was.isSome })
  else if o.kind = 2 then (⟨T.delK o.key.data.toList S.R, S.X⟩, { rep0 with there := was.isSome })
  else if o.kind = 3 then (S, { rep0 with there := was.isSome, rcd := was.getD [] })
  else if o.kind = 4 then
    if was.getD [] = o.old then (⟨insR o.key.data.toList o.rcd S.R, S.X⟩, { rep0 with there := was.isSome })
    else (S, { rep0 with code := 9, there := was.isSome, rcd := was.getD [] })
  else if o.kind = 5 then (S, { rep0 with rows := (scanV S.R o.key.data.toList o.to.data.toList).take o.limit.toNat })
  else if o.kind = 6 then
    match fieldsOf S.X o.id with
    | none => (S, { rep0 with code := 7 })
    | some fs => (S, { rep0 with rows := ((areaV S.R o.id fs o.low o.high).take o.limit.toNat).map fun e => rowOf S.R e.2 })
  else if o.kind = 7 then
    if S.X.length = 6 then (S, { rep0 with code := 17 }) else (⟨S.R, S.X ++ [o.fields]⟩, { rep0 with id := S.X.length + 1 })
  else if o.kind = 8 then
    match fieldsOf S.X o.id with
    | none => (S, { rep0 with code := 7 })
    | some fs => (⟨S.R, S.X.set (o.id - 1).toNat []⟩, rep0)
  else (S, rep0)
/-- What is so of every store. -/
structure StOk (n : Nat) (S : StT) : Prop where
  rising : Rising S.R
  keys : ∀ p ∈ S.R, 1 ≤ p.1.length ∧ p.1.length ≤ 16
  recs : ∀ p ∈ S.R, recE p.2 = 0 ∧ ∀ x ∈ p.2, valOk x
  many : S.R.length ≤ n
  xs : ∀ fs ∈ S.X, fs = [] ∨ ckI fs = 0
  xmany : S.X.length ≤ 6
def st0 : StT := ⟨[], []⟩
theorem st0_ok : StOk 0 st0 := ⟨List.Pairwise.nil, by simp [st0], by simp [st0], by simp [st0], by simp [st0], by simp [st0]⟩
end Go.Proofs.YtonblppkidpmlaaGreatDoor.E
namespace Go.Proofs.YtonblppkidpmlaaGreatDoor.E
open Go Go.RowKit
set_option linter.unusedSimpArgs false
set_option linter.unusedVariables false

section
variable {hu : Nat} {c c' : Nat → Nat} {w w' : World} {v : Value}
/-- A record whose cells are of the colour hu. -/
structure VS (hu : Nat) (c : Nat → Nat) (w : World) (v : Value) (l : List ValT) : Prop where
  rd : Vals w [v] l
  col : l = [] ∨ InC c hu v
theorem rVal_free (w w' : World) (us : List Value) (x : ValT) (h : rVal w us x) : rVal w' us x := by
  obtain ⟨rfl, hok⟩ := val_cells h
  exact rVal_of hok
theorem VS.turns {l : List ValT} {G : Nat → Prop} (h : VS hu c w v l) (hT : Turns G w w') (hG : ∀ k, G k → c k ≠ hu) : VS hu c w' v l :=
  ⟨rRow.turns rVal_free h.rd (by decide) hT (h.col.imp id fun hc k hk e => hG k e (hc k hk)), h.col⟩
theorem VS.below {l : List ValT} (h : VS hu c w v l) (hb : Below w.heap.size w w') : VS hu c w' v l := ⟨keeps_Vals _ _ _ _ hb h.rd, h.col⟩
theorem vals_lt {l : List ValT} (h : Vals w [v] l) (hl : l ≠ []) {k : Nat} (hk : v.ownBlock = some k) : k < w.heap.size := by
  obtain ⟨A, cc, rfl, _, _⟩ := h.slice
  have hpos : 0 < l.length := List.length_pos_iff.2 hl
  obtain ⟨a, us, rfl, hus, hcell, hrd⟩ := rRow.at h 0 hpos
  obtain ⟨rfl, _⟩ := val_cells hrd
  have := World.block_lt_of_cell? _ _ (hcell 0 _ rfl)
  have hb : ((a.add (0 * 3)).add 0).block = a.block := by simp [Addr.add]
  rw [hb] at this
  cases hk
  exact this
theorem VS.re {l : List ValT} (h : VS hu c w v l) (hc : ∀ k, k < w.heap.size → c' k = c k) : VS hu c' w v l := by
  refine ⟨h.rd, ?_⟩
  by_cases hl : l = []
  · exact .inl hl
  · exact .inr ((h.col.resolve_left hl).re (fun b hb => vals_lt h.rd hl hb) hc)
/-- A row of the call's own, told by its colour. -/
theorem OwnL.vs {w0 : World} {l : List ValT} (h : OwnV w0 w v l) (hok : ∀ x ∈ l, valOk x) (c : Nat → Nat) (hu : Nat) : VS hu (col c w0.heap.size hu) w v l := ⟨h.vals hok, .inr (InC.fresh h.fresh)⟩
/-- An index's fields, of the colour hu. -/
structure FS (hu : Nat) (c : Nat → Nat) (w : World) (v : Value) (l : List Int) : Prop where
  rd : Rd w v (iV l)
  col : l = [] ∨ InC c hu v
theorem FS.turns {l : List Int} {G : Nat → Prop} (h : FS hu c w v l) (hT : Turns G w w') (hG : ∀ k, G k → c k ≠ hu) : FS hu c w' v l :=
  ⟨h.rd.turns hT (h.col.imp (fun e => by rw [e]; rfl) fun hc k hk e => hG k e (hc k hk)), h.col⟩
theorem FS.below {l : List Int} (h : FS hu c w v l) (hb : Below w.heap.size w w') : FS hu c w' v l := ⟨h.rd.below hb, h.col⟩
theorem fields_lt {l : List Int} (h : Rd w v (iV l)) (hl : l ≠ []) {k : Nat} (hk : v.ownBlock = some k) : k < w.heap.size := by
  obtain ⟨A, cc, rfl, _, _⟩ := h.slice
  have hpos : 0 < (iV l).length := by rw [List.length_map]; exact List.length_pos_iff.2 hl
  obtain ⟨a, rfl, hcell⟩ := h.at 0 hpos
  have := World.block_lt_of_cell? _ _ hcell
  have hb : (a.add 0).block = a.block := by simp [Addr.add]
  rw [hb] at this
  cases hk
  exact this
theorem FS.re {l : List Int} (h : FS hu c w v l) (hc : ∀ k, k < w.heap.size → c' k = c k) : FS hu c' w v l := by
  refine ⟨h.rd, ?_⟩
  by_cases hl : l = []
  · exact .inl hl
  · exact .inr ((h.col.resolve_left hl).re (fun b hb => fields_lt h.rd hl hb) hc)
end
abbrev Mm := Txt × (Value × List ValT)
def mkv (m : Mm) : Txt × Value := (m.1, m.2.1)
def mkr (m : Mm) : Txt × List ValT := (m.1, m.2.2)
structure Xm where
  id : Int
  fv : Value
  fs : List Int
def xmF (x : Xm) : List Value := [.int .i64 x.id, x.fv]
theorem xmF_len (x : Xm) : (xmF x).length = 2 := rfl
theorem undSt : Tryz.prog.underlying 48 = some (.slice 53) := by kernel_rfl
theorem undMp : Tryz.prog.underlying 80 = some (.map 9 23) := by kernel_rfl
theorem oneMp : oneB Tryz.prog 80 = true := by kernel_rfl
theorem oneXs : oneB Tryz.prog 48 = true := by kernel_rfl
theorem szXs : (Tryz.prog.info? 48).map (·.size) = some 1 := by kernel_rfl
theorem zIx : (Tryz.prog.info? 53).bind (·.zero) = some (.agg #[.int .i64 0, .slice none 0 0]) := by kernel_rfl
theorem infIx : (Tryz.prog.info? 53).map (fun i => (i.zero, i.size, i.bytes)) = some (some (.agg #[.int .i64 0, .slice none 0 0]), 2, 32) := by kernel_rfl
theorem szIs : (Tryz.prog.info? 24).map (·.size) = some 1 := by kernel_rfl
theorem p0 : fofs Tryz.prog 82 0 = some (0, 1) := by kernel_rfl
theorem p1 : fofs Tryz.prog 82 1 = some (1, 1) := by kernel_rfl
theorem zRec : (Tryz.prog.info? 23).bind (·.zero) = some (.slice none 0 0) := by kernel_rfl
structure PlAt (hu : Nat) (c : Nat → Nat) (w : World) (g b : Nat) (vX : Value) (M : List Mm) (X : List Xm) : Prop where
  pos : 0 < hu ∧ hu < 999
  blk : Blk w g 82 #[.map (some b), vX]
  map : T.MapI w b (M.map mkv)
  cg : c g = hu
  cb : c b = hu
  ms : ∀ m ∈ M, VS 999 c w m.2.1 m.2.2
  xs : w.ownsRow 0 53 2 vX X.length (X.flatMap xmF)
  cx : InC c hu vX
  xm : ∀ x ∈ X, FS 999 c w x.fv x.fs
section
variable {hu : Nat} {c c' : Nat → Nat} {w w' : World} {g b : Nat} {vX : Value} {M : List Mm} {X : List Xm}
theorem PlAt.turns {G : Nat → Prop} (h : PlAt hu c w g b vX M X) (hT : Turns G w w') (hG : ∀ k, G k → c k ≠ hu ∧ c k ≠ 999) : PlAt hu c w' g b vX M X :=
  ⟨h.pos, h.blk.turns hT fun e => (hG _ e).1 h.cg, h.map.turns hT fun e => (hG _ e).1 h.cb, h.cg, h.cb, fun m hm => (h.ms m hm).turns hT fun k hk => (hG k hk).2, ownsRow_turns h.xs hT fun k hk e => (hG k e).1 (h.cx k hk), h.cx, fun x hx => (h.xm x hx).turns hT fun k hk => (hG k hk).2⟩
theorem PlAt.below (h : PlAt hu c w g b vX M X) (hb : Below w.heap.size w w') : PlAt hu c w' g b vX M X := h.turns (G := fun _ => False) (Turns.of_below hb) fun _ h => h.elim
theorem PlAt.re (h : PlAt hu c w g b vX M X) (hc : ∀ k, k < w.heap.size → c' k = c k) : PlAt hu c' w g b vX M X :=
  ⟨h.pos, h.blk, h.map, (hc _ h.blk.lt).trans h.cg, (hc _ h.map.lt).trans h.cb, fun m hm => (h.ms m hm).re hc, h.xs, h.cx.re (fun b hb => ownsRow_lt h.xs hb) hc, fun x hx => (h.xm x hx).re hc⟩
end
/-- A store of plain's that holds S. -/
def PlS (hu : Nat) (c : Nat → Nat) (w : World) (g : Nat) (S : StT) : Prop := ∃ b vX M X, PlAt hu c w g b vX M X ∧ (M.map mkr).Perm S.R ∧ X.map (·.fs) = S.X ∧ ∀ (i : Nat) (x : Xm), X[i]? = some x → x.id = (i : Int) + 1
section
variable {hu : Nat} {c c' : Nat → Nat} {w w' : World} {g : Nat} {S : StT}
theorem PlS.turns {G : Nat → Prop} (h : PlS hu c w g S) (hT : Turns G w w') (hG : ∀ k, G k → c k ≠ hu ∧ c k ≠ 999) : PlS hu c w' g S := by
  obtain ⟨b, vX, M, X, h, h'⟩ := h
  exact ⟨b, vX, M, X, h.turns hT hG, h'⟩
theorem PlS.below (h : PlS hu c w g S) (hb : Below w.heap.size w w') : PlS hu c w' g S := by
  obtain ⟨b, vX, M, X, h, h'⟩ := h
  exact ⟨b, vX, M, X, h.below hb, h'⟩
theorem PlS.re (h : PlS hu c w g S) (hc : ∀ k, k < w.heap.size → c' k = c k) : PlS hu c' w g S := by
  obtain ⟨b, vX, M, X, h, h'⟩ := h
  exact ⟨b, vX, M, X, h.re hc, h'⟩
end
theorem New14 (hu : Nat) (hh : 0 < hu ∧ hu < 999) (c : Nat → Nat) (w : World) : CallP Tryz.prog 14 #[] (fun r w' => ∃ g c', r = .pointer (some ⟨g, 0, none⟩) ∧ (∀ k, k < w.heap.size → c' k = c k) ∧ PlS hu c' w' g st0 ∧ Below w.heap.size w w') w := by
  refine ⟨S14.calls _ _ ?_⟩
  unfold S14
  refine T.mkm ?_
  intro w1 hm hb1
  refine bd (cells := #[.map (some w.heap.size), .slice none 0 0]) (by kernel_rfl) ?_
  refine bxB ?_
  intro g w2 hg hB hb2
  have hs := hb1.size
  exact ⟨g, col c w.heap.size hu, rfl, col_lt _ _ _, ⟨w.heap.size, .slice none 0 0, [], [], ⟨hh, hB, hm.below hb2, col_ge _ _ _ (by omega), col_ge _ _ _ (by omega), by simp, ⟨rfl, .inl ⟨rfl, rfl⟩⟩, InC.nil _ _ _ _, by simp⟩, List.Perm.refl _, rfl, by simp⟩, below_then hb1 hb2⟩
theorem X_len {X : List Xm} {S : StT} (h : X.map (·.fs) = S.X) : X.length = S.X.length := by rw [← h, List.length_map]
/-- What index answers. -/
def ixOut (X : List Xm) (id : Int) : Value := match X[(id - 1).toNat]? with
  | some x => if 1 ≤ id ∧ x.fs.length ≠ 0 then .tuple #[.agg #[.int .i64 x.id, x.fv], .bool true] else .tuple #[.agg #[.int .i64 0, .slice none 0 0], .bool false]
  | none => .tuple #[.agg #[.int .i64 0, .slice none 0 0], .bool false]
theorem allOne {l : List Value} (h : l.all (·.oneCell') = true) : l.toArray.all (·.oneCell') = true := by rw [List.all_toArray]; exact h
theorem index57 {hu : Nat} {c : Nat → Nat} {w : World} {g b : Nat} {vX : Value} {M : List Mm} {X : List Xm} (h : PlAt hu c w g b vX M X) (hX : X.length ≤ 6) (id : Int) (hid : -9223372036854775808 ≤ id ∧ id ≤ 9223372036854775807) :
    CallP Tryz.prog 57 #[.pointer (some ⟨g, 0, none⟩), .int .i64 id] (fun r w' => r = ixOut X id ∧ Below w.heap.size w w') w := by
  refine ⟨S57.calls _ _ _ _ ?_⟩
  unfold S57
  refine alB zIx ?_
  intro g1 w1 hg1 hB1 hb1
  have h1 := h.below hb1
  obtain ⟨A, cX, hvX, _⟩ := (OwnR.of_own h1.xs).slice
  have c1 : w1.cell? ⟨g, 1, none⟩ = some (.slice A X.length cX) := by rw [← hvX]; exact h1.blk.cell 1
  have none_out : (¬ (1 ≤ id ∧ id ≤ X.length)) → ixOut X id = .tuple #[.agg #[.int .i64 0, .slice none 0 0], .bool false] := fun hn => by
    unfold ixOut
    split
    · rename_i x hx
      have := (List.getElem?_eq_some_iff.1 hx).1
      rw [if_neg (by omega)]
    · rfl
  refine bi_lss_c (fun h2 => ?_) (fun h2 => ?_)
  · (repeat with_reducible first|refine z_b ?_|refine z_f ?_|refine z_k ?_)
    refine bd (cells := #[.int .i64 0, .slice none 0 0]) (by kernel_rfl) ?_
    refine stB hB1 (by exact szIx) rfl (allOne (l := [.int .i64 0, .slice none 0 0]) rfl) ?_
    intro w2 hB2 hT2
    refine retA aggIx hB2 (by exact szIx) ?_
    exact ⟨(none_out (by omega)).symm, below_own hb1 hT2 (by omega)⟩
  (repeat with_reducible first|refine fd p1 (by decide) ?_|refine ld oneXs c1 ?_|refine ln undSt ?_|refine z_a ?_|refine z_d ?_)
  refine bi_gtr_c (fun h3 => ?_) (fun h3 => ?_)
  · (repeat with_reducible first|refine z_b ?_|refine z_f ?_|refine z_k ?_|refine z_l ?_)
    refine bd (cells := #[.int .i64 0, .slice none 0 0]) (by kernel_rfl) ?_
    refine stB hB1 (by exact szIx) rfl (allOne (l := [.int .i64 0, .slice none 0 0]) rfl) ?_
    intro w2 hB2 hT2
    refine retA aggIx hB2 (by exact szIx) ?_
    exact ⟨(none_out (by omega)).symm, below_own hb1 hT2 (by omega)⟩
  obtain ⟨i, hi, rfl⟩ : ∃ i : Nat, i < X.length ∧ id = (i : Int) + 1 := ⟨(id - 1).toNat, by omega, by omega⟩
  obtain ⟨gx, cx, he, hcell⟩ := rowAt xmF_len (OwnR.of_own h1.xs) i hi (by decide)
  rw [hvX] at he
  cases he
  have e1 : (i : Int) + 1 - 1 = i := by omega
  have eo : ∀ o, X[((i : Int) + 1 - 1).toNat]? = o → X[i]? = o := fun o h => by rw [← h]; congr 1; omega
  have hfs := (h1.xm X[i] (List.getElem_mem hi)).rd
  obtain ⟨Af, cf, hfv, _⟩ := hfs.slice
  have hfl : (iV X[i].fs).length = X[i].fs.length := List.length_map _
  have hc0 := hcell 0 _ rfl
  have hc1 := hcell 1 _ rfl
  rw [hfv, hfl] at hc1
  (repeat with_reducible first|refine fd p1 (by decide) ?_|refine ld oneXs c1 ?_|refine z_a ?_|refine z_d ?_|refine z_l ?_|refine z_p (by omega) ?_)
  rw [e1]
  refine ixG undSt szIx i hi ?_
  (repeat with_reducible first|refine fdG x1 (by decide) ?_|refine ld oneIs hc1 ?_|refine z_d ?_)
  refine ln undIs ?_
  (repeat with_reducible first|refine z_d ?_)
  have eo : X[((i : Int) + 1 - 1).toNat]? = some X[i] := by
    rw [show ((i : Int) + 1 - 1).toNat = i by omega, List.getElem?_eq_getElem hi]
  refine bi_eql_c (fun h4 => ?_) (fun h4 => ?_)
  · (repeat with_reducible first|refine z_b ?_|refine z_l ?_)
    refine bd (cells := #[.int .i64 0, .slice none 0 0]) (by kernel_rfl) ?_
    refine stB hB1 (by exact szIx) rfl (allOne (l := [.int .i64 0, .slice none 0 0]) rfl) ?_
    intro w2 hB2 hT2
    refine retA aggIx hB2 (by exact szIx) ?_
    refine ⟨?_, below_own hb1 hT2 (by omega)⟩
    unfold ixOut
    rw [eo]
    simp only
    rw [if_neg (by omega)]
  · (repeat with_reducible first|refine fd p1 (by decide) ?_|refine ld oneXs c1 ?_|refine z_a ?_|refine z_c ?_|refine z_l ?_|refine z_p (by omega) ?_)
    rw [e1]
    refine ixG undSt szIx i hi ?_
    have hca : ∀ j u, (xmF X[i])[j]? = some u → w1.cell? ((⟨gx, i * 2, none⟩ : Addr).add j) = some u := fun j u hu => by
      rw [add0]
      exact hcell j u hu
    refine ldR aggIx hca (by rw [szIx]; rfl) ?_
    refine stB hB1 (by exact szIx) rfl (cells := (xmF X[i]).toArray) (allOne (by unfold xmF; rw [hfv]; rfl)) ?_
    intro w2 hB2 hT2
    refine retA aggIx hB2 (by exact szIx) ?_
    refine ⟨?_, below_own hb1 hT2 (by omega)⟩
    unfold ixOut
    rw [eo]
    simp only
    rw [if_pos ⟨by omega, by omega⟩]
    rfl
end Go.Proofs.YtonblppkidpmlaaGreatDoor.E
namespace Go.Proofs.YtonblppkidpmlaaGreatDoor.E
open Go Go.Proofs Go.Shelf

def sortF_ren : Go.Shelf.Ren := ⟨fun | 6 => 80 | 15 => 90 | 14 => 97 | 28 => 112 | 29 => 113 | 20 => 120 | 21 => 121 | 22 => 122 | 23 => 123 | 24 => 124 | 25 => 125 | 26 => 126 | 27 => 127 | 46 => 135 | 47 => 130 | 48 => 131 | 49 => 136 | 50 => 137 | 57 => 145 | n => n, fun | 22 => 102 | 24 => 105 | 25 => 122 | 3 => 3 | 39 => 131 | 0 => 0 | 53 => 149 | 55 => 138 | 4 => 4 | 46 => 142 | 45 => 141 | 50 => 92 | 5 => 5 | 9 => 9 | 66 => 162 | 70 => 166 | 76 => 181 | 77 => 182 | n => n, fun | n => n⟩
theorem sortF : Go.Proofs.SlLaysF0.n6 Tryz.prog sortF_ren := {
  mixed := by kernel_rfl
  f6 := ⟨Tryz.f80.name, by decide, Tryz.func80.trans (congrArg some (by kernel_rfl))⟩
  f14 := ⟨Tryz.f97.name, by decide, Tryz.func97.trans (congrArg some (by kernel_rfl))⟩
  f15 := Tryz.func90.trans (congrArg some (by kernel_rfl))
  f20 := ⟨Tryz.f120.name, by decide, Tryz.func120.trans (congrArg some (by kernel_rfl))⟩
  f21 := ⟨Tryz.f121.name, by decide, Tryz.func121.trans (congrArg some (by kernel_rfl))⟩
  f22 := ⟨Tryz.f122.name, by decide, Tryz.func122.trans (congrArg some (by kernel_rfl))⟩
  f23 := ⟨Tryz.f123.name, by decide, Tryz.func123.trans (congrArg some (by kernel_rfl))⟩
  f24 := ⟨Tryz.f124.name, by decide, Tryz.func124.trans (congrArg some (by kernel_rfl))⟩
  f25 := ⟨Tryz.f125.name, by decide, Tryz.func125.trans (congrArg some (by kernel_rfl))⟩
  f26 := ⟨Tryz.f126.name, by decide, Tryz.func126.trans (congrArg some (by kernel_rfl))⟩
  f27 := ⟨Tryz.f127.name, by decide, Tryz.func127.trans (congrArg some (by kernel_rfl))⟩
  f28 := Tryz.func112.trans (congrArg some (by kernel_rfl))
  f29 := Tryz.func113.trans (congrArg some (by kernel_rfl))
  f46 := ⟨Tryz.f135.name, by decide, Tryz.func135.trans (congrArg some (by kernel_rfl))⟩
  f47 := Tryz.func130.trans (congrArg some (by kernel_rfl))
  f48 := Tryz.func131.trans (congrArg some (by kernel_rfl))
  f49 := ⟨Tryz.f136.name, by decide, Tryz.func136.trans (congrArg some (by kernel_rfl))⟩
  f50 := ⟨Tryz.f137.name, by decide, Tryz.func137.trans (congrArg some (by kernel_rfl))⟩
  f57 := ⟨Tryz.f145.name, by decide, Tryz.func145.trans (congrArg some (by kernel_rfl))⟩
  t0 := Tryz.underlying0
  a0 := Tryz.isAgg0
  z0 := Tryz.sizeOf0
  v0 := Tryz.zeroValue0
  t3 := Tryz.underlying3
  a3 := Tryz.isAgg3
  z3 := Tryz.sizeOf3
  v3 := Tryz.zeroValue3
  t4 := Tryz.underlying4
  a4 := Tryz.isAgg4
  z4 := Tryz.sizeOf4
  v4 := Tryz.zeroValue4
  t5 := Tryz.underlying5
  a5 := Tryz.isAgg5
  z5 := Tryz.sizeOf5
  v5 := Tryz.zeroValue5
  t9 := Tryz.underlying9
  a9 := Tryz.isAgg9
  z9 := Tryz.sizeOf9
  v9 := Tryz.zeroValue9
  t22 := Tryz.underlying102
  a22 := Tryz.isAgg102
  z22 := Tryz.sizeOf102
  v22 := Tryz.zeroValue102
  t25 := Tryz.underlying122
  a25 := Tryz.isAgg122
  z25 := Tryz.sizeOf122
  v25 := Tryz.zeroValue122
  t39 := Tryz.underlying131
  a39 := Tryz.isAgg131
  z39 := Tryz.sizeOf131
  v39 := Tryz.zeroValue131
  t45 := Tryz.underlying141
  a45 := Tryz.isAgg141
  z45 := Tryz.sizeOf141
  v45 := Tryz.zeroValue141
  t46 := Tryz.underlying142
  a46 := Tryz.isAgg142
  z46 := Tryz.sizeOf142
  v46 := Tryz.zeroValue142
  t50 := Tryz.underlying92
  a50 := Tryz.isAgg92
  z50 := Tryz.sizeOf92
  v50 := Tryz.zeroValue92
  t53 := Tryz.underlying149
  a53 := Tryz.isAgg149
  z53 := Tryz.sizeOf149
  v53 := Tryz.zeroValue149
  t55 := Tryz.underlying138
  a55 := Tryz.isAgg138
  z55 := Tryz.sizeOf138
  v55 := Tryz.zeroValue138
  t66 := Tryz.underlying162
  a66 := Tryz.isAgg162
  z66 := Tryz.sizeOf162
  v66 := Tryz.zeroValue162
  t70 := Tryz.underlying166
  a70 := Tryz.isAgg166
  z70 := Tryz.sizeOf166
  v70 := Tryz.zeroValue166
  t76 := Tryz.underlying181
  a76 := Tryz.isAgg181
  z76 := Tryz.sizeOf181
  v76 := Tryz.zeroValue181
  t77 := Tryz.underlying182
  a77 := Tryz.isAgg182
  z77 := Tryz.sizeOf182
  v77 := Tryz.zeroValue182 }
end Go.Proofs.YtonblppkidpmlaaGreatDoor.E
namespace Go.Proofs.YtonblppkidpmlaaGreatDoor.E
open Go Go.RowKit Go.Sort
set_option linter.unusedSimpArgs false
set_option linter.unusedVariables false

/-- An entry: its text, its key. -/
abbrev En := Txt × Txt
def enA (r : En) : Array Value := #[tS r.1, tS r.2]
def enV (r : En) : Value := .agg (enA r)
def enF (r : En) : List Value := [tS r.1, tS r.2]
theorem enF_len (r : En) : (enF r).length = 2 := rfl
theorem enF_one (r : En) : ∀ u ∈ enF r, u.oneCell' = true := by
  intro u hu
  simp only [enF, List.mem_cons, List.not_mem_nil, or_false] at hu
  rcases hu with rfl | rfl <;> rfl
def OwnE (B : Nat) (w : World) (v : Value) (l : List En) : Prop := OwnR 2 105 w v l.length (l.flatMap enF) ∧ Fresh B v
theorem e0 : fofs Tryz.prog 105 0 = some (0, 1) := by kernel_rfl
theorem e1 : fofs Tryz.prog 105 1 = some (1, 1) := by kernel_rfl
theorem compareTS (a b : Txt) (w : World) : CallP Tryz.prog 82 #[tS a, tS b] (fun r w' => r = .int .i64 (cT a b) ∧ w' = w) w := compareT ⟨a.toArray⟩ ⟨b.toArray⟩ w
theorem cmp81x (r q : En) (w : World) : CallP Tryz.prog 81 #[enV r, enV q] (fun v w' => v = .int .i64 (cT r.1 q.1) ∧ w' = (w.alloc (.cells (enA r) 105)).alloc (.cells (enA q) 105)) w := by
  refine ⟨S81.calls _ _ _ _ ?_⟩
  unfold S81
  refine bx ?_
  have hB : Blk (w.alloc (.cells (enA r) 105)) w.heap.size 105 (enA r) := Blk.new w 105 _
  have e1 : w.alloc (.cells (enV r).cells 105) = w.alloc (.cells (enA r) 105) := rfl
  rw [e1]
  generalize w.alloc (.cells (enA r) 105) = w1 at *
  refine bx ?_
  have hC : Blk (w1.alloc (.cells (enA q) 105)) w1.heap.size 105 (enA q) := Blk.new w1 105 _
  have e2 : w1.alloc (.cells (enV q).cells 105) = w1.alloc (.cells (enA q) 105) := rfl
  rw [e2]
  have ha2 := (Below.refl w1.heap.size w1).alloc (Nat.le_refl _) (.cells (enA q) 105)
  have hB2 := hB.below' ha2
  generalize hg2 : w1.heap.size = g2 at *
  generalize w1.alloc (.cells (enA q) 105) = w2 at *
  have c0 : w2.cell? ⟨w.heap.size, 0, none⟩ = some (tS r.1) := hB2.cell 0
  have d0 : w2.cell? ⟨g2, 0, none⟩ = some (tS q.1) := hC.cell 0
  (repeat with_reducible first|refine fd e0 (by decide) ?_|refine ld one9 c0 ?_|refine ld one9 d0 ?_)
  refine (compareTS r.1 q.1 w2).mono ?_
  rintro _ _ ⟨rfl, rfl⟩
  exact ⟨rfl, rfl⟩
def cmpE (r q : En) : Int := cT r.1 q.1
theorem lt_cmpE (r q : En) : ltOf cmpE r q = decide (r.1 < q.1) := by
  unfold ltOf cmpE cT
  by_cases h1 : r.1 < q.1 <;> by_cases h2 : q.1 < r.1 <;> simp [h1, h2]
theorem swo_cmpE : Go.Sort.SWO (ltOf cmpE) := by
  refine ⟨fun x => ?_, fun x y z h1 h2 => ?_, fun x y z h1 h2 => ?_⟩
  · rw [lt_cmpE]; simp
  · rw [lt_cmpE, decide_eq_true_eq] at *; grind
  · rw [lt_cmpE, decide_eq_false_iff_not] at *; grind
theorem alloc2_growE (w : World) (a b : Obj) : (w.alloc a).alloc b = Go.Sort.grow w #[a, b] := by
  unfold World.alloc Go.Sort.grow
  have e : (w.heap.push a).push b = w.heap ++ #[a, b] := by apply Array.ext'; simp
  simp only [e]
theorem sort80 (v : Value) (l : List En) (hl : l.length ≤ 100000) (B : Nat) (w : World) (hB : B ≤ w.heap.size) (hv : OwnE B w v l) :
    CallP Tryz.prog 80 #[v, .func (.func 81) #[] #[]] (fun r w' => ∃ l', l'.Perm l ∧ (l'.Pairwise fun a b => ¬ b.1 < a.1) ∧ OwnE B w' v l' ∧ Below B w w') w := by
  obtain ⟨hlen, hv'⟩ := hv.1
  rcases hv'.imp (fun h => h) (fun h => h) with ⟨rfl, h0⟩ | ⟨g, c, cur, rfl, hb, h1, h2, h3, h4⟩
  · have := List.eq_nil_of_length_eq_zero h0
    subst this
    have h := AnyF.slices_SortFunc_none sortF none 0 (.func (.func 81) #[] #[]) w
    refine ⟨h.mono fun e w' ⟨h1, h2⟩ => ⟨_, h1, [], List.Perm.refl _, List.Pairwise.nil, ?_⟩⟩
    subst h2
    exact ⟨hv, Below.refl _ _⟩
  · have hH : HoldsK enF 2 w g 0 l.toArray := by
      intro j hj
      rw [size_flatK] at hj
      have hj : j < l.length * 2 := by simpa using hj
      rw [get_flatK _ _ _ _ (by simpa using hj)]
      obtain ⟨g', u, he, hu, hc, hf⟩ := OwnR.at (⟨hlen, .inr ⟨g, c, cur, rfl, hb, h1, h2, h3, h4⟩⟩ : OwnR 2 105 w (.slice (some ⟨g, 0, none⟩) l.length c) l.length (l.flatMap enF)) j hj
      cases he
      rw [Nat.zero_add]
      refine ⟨?_, hf⟩
      rw [hc]
      have hi : j / 2 < l.length := by omega
      have := flatMap_at enF 2 enF_len l (j / 2) (j % 2) l[j / 2] (List.getElem?_eq_getElem hi) (by omega)
      rw [Nat.div_add_mod'] at this
      rw [hu] at this
      have e : l.toArray[j / 2]! = l[j / 2] := by simp [hi]
      rw [e]
      have hlt : j % 2 < (enF l[j / 2]).length := by rw [enF_len]; omega
      rw [List.getElem?_eq_getElem hlt] at this
      rw [getElem!_pos (enF l[j / 2]) (j % 2) hlt]
      exact this
    have h := AnyQ.slices_SortFunc (α := En) sortF 2 Tryz.isAgg105 Tryz.sizeOf105 enF enF_len enF_one cmpE swo_cmpE 81 #[] g 0 c l.toArray w (enters_of Tryz.func81 (by kernel_rfl) rfl)
      (fun m os dk _ x y => (cmp81x x y _).out.mono fun e w' ⟨v, he, hv, hw⟩ => ⟨by rw [he, hv]; rfl, 0, #[.cells (enA x) 105, .cells (enA y) 105], hw.trans (alloc2_growE _ _ _)⟩) hH hb.lt (by simp; omega)
    refine ⟨h.mono fun e w' ⟨he, d', n, os, hP, hS, hw⟩ => ⟨_, he, d'.toList, ?_, ?_, ?_⟩⟩
    · have hp := hP.2.2
      have e1 : (d'.extract 0 l.toArray.size).toList = d'.toList := by rw [← hP.1, Array.extract_size]
      have e2 : (l.toArray.extract 0 l.toArray.size).toList = l := by rw [Array.extract_size]
      rwa [e1, e2] at hp
    · refine List.pairwise_iff_getElem.2 fun i j hi hj hij => ?_
      have hi' : i < d'.size := by simpa using hi
      have hj' : j < d'.size := by simpa using hj
      have := hS i j (Nat.zero_le _) hij (by rw [← hP.1]; exact hj')
      rw [lt_cmpE, decide_eq_false_iff_not, getElem!_pos d' j hj', getElem!_pos d' i hi'] at this
      simpa using this
    · have hds : d'.size = l.length := by rw [hP.1]; simp
      have hgl := hb.lt
      have hsz : w'.heap.size = w.heap.size + os.size := by
        rw [hw]
        show ((w.heap.modify g _) ++ os).size = _
        simp
      have hat : ∀ k, k < w.heap.size → w'.heap[k]? = if g = k then (w.heap[k]?).map (onCells (putCells id 0 (flatK enF 2 d'))) else w.heap[k]? := fun k hk => by
        rw [hw]
        show ((w.heap.modify g _) ++ os)[k]? = _
        rw [Array.getElem?_append_left (by simpa using hk), Array.getElem?_modify]
      have hblk : Blk w' g 105 (putCells id 0 (flatK enF 2 d') cur) := by
        have := hat g hgl
        rw [if_pos rfl, hb] at this
        exact this
      have hT : Turns (fun j => j = g) w w' := ⟨by rw [hw]; rfl, by rw [hw]; rfl, by rw [hw]; rfl, by omega, fun k hk hne => by rw [hat k hk, if_neg (fun e => hne e.symm)]⟩
      have hfl : (d'.toList.flatMap enF).length = d'.toList.length * 2 := flatMap_len enF 2 enF_len _
      have hdl : d'.toList.length = l.length := by simpa using hds
      refine ⟨⟨?_, hv.2⟩, hT.own (hv.2 g rfl) hB⟩
      refine ⟨hfl, .inr ⟨g, c, _, by rw [hdl], hblk, by omega, h2, by simp [putCells]; omega, ?_⟩⟩
      apply List.ext_getElem?
      intro j
      rw [List.getElem?_take]
      by_cases hj : j < d'.toList.length * 2
      · rw [if_pos hj]
        have hi : j / 2 < d'.toList.length := by omega
        have hi' : j / 2 < d'.size := by simpa using hi
        have := flatMap_at enF 2 enF_len d'.toList (j / 2) (j % 2) d'.toList[j / 2] (List.getElem?_eq_getElem hi) (by omega)
        rw [Nat.div_add_mod'] at this
        rw [this]
        have hjc : j < cur.size := by omega
        have hlt : j % 2 < (enF d'.toList[j / 2]).length := by rw [enF_len]; omega
        rw [List.getElem?_eq_getElem hlt]
        unfold putCells
        rw [Array.getElem?_toList, Array.getElem?_mapIdx, Array.getElem?_eq_getElem hjc, Option.map_some, if_pos ⟨Nat.zero_le _, by rw [size_flatK]; omega⟩, Nat.sub_zero, get_flatK _ _ _ _ (by omega), getElem!_pos d' (j / 2) hi']
        simp only [id, Option.some.injEq]
        have e : d'[j / 2] = d'.toList[j / 2] := by simp
        rw [e, getElem!_pos (enF d'.toList[j / 2]) (j % 2) hlt]
      · rw [if_neg hj, List.getElem?_eq_none (by omega)]
end Go.Proofs.YtonblppkidpmlaaGreatDoor.E
namespace Go.Proofs.YtonblppkidpmlaaGreatDoor.E
open Go Go.RowKit
set_option linter.unusedSimpArgs false
set_option linter.unusedVariables false

theorem esc_pre : ∀ (s t r r' : List UInt8), esc s ++ ([0, 0] ++ r) = esc t ++ ([0, 0] ++ r') → r = r'
  | [], [], r, r', h => by simpa [esc] using h
  | [], b :: t, r, r', h => by
    exfalso
    rw [esc_cons] at h
    unfold escB at h
    split at h
    · simp [esc] at h
    · rename_i hb
      simp [esc] at h
      exact hb h.1.symm
  | a :: s, [], r, r', h => by
    exfalso
    rw [esc_cons] at h
    unfold escB at h
    split at h
    · simp [esc] at h
    · rename_i hb
      simp [esc] at h
      exact hb h.1
  | a :: s, b :: t, r, r', h => by
    rw [esc_cons, esc_cons] at h
    by_cases ha : a = 0
    · by_cases hb : b = 0
      · subst ha; subst hb
        simp only [escB, ↓reduceIte, List.cons_append, List.nil_append, List.cons.injEq, true_and, List.append_assoc] at h
        exact esc_pre s t r r' h
      · exfalso
        subst ha
        simp only [escB, ↓reduceIte, if_neg hb, List.cons_append, List.nil_append, List.cons.injEq] at h
        exact hb h.1.symm
    · by_cases hb : b = 0
      · exfalso
        subst hb
        simp only [escB, ↓reduceIte, if_neg ha, List.cons_append, List.nil_append, List.cons.injEq] at h
        exact ha h.1
      · simp only [escB, if_neg ha, if_neg hb, List.cons_append, List.nil_append, List.cons.injEq, List.append_assoc] at h
        exact esc_pre s t r r' h.2
theorem full_kind {x : ValT} (h : goodV x = true) (h0 : x.1 ≠ 0) : x.1 = 1 ∨ x.1 = 2 := by
  unfold goodV at h
  rw [decide_eq_true_iff] at h
  rcases h with h | h | h
  · exact absurd h.1 h0
  · exact .inl h.1
  · exact .inr h.1
theorem encV_pre {x y : ValT} (hx : goodV x = true) (hx0 : x.1 ≠ 0) (hy : goodV y = true) (hy0 : y.1 ≠ 0) {r r' : List UInt8} (h : encV x ++ r = encV y ++ r') : r = r' := by
  unfold encV at h
  rcases full_kind hx hx0 with e | e <;> rcases full_kind hy hy0 with e' | e'
  · rw [if_pos e, if_pos e', List.cons_append, List.cons_append, List.cons.injEq] at h
    exact (List.append_inj h.2 (by rw [be8_length, be8_length])).2
  · rw [if_pos e, if_neg (by omega), if_pos e', List.cons_append, List.cons_append, List.cons.injEq] at h
    exact absurd h.1 (by decide)
  · rw [if_neg (by omega), if_pos e, if_pos e', List.cons_append, List.cons_append, List.cons.injEq] at h
    exact absurd h.1 (by decide)
  · rw [if_neg (by omega), if_pos e, if_neg (by omega), if_pos e', List.cons_append, List.cons_append, List.cons.injEq, List.append_assoc, List.append_assoc] at h
    exact esc_pre _ _ _ _ h.2
theorem encVs_pre : ∀ {l m : List ValT}, l.length = m.length → (∀ x ∈ l, goodV x = true ∧ x.1 ≠ 0) → (∀ x ∈ m, goodV x = true ∧ x.1 ≠ 0) → ∀ {r r' : List UInt8}, encVs l ++ r = encVs m ++ r' → r = r'
  | [], [], _, _, _, r, r', h => by simpa [encVs] using h
  | [], _ :: _, hl, _, _, _, _, _ => by simp at hl
  | _ :: _, [], hl, _, _, _, _, _ => by simp at hl
  | x :: l, y :: m, hl, hx, hy, r, r', h => by
    have e1 : encVs (x :: l) = encV x ++ encVs l := rfl
    have e2 : encVs (y :: m) = encV y ++ encVs m := rfl
    rw [e1, e2, List.append_assoc, List.append_assoc] at h
    have h1 := hx x (by simp)
    have h2 := hy y (by simp)
    exact encVs_pre (by simpa using hl) (fun z hz => hx z (List.mem_cons_of_mem _ hz)) (fun z hz => hy z (List.mem_cons_of_mem _ hz)) (encV_pre h1.1 h1.2 h2.1 h2.2 h)
theorem KeyOk.all {key : List ValT} (h : KeyOk key) : ∀ x ∈ key, goodV x = true ∧ x.1 ≠ 0 := fun x hx => ⟨List.all_eq_true.1 h.good x hx, h.full x hx⟩
theorem entT_inj {id : Int} {key key' : List ValT} {k k' : Txt} (h1 : KeyOk key) (h2 : KeyOk key') (hl : key.length = key'.length) (h : entT id key k = entT id key' k') : k = k' := by
  unfold entT at h
  simp only [List.append_assoc] at h
  have h := List.append_cancel_left h
  have := encVs_pre hl h1.all h2.all h
  simpa using this
theorem recE_0 {l : List ValT} (h : recE l = 0) : 1 ≤ l.length ∧ l.length ≤ 4 ∧ l.all goodV = true := by
  unfold recE at h
  split at h
  · omega
  · have := rowE_0.1 h
    exact ⟨by omega, this.1, this.2⟩
theorem showV_ok {id : Int} {fs : List Int} {rec key : List ValT} (hok : ∀ x ∈ rec, valOk x) (h : showV id fs rec = some key) : KeyOk key ∧ key.length = fs.length ∧ ∀ x ∈ key, valOk x := by
  unfold showV at h
  split at h
  · cases h
  · rename_i hn
    obtain ⟨h1, h2⟩ := shown_ok hok fs key h
    obtain ⟨_, hl1, hl2, _⟩ := ckX_0 (id := id) (fs := fs) (Classical.not_not.1 fun e => hn (.inl e))
    have hg := (recE_0 (l := rec) (Classical.not_not.1 fun e => hn (.inr e))).2.2
    refine ⟨⟨by omega, ?_, fun x hx => (h1 x hx).2.2⟩, h2, fun x hx => (h1 x hx).1⟩
    rw [List.all_eq_true] at hg ⊢
    exact fun x hx => hg x (h1 x hx).2.1
theorem entOf_some {id : Int} {fs : List Int} {low high : List ValT} {p : Txt × List ValT} {e : En} (h : entOf id fs low high p = some e) : ∃ key, showV id fs p.2 = some key ∧ liesV key low high = true ∧ e = (entT id key p.1, p.1) := by
  unfold entOf at h
  split at h
  · rename_i key hk
    split at h
    · rename_i hl
      cases h
      exact ⟨key, hk, hl, rfl⟩
    · cases h
  · cases h
/-- Entries of one area with one text are one. -/
theorem ent_one {id : Int} {fs : List Int} {low high : List ValT} {R : RowsT} (hok : ∀ p ∈ R, ∀ x ∈ p.2, valOk x) {a b : En} (ha : a ∈ R.filterMap (entOf id fs low high)) (hb : b ∈ R.filterMap (entOf id fs low high)) (h : a.1 = b.1) : a = b := by
  obtain ⟨p, hp, ha⟩ := List.mem_filterMap.1 ha
  obtain ⟨q, hq, hb⟩ := List.mem_filterMap.1 hb
  obtain ⟨key, h1, _, rfl⟩ := entOf_some ha
  obtain ⟨key', h2, _, rfl⟩ := entOf_some hb
  obtain ⟨k1, l1, _⟩ := showV_ok (hok p hp) h1
  obtain ⟨k2, l2, _⟩ := showV_ok (hok q hq) h2
  have := entT_inj k1 k2 (by omega) h
  exact Prod.ext h this
theorem le_total' (a b : Txt) : ¬ b < a ∨ ¬ a < b := by
  by_cases h : b < a
  · exact .inr (lt_asy h)
  · exact .inl h
theorem areaV_perm (R : RowsT) (id : Int) (fs : List Int) (low high : List ValT) : (areaV R id fs low high).Perm (R.filterMap (entOf id fs low high)) := List.mergeSort_perm _ _
theorem areaV_sorted (R : RowsT) (id : Int) (fs : List Int) (low high : List ValT) : (areaV R id fs low high).Pairwise fun a b => ¬ b.1 < a.1 := by
  have := List.pairwise_mergeSort (le := fun a b : En => decide (¬ b.1 < a.1)) (fun a b c h1 h2 => by
    simp only [decide_eq_true_eq] at *
    grind) (fun a b => by
    simp only [Bool.or_eq_true, decide_eq_true_eq]
    exact le_total' a.1 b.1) (R.filterMap (entOf id fs low high))
  exact this.imp fun h => by simpa using h
/-- Any order by the texts is the one. -/
theorem areaV_eq {R : RowsT} {id : Int} {fs : List Int} {low high : List ValT} (hok : ∀ p ∈ R, ∀ x ∈ p.2, valOk x) {L : List En} (hp : L.Perm (R.filterMap (entOf id fs low high))) (hs : L.Pairwise fun a b => ¬ b.1 < a.1) : L = areaV R id fs low high := by
  refine List.Perm.eq_of_pairwise (le := fun a b => ¬ b.1 < a.1) (fun a b ha hb h1 h2 => ?_) hs (areaV_sorted R id fs low high) (hp.trans (areaV_perm R id fs low high).symm)
  have ha' := hp.mem_iff.1 ha
  have hb' := (areaV_perm R id fs low high).mem_iff.1 hb
  refine ent_one hok ha' hb' ?_
  rcases lt_tri a.1 b.1 with h | h | h
  · exact absurd h h2
  · exact h
  · exact absurd h h1
end Go.Proofs.YtonblppkidpmlaaGreatDoor.E
