/-
  E22: range over a map with int keys, entries deleted on the way; look-ups.
-/
import Derived.Test.YtmnaggdhkggjhaaE21
import Derived.Maps.Range
namespace Go.Proofs.Ytmnaggdhkggjhaa.E
open Go Go.RowKit

/-- An iterator r over map b: the keys that are still to come. -/
def MapR (w : World) (b r : Nat) (l : List (Int × Value)) (todo : List Int) : Prop :=
  ∃ es clock since seen c0, w.heap[b]? = some (.map es clock) ∧ es.toList.map (fun e => (e.key, e.val)) = (l.map fun p => (Value.int .i64 p.1, p.2)) ∧
  MapKept.Stamped es clock ∧ es.size ≤ maxLen ∧ (∀ p ∈ l, (Lit.int .i64 p.1).wf = true) ∧
  w.heap[r]? = some (.mapIter (some b) since seen c0) ∧ (∀ x ∈ es.toList, x.born < since) ∧ since ≤ c0 ∧ since ≤ clock ∧
  ∀ k, k ∈ todo ↔ ∃ e ∈ es.toList, e.key = .int .i64 k ∧ seen.contains e.born = false
section
variable {w w' : World} {b r : Nat} {l : List (Int × Value)} {todo : List Int}
theorem MapR.map (h : MapR w b r l todo) : MapI w b l := by
  obtain ⟨es, clock, since, seen, c0, h1, h2, h3, h4, h5, _⟩ := h
  exact ⟨es, clock, h1, h2, h3, h4, h5⟩
theorem MapR.ltb (h : MapR w b r l todo) : b < w.heap.size := h.map.lt
theorem MapR.ltr (h : MapR w b r l todo) : r < w.heap.size := by
  obtain ⟨es, clock, since, seen, c0, h1, h2, h3, h4, h5, h6, _⟩ := h
  exact (Array.getElem?_eq_some_iff.1 h6).1
theorem MapR.ne (h : MapR w b r l todo) : r ≠ b := by
  obtain ⟨es, clock, since, seen, c0, h1, h2, h3, h4, h5, h6, _⟩ := h
  intro e
  rw [e, h1] at h6
  cases h6
theorem MapR.turns {F : Nat → Prop} (h : MapR w b r l todo) (hT : Turns F w w') (hb : ¬ F b) (hr : ¬ F r) : MapR w' b r l todo := by
  have h1 := h.ltb
  have h2 := h.ltr
  obtain ⟨es, clock, since, seen, c0, e1, e2, e3, e4, e5, e6, e7⟩ := h
  exact ⟨es, clock, since, seen, c0, (hT.block b h1 hb).trans e1, e2, e3, e4, e5, (hT.block r h2 hr).trans e6, e7⟩
theorem MapR.below (h : MapR w b r l todo) (hb : Below w.heap.size w w') : MapR w' b r l todo := h.turns (F := fun _ => False) (Turns.of_below hb) (fun h => h) (fun h => h)
end
theorem key_of {es : List MapEntry} {l : List (Int × Value)} (h : es.map (fun e => (e.key, e.val)) = l.map fun p => (Value.int .i64 p.1, p.2)) {e : MapEntry} (he : e ∈ es) : ∃ k, e.key = .int .i64 k ∧ (k, e.val) ∈ l := by
  have hm : (e.key, e.val) ∈ es.map (fun e => (e.key, e.val)) := List.mem_map.2 ⟨e, he, rfl⟩
  rw [h] at hm
  obtain ⟨p, hp, hpe⟩ := List.mem_map.1 hm
  have h1 := congrArg Prod.fst hpe
  have h2 := congrArg Prod.snd hpe
  simp only at h1 h2
  exact ⟨p.1, h1.symm, by rw [← h2]; exact hp⟩
theorem mem_of_key {es : List MapEntry} {l : List (Int × Value)} (h : es.map (fun e => (e.key, e.val)) = l.map fun p => (Value.int .i64 p.1, p.2)) {p : Int × Value} (hp : p ∈ l) : ∃ e ∈ es, e.key = .int .i64 p.1 := by
  have hm : (Value.int .i64 p.1, p.2) ∈ l.map fun p => (Value.int .i64 p.1, p.2) := List.mem_map.2 ⟨p, hp, rfl⟩
  rw [← h] at hm
  obtain ⟨e, he, hpe⟩ := List.mem_map.1 hm
  exact ⟨e, he, congrArg Prod.fst hpe⟩
theorem keys_nodup_of {es : List MapEntry} {l : List (Int × Value)} (h : es.map (fun e => (e.key, e.val)) = l.map fun p => (Value.int .i64 p.1, p.2)) (hn : (es.map (·.key)).Nodup) : (l.map (·.1)).Nodup := by
  have hk : es.map (·.key) = (l.map (·.1)).map (Value.int .i64) := by
    have := congrArg (List.map Prod.fst) h
    simpa [List.map_map, Function.comp_def] using this
  rw [hk] at hn
  exact (List.pairwise_map.1 hn).imp fun hne e => hne (by rw [e])
theorem MapI.nodup {w : World} {b : Nat} {l : List (Int × Value)} (h : MapI w b l) : (l.map (·.1)).Nodup := by
  obtain ⟨es, c, h1, h2, hst, _⟩ := h
  exact keys_nodup_of h2 hst.2.2
theorem getK_of_mem {α : Type} {k : Int} {v : α} : ∀ {l : List (Int × α)}, (l.map (·.1)).Nodup → (k, v) ∈ l → getK k l = some v
  | [], _, h => by simp at h
  | (a, u) :: r, hn, h => by
    simp only [List.map_cons, List.nodup_cons] at hn
    rw [getK]
    rcases List.mem_cons.1 h with h | h
    · cases h; rw [if_pos rfl]
    · have hne : k ≠ a := fun e => hn.1 (by rw [← e]; exact List.mem_map.2 ⟨(k, v), h, rfl⟩)
      rw [if_neg hne]
      exact getK_of_mem hn.2 h
theorem born_eq {es : List MapEntry} (hn : (es.map (·.born)).Nodup) {x y : MapEntry} (hx : x ∈ es) (hy : y ∈ es) (h : x.born = y.born) : x = y := by
  induction es with
  | nil => simp at hx
  | cons a r ih =>
    simp only [List.map_cons, List.nodup_cons] at hn
    rcases List.mem_cons.1 hx with rfl | hx'
    · rcases List.mem_cons.1 hy with rfl | hy'
      · rfl
      · exact absurd (List.mem_map.2 ⟨y, hy', h.symm⟩) hn.1
    · rcases List.mem_cons.1 hy with rfl | hy'
      · exact absurd (List.mem_map.2 ⟨x, hx', h⟩) hn.1
      · exact ih hn.2 hx' hy'
theorem key_eq {es : List MapEntry} (hn : (es.map (·.key)).Nodup) {x y : MapEntry} (hx : x ∈ es) (hy : y ∈ es) (h : x.key = y.key) : x = y := by
  induction es with
  | nil => simp at hx
  | cons a r ih =>
    simp only [List.map_cons, List.nodup_cons] at hn
    rcases List.mem_cons.1 hx with rfl | hx'
    · rcases List.mem_cons.1 hy with rfl | hy'
      · rfl
      · exact absurd (List.mem_map.2 ⟨y, hy', h.symm⟩) hn.1
    · rcases List.mem_cons.1 hy with rfl | hy'
      · exact absurd (List.mem_map.2 ⟨x, hx', h⟩) hn.1
      · exact ih hn.2 hx' hy'
theorem mem_idx {k : Int} : ∀ {es : List MapEntry} {l : List (Int × Value)} {i : Nat} {u : Value}, es.map (fun e => (e.key, e.val)) = (l.map fun p => (Value.int .i64 p.1, p.2)) → idxK k l = some (i, u) → ∃ e, es[i]? = some e ∧ e.key = .int .i64 k
  | [], l, i, u, h, hx => by
    cases l with
    | nil => simp [idxK] at hx
    | cons p r => simp at h
  | e0 :: es, l, i, u, h, hx => by
    cases l with
    | nil => simp at h
    | cons p r =>
      obtain ⟨a, y⟩ := p
      simp only [List.map_cons, List.cons.injEq, Prod.mk.injEq] at h
      obtain ⟨⟨h1, _⟩, h3⟩ := h
      rw [idxK] at hx
      split at hx
      · rename_i hk
        cases hx
        exact ⟨e0, rfl, by rw [h1, hk]⟩
      · cases hr : idxK k r with
        | none => rw [hr] at hx; simp at hx
        | some q =>
          rw [hr] at hx
          obtain ⟨j, y'⟩ := q
          simp at hx
          obtain ⟨rfl, rfl⟩ := hx
          obtain ⟨e, he, hek⟩ := mem_idx (es := es) (l := r) (k := k) h3 hr
          exact ⟨e, by simpa using he, hek⟩
section
variable {P : Program} {K : Value → World → Prop} {w : World} {b r : Nat} {l : List (Int × Value)} {todo : List Int}
/-- v := m[k] -/
theorem lkq {t e : TypeId} {z : Value} (ht : P.underlying t = some (.map 3 e)) (hk : P.underlying 3 = some (.int .i64)) (hz : (P.info? e).bind (·.zero) = some z) (h : MapI w b l) {k : Int}
    (kk : K ((getK k l).getD z) w) : LiftP P (Instr.lookup t (.map (some b)) (.int .i64 k) false) K w := by
  obtain ⟨es, c, h1, h2, _⟩ := h
  obtain ⟨i, hi, hzz⟩ := Option.bind_eq_some_iff.1 hz
  refine lift ?_ kk
  rw [getK_idx]
  cases hx : idxK k l with
  | none => simp [Instr.lookup, run_underlying ht, MapKept.run_getObj_map h1, run_chk hk, run_find hk h2, hx, zeroValue, typeInfo, hi, hzz]
  | some p => simp [Instr.lookup, run_underlying ht, MapKept.run_getObj_map h1, run_chk hk, run_find hk h2, hx]
/-- range m -/
theorem rng {t kt e : TypeId} (ht : P.underlying t = some (.map kt e)) (h : MapI w b l) (kk : ∀ w', MapR w' b w.heap.size l (l.map (·.1)) → Below w.heap.size w w' → K (.pointer (some ⟨w.heap.size, 0, none⟩)) w') :
    LiftP P (Instr.range t (.map (some b))) K w := by
  have hlt := h.lt
  obtain ⟨es, c, h1, h2, hst, hsz, hwf⟩ := h
  have ha : Below w.heap.size w (w.alloc (.mapIter (some b) c #[] c)) := (Below.refl _ _).alloc (Nat.le_refl _) _
  refine lift (v := .pointer (some ⟨w.heap.size, 0, none⟩)) (w' := w.alloc (.mapIter (some b) c #[] c)) ?_ (kk _ ⟨es, c, c, #[], c, (ha.block b hlt).trans h1, h2, hst, hsz, hwf, heap_alloc_new w _, hst.1, Nat.le_refl _, Nat.le_refl _, fun k => ?_⟩ ha)
  · simp [Instr.range, run_underlying ht, MapKept.run_getObj_map h1]
  · constructor
    · intro hk
      obtain ⟨p, hp, rfl⟩ := List.mem_map.1 hk
      obtain ⟨e, he, hek⟩ := mem_of_key h2 hp
      exact ⟨e, he, hek, by simp⟩
    · rintro ⟨e, he, hek, _⟩
      obtain ⟨k', hk', hm⟩ := key_of h2 he
      rw [hk'] at hek
      cases hek
      exact List.mem_map.2 ⟨_, hm, rfl⟩
/-- The next entry; whichever the tape says. -/
theorem nxt {ty : TypeId} (h : MapR w b r l todo) (k0 : todo = [] → K (.tuple #[.bool false]) w)
    (k1 : ∀ k v w', k ∈ todo → getK k l = some v → MapR w' b r l (todo.filter fun j => decide (j ≠ k)) → Turns (fun j => j = r) w w' → (Instr.entry (.pointer (some ⟨r, 0, none⟩))).run P w' = .ok (.tuple #[.int .i64 k, v]) w' → K (.tuple #[.bool true, .int .i64 k, v]) w') :
    LiftP P (Instr.next (.pointer (some ⟨r, 0, none⟩)) false ty) K w := by
  have hne := h.ne
  obtain ⟨es, clock, since, seen, c0, h1, h2, hst, hsz, hwf, h6, h7, h8, h9, h10⟩ := h
  have hmem : ∀ e, e ∈ (leftOf es seen).toList ↔ e ∈ es.toList ∧ seen.contains e.born = false := fun e => by
    simp [leftOf]
  rcases run_next_at (P := P) w ty r b since c0 seen es clock h6 h1 h7 h8 with ⟨h0, hr⟩ | ⟨e, he, w1, hw1, hr⟩
  · refine lift hr (k0 ?_)
    refine List.eq_nil_iff_forall_not_mem.2 fun k hk => ?_
    obtain ⟨e, he, hek, hs⟩ := (h10 k).1 hk
    have hl : (leftOf es seen).toList = [] := List.eq_nil_of_length_eq_zero (by simpa using h0)
    have := (hmem e).2 ⟨he, hs⟩
    rw [hl] at this
    simp at this
  · obtain ⟨hee, hes⟩ := (hmem e).1 he
    obtain ⟨k, hek, hkl⟩ := key_of h2 hee
    have hw1h : w1.heap = w.heap := by rcases hw1 with rfl | rfl <;> rfl
    have hr1 : w1.heap[r]? = some (.mapIter (some b) since seen c0) := by rw [hw1h]; exact h6
    have hT1 : Turns (fun j => j = r) w w1 := by
      rcases hw1 with rfl | rfl
      · exact Turns.refl _ _
      · exact (Turns.refl _ _).drew
    have hrl : r < w1.heap.size := (Array.getElem?_eq_some_iff.1 hr1).1
    have hblk : ∀ j, j ≠ r → (ChangeMaps.setBlock w1 r (.mapIter (some b) since (seen.push e.born) clock)).heap[j]? = w.heap[j]? := fun j hj => by
      show (w1.heap.setIfInBounds r _)[j]? = _
      rw [Array.getElem?_setIfInBounds_ne (Ne.symm hj), hw1h]
    have hnew : (ChangeMaps.setBlock w1 r (.mapIter (some b) since (seen.push e.born) clock)).heap[r]? = some (.mapIter (some b) since (seen.push e.born) clock) := by
      show (w1.heap.setIfInBounds r _)[r]? = _
      simp [hrl]
    have hT : Turns (fun j => j = r) w (ChangeMaps.setBlock w1 r (.mapIter (some b) since (seen.push e.born) clock)) :=
      ⟨hT1.os, hT1.tape, hT1.output, by show _ ≤ (w1.heap.setIfInBounds r _).size; rw [Array.size_setIfInBounds, hw1h]; exact Nat.le_refl _, fun j _ hj => hblk j hj⟩
    have hkt : k ∈ todo := (h10 k).2 ⟨e, hee, hek, hes⟩
    have hb' := (hblk b (Ne.symm hne)).trans h1
    rw [hek] at hr
    refine lift hr (k1 k e.val _ hkt (getK_of_mem (keys_nodup_of h2 hst.2.2) hkl) ⟨es, clock, since, seen.push e.born, clock, hb', h2, hst, hsz, hwf, hnew, h7, h9, h9, fun k' => ?_⟩ hT ?_)
    · rw [List.mem_filter]
      simp only [decide_eq_true_eq]
      constructor
      · rintro ⟨hk', hne'⟩
        obtain ⟨e', he', hek', hs'⟩ := (h10 k').1 hk'
        refine ⟨e', he', hek', ?_⟩
        rw [Array.contains_push, hs', Bool.false_or]
        simp only [beq_eq_false_iff_ne, ne_eq]
        intro hb
        have := born_eq hst.2.1 he' hee hb
        subst this
        rw [hek] at hek'
        cases hek'
        exact hne' rfl
      · rintro ⟨e', he', hek', hs'⟩
        rw [Array.contains_push, Bool.or_eq_false_iff] at hs'
        refine ⟨(h10 k').2 ⟨e', he', hek', hs'.1⟩, fun e1 => ?_⟩
        subst e1
        have := key_eq hst.2.2 he' hee (by rw [hek', hek])
        subst this
        simp at hs'
    · have := run_entry_at (P := P) _ r b since seen es clock e hnew hb' hee hst.2.1
      rw [hek] at this
      exact this
/-- delete(m, k), k having come. -/
theorem dltR {t ty e : TypeId} (ht : P.underlying t = some (.map 3 e)) (hk : P.underlying 3 = some (.int .i64)) {t2 : TypeId} {cs : Array Bool} (h : MapR w b r l todo) {k : Int} (hkt : k ∉ todo)
    (kk : ∀ w', MapR w' b r (delK k l) todo → Turns (fun j => j = b) w w' → K (.tuple #[]) w') : NextP P (builtin .delete #[t, t2] ty cs #[.map (some b), .int .i64 k]) K w := by
  have hne := h.ne
  obtain ⟨es, c, since, seen, c0, h1, h2, hst, hsz, hwf, h6, h7, h8, h9, h10⟩ := h
  cases hx : idxK k l with
  | none =>
    have hs := set_world_eq (w := w) (.map es c) h1
    refine nextV (v := .tuple #[]) (w' := { w with heap := w.heap.setIfInBounds b (.map es c) }) ?_ (kk _ ⟨es, c, since, seen, c0, hs.2, by rw [delK_none _ _ hx]; exact h2, hst, hsz, by rw [delK_none _ _ hx]; exact hwf, (hs.1.block r (Array.getElem?_eq_some_iff.1 h6).1 hne).trans h6, h7, h8, h9, h10⟩ hs.1)
    simp [builtin, Builtin.delete_, run_underlying ht, MapKept.run_getObj_map h1, run_chk hk, run_find hk h2, hx, MapKept.run_setObj_map _ h1]
  | some p =>
    obtain ⟨i, u⟩ := p
    have hs := set_world_eq (w := w) (.map (es.eraseIdxIfInBounds i) c) h1
    have hel : (es.eraseIdxIfInBounds i).toList = es.toList.eraseIdx i := by
      unfold Array.eraseIdxIfInBounds
      split
      · simp
      · rename_i hn
        rw [List.eraseIdx_of_length_le (by simpa using hn)]
    refine nextV (v := .tuple #[]) (w' := { w with heap := w.heap.setIfInBounds b (.map (es.eraseIdxIfInBounds i) c) }) ?_ (kk _ ⟨_, _, since, seen, c0, hs.2, ?_, MapKept.stamped_erase hst i, Nat.le_trans (MapFrom.size_erase es i) hsz, fun p hp => hwf p (delK_sub k l p hp), (hs.1.block r (Array.getElem?_eq_some_iff.1 h6).1 hne).trans h6, fun x hx' => ?_, h8, h9, fun k' => ?_⟩ hs.1)
    · simp [builtin, Builtin.delete_, run_underlying ht, MapKept.run_getObj_map h1, run_chk hk, run_find hk h2, hx, MapKept.run_setObj_map _ h1]
    · rw [hel]
      exact entries_del k _ _ i u h2 hx
    · rw [hel] at hx'
      exact h7 x ((List.eraseIdx_sublist _ _).subset hx')
    · rw [hel]
      constructor
      · intro hk'
        obtain ⟨e', he', hek', hs'⟩ := (h10 k').1 hk'
        refine ⟨e', ?_, hek', hs'⟩
        obtain ⟨e0, he0, hek0⟩ := mem_idx (es := es.toList) (l := l) (k := k) h2 hx
        obtain ⟨j, hj, hje⟩ := List.getElem_of_mem he'
        refine List.mem_eraseIdx_iff_getElem.2 ⟨j, hj, ?_, hje⟩
        intro e1
        subst e1
        rw [List.getElem?_eq_getElem hj, hje] at he0
        cases he0
        rw [hek'] at hek0
        cases hek0
        exact hkt hk'
      · rintro ⟨e', he', hek', hs'⟩
        exact (h10 k').2 ⟨e', (List.eraseIdx_sublist _ _).subset he', hek', hs'⟩
end
end Go.Proofs.Ytmnaggdhkggjhaa.E
