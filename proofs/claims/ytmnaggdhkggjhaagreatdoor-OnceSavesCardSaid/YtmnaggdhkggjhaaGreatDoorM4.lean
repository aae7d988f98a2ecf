import Derived.Test.YtmnaggdhkggjhaaGreatDoorM3
import Derived.Maps.Range
import Derived.Laws.StructEq
import Derived.Test.YtmnaggdhkggjhaaGreatDoorM1
import Derived.Test.YtmnaggdhkggjhaaGreatDoorProg
import Derived.KernelRfl
namespace Go.Proofs.YtmnaggdhkggjhaaGreatDoor.E
open Go Go.RowKit

/-- An iterator r over map b: the keys that are still to come. -/
def MapR (w : World) (b r : Nat) (l : List (Int × Value)) (todo : List Int) : Prop :=
  ∃ es clock since seen c0, w.heap[b]? = some (.map es clock) ∧ es.toList.map (fun e => (e.key, e.val)) = (l.map fun p => (Value.int .i64 p.1, p.2)) ∧
  MapKept.Stamped es clock ∧ es.size ≤ maxLen ∧ (∀ p ∈ l, (Lit.int .i64 p.1).wf = true) ∧
  w.heap[r]? = some (.mapIter (some b) since seen c0) ∧ (∀ x ∈ es.toList, x.born < since) ∧ since ≤ c0 ∧ since ≤ clock ∧
  ∀ k, k ∈ todo ↔ ∃ e ∈ es.toList, e.key = .int .i64 k ∧ seen.contains e.born = false
section
variable {w w' : World} {b r : Nat} {l : List (Int × Value)} {todo : List Int}
theorem MapR.map (h : MapR w b r l todo) : MapI w b l := by
  obtain ⟨es, clock, since, seen, c0, h1, h2, h3, h4, h5, _⟩ := h
  exact ⟨es, clock, h1, h2, h3, h4, h5⟩
theorem MapR.ltb (h : MapR w b r l todo) : b < w.heap.size := h.map.lt
theorem MapR.ltr (h : MapR w b r l todo) : r < w.heap.size := by
  obtain ⟨es, clock, since, seen, c0, h1, h2, h3, h4, h5, h6, _⟩ := h
  exact (Array.getElem?_eq_some_iff.1 h6).1
theorem MapR.ne (h : MapR w b r l todo) : r ≠ b := by
  obtain ⟨es, clock, since, seen, c0, h1, h2, h3, h4, h5, h6, _⟩ := h
  intro e
  rw [e, h1] at h6
  cases h6
theorem MapR.turns {F : Nat → Prop} (h : MapR w b r l todo) (hT : Turns F w w') (hb : ¬ F b) (hr : ¬ F r) : MapR w' b r l todo := by
  have h1 := h.ltb
  have h2 := h.ltr
  obtain ⟨es, clock, since, seen, c0, e1, e2, e3, e4, e5, e6, e7⟩ := h
  exact ⟨es, clock, since, seen, c0, (hT.block b h1 hb).trans e1, e2, e3, e4, e5, (hT.block r h2 hr).trans e6, e7⟩
theorem MapR.below (h : MapR w b r l todo) (hb : Below w.heap.size w w') : MapR w' b r l todo := h.turns (F := fun _ => False) (Turns.of_below hb) (fun h => h) (fun h => h)
end
theorem key_of {es : List MapEntry} {l : List (Int × Value)} (h : es.map (fun e => (e.key, e.val)) = l.map fun p => (Value.int .i64 p.1, p.2)) {e : MapEntry} (he : e ∈ es) : ∃ k, e.key = .int .i64 k ∧ (k, e.val) ∈ l := by
  have hm : (e.key, e.val) ∈ es.map (fun e => (e.key, e.val)) := List.mem_map.2 ⟨e, he, rfl⟩
  rw [h] at hm
  obtain ⟨p, hp, hpe⟩ := List.mem_map.1 hm
  have h1 := congrArg Prod.fst hpe
  have h2 := congrArg Prod.snd hpe
  simp only at h1 h2
  exact ⟨p.1, h1.symm, by rw [← h2]; exact hp⟩
theorem mem_of_key {es : List MapEntry} {l : List (Int × Value)} (h : es.map (fun e => (e.key, e.val)) = l.map fun p => (Value.int .i64 p.1, p.2)) {p : Int × Value} (hp : p ∈ l) : ∃ e ∈ es, e.key = .int .i64 p.1 := by
  have hm : (Value.int .i64 p.1, p.2) ∈ l.map fun p => (Value.int .i64 p.1, p.2) := List.mem_map.2 ⟨p, hp, rfl⟩
  rw [← h] at hm
  obtain ⟨e, he, hpe⟩ := List.mem_map.1 hm
  exact ⟨e, he, congrArg Prod.fst hpe⟩
theorem keys_nodup_of {es : List MapEntry} {l : List (Int × Value)} (h : es.map (fun e => (e.key, e.val)) = l.map fun p => (Value.int .i64 p.1, p.2)) (hn : (es.map (·.key)).Nodup) : (l.map (·.1)).Nodup := by
  have hk : es.map (·.key) = (l.map (·.1)).map (Value.int .i64) := by
    have := congrArg (List.map Prod.fst) h
    simpa [List.map_map, Function.comp_def] using this
  rw [hk] at hn
  exact (List.pairwise_map.1 hn).imp fun hne e => hne (by rw [e])
theorem MapI.nodup {w : World} {b : Nat} {l : List (Int × Value)} (h : MapI w b l) : (l.map (·.1)).Nodup := by
  obtain ⟨es, c, h1, h2, hst, _⟩ := h
  exact keys_nodup_of h2 hst.2.2
theorem getK_of_mem {α : Type} {k : Int} {v : α} : ∀ {l : List (Int × α)}, (l.map (·.1)).Nodup → (k, v) ∈ l → getK k l = some v
  | [], _, h => by simp at h
  | (a, u) :: r, hn, h => by
    simp only [List.map_cons, List.nodup_cons] at hn
    rw [getK]
    rcases List.mem_cons.1 h with h | h
    · cases h; rw [if_pos rfl]
    · have hne : k ≠ a := fun e => hn.1 (by rw [← e]; exact List.mem_map.2 ⟨(k, v), h, rfl⟩)
      rw [if_neg hne]
      exact getK_of_mem hn.2 h
theorem born_eq {es : List MapEntry} (hn : (es.map (·.born)).Nodup) {x y : MapEntry} (hx : x ∈ es) (hy : y ∈ es) (h : x.born = y.born) : x = y := by
  induction es with
  | nil => simp at hx
  | cons a r ih =>
    simp only [List.map_cons, List.nodup_cons] at hn
    rcases List.mem_cons.1 hx with rfl | hx'
    · rcases List.mem_cons.1 hy with rfl | hy'
      · rfl
      · exact absurd (List.mem_map.2 ⟨y, hy', h.symm⟩) hn.1
    · rcases List.mem_cons.1 hy with rfl | hy'
      · exact absurd (List.mem_map.2 ⟨x, hx', h⟩) hn.1
      · exact ih hn.2 hx' hy'
theorem key_eq {es : List MapEntry} (hn : (es.map (·.key)).Nodup) {x y : MapEntry} (hx : x ∈ es) (hy : y ∈ es) (h : x.key = y.key) : x = y := by
  induction es with
  | nil => simp at hx
  | cons a r ih =>
    simp only [List.map_cons, List.nodup_cons] at hn
    rcases List.mem_cons.1 hx with rfl | hx'
    · rcases List.mem_cons.1 hy with rfl | hy'
      · rfl
      · exact absurd (List.mem_map.2 ⟨y, hy', h.symm⟩) hn.1
    · rcases List.mem_cons.1 hy with rfl | hy'
      · exact absurd (List.mem_map.2 ⟨x, hx', h⟩) hn.1
      · exact ih hn.2 hx' hy'
theorem mem_idx {k : Int} : ∀ {es : List MapEntry} {l : List (Int × Value)} {i : Nat} {u : Value}, es.map (fun e => (e.key, e.val)) = (l.map fun p => (Value.int .i64 p.1, p.2)) → idxK k l = some (i, u) → ∃ e, es[i]? = some e ∧ e.key = .int .i64 k
  | [], l, i, u, h, hx => by
    cases l with
    | nil => simp [idxK] at hx
    | cons p r => simp at h
  | e0 :: es, l, i, u, h, hx => by
    cases l with
    | nil => simp at h
    | cons p r =>
      obtain ⟨a, y⟩ := p
      simp only [List.map_cons, List.cons.injEq, Prod.mk.injEq] at h
      obtain ⟨⟨h1, _⟩, h3⟩ := h
      rw [idxK] at hx
      split at hx
      · rename_i hk
        cases hx
        exact ⟨e0, rfl, by rw [h1, hk]⟩
      · cases hr : idxK k r with
        | none => rw [hr] at hx; simp at hx
        | some q =>
          rw [hr] at hx
          obtain ⟨j, y'⟩ := q
          simp at hx
          obtain ⟨rfl, rfl⟩ := hx
          obtain ⟨e, he, hek⟩ := mem_idx (es := es) (l := r) (k := k) h3 hr
          exact ⟨e, by simpa using he, hek⟩
section
variable {P : Program} {K : Value → World → Prop} {w : World} {b r : Nat} {l : List (Int × Value)} {todo : List Int}
/-- v := m[k] -/
theorem lkq {t e : TypeId} {z : Value} (ht : P.underlying t = some (.map 3 e)) (hk : P.underlying 3 = some (.int .i64)) (hz : (P.info? e).bind (·.zero) = some z) (h : MapI w b l) {k : Int}
    (kk : K ((getK k l).getD z) w) : LiftP P (Instr.lookup t (.map (some b)) (.int .i64 k) false) K w := by
  obtain ⟨es, c, h1, h2, _⟩ := h
  obtain ⟨i, hi, hzz⟩ := Option.bind_eq_some_iff.1 hz
  refine lift ?_ kk
  rw [getK_idx]
  cases hx : idxK k l with
  | none => simp [Instr.lookup, run_underlying ht, MapKept.run_getObj_map h1, run_chk hk, run_find hk h2, hx, zeroValue, typeInfo, hi, hzz]
  | some p => simp [Instr.lookup, run_underlying ht, MapKept.run_getObj_map h1, run_chk hk, run_find hk h2, hx]
/-- range m -/
theorem rng {t kt e : TypeId} (ht : P.underlying t = some (.map kt e)) (h : MapI w b l) (kk : ∀ w', MapR w' b w.heap.size l (l.map (·.1)) → Below w.heap.size w w' → K (.pointer (some ⟨w.heap.size, 0, none⟩)) w') :
    LiftP P (Instr.range t (.map (some b))) K w := by
  have hlt := h.lt
  obtain ⟨es, c, h1, h2, hst, hsz, hwf⟩ := h
  have ha : Below w.heap.size w (w.alloc (.mapIter (some b) c #[] c)) := (Below.refl _ _).alloc (Nat.le_refl _) _
  refine lift (v := .pointer (some ⟨w.heap.size, 0, none⟩)) (w' := w.alloc (.mapIter (some b) c #[] c)) ?_ (kk _ ⟨es, c, c, #[], c, (ha.block b hlt).trans h1, h2, hst, hsz, hwf, heap_alloc_new w _, hst.1, Nat.le_refl _, Nat.le_refl _, fun k => ?_⟩ ha)
  · simp [Instr.range, run_underlying ht, MapKept.run_getObj_map h1]
  · constructor
    · intro hk
      obtain ⟨p, hp, rfl⟩ := List.mem_map.1 hk
      obtain ⟨e, he, hek⟩ := mem_of_key h2 hp
      exact ⟨e, he, hek, by simp⟩
    · rintro ⟨e, he, hek, _⟩
      obtain ⟨k', hk', hm⟩ := key_of h2 he
      rw [hk'] at hek
      cases hek
      exact List.mem_map.2 ⟨_, hm, rfl⟩
/-- The next entry; whichever the tape says. -/
theorem nxt {ty : TypeId} (h : MapR w b r l todo) (k0 : todo = [] → K (.tuple #[.bool false]) w)
    (k1 : ∀ k v w', k ∈ todo → getK k l = some v → MapR w' b r l (todo.filter fun j => decide (j ≠ k)) → Turns (fun j => j = r) w w' → (Instr.entry (.pointer (some ⟨r, 0, none⟩))).run P w' = .ok (.tuple #[.int .i64 k, v]) w' → K (.tuple #[.bool true, .int .i64 k, v]) w') :
    LiftP P (Instr.next (.pointer (some ⟨r, 0, none⟩)) false ty) K w := by
  have hne := h.ne
  obtain ⟨es, clock, since, seen, c0, h1, h2, hst, hsz, hwf, h6, h7, h8, h9, h10⟩ := h
  have hmem : ∀ e, e ∈ (leftOf es seen).toList ↔ e ∈ es.toList ∧ seen.contains e.born = false := fun e => by
    simp [leftOf]
  rcases run_next_at (P := P) w ty r b since c0 seen es clock h6 h1 h7 h8 with ⟨h0, hr⟩ | ⟨e, he, w1, hw1, hr⟩
  · refine lift hr (k0 ?_)
    refine List.eq_nil_iff_forall_not_mem.2 fun k hk => ?_
    obtain ⟨e, he, hek, hs⟩ := (h10 k).1 hk
    have hl : (leftOf es seen).toList = [] := List.eq_nil_of_length_eq_zero (by simpa using h0)
    have := (hmem e).2 ⟨he, hs⟩
    rw [hl] at this
    simp at this
  · obtain ⟨hee, hes⟩ := (hmem e).1 he
    obtain ⟨k, hek, hkl⟩ := key_of h2 hee
    have hw1h : w1.heap = w.heap := by rcases hw1 with rfl | rfl <;> rfl
    have hr1 : w1.heap[r]? = some (.mapIter (some b) since seen c0) := by rw [hw1h]; exact h6
    have hT1 : Turns (fun j => j = r) w w1 := by
      rcases hw1 with rfl | rfl
      · exact Turns.refl _ _
      · exact (Turns.refl _ _).drew
    have hrl : r < w1.heap.size := (Array.getElem?_eq_some_iff.1 hr1).1
    have hblk : ∀ j, j ≠ r → (ChangeMaps.setBlock w1 r (.mapIter (some b) since (seen.push e.born) clock)).heap[j]? = w.heap[j]? := fun j hj => by
      show (w1.heap.setIfInBounds r _)[j]? = _
      rw [Array.getElem?_setIfInBounds_ne (Ne.symm hj), hw1h]
    have hnew : (ChangeMaps.setBlock w1 r (.mapIter (some b) since (seen.push e.born) clock)).heap[r]? = some (.mapIter (some b) since (seen.push e.born) clock) := by
      show (w1.heap.setIfInBounds r _)[r]? = _
      simp [hrl]
    have hT : Turns (fun j => j = r) w (ChangeMaps.setBlock w1 r (.mapIter (some b) since (seen.push e.born) clock)) :=
      ⟨hT1.os, hT1.tape, hT1.output, by show _ ≤ (w1.heap.setIfInBounds r _).size; rw [Array.size_setIfInBounds, hw1h]; exact Nat.le_refl _, fun j _ hj => hblk j hj⟩
    have hkt : k ∈ todo := (h10 k).2 ⟨e, hee, hek, hes⟩
    have hb' := (hblk b (Ne.symm hne)).trans h1
    rw [hek] at hr
    refine lift hr (k1 k e.val _ hkt (getK_of_mem (keys_nodup_of h2 hst.2.2) hkl) ⟨es, clock, since, seen.push e.born, clock, hb', h2, hst, hsz, hwf, hnew, h7, h9, h9, fun k' => ?_⟩ hT ?_)
    · rw [List.mem_filter]
      simp only [decide_eq_true_eq]
      constructor
      · rintro ⟨hk', hne'⟩
        obtain ⟨e', he', hek', hs'⟩ := (h10 k').1 hk'
        refine ⟨e', he', hek', ?_⟩
        rw [Array.contains_push, hs', Bool.false_or]
        simp only [beq_eq_false_iff_ne, ne_eq]
        intro hb
        have := born_eq hst.2.1 he' hee hb
        subst this
        rw [hek] at hek'
        cases hek'
        exact hne' rfl
      · rintro ⟨e', he', hek', hs'⟩
        rw [Array.contains_push, Bool.or_eq_false_iff] at hs'
        refine ⟨(h10 k').2 ⟨e', he', hek', hs'.1⟩, fun e1 => ?_⟩
        subst e1
        have := key_eq hst.2.2 he' hee (by rw [hek', hek])
        subst this
        simp at hs'
    · have := run_entry_at (P := P) _ r b since seen es clock e hnew hb' hee hst.2.1
      rw [hek] at this
      exact this
/-- delete(m, k), k having come. -/
theorem dltR {t ty e : TypeId} (ht : P.underlying t = some (.map 3 e)) (hk : P.underlying 3 = some (.int .i64)) {t2 : TypeId} {cs : Array Bool} (h : MapR w b r l todo) {k : Int} (hkt : k ∉ todo)
    (kk : ∀ w', MapR w' b r (delK k l) todo → Turns (fun j => j = b) w w' → K (.tuple #[]) w') : NextP P (builtin .delete #[t, t2] ty cs #[.map (some b), .int .i64 k]) K w := by
  have hne := h.ne
  obtain ⟨es, c, since, seen, c0, h1, h2, hst, hsz, hwf, h6, h7, h8, h9, h10⟩ := h
  cases hx : idxK k l with
  | none =>
    have hs := set_world_eq (w := w) (.map es c) h1
    refine nextV (v := .tuple #[]) (w' := { w with heap := w.heap.setIfInBounds b (.map es c) }) ?_ (kk _ ⟨es, c, since, seen, c0, hs.2, by rw [delK_none _ _ hx]; exact h2, hst, hsz, by rw [delK_none _ _ hx]; exact hwf, (hs.1.block r (Array.getElem?_eq_some_iff.1 h6).1 hne).trans h6, h7, h8, h9, h10⟩ hs.1)
    simp [builtin, Builtin.delete_, run_underlying ht, MapKept.run_getObj_map h1, run_chk hk, run_find hk h2, hx, MapKept.run_setObj_map _ h1]
  | some p =>
    obtain ⟨i, u⟩ := p
    have hs := set_world_eq (w := w) (.map (es.eraseIdxIfInBounds i) c) h1
    have hel : (es.eraseIdxIfInBounds i).toList = es.toList.eraseIdx i := by
      unfold Array.eraseIdxIfInBounds
      split
      · simp
      · rename_i hn
        rw [List.eraseIdx_of_length_le (by simpa using hn)]
    refine nextV (v := .tuple #[]) (w' := { w with heap := w.heap.setIfInBounds b (.map (es.eraseIdxIfInBounds i) c) }) ?_ (kk _ ⟨_, _, since, seen, c0, hs.2, ?_, MapKept.stamped_erase hst i, Nat.le_trans (MapFrom.size_erase es i) hsz, fun p hp => hwf p (delK_sub k l p hp), (hs.1.block r (Array.getElem?_eq_some_iff.1 h6).1 hne).trans h6, fun x hx' => ?_, h8, h9, fun k' => ?_⟩ hs.1)
    · simp [builtin, Builtin.delete_, run_underlying ht, MapKept.run_getObj_map h1, run_chk hk, run_find hk h2, hx, MapKept.run_setObj_map _ h1]
    · rw [hel]
      exact entries_del k _ _ i u h2 hx
    · rw [hel] at hx'
      exact h7 x ((List.eraseIdx_sublist _ _).subset hx')
    · rw [hel]
      constructor
      · intro hk'
        obtain ⟨e', he', hek', hs'⟩ := (h10 k').1 hk'
        refine ⟨e', ?_, hek', hs'⟩
        obtain ⟨e0, he0, hek0⟩ := mem_idx (es := es.toList) (l := l) (k := k) h2 hx
        obtain ⟨j, hj, hje⟩ := List.getElem_of_mem he'
        refine List.mem_eraseIdx_iff_getElem.2 ⟨j, hj, ?_, hje⟩
        intro e1
        subst e1
        rw [List.getElem?_eq_getElem hj, hje] at he0
        cases he0
        rw [hek'] at hek0
        cases hek0
        exact hkt hk'
      · rintro ⟨e', he', hek', hs'⟩
        exact (h10 k').2 ⟨e', (List.eraseIdx_sublist _ _).subset he', hek', hs'⟩
end
end Go.Proofs.YtmnaggdhkggjhaaGreatDoor.E
namespace Go.Proofs.YtmnaggdhkggjhaaGreatDoor.E
open Go Go.RowKit

theorem rRow.at {α : Type} {s : Nat} {r : Rdr α} {w : World} {A : Option Addr} {n c : Nat} {l : List α} (h : rRow s r w [.slice A n c] l) (i : Nat) (hi : i < l.length) :
    ∃ a us, A = some a ∧ us.length = s ∧ (∀ j u, us[j]? = some u → w.cell? ((a.add (i * s)).add j) = some u) ∧ r w us l[i] := by
  obtain ⟨A', c', he, _, _, h⟩ := h
  simp only [List.cons.injEq, Value.slice.injEq] at he
  obtain ⟨⟨rfl, _, _⟩, _⟩ := he
  obtain ⟨a, us, h1, h2, h3, h4⟩ := h i l[i] (List.getElem?_eq_getElem hi)
  exact ⟨a, us, h1, h2, fun j u hu => by rw [Addr.add_add]; exact h3 j u hu, h4⟩
theorem rRow.slice {α : Type} {s : Nat} {r : Rdr α} {w : World} {v : Value} {l : List α} (h : rRow s r w [v] l) : ∃ A c, v = .slice A l.length c ∧ l.length ≤ c ∧ c ≤ 9223372036854775807 := by
  obtain ⟨A, c, he, h1, h2, _⟩ := h
  simp only [List.cons.injEq, and_true] at he
  exact ⟨A, c, he, h1, by simp only [maxLen] at h2; omega⟩
theorem keepC {w : World} {a : Addr} {us : List Value} (h : ∀ j u, us[j]? = some u → w.cell? (a.add j) = some u) : ∀ w', Below w.heap.size w w' → ∀ j u, us[j]? = some u → w'.cell? (a.add j) = some u := fun w' hb j u hu => by rw [hb.cell (World.block_lt_of_cell? _ _ (h j u hu)), h j u hu]

section
variable {w w' : World}
theorem blk_ne {t t' : TypeId} {g g' : Nat} {cs cs' : Array Value} (h : Blk w g t cs) (h' : Blk w g' t' cs') (ht : t ≠ t') : g ≠ g' := by
  rintro rfl
  have := h.symm.trans h'
  simp only [Option.some.injEq, Obj.cells.injEq] at this
  exact ht this.2.1
theorem map_ne {t : TypeId} {g b : Nat} {cs : Array Value} {l : List (Int × Value)} (h : Blk w g t cs) (h' : MapI w b l) : g ≠ b := by
  rintro rfl
  obtain ⟨es, cl, h1, _⟩ := h'
  have := h.symm.trans h1
  cases this
end
theorem getK_map {α β : Type} (f : α → β) (k : Int) : ∀ l : List (Int × α), getK k (l.map fun x => (x.1, f x.2)) = (getK k l).map f
  | [] => rfl
  | (a, v) :: r => by
    simp only [List.map_cons, getK]
    split
    · rfl
    · exact getK_map f k r
theorem delK_map {α β : Type} (f : α → β) (k : Int) : ∀ l : List (Int × α), delK k (l.map fun x => (x.1, f x.2)) = (delK k l).map fun x => (x.1, f x.2)
  | [] => rfl
  | (a, v) :: r => by
    simp only [List.map_cons, delK]
    split
    · rfl
    · rw [delK_map f k r]; rfl
theorem setK_map {α β : Type} (f : α → β) (k : Int) (v : α) : ∀ l : List (Int × α), setK k (f v) (l.map fun x => (x.1, f x.2)) = (setK k v l).map fun x => (x.1, f x.2)
  | [] => rfl
  | (a, u) :: r => by
    simp only [List.map_cons, setK]
    split
    · rfl
    · rw [setK_map f k v r]; rfl
theorem getK_mem {α : Type} (k : Int) (v : α) : ∀ l : List (Int × α), getK k l = some v → (k, v) ∈ l
  | [], h => by cases h
  | (a, u) :: r, h => by
    rw [getK] at h
    split at h
    · rename_i hk
      cases h; rw [hk]; simp
    · exact List.mem_cons_of_mem _ (getK_mem k v r h)
theorem setK_new {α : Type} (k : Int) (v : α) : ∀ l : List (Int × α), getK k l = none → setK k v l = l ++ [(k, v)]
  | [], _ => rfl
  | (a, u) :: r, h => by
    rw [getK] at h
    split at h
    · cases h
    · rename_i hk
      rw [setK, if_neg hk, setK_new k v r h]; rfl
theorem getK_app {α : Type} (k : Int) (v : α) : ∀ l : List (Int × α), getK k l = none → getK k (l ++ [(k, v)]) = some v
  | [], _ => by simp [getK]
  | (a, u) :: r, h => by
    rw [getK] at h
    split at h
    · cases h
    · rename_i hk
      rw [List.cons_append, getK, if_neg hk, getK_app k v r h]
theorem delK_filter {α : Type} (k : Int) : ∀ l : List (Int × α), (l.map (·.1)).Nodup → delK k l = l.filter fun p => decide (p.1 ≠ k)
  | [], _ => rfl
  | (a, u) :: r, h => by
    simp only [List.map_cons, List.nodup_cons] at h
    rw [delK, List.filter_cons]
    by_cases hk : k = a
    · rw [if_pos hk]
      subst hk
      simp only [ne_eq, not_true_eq_false, decide_false, Bool.false_eq_true, if_false]
      refine (List.filter_eq_self.2 fun p hp => ?_).symm
      simp only [decide_eq_true_eq]
      exact fun e => h.1 (by rw [← e]; exact List.mem_map.2 ⟨p, hp, rfl⟩)
    · rw [if_neg hk]
      simp only [ne_eq, decide_eq_true_eq]
      rw [if_pos (fun e => hk e.symm), delK_filter k r h.2]
theorem exists_min {I : Nat → Prop} : ∀ n, I n → ∃ m, I m ∧ ∀ k, I k → m ≤ k := by
  intro n
  induction n using Nat.strongRecOn with
  | ind n ih =>
    intro h
    by_cases hk : ∃ k, I k ∧ k < n
    · obtain ⟨k, h1, h2⟩ := hk
      exact ih k h2 h1
    · exact ⟨n, h, fun k hk' => Nat.le_of_not_lt fun hlt => hk ⟨k, hk', hlt⟩⟩
theorem setK_mem' {α : Type} {k : Int} {v : α} : ∀ {l : List (Int × α)} {p : Int × α}, (l.map (·.1)).Nodup → p ∈ setK k v l → p = (k, v) ∨ (p ∈ l ∧ p.1 ≠ k)
  | [], p, _, h => by
    simp only [setK, List.mem_cons, List.not_mem_nil, or_false] at h
    exact .inl h
  | (a, u) :: r, p, hn, h => by
    simp only [List.map_cons, List.nodup_cons] at hn
    rw [setK] at h
    split at h
    · rename_i hk
      rcases List.mem_cons.1 h with h | h
      · exact .inl h
      · refine .inr ⟨List.mem_cons_of_mem _ h, fun e => hn.1 ?_⟩
        rw [← hk, ← e]
        exact List.mem_map.2 ⟨p, h, rfl⟩
    · rename_i hk
      rcases List.mem_cons.1 h with h | h
      · rw [h]
        exact .inr ⟨by simp, fun e => hk e.symm⟩
      · exact (setK_mem' hn.2 h).imp id fun h => ⟨List.mem_cons_of_mem _ h.1, h.2⟩
theorem setK_same {α β : Type} (f : α → β) {k : Int} {v v0 : α} (he : f v = f v0) : ∀ {l : List (Int × α)}, getK k l = some v0 → ((setK k v l).map fun p => (p.1, f p.2)) = l.map fun p => (p.1, f p.2)
  | [], h => by cases h
  | (a, u) :: r, h => by
    rw [getK] at h
    rw [setK]
    split at h
    · rename_i hk
      rw [if_pos hk]
      cases h
      rw [List.map_cons, List.map_cons, he, hk]
    · rename_i hk
      rw [if_neg hk, List.map_cons, List.map_cons, setK_same f he h]
theorem foldl_min {α : Type} : ∀ (r : List (Int × α)) (a : Int), (r.foldl (fun a q => min a q.1) a = a ∨ ∃ q ∈ r, r.foldl (fun a q => min a q.1) a = q.1) ∧ r.foldl (fun a q => min a q.1) a ≤ a ∧ ∀ q ∈ r, r.foldl (fun a q => min a q.1) a ≤ q.1
  | [], a => ⟨.inl rfl, Int.le_refl _, fun q h => by simp at h⟩
  | p :: r, a => by
    obtain ⟨h1, h2, h3⟩ := foldl_min r (min a p.1)
    simp only [List.foldl_cons]
    refine ⟨?_, by omega, fun q hq => ?_⟩
    · rcases h1 with h1 | ⟨q, hq, h1⟩
      · rw [h1]
        by_cases hle : a ≤ p.1
        · left; omega
        · right; exact ⟨p, by simp, by omega⟩
      · right; exact ⟨q, by simp [hq], h1⟩
    · rcases List.mem_cons.1 hq with rfl | hq
      · omega
      · exact h3 q hq
theorem min_unique {ys zs : List Int} (hp : ys.Perm zs) {a b : Int} (ha : a ∈ ys) (ha' : ∀ y ∈ ys, a ≤ y) (hb : b ∈ zs) (hb' : ∀ y ∈ zs, b ≤ y) : a = b :=
  Int.le_antisymm (ha' b (hp.mem_iff.2 hb)) (hb' a (hp.mem_iff.1 ha))
theorem delK_len {α : Type} (k : Int) (v : α) : ∀ (l : List (Int × α)), getK k l = some v → (delK k l).length + 1 = l.length
  | [], h => by cases h
  | (a, u) :: l, h => by
    rw [getK] at h
    rw [delK]
    split at h
    · rename_i hk; rw [if_pos hk]; rfl
    · rename_i hk; rw [if_neg hk, List.length_cons, delK_len k v l h, List.length_cons]
section
variable {P : Program} {K : Value → World → Prop} {S : World → Prop} {w : World}
theorem yixA {t e : TypeId} (h : P.underlying t = some (.slice e)) {s : Nat} (hs : (P.info? e).map (·.size) = some s) {a : Addr} {n c : Nat} {kd : IntKind} (i : Nat) (h1 : i < n)
    (k : K (.pointer (some (a.add (i * s)))) w) : YieldP P S (Instr.indexAt t (.slice (some a) n c) (.int kd (i : Int))) K w := by
  obtain ⟨j, hj, hs⟩ := Option.map_eq_some_iff.1 hs
  refine yld (v := .pointer (some (a.add (i * s)))) (fun w' _ => ?_) k
  simp [Instr.indexAt, run_underlying h, asIntOf, h1, sizeOf, typeInfo, hj, hs]
theorem yfdA {s : TypeId} {i o n : Nat} (h : fofs P s i = some (o, n)) (hn : n ≠ 0) {a : Addr} (k : K (.pointer (some (a.add o))) w) : YieldP P S (Instr.fieldAt s (.pointer (some a)) i) K w := yld (fun w' _ => run_fd h hn a w') k
theorem fdA {s : TypeId} {i o n : Nat} (h : fofs P s i = some (o, n)) (hn : n ≠ 0) {a : Addr} (k : K (.pointer (some (a.add o))) w) : LiftP P (Instr.fieldAt s (.pointer (some a)) i) K w := lift (run_fd h hn a w) k
theorem yldR {t : TypeId} (ha : aggB P t = true) {a : Addr} {us : List Value} (hc : ∀ w', S w' → ∀ j u, us[j]? = some u → w'.cell? (a.add j) = some u) (hi : (P.info? t).map (·.size) = some us.length)
    (k : K (.agg us.toArray) w) : YieldP P S (Instr.loadAt t (.pointer (some a))) K w := by
  refine yld (v := .agg us.toArray) (fun w' hw => ?_) k
  unfold aggB at ha
  cases hu : P.underlying t with
  | none => rw [hu] at ha; cases ha
  | some d =>
    rw [hu] at ha
    have hl : (loadCells a us.length).run P w' = .ok us.toArray w' := run_loadCells_list (P := P) w' a us (hc w' hw)
    cases hq : P.info? t with
    | none => simp [hq] at hi
    | some i =>
      have hs : i.size = us.length := by simpa [hq] using hi
      have hagg : (isAgg t).run P w' = .ok true w' := by
        unfold isAgg
        rw [Sem.run_bind, run_underlying hu w']
        cases d <;> simp_all
      simp [Instr.loadAt, Instr.sureAddr, loadVar, Sem.run_bind, hagg, sizeOf, typeInfo, hq, hs, hl]
end
theorem yldA {P : Program} {K : Value → World → Prop} {S : World → Prop} {w : World} {t : TypeId} (ha : aggB P t = true) {g : Nat} {cells : Array Value} (hb : ∀ w', S w' → Blk w' g t cells) (hi : (P.info? t).map (·.size) = some cells.size) (k : K (.agg cells) w) : YieldP P S (Instr.loadAt t (.pointer (some ⟨g, 0, none⟩))) K w :=
  yld (fun w' h => by simpa [Instr.loadAt, Instr.sureAddr] using run_ldA ha (hb w' h) hi) k
open Classical in
theorem LoopP.inv0n {body : (List Value → World → Prop) → List Value → World → Prop} {w : World} (I : Nat → World → Prop) (n0 : Nat) (h0 : I n0 w)
    (hr : ∀ n w', I n w' → ∀ J : List Value → World → Prop, (∀ m w'', m < n → I m w'' → J [] w'') → body J [] w') : LoopP body [] w := by
  refine LoopP.inv0 (fun w' => ∃ n, I n w') (fun w' => if h : ∃ n, I n w' then Classical.choose (exists_min (I := fun n => I n w') _ h.choose_spec) else 0) ⟨n0, h0⟩ ?_
  intro w' hI J hJ
  have hmin := Classical.choose_spec (exists_min (I := fun n => I n w') _ hI.choose_spec)
  refine hr _ w' hmin.1 J fun m w'' hm hI' => hJ w'' ⟨m, hI'⟩ ?_
  rw [dif_pos (⟨m, hI'⟩ : ∃ n, I n w''), dif_pos hI]
  exact Nat.lt_of_le_of_lt ((Classical.choose_spec (exists_min (I := fun n => I n w'') _ (⟨m, hI'⟩ : ∃ n, I n w'').choose_spec)).2 m hI') hm
section
variable {P : Program}
def flat1 : TypeDesc → Bool
  | .struct _ | .array _ _ => false
  | _ => true
theorem isAgg1 {t : TypeId} {d : TypeDesc} (h : P.underlying t = some d) (hd : flat1 d = true) (w : World) : (isAgg t).run P w = .ok false w := by
  unfold isAgg
  rw [Sem.run_bind, run_underlying h w]
  cases d <;> simp_all [flat1]
theorem part1 {t : TypeId} {d : TypeDesc} (h : P.underlying t = some d) (hd : flat1 d = true) (cs : Array Value) (o : Nat) (v : Value) (hv : cs[o]? = some v) (w : World) : (part t cs o).run P w = .ok v w := by
  unfold part
  rw [Sem.run_bind, isAgg1 h hd]
  simp [hv]
theorem eqFields_cons {f : Field} {fs : List Field} {d : Nat} {xs ys : Array Value} {w : World} {dd : TypeDesc} {u u' : Value} {e r : Bool} (hn : f.name ≠ "_") (h : P.underlying f.type = some dd) (hd : flat1 dd = true) (hx : xs[f.offset]? = some u) (hy : ys[f.offset]? = some u')
    (he : (Op.equalIn d f.type u u').run P w = .ok e w) (hr : (Op.eqFields d xs ys fs).run P w = .ok r w) : (Op.eqFields d xs ys (f :: fs)).run P w = .ok (e && r) w := by
  simp only [Op.eqFields, Sem.run_bind, Sem.run_ite, hn, ne_eq, not_false_eq_true, if_true]
  simp only [part1 h hd xs _ u hx, part1 h hd ys _ u' hy, he, Result.andThen_ok]
  cases e <;> simp [hr]
theorem pr_pnot {t e : TypeId} {x y : Operand} (h : P.underlying t = some (.pointer e)) {p : Option Addr} : PR P (binS .neq t x y (.pointer p) (.pointer none)) (.bool p.isSome) := by
  intro w
  have he : P.pointee t = e := by simp [Program.pointee, h]
  have hn : P.underlying t = some (.pointer (P.pointee t)) := by rw [he]; exact h
  simp only [binS, eqGuard_at_pointer, Sem.run_bind, Sem.run_pure, Result.andThen_ok]
  cases p with
  | none => simp [run_neq_pointer_nil w t none hn]
  | some a => simp [run_neq_pointer_nil w t (some a) hn]
end
end Go.Proofs.YtmnaggdhkggjhaaGreatDoor.E
namespace Go.Proofs.YtmnaggdhkggjhaaGreatDoor.E
open Go
set_option maxRecDepth 100000

/-- shelfmark/record.Check -/
def S17 (a0 : Value) (R : Value → World → Prop) (w : World) : Prop :=
  NextP Tryz.prog (builtin Go.Builtin.len #[36] 3 #[false] #[a0]) (fun v4 w =>
  LiftP Tryz.prog (binS Go.BinOp.eql 3 (Go.Operand.tmp 4) (Go.Operand.const (Go.Value.int Go.IntKind.i64 0)) v4 (Go.Value.int Go.IntKind.i64 0)) (fun v5 w =>
  CallP Tryz.prog 40 #[v5, (Go.Value.int Go.IntKind.i64 1)] (fun v6 w =>
  NextP Tryz.prog (builtin Go.Builtin.len #[36] 3 #[false] #[a0]) (fun v8 w =>
  LiftP Tryz.prog (binS Go.BinOp.gtr 3 (Go.Operand.tmp 8) (Go.Operand.const (Go.Value.int Go.IntKind.i64 4)) v8 (Go.Value.int Go.IntKind.i64 4)) (fun v9 w =>
  CallP Tryz.prog 40 #[v9, (Go.Value.int Go.IntKind.i64 4)] (fun v10 w =>
  CallP Tryz.prog 41 #[a0, (.func (.func 42) #[] #[])] (fun v12 w =>
  CallP Tryz.prog 40 #[v12, (Go.Value.int Go.IntKind.i64 1)] (fun v13 w =>
  LiftP Tryz.prog (Instr.buildSlice 112 3 #[(0, v6), (1, v10), (2, v13)]) (fun v14 w =>
  CallP Tryz.prog 39 #[v14] (fun v15 w =>
  R v15 w) w) w) w) w) w) w) w) w) w) w
theorem S17.calls (a0 : Value) (R : Value → World → Prop) (w : World) (h : S17 a0 R w) : Calls Tryz.prog 17 #[a0] w fun e w' => ∃ v, e = .returned v ∧ R v w' :=
  calls_of_tr (n := 16) (c := bodyOf Tryz.f17) (.two .leaf (.two .leaf .leaf)) Tryz.func17 (by kernel_rfl) Tryz.ntmps17 (by kernel_rfl) (by kernel_rfl) [a0] (by kernel_rfl) (of_eq_ (by kernel_rfl) h)

/-- shelfmark/record.Pack -/
def S32 (a0 : Value) (R : Value → World → Prop) (w : World) : Prop :=
  CallP Tryz.prog 17 #[a0] (fun v6 w =>
  LiftP Tryz.prog (binS Go.BinOp.neq 34 (Go.Operand.tmp 7) (Go.Operand.const (Go.Value.int Go.IntKind.i64 0)) v6 (Go.Value.int Go.IntKind.i64 0)) (fun v8 w =>
  CondP v8 (fun w =>
    R (.tuple #[(Go.Value.string { data := #[] }), v6]) w) (fun w =>
    CallP Tryz.prog 58 #[a0] (fun v11 w =>
  LiftP Tryz.prog (Instr.extract v11 0) (fun v12 w =>
  LiftP Tryz.prog (Instr.extract v11 1) (fun v13 w =>
  R (.tuple #[v12, v13]) w) w) w) w) w) w) w
theorem S32.calls (a0 : Value) (R : Value → World → Prop) (w : World) (h : S32 a0 R w) : Calls Tryz.prog 32 #[a0] w fun e w' => ∃ v, e = .returned v ∧ R v w' :=
  calls_of_tr (n := 14) (c := bodyOf Tryz.f32) (.two .leaf (.two (.two .leaf (.two .leaf (.two (.two .leaf .leaf) .leaf))) (.two .leaf .leaf))) Tryz.func32 (by kernel_rfl) Tryz.ntmps32 (by kernel_rfl) (by kernel_rfl) [a0] (by kernel_rfl) (of_eq_ (by kernel_rfl) h)

/-- shelfmark/record.first -/
def S39 (a0 : Value) (R : Value → World → Prop) (w : World) : Prop :=
  NextP Tryz.prog (builtin Go.Builtin.len #[112] 3 #[false] #[a0]) (fun v6 w =>
  LoopP (fun J vs w =>   -- [7]
    LiftP Tryz.prog (binS Go.BinOp.lss 3 (Go.Operand.tmp 7) (Go.Operand.tmp 6) (vs.headD undef) v6) (fun v8 w =>
    CondP v8 (fun w =>
      LiftP Tryz.prog (Instr.indexAt 112 a0 (vs.headD undef)) (fun v9 w =>
    LiftP Tryz.prog (Instr.loadAt 34 v9) (fun v10 w =>
    LiftP Tryz.prog (binS Go.BinOp.neq 34 (Go.Operand.tmp 11) (Go.Operand.const (Go.Value.int Go.IntKind.i64 0)) v10 (Go.Value.int Go.IntKind.i64 0)) (fun v12 w =>
    CondP v12 (fun w =>
      R v10 w) (fun w =>
      LiftP Tryz.prog (binS Go.BinOp.add 3 (Go.Operand.tmp 7) (Go.Operand.const (Go.Value.int Go.IntKind.i64 1)) (vs.headD undef) (Go.Value.int Go.IntKind.i64 1)) (fun v14 w =>
    J [v14] w) w) w) w) w) w) (fun w =>
      R (Go.Value.int Go.IntKind.i64 0) w) w) w) [(Go.Value.int Go.IntKind.i64 0)] w) w
theorem S39.calls (a0 : Value) (R : Value → World → Prop) (w : World) (h : S39 a0 R w) : Calls Tryz.prog 39 #[a0] w fun e w' => ∃ v, e = .returned v ∧ R v w' :=
  calls_of_tr (n := 15) (c := bodyOf Tryz.f39) (.two .leaf (.two (.two .leaf (.one (.loop [7] (.two .leaf (.two (.two .leaf .leaf) (.two (.one (.two .leaf (.two .leaf (.two (.two .leaf .leaf) .leaf)))) .leaf)))))) (.two .leaf .leaf))) Tryz.func39 (by kernel_rfl) Tryz.ntmps39 (by kernel_rfl) (by kernel_rfl) [a0] (by kernel_rfl) (of_eq_ (by kernel_rfl) h)

/-- shelfmark/record.when -/
def S40 (a0 a1 : Value) (R : Value → World → Prop) (w : World) : Prop :=
  CondP a0 (fun w =>
    R a1 w) (fun w =>
    R (Go.Value.int Go.IntKind.i64 0) w) w
theorem S40.calls (a0 a1 : Value) (R : Value → World → Prop) (w : World) (h : S40 a0 a1 R w) : Calls Tryz.prog 40 #[a0, a1] w fun e w' => ∃ v, e = .returned v ∧ R v w' :=
  calls_of_tr (n := 7) (c := bodyOf Tryz.f40) (.two .leaf (.two (.two .leaf (.two (.two .leaf .leaf) .leaf)) (.two .leaf .leaf))) Tryz.func40 (by kernel_rfl) Tryz.ntmps40 (by kernel_rfl) (by kernel_rfl) [a0, a1] (by kernel_rfl) (of_eq_ (by kernel_rfl) h)

/-- slices.ContainsFunc[shelfmark/api.Record,shelfmark/api.Val] -/
def S41 (a0 a1 : Value) (R : Value → World → Prop) (w : World) : Prop :=
  CallP Tryz.prog 61 #[a0, a1] (fun v7 w =>
  LiftP Tryz.prog (binS Go.BinOp.geq 3 (Go.Operand.tmp 7) (Go.Operand.const (Go.Value.int Go.IntKind.i64 0)) v7 (Go.Value.int Go.IntKind.i64 0)) (fun v8 w =>
  R v8 w) w) w
theorem S41.calls (a0 a1 : Value) (R : Value → World → Prop) (w : World) (h : S41 a0 a1 R w) : Calls Tryz.prog 41 #[a0, a1] w fun e w' => ∃ v, e = .returned v ∧ R v w' :=
  calls_of_tr (n := 9) (c := bodyOf Tryz.f41) (.two .leaf (.two .leaf .leaf)) Tryz.func41 (by kernel_rfl) Tryz.ntmps41 (by kernel_rfl) (by kernel_rfl) [a0, a1] (by kernel_rfl) (of_eq_ (by kernel_rfl) h)

/-- shelfmark/record.bad -/
def S42 (a0 : Value) (R : Value → World → Prop) (w : World) : Prop :=
  LiftP Tryz.prog (Instr.box 91 a0) (fun v1 w =>
  LiftP Tryz.prog (Instr.loadAt 91 v1) (fun v3 w =>
  CallP Tryz.prog 62 #[v3] (fun v4 w =>
  LiftP Tryz.prog (Op.unary Go.UnOp.not v4) (fun v5 w =>
  R v5 w) w) w) w) w
theorem S42.calls (a0 : Value) (R : Value → World → Prop) (w : World) (h : S42 a0 R w) : Calls Tryz.prog 42 #[a0] w fun e w' => ∃ v, e = .returned v ∧ R v w' :=
  calls_of_tr (n := 6) (c := bodyOf Tryz.f42) (.two .leaf (.two .leaf .leaf)) Tryz.func42 (by kernel_rfl) Tryz.ntmps42 (by kernel_rfl) (by kernel_rfl) [a0] (by kernel_rfl) (of_eq_ (by kernel_rfl) h)

/-- shelfmark/record.Unpack -/
def S53 (a0 : Value) (R : Value → World → Prop) (w : World) : Prop :=
  CallP Tryz.prog 66 #[a0] (fun v8 w =>
  LiftP Tryz.prog (Instr.extract v8 0) (fun v9 w =>
  LiftP Tryz.prog (Instr.extract v8 1) (fun v10 w =>
  NextP Tryz.prog (builtin Go.Builtin.len #[35] 3 #[false] #[v9]) (fun v13 w =>
  LiftP Tryz.prog (binS Go.BinOp.eql 3 (Go.Operand.tmp 13) (Go.Operand.const (Go.Value.int Go.IntKind.i64 0)) v13 (Go.Value.int Go.IntKind.i64 0)) (fun v14 w =>
  CallP Tryz.prog 40 #[v14, (Go.Value.int Go.IntKind.i64 3)] (fun v15 w =>
  LiftP Tryz.prog (Instr.buildSlice 112 2 #[(0, v10), (1, v15)]) (fun v16 w =>
  CallP Tryz.prog 39 #[v16] (fun v17 w =>
  LiftP Tryz.prog (binS Go.BinOp.neq 34 (Go.Operand.tmp 18) (Go.Operand.const (Go.Value.int Go.IntKind.i64 0)) v17 (Go.Value.int Go.IntKind.i64 0)) (fun v19 w =>
  CondP v19 (fun w =>
    R (.tuple #[(Go.Value.slice none 0 0), v17]) w) (fun w =>
    R (.tuple #[v9, (Go.Value.int Go.IntKind.i64 0)]) w) w) w) w) w) w) w) w) w) w) w
theorem S53.calls (a0 : Value) (R : Value → World → Prop) (w : World) (h : S53 a0 R w) : Calls Tryz.prog 53 #[a0] w fun e w' => ∃ v, e = .returned v ∧ R v w' :=
  calls_of_tr (n := 22) (c := bodyOf Tryz.f53) (.two .leaf (.two .leaf (.two (.two .leaf (.two .leaf (.two (.two .leaf .leaf) .leaf))) (.two .leaf .leaf)))) Tryz.func53 (by kernel_rfl) Tryz.ntmps53 (by kernel_rfl) (by kernel_rfl) [a0] (by kernel_rfl) (of_eq_ (by kernel_rfl) h)

/-- shelfmark/tuple.Key -/
def S58 (a0 : Value) (R : Value → World → Prop) (w : World) : Prop :=
  CallP Tryz.prog 70 #[a0] (fun v9 w =>
  LiftP Tryz.prog (binS Go.BinOp.neq 34 (Go.Operand.tmp 10) (Go.Operand.const (Go.Value.int Go.IntKind.i64 0)) v9 (Go.Value.int Go.IntKind.i64 0)) (fun v11 w =>
  CondP v11 (fun w =>
    R (.tuple #[(Go.Value.string { data := #[] }), v9]) w) (fun w =>
    NextP Tryz.prog (builtin Go.Builtin.len #[35] 3 #[false] #[a0]) (fun v14 w =>
  LoopP (fun J vs w =>   -- [5, 15]
    LiftP Tryz.prog (binS Go.BinOp.lss 3 (Go.Operand.tmp 15) (Go.Operand.tmp 14) (vs.tail.headD undef) v14) (fun v16 w =>
    CondP v16 (fun w =>
      LiftP Tryz.prog (Instr.indexAt 35 a0 (vs.tail.headD undef)) (fun v17 w =>
    LiftP Tryz.prog (Instr.loadAt 91 v17) (fun v18 w =>
    LiftP Tryz.prog (Instr.alloc 91 true (.tuple #[])) (fun v7 w =>
    LiftU Tryz.prog (Instr.storeAt 91 v7 v18) (fun v_ w =>
    LiftP Tryz.prog (Instr.loadAt 91 v7) (fun v20 w =>
    CallP Tryz.prog 71 #[v20] (fun v21 w =>
    NextP Tryz.prog (builtin Go.Builtin.append #[69, 69] 69 #[false, false] #[(vs.headD undef), v21]) (fun v22 w =>
    LiftP Tryz.prog (binS Go.BinOp.add 3 (Go.Operand.tmp 15) (Go.Operand.const (Go.Value.int Go.IntKind.i64 1)) (vs.tail.headD undef) (Go.Value.int Go.IntKind.i64 1)) (fun v23 w =>
    J [v22, v23] w) w) w) w) w) w) w) w) w) (fun w =>
      LiftP Tryz.prog (convert 69 9 (vs.headD undef)) (fun v25 w =>
  R (.tuple #[v25, (Go.Value.int Go.IntKind.i64 0)]) w) w) w) w) [(Go.Value.slice none 0 0), (Go.Value.int Go.IntKind.i64 0)] w) w) w) w) w
theorem S58.calls (a0 : Value) (R : Value → World → Prop) (w : World) (h : S58 a0 R w) : Calls Tryz.prog 58 #[a0] w fun e w' => ∃ v, e = .returned v ∧ R v w' :=
  calls_of_tr (n := 26) (c := bodyOf Tryz.f58) (.two .leaf (.two (.two .leaf (.two .leaf (.two (.two .leaf .leaf) .leaf))) (.two .leaf (.two (.two .leaf (.one (.loop [5, 15] (.two .leaf (.two (.two .leaf .leaf) (.two (.one (.two .leaf .leaf)) .leaf)))))) (.two .leaf .leaf))))) Tryz.func58 (by kernel_rfl) Tryz.ntmps58 (by kernel_rfl) (by kernel_rfl) [a0] (by kernel_rfl) (of_eq_ (by kernel_rfl) h)

/-- slices.IndexFunc[shelfmark/api.Record,shelfmark/api.Val] -/
def S61 (a0 a1 : Value) (R : Value → World → Prop) (w : World) : Prop :=
  NextP Tryz.prog (builtin Go.Builtin.len #[36] 3 #[false] #[a0]) (fun v7 w =>
  LoopP (fun J vs w =>   -- [8]
    LiftP Tryz.prog (binS Go.BinOp.lss 3 (Go.Operand.tmp 8) (Go.Operand.tmp 7) (vs.headD undef) v7) (fun v9 w =>
    CondP v9 (fun w =>
      LiftP Tryz.prog (Instr.indexAt 36 a0 (vs.headD undef)) (fun v14 w =>
    LiftP Tryz.prog (Instr.loadAt 91 v14) (fun v15 w =>
    NextP Tryz.prog (callV a1 #[v15]) (fun v16 w =>
    CondP v16 (fun w =>
      R (vs.headD undef) w) (fun w =>
      LiftP Tryz.prog (binS Go.BinOp.add 3 (Go.Operand.tmp 8) (Go.Operand.const (Go.Value.int Go.IntKind.i64 1)) (vs.headD undef) (Go.Value.int Go.IntKind.i64 1)) (fun v18 w =>
    J [v18] w) w) w) w) w) w) (fun w =>
      R (Go.Value.int Go.IntKind.i64 (-1)) w) w) w) [(Go.Value.int Go.IntKind.i64 0)] w) w
theorem S61.calls (a0 a1 : Value) (R : Value → World → Prop) (w : World) (h : S61 a0 a1 R w) : Calls Tryz.prog 61 #[a0, a1] w fun e w' => ∃ v, e = .returned v ∧ R v w' :=
  calls_of_tr (n := 19) (c := bodyOf Tryz.f61) (.two .leaf (.two (.two .leaf (.one (.loop [8] (.two .leaf (.two (.two .leaf .leaf) (.two (.one (.two .leaf (.two .leaf (.two (.two .leaf .leaf) .leaf)))) .leaf)))))) (.two .leaf .leaf))) Tryz.func61 (by kernel_rfl) Tryz.ntmps61 (by kernel_rfl) (by kernel_rfl) [a0, a1] (by kernel_rfl) (of_eq_ (by kernel_rfl) h)

/-- shelfmark/tuple.Good -/
def S62 (a0 : Value) (R : Value → World → Prop) (w : World) : Prop :=
  LiftP Tryz.prog (Instr.box 91 a0) (fun v1 w =>
  LiftP Tryz.prog (Instr.fieldAt 91 v1 0) (fun v3 w =>
  LiftP Tryz.prog (Instr.loadAt 3 v3) (fun v4 w =>
  LiftP Tryz.prog (binS Go.BinOp.eql 3 (Go.Operand.tmp 4) (Go.Operand.const (Go.Value.int Go.IntKind.i64 0)) v4 (Go.Value.int Go.IntKind.i64 0)) (fun v6 w =>
  CondP v6 (fun w =>
    LiftP Tryz.prog (Instr.loadAt 91 v1) (fun v7 w =>
    LiftP Tryz.prog (Instr.build 91 #[]) (fun v8 w =>
    LiftP Tryz.prog (binS Go.BinOp.eql 91 (Go.Operand.tmp 7) (Go.Operand.tmp 8) v7 v8) (fun v9 w =>
    R v9 w) w) w) w) (fun w =>
    LiftP Tryz.prog (binS Go.BinOp.eql 3 (Go.Operand.tmp 4) (Go.Operand.const (Go.Value.int Go.IntKind.i64 1)) v4 (Go.Value.int Go.IntKind.i64 1)) (fun v11 w =>
    CondP v11 (fun w =>
      LiftP Tryz.prog (Instr.fieldAt 91 v1 2) (fun v12 w =>
      LiftP Tryz.prog (Instr.loadAt 9 v12) (fun v13 w =>
      LiftP Tryz.prog (binS Go.BinOp.eql 9 (Go.Operand.tmp 13) (Go.Operand.const (Go.Value.string { data := #[] })) v13 (Go.Value.string { data := #[] })) (fun v14 w =>
      R v14 w) w) w) w) (fun w =>
      LiftP Tryz.prog (binS Go.BinOp.eql 3 (Go.Operand.tmp 4) (Go.Operand.const (Go.Value.int Go.IntKind.i64 2)) v4 (Go.Value.int Go.IntKind.i64 2)) (fun v16 w =>
      CondP v16 (fun w =>
        LiftP Tryz.prog (Instr.fieldAt 91 v1 1) (fun v17 w =>
        LiftP Tryz.prog (Instr.loadAt 3 v17) (fun v18 w =>
        LiftP Tryz.prog (binS Go.BinOp.eql 3 (Go.Operand.tmp 18) (Go.Operand.const (Go.Value.int Go.IntKind.i64 0)) v18 (Go.Value.int Go.IntKind.i64 0)) (fun v19 w =>
        GuardP v19 true (fun K w => LiftP Tryz.prog (Instr.fieldAt 91 v1 2) K w) (fun v21 w =>
        GuardP v19 true (fun K w => LiftP Tryz.prog (Instr.loadAt 9 v21) K w) (fun v22 w =>
        GuardP v19 true (fun K w => NextP Tryz.prog (builtin Go.Builtin.len #[9] 3 #[false] #[v22]) K w) (fun v23 w =>
        GuardP v19 true (fun K w => LiftP Tryz.prog (binS Go.BinOp.leq 3 (Go.Operand.tmp 23) (Go.Operand.const (Go.Value.int Go.IntKind.i64 32)) v23 (Go.Value.int Go.IntKind.i64 32)) K w) (fun v24 w =>
        PickP v19 v24 (Go.Value.bool false) (fun v25 w =>
        R v25 w) w) w) w) w) w) w) w) w) (fun w =>
        R (Go.Value.bool false) w) w) w) w) w) w) w) w) w) w
theorem S62.calls (a0 : Value) (R : Value → World → Prop) (w : World) (h : S62 a0 R w) : Calls Tryz.prog 62 #[a0] w fun e w' => ∃ v, e = .returned v ∧ R v w' :=
  calls_of_tr (n := 26) (c := bodyOf Tryz.f62) (.two .leaf (.two (.two .leaf (.one (.two .leaf (.two (.two .leaf .leaf) (.two .leaf (.two (.two .leaf .leaf) (.two .leaf (.two (.two .leaf .leaf) .leaf)))))))) (.two .leaf .leaf))) Tryz.func62 (by kernel_rfl) Tryz.ntmps62 (by kernel_rfl) (by kernel_rfl) [a0] (by kernel_rfl) (of_eq_ (by kernel_rfl) h)

/-- shelfmark/tuple.Vals -/
def S66 (a0 : Value) (R : Value → World → Prop) (w : World) : Prop :=
  CallP Tryz.prog 72 #[a0] (fun v9 w =>
  LiftP Tryz.prog (Instr.extract v9 0) (fun v10 w =>
  LiftP Tryz.prog (Instr.extract v9 1) (fun v11 w =>
  LiftP Tryz.prog (Instr.extract v9 2) (fun v12 w =>
  JoinP (fun J w =>
    LiftP Tryz.prog (binS Go.BinOp.eql 34 (Go.Operand.tmp 13) (Go.Operand.const (Go.Value.int Go.IntKind.i64 0)) v12 (Go.Value.int Go.IntKind.i64 0)) (fun v14 w =>
    GuardP v14 true (fun K w => K v11 w) (fun v16 w =>
    GuardP v14 true (fun K w => LiftP Tryz.prog (binS Go.BinOp.neq 9 (Go.Operand.tmp 16) (Go.Operand.const (Go.Value.string { data := #[] })) v16 (Go.Value.string { data := #[] })) K w) (fun v17 w =>
    PickP v14 v17 (Go.Value.bool false) (fun v18 w =>
    CondP v18 (fun w =>
      J [(Go.Value.int Go.IntKind.i64 3)] w) (fun w =>
      J [v12] w) w) w) w) w) w) (fun vs w =>   -- [6]
  LiftP Tryz.prog (binS Go.BinOp.neq 34 (Go.Operand.tmp 19) (Go.Operand.const (Go.Value.int Go.IntKind.i64 0)) (vs.headD undef) (Go.Value.int Go.IntKind.i64 0)) (fun v20 w =>
  CondP v20 (fun w =>
    R (.tuple #[(Go.Value.slice none 0 0), (vs.headD undef)]) w) (fun w =>
    R (.tuple #[v10, (Go.Value.int Go.IntKind.i64 0)]) w) w) w) w) w) w) w) w
theorem S66.calls (a0 : Value) (R : Value → World → Prop) (w : World) (h : S66 a0 R w) : Calls Tryz.prog 66 #[a0] w fun e w' => ∃ v, e = .returned v ∧ R v w' :=
  calls_of_tr (n := 23) (c := bodyOf Tryz.f66) (.two .leaf (.two .leaf (.join [6] (.two .leaf (.two .leaf .leaf)) (.two (.two .leaf (.two (.two .leaf .leaf) .leaf)) (.two .leaf .leaf))))) Tryz.func66 (by kernel_rfl) Tryz.ntmps66 (by kernel_rfl) (by kernel_rfl) [a0] (by kernel_rfl) (of_eq_ (by kernel_rfl) h)

/-- shelfmark/tuple.row -/
def S70 (a0 : Value) (R : Value → World → Prop) (w : World) : Prop :=
  NextP Tryz.prog (builtin Go.Builtin.len #[35] 3 #[false] #[a0]) (fun v5 w =>
  LiftP Tryz.prog (binS Go.BinOp.gtr 3 (Go.Operand.tmp 5) (Go.Operand.const (Go.Value.int Go.IntKind.i64 4)) v5 (Go.Value.int Go.IntKind.i64 4)) (fun v6 w =>
  CondP v6 (fun w =>
    R (Go.Value.int Go.IntKind.i64 4) w) (fun w =>
    CallP Tryz.prog 84 #[a0, (.func (.func 85) #[] #[])] (fun v9 w =>
    CondP v9 (fun w =>
      R (Go.Value.int Go.IntKind.i64 1) w) (fun w =>
      R (Go.Value.int Go.IntKind.i64 0) w) w) w) w) w) w
theorem S70.calls (a0 : Value) (R : Value → World → Prop) (w : World) (h : S70 a0 R w) : Calls Tryz.prog 70 #[a0] w fun e w' => ∃ v, e = .returned v ∧ R v w' :=
  calls_of_tr (n := 10) (c := bodyOf Tryz.f70) (.two .leaf (.two (.one (.two .leaf (.two (.two .leaf .leaf) (.two .leaf (.two (.two .leaf .leaf) .leaf))))) (.two .leaf .leaf))) Tryz.func70 (by kernel_rfl) Tryz.ntmps70 (by kernel_rfl) (by kernel_rfl) [a0] (by kernel_rfl) (of_eq_ (by kernel_rfl) h)

/-- shelfmark/tuple.form -/
def S71 (a0 : Value) (R : Value → World → Prop) (w : World) : Prop :=
  LiftP Tryz.prog (Instr.box 91 a0) (fun v1 w =>
  LiftP Tryz.prog (Instr.fieldAt 91 v1 0) (fun v6 w =>
  LiftP Tryz.prog (Instr.loadAt 3 v6) (fun v7 w =>
  LiftP Tryz.prog (binS Go.BinOp.add 3 (Go.Operand.tmp 7) (Go.Operand.const (Go.Value.int Go.IntKind.i64 1)) v7 (Go.Value.int Go.IntKind.i64 1)) (fun v8 w =>
  LiftP Tryz.prog (convert 3 5 v8) (fun v9 w =>
  LiftP Tryz.prog (Instr.buildSlice 69 1 #[(0, v9)]) (fun v10 w =>
  JoinP (fun J w =>
    LiftP Tryz.prog (Instr.fieldAt 91 v1 0) (fun v11 w =>
    LiftP Tryz.prog (Instr.loadAt 3 v11) (fun v12 w =>
    LiftP Tryz.prog (binS Go.BinOp.eql 3 (Go.Operand.tmp 12) (Go.Operand.const (Go.Value.int Go.IntKind.i64 1)) v12 (Go.Value.int Go.IntKind.i64 1)) (fun v14 w =>
    CondP v14 (fun w =>
      LiftP Tryz.prog (Instr.fieldAt 91 v1 1) (fun v15 w =>
      LiftP Tryz.prog (Instr.loadAt 3 v15) (fun v16 w =>
      LiftP Tryz.prog (convert 3 138 v16) (fun v17 w =>
      LiftP Tryz.prog (binS Go.BinOp.xor 138 (Go.Operand.tmp 17) (Go.Operand.const (Go.Value.int Go.IntKind.u64 9223372036854775808)) v17 (Go.Value.int Go.IntKind.u64 9223372036854775808)) (fun v18 w =>
      LoopP (fun J_1 vs_1 w =>   -- [3, 5]
        LiftP Tryz.prog (binS Go.BinOp.geq 3 (Go.Operand.tmp 19) (Go.Operand.const (Go.Value.int Go.IntKind.i64 0)) (vs_1.tail.headD undef) (Go.Value.int Go.IntKind.i64 0)) (fun v20 w =>
        CondP v20 (fun w =>
          LiftP Tryz.prog (binS Go.BinOp.shr 138 (Go.Operand.tmp 24) (Go.Operand.tmp 25) v18 (vs_1.tail.headD undef)) (fun v26 w =>
        LiftP Tryz.prog (convert 138 5 v26) (fun v27 w =>
        LiftP Tryz.prog (Instr.buildSlice 69 1 #[(0, v27)]) (fun v28 w =>
        NextP Tryz.prog (builtin Go.Builtin.append #[69, 69] 69 #[false, false] #[(vs_1.headD undef), v28]) (fun v29 w =>
        LiftP Tryz.prog (binS Go.BinOp.sub 3 (Go.Operand.tmp 21) (Go.Operand.const (Go.Value.int Go.IntKind.i64 8)) (vs_1.tail.headD undef) (Go.Value.int Go.IntKind.i64 8)) (fun v22 w =>
        J_1 [v29, v22] w) w) w) w) w) w) (fun w =>
          J [(vs_1.headD undef)] w) w) w) [v10, (Go.Value.int Go.IntKind.i64 56)] w) w) w) w) w) (fun w =>
      LiftP Tryz.prog (binS Go.BinOp.eql 3 (Go.Operand.tmp 12) (Go.Operand.const (Go.Value.int Go.IntKind.i64 2)) v12 (Go.Value.int Go.IntKind.i64 2)) (fun v31 w =>
      CondP v31 (fun w =>
        LiftP Tryz.prog (Instr.fieldAt 91 v1 2) (fun v33 w =>
        LiftP Tryz.prog (Instr.loadAt 9 v33) (fun v34 w =>
        CallP Tryz.prog 86 #[v34, (Go.Value.string { data := #[0] }), (Go.Value.string { data := #[0, 255] })] (fun v35 w =>
        NextP Tryz.prog (builtin Go.Builtin.append #[69, 9] 69 #[false, false] #[v10, v35]) (fun v36 w =>
        LiftP Tryz.prog (Instr.buildSlice 69 2 #[(0, (Go.Value.int Go.IntKind.u8 0)), (1, (Go.Value.int Go.IntKind.u8 0))]) (fun v37 w =>
        NextP Tryz.prog (builtin Go.Builtin.append #[69, 69] 69 #[false, false] #[v36, v37]) (fun v38 w =>
        J [v38] w) w) w) w) w) w) w) (fun w =>
        J [v10] w) w) w) w) w) w) w) (fun vs w =>   -- [3]
  R (vs.headD undef) w) w) w) w) w) w) w) w
theorem S71.calls (a0 : Value) (R : Value → World → Prop) (w : World) (h : S71 a0 R w) : Calls Tryz.prog 71 #[a0] w fun e w' => ∃ v, e = .returned v ∧ R v w' :=
  calls_of_tr (n := 40) (c := bodyOf Tryz.f71) (.two .leaf (.two .leaf (.join [3] (.two .leaf (.one (.two .leaf (.two (.two .leaf (.two .leaf (.one (.loop [3, 5] (.two (.two .leaf (.two .leaf .leaf)) (.two (.one .leaf) .leaf)))))) (.two .leaf (.two .leaf .leaf)))))) (.two .leaf .leaf)))) Tryz.func71 (by kernel_rfl) Tryz.ntmps71 (by kernel_rfl) (by kernel_rfl) [a0] (by kernel_rfl) (of_eq_ (by kernel_rfl) h)

/-- shelfmark/tuple.Cut -/
def S72 (a0 : Value) (R : Value → World → Prop) (w : World) : Prop :=
  LoopP (fun J vs w =>   -- [0, 2]
    LiftP Tryz.prog (binS Go.BinOp.neq 9 (Go.Operand.tmp 8) (Go.Operand.const (Go.Value.string { data := #[] })) (vs.headD undef) (Go.Value.string { data := #[] })) (fun v9 w =>
    GuardP v9 true (fun K w => K (vs.headD undef) w) (fun v11 w =>
    GuardP v9 true (fun K w => LiftP Tryz.prog (Instr.index 9 v11 (Go.Value.int Go.IntKind.i64 0)) K w) (fun v12 w =>
    GuardP v9 true (fun K w => LiftP Tryz.prog (binS Go.BinOp.neq 5 (Go.Operand.tmp 12) (Go.Operand.const (Go.Value.int Go.IntKind.u8 0)) v12 (Go.Value.int Go.IntKind.u8 0)) K w) (fun v13 w =>
    PickP v9 v13 (Go.Value.bool false) (fun v14 w =>
    CondP v14 (fun w =>
      NextP Tryz.prog (builtin Go.Builtin.len #[35] 3 #[false] #[(vs.tail.headD undef)]) (fun v16 w =>
    LiftP Tryz.prog (binS Go.BinOp.eql 3 (Go.Operand.tmp 16) (Go.Operand.const (Go.Value.int Go.IntKind.i64 4)) v16 (Go.Value.int Go.IntKind.i64 4)) (fun v17 w =>
    CondP v17 (fun w =>
      R (.tuple #[(Go.Value.slice none 0 0), (Go.Value.string { data := #[] }), (Go.Value.int Go.IntKind.i64 4)]) w) (fun w =>
      CallP Tryz.prog 87 #[(vs.headD undef)] (fun v20 w =>
    LiftP Tryz.prog (Instr.extract v20 0) (fun v21 w =>
    LiftP Tryz.prog (Instr.extract v20 1) (fun v22 w =>
    LiftP Tryz.prog (Instr.extract v20 2) (fun v23 w =>
    LiftP Tryz.prog (Instr.alloc 91 true (.tuple #[])) (fun v5 w =>
    LiftU Tryz.prog (Instr.storeAt 91 v5 v21) (fun v_ w =>
    LiftP Tryz.prog (binS Go.BinOp.neq 34 (Go.Operand.tmp 24) (Go.Operand.const (Go.Value.int Go.IntKind.i64 0)) v23 (Go.Value.int Go.IntKind.i64 0)) (fun v25 w =>
    CondP v25 (fun w =>
      R (.tuple #[(Go.Value.slice none 0 0), (Go.Value.string { data := #[] }), v23]) w) (fun w =>
      DrawP (fun S w =>
    YieldP Tryz.prog S (Instr.loadAt 91 v5) (fun v28 w =>
    YieldP Tryz.prog S (Instr.sliceAt 9 (vs.headD undef) (some v22) none none) (fun v33 w =>
    ActP S (fun K w => LiftP Tryz.prog (Instr.buildSlice 35 1 #[(0, v28)]) K w) (fun S v29 w =>
    ActP S (fun K w => NextP Tryz.prog (builtin Go.Builtin.append #[35, 35] 35 #[false, false] #[(vs.tail.headD undef), v29]) K w) (fun S v30 w =>
    J [v33, v30] w) w) w) w) w) w) w) w) w) w) w) w) w) w) w) w) w) (fun w =>
      R (.tuple #[(vs.tail.headD undef), (vs.headD undef), (Go.Value.int Go.IntKind.i64 0)]) w) w) w) w) w) w) w) [a0, (Go.Value.slice none 0 0)] w
theorem S72.calls (a0 : Value) (R : Value → World → Prop) (w : World) (h : S72 a0 R w) : Calls Tryz.prog 72 #[a0] w fun e w' => ∃ v, e = .returned v ∧ R v w' :=
  calls_of_tr (n := 36) (c := bodyOf Tryz.f72) (.two .leaf (.two (.one (.loop [0, 2] (.two (.two .leaf (.two .leaf .leaf)) (.one (.two (.two .leaf (.two (.two .leaf .leaf) .leaf)) (.two .leaf (.two (.two .leaf (.two (.two .leaf .leaf) .leaf)) (.draw [(true, 0), (true, 1), (true, 4), (true, 5), (true, 6), (false, 2), (false, 3), (true, 7), (true, 8)])))))))) (.two .leaf .leaf))) Tryz.func72 (by kernel_rfl) Tryz.ntmps72 (by kernel_rfl) (by kernel_rfl) [a0] (by kernel_rfl) (of_eq_ (by kernel_rfl) h)

/-- slices.ContainsFunc[[]shelfmark/api.Val,shelfmark/api.Val] -/
def S84 (a0 a1 : Value) (R : Value → World → Prop) (w : World) : Prop :=
  CallP Tryz.prog 94 #[a0, a1] (fun v7 w =>
  LiftP Tryz.prog (binS Go.BinOp.geq 3 (Go.Operand.tmp 7) (Go.Operand.const (Go.Value.int Go.IntKind.i64 0)) v7 (Go.Value.int Go.IntKind.i64 0)) (fun v8 w =>
  R v8 w) w) w
theorem S84.calls (a0 a1 : Value) (R : Value → World → Prop) (w : World) (h : S84 a0 a1 R w) : Calls Tryz.prog 84 #[a0, a1] w fun e w' => ∃ v, e = .returned v ∧ R v w' :=
  calls_of_tr (n := 9) (c := bodyOf Tryz.f84) (.two .leaf (.two .leaf .leaf)) Tryz.func84 (by kernel_rfl) Tryz.ntmps84 (by kernel_rfl) (by kernel_rfl) [a0, a1] (by kernel_rfl) (of_eq_ (by kernel_rfl) h)

/-- shelfmark/tuple.row$1 -/
def S85 (a0 : Value) (R : Value → World → Prop) (w : World) : Prop :=
  LiftP Tryz.prog (Instr.box 91 a0) (fun v1 w =>
  LiftP Tryz.prog (Instr.loadAt 91 v1) (fun v3 w =>
  CallP Tryz.prog 62 #[v3] (fun v4 w =>
  LiftP Tryz.prog (Op.unary Go.UnOp.not v4) (fun v5 w =>
  R v5 w) w) w) w) w
theorem S85.calls (a0 : Value) (R : Value → World → Prop) (w : World) (h : S85 a0 R w) : Calls Tryz.prog 85 #[a0] w fun e w' => ∃ v, e = .returned v ∧ R v w' :=
  calls_of_tr (n := 6) (c := bodyOf Tryz.f85) (.two .leaf (.two .leaf .leaf)) Tryz.func85 (by kernel_rfl) Tryz.ntmps85 (by kernel_rfl) (by kernel_rfl) [a0] (by kernel_rfl) (of_eq_ (by kernel_rfl) h)

/-- shelfmark/tuple.one -/
def S87 (a0 : Value) (R : Value → World → Prop) (w : World) : Prop :=
  LiftP Tryz.prog (Instr.alloc 91 true (.tuple #[])) (fun v2 w =>
  LiftP Tryz.prog (Instr.index 9 a0 (Go.Value.int Go.IntKind.i64 0)) (fun v9 w =>
  LiftP Tryz.prog (binS Go.BinOp.eql 5 (Go.Operand.tmp 9) (Go.Operand.const (Go.Value.int Go.IntKind.u8 1)) v9 (Go.Value.int Go.IntKind.u8 1)) (fun v11 w =>
  CondP v11 (fun w =>
    LiftP Tryz.prog (Instr.loadAt 91 v2) (fun v12 w =>
    LiftU Tryz.prog (Instr.storeAt 91 v2 v12) (fun v_ w =>
    RetC Tryz.prog v2 91 (fun x => R (.tuple #[x, (Go.Value.int Go.IntKind.i64 1), (Go.Value.int Go.IntKind.i64 0)]) w) w) w) w) (fun w =>
    LiftP Tryz.prog (binS Go.BinOp.eql 5 (Go.Operand.tmp 9) (Go.Operand.const (Go.Value.int Go.IntKind.u8 2)) v9 (Go.Value.int Go.IntKind.u8 2)) (fun v14 w =>
    CondP v14 (fun w =>
      NextP Tryz.prog (builtin Go.Builtin.len #[9] 3 #[false] #[a0]) (fun v16 w =>
      LiftP Tryz.prog (binS Go.BinOp.lss 3 (Go.Operand.tmp 16) (Go.Operand.const (Go.Value.int Go.IntKind.i64 9)) v16 (Go.Value.int Go.IntKind.i64 9)) (fun v17 w =>
      CondP v17 (fun w =>
        LiftP Tryz.prog (Instr.loadAt 91 v2) (fun v18 w =>
        LiftU Tryz.prog (Instr.storeAt 91 v2 v18) (fun v__1 w =>
        RetC Tryz.prog v2 91 (fun x_1 => R (.tuple #[x_1, (Go.Value.int Go.IntKind.i64 0), (Go.Value.int Go.IntKind.i64 2)]) w) w) w) w) (fun w =>
        LiftP Tryz.prog (Instr.sliceAt 9 a0 (some (Go.Value.int Go.IntKind.i64 1)) (some (Go.Value.int Go.IntKind.i64 9)) none) (fun v20 w =>
      LiftP Tryz.prog (convert 9 69 v20) (fun v21 w =>
      NextP Tryz.prog (builtin Go.Builtin.len #[69] 3 #[false] #[v21]) (fun v22 w =>
      LoopP (fun J vs w =>   -- [5, 23]
        LiftP Tryz.prog (binS Go.BinOp.lss 3 (Go.Operand.tmp 23) (Go.Operand.tmp 22) (vs.tail.headD undef) v22) (fun v24 w =>
        CondP v24 (fun w =>
          LiftP Tryz.prog (Instr.indexAt 69 v21 (vs.tail.headD undef)) (fun v25 w =>
        LiftP Tryz.prog (Instr.loadAt 5 v25) (fun v26 w =>
        LiftP Tryz.prog (binS Go.BinOp.shl 138 (Go.Operand.tmp 27) (Go.Operand.const (Go.Value.int Go.IntKind.u64 8)) (vs.headD undef) (Go.Value.int Go.IntKind.u64 8)) (fun v28 w =>
        LiftP Tryz.prog (convert 5 138 v26) (fun v30 w =>
        LiftP Tryz.prog (binS Go.BinOp.or 138 (Go.Operand.tmp 28) (Go.Operand.tmp 30) v28 v30) (fun v31 w =>
        LiftP Tryz.prog (binS Go.BinOp.add 3 (Go.Operand.tmp 23) (Go.Operand.const (Go.Value.int Go.IntKind.i64 1)) (vs.tail.headD undef) (Go.Value.int Go.IntKind.i64 1)) (fun v32 w =>
        J [v31, v32] w) w) w) w) w) w) w) (fun w =>
          LiftP Tryz.prog (binS Go.BinOp.xor 138 (Go.Operand.tmp 33) (Go.Operand.const (Go.Value.int Go.IntKind.u64 9223372036854775808)) (vs.headD undef) (Go.Value.int Go.IntKind.u64 9223372036854775808)) (fun v34 w =>
      LiftP Tryz.prog (convert 138 3 v34) (fun v35 w =>
      LiftP Tryz.prog (Instr.build 91 #[(0, (Go.Value.int Go.IntKind.i64 1)), (1, v35)]) (fun v36 w =>
      LiftU Tryz.prog (Instr.storeAt 91 v2 v36) (fun v__2 w =>
      RetC Tryz.prog v2 91 (fun x_2 => R (.tuple #[x_2, (Go.Value.int Go.IntKind.i64 9), (Go.Value.int Go.IntKind.i64 0)]) w) w) w) w) w) w) w) w) [(Go.Value.int Go.IntKind.u64 0), (Go.Value.int Go.IntKind.i64 0)] w) w) w) w) w) w) w) (fun w =>
      LiftP Tryz.prog (binS Go.BinOp.eql 5 (Go.Operand.tmp 9) (Go.Operand.const (Go.Value.int Go.IntKind.u8 3)) v9 (Go.Value.int Go.IntKind.u8 3)) (fun v38 w =>
      CondP v38 (fun w =>
        CallP Tryz.prog 96 #[a0] (fun v40 w =>
        LiftP Tryz.prog (Instr.extract v40 0) (fun v41 w =>
        LiftP Tryz.prog (Instr.extract v40 1) (fun v42 w =>
        LiftP Tryz.prog (Instr.extract v40 2) (fun v43 w =>
        LiftU Tryz.prog (Instr.storeAt 91 v2 v41) (fun v__3 w =>
        RetC Tryz.prog v2 91 (fun x_3 => R (.tuple #[x_3, v42, v43]) w) w) w) w) w) w) w) (fun w =>
        LiftP Tryz.prog (Instr.loadAt 91 v2) (fun v44 w =>
  LiftU Tryz.prog (Instr.storeAt 91 v2 v44) (fun v__4 w =>
  RetC Tryz.prog v2 91 (fun x_4 => R (.tuple #[x_4, (Go.Value.int Go.IntKind.i64 0), (Go.Value.int Go.IntKind.i64 3)]) w) w) w) w) w) w) w) w) w) w) w) w
theorem S87.calls (a0 : Value) (R : Value → World → Prop) (w : World) (h : S87 a0 R w) : Calls Tryz.prog 87 #[a0] w fun e w' => ∃ v, e = .returned v ∧ R v w' :=
  calls_of_tr (n := 45) (c := bodyOf Tryz.f87) (.two .leaf (.two (.two .leaf (.one (.two .leaf (.two (.two .leaf .leaf) (.two .leaf (.two (.two (.two .leaf (.two (.two .leaf .leaf) .leaf)) (.two .leaf (.two (.two .leaf (.one (.loop [5, 23] (.two .leaf (.two (.two .leaf .leaf) (.two (.one (.two .leaf .leaf)) .leaf)))))) (.two .leaf .leaf)))) (.two .leaf (.two (.two .leaf .leaf) .leaf)))))))) (.two .leaf .leaf))) Tryz.func87 (by kernel_rfl) Tryz.ntmps87 (by kernel_rfl) (by kernel_rfl) [a0] (by kernel_rfl) (of_eq_ (by kernel_rfl) h)

/-- slices.IndexFunc[[]shelfmark/api.Val,shelfmark/api.Val] -/
def S94 (a0 a1 : Value) (R : Value → World → Prop) (w : World) : Prop :=
  NextP Tryz.prog (builtin Go.Builtin.len #[35] 3 #[false] #[a0]) (fun v7 w =>
  LoopP (fun J vs w =>   -- [8]
    LiftP Tryz.prog (binS Go.BinOp.lss 3 (Go.Operand.tmp 8) (Go.Operand.tmp 7) (vs.headD undef) v7) (fun v9 w =>
    CondP v9 (fun w =>
      LiftP Tryz.prog (Instr.indexAt 35 a0 (vs.headD undef)) (fun v14 w =>
    LiftP Tryz.prog (Instr.loadAt 91 v14) (fun v15 w =>
    NextP Tryz.prog (callV a1 #[v15]) (fun v16 w =>
    CondP v16 (fun w =>
      R (vs.headD undef) w) (fun w =>
      LiftP Tryz.prog (binS Go.BinOp.add 3 (Go.Operand.tmp 8) (Go.Operand.const (Go.Value.int Go.IntKind.i64 1)) (vs.headD undef) (Go.Value.int Go.IntKind.i64 1)) (fun v18 w =>
    J [v18] w) w) w) w) w) w) (fun w =>
      R (Go.Value.int Go.IntKind.i64 (-1)) w) w) w) [(Go.Value.int Go.IntKind.i64 0)] w) w
theorem S94.calls (a0 a1 : Value) (R : Value → World → Prop) (w : World) (h : S94 a0 a1 R w) : Calls Tryz.prog 94 #[a0, a1] w fun e w' => ∃ v, e = .returned v ∧ R v w' :=
  calls_of_tr (n := 19) (c := bodyOf Tryz.f94) (.two .leaf (.two (.two .leaf (.one (.loop [8] (.two .leaf (.two (.two .leaf .leaf) (.two (.one (.two .leaf (.two .leaf (.two (.two .leaf .leaf) .leaf)))) .leaf)))))) (.two .leaf .leaf))) Tryz.func94 (by kernel_rfl) Tryz.ntmps94 (by kernel_rfl) (by kernel_rfl) [a0, a1] (by kernel_rfl) (of_eq_ (by kernel_rfl) h)

/-- shelfmark/tuple.text -/
def S96 (a0 : Value) (R : Value → World → Prop) (w : World) : Prop :=
  LiftP Tryz.prog (Instr.alloc 91 true (.tuple #[])) (fun v2 w =>
  LiftP Tryz.prog (Instr.alloc 157 true (.tuple #[])) (fun v5 w =>
  LoopP (fun J vs w =>   -- [6]
    JoinP (fun J_1 w =>
      JoinP (fun J_2 w =>
        NextP Tryz.prog (builtin Go.Builtin.len #[9] 3 #[false] #[a0]) (fun v13 w =>
        LiftP Tryz.prog (binS Go.BinOp.geq 3 (Go.Operand.tmp 11) (Go.Operand.tmp 13) (vs.headD undef) v13) (fun v14 w =>
        CondP v14 (fun w =>
          J_2 [v14] w) (fun w =>
          LiftP Tryz.prog (Instr.index 9 a0 (vs.headD undef)) (fun v17 w =>
          LiftP Tryz.prog (binS Go.BinOp.eql 5 (Go.Operand.tmp 17) (Go.Operand.const (Go.Value.int Go.IntKind.u8 0)) v17 (Go.Value.int Go.IntKind.u8 0)) (fun v18 w =>
          GuardP v18 true (fun K w => K (vs.headD undef) w) (fun v20 w =>
          GuardP v18 true (fun K w => LiftP Tryz.prog (binS Go.BinOp.add 3 (Go.Operand.tmp 20) (Go.Operand.const (Go.Value.int Go.IntKind.i64 1)) v20 (Go.Value.int Go.IntKind.i64 1)) K w) (fun v21 w =>
          GuardP v18 true (fun K w => K a0 w) (fun v22 w =>
          GuardP v18 true (fun K w => NextP Tryz.prog (builtin Go.Builtin.len #[9] 3 #[false] #[v22]) K w) (fun v23 w =>
          GuardP v18 true (fun K w => LiftP Tryz.prog (binS Go.BinOp.geq 3 (Go.Operand.tmp 21) (Go.Operand.tmp 23) v21 v23) K w) (fun v24 w =>
          PickP v18 v24 (Go.Value.bool false) (fun v25 w =>
          J_2 [v25] w) w) w) w) w) w) w) w) w) w) w) w) (fun vs_2 w =>   -- [10]
      CondP (vs_2.headD undef) (fun w =>
        LiftP Tryz.prog (Instr.loadAt 91 v2) (fun v26 w =>
        LiftU Tryz.prog (Instr.storeAt 91 v2 v26) (fun v_ w =>
        RetC Tryz.prog v2 91 (fun x => R (.tuple #[x, (Go.Value.int Go.IntKind.i64 0), (Go.Value.int Go.IntKind.i64 2)]) w) w) w) w) (fun w =>
        LiftP Tryz.prog (Instr.index 9 a0 (vs.headD undef)) (fun v30 w =>
        LiftP Tryz.prog (binS Go.BinOp.neq 5 (Go.Operand.tmp 30) (Go.Operand.const (Go.Value.int Go.IntKind.u8 0)) v30 (Go.Value.int Go.IntKind.u8 0)) (fun v31 w =>
        CondP v31 (fun w =>
          LiftP Tryz.prog (Instr.index 9 a0 (vs.headD undef)) (fun v34 w =>
          CallP Tryz.prog 104 #[v5, v34] (fun v35 w =>
          J_1 [(vs.headD undef)] w) w) w) (fun w =>
          LiftP Tryz.prog (binS Go.BinOp.add 3 (Go.Operand.tmp 38) (Go.Operand.const (Go.Value.int Go.IntKind.i64 1)) (vs.headD undef) (Go.Value.int Go.IntKind.i64 1)) (fun v39 w =>
          LiftP Tryz.prog (Instr.index 9 a0 v39) (fun v40 w =>
          LiftP Tryz.prog (binS Go.BinOp.eql 5 (Go.Operand.tmp 40) (Go.Operand.const (Go.Value.int Go.IntKind.u8 0)) v40 (Go.Value.int Go.IntKind.u8 0)) (fun v41 w =>
          CondP v41 (fun w =>
            CallP Tryz.prog 105 #[v5] (fun v42 w =>
            LiftP Tryz.prog (binS Go.BinOp.gtr 3 (Go.Operand.tmp 42) (Go.Operand.const (Go.Value.int Go.IntKind.i64 32)) v42 (Go.Value.int Go.IntKind.i64 32)) (fun v43 w =>
            CondP v43 (fun w =>
              LiftP Tryz.prog (Instr.loadAt 91 v2) (fun v44 w =>
              LiftU Tryz.prog (Instr.storeAt 91 v2 v44) (fun v__1 w =>
              RetC Tryz.prog v2 91 (fun x_1 => R (.tuple #[x_1, (Go.Value.int Go.IntKind.i64 0), (Go.Value.int Go.IntKind.i64 4)]) w) w) w) w) (fun w =>
              CallP Tryz.prog 103 #[v5] (fun v45 w =>
            LiftP Tryz.prog (Instr.build 91 #[(0, (Go.Value.int Go.IntKind.i64 2)), (2, v45)]) (fun v46 w =>
            LiftP Tryz.prog (binS Go.BinOp.add 3 (Go.Operand.tmp 47) (Go.Operand.const (Go.Value.int Go.IntKind.i64 2)) (vs.headD undef) (Go.Value.int Go.IntKind.i64 2)) (fun v48 w =>
            LiftU Tryz.prog (Instr.storeAt 91 v2 v46) (fun v__2 w =>
            RetC Tryz.prog v2 91 (fun x_2 => R (.tuple #[x_2, v48, (Go.Value.int Go.IntKind.i64 0)]) w) w) w) w) w) w) w) w) w) (fun w =>
            LiftP Tryz.prog (binS Go.BinOp.add 3 (Go.Operand.tmp 51) (Go.Operand.const (Go.Value.int Go.IntKind.i64 1)) (vs.headD undef) (Go.Value.int Go.IntKind.i64 1)) (fun v52 w =>
            LiftP Tryz.prog (Instr.index 9 a0 v52) (fun v53 w =>
            LiftP Tryz.prog (binS Go.BinOp.eql 5 (Go.Operand.tmp 53) (Go.Operand.const (Go.Value.int Go.IntKind.u8 255)) v53 (Go.Value.int Go.IntKind.u8 255)) (fun v54 w =>
            CondP v54 (fun w =>
              CallP Tryz.prog 104 #[v5, (Go.Value.int Go.IntKind.u8 0)] (fun v55 w =>
              LiftP Tryz.prog (binS Go.BinOp.add 3 (Go.Operand.tmp 56) (Go.Operand.const (Go.Value.int Go.IntKind.i64 1)) (vs.headD undef) (Go.Value.int Go.IntKind.i64 1)) (fun v57 w =>
              J_1 [v57] w) w) w) (fun w =>
              LiftP Tryz.prog (Instr.loadAt 91 v2) (fun v9 w =>
              LiftU Tryz.prog (Instr.storeAt 91 v2 v9) (fun v__3 w =>
              RetC Tryz.prog v2 91 (fun x_3 => R (.tuple #[x_3, (Go.Value.int Go.IntKind.i64 0), (Go.Value.int Go.IntKind.i64 3)]) w) w) w) w) w) w) w) w) w) w) w) w) w) w) w) w) w) (fun vs_1 w =>   -- [6]
    LiftP Tryz.prog (binS Go.BinOp.add 3 (Go.Operand.tmp 7) (Go.Operand.const (Go.Value.int Go.IntKind.i64 1)) (vs_1.headD undef) (Go.Value.int Go.IntKind.i64 1)) (fun v8 w =>
    J [v8] w) w) w) [(Go.Value.int Go.IntKind.i64 1)] w) w) w
theorem S96.calls (a0 : Value) (R : Value → World → Prop) (w : World) (h : S96 a0 R w) : Calls Tryz.prog 96 #[a0] w fun e w' => ∃ v, e = .returned v ∧ R v w' :=
  calls_of_tr (n := 58) (c := bodyOf Tryz.f96) (.two .leaf (.two .leaf (.two .leaf (.one (.loop [6] (.join [6] (.one (.one (.join [10] (.two .leaf (.two .leaf .leaf)) (.two (.two .leaf .leaf) (.two .leaf (.two .leaf (.two .leaf (.two (.two (.two .leaf (.two (.two .leaf .leaf) .leaf)) (.two .leaf .leaf)) (.two .leaf (.two (.two .leaf .leaf) (.two .leaf .leaf))))))))))) .leaf)))))) Tryz.func96 (by kernel_rfl) Tryz.ntmps96 (by kernel_rfl) (by kernel_rfl) [a0] (by kernel_rfl) (of_eq_ (by kernel_rfl) h)

/-- (*strings.Builder).Len -/
def S105 (a0 : Value) (R : Value → World → Prop) (w : World) : Prop :=
  NextP Tryz.prog (nilChk a0) (fun v4 w =>
  LiftP Tryz.prog (Instr.fieldAt 157 v4 1) (fun v5 w =>
  LiftP Tryz.prog (Instr.loadAt 69 v5) (fun v6 w =>
  NextP Tryz.prog (builtin Go.Builtin.len #[69] 3 #[false] #[v6]) (fun v7 w =>
  R v7 w) w) w) w) w
theorem S105.calls (a0 : Value) (R : Value → World → Prop) (w : World) (h : S105 a0 R w) : Calls Tryz.prog 105 #[a0] w fun e w' => ∃ v, e = .returned v ∧ R v w' :=
  calls_of_tr (n := 8) (c := bodyOf Tryz.f105) (.two .leaf (.two .leaf .leaf)) Tryz.func105 (by kernel_rfl) Tryz.ntmps105 (by kernel_rfl) (by kernel_rfl) [a0] (by kernel_rfl) (of_eq_ (by kernel_rfl) h)

end Go.Proofs.YtmnaggdhkggjhaaGreatDoor.E
