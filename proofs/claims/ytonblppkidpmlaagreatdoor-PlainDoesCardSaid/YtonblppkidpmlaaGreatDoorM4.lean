import Derived.Test.YtonblppkidpmlaaGreatDoorM3
import Derived.Maps.Range
import Derived.Laws.StructEq
import Derived.Laws.CopyRow
import Derived.Test.YtonblppkidpmlaaGreatDoorM1
import Derived.Test.YtonblppkidpmlaaGreatDoorProg
import Derived.KernelRfl
namespace Go.Proofs.YtonblppkidpmlaaGreatDoor.E
open Go Go.RowKit

/-- An iterator r over map b: the keys that are still to come. -/
def MapR (w : World) (b r : Nat) (l : List (Int × Value)) (todo : List Int) : Prop :=
  ∃ es clock since seen c0, w.heap[b]? = some (.map es clock) ∧ es.toList.map (fun e => (e.key, e.val)) = (l.map fun p => (Value.int .i64 p.1, p.2)) ∧
  MapKept.Stamped es clock ∧ es.size ≤ maxLen ∧ (∀ p ∈ l, (Lit.int .i64 p.1).wf = true) ∧
  w.heap[r]? = some (.mapIter (some b) since seen c0) ∧ (∀ x ∈ es.toList, x.born < since) ∧ since ≤ c0 ∧ since ≤ clock ∧
  ∀ k, k ∈ todo ↔ ∃ e ∈ es.toList, e.key = .int .i64 k ∧ seen.contains e.born = false
section
variable {w w' : World} {b r : Nat} {l : List (Int × Value)} {todo : List Int}
theorem MapR.map (h : MapR w b r l todo) : MapI w b l := by
  obtain ⟨es, clock, since, seen, c0, h1, h2, h3, h4, h5, _⟩ := h
  exact ⟨es, clock, h1, h2, h3, h4, h5⟩
theorem MapR.ltb (h : MapR w b r l todo) : b < w.heap.size := h.map.lt
theorem MapR.ltr (h : MapR w b r l todo) : r < w.heap.size := by
  obtain ⟨es, clock, since, seen, c0, h1, h2, h3, h4, h5, h6, _⟩ := h
  exact (Array.getElem?_eq_some_iff.1 h6).1
theorem MapR.ne (h : MapR w b r l todo) : r ≠ b := by
  obtain ⟨es, clock, since, seen, c0, h1, h2, h3, h4, h5, h6, _⟩ := h
  intro e
  rw [e, h1] at h6
  cases h6
theorem MapR.turns {F : Nat → Prop} (h : MapR w b r l todo) (hT : Turns F w w') (hb : ¬ F b) (hr : ¬ F r) : MapR w' b r l todo := by
  have h1 := h.ltb
  have h2 := h.ltr
  obtain ⟨es, clock, since, seen, c0, e1, e2, e3, e4, e5, e6, e7⟩ := h
  exact ⟨es, clock, since, seen, c0, (hT.block b h1 hb).trans e1, e2, e3, e4, e5, (hT.block r h2 hr).trans e6, e7⟩
theorem MapR.below (h : MapR w b r l todo) (hb : Below w.heap.size w w') : MapR w' b r l todo := h.turns (F := fun _ => False) (Turns.of_below hb) (fun h => h) (fun h => h)
end
theorem key_of {es : List MapEntry} {l : List (Int × Value)} (h : es.map (fun e => (e.key, e.val)) = l.map fun p => (Value.int .i64 p.1, p.2)) {e : MapEntry} (he : e ∈ es) : ∃ k, e.key = .int .i64 k ∧ (k, e.val) ∈ l := by
  have hm : (e.key, e.val) ∈ es.map (fun e => (e.key, e.val)) := List.mem_map.2 ⟨e, he, rfl⟩
  rw [h] at hm
  obtain ⟨p, hp, hpe⟩ := List.mem_map.1 hm
  have h1 := congrArg Prod.fst hpe
  have h2 := congrArg Prod.snd hpe
  simp only at h1 h2
  exact ⟨p.1, h1.symm, by rw [← h2]; exact hp⟩
theorem mem_of_key {es : List MapEntry} {l : List (Int × Value)} (h : es.map (fun e => (e.key, e.val)) = l.map fun p => (Value.int .i64 p.1, p.2)) {p : Int × Value} (hp : p ∈ l) : ∃ e ∈ es, e.key = .int .i64 p.1 := by
  have hm : (Value.int .i64 p.1, p.2) ∈ l.map fun p => (Value.int .i64 p.1, p.2) := List.mem_map.2 ⟨p, hp, rfl⟩
  rw [← h] at hm
  obtain ⟨e, he, hpe⟩ := List.mem_map.1 hm
  exact ⟨e, he, congrArg Prod.fst hpe⟩
theorem keys_nodup_of {es : List MapEntry} {l : List (Int × Value)} (h : es.map (fun e => (e.key, e.val)) = l.map fun p => (Value.int .i64 p.1, p.2)) (hn : (es.map (·.key)).Nodup) : (l.map (·.1)).Nodup := by
  have hk : es.map (·.key) = (l.map (·.1)).map (Value.int .i64) := by
    have := congrArg (List.map Prod.fst) h
    simpa [List.map_map, Function.comp_def] using this
  rw [hk] at hn
  exact (List.pairwise_map.1 hn).imp fun hne e => hne (by rw [e])
theorem MapI.nodup {w : World} {b : Nat} {l : List (Int × Value)} (h : MapI w b l) : (l.map (·.1)).Nodup := by
  obtain ⟨es, c, h1, h2, hst, _⟩ := h
  exact keys_nodup_of h2 hst.2.2
theorem getK_of_mem {α : Type} {k : Int} {v : α} : ∀ {l : List (Int × α)}, (l.map (·.1)).Nodup → (k, v) ∈ l → getK k l = some v
  | [], _, h => by simp at h
  | (a, u) :: r, hn, h => by
    simp only [List.map_cons, List.nodup_cons] at hn
    rw [getK]
    rcases List.mem_cons.1 h with h | h
    · cases h; rw [if_pos rfl]
    · have hne : k ≠ a := fun e => hn.1 (by rw [← e]; exact List.mem_map.2 ⟨(k, v), h, rfl⟩)
      rw [if_neg hne]
      exact getK_of_mem hn.2 h
theorem born_eq {es : List MapEntry} (hn : (es.map (·.born)).Nodup) {x y : MapEntry} (hx : x ∈ es) (hy : y ∈ es) (h : x.born = y.born) : x = y := by
  induction es with
  | nil => simp at hx
  | cons a r ih =>
    simp only [List.map_cons, List.nodup_cons] at hn
    rcases List.mem_cons.1 hx with rfl | hx'
    · rcases List.mem_cons.1 hy with rfl | hy'
      · rfl
      · exact absurd (List.mem_map.2 ⟨y, hy', h.symm⟩) hn.1
    · rcases List.mem_cons.1 hy with rfl | hy'
      · exact absurd (List.mem_map.2 ⟨x, hx', h⟩) hn.1
      · exact ih hn.2 hx' hy'
theorem key_eq {es : List MapEntry} (hn : (es.map (·.key)).Nodup) {x y : MapEntry} (hx : x ∈ es) (hy : y ∈ es) (h : x.key = y.key) : x = y := by
  induction es with
  | nil => simp at hx
  | cons a r ih =>
    simp only [List.map_cons, List.nodup_cons] at hn
    rcases List.mem_cons.1 hx with rfl | hx'
    · rcases List.mem_cons.1 hy with rfl | hy'
      · rfl
      · exact absurd (List.mem_map.2 ⟨y, hy', h.symm⟩) hn.1
    · rcases List.mem_cons.1 hy with rfl | hy'
      · exact absurd (List.mem_map.2 ⟨x, hx', h⟩) hn.1
      · exact ih hn.2 hx' hy'
section
variable {P : Program} {K : Value → World → Prop} {w : World} {b r : Nat} {l : List (Int × Value)} {todo : List Int}
/-- v := m[k] -/
theorem lkq {t e : TypeId} {z : Value} (ht : P.underlying t = some (.map 3 e)) (hk : P.underlying 3 = some (.int .i64)) (hz : (P.info? e).bind (·.zero) = some z) (h : MapI w b l) {k : Int}
    (kk : K ((getK k l).getD z) w) : LiftP P (Instr.lookup t (.map (some b)) (.int .i64 k) false) K w := by
  obtain ⟨es, c, h1, h2, _⟩ := h
  obtain ⟨i, hi, hzz⟩ := Option.bind_eq_some_iff.1 hz
  refine lift ?_ kk
  rw [getK_idx]
  cases hx : idxK k l with
  | none => simp [Instr.lookup, run_underlying ht, MapKept.run_getObj_map h1, run_chk hk, run_find hk h2, hx, zeroValue, typeInfo, hi, hzz]
  | some p => simp [Instr.lookup, run_underlying ht, MapKept.run_getObj_map h1, run_chk hk, run_find hk h2, hx]
/-- range m -/
theorem rng {t kt e : TypeId} (ht : P.underlying t = some (.map kt e)) (h : MapI w b l) (kk : ∀ w', MapR w' b w.heap.size l (l.map (·.1)) → Below w.heap.size w w' → K (.pointer (some ⟨w.heap.size, 0, none⟩)) w') :
    LiftP P (Instr.range t (.map (some b))) K w := by
  have hlt := h.lt
  obtain ⟨es, c, h1, h2, hst, hsz, hwf⟩ := h
  have ha : Below w.heap.size w (w.alloc (.mapIter (some b) c #[] c)) := (Below.refl _ _).alloc (Nat.le_refl _) _
  refine lift (v := .pointer (some ⟨w.heap.size, 0, none⟩)) (w' := w.alloc (.mapIter (some b) c #[] c)) ?_ (kk _ ⟨es, c, c, #[], c, (ha.block b hlt).trans h1, h2, hst, hsz, hwf, heap_alloc_new w _, hst.1, Nat.le_refl _, Nat.le_refl _, fun k => ?_⟩ ha)
  · simp [Instr.range, run_underlying ht, MapKept.run_getObj_map h1]
  · constructor
    · intro hk
      obtain ⟨p, hp, rfl⟩ := List.mem_map.1 hk
      obtain ⟨e, he, hek⟩ := mem_of_key h2 hp
      exact ⟨e, he, hek, by simp⟩
    · rintro ⟨e, he, hek, _⟩
      obtain ⟨k', hk', hm⟩ := key_of h2 he
      rw [hk'] at hek
      cases hek
      exact List.mem_map.2 ⟨_, hm, rfl⟩
/-- The next entry; whichever the tape says. -/
theorem nxt {ty : TypeId} (h : MapR w b r l todo) (k0 : todo = [] → K (.tuple #[.bool false]) w)
    (k1 : ∀ k v w', k ∈ todo → getK k l = some v → MapR w' b r l (todo.filter fun j => decide (j ≠ k)) → Turns (fun j => j = r) w w' → (Instr.entry (.pointer (some ⟨r, 0, none⟩))).run P w' = .ok (.tuple #[.int .i64 k, v]) w' → K (.tuple #[.bool true, .int .i64 k, v]) w') :
    LiftP P (Instr.next (.pointer (some ⟨r, 0, none⟩)) false ty) K w := by
  have hne := h.ne
  obtain ⟨es, clock, since, seen, c0, h1, h2, hst, hsz, hwf, h6, h7, h8, h9, h10⟩ := h
  have hmem : ∀ e, e ∈ (leftOf es seen).toList ↔ e ∈ es.toList ∧ seen.contains e.born = false := fun e => by
    simp [leftOf]
  rcases run_next_at (P := P) w ty r b since c0 seen es clock h6 h1 h7 h8 with ⟨h0, hr⟩ | ⟨e, he, w1, hw1, hr⟩
  · refine lift hr (k0 ?_)
    refine List.eq_nil_iff_forall_not_mem.2 fun k hk => ?_
    obtain ⟨e, he, hek, hs⟩ := (h10 k).1 hk
    have hl : (leftOf es seen).toList = [] := List.eq_nil_of_length_eq_zero (by simpa using h0)
    have := (hmem e).2 ⟨he, hs⟩
    rw [hl] at this
    simp at this
  · obtain ⟨hee, hes⟩ := (hmem e).1 he
    obtain ⟨k, hek, hkl⟩ := key_of h2 hee
    have hw1h : w1.heap = w.heap := by rcases hw1 with rfl | rfl <;> rfl
    have hr1 : w1.heap[r]? = some (.mapIter (some b) since seen c0) := by rw [hw1h]; exact h6
    have hT1 : Turns (fun j => j = r) w w1 := by
      rcases hw1 with rfl | rfl
      · exact Turns.refl _ _
      · exact (Turns.refl _ _).drew
    have hrl : r < w1.heap.size := (Array.getElem?_eq_some_iff.1 hr1).1
    have hblk : ∀ j, j ≠ r → (ChangeMaps.setBlock w1 r (.mapIter (some b) since (seen.push e.born) clock)).heap[j]? = w.heap[j]? := fun j hj => by
      show (w1.heap.setIfInBounds r _)[j]? = _
      rw [Array.getElem?_setIfInBounds_ne (Ne.symm hj), hw1h]
    have hnew : (ChangeMaps.setBlock w1 r (.mapIter (some b) since (seen.push e.born) clock)).heap[r]? = some (.mapIter (some b) since (seen.push e.born) clock) := by
      show (w1.heap.setIfInBounds r _)[r]? = _
      simp [hrl]
    have hT : Turns (fun j => j = r) w (ChangeMaps.setBlock w1 r (.mapIter (some b) since (seen.push e.born) clock)) :=
      ⟨hT1.os, hT1.tape, hT1.output, by show _ ≤ (w1.heap.setIfInBounds r _).size; rw [Array.size_setIfInBounds, hw1h]; exact Nat.le_refl _, fun j _ hj => hblk j hj⟩
    have hkt : k ∈ todo := (h10 k).2 ⟨e, hee, hek, hes⟩
    have hb' := (hblk b (Ne.symm hne)).trans h1
    rw [hek] at hr
    refine lift hr (k1 k e.val _ hkt (getK_of_mem (keys_nodup_of h2 hst.2.2) hkl) ⟨es, clock, since, seen.push e.born, clock, hb', h2, hst, hsz, hwf, hnew, h7, h9, h9, fun k' => ?_⟩ hT ?_)
    · rw [List.mem_filter]
      simp only [decide_eq_true_eq]
      constructor
      · rintro ⟨hk', hne'⟩
        obtain ⟨e', he', hek', hs'⟩ := (h10 k').1 hk'
        refine ⟨e', he', hek', ?_⟩
        rw [Array.contains_push, hs', Bool.false_or]
        simp only [beq_eq_false_iff_ne, ne_eq]
        intro hb
        have := born_eq hst.2.1 he' hee hb
        subst this
        rw [hek] at hek'
        cases hek'
        exact hne' rfl
      · rintro ⟨e', he', hek', hs'⟩
        rw [Array.contains_push, Bool.or_eq_false_iff] at hs'
        refine ⟨(h10 k').2 ⟨e', he', hek', hs'.1⟩, fun e1 => ?_⟩
        subst e1
        have := key_eq hst.2.2 he' hee (by rw [hek', hek])
        subst this
        simp at hs'
    · have := run_entry_at (P := P) _ r b since seen es clock e hnew hb' hee hst.2.1
      rw [hek] at this
      exact this
end
end Go.Proofs.YtonblppkidpmlaaGreatDoor.E
namespace Go.Proofs.YtonblppkidpmlaaGreatDoor.E
open Go Go.RowKit

theorem rRow.at {α : Type} {s : Nat} {r : Rdr α} {w : World} {A : Option Addr} {n c : Nat} {l : List α} (h : rRow s r w [.slice A n c] l) (i : Nat) (hi : i < l.length) :
    ∃ a us, A = some a ∧ us.length = s ∧ (∀ j u, us[j]? = some u → w.cell? ((a.add (i * s)).add j) = some u) ∧ r w us l[i] := by
  obtain ⟨A', c', he, _, _, h⟩ := h
  simp only [List.cons.injEq, Value.slice.injEq] at he
  obtain ⟨⟨rfl, _, _⟩, _⟩ := he
  obtain ⟨a, us, h1, h2, h3, h4⟩ := h i l[i] (List.getElem?_eq_getElem hi)
  exact ⟨a, us, h1, h2, fun j u hu => by rw [Addr.add_add]; exact h3 j u hu, h4⟩
theorem rRow.slice {α : Type} {s : Nat} {r : Rdr α} {w : World} {v : Value} {l : List α} (h : rRow s r w [v] l) : ∃ A c, v = .slice A l.length c ∧ l.length ≤ c ∧ c ≤ 9223372036854775807 := by
  obtain ⟨A, c, he, h1, h2, _⟩ := h
  simp only [List.cons.injEq, and_true] at he
  exact ⟨A, c, he, h1, by simp only [maxLen] at h2; omega⟩
theorem exists_min {I : Nat → Prop} : ∀ n, I n → ∃ m, I m ∧ ∀ k, I k → m ≤ k := by
  intro n
  induction n using Nat.strongRecOn with
  | ind n ih =>
    intro h
    by_cases hk : ∃ k, I k ∧ k < n
    · obtain ⟨k, h1, h2⟩ := hk
      exact ih k h2 h1
    · exact ⟨n, h, fun k hk' => Nat.le_of_not_lt fun hlt => hk ⟨k, hk', hlt⟩⟩
section
variable {P : Program} {K : Value → World → Prop} {S : World → Prop} {w : World}
theorem yixA {t e : TypeId} (h : P.underlying t = some (.slice e)) {s : Nat} (hs : (P.info? e).map (·.size) = some s) {a : Addr} {n c : Nat} {kd : IntKind} (i : Nat) (h1 : i < n)
    (k : K (.pointer (some (a.add (i * s)))) w) : YieldP P S (Instr.indexAt t (.slice (some a) n c) (.int kd (i : Int))) K w := by
  obtain ⟨j, hj, hs⟩ := Option.map_eq_some_iff.1 hs
  refine yld (v := .pointer (some (a.add (i * s)))) (fun w' _ => ?_) k
  simp [Instr.indexAt, run_underlying h, asIntOf, h1, sizeOf, typeInfo, hj, hs]
theorem yfdA {s : TypeId} {i o n : Nat} (h : fofs P s i = some (o, n)) (hn : n ≠ 0) {a : Addr} (k : K (.pointer (some (a.add o))) w) : YieldP P S (Instr.fieldAt s (.pointer (some a)) i) K w := yld (fun w' _ => run_fd h hn a w') k
theorem fdA {s : TypeId} {i o n : Nat} (h : fofs P s i = some (o, n)) (hn : n ≠ 0) {a : Addr} (k : K (.pointer (some (a.add o))) w) : LiftP P (Instr.fieldAt s (.pointer (some a)) i) K w := lift (run_fd h hn a w) k
theorem yldR {t : TypeId} (ha : aggB P t = true) {a : Addr} {us : List Value} (hc : ∀ w', S w' → ∀ j u, us[j]? = some u → w'.cell? (a.add j) = some u) (hi : (P.info? t).map (·.size) = some us.length)
    (k : K (.agg us.toArray) w) : YieldP P S (Instr.loadAt t (.pointer (some a))) K w := by
  refine yld (v := .agg us.toArray) (fun w' hw => ?_) k
  unfold aggB at ha
  cases hu : P.underlying t with
  | none => rw [hu] at ha; cases ha
  | some d =>
    rw [hu] at ha
    have hl : (loadCells a us.length).run P w' = .ok us.toArray w' := run_loadCells_list (P := P) w' a us (hc w' hw)
    cases hq : P.info? t with
    | none => simp [hq] at hi
    | some i =>
      have hs : i.size = us.length := by simpa [hq] using hi
      have hagg : (isAgg t).run P w' = .ok true w' := by
        unfold isAgg
        rw [Sem.run_bind, run_underlying hu w']
        cases d <;> simp_all
      simp [Instr.loadAt, Instr.sureAddr, loadVar, Sem.run_bind, hagg, sizeOf, typeInfo, hq, hs, hl]
end
theorem yldA {P : Program} {K : Value → World → Prop} {S : World → Prop} {w : World} {t : TypeId} (ha : aggB P t = true) {g : Nat} {cells : Array Value} (hb : ∀ w', S w' → Blk w' g t cells) (hi : (P.info? t).map (·.size) = some cells.size) (k : K (.agg cells) w) : YieldP P S (Instr.loadAt t (.pointer (some ⟨g, 0, none⟩))) K w :=
  yld (fun w' h => by simpa [Instr.loadAt, Instr.sureAddr] using run_ldA ha (hb w' h) hi) k
section
variable {P : Program}
def flat1 : TypeDesc → Bool
  | .struct _ | .array _ _ => false
  | _ => true
theorem isAgg1 {t : TypeId} {d : TypeDesc} (h : P.underlying t = some d) (hd : flat1 d = true) (w : World) : (isAgg t).run P w = .ok false w := by
  unfold isAgg
  rw [Sem.run_bind, run_underlying h w]
  cases d <;> simp_all [flat1]
theorem part1 {t : TypeId} {d : TypeDesc} (h : P.underlying t = some d) (hd : flat1 d = true) (cs : Array Value) (o : Nat) (v : Value) (hv : cs[o]? = some v) (w : World) : (part t cs o).run P w = .ok v w := by
  unfold part
  rw [Sem.run_bind, isAgg1 h hd]
  simp [hv]
theorem eqFields_cons {f : Field} {fs : List Field} {d : Nat} {xs ys : Array Value} {w : World} {dd : TypeDesc} {u u' : Value} {e r : Bool} (hn : f.name ≠ "_") (h : P.underlying f.type = some dd) (hd : flat1 dd = true) (hx : xs[f.offset]? = some u) (hy : ys[f.offset]? = some u')
    (he : (Op.equalIn d f.type u u').run P w = .ok e w) (hr : (Op.eqFields d xs ys fs).run P w = .ok r w) : (Op.eqFields d xs ys (f :: fs)).run P w = .ok (e && r) w := by
  simp only [Op.eqFields, Sem.run_bind, Sem.run_ite, hn, ne_eq, not_false_eq_true, if_true]
  simp only [part1 h hd xs _ u hx, part1 h hd ys _ u' hy, he, Result.andThen_ok]
  cases e <;> simp [hr]
end
end Go.Proofs.YtonblppkidpmlaaGreatDoor.E
namespace Go.Proofs.YtonblppkidpmlaaGreatDoor.E
open Go Go.RowKit

section
variable {P : Program} {K : Value → World → Prop} {S : World → Prop} {w : World}
/-- x[i], any element size. -/
theorem ixN {t e : TypeId} (h : P.underlying t = some (.slice e)) {s : Nat} (hs : (P.info? e).map (·.size) = some s) {a : Addr} {n c : Nat} {kd : IntKind} (i : Nat) (h1 : i < n)
    (k : K (.pointer (some (a.add (i * s)))) w) : LiftP P (Instr.indexAt t (.slice (some a) n c) (.int kd (i : Int))) K w :=
  ix h hs (by omega) (by omega) (by rw [Int.toNat_natCast]; exact k)
theorem ixG {t e : TypeId} (h : P.underlying t = some (.slice e)) {s : Nat} (hs : (P.info? e).map (·.size) = some s) {g n c : Nat} {kd : IntKind} (i : Nat) (h1 : i < n)
    (k : K (.pointer (some ⟨g, i * s, none⟩)) w) : LiftP P (Instr.indexAt t (.slice (some ⟨g, 0, none⟩) n c) (.int kd (i : Int))) K w :=
  ixN h hs i h1 (by rw [add0, Nat.zero_add]; exact k)
theorem yixG {t e : TypeId} (h : P.underlying t = some (.slice e)) {s : Nat} (hs : (P.info? e).map (·.size) = some s) {g n c : Nat} {kd : IntKind} (i : Nat) (h1 : i < n)
    (k : K (.pointer (some ⟨g, i * s, none⟩)) w) : YieldP P S (Instr.indexAt t (.slice (some ⟨g, 0, none⟩) n c) (.int kd (i : Int))) K w :=
  yixA h hs i h1 (by rw [add0, Nat.zero_add]; exact k)
/-- a field behind any place of a block -/
theorem fdG {s : TypeId} {i o n : Nat} (h : fofs P s i = some (o, n)) (hn : n ≠ 0) {g q : Nat} (k : K (.pointer (some ⟨g, q + o, none⟩)) w) : LiftP P (Instr.fieldAt s (.pointer (some ⟨g, q, none⟩)) i) K w :=
  fdA h hn (by rw [add0]; exact k)
theorem yfdG {s : TypeId} {i o n : Nat} (h : fofs P s i = some (o, n)) (hn : n ≠ 0) {g q : Nat} (k : K (.pointer (some ⟨g, q + o, none⟩)) w) : YieldP P S (Instr.fieldAt s (.pointer (some ⟨g, q, none⟩)) i) K w :=
  yfdA h hn (by rw [add0]; exact k)
theorem stM {t tt : TypeId} {g o : Nat} {cur cells : Array Value} (hb : Blk w g tt cur) (hi : (P.info? t).map (·.size) = some cells.size) (hl : o + cells.size ≤ cur.size) (h1 : cells.all (·.oneCell') = true)
    (k : K undef (w.setRow g (cur.toList.take o ++ cells.toList ++ cur.toList.drop (o + cells.size)).toArray)) : LiftU P (Instr.storeAt t (.pointer (some ⟨g, o, none⟩)) (.agg cells)) K w := by
  have hr := run_storeCells_at (P := P) g o tt cells.toList 0 cur w hb (by simpa using hl) (fun v hv => (Array.all_eq_true_iff_forall_mem.1 h1) v (by simpa using hv))
  refine liftU (u := ()) ?_ k
  cases hq : P.info? t with
  | none => simp [hq] at hi
  | some i =>
    have hs : i.size = cells.size := by simpa [hq] using hi
    simp only [Nat.add_zero, Array.length_toList] at hr
    simp [Instr.storeAt, Instr.sureAddr, storeVar, sizeOf, typeInfo, hq, Value.cells, hs, hr]
end
theorem take_mid {α : Type} (m o s : Nat) (cur cells : List α) (hs : cells.length = s) (ho : o + s ≤ m) (hm : m ≤ cur.length) : (cur.take o ++ cells ++ cur.drop (o + s)).take m = (cur.take m).take o ++ cells ++ (cur.take m).drop (o + s) := by
  rw [List.take_append, List.take_append, List.length_append, List.length_take, hs, List.drop_take]
  have e1 : min o cur.length = o := by omega
  rw [e1, List.take_take, List.take_take, show min m o = o from by omega, show min o m = o from by omega, List.take_of_length_le (l := cells) (by omega)]
section
variable {P : Program} {K : Value → World → Prop} {w : World}
/-- One element of a row of structs is written whole. -/
theorem stE {s : Nat} {e t : TypeId} {g n c : Nat} {cs : List Value} {cells : Array Value} (h : OwnR s e w (.slice (some ⟨g, 0, none⟩) n c) n cs) (i : Nat) (hi : i < n) (hs : cells.size = s) (hinfo : (P.info? t).map (·.size) = some s) (h1 : cells.all (·.oneCell') = true)
    (k : ∀ w', OwnR s e w' (.slice (some ⟨g, 0, none⟩) n c) n (cs.take (i * s) ++ cells.toList ++ cs.drop (i * s + s)) → Turns (fun j => j = g) w w' → K undef w') : LiftU P (Instr.storeAt t (.pointer (some ⟨g, i * s, none⟩)) (.agg cells)) K w := by
  obtain ⟨hl, h⟩ := h
  rcases h with ⟨h, _⟩ | ⟨g', c', cur, he, hb, h2, h3, h4, h5⟩
  · cases h
  cases he
  have hle : i * s + s ≤ n * s := by
    have := Nat.mul_le_mul_right s (show i + 1 ≤ n from hi)
    rw [Nat.succ_mul] at this; omega
  refine stM hb (by rw [hinfo, hs]) (by omega) h1 (k _ ⟨?_, .inr ⟨g, c, _, rfl, hb.row _, h2, h3, ?_, ?_⟩⟩ (Turns.setRow (F := fun j => j = g) (Turns.refl _ w) (.inl rfl) _))
  · simp only [List.length_append, List.length_take, List.length_drop, Array.length_toList, hl, hs]; omega
  · simp only [List.size_toArray, List.length_append, List.length_take, List.length_drop, Array.length_toList, hs]; omega
  · rw [List.toList_toArray, hs, take_mid (n * s) (i * s) s cur.toList cells.toList (by simpa using hs) hle (by simpa using h4), h5]
end
section
variable {P : Program} {K : Value → World → Prop} {S : World → Prop} {w : World}
/-- append(v, x...), elements of any size: the row's block is v's, or new. -/
theorem apGb {t ty e : TypeId} {cs : Array Bool} {z : Value} {size bytes : Nat} (ht : P.underlying t = some (.slice e)) (hinfo : (P.info? e).map (fun i => (i.zero, i.size, i.bytes)) = some (some z, size, bytes)) (hz : z.cells.size = size) (hsz : 0 < size)
    {v : Value} {xs : List Value} {n : Nat} (hown : w.ownsRow 0 e size v n xs) {a : Addr} {m c : Nat} {news : List Value} (hl : news.length = m * size) (hnews : ∀ j u, news[j]? = some u → w.cell? (a.add j) = some u) (h1 : ∀ u ∈ news, u.oneCell' = true)
    (h63 : n + m ≤ 9223372036854775807) (hbytes : (n + m) * bytes ≤ 140737488355328)
    (k : ∀ v' w', w'.ownsRow 0 e size v' (n + m) (xs ++ news) → (v'.ownBlock = v.ownBlock ∨ v'.ownBlock = some w.heap.size) → Turns (fun j => v.ownBlock = some j) w w' → K v' w') : NextP P (builtin .append #[t, t] ty cs #[v, .slice (some a) m c]) K w := by
  obtain ⟨i, hi, hzz⟩ := Option.map_eq_some_iff.1 hinfo
  simp only [Prod.mk.injEq] at hzz
  obtain ⟨hz0, hz1, hz2⟩ := hzz
  obtain ⟨v', w', hr, h2, h3, _, h5⟩ := run_append_own_at (P := P) w 0 t ty e i z size bytes ht hi hz0 hz1 hz2 hz hsz v n xs hown a m c news hl hnews h1 (by simp only [maxLen]; omega) hbytes (Nat.zero_le _)
  refine nextV (v := v') (w' := w') ?_ (k v' w' h2 h5 ⟨h3.os, h3.tape, h3.output, h3.size, fun j hj hF => h3.block j hj (fun e => hF e.symm)⟩)
  simp only [builtin]
  simp [hr]
end
theorem ownsRow_turns {s : Nat} {e : TypeId} {w w' : World} {v : Value} {n : Nat} {xs : List Value} {F : Nat → Prop} (h : w.ownsRow 0 e s v n xs) (hT : Turns F w w') (hF : ∀ k, v.ownBlock = some k → ¬ F k) : w'.ownsRow 0 e s v n xs := by
  refine ⟨h.1, ?_⟩
  rcases h.2 with h | ⟨g, c, cur, rfl, h0, hb, h1⟩
  · exact .inl h
  · have hlt : g < w.heap.size := (Array.getElem?_eq_some_iff.1 hb).1
    exact .inr ⟨g, c, cur, rfl, h0, (hT.block g hlt (hF g rfl)).trans hb, h1⟩
theorem ownsRow_lt {s : Nat} {e : TypeId} {w : World} {v : Value} {n : Nat} {xs : List Value} (h : w.ownsRow 0 e s v n xs) {k : Nat} (hk : v.ownBlock = some k) : k < w.heap.size := by
  rcases h.2 with ⟨rfl, _⟩ | ⟨g, c, cur, rfl, h0, hb, h1⟩
  · cases hk
  · have : g = k := by simpa [Value.ownBlock] using hk
    subst this
    exact (Array.getElem?_eq_some_iff.1 hb).1
section
variable {P : Program} {K : Value → World → Prop} {w : World}
/-- append(v, x...), x any row of structs: of its elements alone something is asked. -/
theorem apRm {t ty e : TypeId} {cs : Array Bool} {z : Value} {size bytes : Nat} (B : Nat) (ht : P.underlying t = some (.slice e)) (hinfo : (P.info? e).map (fun i => (i.zero, i.size, i.bytes)) = some (some z, size, bytes)) (hz : z.cells.size = size) (hsz : 0 < size)
    {v : Value} {xs : List Value} {n : Nat} (hown : w.ownsRow 0 e size v n xs) (hf : Fresh B v) (hB : B ≤ w.heap.size) {α : Type} {f : α → List Value} (hfl : ∀ x, (f x).length = size)
    {x : Value} {l : List α} (hf1 : ∀ x ∈ l, ∀ u ∈ f x, u.oneCell' = true) (hx : rRow size (fun _ us x => us = f x) w [x] l) (h63 : n + l.length ≤ 9223372036854775807) (hbytes : (n + l.length) * bytes ≤ 140737488355328)
    (k : ∀ v' w', w'.ownsRow 0 e size v' (n + l.length) (xs ++ l.flatMap f) → Fresh B v' → Below B w w' → K v' w') : NextP P (builtin .append #[t, t] ty cs #[v, x]) K w := by
  obtain ⟨A, c, he, h1, h2, h3⟩ := hx
  simp only [List.cons.injEq, and_true] at he
  subst he
  cases A with
  | none =>
    have h0 : l = [] := by
      cases l with
      | nil => rfl
      | cons p r => obtain ⟨a, us, h, _⟩ := h3 0 p rfl; cases h
    subst h0
    obtain ⟨i, hi, hzz⟩ := Option.map_eq_some_iff.1 hinfo
    refine nextV (v := v) (w' := w) ?_ (k v w (by simpa using hown) hf (Below.refl B w))
    have hrun : (Builtin.append_ #[t, t] ty #[v, .slice none 0 c]).run P w = .ok v w := by
      rcases hown.2 with ⟨rfl, _⟩ | ⟨g, cap, cur, rfl, _, _, hnc, _⟩
      · simp [Builtin.append_, run_underlying ht, sizeOf, typeInfo, hi, Builtin.lenOf, Builtin.firstCells]
      · simp [Builtin.append_, run_underlying ht, sizeOf, typeInfo, hi, Builtin.lenOf, Builtin.firstCells, hnc, storeCells]
    simp only [builtin, List.length_nil] at hrun ⊢
    simp [hrun]
  | some a =>
    refine apG B ht hinfo hz hsz hown hf hB (news := l.flatMap f) (flatMap_len f size hfl l) (fun j u hu => ?_) (fun u hu => ?_) h63 hbytes (fun v' w' q1 q2 q3 _ => k v' w' q1 q2 q3)
    · have hj := (List.getElem?_eq_some_iff.1 hu).1
      rw [flatMap_len f size hfl] at hj
      have hi : j / size < l.length := Nat.div_lt_of_lt_mul (by rw [Nat.mul_comm]; exact hj)
      have hm : j % size < size := Nat.mod_lt _ hsz
      obtain ⟨a', us, ha, hus, hcell, hrd⟩ := h3 (j / size) l[j / size] (List.getElem?_eq_getElem hi)
      cases ha
      have hdm : j / size * size + j % size = j := Nat.div_add_mod' j size
      have := flatMap_at f size hfl l (j / size) (j % size) l[j / size] (List.getElem?_eq_getElem hi) hm
      rw [hdm, hu] at this
      have hx : us = f l[j / size] := hrd
      subst hx
      have := hcell (j % size) u this.symm
      rwa [hdm] at this
    · obtain ⟨x, hxl, hx⟩ := List.mem_flatMap.1 hu
      exact hf1 x hxl u hx
end
theorem Turns.cut {F : Nat → Prop} {w w' : World} (h : Turns F w w') : Turns (fun k => F k ∧ k < w.heap.size) w w' := ⟨h.os, h.tape, h.output, h.size, fun k hk hF => h.block k hk fun e => hF ⟨e, hk⟩⟩
theorem flatMap_put {α β : Type} (f : α → List β) (s : Nat) (hf : ∀ x, (f x).length = s) (y : α) : ∀ (l : List α) (i : Nat), i < l.length → (l.flatMap f).take (i * s) ++ f y ++ (l.flatMap f).drop (i * s + s) = (l.set i y).flatMap f := by
  intro l
  induction l with
  | nil => intro i h; simp at h
  | cons z r ih =>
    intro i h
    cases i with
    | zero =>
      rw [Nat.zero_mul, List.take_zero, List.nil_append, Nat.zero_add, List.flatMap_cons, List.set_cons_zero, List.flatMap_cons, List.drop_append_of_le_length (by rw [hf]; omega), List.drop_of_length_le (by rw [hf]; omega), List.nil_append]
    | succ i =>
      have := ih i (by simp at h; omega)
      rw [List.flatMap_cons, List.set_cons_succ, List.flatMap_cons, ← this, Nat.succ_mul, List.take_append, List.drop_append, hf, List.take_of_length_le (by rw [hf]; omega), List.drop_of_length_le (l := f z) (by rw [hf]; omega)]
      rw [show i * s + s - s = i * s from by omega, show i * s + s + s - s = i * s + s from by omega]
      simp [List.append_assoc]
end Go.Proofs.YtonblppkidpmlaaGreatDoor.E
namespace Go.Proofs.YtonblppkidpmlaaGreatDoor.E
open Go Go.RowKit

/-- A text. -/
def tS (t : List UInt8) : Value := .string ⟨t.toArray⟩
theorem tS_of (s : ByteArray) : Value.string s = tS s.data.toList := by unfold tS; rw [Array.toArray_toList]
theorem tS_inj {t u : List UInt8} (h : tS t = tS u) : t = u := by
  unfold tS at h
  simp only [Value.string.injEq, ByteArray.mk.injEq] at h
  simpa using h
theorem bytesLess_lt : ∀ (x y : List UInt8), Op.bytesLess x y = decide (x < y)
  | [], [] => by simp [Op.bytesLess]
  | [], b :: y => by simp [Op.bytesLess]
  | a :: x, [] => by simp [Op.bytesLess]
  | a :: x, b :: y => by
    rw [Op.bytesLess, bytesLess_lt x y]
    simp only [List.cons_lt_cons_iff]
    by_cases h1 : a < b <;> by_cases h2 : a = b <;> by_cases h3 : x < y <;> simp [h1, h2, h3]
section
variable {P : Program} {K : Value → World → Prop} {S : World → Prop} {w : World} {ty : TypeId} {x y : Operand}
theorem le_dec (t u : List UInt8) : (Op.bytesLess t u || t == u) = decide (¬ u < t) := by
  rw [bytesLess_lt]
  by_cases h1 : u < t
  · have h2 : ¬ t < u := by grind
    have h3 : t ≠ u := by grind
    simp [h1, h2, h3]
  · by_cases h2 : t < u
    · simp [h1, h2]
    · have h3 : t = u := by grind
      subst h3; simp
theorem pt_eql (t u : List UInt8) : PR P (binS .eql ty x y (tS t) (tS u)) (.bool (decide (t = u))) := by
  have h := pr_seql (P := P) (t := ty) (x := x) (y := y) (a := ⟨t.toArray⟩) (b := ⟨u.toArray⟩)
  simp only at h
  exact h
theorem pt_neq (t u : List UInt8) : PR P (binS .neq ty x y (tS t) (tS u)) (.bool (decide (t ≠ u))) := by
  have h := pr_sneq (P := P) (t := ty) (x := x) (y := y) (a := ⟨t.toArray⟩) (b := ⟨u.toArray⟩)
  simp only at h
  exact h
theorem pt_lss (t u : List UInt8) : PR P (binS .lss ty x y (tS t) (tS u)) (.bool (decide (t < u))) := by
  have h := pr_slss (P := P) (t := ty) (x := x) (y := y) (a := ⟨t.toArray⟩) (b := ⟨u.toArray⟩)
  rw [bytesLess_lt] at h
  exact h
theorem pt_geq (t u : List UInt8) : PR P (binS .geq ty x y (tS t) (tS u)) (.bool (decide (¬ t < u))) := by
  have h := pr_sgeq (P := P) (t := ty) (x := x) (y := y) (a := ⟨t.toArray⟩) (b := ⟨u.toArray⟩)
  rw [bytesLess_lt] at h
  have e : (!decide (t < u)) = decide (¬ t < u) := by by_cases h : t < u <;> simp [h]
  simp only at h
  rw [e] at h
  exact h
theorem pt_gtr (t u : List UInt8) : PR P (binS .gtr ty x y (tS t) (tS u)) (.bool (decide (u < t))) := by
  have h := pr_sgtr (P := P) (t := ty) (x := x) (y := y) (a := ⟨t.toArray⟩) (b := ⟨u.toArray⟩)
  simp only at h
  rw [le_dec] at h
  have e : (!decide (¬ u < t)) = decide (u < t) := by by_cases h : u < t <;> simp [h]
  rw [e] at h
  exact h
theorem tl_eql {t u : List UInt8} (k : K (.bool (decide (t = u))) w) : LiftP P (binS .eql ty x y (tS t) (tS u)) K w := ofPR (pt_eql t u) k
theorem tl_neq {t u : List UInt8} (k : K (.bool (decide (t ≠ u))) w) : LiftP P (binS .neq ty x y (tS t) (tS u)) K w := ofPR (pt_neq t u) k
theorem tl_lss {t u : List UInt8} (k : K (.bool (decide (t < u))) w) : LiftP P (binS .lss ty x y (tS t) (tS u)) K w := ofPR (pt_lss t u) k
theorem tl_geq {t u : List UInt8} (k : K (.bool (decide (¬ t < u))) w) : LiftP P (binS .geq ty x y (tS t) (tS u)) K w := ofPR (pt_geq t u) k
theorem tl_gtr {t u : List UInt8} (k : K (.bool (decide (u < t))) w) : LiftP P (binS .gtr ty x y (tS t) (tS u)) K w := ofPR (pt_gtr t u) k
theorem ty_eql {t u : List UInt8} (k : K (.bool (decide (t = u))) w) : YieldP P S (binS .eql ty x y (tS t) (tS u)) K w := yofPR (pt_eql t u) k
theorem ty_neq {t u : List UInt8} (k : K (.bool (decide (t ≠ u))) w) : YieldP P S (binS .neq ty x y (tS t) (tS u)) K w := yofPR (pt_neq t u) k
theorem ty_lss {t u : List UInt8} (k : K (.bool (decide (t < u))) w) : YieldP P S (binS .lss ty x y (tS t) (tS u)) K w := yofPR (pt_lss t u) k
theorem tl_neq0 {t : List UInt8} (k : K (.bool (decide (t ≠ []))) w) : LiftP P (binS .neq ty x y (tS t) (.string { data := #[] })) K w := tl_neq (u := []) k
theorem ty_eql0 {t : List UInt8} (k : K (.bool (decide (t = []))) w) : YieldP P S (binS .eql ty x y (tS t) (.string { data := #[] })) K w := ty_eql (u := []) k
end
end Go.Proofs.YtonblppkidpmlaaGreatDoor.E
namespace Go.Proofs.YtonblppkidpmlaaGreatDoor.E
open Go Go.RowKit

theorem rowAt {s : Nat} {e : TypeId} {w : World} {v : Value} {α : Type} {f : α → List Value} {l : List α} (hf : ∀ x, (f x).length = s) (h : OwnR s e w v l.length (l.flatMap f)) (i : Nat) (hi : i < l.length) (hs : 0 < s) :
    ∃ g c, v = .slice (some ⟨g, 0, none⟩) l.length c ∧ ∀ j u, (f l[i])[j]? = some u → w.cell? ⟨g, i * s + j, none⟩ = some u := by
  obtain ⟨A, c, rfl, _, _⟩ := h.slice
  have hle : i * s + s ≤ l.length * s := by
    have := Nat.mul_le_mul_right s (show i + 1 ≤ l.length from hi)
    rw [Nat.succ_mul] at this; omega
  obtain ⟨g, _, rfl, _, _, _⟩ := h.at (i * s) (by omega)
  refine ⟨g, c, rfl, fun j u hu => ?_⟩
  have hj : j < s := by have := (List.getElem?_eq_some_iff.1 hu).1; rw [hf] at this; exact this
  obtain ⟨g', u', he, hu', hc, _⟩ := h.at (i * s + j) (by omega)
  cases he
  rw [hc]
  have := flatMap_at f s hf l i j l[i] (List.getElem?_eq_getElem hi) hj
  rw [hu', hu] at this
  exact this
theorem OwnR.cutFrom {s : Nat} {e : TypeId} {w : World} {A : Option Addr} {c : Nat} {α : Type} {f : α → List Value} {l : List α} (hf : ∀ x, (f x).length = s) (hs : 0 < s) (h : OwnR s e w (.slice A l.length c) l.length (l.flatMap f)) (j : Nat) (hj : j ≤ l.length) :
    rRow s (fun _ us x => us = f x) w [sliced A j l.length c s] (l.drop j) := by
  obtain ⟨A', c', he, hc, hm⟩ := h.slice
  cases he
  refine ⟨_, _, by rw [List.length_drop]; rfl, by rw [List.length_drop]; omega, by omega, fun i x hx => ?_⟩
  have hi : j + i < l.length := by
    have := (List.getElem?_eq_some_iff.1 hx).1
    rw [List.length_drop] at this; omega
  obtain ⟨g, c2, he, hcell⟩ := rowAt hf h (j + i) hi hs
  cases he
  rw [List.getElem?_drop, List.getElem?_eq_getElem hi] at hx
  cases hx
  refine ⟨⟨g, j * s, none⟩, f l[j + i], ?_, hf _, fun k u hu => ?_, rfl⟩
  · rw [if_neg (by omega), Option.map_some, add0, Nat.zero_add]
  · rw [add0, ← Nat.add_assoc, ← Nat.add_mul]
    exact hcell k u hu
theorem apOne {P : Program} {K : Value → World → Prop} {w : World} {t ty e : TypeId} {cs : Array Bool} {z : Value} {size bytes : Nat} (ht : P.underlying t = some (.slice e)) (hinfo : (P.info? e).map (fun i => (i.zero, i.size, i.bytes)) = some (some z, size, bytes)) (hz : z.cells.size = size) (hsz : 0 < size)
    {v : Value} {xs : List Value} {n : Nat} (hown : w.ownsRow 0 e size v n xs) {us : List Value} (hl : us.length = size) (h1 : ∀ u ∈ us, u.oneCell' = true) (h63 : n + 1 ≤ 9223372036854775807) (hbytes : (n + 1) * bytes ≤ 140737488355328)
    (hb : (Instr.buildSlice t 1 #[(0, .agg us.toArray)]).run P w = .ok (.slice (some ⟨w.heap.size, 0, none⟩) 1 1) (w.alloc (.cells us.toArray e)))
    (k : ∀ v' w', w'.ownsRow 0 e size v' (n + 1) (xs ++ us) → (v'.ownBlock = v.ownBlock ∨ ∃ b, v'.ownBlock = some b ∧ w.heap.size ≤ b) → Turns (fun j => v.ownBlock = some j) w w' → K v' w') :
    LiftP P (Instr.buildSlice t 1 #[(0, .agg us.toArray)]) (fun u w => NextP P (builtin .append #[t, t] ty cs #[v, u]) K w) w := by
  refine lift hb ?_
  have hB := Blk.new w e us.toArray
  have ha := (Below.refl w.heap.size w).alloc (Nat.le_refl _) (.cells us.toArray e)
  have hs := ha.size
  refine apGb ht hinfo hz hsz (ownsRow_turns hown (Turns.of_below (F := fun _ => False) ha) (fun _ _ h => h)) (a := ⟨w.heap.size, 0, none⟩) (m := 1) (c := 1) (news := us) (by rw [hl, Nat.one_mul]) (fun j u hu => by
    rw [add0, Nat.zero_add, hB.cell j]
    simpa using hu) h1 h63 hbytes ?_
  intro v' w' ho hbl hT
  refine k v' w' ho (hbl.imp id fun h => ⟨_, h, hs⟩) ((Turns.of_below ha).trans (hT.mono fun j _ e => .inl e))
theorem Fresh.one {B : Nat} {w : World} {v v' : Value} (h : Fresh B v) (hB : B ≤ w.heap.size) (hbl : v'.ownBlock = v.ownBlock ∨ ∃ b, v'.ownBlock = some b ∧ w.heap.size ≤ b) : Fresh B v' := fun k hk => by
  rcases hbl with e | ⟨b, e, hb⟩
  · exact h k (by rw [← e]; exact hk)
  · rw [e] at hk; cases hk; omega
theorem Turns.fresh {B : Nat} {w w' : World} {v : Value} (hT : Turns (fun j => v.ownBlock = some j) w w') (h : Fresh B v) (hB : B ≤ w.heap.size) : Below B w w' := hT.below hB fun k hk e => by have := h k e; omega
section
variable {P : Program} {K : Value → World → Prop} {S : World → Prop} {w : World} {ty : TypeId} {x y : Operand}
theorem dec_K {p : Prop} [Decidable p] (h1 : p → K (.bool true) w) (h2 : ¬ p → K (.bool false) w) : K (.bool (decide p)) w := by
  by_cases h : p
  · rw [decide_eq_true h]; exact h1 h
  · rw [decide_eq_false h]; exact h2 h
theorem tB {p : Prop} [Decidable p] (h : p) : Value.bool true = .bool (decide p) := by rw [decide_eq_true h]
theorem fB {p : Prop} [Decidable p] (h : ¬ p) : Value.bool false = .bool (decide p) := by rw [decide_eq_false h]
theorem tl_neq0_c {t : List UInt8} (h1 : t ≠ [] → K (.bool true) w) (h2 : ¬ (t ≠ []) → K (.bool false) w) : LiftP P (binS .neq ty x y (tS t) (.string { data := #[] })) K w := tl_neq0 (dec_K h1 h2)
theorem tl_lss_c {t u : List UInt8} (h1 : t < u → K (.bool true) w) (h2 : ¬ (t < u) → K (.bool false) w) : LiftP P (binS .lss ty x y (tS t) (tS u)) K w := tl_lss (dec_K h1 h2)
theorem tl_gtr_c {t u : List UInt8} (h1 : u < t → K (.bool true) w) (h2 : ¬ (u < t) → K (.bool false) w) : LiftP P (binS .gtr ty x y (tS t) (tS u)) K w := tl_gtr (dec_K h1 h2)
theorem ty_eql_c {t u : List UInt8} (h1 : t = u → K (.bool true) w) (h2 : ¬ (t = u) → K (.bool false) w) : YieldP P S (binS .eql ty x y (tS t) (tS u)) K w := ty_eql (dec_K h1 h2)
theorem ty_eql0_c {t : List UInt8} (h1 : t = [] → K (.bool true) w) (h2 : ¬ (t = []) → K (.bool false) w) : YieldP P S (binS .eql ty x y (tS t) (.string { data := #[] })) K w := ty_eql0 (dec_K h1 h2)
theorem ty_neq_c {t u : List UInt8} (h1 : t ≠ u → K (.bool true) w) (h2 : ¬ (t ≠ u) → K (.bool false) w) : YieldP P S (binS .neq ty x y (tS t) (tS u)) K w := ty_neq (dec_K h1 h2)
theorem ty_neq_f {t u : List UInt8} (h : ¬ (t ≠ u)) (k : K (.bool false) w) : YieldP P S (binS .neq ty x y (tS t) (tS u)) K w := ty_neq (dec_K (fun e => absurd e h) (fun _ => k))
theorem ty_lss_c {t u : List UInt8} (h1 : t < u → K (.bool true) w) (h2 : ¬ (t < u) → K (.bool false) w) : YieldP P S (binS .lss ty x y (tS t) (tS u)) K w := ty_lss (dec_K h1 h2)
end
section
variable {P : Program} {K : Value → World → Prop} {S : World → Prop} {w : World} {t : TypeId}
theorem bxB {cs : Array Value} (k : ∀ g w', g = w.heap.size → Blk w' g t cs → Below w.heap.size w w' → K (.pointer (some ⟨g, 0, none⟩)) w') : LiftP P (Instr.box t (.agg cs)) K w :=
  bx (k _ _ rfl (Blk.new w t cs) ((Below.refl _ _).alloc (Nat.le_refl _) _))
theorem alB {cs : Array Value} (hz : (P.info? t).bind (·.zero) = some (.agg cs)) (k : ∀ g w', g = w.heap.size → Blk w' g t cs → Below w.heap.size w w' → K (.pointer (some ⟨g, 0, none⟩)) w') : LiftP P (Instr.alloc t true (.tuple #[])) K w :=
  al hz (k _ _ rfl (Blk.new w t cs) ((Below.refl _ _).alloc (Nat.le_refl _) _))
theorem stB {g : Nat} {old cells : Array Value} (hb : Blk w g t old) (hi : (P.info? t).map (·.size) = some cells.size) (ho : old.size = cells.size) (h1 : cells.all (·.oneCell') = true)
    {K : Value → World → Prop} (k : ∀ w', Blk w' g t cells → Turns (fun j => j = g) w w' → K undef w') : LiftU P (Instr.storeAt t (.pointer (some ⟨g, 0, none⟩)) (.agg cells)) K w :=
  stA hb hi ho h1 (k _ (hb.row cells) (Turns.setRow (F := fun j => j = g) (Turns.refl _ w) (.inl rfl) _))
theorem Turns.own {B g : Nat} {w w' : World} (h : Turns (fun j => j = g) w w') (hg : B ≤ g) (hB : B ≤ w.heap.size) : Below B w w' := h.below hB fun k hk e => by omega
theorem below_own {W w w' : World} {g : Nat} (hb : Below W.heap.size W w) (h : Turns (fun j => j = g) w w') (hg : W.heap.size ≤ g) : Below W.heap.size W w' := hb.trans (h.own hg hb.size)
end
end Go.Proofs.YtonblppkidpmlaaGreatDoor.E
namespace Go.Proofs.YtonblppkidpmlaaGreatDoor.E
open Go Go.RowKit

section
variable {P : Program} {K : Value → World → Prop} {S : World → Prop} {w : World}
theorem zeroCells_one {zc : Array Value} (h1 : zc.all (·.oneCell') = true) (h0 : 0 < zc.size) (n : Nat) : ∀ v ∈ (Builtin.zeroCells zc n).toList, v.oneCell' = true := by
  intro v hv
  unfold Builtin.zeroCells at hv
  simp only [Array.toList_map, List.mem_map] at hv
  obtain ⟨i, _, rfl⟩ := hv
  have hi : i % zc.size < zc.size := Nat.mod_lt _ h0
  rw [getElem!_pos zc (i % zc.size) hi]
  exact (Array.all_eq_true_iff_forall_mem.1 h1) _ (Array.getElem_mem hi)
theorem zeroCells_size (zc : Array Value) (n : Nat) : (Builtin.zeroCells zc n).size = n * zc.size := by simp [Builtin.zeroCells]
theorem clr {t tt e ty : TypeId} {cs : Array Bool} {z : Value} {s : Nat} (ht : P.underlying t = some (.slice e)) (hz : (P.info? e).bind (·.zero) = some z) (hs : z.cells.size = s) (h1 : z.cells.all (·.oneCell') = true) (h0 : 0 < s)
    {g o n c : Nat} {cur : Array Value} (hb : Blk w g tt cur) (hl : o + n * s ≤ cur.size) (hn : 0 < n)
    (k : ∀ w' cur', Blk w' g tt cur' → cur'.size = cur.size → cur'.toList.take o = cur.toList.take o → Turns (fun j => j = g) w w' → K (.tuple #[]) w') :
    NextP P (builtin .clear #[t] ty cs #[.slice (some ⟨g, o, none⟩) n c]) K w := by
  obtain ⟨m, rfl⟩ : ∃ m, n = m + 1 := ⟨n - 1, by omega⟩
  have hZ := zeroCells_one h1 (by omega) (m + 1)
  have hZs := zeroCells_size z.cells (m + 1)
  have hr := run_storeCells_at (P := P) g o tt (Builtin.zeroCells z.cells (m + 1)).toList 0 cur w hb (by simp only [Array.length_toList, hZs, hs]; omega) hZ
  simp only [Nat.add_zero, Array.length_toList, hZs, hs] at hr
  have hlen : (Builtin.zeroCells z.cells (m + 1)).toList.length = (m + 1) * s := by rw [Array.length_toList, hZs, hs]
  obtain ⟨i, hi, hzz⟩ := Option.bind_eq_some_iff.1 hz
  have hrun : (Builtin.clear_ #[t] ty #[.slice (some ⟨g, o, none⟩) (m + 1) c]).run P w = (do storeCells ⟨g, o, none⟩ (Builtin.zeroCells z.cells (m + 1)).toList; pure (Value.tuple #[]) : Sem Value).run P w := by
    simp [Builtin.clear_, run_underlying ht, zeroValue, typeInfo, hi, hzz]
  generalize (Builtin.zeroCells z.cells (m + 1)).toList = Z at *
  have hrun2 : (Builtin.clear_ #[t] ty #[.slice (some ⟨g, o, none⟩) (m + 1) c]).run P w = .ok (.tuple #[]) (w.setRow g (cur.toList.take o ++ Z ++ cur.toList.drop (o + (m + 1) * s)).toArray) := by
    rw [hrun]; simp [hr]
  refine nextV (v := .tuple #[]) (w' := w.setRow g (cur.toList.take o ++ Z ++ cur.toList.drop (o + (m + 1) * s)).toArray) ?_ (k _ _ (hb.row _) ?_ ?_ (Turns.setRow (F := fun j => j = g) (Turns.refl _ w) (.inl rfl) _))
  · simp only [builtin] at hrun2 ⊢
    simp [hrun2]
  · simp only [List.size_toArray, List.length_append, List.length_take, List.length_drop, Array.length_toList, hlen]; omega
  · rw [List.toList_toArray, List.append_assoc, List.take_append_of_le_length (by simp only [List.length_take, Array.length_toList]; omega), List.take_take, Nat.min_self]
/-- A row of the call's own, all behind the i-th element cleared. -/
theorem clrR {t e ty : TypeId} {cs : Array Bool} {z : Value} {s : Nat} (ht : P.underlying t = some (.slice e)) (hz : (P.info? e).bind (·.zero) = some z) (hs : z.cells.size = s) (h1 : z.cells.all (·.oneCell') = true) (h0 : 0 < s)
    {g n c i c' : Nat} {xs : List Value} (h : OwnR s e w (.slice (some ⟨g, 0, none⟩) n c) n xs) (hi : i < n)
    (k : ∀ w', OwnR s e w' (.slice (some ⟨g, 0, none⟩) i c) i (xs.take (i * s)) → Turns (fun j => j = g) w w' → K (.tuple #[]) w') :
    NextP P (builtin .clear #[t] ty cs #[.slice (some ⟨g, i * s, none⟩) (n - i) c']) K w := by
  obtain ⟨hl, h⟩ := h
  rcases h with ⟨h, _⟩ | ⟨g', c', cur, he, hb, h2, h3, h4, h5⟩
  · cases h
  cases he
  have hm : i * s + (n - i) * s = n * s := by rw [← Nat.add_mul]; congr 1; omega
  have hle : i * s ≤ n * s := Nat.mul_le_mul_right s (by omega)
  refine clr ht hz hs h1 h0 hb (by omega) (by omega) ?_
  intro w' cur' hb' hsz htk hT
  refine k w' ⟨by rw [List.length_take]; omega, .inr ⟨g, c, cur', rfl, hb', by omega, h3, by omega, ?_⟩⟩ hT
  rw [htk, ← h5, List.take_take, Nat.min_eq_left hle]
end
theorem add_add (a : Addr) (m n : Nat) : (a.add m).add n = a.add (m + n) := by
  unfold Addr.add
  by_cases hm : m = 0 <;> by_cases hn : n = 0 <;> simp [hm, hn, Nat.add_assoc]
/-- A row read from its j-th element on. -/
theorem rRow.cutFrom {α : Type} {s : Nat} {r : Rdr α} {w : World} {A : Option Addr} {c : Nat} {l : List α} (h : rRow s r w [.slice A l.length c] l) (j : Nat) (hj : j ≤ l.length) : rRow s r w [sliced A j l.length c s] (l.drop j) := by
  obtain ⟨A', c', he, hc, hm, h3⟩ := h
  simp only [List.cons.injEq, Value.slice.injEq, and_true, true_and] at he
  obtain ⟨rfl, rfl⟩ := he
  refine ⟨_, _, by rw [List.length_drop]; rfl, by rw [List.length_drop]; omega, by omega, fun i x hx => ?_⟩
  have hi : j + i < l.length := by
    have := (List.getElem?_eq_some_iff.1 hx).1
    rw [List.length_drop] at this; omega
  rw [List.getElem?_drop] at hx
  obtain ⟨a, us, rfl, hus, hcell, hr⟩ := h3 (j + i) x hx
  refine ⟨a.add (j * s), us, by rw [if_neg (by omega)]; rfl, hus, fun k u hu => ?_, hr⟩
  rw [add_add, ← Nat.add_assoc, ← Nat.add_mul]
  exact hcell k u hu
end Go.Proofs.YtonblppkidpmlaaGreatDoor.E
namespace Go.Proofs.YtonblppkidpmlaaGreatDoor.E
open Go Go.RowKit

end Go.Proofs.YtonblppkidpmlaaGreatDoor.E
namespace Go.Proofs.YtonblppkidpmlaaGreatDoor.E
open Go Go.RowKit
set_option linter.unusedSimpArgs false
set_option linter.unusedVariables false

end Go.Proofs.YtonblppkidpmlaaGreatDoor.E
namespace Go.Proofs.YtonblppkidpmlaaGreatDoor.E
open Go Go.RowKit
set_option linter.unusedSimpArgs false
set_option linter.unusedVariables false

/-- A value: kind, number, text. -/
abbrev ValT := Int × Int × ByteArray × Unit
def valF (p : ValT) : List Value := [.int .i64 p.1, .int .i64 p.2.1, .string p.2.2.1]
abbrev rVal : Rdr ValT := rCons 1 (rI .i64) (rCons 1 (rI .i64) (rCons 1 rS rNil))
abbrev Vals : Rdr (List ValT) := rRow 3 rVal
abbrev Ints : Rdr (List Int) := rRow 1 (rI .i64)
theorem keeps_Vals : Keeps Vals := keeps_Row (keeps_Cons (keeps_I _) (keeps_Cons (keeps_I _) (keeps_Cons keeps_S keeps_Nil)))
theorem keeps_Ints : Keeps Ints := keeps_Row (keeps_I _)
def valOk (p : ValT) : Prop := (Lit.int .i64 p.1).wf = true ∧ (Lit.int .i64 p.2.1).wf = true ∧ p.2.2.1.size ≤ maxLen
theorem val_cells {w : World} {us : List Value} {x : ValT} (h : rVal w us x) : us = valF x ∧ valOk x := by
  obtain ⟨r, rfl, h1, h⟩ := rCons_I h
  obtain ⟨r, rfl, h2, h⟩ := rCons_I h
  obtain ⟨r, rfl, h3, h⟩ := rCons_S h
  have : r = [] := h
  subst this
  exact ⟨rfl, h1, h2, h3⟩
theorem rVal_of {w : World} {x : ValT} (h : valOk x) : rVal w (valF x) x := ⟨⟨rfl, h.1⟩, ⟨rfl, h.2.1⟩, ⟨rfl, h.2.2⟩, rfl⟩
theorem vals_ok {w : World} {v : Value} {l : List ValT} (h : Vals w [v] l) : ∀ p ∈ l, valOk p := by
  intro p hp
  obtain ⟨A, c, he, _, _, h⟩ := h
  obtain ⟨i, hi, rfl⟩ := List.getElem_of_mem hp
  obtain ⟨a, us, _, _, _, hr⟩ := h i l[i] (List.getElem?_eq_getElem hi)
  exact (val_cells hr).2
theorem valF_one : ∀ x : ValT, ∀ u ∈ valF x, u.oneCell' = true := by
  intro x u hu
  simp only [valF, List.mem_cons, List.not_mem_nil, or_false] at hu
  rcases hu with rfl | rfl | rfl <;> rfl
theorem und3 : Tryz.prog.underlying 3 = some (.int .i64) := by kernel_rfl
theorem und4 : Tryz.prog.underlying 4 = some .bool := by kernel_rfl
theorem und5 : Tryz.prog.underlying 5 = some (.int .u8) := by kernel_rfl
theorem und9 : Tryz.prog.underlying 9 = some .string := by kernel_rfl
theorem undVs : Tryz.prog.underlying 22 = some (.slice 67) := by kernel_rfl
theorem undRec : Tryz.prog.underlying 23 = some (.slice 67) := by kernel_rfl
theorem undIs : Tryz.prog.underlying 24 = some (.slice 3) := by kernel_rfl
theorem sz3 : (Tryz.prog.info? 3).map (·.size) = some 1 := by kernel_rfl
theorem sz4 : (Tryz.prog.info? 4).map (·.size) = some 1 := by kernel_rfl
theorem sz9 : (Tryz.prog.info? 9).map (·.size) = some 1 := by kernel_rfl
theorem szVal : (Tryz.prog.info? 67).map (·.size) = some 3 := by kernel_rfl
theorem szVs : (Tryz.prog.info? 22).map (·.size) = some 1 := by kernel_rfl
theorem one3 : oneB Tryz.prog 3 = true := by kernel_rfl
theorem one4 : oneB Tryz.prog 4 = true := by kernel_rfl
theorem one9 : oneB Tryz.prog 9 = true := by kernel_rfl
theorem oneE : oneB Tryz.prog 29 = true := by kernel_rfl
theorem oneVs : oneB Tryz.prog 22 = true := by kernel_rfl
theorem oneRec : oneB Tryz.prog 23 = true := by kernel_rfl
theorem oneIs : oneB Tryz.prog 24 = true := by kernel_rfl
theorem aggVal : aggB Tryz.prog 67 = true := by kernel_rfl
theorem zVal : (Tryz.prog.info? 67).bind (·.zero) = some (.agg (valF (0, 0, ⟨#[]⟩, ())).toArray) := by kernel_rfl
theorem infVal : (Tryz.prog.info? 67).map (fun i => (i.zero, i.size, i.bytes)) = some (some (.agg (valF (0, 0, ⟨#[]⟩, ())).toArray), 3, 32) := by kernel_rfl
theorem v0 : fofs Tryz.prog 67 0 = some (0, 1) := by kernel_rfl
theorem v1 : fofs Tryz.prog 67 1 = some (1, 1) := by kernel_rfl
theorem v2 : fofs Tryz.prog 67 2 = some (2, 1) := by kernel_rfl
abbrev OpT := Int × ByteArray × ByteArray × List ValT × List ValT × Int × List Int × List ValT × List ValT × Int × Int × Int × Unit
abbrev rOp : Rdr OpT := rCons 1 (rI .i64) (rCons 1 rS (rCons 1 rS (rCons 1 Vals (rCons 1 Vals (rCons 1 (rI .i64) (rCons 1 Ints (rCons 1 Vals (rCons 1 Vals (rCons 1 (rI .i64) (rCons 1 (rI .i64) (rCons 1 (rI .i64) rNil)))))))))))
abbrev Ops : Rdr (List OpT) := rRow 12 rOp
theorem keeps_Op : Keeps rOp := keeps_Cons (keeps_I _) (keeps_Cons keeps_S (keeps_Cons keeps_S (keeps_Cons keeps_Vals (keeps_Cons keeps_Vals (keeps_Cons (keeps_I _) (keeps_Cons keeps_Ints (keeps_Cons keeps_Vals (keeps_Cons keeps_Vals (keeps_Cons (keeps_I _) (keeps_Cons (keeps_I _) (keeps_Cons (keeps_I _) keeps_Nil)))))))))))
theorem keeps_Ops : Keeps Ops := keeps_Row keeps_Op
theorem opens_Val : Opens Tryz.prog 67 rVal := opens_struct Tryz.underlying67 (by kernel_rfl) (opensF_cons rfl (by kernel_rfl) (by decide) (opens_int und3) (opensF_cons rfl (by kernel_rfl) (by decide) (opens_int und3) (opensF_cons rfl (by kernel_rfl) (by decide) (opens_string und9) opensF_nil)))
theorem opens_Vals : Opens Tryz.prog 22 Vals := opens_row undVs (by kernel_rfl) opens_Val
theorem opens_Rec : Opens Tryz.prog 23 Vals := opens_row undRec (by kernel_rfl) opens_Val
theorem opens_Ints : Opens Tryz.prog 24 Ints := opens_row undIs (by kernel_rfl) (opens_int und3)
theorem opens_Op : Opens Tryz.prog 26 rOp := opens_struct Tryz.underlying26 (by kernel_rfl)
  (opensF_cons rfl (by kernel_rfl) (by decide) (opens_int und3) (opensF_cons rfl (by kernel_rfl) (by decide) (opens_string und9) (opensF_cons rfl (by kernel_rfl) (by decide) (opens_string und9)
  (opensF_cons rfl (by kernel_rfl) (by decide) opens_Rec (opensF_cons rfl (by kernel_rfl) (by decide) opens_Rec (opensF_cons rfl (by kernel_rfl) (by decide) (opens_int und3) (opensF_cons rfl (by kernel_rfl) (by decide) opens_Ints
  (opensF_cons rfl (by kernel_rfl) (by decide) opens_Vals (opensF_cons rfl (by kernel_rfl) (by decide) opens_Vals (opensF_cons rfl (by kernel_rfl) (by decide) (opens_int und3) (opensF_cons rfl (by kernel_rfl) (by decide) (opens_int und3)
  (opensF_cons rfl (by kernel_rfl) (by decide) (opens_int und3) opensF_nil))))))))))))
theorem undOps : Tryz.prog.underlying 31 = some (.slice 26) := by kernel_rfl
theorem opens_Ops : Opens Tryz.prog 31 Ops := opens_row undOps (by kernel_rfl) opens_Op
/-- An operation told apart: what stands in its cells. -/
structure OpP where
  kind : Int
  key : ByteArray
  to : ByteArray
  rcd : List ValT
  old : List ValT
  id : Int
  fields : List Int
  low : List ValT
  high : List ValT
  limit : Int
  space : Int
  node : Int
/-- The slices of an operation. -/
structure OpS where
  rcd : Value
  old : Value
  fields : Value
  low : Value
  high : Value
def opC (o : OpP) (s : OpS) : Array Value := #[.int .i64 o.kind, .string o.key, .string o.to, s.rcd, s.old, .int .i64 o.id, s.fields, s.low, s.high, .int .i64 o.limit, .int .i64 o.space, .int .i64 o.node]
/-- That an operation's slices read so. -/
structure OpAt (w : World) (o : OpP) (s : OpS) : Prop where
  rcd : Vals w [s.rcd] o.rcd
  old : Vals w [s.old] o.old
  fields : Ints w [s.fields] o.fields
  low : Vals w [s.low] o.low
  high : Vals w [s.high] o.high
  wf : -9223372036854775808 ≤ o.kind ∧ o.kind ≤ 9223372036854775807 ∧ -9223372036854775808 ≤ o.id ∧ o.id ≤ 9223372036854775807 ∧ -9223372036854775808 ≤ o.limit ∧ o.limit ≤ 9223372036854775807 ∧ -9223372036854775808 ≤ o.space ∧ o.space ≤ 9223372036854775807 ∧ -9223372036854775808 ≤ o.node ∧ o.node ≤ 9223372036854775807
  sz : o.key.size ≤ maxLen ∧ o.to.size ≤ maxLen
theorem OpAt.below {w w' : World} {o : OpP} {s : OpS} (h : OpAt w o s) (hb : Below w.heap.size w w') : OpAt w' o s :=
  ⟨keeps_Vals _ _ _ _ hb h.rcd, keeps_Vals _ _ _ _ hb h.old, keeps_Ints _ _ _ _ hb h.fields, keeps_Vals _ _ _ _ hb h.low, keeps_Vals _ _ _ _ hb h.high, h.wf, h.sz⟩
theorem wf_64 {n : Int} (h : (Lit.int .i64 n).wf = true) : -9223372036854775808 ≤ n ∧ n ≤ 9223372036854775807 := by
  simp [Lit.wf, IntKind.min, IntKind.max, IntKind.signed, IntKind.bits] at h
  omega
end Go.Proofs.YtonblppkidpmlaaGreatDoor.E
