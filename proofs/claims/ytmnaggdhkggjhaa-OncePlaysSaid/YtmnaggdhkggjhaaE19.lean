/-
  E19: maps with int keys; functions as values.
-/
import Derived.Test.YtmnaggdhkggjhaaE18
import Derived.MapKept
namespace Go.Proofs.Ytmnaggdhkggjhaa.E
open Go Go.RowKit

theorem wf64 {n : Int} (h : -9223372036854775808 ≤ n ∧ n ≤ 9223372036854775807) : (Lit.int .i64 n).wf = true := by
  simp [Lit.wf, IntKind.min, IntKind.max, IntKind.signed, IntKind.bits]
  omega
/-! ### 1. rows of keys and values -/
def getK {α : Type} (k : Int) : List (Int × α) → Option α
  | [] => none
  | (a, v) :: r => if k = a then some v else getK k r
def setK {α : Type} (k : Int) (v : α) : List (Int × α) → List (Int × α)
  | [] => [(k, v)]
  | (a, u) :: r => if k = a then (k, v) :: r else (a, u) :: setK k v r
def delK {α : Type} (k : Int) : List (Int × α) → List (Int × α)
  | [] => []
  | (a, u) :: r => if k = a then r else (a, u) :: delK k r
def idxK {α : Type} (k : Int) : List (Int × α) → Option (Nat × α)
  | [] => none
  | (a, v) :: r => if k = a then some (0, v) else (idxK k r).map fun p => (p.1 + 1, p.2)
theorem getK_idx {α : Type} (k : Int) : ∀ l : List (Int × α), getK k l = (idxK k l).map (·.2)
  | [] => rfl
  | (a, v) :: r => by
    rw [getK, idxK]
    split
    · rfl
    · rw [getK_idx k r, Option.map_map]; rfl
/-- A map in memory: its entries, in the order of their birth. -/
def MapI (w : World) (b : Nat) (l : List (Int × Value)) : Prop := ∃ es clock, w.heap[b]? = some (.map es clock) ∧ es.toList.map (fun e => (e.key, e.val)) = (l.map fun p => (Value.int .i64 p.1, p.2)) ∧
  MapKept.Stamped es clock ∧ es.size ≤ maxLen ∧ ∀ p ∈ l, (Lit.int .i64 p.1).wf = true
section
variable {w w' : World} {b : Nat} {l : List (Int × Value)}
theorem MapI.lt (h : MapI w b l) : b < w.heap.size := by
  obtain ⟨es, c, h1, _⟩ := h
  exact (Array.getElem?_eq_some_iff.1 h1).1
theorem MapI.turns {F : Nat → Prop} (h : MapI w b l) (hT : Turns F w w') (hF : ¬ F b) : MapI w' b l := by
  have hlt := h.lt
  obtain ⟨es, c, h1, h2, h3⟩ := h
  exact ⟨es, c, (hT.block b hlt hF).trans h1, h2, h3⟩
theorem MapI.below (h : MapI w b l) (hb : Below w.heap.size w w') : MapI w' b l := h.turns (F := fun _ => False) (Turns.of_below hb) (fun h => h)
theorem findNow_int (k : Int) : ∀ (es : List MapEntry) (l : List (Int × Value)) (i : Nat), es.map (fun e => (e.key, e.val)) = l.map (fun p => (Value.int .i64 p.1, p.2)) →
    Instr.findNow (.int .i64) (.int .i64 k) es i = some ((idxK k l).map fun p => (i + p.1, p.2)) := by
  intro es
  induction es with
  | nil => intro l i h; cases l with
    | nil => rfl
    | cons p r => simp at h
  | cons e es ih =>
    intro l i h
    cases l with
    | nil => simp at h
    | cons p r =>
      obtain ⟨a, v⟩ := p
      simp only [List.map_cons, List.cons.injEq, Prod.mk.injEq] at h
      obtain ⟨⟨h1, h2⟩, h3⟩ := h
      rw [Instr.findNow, h1, idxK]
      by_cases hk : k = a
      · subst hk
        simp [Instr.sameNow, h2]
      · have : (k == a) = false := by simpa using hk
        simp only [Instr.sameNow, if_true, this, if_neg hk]
        rw [ih r (i + 1) h3, Option.map_map]
        congr 2
        funext p
        simp only [Function.comp]
        congr 1
        omega
end
section
variable {P : Program} {K : Value → World → Prop} {w : World} {b : Nat} {l : List (Int × Value)}
theorem run_find (hk : P.underlying 3 = some (.int .i64)) {es : Array MapEntry} {k : Int} (h : es.toList.map (fun e => (e.key, e.val)) = l.map fun p => (Value.int .i64 p.1, p.2)) :
    (Instr.findKey 3 (.int .i64 k) es.toList).run P w = .ok (idxK k l) w := by
  rw [MapKept.run_findKey hk (findNow_int k _ _ 0 h)]
  congr 1
  cases idxK k l with
  | none => rfl
  | some p => simp
theorem run_chk (hk : P.underlying 3 = some (.int .i64)) (e : Bool) (k : Int) : (Instr.checkKey e 10000 3 (.int .i64 k)).run P w = .ok () w := MapKept.run_checkKey (d := .int .i64) hk (show MapKept.IsKey (.int .i64) (.int .i64 k) from rfl) e 9999
/-- v, ok := m[k] -/
theorem lkp {t e : TypeId} {z : Value} (ht : P.underlying t = some (.map 3 e)) (hk : P.underlying 3 = some (.int .i64)) (hz : (P.info? e).bind (·.zero) = some z) (h : MapI w b l) {k : Int}
    (kk : K (.tuple #[(getK k l).getD z, .bool (getK k l).isSome]) w) : LiftP P (Instr.lookup t (.map (some b)) (.int .i64 k) true) K w := by
  obtain ⟨es, c, h1, h2, _⟩ := h
  obtain ⟨i, hi, hzz⟩ := Option.bind_eq_some_iff.1 hz
  refine lift ?_ kk
  rw [getK_idx]
  cases hx : idxK k l with
  | none => simp [Instr.lookup, run_underlying ht, MapKept.run_getObj_map h1, run_chk hk, run_find hk h2, hx, zeroValue, typeInfo, hi, hzz]
  | some p => simp [Instr.lookup, run_underlying ht, MapKept.run_getObj_map h1, run_chk hk, run_find hk h2, hx]
theorem lnm {t ty : TypeId} {e kt : TypeId} (ht : P.underlying t = some (.map kt e)) {cs : Array Bool} (h : MapI w b l) (kk : K (.int .i64 l.length) w) : NextP P (builtin .len #[t] ty cs #[.map (some b)]) K w := by
  obtain ⟨es, c, h1, h2, _⟩ := h
  have hl : es.size = l.length := by have := congrArg List.length h2; simpa using this
  refine nextV (v := .int .i64 l.length) (w' := w) ?_ kk
  simp [builtin, Builtin.len_, run_underlying ht, MapKept.run_getObj_map h1, goInt, hl]
end
theorem set_world_eq {w : World} {b : Nat} {es : Array MapEntry} {c : Nat} (o : Obj) (h : w.heap[b]? = some (.map es c)) : Turns (fun k => k = b) w { w with heap := w.heap.setIfInBounds b o } ∧ ({ w with heap := w.heap.setIfInBounds b o } : World).heap[b]? = some o := by
  refine ⟨⟨rfl, rfl, rfl, by simp, fun k _ hk => (MapKept.heap_set (o' := o) h).2 k hk⟩, (MapKept.heap_set (o' := o) h).1⟩
theorem entries_set (k : Int) (v : Value) : ∀ (es : List MapEntry) (l : List (Int × Value)) (i : Nat) (u : Value), es.map (fun e => (e.key, e.val)) = l.map (fun p => (Value.int .i64 p.1, p.2)) → idxK k l = some (i, u) →
    (es.modify i fun e => { e with key := .int .i64 k, val := v }).map (fun e => (e.key, e.val)) = (setK k v l).map fun p => (Value.int .i64 p.1, p.2) := by
  intro es
  induction es with
  | nil => intro l i u h hx; cases l with
    | nil => simp [idxK] at hx
    | cons p r => simp at h
  | cons e es ih =>
    intro l i u h hx
    cases l with
    | nil => simp at h
    | cons p r =>
      obtain ⟨a, y⟩ := p
      simp only [List.map_cons, List.cons.injEq] at h
      obtain ⟨h1, h3⟩ := h
      rw [idxK] at hx
      rw [setK]
      split at hx
      · rename_i hk
        rw [if_pos hk]
        cases hx
        simp [h3]
      · rename_i hk
        rw [if_neg hk]
        cases hr : idxK k r with
        | none => rw [hr] at hx; simp at hx
        | some q =>
          rw [hr] at hx
          obtain ⟨j, y'⟩ := q
          simp at hx
          obtain ⟨rfl, rfl⟩ := hx
          simp only [List.modify_succ_cons, List.map_cons, h1]
          rw [ih r j y' h3 hr]
theorem setK_none {α : Type} (k : Int) (v : α) : ∀ l : List (Int × α), idxK k l = none → setK k v l = l ++ [(k, v)]
  | [], _ => rfl
  | (a, u) :: r, h => by
    rw [idxK] at h
    rw [setK]
    split at h
    · cases h
    · rename_i hk
      rw [if_neg hk, setK_none k v r (by simpa using h)]; rfl
theorem entries_del (k : Int) : ∀ (es : List MapEntry) (l : List (Int × Value)) (i : Nat) (u : Value), es.map (fun e => (e.key, e.val)) = l.map (fun p => (Value.int .i64 p.1, p.2)) → idxK k l = some (i, u) →
    (es.eraseIdx i).map (fun e => (e.key, e.val)) = (delK k l).map fun p => (Value.int .i64 p.1, p.2) := by
  intro es
  induction es with
  | nil => intro l i u h hx; cases l with
    | nil => simp [idxK] at hx
    | cons p r => simp at h
  | cons e es ih =>
    intro l i u h hx
    cases l with
    | nil => simp at h
    | cons p r =>
      obtain ⟨a, y⟩ := p
      simp only [List.map_cons, List.cons.injEq] at h
      obtain ⟨h1, h3⟩ := h
      rw [idxK] at hx
      rw [delK]
      split at hx
      · rename_i hk
        rw [if_pos hk]
        cases hx
        simpa using h3
      · rename_i hk
        rw [if_neg hk]
        cases hr : idxK k r with
        | none => rw [hr] at hx; simp at hx
        | some q =>
          rw [hr] at hx
          obtain ⟨j, y'⟩ := q
          simp at hx
          obtain ⟨rfl, rfl⟩ := hx
          simp only [List.eraseIdx_cons_succ, List.map_cons, h1]
          rw [ih r j y' h3 hr]
theorem delK_none {α : Type} (k : Int) : ∀ l : List (Int × α), idxK k l = none → delK k l = l
  | [], _ => rfl
  | (a, u) :: r, h => by
    rw [idxK] at h
    rw [delK]
    split at h
    · cases h
    · rename_i hk
      rw [if_neg hk, delK_none k r (by simpa using h)]
theorem idxK_none_mem {α : Type} (k : Int) : ∀ l : List (Int × α), idxK k l = none → ∀ p ∈ l, p.1 ≠ k
  | [], _, p, hp => by simp at hp
  | (a, u) :: r, h, p, hp => by
    rw [idxK] at h
    split at h
    · cases h
    · rename_i hk
      rcases List.mem_cons.1 hp with rfl | hp
      · exact fun e => hk e.symm
      · exact idxK_none_mem k r (by simpa using h) p hp
theorem setK_sub {α : Type} (k : Int) (v : α) : ∀ (l : List (Int × α)) (p : Int × α), p ∈ setK k v l → p ∈ l ∨ p.1 = k
  | [], p, h => by
    simp only [setK, List.mem_cons, List.not_mem_nil, or_false] at h
    rw [h]; exact .inr rfl
  | (a, u) :: r, p, h => by
    rw [setK] at h
    split at h
    · rcases List.mem_cons.1 h with h | h
      · rw [h]; exact .inr rfl
      · exact .inl (List.mem_cons_of_mem _ h)
    · rcases List.mem_cons.1 h with h | h
      · rw [h]; exact .inl (by simp)
      · exact (setK_sub k v r p h).imp (List.mem_cons_of_mem _) id
theorem delK_sub {α : Type} (k : Int) : ∀ (l : List (Int × α)) (x : Int × α), x ∈ delK k l → x ∈ l
  | [], x, h => by simp [delK] at h
  | (a, u) :: r, x, h => by
    rw [delK] at h
    split at h
    · exact List.mem_cons_of_mem _ h
    · rcases List.mem_cons.1 h with h | h
      · rw [h]; simp
      · exact List.mem_cons_of_mem _ (delK_sub k r x h)
section
variable {P : Program} {K : Value → World → Prop} {w : World} {b : Nat} {l : List (Int × Value)}
/-- m[k] = v -/
theorem mup {t e : TypeId} (ht : P.underlying t = some (.map 3 e)) (hk : P.underlying 3 = some (.int .i64)) (h : MapI w b l) {k : Int} {v : Value} (hwf : (Lit.int .i64 k).wf = true) (hroom : l.length < maxLen)
    (kk : ∀ w', MapI w' b (setK k v l) → Turns (fun j => j = b) w w' → K undef w') : LiftU P (Instr.mapUpdate t (.map (some b)) (.int .i64 k) v) K w := by
  obtain ⟨es, c, h1, h2, hst, hsz, hkw⟩ := h
  have hel : es.size = l.length := by have := congrArg List.length h2; simpa using this
  have hkey : MapKept.IsKey (.int .i64) (.int .i64 k) := rfl
  cases hx : idxK k l with
  | none =>
    have hs := set_world_eq (w := w) (.map (es.push { key := .int .i64 k, val := v, born := c }) (c + 1)) h1
    refine liftU (u := ()) (w' := { w with heap := w.heap.setIfInBounds b (.map (es.push { key := .int .i64 k, val := v, born := c }) (c + 1)) }) ?_ (kk _ ⟨_, _, hs.2, ?_, MapKept.stamped_push hst ?_, by simp; omega, fun p hp => ?_⟩ hs.1)
    · simp [Instr.mapUpdate, run_underlying ht, MapKept.run_getObj_map h1, run_chk hk, run_find hk h2, hx, MapKept.run_setObj_map _ h1]
    · rw [setK_none _ _ _ hx]
      simp [h2]
    · intro x hx' he
      have hm : (x.key, x.val) ∈ es.toList.map (fun e => (e.key, e.val)) := List.mem_map.2 ⟨x, hx', rfl⟩
      rw [h2] at hm
      obtain ⟨p, hp, hpe⟩ := List.mem_map.1 hm
      have : p.1 = k := by
        have := congrArg Prod.fst hpe
        simp only [he] at this
        simpa using this
      exact idxK_none_mem k l hx p hp this
    · rcases setK_sub k v l p hp with h | h
      · exact hkw p h
      · rw [h]; exact hwf
  | some p =>
    obtain ⟨i, u⟩ := p
    have hget : ∀ e, es[i]? = some e → e.key = .int .i64 k := by
      intro e he
      have : ∀ (es : List MapEntry) (l : List (Int × Value)) (i : Nat) (u : Value) (e : MapEntry), es.map (fun e => (e.key, e.val)) = l.map (fun p => (Value.int .i64 p.1, p.2)) → idxK k l = some (i, u) → es[i]? = some e → e.key = .int .i64 k := by
        intro es
        induction es with
        | nil => intro l i u e h hx he; simp at he
        | cons e0 es ih =>
          intro l i u e h hx he
          cases l with
          | nil => simp at h
          | cons p r =>
            obtain ⟨a, y⟩ := p
            simp only [List.map_cons, List.cons.injEq, Prod.mk.injEq] at h
            obtain ⟨⟨h1, _⟩, h3⟩ := h
            rw [idxK] at hx
            split at hx
            · rename_i hk
              cases hx
              simp at he
              rw [← he, h1, hk]
            · cases hr : idxK k r with
              | none => rw [hr] at hx; simp at hx
              | some q =>
                rw [hr] at hx
                obtain ⟨j, y'⟩ := q
                simp at hx
                obtain ⟨rfl, rfl⟩ := hx
                exact ih r j y' e h3 hr (by simpa using he)
      exact this es.toList l i u e h2 hx (by simpa using he)
    have hkk : ((es[i]?).map (·.key)).getD (.int .i64 k) = .int .i64 k := by
      cases he : es[i]? with
      | none => rfl
      | some e => simp [hget e he]
    have hs := set_world_eq (w := w) (.map (es.modify i fun e => { e with key := .int .i64 k, val := v }) c) h1
    refine liftU (u := ()) (w' := { w with heap := w.heap.setIfInBounds b (.map (es.modify i fun e => { e with key := .int .i64 k, val := v }) c) }) ?_ (kk _ ⟨_, _, hs.2, ?_, MapKept.stamped_modify hst i _ (fun _ _ => rfl) (fun e _ he => (hget e he).symm), by simpa using hsz, fun p hp => ?_⟩ hs.1)
    · simp [Instr.mapUpdate, run_underlying ht, MapKept.run_getObj_map h1, run_chk hk, run_find hk h2, hx, MapKept.run_setObj_map _ h1, hkk, MapKept.run_keyThatStays hkey]
    · rw [Array.toList_modify]
      exact entries_set k v _ _ i u h2 hx
    · rcases setK_sub k v l p hp with h | h
      · exact hkw p h
      · rw [h]; exact hwf
/-- delete(m, k) -/
theorem dlt {t ty e : TypeId} (ht : P.underlying t = some (.map 3 e)) (hk : P.underlying 3 = some (.int .i64)) {t2 : TypeId} {cs : Array Bool} (h : MapI w b l) {k : Int}
    (kk : ∀ w', MapI w' b (delK k l) → Turns (fun j => j = b) w w' → K (.tuple #[]) w') : NextP P (builtin .delete #[t, t2] ty cs #[.map (some b), .int .i64 k]) K w := by
  obtain ⟨es, c, h1, h2, hst, hsz, hkw⟩ := h
  have hel : es.size = l.length := by have := congrArg List.length h2; simpa using this
  cases hx : idxK k l with
  | none =>
    have hs := set_world_eq (w := w) (.map es c) h1
    refine nextV (v := .tuple #[]) (w' := { w with heap := w.heap.setIfInBounds b (.map es c) }) ?_ (kk _ ⟨_, _, hs.2, by rw [delK_none _ _ hx]; exact h2, hst, hsz, by rw [delK_none _ _ hx]; exact hkw⟩ hs.1)
    simp [builtin, Builtin.delete_, run_underlying ht, MapKept.run_getObj_map h1, run_chk hk, run_find hk h2, hx, MapKept.run_setObj_map _ h1]
  | some p =>
    obtain ⟨i, u⟩ := p
    have hs := set_world_eq (w := w) (.map (es.eraseIdxIfInBounds i) c) h1
    refine nextV (v := .tuple #[]) (w' := { w with heap := w.heap.setIfInBounds b (.map (es.eraseIdxIfInBounds i) c) }) ?_ (kk _ ⟨_, _, hs.2, ?_, MapKept.stamped_erase hst i, Nat.le_trans (MapFrom.size_erase es i) hsz, fun p hp => hkw p (delK_sub k l p hp)⟩ hs.1)
    · simp [builtin, Builtin.delete_, run_underlying ht, MapKept.run_getObj_map h1, run_chk hk, run_find hk h2, hx, MapKept.run_setObj_map _ h1]
    · have : (es.eraseIdxIfInBounds i).toList = es.toList.eraseIdx i := by
        unfold Array.eraseIdxIfInBounds
        split
        · simp
        · rename_i hn
          rw [List.eraseIdx_of_length_le (by simpa using hn)]
      rw [this]
      exact entries_del k _ _ i u h2 hx
theorem mkm {t : TypeId} (kk : ∀ w', MapI w' w.heap.size [] → Below w.heap.size w w' → K (.map (some w.heap.size)) w') : LiftP P (Instr.makeMap t none) K w := by
  have ha : Below w.heap.size w (w.alloc (.map #[] 0)) := (Below.refl _ _).alloc (Nat.le_refl _) _
  exact lift (v := .map (some w.heap.size)) (w' := w.alloc (.map #[] 0)) (by simp [Instr.makeMap]) (kk _ ⟨#[], 0, heap_alloc_new w _, rfl, MapKept.stamped_empty 0, Nat.zero_le _, fun p hp => by simp at hp⟩ ha)
/-- A function as a value is called. -/
theorem cvl {f : FuncId} {caps args : Array Value} (hc : callable P f = true) (h : CallP P f (args ++ caps) K w) : NextP P (callV (.func (.func f) #[] caps) args) K w := by
  refine ⟨?_⟩
  have h1 : (callV (.func (.func f) #[] caps) args).run P w = (callFunc f (args ++ caps)).run P w := by
    show (callFunc f (#[] ++ args ++ caps)).run P w = _
    simp
  have hr : (callFunc f (args ++ caps)).run P w = .ok (.enter f (args ++ caps)) w := by
    unfold callable at hc
    split at hc
    · rename_i fn hfn
      simp only [Bool.and_eq_true, Bool.not_eq_true'] at hc
      have hb : fn.body.isNone = false := by
        cases hh : fn.body with
        | none => rw [hh] at hc; simp at hc
        | some c => rfl
      unfold callFunc
      simp only [Sem.run_bind, run_program, Result.andThen_ok, hfn]
      rw [if_neg (by rw [hc.2]; exact Bool.false_ne_true), if_neg (by rw [hb]; exact Bool.false_ne_true)]
      rfl
    · cases hc
  rw [h1, hr]
  exact h
/-- A function as a value is made. -/
theorem mkf {fn : Fn} {caps : Array Value} (k : K (.func fn #[] caps) w) : LiftP P (Instr.makeFunc fn #[] caps) K w := lift (v := .func fn #[] caps) (w' := w) rfl k
end
end Go.Proofs.Ytmnaggdhkggjhaa.E
