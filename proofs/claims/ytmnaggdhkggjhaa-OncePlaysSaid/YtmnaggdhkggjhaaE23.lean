/-
  E23: more words on rows, blocks, maps, loops.
-/
import Derived.Test.YtmnaggdhkggjhaaE22
import Derived.Laws.StructEq
namespace Go.Proofs.Ytmnaggdhkggjhaa.E
open Go Go.RowKit

theorem rRow.at {α : Type} {s : Nat} {r : Rdr α} {w : World} {A : Option Addr} {n c : Nat} {l : List α} (h : rRow s r w [.slice A n c] l) (i : Nat) (hi : i < l.length) :
    ∃ a us, A = some a ∧ us.length = s ∧ (∀ j u, us[j]? = some u → w.cell? ((a.add (i * s)).add j) = some u) ∧ r w us l[i] := by
  obtain ⟨A', c', he, _, _, h⟩ := h
  simp only [List.cons.injEq, Value.slice.injEq] at he
  obtain ⟨⟨rfl, _, _⟩, _⟩ := he
  obtain ⟨a, us, h1, h2, h3, h4⟩ := h i l[i] (List.getElem?_eq_getElem hi)
  exact ⟨a, us, h1, h2, fun j u hu => by rw [Addr.add_add]; exact h3 j u hu, h4⟩
theorem rRow.slice {α : Type} {s : Nat} {r : Rdr α} {w : World} {v : Value} {l : List α} (h : rRow s r w [v] l) : ∃ A c, v = .slice A l.length c ∧ l.length ≤ c ∧ c ≤ 9223372036854775807 := by
  obtain ⟨A, c, he, h1, h2, _⟩ := h
  simp only [List.cons.injEq, and_true] at he
  exact ⟨A, c, he, h1, by simp only [maxLen] at h2; omega⟩
theorem keepC {w : World} {a : Addr} {us : List Value} (h : ∀ j u, us[j]? = some u → w.cell? (a.add j) = some u) : ∀ w', Below w.heap.size w w' → ∀ j u, us[j]? = some u → w'.cell? (a.add j) = some u := fun w' hb j u hu => by rw [hb.cell (World.block_lt_of_cell? _ _ (h j u hu)), h j u hu]

section
variable {w w' : World}
theorem blk_ne {t t' : TypeId} {g g' : Nat} {cs cs' : Array Value} (h : Blk w g t cs) (h' : Blk w g' t' cs') (ht : t ≠ t') : g ≠ g' := by
  rintro rfl
  have := h.symm.trans h'
  simp only [Option.some.injEq, Obj.cells.injEq] at this
  exact ht this.2.1
theorem map_ne {t : TypeId} {g b : Nat} {cs : Array Value} {l : List (Int × Value)} (h : Blk w g t cs) (h' : MapI w b l) : g ≠ b := by
  rintro rfl
  obtain ⟨es, cl, h1, _⟩ := h'
  have := h.symm.trans h1
  cases this
theorem own_ne {e t : TypeId} {s n g : Nat} {v : Value} {us cs : _} (h : OwnS s e w v n us) (h' : Blk w g t cs) (ht : e ≠ t) : v.ownBlock ≠ some g := by
  rcases h.2 with ⟨rfl, _⟩ | ⟨g', cur, rfl, hb, _⟩
  · simp [Value.ownBlock]
  · intro he
    have : g' = g := by simpa [Value.ownBlock] using he
    exact blk_ne hb h' ht this
theorem own_nem {e : TypeId} {s n b : Nat} {v : Value} {us : _} {l : List (Int × Value)} (h : OwnS s e w v n us) (h' : MapI w b l) : v.ownBlock ≠ some b := by
  rcases h.2 with ⟨rfl, _⟩ | ⟨g', cur, rfl, hb, _⟩
  · simp [Value.ownBlock]
  · intro he
    have : g' = b := by simpa [Value.ownBlock] using he
    exact map_ne hb h' this
end
theorem getK_map {α β : Type} (f : α → β) (k : Int) : ∀ l : List (Int × α), getK k (l.map fun x => (x.1, f x.2)) = (getK k l).map f
  | [] => rfl
  | (a, v) :: r => by
    simp only [List.map_cons, getK]
    split
    · rfl
    · exact getK_map f k r
theorem delK_map {α β : Type} (f : α → β) (k : Int) : ∀ l : List (Int × α), delK k (l.map fun x => (x.1, f x.2)) = (delK k l).map fun x => (x.1, f x.2)
  | [] => rfl
  | (a, v) :: r => by
    simp only [List.map_cons, delK]
    split
    · rfl
    · rw [delK_map f k r]; rfl
theorem setK_map {α β : Type} (f : α → β) (k : Int) (v : α) : ∀ l : List (Int × α), setK k (f v) (l.map fun x => (x.1, f x.2)) = (setK k v l).map fun x => (x.1, f x.2)
  | [] => rfl
  | (a, u) :: r => by
    simp only [List.map_cons, setK]
    split
    · rfl
    · rw [setK_map f k v r]; rfl
theorem getK_mem {α : Type} (k : Int) (v : α) : ∀ l : List (Int × α), getK k l = some v → (k, v) ∈ l
  | [], h => by cases h
  | (a, u) :: r, h => by
    rw [getK] at h
    split at h
    · rename_i hk
      cases h; rw [hk]; simp
    · exact List.mem_cons_of_mem _ (getK_mem k v r h)
theorem setK_new {α : Type} (k : Int) (v : α) : ∀ l : List (Int × α), getK k l = none → setK k v l = l ++ [(k, v)]
  | [], _ => rfl
  | (a, u) :: r, h => by
    rw [getK] at h
    split at h
    · cases h
    · rename_i hk
      rw [setK, if_neg hk, setK_new k v r h]; rfl
theorem getK_app {α : Type} (k : Int) (v : α) : ∀ l : List (Int × α), getK k l = none → getK k (l ++ [(k, v)]) = some v
  | [], _ => by simp [getK]
  | (a, u) :: r, h => by
    rw [getK] at h
    split at h
    · cases h
    · rename_i hk
      rw [List.cons_append, getK, if_neg hk, getK_app k v r h]
theorem delK_filter {α : Type} (k : Int) : ∀ l : List (Int × α), (l.map (·.1)).Nodup → delK k l = l.filter fun p => decide (p.1 ≠ k)
  | [], _ => rfl
  | (a, u) :: r, h => by
    simp only [List.map_cons, List.nodup_cons] at h
    rw [delK, List.filter_cons]
    by_cases hk : k = a
    · rw [if_pos hk]
      subst hk
      simp only [ne_eq, not_true_eq_false, decide_false, Bool.false_eq_true, if_false]
      refine (List.filter_eq_self.2 fun p hp => ?_).symm
      simp only [decide_eq_true_eq]
      exact fun e => h.1 (by rw [← e]; exact List.mem_map.2 ⟨p, hp, rfl⟩)
    · rw [if_neg hk]
      simp only [ne_eq, decide_eq_true_eq]
      rw [if_pos (fun e => hk e.symm), delK_filter k r h.2]
theorem filter_map_key {α β : Type} (f : α → β) (q : Int → Bool) (l : List (Int × α)) : (l.map fun p => (p.1, f p.2)).filter (fun p => q p.1) = (l.filter fun p => q p.1).map fun p => (p.1, f p.2) := by
  induction l with
  | nil => rfl
  | cons p r ih =>
    simp only [List.map_cons, List.filter_cons]
    split
    · rw [List.map_cons, ih]
    · exact ih
theorem exists_min {I : Nat → Prop} : ∀ n, I n → ∃ m, I m ∧ ∀ k, I k → m ≤ k := by
  intro n
  induction n using Nat.strongRecOn with
  | ind n ih =>
    intro h
    by_cases hk : ∃ k, I k ∧ k < n
    · obtain ⟨k, h1, h2⟩ := hk
      exact ih k h2 h1
    · exact ⟨n, h, fun k hk' => Nat.le_of_not_lt fun hlt => hk ⟨k, hk', hlt⟩⟩
theorem setK_mem' {α : Type} {k : Int} {v : α} : ∀ {l : List (Int × α)} {p : Int × α}, (l.map (·.1)).Nodup → p ∈ setK k v l → p = (k, v) ∨ (p ∈ l ∧ p.1 ≠ k)
  | [], p, _, h => by
    simp only [setK, List.mem_cons, List.not_mem_nil, or_false] at h
    exact .inl h
  | (a, u) :: r, p, hn, h => by
    simp only [List.map_cons, List.nodup_cons] at hn
    rw [setK] at h
    split at h
    · rename_i hk
      rcases List.mem_cons.1 h with h | h
      · exact .inl h
      · refine .inr ⟨List.mem_cons_of_mem _ h, fun e => hn.1 ?_⟩
        rw [← hk, ← e]
        exact List.mem_map.2 ⟨p, h, rfl⟩
    · rename_i hk
      rcases List.mem_cons.1 h with h | h
      · rw [h]
        exact .inr ⟨by simp, fun e => hk e.symm⟩
      · exact (setK_mem' hn.2 h).imp id fun h => ⟨List.mem_cons_of_mem _ h.1, h.2⟩
theorem setK_same {α β : Type} (f : α → β) {k : Int} {v v0 : α} (he : f v = f v0) : ∀ {l : List (Int × α)}, getK k l = some v0 → ((setK k v l).map fun p => (p.1, f p.2)) = l.map fun p => (p.1, f p.2)
  | [], h => by cases h
  | (a, u) :: r, h => by
    rw [getK] at h
    rw [setK]
    split at h
    · rename_i hk
      rw [if_pos hk]
      cases h
      rw [List.map_cons, List.map_cons, he, hk]
    · rename_i hk
      rw [if_neg hk, List.map_cons, List.map_cons, setK_same f he h]
theorem foldl_min {α : Type} : ∀ (r : List (Int × α)) (a : Int), (r.foldl (fun a q => min a q.1) a = a ∨ ∃ q ∈ r, r.foldl (fun a q => min a q.1) a = q.1) ∧ r.foldl (fun a q => min a q.1) a ≤ a ∧ ∀ q ∈ r, r.foldl (fun a q => min a q.1) a ≤ q.1
  | [], a => ⟨.inl rfl, Int.le_refl _, fun q h => by simp at h⟩
  | p :: r, a => by
    obtain ⟨h1, h2, h3⟩ := foldl_min r (min a p.1)
    simp only [List.foldl_cons]
    refine ⟨?_, by omega, fun q hq => ?_⟩
    · rcases h1 with h1 | ⟨q, hq, h1⟩
      · rw [h1]
        by_cases hle : a ≤ p.1
        · left; omega
        · right; exact ⟨p, by simp, by omega⟩
      · right; exact ⟨q, by simp [hq], h1⟩
    · rcases List.mem_cons.1 hq with rfl | hq
      · omega
      · exact h3 q hq
theorem min_unique {ys zs : List Int} (hp : ys.Perm zs) {a b : Int} (ha : a ∈ ys) (ha' : ∀ y ∈ ys, a ≤ y) (hb : b ∈ zs) (hb' : ∀ y ∈ zs, b ≤ y) : a = b :=
  Int.le_antisymm (ha' b (hp.mem_iff.2 hb)) (hb' a (hp.mem_iff.1 ha))
theorem delK_len {α : Type} (k : Int) (v : α) : ∀ (l : List (Int × α)), getK k l = some v → (delK k l).length + 1 = l.length
  | [], h => by cases h
  | (a, u) :: l, h => by
    rw [getK] at h
    rw [delK]
    split at h
    · rename_i hk; rw [if_pos hk]; rfl
    · rename_i hk; rw [if_neg hk, List.length_cons, delK_len k v l h, List.length_cons]
section
variable {P : Program} {K : Value → World → Prop} {S : World → Prop} {w : World}
theorem yixA {t e : TypeId} (h : P.underlying t = some (.slice e)) {s : Nat} (hs : (P.info? e).map (·.size) = some s) {a : Addr} {n c : Nat} {kd : IntKind} (i : Nat) (h1 : i < n)
    (k : K (.pointer (some (a.add (i * s)))) w) : YieldP P S (Instr.indexAt t (.slice (some a) n c) (.int kd (i : Int))) K w := by
  obtain ⟨j, hj, hs⟩ := Option.map_eq_some_iff.1 hs
  refine yld (v := .pointer (some (a.add (i * s)))) (fun w' _ => ?_) k
  simp [Instr.indexAt, run_underlying h, asIntOf, h1, sizeOf, typeInfo, hj, hs]
theorem yfdA {s : TypeId} {i o n : Nat} (h : fofs P s i = some (o, n)) (hn : n ≠ 0) {a : Addr} (k : K (.pointer (some (a.add o))) w) : YieldP P S (Instr.fieldAt s (.pointer (some a)) i) K w := yld (fun w' _ => run_fd h hn a w') k
theorem fdA {s : TypeId} {i o n : Nat} (h : fofs P s i = some (o, n)) (hn : n ≠ 0) {a : Addr} (k : K (.pointer (some (a.add o))) w) : LiftP P (Instr.fieldAt s (.pointer (some a)) i) K w := lift (run_fd h hn a w) k
theorem yldR {t : TypeId} (ha : aggB P t = true) {a : Addr} {us : List Value} (hc : ∀ w', S w' → ∀ j u, us[j]? = some u → w'.cell? (a.add j) = some u) (hi : (P.info? t).map (·.size) = some us.length)
    (k : K (.agg us.toArray) w) : YieldP P S (Instr.loadAt t (.pointer (some a))) K w := by
  refine yld (v := .agg us.toArray) (fun w' hw => ?_) k
  unfold aggB at ha
  cases hu : P.underlying t with
  | none => rw [hu] at ha; cases ha
  | some d =>
    rw [hu] at ha
    have hl : (loadCells a us.length).run P w' = .ok us.toArray w' := run_loadCells_list (P := P) w' a us (hc w' hw)
    cases hq : P.info? t with
    | none => simp [hq] at hi
    | some i =>
      have hs : i.size = us.length := by simpa [hq] using hi
      have hagg : (isAgg t).run P w' = .ok true w' := by
        unfold isAgg
        rw [Sem.run_bind, run_underlying hu w']
        cases d <;> simp_all
      simp [Instr.loadAt, Instr.sureAddr, loadVar, Sem.run_bind, hagg, sizeOf, typeInfo, hq, hs, hl]
end
theorem yldA {P : Program} {K : Value → World → Prop} {S : World → Prop} {w : World} {t : TypeId} (ha : aggB P t = true) {g : Nat} {cells : Array Value} (hb : ∀ w', S w' → Blk w' g t cells) (hi : (P.info? t).map (·.size) = some cells.size) (k : K (.agg cells) w) : YieldP P S (Instr.loadAt t (.pointer (some ⟨g, 0, none⟩))) K w :=
  yld (fun w' h => by simpa [Instr.loadAt, Instr.sureAddr] using run_ldA ha (hb w' h) hi) k
open Classical in
theorem LoopP.inv0n {body : (List Value → World → Prop) → List Value → World → Prop} {w : World} (I : Nat → World → Prop) (n0 : Nat) (h0 : I n0 w)
    (hr : ∀ n w', I n w' → ∀ J : List Value → World → Prop, (∀ m w'', m < n → I m w'' → J [] w'') → body J [] w') : LoopP body [] w := by
  refine LoopP.inv0 (fun w' => ∃ n, I n w') (fun w' => if h : ∃ n, I n w' then Classical.choose (exists_min (I := fun n => I n w') _ h.choose_spec) else 0) ⟨n0, h0⟩ ?_
  intro w' hI J hJ
  have hmin := Classical.choose_spec (exists_min (I := fun n => I n w') _ hI.choose_spec)
  refine hr _ w' hmin.1 J fun m w'' hm hI' => hJ w'' ⟨m, hI'⟩ ?_
  rw [dif_pos (⟨m, hI'⟩ : ∃ n, I n w''), dif_pos hI]
  exact Nat.lt_of_le_of_lt ((Classical.choose_spec (exists_min (I := fun n => I n w'') _ (⟨m, hI'⟩ : ∃ n, I n w'').choose_spec)).2 m hI') hm
section
variable {P : Program}
def flat1 : TypeDesc → Bool
  | .struct _ | .array _ _ => false
  | _ => true
theorem isAgg1 {t : TypeId} {d : TypeDesc} (h : P.underlying t = some d) (hd : flat1 d = true) (w : World) : (isAgg t).run P w = .ok false w := by
  unfold isAgg
  rw [Sem.run_bind, run_underlying h w]
  cases d <;> simp_all [flat1]
theorem part1 {t : TypeId} {d : TypeDesc} (h : P.underlying t = some d) (hd : flat1 d = true) (cs : Array Value) (o : Nat) (v : Value) (hv : cs[o]? = some v) (w : World) : (part t cs o).run P w = .ok v w := by
  unfold part
  rw [Sem.run_bind, isAgg1 h hd]
  simp [hv]
theorem eqFields_cons {f : Field} {fs : List Field} {d : Nat} {xs ys : Array Value} {w : World} {dd : TypeDesc} {u u' : Value} {e r : Bool} (hn : f.name ≠ "_") (h : P.underlying f.type = some dd) (hd : flat1 dd = true) (hx : xs[f.offset]? = some u) (hy : ys[f.offset]? = some u')
    (he : (Op.equalIn d f.type u u').run P w = .ok e w) (hr : (Op.eqFields d xs ys fs).run P w = .ok r w) : (Op.eqFields d xs ys (f :: fs)).run P w = .ok (e && r) w := by
  simp only [Op.eqFields, Sem.run_bind, Sem.run_ite, hn, ne_eq, not_false_eq_true, if_true]
  simp only [part1 h hd xs _ u hx, part1 h hd ys _ u' hy, he, Result.andThen_ok]
  cases e <;> simp [hr]
theorem pr_pnot {t e : TypeId} {x y : Operand} (h : P.underlying t = some (.pointer e)) {p : Option Addr} : PR P (binS .neq t x y (.pointer p) (.pointer none)) (.bool p.isSome) := by
  intro w
  have he : P.pointee t = e := by simp [Program.pointee, h]
  have hn : P.underlying t = some (.pointer (P.pointee t)) := by rw [he]; exact h
  simp only [binS, eqGuard_at_pointer, Sem.run_bind, Sem.run_pure, Result.andThen_ok]
  cases p with
  | none => simp [run_neq_pointer_nil w t none hn]
  | some a => simp [run_neq_pointer_nil w t (some a) hn]
end
end Go.Proofs.Ytmnaggdhkggjhaa.E
