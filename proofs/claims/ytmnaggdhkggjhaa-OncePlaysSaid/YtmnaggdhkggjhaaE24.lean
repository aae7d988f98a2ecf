/-
  E24: structs stored in a row of the call's own; indexes by natural numbers.
-/
import Derived.Test.YtmnaggdhkggjhaaE23
import Derived.Laws.CopyRow
namespace Go.Proofs.Ytmnaggdhkggjhaa.E
open Go Go.RowKit

section
variable {P : Program} {K : Value → World → Prop} {S : World → Prop} {w : World}
/-- x[i], any element size. -/
theorem ixN {t e : TypeId} (h : P.underlying t = some (.slice e)) {s : Nat} (hs : (P.info? e).map (·.size) = some s) {a : Addr} {n c : Nat} {kd : IntKind} (i : Nat) (h1 : i < n)
    (k : K (.pointer (some (a.add (i * s)))) w) : LiftP P (Instr.indexAt t (.slice (some a) n c) (.int kd (i : Int))) K w :=
  ix h hs (by omega) (by omega) (by rw [Int.toNat_natCast]; exact k)
theorem ixG {t e : TypeId} (h : P.underlying t = some (.slice e)) {s : Nat} (hs : (P.info? e).map (·.size) = some s) {g n c : Nat} {kd : IntKind} (i : Nat) (h1 : i < n)
    (k : K (.pointer (some ⟨g, i * s, none⟩)) w) : LiftP P (Instr.indexAt t (.slice (some ⟨g, 0, none⟩) n c) (.int kd (i : Int))) K w :=
  ixN h hs i h1 (by rw [add0, Nat.zero_add]; exact k)
theorem yixG {t e : TypeId} (h : P.underlying t = some (.slice e)) {s : Nat} (hs : (P.info? e).map (·.size) = some s) {g n c : Nat} {kd : IntKind} (i : Nat) (h1 : i < n)
    (k : K (.pointer (some ⟨g, i * s, none⟩)) w) : YieldP P S (Instr.indexAt t (.slice (some ⟨g, 0, none⟩) n c) (.int kd (i : Int))) K w :=
  yixA h hs i h1 (by rw [add0, Nat.zero_add]; exact k)
/-- a field behind any place of a block -/
theorem fdG {s : TypeId} {i o n : Nat} (h : fofs P s i = some (o, n)) (hn : n ≠ 0) {g q : Nat} (k : K (.pointer (some ⟨g, q + o, none⟩)) w) : LiftP P (Instr.fieldAt s (.pointer (some ⟨g, q, none⟩)) i) K w :=
  fdA h hn (by rw [add0]; exact k)
theorem yfdG {s : TypeId} {i o n : Nat} (h : fofs P s i = some (o, n)) (hn : n ≠ 0) {g q : Nat} (k : K (.pointer (some ⟨g, q + o, none⟩)) w) : YieldP P S (Instr.fieldAt s (.pointer (some ⟨g, q, none⟩)) i) K w :=
  yfdA h hn (by rw [add0]; exact k)
theorem stM {t tt : TypeId} {g o : Nat} {cur cells : Array Value} (hb : Blk w g tt cur) (hi : (P.info? t).map (·.size) = some cells.size) (hl : o + cells.size ≤ cur.size) (h1 : cells.all (·.oneCell') = true)
    (k : K undef (w.setRow g (cur.toList.take o ++ cells.toList ++ cur.toList.drop (o + cells.size)).toArray)) : LiftU P (Instr.storeAt t (.pointer (some ⟨g, o, none⟩)) (.agg cells)) K w := by
  have hr := run_storeCells_at (P := P) g o tt cells.toList 0 cur w hb (by simpa using hl) (fun v hv => (Array.all_eq_true_iff_forall_mem.1 h1) v (by simpa using hv))
  refine liftU (u := ()) ?_ k
  cases hq : P.info? t with
  | none => simp [hq] at hi
  | some i =>
    have hs : i.size = cells.size := by simpa [hq] using hi
    simp only [Nat.add_zero, Array.length_toList] at hr
    simp [Instr.storeAt, Instr.sureAddr, storeVar, sizeOf, typeInfo, hq, Value.cells, hs, hr]
end
theorem take_mid {α : Type} (m o s : Nat) (cur cells : List α) (hs : cells.length = s) (ho : o + s ≤ m) (hm : m ≤ cur.length) : (cur.take o ++ cells ++ cur.drop (o + s)).take m = (cur.take m).take o ++ cells ++ (cur.take m).drop (o + s) := by
  rw [List.take_append, List.take_append, List.length_append, List.length_take, hs, List.drop_take]
  have e1 : min o cur.length = o := by omega
  rw [e1, List.take_take, List.take_take, show min m o = o from by omega, show min o m = o from by omega, List.take_of_length_le (l := cells) (by omega)]
section
variable {P : Program} {K : Value → World → Prop} {w : World}
/-- One element of a row of structs is written whole. -/
theorem stE {s : Nat} {e t : TypeId} {g n c : Nat} {cs : List Value} {cells : Array Value} (h : OwnR s e w (.slice (some ⟨g, 0, none⟩) n c) n cs) (i : Nat) (hi : i < n) (hs : cells.size = s) (hinfo : (P.info? t).map (·.size) = some s) (h1 : cells.all (·.oneCell') = true)
    (k : ∀ w', OwnR s e w' (.slice (some ⟨g, 0, none⟩) n c) n (cs.take (i * s) ++ cells.toList ++ cs.drop (i * s + s)) → Turns (fun j => j = g) w w' → K undef w') : LiftU P (Instr.storeAt t (.pointer (some ⟨g, i * s, none⟩)) (.agg cells)) K w := by
  obtain ⟨hl, h⟩ := h
  rcases h with ⟨h, _⟩ | ⟨g', c', cur, he, hb, h2, h3, h4, h5⟩
  · cases h
  cases he
  have hle : i * s + s ≤ n * s := by
    have := Nat.mul_le_mul_right s (show i + 1 ≤ n from hi)
    rw [Nat.succ_mul] at this; omega
  refine stM hb (by rw [hinfo, hs]) (by omega) h1 (k _ ⟨?_, .inr ⟨g, c, _, rfl, hb.row _, h2, h3, ?_, ?_⟩⟩ (Turns.setRow (F := fun j => j = g) (Turns.refl _ w) (.inl rfl) _))
  · simp only [List.length_append, List.length_take, List.length_drop, Array.length_toList, hl, hs]; omega
  · simp only [List.size_toArray, List.length_append, List.length_take, List.length_drop, Array.length_toList, hs]; omega
  · rw [List.toList_toArray, hs, take_mid (n * s) (i * s) s cur.toList cells.toList (by simpa using hs) hle (by simpa using h4), h5]
end
section
variable {P : Program} {K : Value → World → Prop} {S : World → Prop} {w : World}
theorem yixB {t e : TypeId} {n : Nat} (h : P.underlying t = some (.array n e)) (hs : (P.info? e).map (·.size) = some 1) {g : Nat} {kd : IntKind} (i : Nat) (h1 : i < n)
    (k : K (.pointer (some ⟨g, i, none⟩)) w) : YieldP P S (Instr.indexAt t (.pointer (some ⟨g, 0, none⟩)) (.int kd (i : Int))) K w := by
  obtain ⟨j, hj, hs⟩ := Option.map_eq_some_iff.1 hs
  refine yld (v := .pointer (some ⟨g, i, none⟩)) (fun w' _ => ?_) k
  simp [Instr.indexAt, run_underlying h, asIntOf, h1, sizeOf, typeInfo, hj, hs, Instr.sureAddr, add0]
/-- append(v, x...), elements of any size: the row's block is v's, or new. -/
theorem apGb {t ty e : TypeId} {cs : Array Bool} {z : Value} {size bytes : Nat} (ht : P.underlying t = some (.slice e)) (hinfo : (P.info? e).map (fun i => (i.zero, i.size, i.bytes)) = some (some z, size, bytes)) (hz : z.cells.size = size) (hsz : 0 < size)
    {v : Value} {xs : List Value} {n : Nat} (hown : w.ownsRow 0 e size v n xs) {a : Addr} {m c : Nat} {news : List Value} (hl : news.length = m * size) (hnews : ∀ j u, news[j]? = some u → w.cell? (a.add j) = some u) (h1 : ∀ u ∈ news, u.oneCell' = true)
    (h63 : n + m ≤ 9223372036854775807) (hbytes : (n + m) * bytes ≤ 140737488355328)
    (k : ∀ v' w', w'.ownsRow 0 e size v' (n + m) (xs ++ news) → (v'.ownBlock = v.ownBlock ∨ v'.ownBlock = some w.heap.size) → Turns (fun j => v.ownBlock = some j) w w' → K v' w') : NextP P (builtin .append #[t, t] ty cs #[v, .slice (some a) m c]) K w := by
  obtain ⟨i, hi, hzz⟩ := Option.map_eq_some_iff.1 hinfo
  simp only [Prod.mk.injEq] at hzz
  obtain ⟨hz0, hz1, hz2⟩ := hzz
  obtain ⟨v', w', hr, h2, h3, _, h5⟩ := run_append_own_at (P := P) w 0 t ty e i z size bytes ht hi hz0 hz1 hz2 hz hsz v n xs hown a m c news hl hnews h1 (by simp only [maxLen]; omega) hbytes (Nat.zero_le _)
  refine nextV (v := v') (w' := w') ?_ (k v' w' h2 h5 ⟨h3.os, h3.tape, h3.output, h3.size, fun j hj hF => h3.block j hj (fun e => hF e.symm)⟩)
  simp only [builtin]
  simp [hr]
end
theorem ownsRow_turns {s : Nat} {e : TypeId} {w w' : World} {v : Value} {n : Nat} {xs : List Value} {F : Nat → Prop} (h : w.ownsRow 0 e s v n xs) (hT : Turns F w w') (hF : ∀ k, v.ownBlock = some k → ¬ F k) : w'.ownsRow 0 e s v n xs := by
  refine ⟨h.1, ?_⟩
  rcases h.2 with h | ⟨g, c, cur, rfl, h0, hb, h1⟩
  · exact .inl h
  · have hlt : g < w.heap.size := (Array.getElem?_eq_some_iff.1 hb).1
    exact .inr ⟨g, c, cur, rfl, h0, (hT.block g hlt (hF g rfl)).trans hb, h1⟩
theorem ownsRow_lt {s : Nat} {e : TypeId} {w : World} {v : Value} {n : Nat} {xs : List Value} (h : w.ownsRow 0 e s v n xs) {k : Nat} (hk : v.ownBlock = some k) : k < w.heap.size := by
  rcases h.2 with ⟨rfl, _⟩ | ⟨g, c, cur, rfl, h0, hb, h1⟩
  · cases hk
  · have : g = k := by simpa [Value.ownBlock] using hk
    subst this
    exact (Array.getElem?_eq_some_iff.1 hb).1
section
variable {P : Program} {K : Value → World → Prop} {w : World}
/-- append(v, x...), x any row of structs: of its elements alone something is asked. -/
theorem apRm {t ty e : TypeId} {cs : Array Bool} {z : Value} {size bytes : Nat} (B : Nat) (ht : P.underlying t = some (.slice e)) (hinfo : (P.info? e).map (fun i => (i.zero, i.size, i.bytes)) = some (some z, size, bytes)) (hz : z.cells.size = size) (hsz : 0 < size)
    {v : Value} {xs : List Value} {n : Nat} (hown : w.ownsRow 0 e size v n xs) (hf : Fresh B v) (hB : B ≤ w.heap.size) {α : Type} {f : α → List Value} (hfl : ∀ x, (f x).length = size)
    {x : Value} {l : List α} (hf1 : ∀ x ∈ l, ∀ u ∈ f x, u.oneCell' = true) (hx : rRow size (fun _ us x => us = f x) w [x] l) (h63 : n + l.length ≤ 9223372036854775807) (hbytes : (n + l.length) * bytes ≤ 140737488355328)
    (k : ∀ v' w', w'.ownsRow 0 e size v' (n + l.length) (xs ++ l.flatMap f) → Fresh B v' → Below B w w' → K v' w') : NextP P (builtin .append #[t, t] ty cs #[v, x]) K w := by
  obtain ⟨A, c, he, h1, h2, h3⟩ := hx
  simp only [List.cons.injEq, and_true] at he
  subst he
  cases A with
  | none =>
    have h0 : l = [] := by
      cases l with
      | nil => rfl
      | cons p r => obtain ⟨a, us, h, _⟩ := h3 0 p rfl; cases h
    subst h0
    obtain ⟨i, hi, hzz⟩ := Option.map_eq_some_iff.1 hinfo
    refine nextV (v := v) (w' := w) ?_ (k v w (by simpa using hown) hf (Below.refl B w))
    have hrun : (Builtin.append_ #[t, t] ty #[v, .slice none 0 c]).run P w = .ok v w := by
      rcases hown.2 with ⟨rfl, _⟩ | ⟨g, cap, cur, rfl, _, _, hnc, _⟩
      · simp [Builtin.append_, run_underlying ht, sizeOf, typeInfo, hi, Builtin.lenOf, Builtin.firstCells]
      · simp [Builtin.append_, run_underlying ht, sizeOf, typeInfo, hi, Builtin.lenOf, Builtin.firstCells, hnc, storeCells]
    simp only [builtin, List.length_nil] at hrun ⊢
    simp [hrun]
  | some a =>
    refine apG B ht hinfo hz hsz hown hf hB (news := l.flatMap f) (flatMap_len f size hfl l) (fun j u hu => ?_) (fun u hu => ?_) h63 hbytes (fun v' w' q1 q2 q3 _ => k v' w' q1 q2 q3)
    · have hj := (List.getElem?_eq_some_iff.1 hu).1
      rw [flatMap_len f size hfl] at hj
      have hi : j / size < l.length := Nat.div_lt_of_lt_mul (by rw [Nat.mul_comm]; exact hj)
      have hm : j % size < size := Nat.mod_lt _ hsz
      obtain ⟨a', us, ha, hus, hcell, hrd⟩ := h3 (j / size) l[j / size] (List.getElem?_eq_getElem hi)
      cases ha
      have hdm : j / size * size + j % size = j := Nat.div_add_mod' j size
      have := flatMap_at f size hfl l (j / size) (j % size) l[j / size] (List.getElem?_eq_getElem hi) hm
      rw [hdm, hu] at this
      have hx : us = f l[j / size] := hrd
      subst hx
      have := hcell (j % size) u this.symm
      rwa [hdm] at this
    · obtain ⟨x, hxl, hx⟩ := List.mem_flatMap.1 hu
      exact hf1 x hxl u hx
end
theorem Turns.cut {F : Nat → Prop} {w w' : World} (h : Turns F w w') : Turns (fun k => F k ∧ k < w.heap.size) w w' := ⟨h.os, h.tape, h.output, h.size, fun k hk hF => h.block k hk fun e => hF ⟨e, hk⟩⟩
theorem flatMap_put {α β : Type} (f : α → List β) (s : Nat) (hf : ∀ x, (f x).length = s) (y : α) : ∀ (l : List α) (i : Nat), i < l.length → (l.flatMap f).take (i * s) ++ f y ++ (l.flatMap f).drop (i * s + s) = (l.set i y).flatMap f := by
  intro l
  induction l with
  | nil => intro i h; simp at h
  | cons z r ih =>
    intro i h
    cases i with
    | zero =>
      rw [Nat.zero_mul, List.take_zero, List.nil_append, Nat.zero_add, List.flatMap_cons, List.set_cons_zero, List.flatMap_cons, List.drop_append_of_le_length (by rw [hf]; omega), List.drop_of_length_le (by rw [hf]; omega), List.nil_append]
    | succ i =>
      have := ih i (by simp at h; omega)
      rw [List.flatMap_cons, List.set_cons_succ, List.flatMap_cons, ← this, Nat.succ_mul, List.take_append, List.drop_append, hf, List.take_of_length_le (by rw [hf]; omega), List.drop_of_length_le (l := f z) (by rw [hf]; omega)]
      rw [show i * s + s - s = i * s from by omega, show i * s + s + s - s = i * s + s from by omega]
      simp [List.append_assoc]
end Go.Proofs.Ytmnaggdhkggjhaa.E
