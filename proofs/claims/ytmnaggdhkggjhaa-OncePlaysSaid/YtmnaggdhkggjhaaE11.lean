/-
  E11: structs in memory, make, copy, append of a text.
-/
import Derived.Test.YtmnaggdhkggjhaaE10
import Derived.Laws.CopyOwn
import Derived.Laws.Tables
import Derived.Lib.AppendZeros
namespace Go.Proofs.Ytmnaggdhkggjhaa.E
open Go Go.RowKit

/-! ### 1. a row written whole -/
section
variable {w w' : World} {g : Nat} {t : TypeId} {cs : Array Value}
theorem Blk.row (h : Blk w g t cs) (ds : Array Value) : Blk (w.setRow g ds) g t ds := setRow_heap w g cs ds t (0, 0) h
theorem Blk.farRow (h : Blk w g t cs) {k : Nat} (hk : g ≠ k) (ds : Array Value) : Blk (w.setRow k ds) g t cs := (setRow_other w k g ds hk).trans h
theorem Own.farRow {e : TypeId} {v : Value} {xs : List Value} (h : Own e w v xs) {k : Nat} (hk : v.ownBlock ≠ some k) (ds : Array Value) : Own e (w.setRow k ds) v xs := by
  refine ⟨h.1, ?_⟩
  rcases h.2 with h | ⟨g, cap, cur, rfl, h1, h2, h3⟩
  · exact .inl h
  · refine .inr ⟨g, cap, cur, rfl, h1, ?_, h3⟩
    rw [setRow_other w k g ds (fun he => hk (by rw [← he]; rfl))]
    exact h2
end

/-! ### 2. structs -/
def fofs (P : Program) (s : TypeId) (i : Nat) : Option (Nat × Nat) := match P.underlying s with
  | some (.struct fs) => (fs[i]?).bind fun f => (P.info? f.type).map fun j => (f.offset, j.size)
  | _ => none
def aggB (P : Program) (t : TypeId) : Bool := match P.underlying t with
  | some (.struct _) | some (.array _ _) => true
  | _ => false
section
variable {P : Program} {K : Value → World → Prop} {S : World → Prop} {w : World}
theorem run_fd {s : TypeId} {i o n : Nat} (h : fofs P s i = some (o, n)) (hn : n ≠ 0) (a : Addr) (w : World) : (Instr.fieldAt s (.pointer (some a)) i).run P w = .ok (.pointer (some (a.add o))) w := by
  unfold fofs at h
  cases hu : P.underlying s with
  | none => rw [hu] at h; cases h
  | some d =>
    rw [hu] at h
    cases d <;> try (cases h; done)
    rename_i fs
    simp only at h
    obtain ⟨f, hf, h⟩ := Option.bind_eq_some_iff.1 h
    obtain ⟨j, hj, he⟩ := Option.map_eq_some_iff.1 h
    cases he
    simp [Instr.fieldAt, run_underlying hu, hf, Instr.sureAddr, fieldPlace, sizeOf, typeInfo, hj, hn]
theorem fd {s : TypeId} {i o n : Nat} (h : fofs P s i = some (o, n)) (hn : n ≠ 0) {g : Nat} (k : K (.pointer (some ⟨g, o, none⟩)) w) : LiftP P (Instr.fieldAt s (.pointer (some ⟨g, 0, none⟩)) i) K w :=
  lift (run_fd h hn _ w) (by rw [add0, Nat.zero_add]; exact k)
theorem bd {t : TypeId} {parts : Array (Nat × Value)} {cells : Array Value} (h : P.built t parts.toList = some cells) (k : K (.agg cells) w) : LiftP P (Instr.build t parts) K w := lift (run_build w t parts cells h) k
theorem stA {t : TypeId} {g : Nat} {old cells : Array Value} (hb : Blk w g t old) (hi : (P.info? t).map (·.size) = some cells.size) (ho : old.size = cells.size) (h1 : cells.all (·.oneCell') = true)
    {K : Value → World → Prop} (k : K undef (w.setRow g cells)) : LiftU P (Instr.storeAt t (.pointer (some ⟨g, 0, none⟩)) (.agg cells)) K w :=
  liftU (u := ()) (by have := run_storeVar_row (P := P) w g t t old cells hb hi ho h1; simpa [Instr.storeAt, Instr.sureAddr] using this) k
theorem run_ldA {t : TypeId} (ha : aggB P t = true) {g : Nat} {cells : Array Value} (hb : Blk w g t cells) (hi : (P.info? t).map (·.size) = some cells.size) : (loadVar t ⟨g, 0, none⟩).run P w = .ok (.agg cells) w := by
  unfold aggB at ha
  cases hu : P.underlying t with
  | none => rw [hu] at ha; cases ha
  | some d =>
    rw [hu] at ha
    exact run_loadVar_row w g t t cells (0, 0) d hb hu (by cases d <;> first | rfl | cases ha) hi
theorem ldA {t : TypeId} (ha : aggB P t = true) {g : Nat} {cells : Array Value} (hb : Blk w g t cells) (hi : (P.info? t).map (·.size) = some cells.size) (k : K (.agg cells) w) : LiftP P (Instr.loadAt t (.pointer (some ⟨g, 0, none⟩))) K w :=
  lift (by simpa [Instr.loadAt, Instr.sureAddr] using run_ldA ha hb hi) k
theorem retA {t : TypeId} (ha : aggB P t = true) {g : Nat} {cells : Array Value} (hb : Blk w g t cells) (hi : (P.info? t).map (·.size) = some cells.size) {K : Value → Prop} (k : K (.agg cells)) : RetC P (.pointer (some ⟨g, 0, none⟩)) t K w :=
  ⟨_, by simpa [asAddr] using run_ldA ha hb hi, k⟩

/-! ### 3. make, copy, texts appended -/
theorem mkS {t e : TypeId} {z : Value} {bytes : Nat} (ht : P.underlying t = some (.slice e)) (hinfo : (P.info? e).map (fun i => (i.zero, i.size, i.bytes)) = some (some z, 1, bytes)) {n : Nat} (hb : bytes * n ≤ 281474976710656) (hn : n ≤ 16777216)
    (k : ∀ w' xs, xs.length = n → Own e w' (.slice (some ⟨w.heap.size, 0, none⟩) n n) xs → Below w.heap.size w w' → K (.slice (some ⟨w.heap.size, 0, none⟩) n n) w') : LiftP P (Instr.makeSlice t (.int .i64 (n : Int)) (.int .i64 (n : Int))) K w := by
  obtain ⟨i, hi, hzz⟩ := Option.map_eq_some_iff.1 hinfo
  simp only [Prod.mk.injEq] at hzz
  obtain ⟨hz0, hz1, hz2⟩ := hzz
  obtain ⟨w', hr, ho, hg⟩ := run_makeSlice_full (P := P) w 0 t e i z 1 ht hi hz0 hz1 .i64 .i64 n (by omega) (by rw [hz2]; exact hb) (by simp only [maxLen]; omega) (Nat.zero_le _)
  have hlen : (madeCells z.cells (n * 1)).toList.length = n := by rw [Array.length_toList, size_madeCells, Nat.mul_one]
  exact lift hr (k w' _ hlen (by rw [Own, hlen]; exact ho) ((Below.refl _ w).grown hg (Nat.le_refl _) (fun k hk => by cases hk)))
theorem cpF {dT sT ty e : TypeId} {cs : Array Bool} (B : Nat) (hu : P.underlying dT = some (.slice e)) (hs : (P.info? e).map (·.size) = some 1) {v x : Value} {xs ys : List Value} (hown : Own e w v xs) (hf : Fresh B v) (hx : Rd w x ys) (hl : xs.length = ys.length)
    (h1 : ∀ u ∈ ys, u.oneCell' = true) (k : ∀ w', Own e w' v ys → Below B w w' → (∀ e' u zs, Own e' w u zs → (u.ownBlock = none ∨ u.ownBlock ≠ v.ownBlock) → Own e' w' u zs) → K (.int .i64 ys.length) w') : NextP P (builtin .copy #[dT, sT] ty cs #[v, x]) K w := by
  obtain ⟨A, c, rfl, hc1, hc2, hcell⟩ := hx
  by_cases h0 : ys.length = 0
  · have hy : ys = [] := List.eq_nil_of_length_eq_zero h0
    subst hy
    have hx0 : xs = [] := List.eq_nil_of_length_eq_zero (by omega)
    subst hx0
    obtain ⟨A', c', rfl⟩ := hown.slice
    refine nextV (v := .int .i64 0) (w' := w) ?_ (k w hown (Below.refl _ _) (fun e' u zs h _ => h))
    have := run_copy_none (P := P) w dT sT ty e A' A 0 c' 0 c hu hs rfl
    simp only [builtin, List.length_nil] at this ⊢
    simp [this]
    rfl
  · obtain ⟨g, cap, cur, rfl, hb, g1, g2, g3, g4⟩ := hown.form (by omega)
    obtain ⟨a, rfl, _⟩ := hcell 0 (ys[0]'(by omega)) (List.getElem?_eq_getElem _)
    have hr := run_copy_row (P := P) w dT sT ty e g 0 xs.length cap a ys.length c cur e ys hu hs hb (by rw [hl]; simp) (fun j u hj => by
      obtain ⟨a', ha, hc⟩ := hcell j u hj
      cases ha; exact hc) (by omega) h1
    refine nextV (v := .int .i64 ys.length) (w' := w.setRow g (cur.toList.take 0 ++ ys ++ cur.toList.drop (0 + ys.length)).toArray) ?_ (k _ ?_ ?_ ?_)
    · simp only [builtin] at hr ⊢
      simp only [Sem.run_bind, hr, Result.andThen_ok]
      rfl
    · rw [List.take_zero, List.nil_append, Nat.zero_add]
      refine Own.of_blk (hb.row _) hl (by omega) g4 (by simp; omega) ?_
      rw [List.toList_toArray, List.take_left' rfl]
    · exact below_setRow (Below.refl B w) (hf g rfl) _
    · intro e' u zs hz hne
      refine hz.farRow ?_ _
      rcases hne with h | h
      · rw [h]; simp
      · exact h
/-- append(v, text...) -/
theorem apS {t ty u e : TypeId} {cs : Array Bool} (B : Nat) (ht : P.underlying t = some (.slice e)) (hu : P.underlying u = some .string) (hinfo : (P.info? e).map (fun i => (i.zero, i.size, i.bytes)) = some (some (.int .u8 0), 1, 1))
    {v : Value} {bs : List UInt8} {s : ByteArray} (hown : Own e w v (bs.map u8)) (hf : Fresh B v) (hB : B ≤ w.heap.size) (hl : bs.length + s.size ≤ 140737488355328)
    (k : ∀ v' w', Own e w' v' ((bs ++ s.data.toList).map u8) → Below B w w' → K v' w') : NextP P (builtin .append #[t, u] ty cs #[v, .string s]) K w := by
  obtain ⟨i, hi, hzz⟩ := Option.map_eq_some_iff.1 hinfo
  simp only [Prod.mk.injEq] at hzz
  obtain ⟨hz0, hz1, hz2⟩ := hzz
  obtain ⟨v', w', hr, h2, h3, _⟩ := Lib.run_append_own_string (P := P) w 0 t u ty e i ht hu hi hz0 hz1 hz2 v (bs.map u8).length (bs.map u8) hown s (by simp only [maxLen, List.length_map]; omega) (by rw [List.length_map]; exact hl) (Nat.zero_le _)
  refine nextV (v := v') (w' := w') ?_ (k v' w' ?_ ((Below.refl B w).grown h3 hB (fun j hj => hf j hj)))
  · simp only [builtin] at hr ⊢
    simp [hr]
  · have e1 : (bs ++ s.data.toList).map u8 = bs.map u8 ++ Lib.strCells s := by rw [List.map_append]; rfl
    have e2 : (bs.map u8 ++ Lib.strCells s).length = (bs.map u8).length + s.size := by rw [List.length_append, Lib.strCells_length]
    rw [e1, Own, e2]
    exact h2
end
end Go.Proofs.Ytmnaggdhkggjhaa.E
