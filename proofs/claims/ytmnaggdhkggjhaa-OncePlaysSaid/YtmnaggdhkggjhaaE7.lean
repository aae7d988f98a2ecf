/-
  E7: slices: what a call owns, append, cuts, texts.
-/
import Derived.Test.YtmnaggdhkggjhaaE6
import Derived.Maps.AppendAt
import Derived.Deep.AppendLies
import Derived.Laws.BytesString
import Derived.Lib.AppendStr
import Derived.Lib.SlBytesConst
namespace Go.Proofs.Ytmnaggdhkggjhaa.E
open Go Go.RowKit

/-! ### 1. a row of the call's own, elements of one cell -/
def Own (e : TypeId) (w : World) (v : Value) (xs : List Value) : Prop := w.ownsRow 0 e 1 v xs.length xs
theorem Own.nil (e : TypeId) (w : World) : Own e w (.slice none 0 0) [] := ⟨by simp, .inl ⟨rfl, rfl⟩⟩
theorem Own.new (w : World) (e : TypeId) (xs : List Value) (h : xs.length ≤ 9223372036854775807) : Own e (w.alloc (.cells xs.toArray e)) (.slice (some ⟨w.heap.size, 0, none⟩) xs.length xs.length) xs :=
  ⟨by simp, .inr ⟨w.heap.size, xs.length, xs.toArray, rfl, Nat.zero_le _, heap_alloc_new w _, Nat.le_refl _, by simp only [maxLen]; omega, by simp, by simp⟩⟩
theorem Own.rd {e : TypeId} {w : World} {v : Value} {xs : List Value} (h : Own e w v xs) : Rd w v xs := by
  rcases h.2 with ⟨rfl, h0⟩ | ⟨g, cap, cur, rfl, _, hh, hn, hm, hs, ht⟩
  · have : xs = [] := List.eq_nil_of_length_eq_zero h0
    subst this
    exact ⟨none, 0, rfl, Nat.le_refl _, by omega, fun i u hu => by simp at hu⟩
  · refine ⟨some ⟨g, 0, none⟩, cap, rfl, hn, by simp only [maxLen] at hm; omega, fun i u hu => ⟨_, rfl, ?_⟩⟩
    exact h.cells (g := g) rfl i u hu
theorem Own.kept {e : TypeId} {w w' : World} {v : Value} {xs : List Value} {row : Option Nat} (h : Own e w v xs) (hg : w.grownBy w' row) (hne : v.ownBlock = none ∨ v.ownBlock ≠ row) : Own e w' v xs := World.ownsRow.kept h hg hne
theorem Own.alloc {e : TypeId} {w : World} {v : Value} {xs : List Value} (h : Own e w v xs) (o : Obj) : Own e (w.alloc o) v xs := World.ownsRow.alloc h o
theorem Own.below {e : TypeId} {w w' : World} {v : Value} {xs : List Value} (h : Own e w v xs) (hb : Below w.heap.size w w') : Own e w' v xs :=
  h.kept (row := none) ⟨hb.os, hb.tape, hb.output, hb.size, fun k hk _ => hb.block k hk⟩ (by cases h : v.ownBlock <;> simp)
theorem Own.lt {e : TypeId} {w : World} {v : Value} {xs : List Value} (h : Own e w v xs) {k : Nat} (hk : v.ownBlock = some k) : k < w.heap.size := (World.ownsRow.lt h k hk).2
/-- Opened: where there is an element. -/
theorem Own.form {e : TypeId} {w : World} {v : Value} {xs : List Value} (h : Own e w v xs) (h0 : 0 < xs.length) : ∃ g cap cur, v = .slice (some ⟨g, 0, none⟩) xs.length cap ∧ Blk w g e cur ∧ xs.length ≤ cap ∧ cur.size = cap ∧ cur.toList.take xs.length = xs ∧ cap ≤ 9223372036854775807 := by
  rcases h.2 with ⟨rfl, hz⟩ | ⟨g, cap, cur, rfl, _, hh, hn, hm, hs, ht⟩
  · omega
  · exact ⟨g, cap, cur, rfl, hh, hn, by omega, by simpa using ht, by simp only [maxLen] at hm; omega⟩
theorem Own.of_blk {e : TypeId} {w : World} {g n cap : Nat} {cur : Array Value} {xs : List Value} (hb : Blk w g e cur) (hn : n = xs.length) (hc : xs.length ≤ cap) (hm : cap ≤ 9223372036854775807) (hs : cur.size = cap) (ht : cur.toList.take xs.length = xs) :
    Own e w (.slice (some ⟨g, 0, none⟩) n cap) xs := by
  subst hn
  exact ⟨by simp, .inr ⟨g, cap, cur, rfl, Nat.zero_le _, hb, hc, by simp only [maxLen]; omega, by omega, by simpa using ht⟩⟩

theorem below_grown {W w w' : World} {row : Option Nat} (h : Below W.heap.size W w) (hg : w.grownBy w' row) (hr : ∀ k, row = some k → W.heap.size ≤ k) : Below W.heap.size W w' := h.grown hg h.size hr

/-! ### 2. append -/
theorem run_append_of_nil {P : Program} (w : World) (t ty e : TypeId) (i : TypeInfo) (ht : P.underlying t = some (.slice e)) (hi : P.info? e = some i) (v : Value) (xs : List Value) (hown : Own e w v xs) (c : Nat) :
    (Builtin.append_ #[t, t] ty #[v, .slice none 0 c]).run P w = .ok v w := by
  rcases hown.2 with ⟨rfl, _⟩ | ⟨g, cap, cur, rfl, _, _, hnc, _⟩
  · simp [Builtin.append_, run_underlying ht, sizeOf, typeInfo, hi, Builtin.lenOf, Builtin.firstCells]
  · simp [Builtin.append_, run_underlying ht, sizeOf, typeInfo, hi, Builtin.lenOf, Builtin.firstCells, hnc, storeCells]

section
variable {P : Program} {K : Value → World → Prop} {w : World}
/-- append(v, x...), v a row of the call's own, x read. -/
theorem ap {t ty e : TypeId} {cs : Array Bool} {z : Value} {bytes : Nat} (ht : P.underlying t = some (.slice e)) (hinfo : (P.info? e).map (fun i => (i.zero, i.size, i.bytes)) = some (some z, 1, bytes)) (hz : z.cells.size = 1) (hb0 : 0 < bytes)
    {v x : Value} {xs ys : List Value} (hown : Own e w v xs) (hx : Rd w x ys) (h1 : ∀ u ∈ ys, u.oneCell' = true) (hl : (xs.length + ys.length) * bytes ≤ 140737488355328)
    (k : ∀ v' w', Own e w' v' (xs ++ ys) → w.grownBy w' v.ownBlock → (v'.ownBlock = v.ownBlock ∨ v'.ownBlock = some w.heap.size) → K v' w') : NextP P (builtin .append #[t, t] ty cs #[v, x]) K w := by
  obtain ⟨i, hi, hzz⟩ := Option.map_eq_some_iff.1 hinfo
  simp only [Prod.mk.injEq] at hzz
  obtain ⟨hz0, hz1, hz2⟩ := hzz
  obtain ⟨A, c, rfl, hc1, hc2, hcell⟩ := hx
  have hlen : xs.length + ys.length ≤ 140737488355328 := Nat.le_trans (Nat.le_mul_of_pos_right _ hb0) hl
  cases ys with
  | nil =>
    cases A with
    | none =>
      refine nextV (v := v) (w' := w) ?_ (k v w (by simpa using hown) (World.grownBy.refl w _) (.inl rfl))
      have := run_append_of_nil (P := P) w t ty e i ht hi v xs hown c
      simp only [builtin, List.length_nil] at this ⊢
      simp [this]
    | some a =>
      obtain ⟨v', w', hr, h2, h3, _, h5⟩ := run_append_own_at (P := P) w 0 t ty e i z 1 bytes ht hi hz0 hz1 hz2 hz (by omega) v xs.length xs hown a 0 c [] rfl (by simp) (by simp) (by simp only [maxLen]; omega) (by simpa using hl) (Nat.zero_le _)
      refine nextV (v := v') (w' := w') ?_ (k v' w' (by simpa [Own] using h2) h3 h5)
      simp only [builtin, List.length_nil]
      simp [hr]
  | cons y r =>
    obtain ⟨a, rfl, _⟩ := hcell 0 y (by simp)
    obtain ⟨v', w', hr, h2, h3, _, h5⟩ := run_append_own_at (P := P) w 0 t ty e i z 1 bytes ht hi hz0 hz1 hz2 hz (by omega) v xs.length xs hown a (y :: r).length c (y :: r) (by simp) (fun j u hu => by
      obtain ⟨a', ha, hc⟩ := hcell j u hu
      cases ha; exact hc) h1 (by simp only [maxLen]; omega) hl (Nat.zero_le _)
    refine nextV (v := v') (w' := w') ?_ (k v' w' (by simpa [Own] using h2) h3 h5)
    show ((do pure (Next.value (← Builtin.append_ #[t, t] ty #[v, .slice (some a) (y :: r).length c])) : Sem Next)).run P w = _
    rw [Sem.run_bind, hr]
    rfl

/-- '[]byte("..")' of a constant: behind the literal's row. -/
theorem cvC {s e : TypeId} (hs : P.underlying s = some (.slice e)) (he : P.underlying e = some (.int .u8)) {C : Array Value} {n c : Nat} (k : K (.slice (some ⟨w.heap.size, 0, none⟩) n c) (w.alloc (.cells C e (C.size, C.size + 1)))) :
    LiftP P (convert s s (.slice (some ⟨w.heap.size, 0, none⟩) n c)) K (w.alloc (.cells C e)) := lift (Lib.run_convert_bytes_const w s e C n c hs he) k
theorem rdB_const (w : World) (e : TypeId) (bs : List UInt8) (fr : Nat × Nat) (h : bs.length ≤ 9223372036854775807) : RdB (w.alloc (.cells (bs.map u8).toArray e fr)) (.slice (some ⟨w.heap.size, 0, none⟩) bs.length bs.length) bs := by
  refine ⟨some ⟨w.heap.size, 0, none⟩, bs.length, by simp, by simp, h, fun i u hu => ⟨_, rfl, ?_⟩⟩
  rw [add0, Nat.zero_add, cell_of_row _ _ _ _ _ fr (heap_alloc_new w _)]
  simpa using hu
theorem run_loadCellsFrom_of (w : World) (a : Addr) : ∀ (xs : List Value) (i : Nat) (acc : Array Value), (∀ j u, xs[j]? = some u → w.cell? (a.add (i + j)) = some u) →
    (loadCellsFrom a i xs.length acc).run P w = .ok (acc ++ xs.toArray) w
  | [], i, acc, _ => by simp [loadCellsFrom]
  | x :: xs, i, acc, h => by
    have h0 : w.cell? (a.add i) = some x := by simpa using h 0 x rfl
    have ih := run_loadCellsFrom_of w a xs (i + 1) (acc.push x) (fun j u hu => by
      have := h (j + 1) u (by simpa using hu)
      rw [show i + 1 + j = i + (j + 1) by omega]
      exact this)
    simp only [List.length_cons, loadCellsFrom, Sem.run_bind, run_load, h0, Result.andThen_ok, ih]
    simp
theorem run_loadCells_of (w : World) (a : Addr) (xs : List Value) (n : Nat) (hn : xs.length = n) (h : ∀ j u, xs[j]? = some u → w.cell? (a.add j) = some u) : (loadCells a n).run P w = .ok xs.toArray w := by
  subst hn
  have := run_loadCellsFrom_of (P := P) w a xs 0 #[] (by simpa using h)
  simpa [loadCells] using this
theorem foldl_push (bs : List UInt8) : ∀ s : ByteArray, (bs.map fun b => (b.toNat : Int)).foldl (fun (r : ByteArray) (n : Int) => r.push (UInt8.ofNat n.toNat)) s = ⟨(s.data.toList ++ bs).toArray⟩ := by
  induction bs with
  | nil => intro s; simp
  | cons b bs ih =>
    intro s
    simp only [List.map_cons, List.foldl_cons]
    rw [ih]
    simp [ByteArray.push]
theorem run_cvBS {s d e : TypeId} (hs : P.underlying s = some (.slice e)) (he : P.underlying e = some (.int .u8)) (hd : P.underlying d = some .string) {v : Value} {bs : List UInt8} (hv : RdB w v bs) :
    (convert s d v).run P w = .ok (.string ⟨bs.toArray⟩) w := by
  obtain ⟨A, c, rfl, hc1, hc2, hcell⟩ := hv.slice
  rw [run_convert_bytes_string w s d e A bs.length c hs he hd]
  cases A with
  | none =>
    cases bs with
    | nil => rfl
    | cons b r => obtain ⟨a, h, _⟩ := hcell 0 (by simp); cases h
  | some a =>
    rw [run_bytesToString w a bs.length c (bs.map fun b => (b.toNat : Int)) ?_, foldl_push]
    · rw [show ByteArray.empty.data.toList = [] from rfl, List.nil_append]
    · have := run_loadCells_of (P := P) w a (bs.map u8) bs.length (by simp) fun j u hu => by
        obtain ⟨hj, rfl⟩ := List.getElem?_eq_some_iff.1 hu
        simp only [List.length_map] at hj
        obtain ⟨a', ha, hc⟩ := hcell j hj
        cases ha
        rw [hc, List.getElem_map]
        rfl
      rw [this]
      simp [u8, Function.comp_def]
theorem cvBS {s d e : TypeId} (hs : P.underlying s = some (.slice e)) (he : P.underlying e = some (.int .u8)) (hd : P.underlying d = some .string) {v : Value} {bs : List UInt8} (hv : RdB w v bs)
    (k : K (.string ⟨bs.toArray⟩) w) : LiftP P (convert s d v) K w := lift (run_cvBS hs he hd hv) k
end

end Go.Proofs.Ytmnaggdhkggjhaa.E
