/-
  E15: pointers, texts, rows of structs; more words for regions that draw.
-/
import Derived.Test.YtmnaggdhkggjhaaE12
import Derived.Lib.MinMax
namespace Go.Proofs.Ytmnaggdhkggjhaa.E
open Go Go.RowKit

section
variable {P : Program} {K : Value → World → Prop} {S : World → Prop} {w : World}
theorem pr_pnil {t e : TypeId} {x y : Operand} (h : P.underlying t = some (.pointer e)) {p : Option Addr} : PR P (binS .eql t x y (.pointer p) (.pointer none)) (.bool p.isNone) := by
  intro w
  have he : P.pointee t = e := by simp [Program.pointee, h]
  simp only [binS, eqGuard_at_pointer, Sem.run_bind, Sem.run_pure, Result.andThen_ok]
  exact run_eql_pointer_nil w t p (by rw [he]; exact h)
theorem lns {t ty : TypeId} (h : P.underlying t = some .string) {cs : Array Bool} {s : ByteArray} (k : K (.int .i64 s.size) w) : NextP P (builtin .len #[t] ty cs #[.string s]) K w := by
  refine nextV (v := .int .i64 s.size) (w' := w) ?_ k
  have := run_len_string (P := P) w t ty s h
  simp only [builtin] at this ⊢
  simp [this, goInt]
theorem yfd {s : TypeId} {i o n : Nat} (h : fofs P s i = some (o, n)) (hn : n ≠ 0) {g : Nat} (k : K (.pointer (some ⟨g, o, none⟩)) w) : YieldP P S (Instr.fieldAt s (.pointer (some ⟨g, 0, none⟩)) i) K w :=
  yld (fun w' _ => run_fd h hn _ w') (by rw [add0, Nat.zero_add]; exact k)
theorem yln {t ty : TypeId} {e : TypeId} (h : P.underlying t = some (.slice e)) {cs : Array Bool} {A : Option Addr} {n c : Nat} (k : K (.int .i64 n) w) : YieldN P S (builtin .len #[t] ty cs #[.slice A n c]) K w :=
  yldN (v := .int .i64 n) (fun w' _ => by simp [builtin, Builtin.len_, run_underlying h, goInt]) k
theorem ymn {t ty : TypeId} {cs : Array Bool} {a b : Int} (k : K (.int .i64 (min a b)) w) : YieldN P S (builtin .min #[t, t] ty cs #[.int .i64 a, .int .i64 b]) K w :=
  yldN (v := .int .i64 (min a b)) (fun w' _ => by
    have := Lib.run_min_ints (P := P) w' #[t, t] ty .i64 .i64 a b
    simp only [builtin] at this ⊢
    simp [this]) k
theorem ymx {t ty : TypeId} {cs : Array Bool} {a b : Int} (k : K (.int .i64 (max a b)) w) : YieldN P S (builtin .max #[t, t] ty cs #[.int .i64 a, .int .i64 b]) K w :=
  yldN (v := .int .i64 (max a b)) (fun w' _ => by
    have := Lib.run_max_ints (P := P) w' #[t, t] ty .i64 .i64 a b
    simp only [builtin] at this ⊢
    simp [this]) k
/-- append(v, x...), elements of any size. -/
theorem apG {t ty e : TypeId} {cs : Array Bool} {z : Value} {size bytes : Nat} (B : Nat) (ht : P.underlying t = some (.slice e)) (hinfo : (P.info? e).map (fun i => (i.zero, i.size, i.bytes)) = some (some z, size, bytes)) (hz : z.cells.size = size) (hsz : 0 < size)
    {v : Value} {xs : List Value} {n : Nat} (hown : w.ownsRow 0 e size v n xs) (hf : Fresh B v) (hB : B ≤ w.heap.size) {a : Addr} {m c : Nat} {news : List Value} (hl : news.length = m * size) (hnews : ∀ j u, news[j]? = some u → w.cell? (a.add j) = some u) (h1 : ∀ u ∈ news, u.oneCell' = true)
    (h63 : n + m ≤ 9223372036854775807) (hbytes : (n + m) * bytes ≤ 140737488355328)
    (k : ∀ v' w', w'.ownsRow 0 e size v' (n + m) (xs ++ news) → Fresh B v' → Below B w w' → w.grownBy w' v.ownBlock → K v' w') : NextP P (builtin .append #[t, t] ty cs #[v, .slice (some a) m c]) K w := by
  obtain ⟨i, hi, hzz⟩ := Option.map_eq_some_iff.1 hinfo
  simp only [Prod.mk.injEq] at hzz
  obtain ⟨hz0, hz1, hz2⟩ := hzz
  obtain ⟨v', w', hr, h2, h3, _, h5⟩ := run_append_own_at (P := P) w 0 t ty e i z size bytes ht hi hz0 hz1 hz2 hz hsz v n xs hown a m c news hl hnews h1 (by simp only [maxLen]; omega) hbytes (Nat.zero_le _)
  refine nextV (v := v') (w' := w') ?_ (k v' w' h2 (fun j hj => by rcases h5 with h | h <;> rw [h] at hj; exact hf j hj; cases hj; exact hB) ((Below.refl B w).grown h3 hB (fun j hj => hf j hj)) h3)
  simp only [builtin]
  simp [hr]
/-- make([]byte, n): zeros. -/
theorem mkB {t e : TypeId} (ht : P.underlying t = some (.slice e)) (hinfo : (P.info? e).map (fun i => (i.zero, i.size, i.bytes)) = some (some (.int .u8 0), 1, 1)) {n : Nat} (hn : n ≤ 16777216)
    (k : ∀ w', Own e w' (.slice (some ⟨w.heap.size, 0, none⟩) n n) ((List.replicate n (0 : UInt8)).map u8) → Below w.heap.size w w' → K (.slice (some ⟨w.heap.size, 0, none⟩) n n) w') : LiftP P (Instr.makeSlice t (.int .i64 (n : Int)) (.int .i64 (n : Int))) K w := by
  obtain ⟨i, hi, hzz⟩ := Option.map_eq_some_iff.1 hinfo
  simp only [Prod.mk.injEq] at hzz
  obtain ⟨hz0, hz1, hz2⟩ := hzz
  obtain ⟨w', hr, ho, hg⟩ := run_makeSlice_full (P := P) w 0 t e i (.int .u8 0) 1 ht hi hz0 hz1 .i64 .i64 n (by omega) (by rw [hz2]; omega) (by simp only [maxLen]; omega) (Nat.zero_le _)
  have e1 : (madeCells (Value.int .u8 0).cells (n * 1)).toList = (List.replicate n (0 : UInt8)).map u8 := by
    apply List.ext_getElem
    · simp [madeCells]
    · intro i h1 h2
      simp [madeCells, Value.cells, u8, Nat.mod_one]
  rw [e1] at ho
  have hlen : ((List.replicate n (0 : UInt8)).map u8).length = n := by simp
  exact lift hr (k w' (by rw [Own, hlen]; exact ho) ((Below.refl _ w).grown hg (Nat.le_refl _) (fun k hk => by cases hk)))
theorem or_u8 (a b : UInt8) : Go.bits .or .u8 (a.toNat : Int) (b.toNat : Int) = ((a ||| b).toNat : Int) := by
  show IntKind.u8.wrap _ = _
  have h : ∀ c : UInt8, BitVec.ofInt 8 (c.toNat : Int) = c.toBitVec := fun c => by
    apply BitVec.eq_of_toNat_eq
    have := c.toNat_lt
    simp
  have h2 : ∀ c : UInt8, IntKind.u8.wrap (c.toNat : Int) = (c.toNat : Int) := fun c => IntWalk.u8_in _ (by have := c.toNat_lt; omega)
  simp only [IntKind.bits, h]
  rw [← h2 (a ||| b)]
  rfl
end
end Go.Proofs.Ytmnaggdhkggjhaa.E
