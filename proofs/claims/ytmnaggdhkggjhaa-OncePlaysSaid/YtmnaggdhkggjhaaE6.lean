/-
  E6: words for memory.
-/
import Derived.Test.YtmnaggdhkggjhaaE5
import Derived.Laws.Rows
import Derived.Laws.OwnMore
import Derived.Deep.Draws
namespace Go.Proofs.Ytmnaggdhkggjhaa.E
open Go Go.RowKit

/-! ### 1. a block that is known whole -/
def Blk (w : World) (g : Nat) (t : TypeId) (cs : Array Value) : Prop := w.heap[g]? = some (.cells cs t (0, 0))
section
variable {w w' : World} {g : Nat} {t : TypeId} {cs : Array Value}
theorem Blk.lt (h : Blk w g t cs) : g < w.heap.size := (Array.getElem?_eq_some_iff.1 h).1
theorem Blk.cell (h : Blk w g t cs) (i : Nat) : w.cell? ⟨g, i, none⟩ = cs[i]? := cell_of_row w g i cs t (0, 0) h
theorem Blk.frozen (h : Blk w g t cs) (i : Nat) : w.frozen? ⟨g, i, none⟩ = false := by
  unfold Blk at h
  simp [World.frozen?, h]
theorem Blk.new (w : World) (t : TypeId) (cs : Array Value) : Blk (w.alloc (.cells cs t)) w.heap.size t cs := heap_alloc_new w _
theorem Blk.alloc (h : Blk w g t cs) (o : Obj) : Blk (w.alloc o) g t cs := (Below.heap_alloc w o g h.lt).trans h
theorem Blk.set_ (h : Blk w g t cs) (i : Nat) (u : Value) : Blk (w.setCell ⟨g, i, none⟩ u) g t (cs.setIfInBounds i u) := by
  unfold Blk at h ⊢
  simp [World.setCell, Array.getElem?_modify, h]
theorem Blk.far (h : Blk w g t cs) {p : Addr} (hp : g ≠ p.block) (u : Value) : Blk (w.setCell p u) g t cs := (Below.heap_setCell w p u g hp).trans h
theorem Blk.below {B : Nat} (h : Blk w g t cs) (hb : Below B w w') (hg : g < B) : Blk w' g t cs := (hb.block g hg).trans h
theorem Blk.below' (h : Blk w g t cs) (hb : Below w.heap.size w w') : Blk w' g t cs := h.below hb h.lt
end

theorem below_then {W w w' : World} (h : Below W.heap.size W w) (k : Below w.heap.size w w') : Below W.heap.size W w' := h.trans (k.mono h.size)
theorem below_al {W w : World} (h : Below W.heap.size W w) (o : Obj) : Below W.heap.size W (w.alloc o) := h.alloc h.size o

/-! ### 2. a slice that is read: elements of one cell -/
def Rd (w : World) (v : Value) (cs : List Value) : Prop :=
  ∃ A c, v = .slice A cs.length c ∧ cs.length ≤ c ∧ c ≤ 9223372036854775807 ∧ ∀ i u, cs[i]? = some u → ∃ a, A = some a ∧ w.cell? (a.add i) = some u
theorem Rd.below {w w' : World} {v : Value} {cs : List Value} (h : Rd w v cs) (hb : Below w.heap.size w w') : Rd w' v cs := by
  obtain ⟨A, c, rfl, h1, h2, h3⟩ := h
  refine ⟨A, c, rfl, h1, h2, fun i u hu => ?_⟩
  obtain ⟨a, ha, hc⟩ := h3 i u hu
  exact ⟨a, ha, (hb.cell (World.block_lt_of_cell? w _ hc)).trans hc⟩
def u8 (b : UInt8) : Value := .int .u8 (b.toNat : Int)
/-- A []byte that reads as bs. -/
def RdB (w : World) (v : Value) (bs : List UInt8) : Prop := Rd w v (bs.map u8)
theorem RdB.below {w w' : World} {v : Value} {bs : List UInt8} (h : RdB w v bs) (hb : Below w.heap.size w w') : RdB w' v bs := Rd.below h hb
theorem RdB.slice {w : World} {v : Value} {bs : List UInt8} (h : RdB w v bs) : ∃ A c, v = .slice A bs.length c ∧ bs.length ≤ c ∧ c ≤ 9223372036854775807 ∧
    ∀ i (hi : i < bs.length), ∃ a, A = some a ∧ w.cell? (a.add i) = some (.int .u8 (bs[i].toNat : Int)) := by
  obtain ⟨A, c, rfl, h1, h2, h3⟩ := h
  simp only [List.length_map] at h1 ⊢
  exact ⟨A, c, rfl, h1, h2, fun i hi => h3 i _ (by rw [List.getElem?_map, List.getElem?_eq_getElem hi]; rfl)⟩

/-! ### 3. rules for the operations on memory -/
section
variable {P : Program} {K : Value → World → Prop} {w : World}
/-- a variable of type t, at its zero value z -/
theorem al {t : TypeId} {z : Value} (hz : (P.info? t).bind (·.zero) = some z) (k : K (.pointer (some ⟨w.heap.size, 0, none⟩)) (w.alloc (.cells z.cells t))) : LiftP P (Instr.alloc t true (.tuple #[])) K w := by
  obtain ⟨i, hi, hz⟩ := Option.bind_eq_some_iff.1 hz
  refine lift (v := .pointer (some ⟨w.heap.size, 0, none⟩)) ?_ k
  simp [Instr.alloc, zeroValue, typeInfo, hi, hz, newVar, newRow]
theorem bx {t : TypeId} {v : Value} (k : K (.pointer (some ⟨w.heap.size, 0, none⟩)) (w.alloc (.cells v.cells t))) : LiftP P (Instr.box t v) K w :=
  lift (by simp [Instr.box, newVar, newRow]) k
def oneB (P : Program) (t : TypeId) : Bool := match P.underlying t with
  | some (.struct _) | some (.array _ _) | none => false
  | _ => true
theorem run_isAgg {t : TypeId} (h : oneB P t = true) (w : World) : (isAgg t).run P w = .ok false w := by
  unfold oneB at h
  unfold isAgg
  cases hu : P.underlying t with
  | none => rw [hu] at h; cases h
  | some d =>
    rw [Sem.run_bind, run_underlying hu]
    rw [hu] at h
    cases d <;> first | rfl | (cases h)
theorem run_load1 {t : TypeId} (h : oneB P t = true) {a : Addr} {v : Value} (hc : w.cell? a = some v) : (Instr.loadAt t (.pointer (some a))).run P w = .ok v w := by
  simp [Instr.loadAt, Instr.sureAddr, loadVar, run_isAgg h, hc]
theorem ld {t : TypeId} (h : oneB P t = true) {a : Addr} {v : Value} (hc : w.cell? a = some v) (k : K v w) : LiftP P (Instr.loadAt t (.pointer (some a))) K w := lift (run_load1 h hc) k
theorem run_store1 {t : TypeId} (h : (P.info? t).map (·.size) = some 1) {a : Addr} {v : Value} (h1 : v.oneCell' = true) (hc : (w.cell? a).isSome = true) (hf : w.frozen? a = false) : (Instr.storeAt t (.pointer (some a)) v).run P w = .ok () (w.setCell a v) := by
  obtain ⟨i, hi, hs⟩ := Option.map_eq_some_iff.1 h
  obtain ⟨u, hu⟩ := Option.isSome_iff_exists.1 hc
  have hcs : v.cells = #[v] := by cases v <;> first | rfl | (cases h1)
  simp only [Instr.storeAt, Instr.sureAddr, storeVar, sizeOf, typeInfo, Sem.run_bind, Sem.run_pure, Result.andThen_ok, run_program, hi, hcs, hs]
  simp only [List.size_toArray, List.length_cons, List.length_nil, ne_eq, not_true_eq_false, if_false, storeCells, Addr.add_zero', Sem.run_bind]
  have := run_store P w a v .plain h1
  simp [storeCells, this, stored, hu, hf]
theorem st {t : TypeId} (h : (P.info? t).map (·.size) = some 1) {a : Addr} {v : Value} (h1 : v.oneCell' = true) (hc : (w.cell? a).isSome = true) (hf : w.frozen? a = false) {K : Value → World → Prop} (k : K undef (w.setCell a v)) : LiftU P (Instr.storeAt t (.pointer (some a)) v) K w := liftU (run_store1 h h1 hc hf) k
theorem ix {t e : TypeId} (h : P.underlying t = some (.slice e)) {s : Nat} (hs : (P.info? e).map (·.size) = some s) {a : Addr} {n c : Nat} {kd : IntKind} {i : Int} (h0 : 0 ≤ i) (h1 : i < n)
    (k : K (.pointer (some (a.add (i.toNat * s)))) w) : LiftP P (Instr.indexAt t (.slice (some a) n c) (.int kd i)) K w := by
  obtain ⟨j, hj, hs⟩ := Option.map_eq_some_iff.1 hs
  refine lift ?_ k
  simp [Instr.indexAt, run_underlying h, asIntOf, h0, h1, sizeOf, typeInfo, hj, hs]
theorem ix1 {t e : TypeId} (h : P.underlying t = some (.slice e)) (hs : (P.info? e).map (·.size) = some 1) {a : Addr} {n c : Nat} {kd : IntKind} {i : Nat} (h1 : i < n)
    (k : K (.pointer (some (a.add i))) w) : LiftP P (Instr.indexAt t (.slice (some a) n c) (.int kd i)) K w :=
  ix h hs (by omega) (by omega) (by rw [Nat.mul_one, Int.toNat_natCast]; exact k)
theorem ixA {t e : TypeId} {n : Nat} (h : P.underlying t = some (.array n e)) {s : Nat} (hs : (P.info? e).map (·.size) = some s) {a : Addr} {kd : IntKind} {i : Int} (h0 : 0 ≤ i) (h1 : i < n)
    (k : K (.pointer (some (a.add (i.toNat * s)))) w) : LiftP P (Instr.indexAt t (.pointer (some a)) (.int kd i)) K w := by
  obtain ⟨j, hj, hs⟩ := Option.map_eq_some_iff.1 hs
  refine lift ?_ k
  simp [Instr.indexAt, run_underlying h, asIntOf, h0, h1, sizeOf, typeInfo, hj, hs, Instr.sureAddr]
theorem ixB {t e : TypeId} {n : Nat} (h : P.underlying t = some (.array n e)) (hs : (P.info? e).map (·.size) = some 1) {g : Nat} {kd : IntKind} {i : Nat} (h1 : i < n)
    (k : K (.pointer (some ⟨g, i, none⟩)) w) : LiftP P (Instr.indexAt t (.pointer (some ⟨g, 0, none⟩)) (.int kd i)) K w :=
  ixA h hs (by omega) (by omega) (by rw [Nat.mul_one, Int.toNat_natCast, Addr.add_lit, Nat.zero_add]; exact k)
theorem ln {t ty : TypeId} {e : TypeId} (h : P.underlying t = some (.slice e)) {cs : Array Bool} {A : Option Addr} {n c : Nat} (k : K (.int .i64 n) w) : NextP P (builtin .len #[t] ty cs #[.slice A n c]) K w := by
  refine nextV ?_ k
  simp [builtin, Builtin.len_, run_underlying h, goInt]
theorem cv {s d : TypeId} {ks kd : IntKind} (hs : P.underlying s = some (.int ks)) (hd : P.underlying d = some (.int kd)) {n : Int} (k : K (.int kd (kd.wrap n)) w) : LiftP P (convert s d (.int ks n)) K w := by
  refine lift ?_ k
  simp [convert, run_underlying hs, run_underlying hd, Conv.intToInt]
end
theorem add0 (b o n : Nat) : (⟨b, o, none⟩ : Addr).add n = ⟨b, o + n, none⟩ := Addr.add_lit b o n

end Go.Proofs.Ytmnaggdhkggjhaa.E
