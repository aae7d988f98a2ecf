import Derived.Test.YtmnaggdhkggjhaaGreatDoorM2
import Derived.Laws.CopyOwn
import Derived.Laws.Tables
import Derived.Lib.AppendZeros
import Derived.Lib.MinMax
import Derived.ArgAppend
import Derived.MapKept
import Derived.Deep.Matrix
import Derived.ChangeArms
namespace Go.Proofs.YtmnaggdhkggjhaaGreatDoor.E
open Go Go.RowKit

section
variable {w w' : World} {g : Nat} {t : TypeId} {cs : Array Value}
theorem Blk.row (h : Blk w g t cs) (ds : Array Value) : Blk (w.setRow g ds) g t ds := setRow_heap w g cs ds t (0, 0) h
end

def fofs (P : Program) (s : TypeId) (i : Nat) : Option (Nat × Nat) := match P.underlying s with
  | some (.struct fs) => (fs[i]?).bind fun f => (P.info? f.type).map fun j => (f.offset, j.size)
  | _ => none
def aggB (P : Program) (t : TypeId) : Bool := match P.underlying t with
  | some (.struct _) | some (.array _ _) => true
  | _ => false
section
variable {P : Program} {K : Value → World → Prop} {S : World → Prop} {w : World}
theorem run_fd {s : TypeId} {i o n : Nat} (h : fofs P s i = some (o, n)) (hn : n ≠ 0) (a : Addr) (w : World) : (Instr.fieldAt s (.pointer (some a)) i).run P w = .ok (.pointer (some (a.add o))) w := by
  unfold fofs at h
  cases hu : P.underlying s with
  | none => rw [hu] at h; cases h
  | some d =>
    rw [hu] at h
    cases d <;> try (cases h; done)
    rename_i fs
    simp only at h
    obtain ⟨f, hf, h⟩ := Option.bind_eq_some_iff.1 h
    obtain ⟨j, hj, he⟩ := Option.map_eq_some_iff.1 h
    cases he
    simp [Instr.fieldAt, run_underlying hu, hf, Instr.sureAddr, fieldPlace, sizeOf, typeInfo, hj, hn]
theorem fd {s : TypeId} {i o n : Nat} (h : fofs P s i = some (o, n)) (hn : n ≠ 0) {g : Nat} (k : K (.pointer (some ⟨g, o, none⟩)) w) : LiftP P (Instr.fieldAt s (.pointer (some ⟨g, 0, none⟩)) i) K w :=
  lift (run_fd h hn _ w) (by rw [add0, Nat.zero_add]; exact k)
theorem bd {t : TypeId} {parts : Array (Nat × Value)} {cells : Array Value} (h : P.built t parts.toList = some cells) (k : K (.agg cells) w) : LiftP P (Instr.build t parts) K w := lift (run_build w t parts cells h) k
theorem stA {t : TypeId} {g : Nat} {old cells : Array Value} (hb : Blk w g t old) (hi : (P.info? t).map (·.size) = some cells.size) (ho : old.size = cells.size) (h1 : cells.all (·.oneCell') = true)
    {K : Value → World → Prop} (k : K undef (w.setRow g cells)) : LiftU P (Instr.storeAt t (.pointer (some ⟨g, 0, none⟩)) (.agg cells)) K w :=
  liftU (u := ()) (by have := run_storeVar_row (P := P) w g t t old cells hb hi ho h1; simpa [Instr.storeAt, Instr.sureAddr] using this) k
theorem run_ldA {t : TypeId} (ha : aggB P t = true) {g : Nat} {cells : Array Value} (hb : Blk w g t cells) (hi : (P.info? t).map (·.size) = some cells.size) : (loadVar t ⟨g, 0, none⟩).run P w = .ok (.agg cells) w := by
  unfold aggB at ha
  cases hu : P.underlying t with
  | none => rw [hu] at ha; cases ha
  | some d =>
    rw [hu] at ha
    exact run_loadVar_row w g t t cells (0, 0) d hb hu (by cases d <;> first | rfl | cases ha) hi
theorem ldA {t : TypeId} (ha : aggB P t = true) {g : Nat} {cells : Array Value} (hb : Blk w g t cells) (hi : (P.info? t).map (·.size) = some cells.size) (k : K (.agg cells) w) : LiftP P (Instr.loadAt t (.pointer (some ⟨g, 0, none⟩))) K w :=
  lift (by simpa [Instr.loadAt, Instr.sureAddr] using run_ldA ha hb hi) k
theorem retA {t : TypeId} (ha : aggB P t = true) {g : Nat} {cells : Array Value} (hb : Blk w g t cells) (hi : (P.info? t).map (·.size) = some cells.size) {K : Value → Prop} (k : K (.agg cells)) : RetC P (.pointer (some ⟨g, 0, none⟩)) t K w :=
  ⟨_, by simpa [asAddr] using run_ldA ha hb hi, k⟩

/-- append(v, text...) -/
theorem apS {t ty u e : TypeId} {cs : Array Bool} (B : Nat) (ht : P.underlying t = some (.slice e)) (hu : P.underlying u = some .string) (hinfo : (P.info? e).map (fun i => (i.zero, i.size, i.bytes)) = some (some (.int .u8 0), 1, 1))
    {v : Value} {bs : List UInt8} {s : ByteArray} (hown : Own e w v (bs.map u8)) (hf : Fresh B v) (hB : B ≤ w.heap.size) (hl : bs.length + s.size ≤ 140737488355328)
    (k : ∀ v' w', Own e w' v' ((bs ++ s.data.toList).map u8) → Below B w w' → K v' w') : NextP P (builtin .append #[t, u] ty cs #[v, .string s]) K w := by
  obtain ⟨i, hi, hzz⟩ := Option.map_eq_some_iff.1 hinfo
  simp only [Prod.mk.injEq] at hzz
  obtain ⟨hz0, hz1, hz2⟩ := hzz
  obtain ⟨v', w', hr, h2, h3, _⟩ := Lib.run_append_own_string (P := P) w 0 t u ty e i ht hu hi hz0 hz1 hz2 v (bs.map u8).length (bs.map u8) hown s (by simp only [maxLen, List.length_map]; omega) (by rw [List.length_map]; exact hl) (Nat.zero_le _)
  refine nextV (v := v') (w' := w') ?_ (k v' w' ?_ ((Below.refl B w).grown h3 hB (fun j hj => hf j hj)))
  · simp only [builtin] at hr ⊢
    simp [hr]
  · have e1 : (bs ++ s.data.toList).map u8 = bs.map u8 ++ Lib.strCells s := by rw [List.map_append]; rfl
    have e2 : (bs.map u8 ++ Lib.strCells s).length = (bs.map u8).length + s.size := by rw [List.length_append, Lib.strCells_length]
    rw [e1, Own, e2]
    exact h2
end
end Go.Proofs.YtmnaggdhkggjhaaGreatDoor.E
namespace Go.Proofs.YtmnaggdhkggjhaaGreatDoor.E
open Go Go.RowKit

/-- A [][]byte that reads as bss. -/
def RdSS (w : World) (v : Value) (bss : List (List UInt8)) : Prop :=
  ∃ A c, v = .slice A bss.length c ∧ bss.length ≤ c ∧ c ≤ 9223372036854775807 ∧ ∀ i (hi : i < bss.length), ∃ a A' n' c', A = some a ∧ w.cell? (a.add i) = some (.slice A' n' c') ∧ RdB w (.slice A' n' c') bss[i]
theorem RdSS.below {w w' : World} {v : Value} {bss : List (List UInt8)} (h : RdSS w v bss) (hb : Below w.heap.size w w') : RdSS w' v bss := by
  obtain ⟨A, c, rfl, h1, h2, h3⟩ := h
  refine ⟨A, c, rfl, h1, h2, fun i hi => ?_⟩
  obtain ⟨a, A', n', c', ha, hc, hr⟩ := h3 i hi
  exact ⟨a, A', n', c', ha, (hb.cell (World.block_lt_of_cell? w _ hc)).trans hc, hr.below hb⟩
theorem RdSS.at {w : World} {A : Option Addr} {n c : Nat} {bss : List (List UInt8)} (h : RdSS w (.slice A n c) bss) (i : Nat) (hi : i < bss.length) : ∃ a A' n' c', A = some a ∧ w.cell? (a.add i) = some (.slice A' n' c') ∧ RdB w (.slice A' n' c') bss[i] := by
  obtain ⟨A', c', he, _, _, h3⟩ := h
  cases he
  exact h3 i hi
theorem RdSS.slice {w : World} {v : Value} {bss : List (List UInt8)} (h : RdSS w v bss) : ∃ A c, v = .slice A bss.length c ∧ bss.length ≤ c ∧ c ≤ 9223372036854775807 := by
  obtain ⟨A, c, h0, h1, h2, _⟩ := h
  exact ⟨A, c, h0, h1, h2⟩
/-- A row of slices of its own. -/
theorem RdSS.of {w : World} {v : Value} {cs : List Value} {bss : List (List UInt8)} (h : Rd w v cs) (hl : cs.length = bss.length) (he : ∀ i (h1 : i < cs.length) (h2 : i < bss.length), RdB w cs[i] bss[i]) : RdSS w v bss := by
  obtain ⟨A, c, rfl, h1, h2, h3⟩ := h
  refine ⟨A, c, by rw [hl], by omega, h2, fun i hi => ?_⟩
  obtain ⟨a, ha, hc⟩ := h3 i _ (List.getElem?_eq_getElem (by omega))
  have hr := he i (by omega) hi
  obtain ⟨A', c', hs, _⟩ := hr.slice
  rw [hs] at hc hr
  exact ⟨a, A', _, c', ha, hc, hr⟩
section
variable {P : Program} {K : Value → World → Prop} {S : World → Prop} {w : World}
theorem cpx {t ty : TypeId} {e : TypeId} (h : P.underlying t = some (.slice e)) {cs : Array Bool} {A : Option Addr} {n c : Nat} (k : K (.int .i64 c) w) : NextP P (builtin .cap #[t] ty cs #[.slice A n c]) K w := by
  refine nextV ?_ k
  have he : P.elem t = e := by simp [Program.elem, h]
  have := run_cap_slice (P := P) w t ty A n c (by rw [he]; exact h)
  simp only [builtin] at this ⊢
  simp [this, goInt]
/-- y-rules for bytes -/
theorem yix1 {t e : TypeId} (h : P.underlying t = some (.slice e)) (hs : (P.info? e).map (·.size) = some 1) {a : Addr} {n c : Nat} {kd : IntKind} (i : Nat) (h1 : i < n)
    (k : K (.pointer (some (a.add i))) w) : YieldP P S (Instr.indexAt t (.slice (some a) n c) (.int kd (i : Int))) K w := by
  obtain ⟨j, hj, hs⟩ := Option.map_eq_some_iff.1 hs
  refine yld (v := .pointer (some (a.add i))) (fun w' _ => ?_) k
  simp [Instr.indexAt, run_underlying h, asIntOf, h1, sizeOf, typeInfo, hj, hs]
theorem yl1 {t : TypeId} (h : oneB P t = true) {a : Addr} {v : Value} (hc : ∀ w', S w' → w'.cell? a = some v) (k : K v w) : YieldP P S (Instr.loadAt t (.pointer (some a))) K w := yld (fun w' hw => run_load1 h (hc w' hw)) k
end
end Go.Proofs.YtmnaggdhkggjhaaGreatDoor.E
namespace Go.Proofs.YtmnaggdhkggjhaaGreatDoor.E
open Go Go.RowKit

section
variable {P : Program} {K : Value → World → Prop} {S : World → Prop} {w : World}
theorem pr_pnil {t e : TypeId} {x y : Operand} (h : P.underlying t = some (.pointer e)) {p : Option Addr} : PR P (binS .eql t x y (.pointer p) (.pointer none)) (.bool p.isNone) := by
  intro w
  have he : P.pointee t = e := by simp [Program.pointee, h]
  simp only [binS, eqGuard_at_pointer, Sem.run_bind, Sem.run_pure, Result.andThen_ok]
  exact run_eql_pointer_nil w t p (by rw [he]; exact h)
theorem lns {t ty : TypeId} (h : P.underlying t = some .string) {cs : Array Bool} {s : ByteArray} (k : K (.int .i64 s.size) w) : NextP P (builtin .len #[t] ty cs #[.string s]) K w := by
  refine nextV (v := .int .i64 s.size) (w' := w) ?_ k
  have := run_len_string (P := P) w t ty s h
  simp only [builtin] at this ⊢
  simp [this, goInt]
theorem yfd {s : TypeId} {i o n : Nat} (h : fofs P s i = some (o, n)) (hn : n ≠ 0) {g : Nat} (k : K (.pointer (some ⟨g, o, none⟩)) w) : YieldP P S (Instr.fieldAt s (.pointer (some ⟨g, 0, none⟩)) i) K w :=
  yld (fun w' _ => run_fd h hn _ w') (by rw [add0, Nat.zero_add]; exact k)
theorem yln {t ty : TypeId} {e : TypeId} (h : P.underlying t = some (.slice e)) {cs : Array Bool} {A : Option Addr} {n c : Nat} (k : K (.int .i64 n) w) : YieldN P S (builtin .len #[t] ty cs #[.slice A n c]) K w :=
  yldN (v := .int .i64 n) (fun w' _ => by simp [builtin, Builtin.len_, run_underlying h, goInt]) k
/-- append(v, x...), elements of any size. -/
theorem apG {t ty e : TypeId} {cs : Array Bool} {z : Value} {size bytes : Nat} (B : Nat) (ht : P.underlying t = some (.slice e)) (hinfo : (P.info? e).map (fun i => (i.zero, i.size, i.bytes)) = some (some z, size, bytes)) (hz : z.cells.size = size) (hsz : 0 < size)
    {v : Value} {xs : List Value} {n : Nat} (hown : w.ownsRow 0 e size v n xs) (hf : Fresh B v) (hB : B ≤ w.heap.size) {a : Addr} {m c : Nat} {news : List Value} (hl : news.length = m * size) (hnews : ∀ j u, news[j]? = some u → w.cell? (a.add j) = some u) (h1 : ∀ u ∈ news, u.oneCell' = true)
    (h63 : n + m ≤ 9223372036854775807) (hbytes : (n + m) * bytes ≤ 140737488355328)
    (k : ∀ v' w', w'.ownsRow 0 e size v' (n + m) (xs ++ news) → Fresh B v' → Below B w w' → w.grownBy w' v.ownBlock → K v' w') : NextP P (builtin .append #[t, t] ty cs #[v, .slice (some a) m c]) K w := by
  obtain ⟨i, hi, hzz⟩ := Option.map_eq_some_iff.1 hinfo
  simp only [Prod.mk.injEq] at hzz
  obtain ⟨hz0, hz1, hz2⟩ := hzz
  obtain ⟨v', w', hr, h2, h3, _, h5⟩ := run_append_own_at (P := P) w 0 t ty e i z size bytes ht hi hz0 hz1 hz2 hz hsz v n xs hown a m c news hl hnews h1 (by simp only [maxLen]; omega) hbytes (Nat.zero_le _)
  refine nextV (v := v') (w' := w') ?_ (k v' w' h2 (fun j hj => by rcases h5 with h | h <;> rw [h] at hj; exact hf j hj; cases hj; exact hB) ((Below.refl B w).grown h3 hB (fun j hj => hf j hj)) h3)
  simp only [builtin]
  simp [hr]
theorem or_u8 (a b : UInt8) : Go.bits .or .u8 (a.toNat : Int) (b.toNat : Int) = ((a ||| b).toNat : Int) := by
  show IntKind.u8.wrap _ = _
  have h : ∀ c : UInt8, BitVec.ofInt 8 (c.toNat : Int) = c.toBitVec := fun c => by
    apply BitVec.eq_of_toNat_eq
    have := c.toNat_lt
    simp
  have h2 : ∀ c : UInt8, IntKind.u8.wrap (c.toNat : Int) = (c.toNat : Int) := fun c => IntWalk.u8_in _ (by have := c.toNat_lt; omega)
  simp only [IntKind.bits, h]
  rw [← h2 (a ||| b)]
  rfl
end
end Go.Proofs.YtmnaggdhkggjhaaGreatDoor.E
namespace Go.Proofs.YtmnaggdhkggjhaaGreatDoor.E
open Go Go.RowKit

/-- Nothing that was there has turned, but blocks of F. -/
structure Turns (F : Nat → Prop) (w w' : World) : Prop where
  os : w'.os = w.os
  tape : w'.tape = w.tape
  output : w'.output = w.output
  size : w.heap.size ≤ w'.heap.size
  block : ∀ k, k < w.heap.size → ¬ F k → w'.heap[k]? = w.heap[k]?
/-- F, and all that is new since there were n blocks. -/
def Ext (F : Nat → Prop) (n : Nat) : Nat → Prop := fun k => F k ∨ n ≤ k
section
variable {F : Nat → Prop} {w w' w'' : World}
theorem Turns.refl (F : Nat → Prop) (w : World) : Turns F w w := ⟨rfl, rfl, rfl, Nat.le_refl _, fun _ _ _ => rfl⟩
theorem Turns.trans (h : Turns F w w') (k : Turns (Ext F w.heap.size) w' w'') : Turns F w w'' :=
  ⟨k.os.trans h.os, k.tape.trans h.tape, k.output.trans h.output, Nat.le_trans h.size k.size, fun i hi hF => (k.block i (Nat.lt_of_lt_of_le hi h.size) (fun e => e.elim hF (fun e => absurd e (Nat.not_le.2 hi)))).trans (h.block i hi hF)⟩
theorem Turns.mono {G : Nat → Prop} (h : Turns F w w') (hG : ∀ k, k < w.heap.size → F k → G k) : Turns G w w' := ⟨h.os, h.tape, h.output, h.size, fun k hk hF => h.block k hk (fun e => hF (hG k hk e))⟩
theorem Turns.of_below (h : Below w.heap.size w w') : Turns F w w' := ⟨h.os, h.tape, h.output, h.size, fun k hk _ => h.block k hk⟩
theorem Turns.below {B : Nat} (h : Turns F w w') (hB : B ≤ w.heap.size) (hF : ∀ k, k < B → ¬ F k) : Below B w w' := ⟨h.os, h.tape, h.output, h.size, fun k hk => h.block k (Nat.lt_of_lt_of_le hk hB) (hF k hk)⟩
theorem Turns.then_below (h : Turns F w w') (k : Below w'.heap.size w' w'') : Turns F w w'' := h.trans (Turns.of_below k)
theorem Turns.drew (h : Turns F w w') : Turns F w w'.drew := ⟨h.os, h.tape, h.output, h.size, h.block⟩
theorem Turns.alloc (h : Turns F w w') (o : Obj) : Turns F w (w'.alloc o) := h.then_below ((Below.refl _ _).alloc (Nat.le_refl _) o)
theorem Turns.setCell (h : Turns F w w') {p : Addr} (hp : Ext F w.heap.size p.block) (u : Value) : Turns F w (w'.setCell p u) :=
  h.trans ⟨rfl, rfl, rfl, by simp [World.setCell], fun k _ hk => Below.heap_setCell _ _ _ _ (fun e => hk (by rw [e]; exact hp))⟩
theorem Turns.setRow (h : Turns F w w') {g : Nat} (hp : Ext F w.heap.size g) (ds : Array Value) : Turns F w (w'.setRow g ds) :=
  h.trans ⟨rfl, rfl, rfl, by simp [World.setRow], fun k _ hk => setRow_other _ _ _ _ (fun e => hk (by rw [e]; exact hp))⟩
theorem Turns.grown (h : Turns F w w') {row : Option Nat} (hg : w'.grownBy w'' row) (hr : ∀ k, row = some k → Ext F w.heap.size k) : Turns F w w'' :=
  h.trans ⟨hg.os, hg.tape, hg.output, hg.size, fun k hk hF => hg.block k hk (fun e => hF (hr k e.symm))⟩
theorem Blk.turns {g : Nat} {t : TypeId} {cs : Array Value} (h : Blk w g t cs) (hT : Turns F w w') (hF : ¬ F g) : Blk w' g t cs := (hT.block g h.lt hF).trans h
theorem Own.turns {e : TypeId} {v : Value} {xs : List Value} (h : Own e w v xs) (hT : Turns F w w') (hF : ∀ k, v.ownBlock = some k → ¬ F k) : Own e w' v xs := by
  refine ⟨h.1, ?_⟩
  rcases h.2 with h | ⟨g, cap, cur, rfl, h1, h2, h3⟩
  · exact .inl h
  · refine .inr ⟨g, cap, cur, rfl, h1, ?_, h3⟩
    rw [hT.block g (Array.getElem?_eq_some_iff.1 h2).1 (hF g rfl)]
    exact h2
theorem Own.ownLt {e : TypeId} {v : Value} {xs : List Value} (h : Own e w v xs) {k : Nat} (hk : v.ownBlock = some k) : k < w.heap.size := by
  rcases h.2 with h | ⟨g, cap, cur, rfl, h1, h2, h3⟩
  · rw [h.1] at hk; cases hk
  · have : g = k := by simpa [Value.ownBlock] using hk
    subst this
    exact (Array.getElem?_eq_some_iff.1 h2).1
end
/-- What an append leaves, by footprints. -/
theorem apT {P : Program} {K : Value → World → Prop} {w : World} {t ty e : TypeId} {cs : Array Bool} {z : Value} {bytes : Nat} (ht : P.underlying t = some (.slice e)) (hinfo : (P.info? e).map (fun i => (i.zero, i.size, i.bytes)) = some (some z, 1, bytes)) (hz : z.cells.size = 1) (hb0 : 0 < bytes)
    {v x : Value} {xs ys : List Value} (hown : Own e w v xs) (hx : Rd w x ys) (h1 : ∀ u ∈ ys, u.oneCell' = true) (hl : (xs.length + ys.length) * bytes ≤ 140737488355328)
    (k : ∀ v' w', Own e w' v' (xs ++ ys) → (v'.ownBlock = v.ownBlock ∨ v'.ownBlock = some w.heap.size) → Turns (fun j => v.ownBlock = some j) w w' → K v' w') : NextP P (builtin .append #[t, t] ty cs #[v, x]) K w :=
  ap ht hinfo hz hb0 hown hx h1 hl fun v' w' ho hg hbl => k v' w' ho hbl ⟨hg.os, hg.tape, hg.output, hg.size, fun j hj hF => hg.block j hj (fun e => hF e.symm)⟩
end Go.Proofs.YtmnaggdhkggjhaaGreatDoor.E
namespace Go.Proofs.YtmnaggdhkggjhaaGreatDoor.E
open Go Go.RowKit

/-- A row of the call's own, or such a row cut to its length (its capacity told as its length). -/
def OwnC (e : TypeId) (w : World) (v : Value) (xs : List Value) : Prop :=
  Own e w v xs ∨ ∃ g cur, v = .slice (some ⟨g, 0, none⟩) xs.length xs.length ∧ Blk w g e cur ∧ xs.length ≤ 9223372036854775807 ∧ xs.length ≤ cur.size ∧ cur.toList.take xs.length = xs
section
variable {e : TypeId} {w w' : World} {v : Value} {xs : List Value}
theorem Own.c (h : Own e w v xs) : OwnC e w v xs := .inl h
theorem OwnC.rd (h : OwnC e w v xs) : Rd w v xs := by
  rcases h with h | ⟨g, cur, rfl, hb, h1, h2, h3⟩
  · exact h.rd
  · refine ⟨some ⟨g, 0, none⟩, xs.length, rfl, Nat.le_refl _, h1, fun i u hu => ⟨_, rfl, ?_⟩⟩
    have hi := (List.getElem?_eq_some_iff.1 hu).1
    rw [add0, Nat.zero_add]
    have := hb.cell i
    rw [this]
    rw [← h3, List.getElem?_take, if_pos hi] at hu
    simpa using hu
theorem OwnC.slice (h : OwnC e w v xs) : ∃ A c, v = .slice A xs.length c := by
  obtain ⟨A, c, rfl, _⟩ := h.rd; exact ⟨A, c, rfl⟩
theorem OwnC.lt (h : OwnC e w v xs) {k : Nat} (hk : v.ownBlock = some k) : k < w.heap.size := by
  rcases h with h | ⟨g, cur, rfl, hb, _⟩
  · exact h.ownLt hk
  · have : g = k := by simpa [Value.ownBlock] using hk
    subst this; exact hb.lt
theorem OwnC.turns {F : Nat → Prop} (h : OwnC e w v xs) (hT : Turns F w w') (hF : ∀ k, v.ownBlock = some k → ¬ F k) : OwnC e w' v xs := by
  rcases h with h | ⟨g, cur, rfl, hb, h1⟩
  · exact .inl (h.turns hT hF)
  · exact .inr ⟨g, cur, rfl, hb.turns hT (hF g rfl), h1⟩
theorem OwnC.below (h : OwnC e w v xs) (hb : Below w.heap.size w w') : OwnC e w' v xs := h.turns (F := fun _ => False) (Turns.of_below hb) (fun _ _ h => h)
theorem OwnC.at {A : Option Addr} {n c : Nat} (h : OwnC e w (.slice A n c) xs) (i : Nat) (hi : i < xs.length) : ∃ g, A = some ⟨g, 0, none⟩ ∧ w.cell? ⟨g, i, none⟩ = some xs[i] ∧ w.frozen? ⟨g, i, none⟩ = false := by
  obtain ⟨a, ha, hc⟩ := Rd.at h.rd i hi
  rcases h with h | ⟨g, cur, he, hb, h1⟩
  · obtain ⟨g, rfl, h2, h3⟩ := h.at i hi
    rw [add0, Nat.zero_add] at h2 h3
    exact ⟨g, rfl, h2, h3⟩
  · cases he
    cases ha
    rw [add0, Nat.zero_add] at hc
    exact ⟨g, rfl, hc, hb.frozen i⟩
theorem OwnC.set {g n c : Nat} (h : OwnC e w (.slice (some ⟨g, 0, none⟩) n c) xs) (i : Nat) (hi : i < xs.length) (u : Value) : OwnC e (w.setCell ⟨g, i, none⟩ u) (.slice (some ⟨g, 0, none⟩) n c) (xs.set i u) := by
  rcases h with h | ⟨g', cur, he, hb, h1, h2, h3⟩
  · have := h.set i hi u
    rw [add0, Nat.zero_add] at this
    exact .inl this
  · cases he
    refine .inr ⟨g, cur.setIfInBounds i u, by simp, hb.set_ i u, by simpa using h1, by simpa using h2, ?_⟩
    rw [Array.toList_setIfInBounds, List.length_set, List.take_set, h3]
/-- Cut to its first k cells, capacity and all. -/
theorem OwnC.cut {A : Option Addr} {n c : Nat} (h : OwnC e w (.slice A n c) xs) (k : Nat) (hk : k ≤ xs.length) : OwnC e w (sliced A 0 k k 1) (xs.take k) ∧ (∀ b, (sliced A 0 k k 1).ownBlock = some b → (Value.slice A n c).ownBlock = some b) := by
  have hlen : (xs.take k).length = k := by rw [List.length_take]; omega
  rcases h with h | ⟨g, cur, he, hb, h1, h2, h3⟩
  · rcases h.2 with ⟨he, h0⟩ | ⟨g, cap, cur, he, _, hh, hn, hm, hs, ht⟩
    · cases he
      have : k = 0 := by omega
      subst this
      exact ⟨.inl (by simpa [sliced] using Own.nil e w), fun b hb => by simp [sliced, Value.ownBlock] at hb⟩
    · cases he
      have e1 : sliced (some ⟨g, 0, none⟩) 0 k k 1 = .slice (some ⟨g, 0, none⟩) k k := by simp [sliced, add0]
      rw [e1]
      simp only [maxLen] at hm
      refine ⟨.inr ⟨g, cur, by rw [hlen], hh, by omega, by omega, ?_⟩, fun b hb => hb⟩
      rw [hlen]
      rw [Nat.mul_one] at ht
      rw [← ht, List.take_take, show min k xs.length = k from by omega]
  · cases he
    have e1 : sliced (some ⟨g, 0, none⟩) 0 k k 1 = .slice (some ⟨g, 0, none⟩) k k := by simp [sliced, add0]
    rw [e1]
    refine ⟨.inr ⟨g, cur, by rw [hlen], hb, by omega, by omega, ?_⟩, fun b hb => hb⟩
    rw [hlen, ← h3, List.take_take, show min k xs.length = k from by omega]
end
theorem Rd.turns {F : Nat → Prop} {w w' : World} {v : Value} {cs : List Value} (h : Rd w v cs) (hT : Turns F w w') (hF : cs = [] ∨ ∀ b, v.ownBlock = some b → ¬ F b) : Rd w' v cs := by
  obtain ⟨A, c, rfl, h1, h2, h3⟩ := h
  refine ⟨A, c, rfl, h1, h2, fun i u hu => ?_⟩
  obtain ⟨a, rfl, hc⟩ := h3 i u hu
  have e : (a.add i).block = a.block := by unfold Addr.add; split <;> rfl
  have hlt := World.block_lt_of_cell? w _ hc
  refine ⟨a, rfl, (World.cell?_of_block (w := w) (a := a.add i) ?_).trans hc⟩
  refine hT.block _ hlt ?_
  rw [e]
  rcases hF with rfl | hF
  · simp at hu
  · exact hF _ rfl
theorem RdB.turns {F : Nat → Prop} {w w' : World} {v : Value} {bs : List UInt8} (h : RdB w v bs) (hT : Turns F w w') (hF : bs = [] ∨ ∀ b, v.ownBlock = some b → ¬ F b) : RdB w' v bs :=
  Rd.turns h hT (hF.imp_left fun h => by rw [h]; rfl)
theorem Rd.lt {w : World} {v : Value} {cs : List Value} (h : Rd w v cs) (h0 : cs ≠ []) {b : Nat} (hb : v.ownBlock = some b) : b < w.heap.size := by
  obtain ⟨A, c, rfl, h1, h2, h3⟩ := h
  cases cs with
  | nil => exact absurd rfl h0
  | cons y r =>
    obtain ⟨a, rfl, hc⟩ := h3 0 y rfl
    have e : (a.add 0).block = a.block := by unfold Addr.add; split <;> rfl
    have hlt := World.block_lt_of_cell? w _ hc
    rw [e] at hlt
    cases hb
    exact hlt
theorem RdB.lt {w : World} {v : Value} {bs : List UInt8} (h : RdB w v bs) (h0 : bs ≠ []) {b : Nat} (hb : v.ownBlock = some b) : b < w.heap.size :=
  Rd.lt h (fun e => h0 (by simpa using e)) hb

theorem mnI {P : Program} {K : Value → World → Prop} {w : World} {t ty : TypeId} {cs : Array Bool} {a b : Int} (k : K (.int .i64 (min a b)) w) : NextP P (builtin .min #[t, t] ty cs #[.int .i64 a, .int .i64 b]) K w :=
  nextV (v := .int .i64 (min a b)) (w' := w) (by
    have := Lib.run_min_ints (P := P) w #[t, t] ty .i64 .i64 a b
    simp only [builtin] at this ⊢
    simp [this]) k
/-- A row's block has this colour. -/
def InC (c : Nat → Nat) (x : Nat) (v : Value) : Prop := ∀ b, v.ownBlock = some b → c b = x
/-- The colours, what is new since n blocks being of colour x. -/
def col (c : Nat → Nat) (n x : Nat) : Nat → Nat := fun k => if k < n then c k else x
theorem InC.nil (c : Nat → Nat) (x : Nat) (n k : Nat) : InC c x (.slice none n k) := fun b hb => by cases hb
theorem InC.ne {c : Nat → Nat} {x y g : Nat} {v : Value} (h : InC c x v) (hg : c g = y) (hxy : x ≠ y) : v.ownBlock ≠ some g := fun he => hxy ((h g he).symm.trans hg)
theorem InC.fresh {c : Nat → Nat} {n x : Nat} {v : Value} (h : Fresh n v) : InC (col c n x) x v := fun b hb => by
  have := h b hb
  simp only [col]; rw [if_neg (by omega)]
theorem col_lt (c : Nat → Nat) (n x : Nat) : ∀ k, k < n → col c n x k = c k := fun k hk => by simp only [col]; rw [if_pos hk]
theorem col_ge (c : Nat → Nat) (n x : Nat) {k : Nat} (hk : n ≤ k) : col c n x k = x := by simp only [col]; rw [if_neg (by omega)]
theorem InC.re {c c' : Nat → Nat} {x n : Nat} {v : Value} (h : InC c x v) (hlt : ∀ b, v.ownBlock = some b → b < n) (hc : ∀ k, k < n → c' k = c k) : InC c' x v := fun b hb => (hc b (hlt b hb)).trans (h b hb)
end Go.Proofs.YtmnaggdhkggjhaaGreatDoor.E
namespace Go.Proofs.YtmnaggdhkggjhaaGreatDoor.E
open Go Go.RowKit

theorem wf64 {n : Int} (h : -9223372036854775808 ≤ n ∧ n ≤ 9223372036854775807) : (Lit.int .i64 n).wf = true := by
  simp [Lit.wf, IntKind.min, IntKind.max, IntKind.signed, IntKind.bits]
  omega
def getK {α : Type} (k : Int) : List (Int × α) → Option α
  | [] => none
  | (a, v) :: r => if k = a then some v else getK k r
def setK {α : Type} (k : Int) (v : α) : List (Int × α) → List (Int × α)
  | [] => [(k, v)]
  | (a, u) :: r => if k = a then (k, v) :: r else (a, u) :: setK k v r
def delK {α : Type} (k : Int) : List (Int × α) → List (Int × α)
  | [] => []
  | (a, u) :: r => if k = a then r else (a, u) :: delK k r
def idxK {α : Type} (k : Int) : List (Int × α) → Option (Nat × α)
  | [] => none
  | (a, v) :: r => if k = a then some (0, v) else (idxK k r).map fun p => (p.1 + 1, p.2)
theorem getK_idx {α : Type} (k : Int) : ∀ l : List (Int × α), getK k l = (idxK k l).map (·.2)
  | [] => rfl
  | (a, v) :: r => by
    rw [getK, idxK]
    split
    · rfl
    · rw [getK_idx k r, Option.map_map]; rfl
/-- A map in memory: its entries, in the order of their birth. -/
def MapI (w : World) (b : Nat) (l : List (Int × Value)) : Prop := ∃ es clock, w.heap[b]? = some (.map es clock) ∧ es.toList.map (fun e => (e.key, e.val)) = (l.map fun p => (Value.int .i64 p.1, p.2)) ∧
  MapKept.Stamped es clock ∧ es.size ≤ maxLen ∧ ∀ p ∈ l, (Lit.int .i64 p.1).wf = true
section
variable {w w' : World} {b : Nat} {l : List (Int × Value)}
theorem MapI.lt (h : MapI w b l) : b < w.heap.size := by
  obtain ⟨es, c, h1, _⟩ := h
  exact (Array.getElem?_eq_some_iff.1 h1).1
theorem MapI.turns {F : Nat → Prop} (h : MapI w b l) (hT : Turns F w w') (hF : ¬ F b) : MapI w' b l := by
  have hlt := h.lt
  obtain ⟨es, c, h1, h2, h3⟩ := h
  exact ⟨es, c, (hT.block b hlt hF).trans h1, h2, h3⟩
theorem MapI.below (h : MapI w b l) (hb : Below w.heap.size w w') : MapI w' b l := h.turns (F := fun _ => False) (Turns.of_below hb) (fun h => h)
theorem findNow_int (k : Int) : ∀ (es : List MapEntry) (l : List (Int × Value)) (i : Nat), es.map (fun e => (e.key, e.val)) = l.map (fun p => (Value.int .i64 p.1, p.2)) →
    Instr.findNow (.int .i64) (.int .i64 k) es i = some ((idxK k l).map fun p => (i + p.1, p.2)) := by
  intro es
  induction es with
  | nil => intro l i h; cases l with
    | nil => rfl
    | cons p r => simp at h
  | cons e es ih =>
    intro l i h
    cases l with
    | nil => simp at h
    | cons p r =>
      obtain ⟨a, v⟩ := p
      simp only [List.map_cons, List.cons.injEq, Prod.mk.injEq] at h
      obtain ⟨⟨h1, h2⟩, h3⟩ := h
      rw [Instr.findNow, h1, idxK]
      by_cases hk : k = a
      · subst hk
        simp [Instr.sameNow, h2]
      · have : (k == a) = false := by simpa using hk
        simp only [Instr.sameNow, if_true, this, if_neg hk]
        rw [ih r (i + 1) h3, Option.map_map]
        congr 2
        funext p
        simp only [Function.comp]
        congr 1
        omega
end
section
variable {P : Program} {K : Value → World → Prop} {w : World} {b : Nat} {l : List (Int × Value)}
theorem run_find (hk : P.underlying 3 = some (.int .i64)) {es : Array MapEntry} {k : Int} (h : es.toList.map (fun e => (e.key, e.val)) = l.map fun p => (Value.int .i64 p.1, p.2)) :
    (Instr.findKey 3 (.int .i64 k) es.toList).run P w = .ok (idxK k l) w := by
  rw [MapKept.run_findKey hk (findNow_int k _ _ 0 h)]
  congr 1
  cases idxK k l with
  | none => rfl
  | some p => simp
theorem run_chk (hk : P.underlying 3 = some (.int .i64)) (e : Bool) (k : Int) : (Instr.checkKey e 10000 3 (.int .i64 k)).run P w = .ok () w := MapKept.run_checkKey (d := .int .i64) hk (show MapKept.IsKey (.int .i64) (.int .i64 k) from rfl) e 9999
/-- v, ok := m[k] -/
theorem lkp {t e : TypeId} {z : Value} (ht : P.underlying t = some (.map 3 e)) (hk : P.underlying 3 = some (.int .i64)) (hz : (P.info? e).bind (·.zero) = some z) (h : MapI w b l) {k : Int}
    (kk : K (.tuple #[(getK k l).getD z, .bool (getK k l).isSome]) w) : LiftP P (Instr.lookup t (.map (some b)) (.int .i64 k) true) K w := by
  obtain ⟨es, c, h1, h2, _⟩ := h
  obtain ⟨i, hi, hzz⟩ := Option.bind_eq_some_iff.1 hz
  refine lift ?_ kk
  rw [getK_idx]
  cases hx : idxK k l with
  | none => simp [Instr.lookup, run_underlying ht, MapKept.run_getObj_map h1, run_chk hk, run_find hk h2, hx, zeroValue, typeInfo, hi, hzz]
  | some p => simp [Instr.lookup, run_underlying ht, MapKept.run_getObj_map h1, run_chk hk, run_find hk h2, hx]
theorem lnm {t ty : TypeId} {e kt : TypeId} (ht : P.underlying t = some (.map kt e)) {cs : Array Bool} (h : MapI w b l) (kk : K (.int .i64 l.length) w) : NextP P (builtin .len #[t] ty cs #[.map (some b)]) K w := by
  obtain ⟨es, c, h1, h2, _⟩ := h
  have hl : es.size = l.length := by have := congrArg List.length h2; simpa using this
  refine nextV (v := .int .i64 l.length) (w' := w) ?_ kk
  simp [builtin, Builtin.len_, run_underlying ht, MapKept.run_getObj_map h1, goInt, hl]
end
theorem set_world_eq {w : World} {b : Nat} {es : Array MapEntry} {c : Nat} (o : Obj) (h : w.heap[b]? = some (.map es c)) : Turns (fun k => k = b) w { w with heap := w.heap.setIfInBounds b o } ∧ ({ w with heap := w.heap.setIfInBounds b o } : World).heap[b]? = some o := by
  refine ⟨⟨rfl, rfl, rfl, by simp, fun k _ hk => (MapKept.heap_set (o' := o) h).2 k hk⟩, (MapKept.heap_set (o' := o) h).1⟩
theorem entries_set (k : Int) (v : Value) : ∀ (es : List MapEntry) (l : List (Int × Value)) (i : Nat) (u : Value), es.map (fun e => (e.key, e.val)) = l.map (fun p => (Value.int .i64 p.1, p.2)) → idxK k l = some (i, u) →
    (es.modify i fun e => { e with key := .int .i64 k, val := v }).map (fun e => (e.key, e.val)) = (setK k v l).map fun p => (Value.int .i64 p.1, p.2) := by
  intro es
  induction es with
  | nil => intro l i u h hx; cases l with
    | nil => simp [idxK] at hx
    | cons p r => simp at h
  | cons e es ih =>
    intro l i u h hx
    cases l with
    | nil => simp at h
    | cons p r =>
      obtain ⟨a, y⟩ := p
      simp only [List.map_cons, List.cons.injEq] at h
      obtain ⟨h1, h3⟩ := h
      rw [idxK] at hx
      rw [setK]
      split at hx
      · rename_i hk
        rw [if_pos hk]
        cases hx
        simp [h3]
      · rename_i hk
        rw [if_neg hk]
        cases hr : idxK k r with
        | none => rw [hr] at hx; simp at hx
        | some q =>
          rw [hr] at hx
          obtain ⟨j, y'⟩ := q
          simp at hx
          obtain ⟨rfl, rfl⟩ := hx
          simp only [List.modify_succ_cons, List.map_cons, h1]
          rw [ih r j y' h3 hr]
theorem setK_none {α : Type} (k : Int) (v : α) : ∀ l : List (Int × α), idxK k l = none → setK k v l = l ++ [(k, v)]
  | [], _ => rfl
  | (a, u) :: r, h => by
    rw [idxK] at h
    rw [setK]
    split at h
    · cases h
    · rename_i hk
      rw [if_neg hk, setK_none k v r (by simpa using h)]; rfl
theorem entries_del (k : Int) : ∀ (es : List MapEntry) (l : List (Int × Value)) (i : Nat) (u : Value), es.map (fun e => (e.key, e.val)) = l.map (fun p => (Value.int .i64 p.1, p.2)) → idxK k l = some (i, u) →
    (es.eraseIdx i).map (fun e => (e.key, e.val)) = (delK k l).map fun p => (Value.int .i64 p.1, p.2) := by
  intro es
  induction es with
  | nil => intro l i u h hx; cases l with
    | nil => simp [idxK] at hx
    | cons p r => simp at h
  | cons e es ih =>
    intro l i u h hx
    cases l with
    | nil => simp at h
    | cons p r =>
      obtain ⟨a, y⟩ := p
      simp only [List.map_cons, List.cons.injEq] at h
      obtain ⟨h1, h3⟩ := h
      rw [idxK] at hx
      rw [delK]
      split at hx
      · rename_i hk
        rw [if_pos hk]
        cases hx
        simpa using h3
      · rename_i hk
        rw [if_neg hk]
        cases hr : idxK k r with
        | none => rw [hr] at hx; simp at hx
        | some q =>
          rw [hr] at hx
          obtain ⟨j, y'⟩ := q
          simp at hx
          obtain ⟨rfl, rfl⟩ := hx
          simp only [List.eraseIdx_cons_succ, List.map_cons, h1]
          rw [ih r j y' h3 hr]
theorem delK_none {α : Type} (k : Int) : ∀ l : List (Int × α), idxK k l = none → delK k l = l
  | [], _ => rfl
  | (a, u) :: r, h => by
    rw [idxK] at h
    rw [delK]
    split at h
    · cases h
    · rename_i hk
      rw [if_neg hk, delK_none k r (by simpa using h)]
theorem idxK_none_mem {α : Type} (k : Int) : ∀ l : List (Int × α), idxK k l = none → ∀ p ∈ l, p.1 ≠ k
  | [], _, p, hp => by simp at hp
  | (a, u) :: r, h, p, hp => by
    rw [idxK] at h
    split at h
    · cases h
    · rename_i hk
      rcases List.mem_cons.1 hp with rfl | hp
      · exact fun e => hk e.symm
      · exact idxK_none_mem k r (by simpa using h) p hp
theorem setK_sub {α : Type} (k : Int) (v : α) : ∀ (l : List (Int × α)) (p : Int × α), p ∈ setK k v l → p ∈ l ∨ p.1 = k
  | [], p, h => by
    simp only [setK, List.mem_cons, List.not_mem_nil, or_false] at h
    rw [h]; exact .inr rfl
  | (a, u) :: r, p, h => by
    rw [setK] at h
    split at h
    · rcases List.mem_cons.1 h with h | h
      · rw [h]; exact .inr rfl
      · exact .inl (List.mem_cons_of_mem _ h)
    · rcases List.mem_cons.1 h with h | h
      · rw [h]; exact .inl (by simp)
      · exact (setK_sub k v r p h).imp (List.mem_cons_of_mem _) id
theorem delK_sub {α : Type} (k : Int) : ∀ (l : List (Int × α)) (x : Int × α), x ∈ delK k l → x ∈ l
  | [], x, h => by simp [delK] at h
  | (a, u) :: r, x, h => by
    rw [delK] at h
    split at h
    · exact List.mem_cons_of_mem _ h
    · rcases List.mem_cons.1 h with h | h
      · rw [h]; simp
      · exact List.mem_cons_of_mem _ (delK_sub k r x h)
section
variable {P : Program} {K : Value → World → Prop} {w : World} {b : Nat} {l : List (Int × Value)}
/-- m[k] = v -/
theorem mup {t e : TypeId} (ht : P.underlying t = some (.map 3 e)) (hk : P.underlying 3 = some (.int .i64)) (h : MapI w b l) {k : Int} {v : Value} (hwf : (Lit.int .i64 k).wf = true) (hroom : l.length < maxLen)
    (kk : ∀ w', MapI w' b (setK k v l) → Turns (fun j => j = b) w w' → K undef w') : LiftU P (Instr.mapUpdate t (.map (some b)) (.int .i64 k) v) K w := by
  obtain ⟨es, c, h1, h2, hst, hsz, hkw⟩ := h
  have hel : es.size = l.length := by have := congrArg List.length h2; simpa using this
  have hkey : MapKept.IsKey (.int .i64) (.int .i64 k) := rfl
  cases hx : idxK k l with
  | none =>
    have hs := set_world_eq (w := w) (.map (es.push { key := .int .i64 k, val := v, born := c }) (c + 1)) h1
    refine liftU (u := ()) (w' := { w with heap := w.heap.setIfInBounds b (.map (es.push { key := .int .i64 k, val := v, born := c }) (c + 1)) }) ?_ (kk _ ⟨_, _, hs.2, ?_, MapKept.stamped_push hst ?_, by simp; omega, fun p hp => ?_⟩ hs.1)
    · simp [Instr.mapUpdate, run_underlying ht, MapKept.run_getObj_map h1, run_chk hk, run_find hk h2, hx, MapKept.run_setObj_map _ h1]
    · rw [setK_none _ _ _ hx]
      simp [h2]
    · intro x hx' he
      have hm : (x.key, x.val) ∈ es.toList.map (fun e => (e.key, e.val)) := List.mem_map.2 ⟨x, hx', rfl⟩
      rw [h2] at hm
      obtain ⟨p, hp, hpe⟩ := List.mem_map.1 hm
      have : p.1 = k := by
        have := congrArg Prod.fst hpe
        simp only [he] at this
        simpa using this
      exact idxK_none_mem k l hx p hp this
    · rcases setK_sub k v l p hp with h | h
      · exact hkw p h
      · rw [h]; exact hwf
  | some p =>
    obtain ⟨i, u⟩ := p
    have hget : ∀ e, es[i]? = some e → e.key = .int .i64 k := by
      intro e he
      have : ∀ (es : List MapEntry) (l : List (Int × Value)) (i : Nat) (u : Value) (e : MapEntry), es.map (fun e => (e.key, e.val)) = l.map (fun p => (Value.int .i64 p.1, p.2)) → idxK k l = some (i, u) → es[i]? = some e → e.key = .int .i64 k := by
        intro es
        induction es with
        | nil => intro l i u e h hx he; simp at he
        | cons e0 es ih =>
          intro l i u e h hx he
          cases l with
          | nil => simp at h
          | cons p r =>
            obtain ⟨a, y⟩ := p
            simp only [List.map_cons, List.cons.injEq, Prod.mk.injEq] at h
            obtain ⟨⟨h1, _⟩, h3⟩ := h
            rw [idxK] at hx
            split at hx
            · rename_i hk
              cases hx
              simp at he
              rw [← he, h1, hk]
            · cases hr : idxK k r with
              | none => rw [hr] at hx; simp at hx
              | some q =>
                rw [hr] at hx
                obtain ⟨j, y'⟩ := q
                simp at hx
                obtain ⟨rfl, rfl⟩ := hx
                exact ih r j y' e h3 hr (by simpa using he)
      exact this es.toList l i u e h2 hx (by simpa using he)
    have hkk : ((es[i]?).map (·.key)).getD (.int .i64 k) = .int .i64 k := by
      cases he : es[i]? with
      | none => rfl
      | some e => simp [hget e he]
    have hs := set_world_eq (w := w) (.map (es.modify i fun e => { e with key := .int .i64 k, val := v }) c) h1
    refine liftU (u := ()) (w' := { w with heap := w.heap.setIfInBounds b (.map (es.modify i fun e => { e with key := .int .i64 k, val := v }) c) }) ?_ (kk _ ⟨_, _, hs.2, ?_, MapKept.stamped_modify hst i _ (fun _ _ => rfl) (fun e _ he => (hget e he).symm), by simpa using hsz, fun p hp => ?_⟩ hs.1)
    · simp [Instr.mapUpdate, run_underlying ht, MapKept.run_getObj_map h1, run_chk hk, run_find hk h2, hx, MapKept.run_setObj_map _ h1, hkk, MapKept.run_keyThatStays hkey]
    · rw [Array.toList_modify]
      exact entries_set k v _ _ i u h2 hx
    · rcases setK_sub k v l p hp with h | h
      · exact hkw p h
      · rw [h]; exact hwf
/-- delete(m, k) -/
theorem dlt {t ty e : TypeId} (ht : P.underlying t = some (.map 3 e)) (hk : P.underlying 3 = some (.int .i64)) {t2 : TypeId} {cs : Array Bool} (h : MapI w b l) {k : Int}
    (kk : ∀ w', MapI w' b (delK k l) → Turns (fun j => j = b) w w' → K (.tuple #[]) w') : NextP P (builtin .delete #[t, t2] ty cs #[.map (some b), .int .i64 k]) K w := by
  obtain ⟨es, c, h1, h2, hst, hsz, hkw⟩ := h
  have hel : es.size = l.length := by have := congrArg List.length h2; simpa using this
  cases hx : idxK k l with
  | none =>
    have hs := set_world_eq (w := w) (.map es c) h1
    refine nextV (v := .tuple #[]) (w' := { w with heap := w.heap.setIfInBounds b (.map es c) }) ?_ (kk _ ⟨_, _, hs.2, by rw [delK_none _ _ hx]; exact h2, hst, hsz, by rw [delK_none _ _ hx]; exact hkw⟩ hs.1)
    simp [builtin, Builtin.delete_, run_underlying ht, MapKept.run_getObj_map h1, run_chk hk, run_find hk h2, hx, MapKept.run_setObj_map _ h1]
  | some p =>
    obtain ⟨i, u⟩ := p
    have hs := set_world_eq (w := w) (.map (es.eraseIdxIfInBounds i) c) h1
    refine nextV (v := .tuple #[]) (w' := { w with heap := w.heap.setIfInBounds b (.map (es.eraseIdxIfInBounds i) c) }) ?_ (kk _ ⟨_, _, hs.2, ?_, MapKept.stamped_erase hst i, Nat.le_trans (MapFrom.size_erase es i) hsz, fun p hp => hkw p (delK_sub k l p hp)⟩ hs.1)
    · simp [builtin, Builtin.delete_, run_underlying ht, MapKept.run_getObj_map h1, run_chk hk, run_find hk h2, hx, MapKept.run_setObj_map _ h1]
    · have : (es.eraseIdxIfInBounds i).toList = es.toList.eraseIdx i := by
        unfold Array.eraseIdxIfInBounds
        split
        · simp
        · rename_i hn
          rw [List.eraseIdx_of_length_le (by simpa using hn)]
      rw [this]
      exact entries_del k _ _ i u h2 hx
theorem mkm {t : TypeId} (kk : ∀ w', MapI w' w.heap.size [] → Below w.heap.size w w' → K (.map (some w.heap.size)) w') : LiftP P (Instr.makeMap t none) K w := by
  have ha : Below w.heap.size w (w.alloc (.map #[] 0)) := (Below.refl _ _).alloc (Nat.le_refl _) _
  exact lift (v := .map (some w.heap.size)) (w' := w.alloc (.map #[] 0)) (by simp [Instr.makeMap]) (kk _ ⟨#[], 0, heap_alloc_new w _, rfl, MapKept.stamped_empty 0, Nat.zero_le _, fun p hp => by simp at hp⟩ ha)
/-- A function as a value is called. -/
theorem cvl {f : FuncId} {caps args : Array Value} (hc : callable P f = true) (h : CallP P f (args ++ caps) K w) : NextP P (callV (.func (.func f) #[] caps) args) K w := by
  refine ⟨?_⟩
  have h1 : (callV (.func (.func f) #[] caps) args).run P w = (callFunc f (args ++ caps)).run P w := by
    show (callFunc f (#[] ++ args ++ caps)).run P w = _
    simp
  have hr : (callFunc f (args ++ caps)).run P w = .ok (.enter f (args ++ caps)) w := by
    unfold callable at hc
    split at hc
    · rename_i fn hfn
      simp only [Bool.and_eq_true, Bool.not_eq_true'] at hc
      have hb : fn.body.isNone = false := by
        cases hh : fn.body with
        | none => rw [hh] at hc; simp at hc
        | some c => rfl
      unfold callFunc
      simp only [Sem.run_bind, run_program, Result.andThen_ok, hfn]
      rw [if_neg (by rw [hc.2]; exact Bool.false_ne_true), if_neg (by rw [hb]; exact Bool.false_ne_true)]
      rfl
    · cases hc
  rw [h1, hr]
  exact h
/-- A function as a value is made. -/
theorem mkf {fn : Fn} {caps : Array Value} (k : K (.func fn #[] caps) w) : LiftP P (Instr.makeFunc fn #[] caps) K w := lift (v := .func fn #[] caps) (w' := w) rfl k
end
end Go.Proofs.YtmnaggdhkggjhaaGreatDoor.E
namespace Go.Proofs.YtmnaggdhkggjhaaGreatDoor.E
open Go Go.RowKit

abbrev Rdr (α : Type) := World → List Value → α → Prop
def rI (k : IntKind) : Rdr Int := fun _ cs n => cs = [.int k n] ∧ (Lit.int k n).wf = true
def rBool : Rdr Bool := fun _ cs b => cs = [.bool b]
def rS : Rdr ByteArray := fun _ cs s => cs = [.string s] ∧ s.size ≤ maxLen
def rNil : Rdr Unit := fun _ cs _ => cs = []
def rCons {α β : Type} (k : Nat) (r : Rdr α) (q : Rdr β) : Rdr (α × β) := fun w cs p => r w (cs.take k) p.1 ∧ q w (cs.drop k) p.2
def rRow {α : Type} (s : Nat) (r : Rdr α) : Rdr (List α) := fun w cs l => ∃ A c, cs = [.slice A l.length c] ∧ l.length ≤ c ∧ c ≤ maxLen ∧
  ∀ i x, l[i]? = some x → ∃ a us, A = some a ∧ us.length = s ∧ (∀ j u, us[j]? = some u → w.cell? (a.add (i * s + j)) = some u) ∧ r w us x

/-- What is read stays so while nothing of before is turned. -/
def Keeps {α : Type} (r : Rdr α) : Prop := ∀ w w' cs a, Below w.heap.size w w' → r w cs a → r w' cs a
theorem keeps_I (k : IntKind) : Keeps (rI k) := fun _ _ _ _ _ h => h
theorem keeps_Bool : Keeps rBool := fun _ _ _ _ _ h => h
theorem keeps_S : Keeps rS := fun _ _ _ _ _ h => h
theorem keeps_Nil : Keeps rNil := fun _ _ _ _ _ h => h
theorem keeps_Cons {α β : Type} {k : Nat} {r : Rdr α} {q : Rdr β} (h1 : Keeps r) (h2 : Keeps q) : Keeps (rCons k r q) := fun w w' cs a hb h => ⟨h1 w w' _ _ hb h.1, h2 w w' _ _ hb h.2⟩
theorem keeps_Row {α : Type} {s : Nat} {r : Rdr α} (h1 : Keeps r) : Keeps (rRow s r) := by
  rintro w w' cs l hb ⟨A, c, h2, h3, h4, h5⟩
  refine ⟨A, c, h2, h3, h4, fun i x hx => ?_⟩
  obtain ⟨a, us, h6, h7, h8, h9⟩ := h5 i x hx
  exact ⟨a, us, h6, h7, fun j u hu => by rw [hb.cell (World.block_lt_of_cell? _ _ (h8 j u hu)), h8 j u hu], h1 w w' _ _ hb h9⟩

/-- What came in as a type's value is read by the reader. -/
def Opens (P : Program) (t : TypeId) {α : Type} (r : Rdr α) : Prop :=
  ∀ (H : Type) (enc : TypeId × Value → H) (w : World) (base : Nat) (sp : Nat → Bool) (held : Bool) (fuel : Nat) (cs : List Value) (x : DataW H × List MemPlace), DataW.trod enc P w base sp held fuel t cs = some x → ∃ a, r w cs a
theorem opens_int {P : Program} {t : TypeId} {k : IntKind} (ht : P.underlying t = some (.int k)) : Opens P t (rI k) := fun _ _ _ _ _ _ _ _ _ h => by
  obtain ⟨n, h1, _, h3⟩ := DataW.trod_int ht h
  exact ⟨n, h1, h3⟩
theorem opens_bool {P : Program} {t : TypeId} (ht : P.underlying t = some .bool) : Opens P t rBool := fun _ _ _ _ _ _ _ _ _ h => by
  obtain ⟨n, h1, _⟩ := DataW.trod_bool ht h
  exact ⟨n, h1⟩
theorem opens_string {P : Program} {t : TypeId} (ht : P.underlying t = some .string) : Opens P t rS := fun _ _ _ _ _ _ _ _ _ h => by
  obtain ⟨n, h1, _, h3⟩ := DataW.trod_string ht h
  exact ⟨n, h1, h3⟩
theorem choose_list {α : Type} {p : Nat → α → Prop} : ∀ (n : Nat), (∀ i, i < n → ∃ a, p i a) → ∃ l : List α, l.length = n ∧ ∀ i x, l[i]? = some x → p i x
  | 0, _ => ⟨[], rfl, fun i x h => by simp at h⟩
  | n + 1, h => by
    obtain ⟨l, h1, h2⟩ := choose_list n (fun i hi => h i (by omega))
    obtain ⟨a, ha⟩ := h n (by omega)
    refine ⟨l ++ [a], by simp [h1], fun i x hx => ?_⟩
    rcases Nat.lt_or_ge i l.length with hi | hi
    · exact h2 i x (by rwa [List.getElem?_append_left hi] at hx)
    · have : i = l.length := by
        have := (List.getElem?_eq_some_iff.1 hx).1
        simp at this; omega
      subst this
      simp at hx
      rw [h1, ← hx]; exact ha
theorem opens_row {P : Program} {t e : TypeId} {s : Nat} {α : Type} {r : Rdr α} (ht : P.underlying t = some (.slice e)) (hs : P.cellsOf e = s) (h : Opens P e r) : Opens P t (rRow s r) := by
  intro H enc w base sp held fuel cs x hx
  rcases DataW.trod_slice ht hx with ⟨rfl, _⟩ | ⟨a, len, cap, elems, rest, n, _, rfl, _, hb, hl, hc, hlen, he, _, _⟩
  · exact ⟨[], none, 0, rfl, Nat.le_refl _, Nat.zero_le _, fun i x hx => by simp at hx⟩
  · have each : ∀ i, i < len → ∃ y, ∃ us : List Value, us.length = s ∧ (∀ j u, us[j]? = some u → w.cell? (a.add (i * s + j)) = some u) ∧ r w us y := by
      intro i hi
      have h1 := he i hi
      rw [List.getElem?_eq_getElem (by omega)] at h1
      obtain ⟨us, hu, hv⟩ := Option.bind_eq_some_iff.1 h1
      obtain ⟨y, hy⟩ := h H enc w base sp held n us _ hv
      obtain ⟨_, hul, hcell⟩ := World.cells?_some hu
      refine ⟨y, us, by rw [hul, hs], fun j u hju => ?_, hy⟩
      have hj := (List.getElem?_eq_some_iff.1 hju).1
      have := hcell j (by omega)
      rw [hju, hs, Addr.add_add] at this
      exact this
    obtain ⟨l, h1, h2⟩ := choose_list len each
    refine ⟨l, some a, cap, by rw [h1], by omega, hc, fun i y hy => ?_⟩
    obtain ⟨us, h3, h4, h5⟩ := h2 i y hy
    exact ⟨a, us, rfl, h3, h4, h5⟩
/-- The fields of a struct from a place on. -/
def OpensF (P : Program) (fs : List Field) (off m : Nat) {α : Type} (r : Rdr α) : Prop :=
  ∀ (H : Type) (enc : TypeId × Value → H) (w : World) (base : Nat) (sp : Nat → Bool) (held : Bool) (fuel : Nat) (cs : List Value), cs.length = m →
    (∀ f ∈ fs, ∃ x, DataW.trod enc P w base sp held fuel f.type ((cs.drop (f.offset - off)).take (P.cellsOf f.type)) = some x) → ∃ a, r w cs a
theorem opensF_nil {P : Program} {off : Nat} : OpensF P [] off 0 rNil := fun _ _ _ _ _ _ _ cs h _ => ⟨(), List.eq_nil_of_length_eq_zero h⟩
theorem opensF_cons {P : Program} {f : Field} {fs : List Field} {off k m : Nat} {α β : Type} {r : Rdr α} {q : Rdr β} (h1 : f.offset = off) (h2 : P.cellsOf f.type = k) (hge : fs.all (fun g => off + k ≤ g.offset) = true)
    (h3 : Opens P f.type r) (h4 : OpensF P fs (off + k) m q) : OpensF P (f :: fs) off (m + k) (rCons k r q) := by
  intro H enc w base sp held fuel cs hl h
  obtain ⟨x, hx⟩ := h f (by simp)
  rw [h1, h2, Nat.sub_self, List.drop_zero] at hx
  obtain ⟨a, ha⟩ := h3 H enc w base sp held fuel _ x hx
  obtain ⟨b, hb⟩ := h4 H enc w base sp held fuel (cs.drop k) (by rw [List.length_drop, hl]; omega) (fun g hg => by
    obtain ⟨y, hy⟩ := h g (by simp [hg])
    have hg' := of_decide_eq_true (List.all_eq_true.1 hge g hg)
    refine ⟨y, ?_⟩
    rw [List.drop_drop, show k + (g.offset - (off + k)) = g.offset - off from by omega]
    exact hy)
  exact ⟨(a, b), ha, hb⟩
theorem opens_struct {P : Program} {t : TypeId} {fs : Array Field} {m : Nat} {α : Type} {r : Rdr α} (ht : P.underlying t = some (.struct fs)) (hm : P.cellsOf t = m) (h : OpensF P fs.toList 0 m r) : Opens P t r := by
  intro H enc w base sp held fuel cs x hx
  obtain ⟨xs, n, _, _, hl, hxs, hf⟩ := DataW.trod_struct ht hx
  refine h H enc w base sp held n cs (by rw [hl, hm]) (fun f hfm => ?_)
  obtain ⟨i, hi, hfi⟩ := List.getElem_of_mem hfm
  have hi' : i < fs.size := by simpa using hi
  have := hf i f (by rw [← hfi]; simp [hi'])
  rw [List.getElem?_eq_getElem (by omega)] at this
  exact ⟨_, by rw [Nat.sub_zero]; exact this⟩
/-- One cell of a struct's. -/
theorem rCons_I {β : Type} {k : IntKind} {q : Rdr β} {w : World} {cs : List Value} {p : Int × β} (h : rCons 1 (rI k) q w cs p) : ∃ r, cs = .int k p.1 :: r ∧ (Lit.int k p.1).wf = true ∧ q w r p.2 := by
  obtain ⟨⟨h1, h2⟩, h3⟩ := h
  cases cs with
  | nil => simp at h1
  | cons c r => exact ⟨r, by simp at h1; rw [h1], h2, h3⟩
theorem rCons_Bool {β : Type} {q : Rdr β} {w : World} {cs : List Value} {p : Bool × β} (h : rCons 1 rBool q w cs p) : ∃ r, cs = .bool p.1 :: r ∧ q w r p.2 := by
  obtain ⟨h1, h3⟩ := h
  cases cs with
  | nil => simp [rBool] at h1
  | cons c r => exact ⟨r, by simp [rBool] at h1; rw [h1], h3⟩
theorem rCons_S {β : Type} {q : Rdr β} {w : World} {cs : List Value} {p : ByteArray × β} (h : rCons 1 rS q w cs p) : ∃ r, cs = .string p.1 :: r ∧ p.1.size ≤ maxLen ∧ q w r p.2 := by
  obtain ⟨⟨h1, h2⟩, h3⟩ := h
  cases cs with
  | nil => simp at h1
  | cons c r => exact ⟨r, by simp at h1; rw [h1], h2, h3⟩
theorem rCons_Row {α β : Type} {s : Nat} {r : Rdr α} {q : Rdr β} {w : World} {cs : List Value} {p : List α × β} (h : rCons 1 (rRow s r) q w cs p) : ∃ v t, cs = v :: t ∧ rRow s r w [v] p.1 ∧ q w t p.2 := by
  obtain ⟨h1, h3⟩ := h
  cases cs with
  | nil => obtain ⟨_, _, h, _⟩ := h1; simp at h
  | cons c r => exact ⟨c, r, rfl, by simpa using h1, by simpa using h3⟩
/-- A struct is loaded out of a row. -/
theorem ldR {P : Program} {K : Value → World → Prop} {w : World} {t : TypeId} (ha : aggB P t = true) {a : Addr} {us : List Value} (hc : ∀ j u, us[j]? = some u → w.cell? (a.add j) = some u) (hi : (P.info? t).map (·.size) = some us.length)
    (k : K (.agg us.toArray) w) : LiftP P (Instr.loadAt t (.pointer (some a))) K w := by
  refine lift (v := .agg us.toArray) (w' := w) ?_ k
  unfold aggB at ha
  cases hu : P.underlying t with
  | none => rw [hu] at ha; cases ha
  | some d =>
    rw [hu] at ha
    have hl : (loadCells a us.length).run P w = .ok us.toArray w := run_loadCells_list (P := P) w a us hc
    cases hq : P.info? t with
    | none => simp [hq] at hi
    | some i =>
      have hs : i.size = us.length := by simpa [hq] using hi
      have hagg : (isAgg t).run P w = .ok true w := by
        unfold isAgg
        rw [Sem.run_bind, run_underlying hu w]
        cases d <;> simp_all
      simp [Instr.loadAt, Instr.sureAddr, loadVar, Sem.run_bind, hagg, sizeOf, typeInfo, hq, hs, hl]
end Go.Proofs.YtmnaggdhkggjhaaGreatDoor.E
namespace Go.Proofs.YtmnaggdhkggjhaaGreatDoor.E
open Go Go.RowKit

/-- A row of n elements of s cells, of the call's own, without room behind. -/
def OwnS (s : Nat) (e : TypeId) (w : World) (v : Value) (n : Nat) (cs : List Value) : Prop :=
  cs.length = n * s ∧ ((v = .slice none 0 0 ∧ n = 0) ∨ ∃ g cur, v = .slice (some ⟨g, 0, none⟩) n n ∧ Blk w g e cur ∧ n * s ≤ cur.size ∧ cur.toList.take (n * s) = cs ∧ n ≤ maxLen)
theorem flatMap_at {α β : Type} (f : α → List β) (s : Nat) (hf : ∀ x, (f x).length = s) : ∀ (l : List α) (i j : Nat) (x : α), l[i]? = some x → j < s → (l.flatMap f)[i * s + j]? = (f x)[j]? := by
  intro l
  induction l with
  | nil => intro i j x h; simp at h
  | cons y r ih =>
    intro i j x h hj
    rw [List.flatMap_cons]
    cases i with
    | zero =>
      simp at h
      subst h
      rw [Nat.zero_mul, Nat.zero_add, List.getElem?_append_left (by rw [hf]; exact hj)]
    | succ i =>
      simp at h
      rw [List.getElem?_append_right (by rw [hf, Nat.succ_mul]; omega), hf, Nat.succ_mul, show i * s + s + j - s = i * s + j from by omega]
      exact ih i j x h hj
theorem flatMap_len {α β : Type} (f : α → List β) (s : Nat) (hf : ∀ x, (f x).length = s) (l : List α) : (l.flatMap f).length = l.length * s := by
  induction l with
  | nil => simp
  | cons y r ih => rw [List.flatMap_cons, List.length_append, hf, ih, List.length_cons, Nat.succ_mul]; omega
section
variable {s : Nat} {e : TypeId} {w w' : World} {v : Value} {n : Nat} {cs : List Value}
theorem OwnS.nil (s : Nat) (e : TypeId) (w : World) : OwnS s e w (.slice none 0 0) 0 [] := ⟨by simp, .inl ⟨rfl, rfl⟩⟩
theorem OwnS.slice (h : OwnS s e w v n cs) : ∃ A, v = .slice A n n := by
  rcases h.2 with ⟨rfl, rfl⟩ | ⟨g, _, rfl, _⟩
  · exact ⟨_, rfl⟩
  · exact ⟨_, rfl⟩
theorem OwnS.lt (h : OwnS s e w v n cs) {k : Nat} (hk : v.ownBlock = some k) : k < w.heap.size := by
  rcases h.2 with ⟨rfl, _⟩ | ⟨g, cur, rfl, hb, _⟩
  · cases hk
  · have : g = k := by simpa [Value.ownBlock] using hk
    subst this; exact hb.lt
theorem OwnS.turns {F : Nat → Prop} (h : OwnS s e w v n cs) (hT : Turns F w w') (hF : ∀ k, v.ownBlock = some k → ¬ F k) : OwnS s e w' v n cs := by
  refine ⟨h.1, ?_⟩
  rcases h.2 with h | ⟨g, cur, rfl, hb, h⟩
  · exact .inl h
  · exact .inr ⟨g, cur, rfl, hb.turns hT (hF g rfl), h⟩
theorem OwnS.below (h : OwnS s e w v n cs) (hb : Below w.heap.size w w') : OwnS s e w' v n cs := h.turns (F := fun _ => False) (Turns.of_below hb) (fun _ _ h => h)
/-- At a cell: the address, the cell, that it may be written. -/
theorem OwnS.at {A : Option Addr} {c : Nat} (h : OwnS s e w (.slice A n c) n cs) (j : Nat) (hj : j < n * s) : ∃ g u, A = some ⟨g, 0, none⟩ ∧ cs[j]? = some u ∧ w.cell? ⟨g, j, none⟩ = some u ∧ w.frozen? ⟨g, j, none⟩ = false := by
  obtain ⟨hl, h⟩ := h
  rcases h with ⟨_, rfl⟩ | ⟨g, cur, he, hb, h1, h2, _⟩
  · omega
  · cases he
    have hu : cs[j]? = some (cs[j]'(by omega)) := List.getElem?_eq_getElem (by omega)
    refine ⟨g, _, rfl, hu, ?_, hb.frozen j⟩
    rw [hb.cell j, ← hu, ← h2, List.getElem?_take, if_pos hj]
    simp
theorem OwnS.set {g c : Nat} (h : OwnS s e w (.slice (some ⟨g, 0, none⟩) n c) n cs) (j : Nat) (hj : j < n * s) (u : Value) : OwnS s e (w.setCell ⟨g, j, none⟩ u) (.slice (some ⟨g, 0, none⟩) n c) n (cs.set j u) := by
  obtain ⟨hl, h⟩ := h
  refine ⟨by simpa using hl, ?_⟩
  rcases h with ⟨h, _⟩ | ⟨g', cur, he, hb, h1, h2, h3⟩
  · cases h
  · cases he
    refine .inr ⟨g, cur.setIfInBounds j u, rfl, hb.set_ j u, by simpa using h1, ?_, h3⟩
    rw [Array.toList_setIfInBounds, List.take_set, h2]
/-- Read by a reader of its elements. -/
theorem OwnS.rd {α : Type} {r : Rdr α} {f : α → List Value} {l : List α} (h : OwnS s e w v l.length (l.flatMap f)) (hf : ∀ x, (f x).length = s) (hr : ∀ x ∈ l, r w (f x) x) : rRow s r w [v] l := by
  obtain ⟨hl, h⟩ := h
  rcases h with ⟨rfl, h0⟩ | ⟨g, cur, rfl, hb, h1, h2, h3⟩
  · have : l = [] := List.eq_nil_of_length_eq_zero h0
    subst this
    exact ⟨none, 0, rfl, Nat.le_refl _, Nat.zero_le _, fun i x hx => by simp at hx⟩
  · refine ⟨some ⟨g, 0, none⟩, l.length, rfl, Nat.le_refl _, h3, fun i x hx => ⟨_, f x, rfl, hf x, fun j u hu => ?_, hr x (List.mem_of_getElem? hx)⟩⟩
    have hj : j < s := by have := (List.getElem?_eq_some_iff.1 hu).1; rw [hf] at this; exact this
    have hi := (List.getElem?_eq_some_iff.1 hx).1
    have hlt : i * s + j < l.length * s := by
      have := Nat.mul_le_mul_right s (show i + 1 ≤ l.length from hi)
      rw [Nat.succ_mul] at this; omega
    have := flatMap_at f s hf l i j x hx hj
    rw [add0, Nat.zero_add, hb.cell]
    rw [hu, ← h2, List.getElem?_take, if_pos hlt] at this
    simpa using this
/-- An own row, cut to its length. -/
theorem ownS_cut {c : Nat} {A : Option Addr} (h : w.ownsRow 0 e s (.slice A n c) n cs) : OwnS s e w (sliced A 0 n n s) n cs ∧ (sliced A 0 n n s).ownBlock = (Value.slice A n c).ownBlock := by
  obtain ⟨hl, h⟩ := h
  rcases h with ⟨he, h0⟩ | ⟨g, cap, cur, he, _, hb, h1, h2, h3, h4⟩
  · cases he
    refine ⟨⟨hl, .inl ⟨by simp [sliced], rfl⟩⟩, by simp [sliced, Value.ownBlock]⟩
  · cases he
    have e1 : sliced (some ⟨g, 0, none⟩) 0 n n s = .slice (some ⟨g, 0, none⟩) n n := by simp [sliced, add0]
    rw [e1]
    refine ⟨⟨hl, .inr ⟨g, cur, rfl, hb, ?_, h4, by omega⟩⟩, rfl⟩
    rw [h3]; exact Nat.mul_le_mul_right s h1
end
theorem rRow.turns {α : Type} {s : Nat} {r : Rdr α} (hr : ∀ w w' us x, r w us x → r w' us x) {F : Nat → Prop} {w w' : World} {v : Value} {l : List α} (h : rRow s r w [v] l) (hs : 0 < s) (hT : Turns F w w') (hF : l = [] ∨ ∀ k, v.ownBlock = some k → ¬ F k) : rRow s r w' [v] l := by
  obtain ⟨A, c, he, h1, h2, h3⟩ := h
  refine ⟨A, c, he, h1, h2, fun i x hx => ?_⟩
  obtain ⟨a, us, rfl, h5, h6, h7⟩ := h3 i x hx
  refine ⟨a, us, rfl, h5, fun j u hu => ?_, hr _ _ _ _ h7⟩
  have hc := h6 j u hu
  have hb : (a.add (i * s + j)).block = a.block := by unfold Addr.add; split <;> rfl
  have hlt := World.block_lt_of_cell? w _ hc
  refine (World.cell?_of_block (w := w) (a := a.add (i * s + j)) (hT.block _ hlt ?_)).trans hc
  rw [hb]
  rcases hF with rfl | hF
  · simp at hx
  · simp only [List.cons.injEq, and_true] at he
    exact hF _ (by rw [he]; rfl)
theorem pr_slnil {P : Program} {t e : TypeId} {x y : Operand} (h : P.underlying t = some (.slice e)) {A : Option Addr} {n c n' c' : Nat} : PR P (binS .eql t x y (.slice A n c) (.slice none n' c')) (.bool A.isNone) := by
  intro w
  simp only [binS, eqGuard_at_slice, Sem.run_bind, Sem.run_pure, Result.andThen_ok]
  exact Lib.run_eql_slice_nil w t e A n c n' c' h
end Go.Proofs.YtmnaggdhkggjhaaGreatDoor.E
namespace Go.Proofs.YtmnaggdhkggjhaaGreatDoor.E
open Go Go.RowKit

/-- A row of n elements of s cells, of the call's own. -/
def OwnR (s : Nat) (e : TypeId) (w : World) (v : Value) (n : Nat) (cs : List Value) : Prop :=
  cs.length = n * s ∧ ((v = .slice none 0 0 ∧ n = 0) ∨ ∃ g c cur, v = .slice (some ⟨g, 0, none⟩) n c ∧ Blk w g e cur ∧ n ≤ c ∧ c ≤ maxLen ∧ n * s ≤ cur.size ∧ cur.toList.take (n * s) = cs)
section
variable {s : Nat} {e : TypeId} {w w' : World} {v : Value} {n : Nat} {cs : List Value}
theorem OwnS.r (h : OwnS s e w v n cs) : OwnR s e w v n cs := by
  refine ⟨h.1, ?_⟩
  rcases h.2 with h | ⟨g, cur, rfl, hb, h1, h2, h3⟩
  · exact .inl h
  · exact .inr ⟨g, n, cur, rfl, hb, Nat.le_refl _, h3, h1, h2⟩
theorem OwnR.of_own (h : w.ownsRow 0 e s v n cs) : OwnR s e w v n cs := by
  refine ⟨h.1, ?_⟩
  rcases h.2 with h | ⟨g, c, cur, rfl, _, hb, h1, h2, h3, h4⟩
  · exact .inl h
  · exact .inr ⟨g, c, cur, rfl, hb, h1, h2, by rw [h3]; exact Nat.mul_le_mul_right s h1, h4⟩
theorem OwnR.slice (h : OwnR s e w v n cs) : ∃ A c, v = .slice A n c ∧ n ≤ c ∧ c ≤ maxLen := by
  rcases h.2 with ⟨rfl, rfl⟩ | ⟨g, c, _, rfl, _, h1, h2, _⟩
  · exact ⟨_, _, rfl, Nat.le_refl _, Nat.zero_le _⟩
  · exact ⟨_, _, rfl, h1, h2⟩
theorem OwnR.lt (h : OwnR s e w v n cs) {k : Nat} (hk : v.ownBlock = some k) : k < w.heap.size := by
  rcases h.2 with ⟨rfl, _⟩ | ⟨g, c, cur, rfl, hb, _⟩
  · cases hk
  · have : g = k := by simpa [Value.ownBlock] using hk
    subst this; exact hb.lt
theorem OwnR.turns {F : Nat → Prop} (h : OwnR s e w v n cs) (hT : Turns F w w') (hF : ∀ k, v.ownBlock = some k → ¬ F k) : OwnR s e w' v n cs := by
  refine ⟨h.1, ?_⟩
  rcases h.2 with h | ⟨g, c, cur, rfl, hb, h⟩
  · exact .inl h
  · exact .inr ⟨g, c, cur, rfl, hb.turns hT (hF g rfl), h⟩
theorem OwnR.below (h : OwnR s e w v n cs) (hb : Below w.heap.size w w') : OwnR s e w' v n cs := h.turns (F := fun _ => False) (Turns.of_below hb) (fun _ _ h => h)
/-- At a cell: the address, the cell, that it may be written. -/
theorem OwnR.at {A : Option Addr} {c : Nat} (h : OwnR s e w (.slice A n c) n cs) (j : Nat) (hj : j < n * s) : ∃ g u, A = some ⟨g, 0, none⟩ ∧ cs[j]? = some u ∧ w.cell? ⟨g, j, none⟩ = some u ∧ w.frozen? ⟨g, j, none⟩ = false := by
  obtain ⟨hl, h⟩ := h
  rcases h with ⟨_, rfl⟩ | ⟨g, c, cur, he, hb, _, _, h1, h2⟩
  · omega
  · cases he
    have hu : cs[j]? = some (cs[j]'(by omega)) := List.getElem?_eq_getElem (by omega)
    refine ⟨g, _, rfl, hu, ?_, hb.frozen j⟩
    rw [hb.cell j, ← hu, ← h2, List.getElem?_take, if_pos hj]
    simp
theorem OwnR.set {g c : Nat} (h : OwnR s e w (.slice (some ⟨g, 0, none⟩) n c) n cs) (j : Nat) (u : Value) : OwnR s e (w.setCell ⟨g, j, none⟩ u) (.slice (some ⟨g, 0, none⟩) n c) n (cs.set j u) := by
  obtain ⟨hl, h⟩ := h
  refine ⟨by simpa using hl, ?_⟩
  rcases h with ⟨h, _⟩ | ⟨g', c', cur, he, hb, h0, h3, h1, h2⟩
  · cases h
  · cases he
    refine .inr ⟨g, c, cur.setIfInBounds j u, rfl, hb.set_ j u, h0, h3, by simpa using h1, ?_⟩
    rw [Array.toList_setIfInBounds, List.take_set, h2]
/-- Read by a reader of its elements. -/
theorem OwnR.rd {α : Type} {r : Rdr α} {f : α → List Value} {l : List α} (h : OwnR s e w v l.length (l.flatMap f)) (hf : ∀ x, (f x).length = s) (hr : ∀ x ∈ l, r w (f x) x) : rRow s r w [v] l := by
  obtain ⟨hl, h⟩ := h
  rcases h with ⟨rfl, h0⟩ | ⟨g, c, cur, rfl, hb, h1, h2, h3, h4⟩
  · have : l = [] := List.eq_nil_of_length_eq_zero h0
    subst this
    exact ⟨none, 0, rfl, Nat.le_refl _, Nat.zero_le _, fun i x hx => by simp at hx⟩
  · refine ⟨some ⟨g, 0, none⟩, c, rfl, h1, h2, fun i x hx => ⟨_, f x, rfl, hf x, fun j u hu => ?_, hr x (List.mem_of_getElem? hx)⟩⟩
    have hj : j < s := by have := (List.getElem?_eq_some_iff.1 hu).1; rw [hf] at this; exact this
    have hi := (List.getElem?_eq_some_iff.1 hx).1
    have hlt : i * s + j < l.length * s := by
      have := Nat.mul_le_mul_right s (show i + 1 ≤ l.length from hi)
      rw [Nat.succ_mul] at this; omega
    have := flatMap_at f s hf l i j x hx hj
    rw [add0, Nat.zero_add, hb.cell]
    rw [hu, ← h4, List.getElem?_take, if_pos hlt] at this
    simpa using this
end
section
variable {P : Program} {K : Value → World → Prop} {w : World}
/-- append(v, x...), v a row of the call's own that lies behind B, x any row of structs. -/
theorem apR {t ty e : TypeId} {cs : Array Bool} {z : Value} {size bytes : Nat} (B : Nat) (ht : P.underlying t = some (.slice e)) (hinfo : (P.info? e).map (fun i => (i.zero, i.size, i.bytes)) = some (some z, size, bytes)) (hz : z.cells.size = size) (hsz : 0 < size)
    {v : Value} {xs : List Value} {n : Nat} (hown : w.ownsRow 0 e size v n xs) (hf : Fresh B v) (hB : B ≤ w.heap.size) {α : Type} {r : Rdr α} {f : α → List Value} (hfl : ∀ x, (f x).length = size) (hf1 : ∀ x, ∀ u ∈ f x, u.oneCell' = true) (hr : ∀ w us x, r w us x → us = f x)
    {x : Value} {l : List α} (hx : rRow size r w [x] l) (h63 : n + l.length ≤ 9223372036854775807) (hbytes : (n + l.length) * bytes ≤ 140737488355328)
    (k : ∀ v' w', w'.ownsRow 0 e size v' (n + l.length) (xs ++ l.flatMap f) → Fresh B v' → Below B w w' → w.grownBy w' v.ownBlock → K v' w') : NextP P (builtin .append #[t, t] ty cs #[v, x]) K w := by
  obtain ⟨A, c, he, h1, h2, h3⟩ := hx
  simp only [List.cons.injEq, and_true] at he
  subst he
  cases A with
  | none =>
    have h0 : l = [] := by
      cases l with
      | nil => rfl
      | cons p r => obtain ⟨a, us, h, _⟩ := h3 0 p rfl; cases h
    subst h0
    obtain ⟨i, hi, hzz⟩ := Option.map_eq_some_iff.1 hinfo
    refine nextV (v := v) (w' := w) ?_ (k v w (by simpa using hown) hf (Below.refl B w) (World.grownBy.refl w _))
    have hrun : (Builtin.append_ #[t, t] ty #[v, .slice none 0 c]).run P w = .ok v w := by
      rcases hown.2 with ⟨rfl, _⟩ | ⟨g, cap, cur, rfl, _, _, hnc, _⟩
      · simp [Builtin.append_, run_underlying ht, sizeOf, typeInfo, hi, Builtin.lenOf, Builtin.firstCells]
      · simp [Builtin.append_, run_underlying ht, sizeOf, typeInfo, hi, Builtin.lenOf, Builtin.firstCells, hnc, storeCells]
    simp only [builtin, List.length_nil] at hrun ⊢
    simp [hrun]
  | some a =>
    refine apG B ht hinfo hz hsz hown hf hB (news := l.flatMap f) (flatMap_len f size hfl l) (fun j u hu => ?_) (fun u hu => ?_) h63 hbytes k
    · have hj := (List.getElem?_eq_some_iff.1 hu).1
      rw [flatMap_len f size hfl] at hj
      have hi : j / size < l.length := Nat.div_lt_of_lt_mul (by rw [Nat.mul_comm]; exact hj)
      have hm : j % size < size := Nat.mod_lt _ hsz
      obtain ⟨a', us, ha, hus, hcell, hrd⟩ := h3 (j / size) l[j / size] (List.getElem?_eq_getElem hi)
      cases ha
      have hdm : j / size * size + j % size = j := Nat.div_add_mod' j size
      have := flatMap_at f size hfl l (j / size) (j % size) l[j / size] (List.getElem?_eq_getElem hi) hm
      rw [hdm, hu] at this
      have hx := hr _ _ _ hrd
      subst hx
      have := hcell (j % size) u this.symm
      rwa [hdm] at this
    · obtain ⟨x, _, hx⟩ := List.mem_flatMap.1 hu
      exact hf1 x u hx
end
end Go.Proofs.YtmnaggdhkggjhaaGreatDoor.E
