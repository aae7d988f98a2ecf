import Derived.Test.YtcfncjejpjjhdaaM2
import Derived.Lib.MinMax
import Derived.Deep.Matrix
import Derived.ChangeArms
import Derived.ArgAppend
import Derived.MapKept
import Derived.Maps.Range
import Derived.Laws.StructEq
import Derived.Laws.CopyRow
namespace Go.Proofs.Ytcfncjejpjjhdaa.E
open Go Go.RowKit

section
variable {P : Program} {K : Value → World → Prop} {S : World → Prop} {w : World}
theorem pr_pnil {t e : TypeId} {x y : Operand} (h : P.underlying t = some (.pointer e)) {p : Option Addr} : PR P (binS .eql t x y (.pointer p) (.pointer none)) (.bool p.isNone) := by
  intro w
  have he : P.pointee t = e := by simp [Program.pointee, h]
  simp only [binS, eqGuard_at_pointer, Sem.run_bind, Sem.run_pure, Result.andThen_ok]
  exact run_eql_pointer_nil w t p (by rw [he]; exact h)
theorem lns {t ty : TypeId} (h : P.underlying t = some .string) {cs : Array Bool} {s : ByteArray} (k : K (.int .i64 s.size) w) : NextP P (builtin .len #[t] ty cs #[.string s]) K w := by
  refine nextV (v := .int .i64 s.size) (w' := w) ?_ k
  have := run_len_string (P := P) w t ty s h
  simp only [builtin] at this ⊢
  simp [this, goInt]
theorem yfd {s : TypeId} {i o n : Nat} (h : fofs P s i = some (o, n)) (hn : n ≠ 0) {g : Nat} (k : K (.pointer (some ⟨g, o, none⟩)) w) : YieldP P S (Instr.fieldAt s (.pointer (some ⟨g, 0, none⟩)) i) K w :=
  yld (fun w' _ => run_fd h hn _ w') (by rw [add0, Nat.zero_add]; exact k)
theorem yln {t ty : TypeId} {e : TypeId} (h : P.underlying t = some (.slice e)) {cs : Array Bool} {A : Option Addr} {n c : Nat} (k : K (.int .i64 n) w) : YieldN P S (builtin .len #[t] ty cs #[.slice A n c]) K w :=
  yldN (v := .int .i64 n) (fun w' _ => by simp [builtin, Builtin.len_, run_underlying h, goInt]) k
/-- append(v, x...), elements of any size. -/
theorem apG {t ty e : TypeId} {cs : Array Bool} {z : Value} {size bytes : Nat} (B : Nat) (ht : P.underlying t = some (.slice e)) (hinfo : (P.info? e).map (fun i => (i.zero, i.size, i.bytes)) = some (some z, size, bytes)) (hz : z.cells.size = size) (hsz : 0 < size)
    {v : Value} {xs : List Value} {n : Nat} (hown : w.ownsRow 0 e size v n xs) (hf : Fresh B v) (hB : B ≤ w.heap.size) {a : Addr} {m c : Nat} {news : List Value} (hl : news.length = m * size) (hnews : ∀ j u, news[j]? = some u → w.cell? (a.add j) = some u) (h1 : ∀ u ∈ news, u.oneCell' = true)
    (h63 : n + m ≤ 9223372036854775807) (hbytes : (n + m) * bytes ≤ 140737488355328)
    (k : ∀ v' w', w'.ownsRow 0 e size v' (n + m) (xs ++ news) → Fresh B v' → Below B w w' → w.grownBy w' v.ownBlock → K v' w') : NextP P (builtin .append #[t, t] ty cs #[v, .slice (some a) m c]) K w := by
  obtain ⟨i, hi, hzz⟩ := Option.map_eq_some_iff.1 hinfo
  simp only [Prod.mk.injEq] at hzz
  obtain ⟨hz0, hz1, hz2⟩ := hzz
  obtain ⟨v', w', hr, h2, h3, _, h5⟩ := run_append_own_at (P := P) w 0 t ty e i z size bytes ht hi hz0 hz1 hz2 hz hsz v n xs hown a m c news hl hnews h1 (by simp only [maxLen]; omega) hbytes (Nat.zero_le _)
  refine nextV (v := v') (w' := w') ?_ (k v' w' h2 (fun j hj => by rcases h5 with h | h <;> rw [h] at hj; exact hf j hj; cases hj; exact hB) ((Below.refl B w).grown h3 hB (fun j hj => hf j hj)) h3)
  simp only [builtin]
  simp [hr]
theorem or_u8 (a b : UInt8) : Go.bits .or .u8 (a.toNat : Int) (b.toNat : Int) = ((a ||| b).toNat : Int) := by
  show IntKind.u8.wrap _ = _
  have h : ∀ c : UInt8, BitVec.ofInt 8 (c.toNat : Int) = c.toBitVec := fun c => by
    apply BitVec.eq_of_toNat_eq
    have := c.toNat_lt
    simp
  have h2 : ∀ c : UInt8, IntKind.u8.wrap (c.toNat : Int) = (c.toNat : Int) := fun c => IntWalk.u8_in _ (by have := c.toNat_lt; omega)
  simp only [IntKind.bits, h]
  rw [← h2 (a ||| b)]
  rfl
end
end Go.Proofs.Ytcfncjejpjjhdaa.E
namespace Go.Proofs.Ytcfncjejpjjhdaa.E
open Go Go.RowKit

abbrev Rdr (α : Type) := World → List Value → α → Prop
def rI (k : IntKind) : Rdr Int := fun _ cs n => cs = [.int k n] ∧ (Lit.int k n).wf = true
def rS : Rdr ByteArray := fun _ cs s => cs = [.string s] ∧ s.size ≤ maxLen
def rNil : Rdr Unit := fun _ cs _ => cs = []
def rCons {α β : Type} (k : Nat) (r : Rdr α) (q : Rdr β) : Rdr (α × β) := fun w cs p => r w (cs.take k) p.1 ∧ q w (cs.drop k) p.2
def rRow {α : Type} (s : Nat) (r : Rdr α) : Rdr (List α) := fun w cs l => ∃ A c, cs = [.slice A l.length c] ∧ l.length ≤ c ∧ c ≤ maxLen ∧
  ∀ i x, l[i]? = some x → ∃ a us, A = some a ∧ us.length = s ∧ (∀ j u, us[j]? = some u → w.cell? (a.add (i * s + j)) = some u) ∧ r w us x

/-- What is read stays so while nothing of before is turned. -/
def Keeps {α : Type} (r : Rdr α) : Prop := ∀ w w' cs a, Below w.heap.size w w' → r w cs a → r w' cs a
theorem keeps_Row {α : Type} {s : Nat} {r : Rdr α} (h1 : Keeps r) : Keeps (rRow s r) := by
  rintro w w' cs l hb ⟨A, c, h2, h3, h4, h5⟩
  refine ⟨A, c, h2, h3, h4, fun i x hx => ?_⟩
  obtain ⟨a, us, h6, h7, h8, h9⟩ := h5 i x hx
  exact ⟨a, us, h6, h7, fun j u hu => by rw [hb.cell (World.block_lt_of_cell? _ _ (h8 j u hu)), h8 j u hu], h1 w w' _ _ hb h9⟩

/-- What came in as a type's value is read by the reader. -/
def Opens (P : Program) (t : TypeId) {α : Type} (r : Rdr α) : Prop :=
  ∀ (H : Type) (enc : TypeId × Value → H) (w : World) (base : Nat) (sp : Nat → Bool) (held : Bool) (fuel : Nat) (cs : List Value) (x : DataW H × List MemPlace), DataW.trod enc P w base sp held fuel t cs = some x → ∃ a, r w cs a
theorem opens_int {P : Program} {t : TypeId} {k : IntKind} (ht : P.underlying t = some (.int k)) : Opens P t (rI k) := fun _ _ _ _ _ _ _ _ _ h => by
  obtain ⟨n, h1, _, h3⟩ := DataW.trod_int ht h
  exact ⟨n, h1, h3⟩
theorem opens_string {P : Program} {t : TypeId} (ht : P.underlying t = some .string) : Opens P t rS := fun _ _ _ _ _ _ _ _ _ h => by
  obtain ⟨n, h1, _, h3⟩ := DataW.trod_string ht h
  exact ⟨n, h1, h3⟩
theorem choose_list {α : Type} {p : Nat → α → Prop} : ∀ (n : Nat), (∀ i, i < n → ∃ a, p i a) → ∃ l : List α, l.length = n ∧ ∀ i x, l[i]? = some x → p i x
  | 0, _ => ⟨[], rfl, fun i x h => by simp at h⟩
  | n + 1, h => by
    obtain ⟨l, h1, h2⟩ := choose_list n (fun i hi => h i (by omega))
    obtain ⟨a, ha⟩ := h n (by omega)
    refine ⟨l ++ [a], by simp [h1], fun i x hx => ?_⟩
    rcases Nat.lt_or_ge i l.length with hi | hi
    · exact h2 i x (by rwa [List.getElem?_append_left hi] at hx)
    · have : i = l.length := by
        have := (List.getElem?_eq_some_iff.1 hx).1
        simp at this; omega
      subst this
      simp at hx
      rw [h1, ← hx]; exact ha
theorem opens_row {P : Program} {t e : TypeId} {s : Nat} {α : Type} {r : Rdr α} (ht : P.underlying t = some (.slice e)) (hs : P.cellsOf e = s) (h : Opens P e r) : Opens P t (rRow s r) := by
  intro H enc w base sp held fuel cs x hx
  rcases DataW.trod_slice ht hx with ⟨rfl, _⟩ | ⟨a, len, cap, elems, rest, n, _, rfl, _, hb, hl, hc, hlen, he, _, _⟩
  · exact ⟨[], none, 0, rfl, Nat.le_refl _, Nat.zero_le _, fun i x hx => by simp at hx⟩
  · have each : ∀ i, i < len → ∃ y, ∃ us : List Value, us.length = s ∧ (∀ j u, us[j]? = some u → w.cell? (a.add (i * s + j)) = some u) ∧ r w us y := by
      intro i hi
      have h1 := he i hi
      rw [List.getElem?_eq_getElem (by omega)] at h1
      obtain ⟨us, hu, hv⟩ := Option.bind_eq_some_iff.1 h1
      obtain ⟨y, hy⟩ := h H enc w base sp held n us _ hv
      obtain ⟨_, hul, hcell⟩ := World.cells?_some hu
      refine ⟨y, us, by rw [hul, hs], fun j u hju => ?_, hy⟩
      have hj := (List.getElem?_eq_some_iff.1 hju).1
      have := hcell j (by omega)
      rw [hju, hs, Addr.add_add] at this
      exact this
    obtain ⟨l, h1, h2⟩ := choose_list len each
    refine ⟨l, some a, cap, by rw [h1], by omega, hc, fun i y hy => ?_⟩
    obtain ⟨us, h3, h4, h5⟩ := h2 i y hy
    exact ⟨a, us, rfl, h3, h4, h5⟩
/-- The fields of a struct from a place on. -/
def OpensF (P : Program) (fs : List Field) (off m : Nat) {α : Type} (r : Rdr α) : Prop :=
  ∀ (H : Type) (enc : TypeId × Value → H) (w : World) (base : Nat) (sp : Nat → Bool) (held : Bool) (fuel : Nat) (cs : List Value), cs.length = m →
    (∀ f ∈ fs, ∃ x, DataW.trod enc P w base sp held fuel f.type ((cs.drop (f.offset - off)).take (P.cellsOf f.type)) = some x) → ∃ a, r w cs a
theorem opensF_nil {P : Program} {off : Nat} : OpensF P [] off 0 rNil := fun _ _ _ _ _ _ _ cs h _ => ⟨(), List.eq_nil_of_length_eq_zero h⟩
theorem opensF_cons {P : Program} {f : Field} {fs : List Field} {off k m : Nat} {α β : Type} {r : Rdr α} {q : Rdr β} (h1 : f.offset = off) (h2 : P.cellsOf f.type = k) (hge : fs.all (fun g => off + k ≤ g.offset) = true)
    (h3 : Opens P f.type r) (h4 : OpensF P fs (off + k) m q) : OpensF P (f :: fs) off (m + k) (rCons k r q) := by
  intro H enc w base sp held fuel cs hl h
  obtain ⟨x, hx⟩ := h f (by simp)
  rw [h1, h2, Nat.sub_self, List.drop_zero] at hx
  obtain ⟨a, ha⟩ := h3 H enc w base sp held fuel _ x hx
  obtain ⟨b, hb⟩ := h4 H enc w base sp held fuel (cs.drop k) (by rw [List.length_drop, hl]; omega) (fun g hg => by
    obtain ⟨y, hy⟩ := h g (by simp [hg])
    have hg' := of_decide_eq_true (List.all_eq_true.1 hge g hg)
    refine ⟨y, ?_⟩
    rw [List.drop_drop, show k + (g.offset - (off + k)) = g.offset - off from by omega]
    exact hy)
  exact ⟨(a, b), ha, hb⟩
theorem opens_struct {P : Program} {t : TypeId} {fs : Array Field} {m : Nat} {α : Type} {r : Rdr α} (ht : P.underlying t = some (.struct fs)) (hm : P.cellsOf t = m) (h : OpensF P fs.toList 0 m r) : Opens P t r := by
  intro H enc w base sp held fuel cs x hx
  obtain ⟨xs, n, _, _, hl, hxs, hf⟩ := DataW.trod_struct ht hx
  refine h H enc w base sp held n cs (by rw [hl, hm]) (fun f hfm => ?_)
  obtain ⟨i, hi, hfi⟩ := List.getElem_of_mem hfm
  have hi' : i < fs.size := by simpa using hi
  have := hf i f (by rw [← hfi]; simp [hi'])
  rw [List.getElem?_eq_getElem (by omega)] at this
  exact ⟨_, by rw [Nat.sub_zero]; exact this⟩
/-- One cell of a struct's. -/
theorem rCons_I {β : Type} {k : IntKind} {q : Rdr β} {w : World} {cs : List Value} {p : Int × β} (h : rCons 1 (rI k) q w cs p) : ∃ r, cs = .int k p.1 :: r ∧ (Lit.int k p.1).wf = true ∧ q w r p.2 := by
  obtain ⟨⟨h1, h2⟩, h3⟩ := h
  cases cs with
  | nil => simp at h1
  | cons c r => exact ⟨r, by simp at h1; rw [h1], h2, h3⟩
theorem rCons_S {β : Type} {q : Rdr β} {w : World} {cs : List Value} {p : ByteArray × β} (h : rCons 1 rS q w cs p) : ∃ r, cs = .string p.1 :: r ∧ p.1.size ≤ maxLen ∧ q w r p.2 := by
  obtain ⟨⟨h1, h2⟩, h3⟩ := h
  cases cs with
  | nil => simp at h1
  | cons c r => exact ⟨r, by simp at h1; rw [h1], h2, h3⟩
/-- A struct is loaded out of a row. -/
theorem ldR {P : Program} {K : Value → World → Prop} {w : World} {t : TypeId} (ha : aggB P t = true) {a : Addr} {us : List Value} (hc : ∀ j u, us[j]? = some u → w.cell? (a.add j) = some u) (hi : (P.info? t).map (·.size) = some us.length)
    (k : K (.agg us.toArray) w) : LiftP P (Instr.loadAt t (.pointer (some a))) K w := by
  refine lift (v := .agg us.toArray) (w' := w) ?_ k
  unfold aggB at ha
  cases hu : P.underlying t with
  | none => rw [hu] at ha; cases ha
  | some d =>
    rw [hu] at ha
    have hl : (loadCells a us.length).run P w = .ok us.toArray w := run_loadCells_list (P := P) w a us hc
    cases hq : P.info? t with
    | none => simp [hq] at hi
    | some i =>
      have hs : i.size = us.length := by simpa [hq] using hi
      have hagg : (isAgg t).run P w = .ok true w := by
        unfold isAgg
        rw [Sem.run_bind, run_underlying hu w]
        cases d <;> simp_all
      simp [Instr.loadAt, Instr.sureAddr, loadVar, Sem.run_bind, hagg, sizeOf, typeInfo, hq, hs, hl]
end Go.Proofs.Ytcfncjejpjjhdaa.E
namespace Go.Proofs.Ytcfncjejpjjhdaa.E
open Go Go.RowKit

/-- Nothing that was there has turned, but blocks of F. -/
structure Turns (F : Nat → Prop) (w w' : World) : Prop where
  os : w'.os = w.os
  tape : w'.tape = w.tape
  output : w'.output = w.output
  size : w.heap.size ≤ w'.heap.size
  block : ∀ k, k < w.heap.size → ¬ F k → w'.heap[k]? = w.heap[k]?
/-- F, and all that is new since there were n blocks. -/
def Ext (F : Nat → Prop) (n : Nat) : Nat → Prop := fun k => F k ∨ n ≤ k
section
variable {F : Nat → Prop} {w w' w'' : World}
theorem Turns.refl (F : Nat → Prop) (w : World) : Turns F w w := ⟨rfl, rfl, rfl, Nat.le_refl _, fun _ _ _ => rfl⟩
theorem Turns.trans (h : Turns F w w') (k : Turns (Ext F w.heap.size) w' w'') : Turns F w w'' :=
  ⟨k.os.trans h.os, k.tape.trans h.tape, k.output.trans h.output, Nat.le_trans h.size k.size, fun i hi hF => (k.block i (Nat.lt_of_lt_of_le hi h.size) (fun e => e.elim hF (fun e => absurd e (Nat.not_le.2 hi)))).trans (h.block i hi hF)⟩
theorem Turns.mono {G : Nat → Prop} (h : Turns F w w') (hG : ∀ k, k < w.heap.size → F k → G k) : Turns G w w' := ⟨h.os, h.tape, h.output, h.size, fun k hk hF => h.block k hk (fun e => hF (hG k hk e))⟩
theorem Turns.of_below (h : Below w.heap.size w w') : Turns F w w' := ⟨h.os, h.tape, h.output, h.size, fun k hk _ => h.block k hk⟩
theorem Turns.below {B : Nat} (h : Turns F w w') (hB : B ≤ w.heap.size) (hF : ∀ k, k < B → ¬ F k) : Below B w w' := ⟨h.os, h.tape, h.output, h.size, fun k hk => h.block k (Nat.lt_of_lt_of_le hk hB) (hF k hk)⟩
theorem Turns.then_below (h : Turns F w w') (k : Below w'.heap.size w' w'') : Turns F w w'' := h.trans (Turns.of_below k)
theorem Turns.drew (h : Turns F w w') : Turns F w w'.drew := ⟨h.os, h.tape, h.output, h.size, h.block⟩
theorem Turns.alloc (h : Turns F w w') (o : Obj) : Turns F w (w'.alloc o) := h.then_below ((Below.refl _ _).alloc (Nat.le_refl _) o)
theorem Turns.setCell (h : Turns F w w') {p : Addr} (hp : Ext F w.heap.size p.block) (u : Value) : Turns F w (w'.setCell p u) :=
  h.trans ⟨rfl, rfl, rfl, by simp [World.setCell], fun k _ hk => Below.heap_setCell _ _ _ _ (fun e => hk (by rw [e]; exact hp))⟩
theorem Turns.setRow (h : Turns F w w') {g : Nat} (hp : Ext F w.heap.size g) (ds : Array Value) : Turns F w (w'.setRow g ds) :=
  h.trans ⟨rfl, rfl, rfl, by simp [World.setRow], fun k _ hk => setRow_other _ _ _ _ (fun e => hk (by rw [e]; exact hp))⟩
theorem Turns.grown (h : Turns F w w') {row : Option Nat} (hg : w'.grownBy w'' row) (hr : ∀ k, row = some k → Ext F w.heap.size k) : Turns F w w'' :=
  h.trans ⟨hg.os, hg.tape, hg.output, hg.size, fun k hk hF => hg.block k hk (fun e => hF (hr k e.symm))⟩
theorem Blk.turns {g : Nat} {t : TypeId} {cs : Array Value} (h : Blk w g t cs) (hT : Turns F w w') (hF : ¬ F g) : Blk w' g t cs := (hT.block g h.lt hF).trans h
theorem Own.turns {e : TypeId} {v : Value} {xs : List Value} (h : Own e w v xs) (hT : Turns F w w') (hF : ∀ k, v.ownBlock = some k → ¬ F k) : Own e w' v xs := by
  refine ⟨h.1, ?_⟩
  rcases h.2 with h | ⟨g, cap, cur, rfl, h1, h2, h3⟩
  · exact .inl h
  · refine .inr ⟨g, cap, cur, rfl, h1, ?_, h3⟩
    rw [hT.block g (Array.getElem?_eq_some_iff.1 h2).1 (hF g rfl)]
    exact h2
theorem Own.ownLt {e : TypeId} {v : Value} {xs : List Value} (h : Own e w v xs) {k : Nat} (hk : v.ownBlock = some k) : k < w.heap.size := by
  rcases h.2 with h | ⟨g, cap, cur, rfl, h1, h2, h3⟩
  · rw [h.1] at hk; cases hk
  · have : g = k := by simpa [Value.ownBlock] using hk
    subst this
    exact (Array.getElem?_eq_some_iff.1 h2).1
end
end Go.Proofs.Ytcfncjejpjjhdaa.E
namespace Go.Proofs.Ytcfncjejpjjhdaa.E
open Go Go.RowKit

/-- A row of the call's own, or such a row cut to its length (its capacity told as its length). -/
def OwnC (e : TypeId) (w : World) (v : Value) (xs : List Value) : Prop :=
  Own e w v xs ∨ ∃ g cur, v = .slice (some ⟨g, 0, none⟩) xs.length xs.length ∧ Blk w g e cur ∧ xs.length ≤ 9223372036854775807 ∧ xs.length ≤ cur.size ∧ cur.toList.take xs.length = xs
section
variable {e : TypeId} {w w' : World} {v : Value} {xs : List Value}
theorem Own.c (h : Own e w v xs) : OwnC e w v xs := .inl h
theorem OwnC.rd (h : OwnC e w v xs) : Rd w v xs := by
  rcases h with h | ⟨g, cur, rfl, hb, h1, h2, h3⟩
  · exact h.rd
  · refine ⟨some ⟨g, 0, none⟩, xs.length, rfl, Nat.le_refl _, h1, fun i u hu => ⟨_, rfl, ?_⟩⟩
    have hi := (List.getElem?_eq_some_iff.1 hu).1
    rw [add0, Nat.zero_add]
    have := hb.cell i
    rw [this]
    rw [← h3, List.getElem?_take, if_pos hi] at hu
    simpa using hu
theorem OwnC.slice (h : OwnC e w v xs) : ∃ A c, v = .slice A xs.length c := by
  obtain ⟨A, c, rfl, _⟩ := h.rd; exact ⟨A, c, rfl⟩
theorem OwnC.lt (h : OwnC e w v xs) {k : Nat} (hk : v.ownBlock = some k) : k < w.heap.size := by
  rcases h with h | ⟨g, cur, rfl, hb, _⟩
  · exact h.ownLt hk
  · have : g = k := by simpa [Value.ownBlock] using hk
    subst this; exact hb.lt
theorem OwnC.turns {F : Nat → Prop} (h : OwnC e w v xs) (hT : Turns F w w') (hF : ∀ k, v.ownBlock = some k → ¬ F k) : OwnC e w' v xs := by
  rcases h with h | ⟨g, cur, rfl, hb, h1⟩
  · exact .inl (h.turns hT hF)
  · exact .inr ⟨g, cur, rfl, hb.turns hT (hF g rfl), h1⟩
theorem OwnC.below (h : OwnC e w v xs) (hb : Below w.heap.size w w') : OwnC e w' v xs := h.turns (F := fun _ => False) (Turns.of_below hb) (fun _ _ h => h)
theorem OwnC.at {A : Option Addr} {n c : Nat} (h : OwnC e w (.slice A n c) xs) (i : Nat) (hi : i < xs.length) : ∃ g, A = some ⟨g, 0, none⟩ ∧ w.cell? ⟨g, i, none⟩ = some xs[i] ∧ w.frozen? ⟨g, i, none⟩ = false := by
  obtain ⟨a, ha, hc⟩ := Rd.at h.rd i hi
  rcases h with h | ⟨g, cur, he, hb, h1⟩
  · obtain ⟨g, rfl, h2, h3⟩ := h.at i hi
    rw [add0, Nat.zero_add] at h2 h3
    exact ⟨g, rfl, h2, h3⟩
  · cases he
    cases ha
    rw [add0, Nat.zero_add] at hc
    exact ⟨g, rfl, hc, hb.frozen i⟩
theorem OwnC.set {g n c : Nat} (h : OwnC e w (.slice (some ⟨g, 0, none⟩) n c) xs) (i : Nat) (hi : i < xs.length) (u : Value) : OwnC e (w.setCell ⟨g, i, none⟩ u) (.slice (some ⟨g, 0, none⟩) n c) (xs.set i u) := by
  rcases h with h | ⟨g', cur, he, hb, h1, h2, h3⟩
  · have := h.set i hi u
    rw [add0, Nat.zero_add] at this
    exact .inl this
  · cases he
    refine .inr ⟨g, cur.setIfInBounds i u, by simp, hb.set_ i u, by simpa using h1, by simpa using h2, ?_⟩
    rw [Array.toList_setIfInBounds, List.length_set, List.take_set, h3]
theorem OwnC.far (h : OwnC e w v xs) {p : Addr} (hp : v.ownBlock ≠ some p.block) (u : Value) : OwnC e (w.setCell p u) v xs :=
  h.turns (F := fun k => k = p.block) (Turns.setCell (F := fun k => k = p.block) (Turns.refl _ w) (.inl rfl) u) (fun k hk he => hp (by rw [hk, he]))
/-- Cut to its first k cells, capacity and all. -/
theorem OwnC.cut {A : Option Addr} {n c : Nat} (h : OwnC e w (.slice A n c) xs) (k : Nat) (hk : k ≤ xs.length) : OwnC e w (sliced A 0 k k 1) (xs.take k) ∧ (∀ b, (sliced A 0 k k 1).ownBlock = some b → (Value.slice A n c).ownBlock = some b) := by
  have hlen : (xs.take k).length = k := by rw [List.length_take]; omega
  rcases h with h | ⟨g, cur, he, hb, h1, h2, h3⟩
  · rcases h.2 with ⟨he, h0⟩ | ⟨g, cap, cur, he, _, hh, hn, hm, hs, ht⟩
    · cases he
      have : k = 0 := by omega
      subst this
      exact ⟨.inl (by simpa [sliced] using Own.nil e w), fun b hb => by simp [sliced, Value.ownBlock] at hb⟩
    · cases he
      have e1 : sliced (some ⟨g, 0, none⟩) 0 k k 1 = .slice (some ⟨g, 0, none⟩) k k := by simp [sliced, add0]
      rw [e1]
      simp only [maxLen] at hm
      refine ⟨.inr ⟨g, cur, by rw [hlen], hh, by omega, by omega, ?_⟩, fun b hb => hb⟩
      rw [hlen]
      rw [Nat.mul_one] at ht
      rw [← ht, List.take_take, show min k xs.length = k from by omega]
  · cases he
    have e1 : sliced (some ⟨g, 0, none⟩) 0 k k 1 = .slice (some ⟨g, 0, none⟩) k k := by simp [sliced, add0]
    rw [e1]
    refine ⟨.inr ⟨g, cur, by rw [hlen], hb, by omega, by omega, ?_⟩, fun b hb => hb⟩
    rw [hlen, ← h3, List.take_take, show min k xs.length = k from by omega]
end
theorem Rd.turns {F : Nat → Prop} {w w' : World} {v : Value} {cs : List Value} (h : Rd w v cs) (hT : Turns F w w') (hF : cs = [] ∨ ∀ b, v.ownBlock = some b → ¬ F b) : Rd w' v cs := by
  obtain ⟨A, c, rfl, h1, h2, h3⟩ := h
  refine ⟨A, c, rfl, h1, h2, fun i u hu => ?_⟩
  obtain ⟨a, rfl, hc⟩ := h3 i u hu
  have e : (a.add i).block = a.block := by unfold Addr.add; split <;> rfl
  have hlt := World.block_lt_of_cell? w _ hc
  refine ⟨a, rfl, (World.cell?_of_block (w := w) (a := a.add i) ?_).trans hc⟩
  refine hT.block _ hlt ?_
  rw [e]
  rcases hF with rfl | hF
  · simp at hu
  · exact hF _ rfl
theorem RdB.turns {F : Nat → Prop} {w w' : World} {v : Value} {bs : List UInt8} (h : RdB w v bs) (hT : Turns F w w') (hF : bs = [] ∨ ∀ b, v.ownBlock = some b → ¬ F b) : RdB w' v bs :=
  Rd.turns h hT (hF.imp_left fun h => by rw [h]; rfl)
theorem Rd.lt {w : World} {v : Value} {cs : List Value} (h : Rd w v cs) (h0 : cs ≠ []) {b : Nat} (hb : v.ownBlock = some b) : b < w.heap.size := by
  obtain ⟨A, c, rfl, h1, h2, h3⟩ := h
  cases cs with
  | nil => exact absurd rfl h0
  | cons y r =>
    obtain ⟨a, rfl, hc⟩ := h3 0 y rfl
    have e : (a.add 0).block = a.block := by unfold Addr.add; split <;> rfl
    have hlt := World.block_lt_of_cell? w _ hc
    rw [e] at hlt
    cases hb
    exact hlt
theorem RdB.lt {w : World} {v : Value} {bs : List UInt8} (h : RdB w v bs) (h0 : bs ≠ []) {b : Nat} (hb : v.ownBlock = some b) : b < w.heap.size :=
  Rd.lt h (fun e => h0 (by simpa using e)) hb

/-- A row's block has this colour. -/
def InC (c : Nat → Nat) (x : Nat) (v : Value) : Prop := ∀ b, v.ownBlock = some b → c b = x
/-- The colours, what is new since n blocks being of colour x. -/
def col (c : Nat → Nat) (n x : Nat) : Nat → Nat := fun k => if k < n then c k else x
/-- The blocks that have a colour. -/
def D (c : Nat → Nat) : Nat → Prop := fun k => c k ≠ 0
theorem InC.nil (c : Nat → Nat) (x : Nat) (n k : Nat) : InC c x (.slice none n k) := fun b hb => by cases hb
theorem InC.far {c : Nat → Nat} {x y : Nat} {v : Value} (h : InC c x v) (hxy : x ≠ y) : ∀ b, v.ownBlock = some b → ¬ c b = y := fun b hb he => hxy ((h b hb).symm.trans he)
theorem InC.ne {c : Nat → Nat} {x y g : Nat} {v : Value} (h : InC c x v) (hg : c g = y) (hxy : x ≠ y) : v.ownBlock ≠ some g := fun he => hxy ((h g he).symm.trans hg)
theorem InC.fresh {c : Nat → Nat} {n x : Nat} {v : Value} (h : Fresh n v) : InC (col c n x) x v := fun b hb => by
  have := h b hb
  simp only [col]; rw [if_neg (by omega)]
theorem col_lt (c : Nat → Nat) (n x : Nat) : ∀ k, k < n → col c n x k = c k := fun k hk => by simp only [col]; rw [if_pos hk]
theorem col_ge (c : Nat → Nat) (n x : Nat) {k : Nat} (hk : n ≤ k) : col c n x k = x := by simp only [col]; rw [if_neg (by omega)]
theorem Turns.step {c c1 : Nat → Nat} {w w1 w2 : World} (h : Turns (D c) w w1) (hc : ∀ k, k < w.heap.size → c1 k = c k) (k : Turns (D c1) w1 w2) : Turns (D c) w w2 :=
  h.trans (k.mono fun j _ hj => by
    rcases Nat.lt_or_ge j w.heap.size with hlt | hge
    · exact .inl (by rw [D, ← hc j hlt]; exact hj)
    · exact .inr hge)
theorem InC.re {c c' : Nat → Nat} {x n : Nat} {v : Value} (h : InC c x v) (hlt : ∀ b, v.ownBlock = some b → b < n) (hc : ∀ k, k < n → c' k = c k) : InC c' x v := fun b hb => (hc b (hlt b hb)).trans (h b hb)
end Go.Proofs.Ytcfncjejpjjhdaa.E
namespace Go.Proofs.Ytcfncjejpjjhdaa.E
open Go Go.RowKit

section
variable {P : Program} {K : Value → World → Prop} {w : World} {b : Nat} {l : List (Int × Value)}
/-- A function as a value is called. -/
theorem cvl {f : FuncId} {caps args : Array Value} (hc : callable P f = true) (h : CallP P f (args ++ caps) K w) : NextP P (callV (.func (.func f) #[] caps) args) K w := by
  refine ⟨?_⟩
  have h1 : (callV (.func (.func f) #[] caps) args).run P w = (callFunc f (args ++ caps)).run P w := by
    show (callFunc f (#[] ++ args ++ caps)).run P w = _
    simp
  have hr : (callFunc f (args ++ caps)).run P w = .ok (.enter f (args ++ caps)) w := by
    unfold callable at hc
    split at hc
    · rename_i fn hfn
      simp only [Bool.and_eq_true, Bool.not_eq_true'] at hc
      have hb : fn.body.isNone = false := by
        cases hh : fn.body with
        | none => rw [hh] at hc; simp at hc
        | some c => rfl
      unfold callFunc
      simp only [Sem.run_bind, run_program, Result.andThen_ok, hfn]
      rw [if_neg (by rw [hc.2]; exact Bool.false_ne_true), if_neg (by rw [hb]; exact Bool.false_ne_true)]
      rfl
    · cases hc
  rw [h1, hr]
  exact h
end
end Go.Proofs.Ytcfncjejpjjhdaa.E
namespace Go.Proofs.Ytcfncjejpjjhdaa.E
open Go Go.RowKit

theorem flatMap_at {α β : Type} (f : α → List β) (s : Nat) (hf : ∀ x, (f x).length = s) : ∀ (l : List α) (i j : Nat) (x : α), l[i]? = some x → j < s → (l.flatMap f)[i * s + j]? = (f x)[j]? := by
  intro l
  induction l with
  | nil => intro i j x h; simp at h
  | cons y r ih =>
    intro i j x h hj
    rw [List.flatMap_cons]
    cases i with
    | zero =>
      simp at h
      subst h
      rw [Nat.zero_mul, Nat.zero_add, List.getElem?_append_left (by rw [hf]; exact hj)]
    | succ i =>
      simp at h
      rw [List.getElem?_append_right (by rw [hf, Nat.succ_mul]; omega), hf, Nat.succ_mul, show i * s + s + j - s = i * s + j from by omega]
      exact ih i j x h hj
theorem flatMap_len {α β : Type} (f : α → List β) (s : Nat) (hf : ∀ x, (f x).length = s) (l : List α) : (l.flatMap f).length = l.length * s := by
  induction l with
  | nil => simp
  | cons y r ih => rw [List.flatMap_cons, List.length_append, hf, ih, List.length_cons, Nat.succ_mul]; omega
theorem rRow.turns {α : Type} {s : Nat} {r : Rdr α} (hr : ∀ w w' us x, r w us x → r w' us x) {F : Nat → Prop} {w w' : World} {v : Value} {l : List α} (h : rRow s r w [v] l) (hs : 0 < s) (hT : Turns F w w') (hF : l = [] ∨ ∀ k, v.ownBlock = some k → ¬ F k) : rRow s r w' [v] l := by
  obtain ⟨A, c, he, h1, h2, h3⟩ := h
  refine ⟨A, c, he, h1, h2, fun i x hx => ?_⟩
  obtain ⟨a, us, rfl, h5, h6, h7⟩ := h3 i x hx
  refine ⟨a, us, rfl, h5, fun j u hu => ?_, hr _ _ _ _ h7⟩
  have hc := h6 j u hu
  have hb : (a.add (i * s + j)).block = a.block := by unfold Addr.add; split <;> rfl
  have hlt := World.block_lt_of_cell? w _ hc
  refine (World.cell?_of_block (w := w) (a := a.add (i * s + j)) (hT.block _ hlt ?_)).trans hc
  rw [hb]
  rcases hF with rfl | hF
  · simp at hx
  · simp only [List.cons.injEq, and_true] at he
    exact hF _ (by rw [he]; rfl)
theorem pr_slnil {P : Program} {t e : TypeId} {x y : Operand} (h : P.underlying t = some (.slice e)) {A : Option Addr} {n c n' c' : Nat} : PR P (binS .eql t x y (.slice A n c) (.slice none n' c')) (.bool A.isNone) := by
  intro w
  simp only [binS, eqGuard_at_slice, Sem.run_bind, Sem.run_pure, Result.andThen_ok]
  exact Lib.run_eql_slice_nil w t e A n c n' c' h
end Go.Proofs.Ytcfncjejpjjhdaa.E
namespace Go.Proofs.Ytcfncjejpjjhdaa.E
open Go Go.RowKit

/-- A row of n elements of s cells, of the call's own. -/
def OwnR (s : Nat) (e : TypeId) (w : World) (v : Value) (n : Nat) (cs : List Value) : Prop :=
  cs.length = n * s ∧ ((v = .slice none 0 0 ∧ n = 0) ∨ ∃ g c cur, v = .slice (some ⟨g, 0, none⟩) n c ∧ Blk w g e cur ∧ n ≤ c ∧ c ≤ maxLen ∧ n * s ≤ cur.size ∧ cur.toList.take (n * s) = cs)
section
variable {s : Nat} {e : TypeId} {w w' : World} {v : Value} {n : Nat} {cs : List Value}
theorem OwnR.of_own (h : w.ownsRow 0 e s v n cs) : OwnR s e w v n cs := by
  refine ⟨h.1, ?_⟩
  rcases h.2 with h | ⟨g, c, cur, rfl, _, hb, h1, h2, h3, h4⟩
  · exact .inl h
  · exact .inr ⟨g, c, cur, rfl, hb, h1, h2, by rw [h3]; exact Nat.mul_le_mul_right s h1, h4⟩
theorem OwnR.slice (h : OwnR s e w v n cs) : ∃ A c, v = .slice A n c ∧ n ≤ c ∧ c ≤ maxLen := by
  rcases h.2 with ⟨rfl, rfl⟩ | ⟨g, c, _, rfl, _, h1, h2, _⟩
  · exact ⟨_, _, rfl, Nat.le_refl _, Nat.zero_le _⟩
  · exact ⟨_, _, rfl, h1, h2⟩
theorem OwnR.lt (h : OwnR s e w v n cs) {k : Nat} (hk : v.ownBlock = some k) : k < w.heap.size := by
  rcases h.2 with ⟨rfl, _⟩ | ⟨g, c, cur, rfl, hb, _⟩
  · cases hk
  · have : g = k := by simpa [Value.ownBlock] using hk
    subst this; exact hb.lt
theorem OwnR.turns {F : Nat → Prop} (h : OwnR s e w v n cs) (hT : Turns F w w') (hF : ∀ k, v.ownBlock = some k → ¬ F k) : OwnR s e w' v n cs := by
  refine ⟨h.1, ?_⟩
  rcases h.2 with h | ⟨g, c, cur, rfl, hb, h⟩
  · exact .inl h
  · exact .inr ⟨g, c, cur, rfl, hb.turns hT (hF g rfl), h⟩
theorem OwnR.below (h : OwnR s e w v n cs) (hb : Below w.heap.size w w') : OwnR s e w' v n cs := h.turns (F := fun _ => False) (Turns.of_below hb) (fun _ _ h => h)
/-- At a cell: the address, the cell, that it may be written. -/
theorem OwnR.at {A : Option Addr} {c : Nat} (h : OwnR s e w (.slice A n c) n cs) (j : Nat) (hj : j < n * s) : ∃ g u, A = some ⟨g, 0, none⟩ ∧ cs[j]? = some u ∧ w.cell? ⟨g, j, none⟩ = some u ∧ w.frozen? ⟨g, j, none⟩ = false := by
  obtain ⟨hl, h⟩ := h
  rcases h with ⟨_, rfl⟩ | ⟨g, c, cur, he, hb, _, _, h1, h2⟩
  · omega
  · cases he
    have hu : cs[j]? = some (cs[j]'(by omega)) := List.getElem?_eq_getElem (by omega)
    refine ⟨g, _, rfl, hu, ?_, hb.frozen j⟩
    rw [hb.cell j, ← hu, ← h2, List.getElem?_take, if_pos hj]
    simp
theorem OwnR.set {g c : Nat} (h : OwnR s e w (.slice (some ⟨g, 0, none⟩) n c) n cs) (j : Nat) (u : Value) : OwnR s e (w.setCell ⟨g, j, none⟩ u) (.slice (some ⟨g, 0, none⟩) n c) n (cs.set j u) := by
  obtain ⟨hl, h⟩ := h
  refine ⟨by simpa using hl, ?_⟩
  rcases h with ⟨h, _⟩ | ⟨g', c', cur, he, hb, h0, h3, h1, h2⟩
  · cases h
  · cases he
    refine .inr ⟨g, c, cur.setIfInBounds j u, rfl, hb.set_ j u, h0, h3, by simpa using h1, ?_⟩
    rw [Array.toList_setIfInBounds, List.take_set, h2]
/-- Read by a reader of its elements. -/
theorem OwnR.rd {α : Type} {r : Rdr α} {f : α → List Value} {l : List α} (h : OwnR s e w v l.length (l.flatMap f)) (hf : ∀ x, (f x).length = s) (hr : ∀ x ∈ l, r w (f x) x) : rRow s r w [v] l := by
  obtain ⟨hl, h⟩ := h
  rcases h with ⟨rfl, h0⟩ | ⟨g, c, cur, rfl, hb, h1, h2, h3, h4⟩
  · have : l = [] := List.eq_nil_of_length_eq_zero h0
    subst this
    exact ⟨none, 0, rfl, Nat.le_refl _, Nat.zero_le _, fun i x hx => by simp at hx⟩
  · refine ⟨some ⟨g, 0, none⟩, c, rfl, h1, h2, fun i x hx => ⟨_, f x, rfl, hf x, fun j u hu => ?_, hr x (List.mem_of_getElem? hx)⟩⟩
    have hj : j < s := by have := (List.getElem?_eq_some_iff.1 hu).1; rw [hf] at this; exact this
    have hi := (List.getElem?_eq_some_iff.1 hx).1
    have hlt : i * s + j < l.length * s := by
      have := Nat.mul_le_mul_right s (show i + 1 ≤ l.length from hi)
      rw [Nat.succ_mul] at this; omega
    have := flatMap_at f s hf l i j x hx hj
    rw [add0, Nat.zero_add, hb.cell]
    rw [hu, ← h4, List.getElem?_take, if_pos hlt] at this
    simpa using this
end
/-- One cell of one element turned. -/
theorem flatMap_set {α β : Type} (f : α → List β) (s : Nat) (hf : ∀ x, (f x).length = s) : ∀ (l : List α) (i j : Nat) (x y : α) (u : β), l[i]? = some x → j < s → f y = (f x).set j u → (l.flatMap f).set (i * s + j) u = (l.set i y).flatMap f := by
  intro l
  induction l with
  | nil => intro i j x y u h; simp at h
  | cons z r ih =>
    intro i j x y u h hj he
    rw [List.flatMap_cons]
    cases i with
    | zero =>
      simp at h
      subst h
      rw [Nat.zero_mul, Nat.zero_add, List.set_append_left _ _ (by rw [hf]; exact hj), List.set_cons_zero, List.flatMap_cons, he]
    | succ i =>
      simp at h
      rw [List.set_append_right _ _ (by rw [hf, Nat.succ_mul]; omega), hf, Nat.succ_mul, show i * s + s + j - s = i * s + j from by omega, ih i j x y u h hj he, List.set_cons_succ, List.flatMap_cons]
end Go.Proofs.Ytcfncjejpjjhdaa.E
namespace Go.Proofs.Ytcfncjejpjjhdaa.E
open Go Go.RowKit

end Go.Proofs.Ytcfncjejpjjhdaa.E
namespace Go.Proofs.Ytcfncjejpjjhdaa.E
open Go Go.RowKit

theorem rRow.at {α : Type} {s : Nat} {r : Rdr α} {w : World} {A : Option Addr} {n c : Nat} {l : List α} (h : rRow s r w [.slice A n c] l) (i : Nat) (hi : i < l.length) :
    ∃ a us, A = some a ∧ us.length = s ∧ (∀ j u, us[j]? = some u → w.cell? ((a.add (i * s)).add j) = some u) ∧ r w us l[i] := by
  obtain ⟨A', c', he, _, _, h⟩ := h
  simp only [List.cons.injEq, Value.slice.injEq] at he
  obtain ⟨⟨rfl, _, _⟩, _⟩ := he
  obtain ⟨a, us, h1, h2, h3, h4⟩ := h i l[i] (List.getElem?_eq_getElem hi)
  exact ⟨a, us, h1, h2, fun j u hu => by rw [Addr.add_add]; exact h3 j u hu, h4⟩
theorem rRow.slice {α : Type} {s : Nat} {r : Rdr α} {w : World} {v : Value} {l : List α} (h : rRow s r w [v] l) : ∃ A c, v = .slice A l.length c ∧ l.length ≤ c ∧ c ≤ 9223372036854775807 := by
  obtain ⟨A, c, he, h1, h2, _⟩ := h
  simp only [List.cons.injEq, and_true] at he
  exact ⟨A, c, he, h1, by simp only [maxLen] at h2; omega⟩
theorem keepC {w : World} {a : Addr} {us : List Value} (h : ∀ j u, us[j]? = some u → w.cell? (a.add j) = some u) : ∀ w', Below w.heap.size w w' → ∀ j u, us[j]? = some u → w'.cell? (a.add j) = some u := fun w' hb j u hu => by rw [hb.cell (World.block_lt_of_cell? _ _ (h j u hu)), h j u hu]

section
variable {P : Program} {K : Value → World → Prop} {S : World → Prop} {w : World}
theorem yixA {t e : TypeId} (h : P.underlying t = some (.slice e)) {s : Nat} (hs : (P.info? e).map (·.size) = some s) {a : Addr} {n c : Nat} {kd : IntKind} (i : Nat) (h1 : i < n)
    (k : K (.pointer (some (a.add (i * s)))) w) : YieldP P S (Instr.indexAt t (.slice (some a) n c) (.int kd (i : Int))) K w := by
  obtain ⟨j, hj, hs⟩ := Option.map_eq_some_iff.1 hs
  refine yld (v := .pointer (some (a.add (i * s)))) (fun w' _ => ?_) k
  simp [Instr.indexAt, run_underlying h, asIntOf, h1, sizeOf, typeInfo, hj, hs]
theorem yfdA {s : TypeId} {i o n : Nat} (h : fofs P s i = some (o, n)) (hn : n ≠ 0) {a : Addr} (k : K (.pointer (some (a.add o))) w) : YieldP P S (Instr.fieldAt s (.pointer (some a)) i) K w := yld (fun w' _ => run_fd h hn a w') k
theorem fdA {s : TypeId} {i o n : Nat} (h : fofs P s i = some (o, n)) (hn : n ≠ 0) {a : Addr} (k : K (.pointer (some (a.add o))) w) : LiftP P (Instr.fieldAt s (.pointer (some a)) i) K w := lift (run_fd h hn a w) k
theorem yldR {t : TypeId} (ha : aggB P t = true) {a : Addr} {us : List Value} (hc : ∀ w', S w' → ∀ j u, us[j]? = some u → w'.cell? (a.add j) = some u) (hi : (P.info? t).map (·.size) = some us.length)
    (k : K (.agg us.toArray) w) : YieldP P S (Instr.loadAt t (.pointer (some a))) K w := by
  refine yld (v := .agg us.toArray) (fun w' hw => ?_) k
  unfold aggB at ha
  cases hu : P.underlying t with
  | none => rw [hu] at ha; cases ha
  | some d =>
    rw [hu] at ha
    have hl : (loadCells a us.length).run P w' = .ok us.toArray w' := run_loadCells_list (P := P) w' a us (hc w' hw)
    cases hq : P.info? t with
    | none => simp [hq] at hi
    | some i =>
      have hs : i.size = us.length := by simpa [hq] using hi
      have hagg : (isAgg t).run P w' = .ok true w' := by
        unfold isAgg
        rw [Sem.run_bind, run_underlying hu w']
        cases d <;> simp_all
      simp [Instr.loadAt, Instr.sureAddr, loadVar, Sem.run_bind, hagg, sizeOf, typeInfo, hq, hs, hl]
end
theorem yldA {P : Program} {K : Value → World → Prop} {S : World → Prop} {w : World} {t : TypeId} (ha : aggB P t = true) {g : Nat} {cells : Array Value} (hb : ∀ w', S w' → Blk w' g t cells) (hi : (P.info? t).map (·.size) = some cells.size) (k : K (.agg cells) w) : YieldP P S (Instr.loadAt t (.pointer (some ⟨g, 0, none⟩))) K w :=
  yld (fun w' h => by simpa [Instr.loadAt, Instr.sureAddr] using run_ldA ha (hb w' h) hi) k
section
variable {P : Program}
def flat1 : TypeDesc → Bool
  | .struct _ | .array _ _ => false
  | _ => true
theorem isAgg1 {t : TypeId} {d : TypeDesc} (h : P.underlying t = some d) (hd : flat1 d = true) (w : World) : (isAgg t).run P w = .ok false w := by
  unfold isAgg
  rw [Sem.run_bind, run_underlying h w]
  cases d <;> simp_all [flat1]
theorem part1 {t : TypeId} {d : TypeDesc} (h : P.underlying t = some d) (hd : flat1 d = true) (cs : Array Value) (o : Nat) (v : Value) (hv : cs[o]? = some v) (w : World) : (part t cs o).run P w = .ok v w := by
  unfold part
  rw [Sem.run_bind, isAgg1 h hd]
  simp [hv]
theorem eqFields_cons {f : Field} {fs : List Field} {d : Nat} {xs ys : Array Value} {w : World} {dd : TypeDesc} {u u' : Value} {e r : Bool} (hn : f.name ≠ "_") (h : P.underlying f.type = some dd) (hd : flat1 dd = true) (hx : xs[f.offset]? = some u) (hy : ys[f.offset]? = some u')
    (he : (Op.equalIn d f.type u u').run P w = .ok e w) (hr : (Op.eqFields d xs ys fs).run P w = .ok r w) : (Op.eqFields d xs ys (f :: fs)).run P w = .ok (e && r) w := by
  simp only [Op.eqFields, Sem.run_bind, Sem.run_ite, hn, ne_eq, not_false_eq_true, if_true]
  simp only [part1 h hd xs _ u hx, part1 h hd ys _ u' hy, he, Result.andThen_ok]
  cases e <;> simp [hr]
theorem pr_pnot {t e : TypeId} {x y : Operand} (h : P.underlying t = some (.pointer e)) {p : Option Addr} : PR P (binS .neq t x y (.pointer p) (.pointer none)) (.bool p.isSome) := by
  intro w
  have he : P.pointee t = e := by simp [Program.pointee, h]
  have hn : P.underlying t = some (.pointer (P.pointee t)) := by rw [he]; exact h
  simp only [binS, eqGuard_at_pointer, Sem.run_bind, Sem.run_pure, Result.andThen_ok]
  cases p with
  | none => simp [run_neq_pointer_nil w t none hn]
  | some a => simp [run_neq_pointer_nil w t (some a) hn]
end
end Go.Proofs.Ytcfncjejpjjhdaa.E
namespace Go.Proofs.Ytcfncjejpjjhdaa.E
open Go Go.RowKit

section
variable {P : Program} {K : Value → World → Prop} {S : World → Prop} {w : World}
/-- x[i], any element size. -/
theorem ixN {t e : TypeId} (h : P.underlying t = some (.slice e)) {s : Nat} (hs : (P.info? e).map (·.size) = some s) {a : Addr} {n c : Nat} {kd : IntKind} (i : Nat) (h1 : i < n)
    (k : K (.pointer (some (a.add (i * s)))) w) : LiftP P (Instr.indexAt t (.slice (some a) n c) (.int kd (i : Int))) K w :=
  ix h hs (by omega) (by omega) (by rw [Int.toNat_natCast]; exact k)
theorem ixG {t e : TypeId} (h : P.underlying t = some (.slice e)) {s : Nat} (hs : (P.info? e).map (·.size) = some s) {g n c : Nat} {kd : IntKind} (i : Nat) (h1 : i < n)
    (k : K (.pointer (some ⟨g, i * s, none⟩)) w) : LiftP P (Instr.indexAt t (.slice (some ⟨g, 0, none⟩) n c) (.int kd (i : Int))) K w :=
  ixN h hs i h1 (by rw [add0, Nat.zero_add]; exact k)
theorem yixG {t e : TypeId} (h : P.underlying t = some (.slice e)) {s : Nat} (hs : (P.info? e).map (·.size) = some s) {g n c : Nat} {kd : IntKind} (i : Nat) (h1 : i < n)
    (k : K (.pointer (some ⟨g, i * s, none⟩)) w) : YieldP P S (Instr.indexAt t (.slice (some ⟨g, 0, none⟩) n c) (.int kd (i : Int))) K w :=
  yixA h hs i h1 (by rw [add0, Nat.zero_add]; exact k)
/-- a field behind any place of a block -/
theorem fdG {s : TypeId} {i o n : Nat} (h : fofs P s i = some (o, n)) (hn : n ≠ 0) {g q : Nat} (k : K (.pointer (some ⟨g, q + o, none⟩)) w) : LiftP P (Instr.fieldAt s (.pointer (some ⟨g, q, none⟩)) i) K w :=
  fdA h hn (by rw [add0]; exact k)
theorem yfdG {s : TypeId} {i o n : Nat} (h : fofs P s i = some (o, n)) (hn : n ≠ 0) {g q : Nat} (k : K (.pointer (some ⟨g, q + o, none⟩)) w) : YieldP P S (Instr.fieldAt s (.pointer (some ⟨g, q, none⟩)) i) K w :=
  yfdA h hn (by rw [add0]; exact k)
theorem stM {t tt : TypeId} {g o : Nat} {cur cells : Array Value} (hb : Blk w g tt cur) (hi : (P.info? t).map (·.size) = some cells.size) (hl : o + cells.size ≤ cur.size) (h1 : cells.all (·.oneCell') = true)
    (k : K undef (w.setRow g (cur.toList.take o ++ cells.toList ++ cur.toList.drop (o + cells.size)).toArray)) : LiftU P (Instr.storeAt t (.pointer (some ⟨g, o, none⟩)) (.agg cells)) K w := by
  have hr := run_storeCells_at (P := P) g o tt cells.toList 0 cur w hb (by simpa using hl) (fun v hv => (Array.all_eq_true_iff_forall_mem.1 h1) v (by simpa using hv))
  refine liftU (u := ()) ?_ k
  cases hq : P.info? t with
  | none => simp [hq] at hi
  | some i =>
    have hs : i.size = cells.size := by simpa [hq] using hi
    simp only [Nat.add_zero, Array.length_toList] at hr
    simp [Instr.storeAt, Instr.sureAddr, storeVar, sizeOf, typeInfo, hq, Value.cells, hs, hr]
end
theorem take_mid {α : Type} (m o s : Nat) (cur cells : List α) (hs : cells.length = s) (ho : o + s ≤ m) (hm : m ≤ cur.length) : (cur.take o ++ cells ++ cur.drop (o + s)).take m = (cur.take m).take o ++ cells ++ (cur.take m).drop (o + s) := by
  rw [List.take_append, List.take_append, List.length_append, List.length_take, hs, List.drop_take]
  have e1 : min o cur.length = o := by omega
  rw [e1, List.take_take, List.take_take, show min m o = o from by omega, show min o m = o from by omega, List.take_of_length_le (l := cells) (by omega)]
section
variable {P : Program} {K : Value → World → Prop} {w : World}
/-- One element of a row of structs is written whole. -/
theorem stE {s : Nat} {e t : TypeId} {g n c : Nat} {cs : List Value} {cells : Array Value} (h : OwnR s e w (.slice (some ⟨g, 0, none⟩) n c) n cs) (i : Nat) (hi : i < n) (hs : cells.size = s) (hinfo : (P.info? t).map (·.size) = some s) (h1 : cells.all (·.oneCell') = true)
    (k : ∀ w', OwnR s e w' (.slice (some ⟨g, 0, none⟩) n c) n (cs.take (i * s) ++ cells.toList ++ cs.drop (i * s + s)) → Turns (fun j => j = g) w w' → K undef w') : LiftU P (Instr.storeAt t (.pointer (some ⟨g, i * s, none⟩)) (.agg cells)) K w := by
  obtain ⟨hl, h⟩ := h
  rcases h with ⟨h, _⟩ | ⟨g', c', cur, he, hb, h2, h3, h4, h5⟩
  · cases h
  cases he
  have hle : i * s + s ≤ n * s := by
    have := Nat.mul_le_mul_right s (show i + 1 ≤ n from hi)
    rw [Nat.succ_mul] at this; omega
  refine stM hb (by rw [hinfo, hs]) (by omega) h1 (k _ ⟨?_, .inr ⟨g, c, _, rfl, hb.row _, h2, h3, ?_, ?_⟩⟩ (Turns.setRow (F := fun j => j = g) (Turns.refl _ w) (.inl rfl) _))
  · simp only [List.length_append, List.length_take, List.length_drop, Array.length_toList, hl, hs]; omega
  · simp only [List.size_toArray, List.length_append, List.length_take, List.length_drop, Array.length_toList, hs]; omega
  · rw [List.toList_toArray, hs, take_mid (n * s) (i * s) s cur.toList cells.toList (by simpa using hs) hle (by simpa using h4), h5]
end
section
variable {P : Program} {K : Value → World → Prop} {S : World → Prop} {w : World}
theorem yixB {t e : TypeId} {n : Nat} (h : P.underlying t = some (.array n e)) (hs : (P.info? e).map (·.size) = some 1) {g : Nat} {kd : IntKind} (i : Nat) (h1 : i < n)
    (k : K (.pointer (some ⟨g, i, none⟩)) w) : YieldP P S (Instr.indexAt t (.pointer (some ⟨g, 0, none⟩)) (.int kd (i : Int))) K w := by
  obtain ⟨j, hj, hs⟩ := Option.map_eq_some_iff.1 hs
  refine yld (v := .pointer (some ⟨g, i, none⟩)) (fun w' _ => ?_) k
  simp [Instr.indexAt, run_underlying h, asIntOf, h1, sizeOf, typeInfo, hj, hs, Instr.sureAddr, add0]
/-- append(v, x...), elements of any size: the row's block is v's, or new. -/
theorem apGb {t ty e : TypeId} {cs : Array Bool} {z : Value} {size bytes : Nat} (ht : P.underlying t = some (.slice e)) (hinfo : (P.info? e).map (fun i => (i.zero, i.size, i.bytes)) = some (some z, size, bytes)) (hz : z.cells.size = size) (hsz : 0 < size)
    {v : Value} {xs : List Value} {n : Nat} (hown : w.ownsRow 0 e size v n xs) {a : Addr} {m c : Nat} {news : List Value} (hl : news.length = m * size) (hnews : ∀ j u, news[j]? = some u → w.cell? (a.add j) = some u) (h1 : ∀ u ∈ news, u.oneCell' = true)
    (h63 : n + m ≤ 9223372036854775807) (hbytes : (n + m) * bytes ≤ 140737488355328)
    (k : ∀ v' w', w'.ownsRow 0 e size v' (n + m) (xs ++ news) → (v'.ownBlock = v.ownBlock ∨ v'.ownBlock = some w.heap.size) → Turns (fun j => v.ownBlock = some j) w w' → K v' w') : NextP P (builtin .append #[t, t] ty cs #[v, .slice (some a) m c]) K w := by
  obtain ⟨i, hi, hzz⟩ := Option.map_eq_some_iff.1 hinfo
  simp only [Prod.mk.injEq] at hzz
  obtain ⟨hz0, hz1, hz2⟩ := hzz
  obtain ⟨v', w', hr, h2, h3, _, h5⟩ := run_append_own_at (P := P) w 0 t ty e i z size bytes ht hi hz0 hz1 hz2 hz hsz v n xs hown a m c news hl hnews h1 (by simp only [maxLen]; omega) hbytes (Nat.zero_le _)
  refine nextV (v := v') (w' := w') ?_ (k v' w' h2 h5 ⟨h3.os, h3.tape, h3.output, h3.size, fun j hj hF => h3.block j hj (fun e => hF e.symm)⟩)
  simp only [builtin]
  simp [hr]
end
theorem ownsRow_turns {s : Nat} {e : TypeId} {w w' : World} {v : Value} {n : Nat} {xs : List Value} {F : Nat → Prop} (h : w.ownsRow 0 e s v n xs) (hT : Turns F w w') (hF : ∀ k, v.ownBlock = some k → ¬ F k) : w'.ownsRow 0 e s v n xs := by
  refine ⟨h.1, ?_⟩
  rcases h.2 with h | ⟨g, c, cur, rfl, h0, hb, h1⟩
  · exact .inl h
  · have hlt : g < w.heap.size := (Array.getElem?_eq_some_iff.1 hb).1
    exact .inr ⟨g, c, cur, rfl, h0, (hT.block g hlt (hF g rfl)).trans hb, h1⟩
theorem ownsRow_lt {s : Nat} {e : TypeId} {w : World} {v : Value} {n : Nat} {xs : List Value} (h : w.ownsRow 0 e s v n xs) {k : Nat} (hk : v.ownBlock = some k) : k < w.heap.size := by
  rcases h.2 with ⟨rfl, _⟩ | ⟨g, c, cur, rfl, h0, hb, h1⟩
  · cases hk
  · have : g = k := by simpa [Value.ownBlock] using hk
    subst this
    exact (Array.getElem?_eq_some_iff.1 hb).1
section
variable {P : Program} {K : Value → World → Prop} {w : World}
/-- append(v, x...), x any row of structs: of its elements alone something is asked. -/
theorem apRm {t ty e : TypeId} {cs : Array Bool} {z : Value} {size bytes : Nat} (B : Nat) (ht : P.underlying t = some (.slice e)) (hinfo : (P.info? e).map (fun i => (i.zero, i.size, i.bytes)) = some (some z, size, bytes)) (hz : z.cells.size = size) (hsz : 0 < size)
    {v : Value} {xs : List Value} {n : Nat} (hown : w.ownsRow 0 e size v n xs) (hf : Fresh B v) (hB : B ≤ w.heap.size) {α : Type} {f : α → List Value} (hfl : ∀ x, (f x).length = size)
    {x : Value} {l : List α} (hf1 : ∀ x ∈ l, ∀ u ∈ f x, u.oneCell' = true) (hx : rRow size (fun _ us x => us = f x) w [x] l) (h63 : n + l.length ≤ 9223372036854775807) (hbytes : (n + l.length) * bytes ≤ 140737488355328)
    (k : ∀ v' w', w'.ownsRow 0 e size v' (n + l.length) (xs ++ l.flatMap f) → Fresh B v' → Below B w w' → K v' w') : NextP P (builtin .append #[t, t] ty cs #[v, x]) K w := by
  obtain ⟨A, c, he, h1, h2, h3⟩ := hx
  simp only [List.cons.injEq, and_true] at he
  subst he
  cases A with
  | none =>
    have h0 : l = [] := by
      cases l with
      | nil => rfl
      | cons p r => obtain ⟨a, us, h, _⟩ := h3 0 p rfl; cases h
    subst h0
    obtain ⟨i, hi, hzz⟩ := Option.map_eq_some_iff.1 hinfo
    refine nextV (v := v) (w' := w) ?_ (k v w (by simpa using hown) hf (Below.refl B w))
    have hrun : (Builtin.append_ #[t, t] ty #[v, .slice none 0 c]).run P w = .ok v w := by
      rcases hown.2 with ⟨rfl, _⟩ | ⟨g, cap, cur, rfl, _, _, hnc, _⟩
      · simp [Builtin.append_, run_underlying ht, sizeOf, typeInfo, hi, Builtin.lenOf, Builtin.firstCells]
      · simp [Builtin.append_, run_underlying ht, sizeOf, typeInfo, hi, Builtin.lenOf, Builtin.firstCells, hnc, storeCells]
    simp only [builtin, List.length_nil] at hrun ⊢
    simp [hrun]
  | some a =>
    refine apG B ht hinfo hz hsz hown hf hB (news := l.flatMap f) (flatMap_len f size hfl l) (fun j u hu => ?_) (fun u hu => ?_) h63 hbytes (fun v' w' q1 q2 q3 _ => k v' w' q1 q2 q3)
    · have hj := (List.getElem?_eq_some_iff.1 hu).1
      rw [flatMap_len f size hfl] at hj
      have hi : j / size < l.length := Nat.div_lt_of_lt_mul (by rw [Nat.mul_comm]; exact hj)
      have hm : j % size < size := Nat.mod_lt _ hsz
      obtain ⟨a', us, ha, hus, hcell, hrd⟩ := h3 (j / size) l[j / size] (List.getElem?_eq_getElem hi)
      cases ha
      have hdm : j / size * size + j % size = j := Nat.div_add_mod' j size
      have := flatMap_at f size hfl l (j / size) (j % size) l[j / size] (List.getElem?_eq_getElem hi) hm
      rw [hdm, hu] at this
      have hx : us = f l[j / size] := hrd
      subst hx
      have := hcell (j % size) u this.symm
      rwa [hdm] at this
    · obtain ⟨x, hxl, hx⟩ := List.mem_flatMap.1 hu
      exact hf1 x hxl u hx
end
theorem Turns.cut {F : Nat → Prop} {w w' : World} (h : Turns F w w') : Turns (fun k => F k ∧ k < w.heap.size) w w' := ⟨h.os, h.tape, h.output, h.size, fun k hk hF => h.block k hk fun e => hF ⟨e, hk⟩⟩
theorem flatMap_put {α β : Type} (f : α → List β) (s : Nat) (hf : ∀ x, (f x).length = s) (y : α) : ∀ (l : List α) (i : Nat), i < l.length → (l.flatMap f).take (i * s) ++ f y ++ (l.flatMap f).drop (i * s + s) = (l.set i y).flatMap f := by
  intro l
  induction l with
  | nil => intro i h; simp at h
  | cons z r ih =>
    intro i h
    cases i with
    | zero =>
      rw [Nat.zero_mul, List.take_zero, List.nil_append, Nat.zero_add, List.flatMap_cons, List.set_cons_zero, List.flatMap_cons, List.drop_append_of_le_length (by rw [hf]; omega), List.drop_of_length_le (by rw [hf]; omega), List.nil_append]
    | succ i =>
      have := ih i (by simp at h; omega)
      rw [List.flatMap_cons, List.set_cons_succ, List.flatMap_cons, ← this, Nat.succ_mul, List.take_append, List.drop_append, hf, List.take_of_length_le (by rw [hf]; omega), List.drop_of_length_le (l := f z) (by rw [hf]; omega)]
      rw [show i * s + s - s = i * s from by omega, show i * s + s + s - s = i * s + s from by omega]
      simp [List.append_assoc]
end Go.Proofs.Ytcfncjejpjjhdaa.E
namespace Go.Proofs.Ytcfncjejpjjhdaa.E
open Go Go.RowKit

/-- A text. -/
def tS (t : List UInt8) : Value := .string ⟨t.toArray⟩
theorem tS_of (s : ByteArray) : Value.string s = tS s.data.toList := by unfold tS; rw [Array.toArray_toList]
theorem bytesLess_lt : ∀ (x y : List UInt8), Op.bytesLess x y = decide (x < y)
  | [], [] => by simp [Op.bytesLess]
  | [], b :: y => by simp [Op.bytesLess]
  | a :: x, [] => by simp [Op.bytesLess]
  | a :: x, b :: y => by
    rw [Op.bytesLess, bytesLess_lt x y]
    simp only [List.cons_lt_cons_iff]
    by_cases h1 : a < b <;> by_cases h2 : a = b <;> by_cases h3 : x < y <;> simp [h1, h2, h3]
section
variable {P : Program} {K : Value → World → Prop} {S : World → Prop} {w : World} {ty : TypeId} {x y : Operand}
theorem le_dec (t u : List UInt8) : (Op.bytesLess t u || t == u) = decide (¬ u < t) := by
  rw [bytesLess_lt]
  by_cases h1 : u < t
  · have h2 : ¬ t < u := by grind
    have h3 : t ≠ u := by grind
    simp [h1, h2, h3]
  · by_cases h2 : t < u
    · simp [h1, h2]
    · have h3 : t = u := by grind
      subst h3; simp
theorem pt_eql (t u : List UInt8) : PR P (binS .eql ty x y (tS t) (tS u)) (.bool (decide (t = u))) := by
  have h := pr_seql (P := P) (t := ty) (x := x) (y := y) (a := ⟨t.toArray⟩) (b := ⟨u.toArray⟩)
  simp only at h
  exact h
theorem pt_neq (t u : List UInt8) : PR P (binS .neq ty x y (tS t) (tS u)) (.bool (decide (t ≠ u))) := by
  have h := pr_sneq (P := P) (t := ty) (x := x) (y := y) (a := ⟨t.toArray⟩) (b := ⟨u.toArray⟩)
  simp only at h
  exact h
theorem pt_lss (t u : List UInt8) : PR P (binS .lss ty x y (tS t) (tS u)) (.bool (decide (t < u))) := by
  have h := pr_slss (P := P) (t := ty) (x := x) (y := y) (a := ⟨t.toArray⟩) (b := ⟨u.toArray⟩)
  rw [bytesLess_lt] at h
  exact h
theorem pt_geq (t u : List UInt8) : PR P (binS .geq ty x y (tS t) (tS u)) (.bool (decide (¬ t < u))) := by
  have h := pr_sgeq (P := P) (t := ty) (x := x) (y := y) (a := ⟨t.toArray⟩) (b := ⟨u.toArray⟩)
  rw [bytesLess_lt] at h
  have e : (!decide (t < u)) = decide (¬ t < u) := by by_cases h : t < u <;> simp [h]
  simp only at h
  rw [e] at h
  exact h
theorem pt_leq (t u : List UInt8) : PR P (binS .leq ty x y (tS t) (tS u)) (.bool (decide (¬ u < t))) := by
  have h := pr_sleq (P := P) (t := ty) (x := x) (y := y) (a := ⟨t.toArray⟩) (b := ⟨u.toArray⟩)
  simp only at h
  rw [le_dec] at h
  exact h
theorem pt_gtr (t u : List UInt8) : PR P (binS .gtr ty x y (tS t) (tS u)) (.bool (decide (u < t))) := by
  have h := pr_sgtr (P := P) (t := ty) (x := x) (y := y) (a := ⟨t.toArray⟩) (b := ⟨u.toArray⟩)
  simp only at h
  rw [le_dec] at h
  have e : (!decide (¬ u < t)) = decide (u < t) := by by_cases h : u < t <;> simp [h]
  rw [e] at h
  exact h
theorem tl_eql {t u : List UInt8} (k : K (.bool (decide (t = u))) w) : LiftP P (binS .eql ty x y (tS t) (tS u)) K w := ofPR (pt_eql t u) k
theorem tl_neq {t u : List UInt8} (k : K (.bool (decide (t ≠ u))) w) : LiftP P (binS .neq ty x y (tS t) (tS u)) K w := ofPR (pt_neq t u) k
theorem tl_lss {t u : List UInt8} (k : K (.bool (decide (t < u))) w) : LiftP P (binS .lss ty x y (tS t) (tS u)) K w := ofPR (pt_lss t u) k
theorem tl_geq {t u : List UInt8} (k : K (.bool (decide (¬ t < u))) w) : LiftP P (binS .geq ty x y (tS t) (tS u)) K w := ofPR (pt_geq t u) k
theorem tl_leq {t u : List UInt8} (k : K (.bool (decide (¬ u < t))) w) : LiftP P (binS .leq ty x y (tS t) (tS u)) K w := ofPR (pt_leq t u) k
theorem tl_gtr {t u : List UInt8} (k : K (.bool (decide (u < t))) w) : LiftP P (binS .gtr ty x y (tS t) (tS u)) K w := ofPR (pt_gtr t u) k
theorem ty_eql {t u : List UInt8} (k : K (.bool (decide (t = u))) w) : YieldP P S (binS .eql ty x y (tS t) (tS u)) K w := yofPR (pt_eql t u) k
theorem ty_neq {t u : List UInt8} (k : K (.bool (decide (t ≠ u))) w) : YieldP P S (binS .neq ty x y (tS t) (tS u)) K w := yofPR (pt_neq t u) k
theorem ty_leq {t u : List UInt8} (k : K (.bool (decide (¬ u < t))) w) : YieldP P S (binS .leq ty x y (tS t) (tS u)) K w := yofPR (pt_leq t u) k
theorem ty_gtr {t u : List UInt8} (k : K (.bool (decide (u < t))) w) : YieldP P S (binS .gtr ty x y (tS t) (tS u)) K w := yofPR (pt_gtr t u) k
/-- the same, against the empty text -/
theorem tl_eql0 {t : List UInt8} (k : K (.bool (decide (t = []))) w) : LiftP P (binS .eql ty x y (tS t) (.string { data := #[] })) K w := tl_eql (u := []) k
theorem tl_neq0 {t : List UInt8} (k : K (.bool (decide (t ≠ []))) w) : LiftP P (binS .neq ty x y (tS t) (.string { data := #[] })) K w := tl_neq (u := []) k
theorem ty_eql0 {t : List UInt8} (k : K (.bool (decide (t = []))) w) : YieldP P S (binS .eql ty x y (tS t) (.string { data := #[] })) K w := ty_eql (u := []) k
theorem ty_neq0 {t : List UInt8} (k : K (.bool (decide (t ≠ []))) w) : YieldP P S (binS .neq ty x y (tS t) (.string { data := #[] })) K w := ty_neq (u := []) k
theorem tln {t tt : TypeId} (h : P.underlying t = some .string) {cs : Array Bool} {u : List UInt8} (k : K (.int .i64 u.length) w) : NextP P (builtin .len #[t] tt cs #[tS u]) K w :=
  lns h (by
    have e : (⟨u.toArray⟩ : ByteArray).size = u.length := by show (u.toArray).size = _; simp
    rw [e]; exact k)
theorem run_tmax (w : World) (ts : Array TypeId) (t : TypeId) (a b : List UInt8) : (Builtin.max_ ts t #[tS a, tS b]).run P w = .ok (tS (if a < b then b else a)) w := by
  have h := pt_geq (P := P) (ty := t) (x := .const undef) (y := .const undef) a b w
  have e : (Op.stringOp .geq ⟨a.toArray⟩ ⟨b.toArray⟩).run P w = .ok (.bool (decide (¬ a < b))) w := by
    rw [← h]
    simp [binS, binOp, eqGuard, tS]
  unfold tS
  by_cases hh : a < b <;> simp [Builtin.max_, Builtin.max2, e, hh, asBool]
theorem ytmax {ts : Array TypeId} {t : TypeId} {cs : Array Bool} {a b : List UInt8} (k : K (tS (if a < b then b else a)) w) : YieldN P S (builtin .max ts t cs #[tS a, tS b]) K w :=
  yldN (v := tS (if a < b then b else a)) (fun w' _ => by
    have := run_tmax (P := P) w' ts t a b
    simp only [builtin] at this ⊢
    simp [this]) k
end
end Go.Proofs.Ytcfncjejpjjhdaa.E
namespace Go.Proofs.Ytcfncjejpjjhdaa.E
open Go Go.RowKit

theorem rowAt {s : Nat} {e : TypeId} {w : World} {v : Value} {α : Type} {f : α → List Value} {l : List α} (hf : ∀ x, (f x).length = s) (h : OwnR s e w v l.length (l.flatMap f)) (i : Nat) (hi : i < l.length) (hs : 0 < s) :
    ∃ g c, v = .slice (some ⟨g, 0, none⟩) l.length c ∧ ∀ j u, (f l[i])[j]? = some u → w.cell? ⟨g, i * s + j, none⟩ = some u := by
  obtain ⟨A, c, rfl, _, _⟩ := h.slice
  have hle : i * s + s ≤ l.length * s := by
    have := Nat.mul_le_mul_right s (show i + 1 ≤ l.length from hi)
    rw [Nat.succ_mul] at this; omega
  obtain ⟨g, _, rfl, _, _, _⟩ := h.at (i * s) (by omega)
  refine ⟨g, c, rfl, fun j u hu => ?_⟩
  have hj : j < s := by have := (List.getElem?_eq_some_iff.1 hu).1; rw [hf] at this; exact this
  obtain ⟨g', u', he, hu', hc, _⟩ := h.at (i * s + j) (by omega)
  cases he
  rw [hc]
  have := flatMap_at f s hf l i j l[i] (List.getElem?_eq_getElem hi) hj
  rw [hu', hu] at this
  exact this
theorem OwnR.cutFrom {s : Nat} {e : TypeId} {w : World} {A : Option Addr} {c : Nat} {α : Type} {f : α → List Value} {l : List α} (hf : ∀ x, (f x).length = s) (hs : 0 < s) (h : OwnR s e w (.slice A l.length c) l.length (l.flatMap f)) (j : Nat) (hj : j ≤ l.length) :
    rRow s (fun _ us x => us = f x) w [sliced A j l.length c s] (l.drop j) := by
  obtain ⟨A', c', he, hc, hm⟩ := h.slice
  cases he
  refine ⟨_, _, by rw [List.length_drop]; rfl, by rw [List.length_drop]; omega, by omega, fun i x hx => ?_⟩
  have hi : j + i < l.length := by
    have := (List.getElem?_eq_some_iff.1 hx).1
    rw [List.length_drop] at this; omega
  obtain ⟨g, c2, he, hcell⟩ := rowAt hf h (j + i) hi hs
  cases he
  rw [List.getElem?_drop, List.getElem?_eq_getElem hi] at hx
  cases hx
  refine ⟨⟨g, j * s, none⟩, f l[j + i], ?_, hf _, fun k u hu => ?_, rfl⟩
  · rw [if_neg (by omega), Option.map_some, add0, Nat.zero_add]
  · rw [add0, ← Nat.add_assoc, ← Nat.add_mul]
    exact hcell k u hu
theorem apOne {P : Program} {K : Value → World → Prop} {w : World} {t ty e : TypeId} {cs : Array Bool} {z : Value} {size bytes : Nat} (ht : P.underlying t = some (.slice e)) (hinfo : (P.info? e).map (fun i => (i.zero, i.size, i.bytes)) = some (some z, size, bytes)) (hz : z.cells.size = size) (hsz : 0 < size)
    {v : Value} {xs : List Value} {n : Nat} (hown : w.ownsRow 0 e size v n xs) {us : List Value} (hl : us.length = size) (h1 : ∀ u ∈ us, u.oneCell' = true) (h63 : n + 1 ≤ 9223372036854775807) (hbytes : (n + 1) * bytes ≤ 140737488355328)
    (hb : (Instr.buildSlice t 1 #[(0, .agg us.toArray)]).run P w = .ok (.slice (some ⟨w.heap.size, 0, none⟩) 1 1) (w.alloc (.cells us.toArray e)))
    (k : ∀ v' w', w'.ownsRow 0 e size v' (n + 1) (xs ++ us) → (v'.ownBlock = v.ownBlock ∨ ∃ b, v'.ownBlock = some b ∧ w.heap.size ≤ b) → Turns (fun j => v.ownBlock = some j) w w' → K v' w') :
    LiftP P (Instr.buildSlice t 1 #[(0, .agg us.toArray)]) (fun u w => NextP P (builtin .append #[t, t] ty cs #[v, u]) K w) w := by
  refine lift hb ?_
  have hB := Blk.new w e us.toArray
  have ha := (Below.refl w.heap.size w).alloc (Nat.le_refl _) (.cells us.toArray e)
  have hs := ha.size
  refine apGb ht hinfo hz hsz (ownsRow_turns hown (Turns.of_below (F := fun _ => False) ha) (fun _ _ h => h)) (a := ⟨w.heap.size, 0, none⟩) (m := 1) (c := 1) (news := us) (by rw [hl, Nat.one_mul]) (fun j u hu => by
    rw [add0, Nat.zero_add, hB.cell j]
    simpa using hu) h1 h63 hbytes ?_
  intro v' w' ho hbl hT
  refine k v' w' ho (hbl.imp id fun h => ⟨_, h, hs⟩) ((Turns.of_below ha).trans (hT.mono fun j _ e => .inl e))
theorem Fresh.one {B : Nat} {w : World} {v v' : Value} (h : Fresh B v) (hB : B ≤ w.heap.size) (hbl : v'.ownBlock = v.ownBlock ∨ ∃ b, v'.ownBlock = some b ∧ w.heap.size ≤ b) : Fresh B v' := fun k hk => by
  rcases hbl with e | ⟨b, e, hb⟩
  · exact h k (by rw [← e]; exact hk)
  · rw [e] at hk; cases hk; omega
theorem Turns.fresh {B : Nat} {w w' : World} {v : Value} (hT : Turns (fun j => v.ownBlock = some j) w w') (h : Fresh B v) (hB : B ≤ w.heap.size) : Below B w w' := hT.below hB fun k hk e => by have := h k e; omega
section
variable {P : Program} {K : Value → World → Prop} {S : World → Prop} {w : World} {ty : TypeId} {x y : Operand}
theorem dec_K {p : Prop} [Decidable p] (h1 : p → K (.bool true) w) (h2 : ¬ p → K (.bool false) w) : K (.bool (decide p)) w := by
  by_cases h : p
  · rw [decide_eq_true h]; exact h1 h
  · rw [decide_eq_false h]; exact h2 h
theorem tB {p : Prop} [Decidable p] (h : p) : Value.bool true = .bool (decide p) := by rw [decide_eq_true h]
theorem fB {p : Prop} [Decidable p] (h : ¬ p) : Value.bool false = .bool (decide p) := by rw [decide_eq_false h]
theorem tl_eql_c {t u : List UInt8} (h1 : t = u → K (.bool true) w) (h2 : ¬ (t = u) → K (.bool false) w) : LiftP P (binS .eql ty x y (tS t) (tS u)) K w := tl_eql (dec_K h1 h2)
theorem tl_eql0_c {t : List UInt8} (h1 : t = [] → K (.bool true) w) (h2 : ¬ (t = []) → K (.bool false) w) : LiftP P (binS .eql ty x y (tS t) (.string { data := #[] })) K w := tl_eql0 (dec_K h1 h2)
theorem tl_neq_f {t u : List UInt8} (h : ¬ (t ≠ u)) (k : K (.bool false) w) : LiftP P (binS .neq ty x y (tS t) (tS u)) K w := tl_neq (dec_K (fun e => absurd e h) (fun _ => k))
theorem tl_neq0_c {t : List UInt8} (h1 : t ≠ [] → K (.bool true) w) (h2 : ¬ (t ≠ []) → K (.bool false) w) : LiftP P (binS .neq ty x y (tS t) (.string { data := #[] })) K w := tl_neq0 (dec_K h1 h2)
theorem tl_lss_c {t u : List UInt8} (h1 : t < u → K (.bool true) w) (h2 : ¬ (t < u) → K (.bool false) w) : LiftP P (binS .lss ty x y (tS t) (tS u)) K w := tl_lss (dec_K h1 h2)
theorem tl_geq_c {t u : List UInt8} (h1 : ¬ t < u → K (.bool true) w) (h2 : ¬ (¬ t < u) → K (.bool false) w) : LiftP P (binS .geq ty x y (tS t) (tS u)) K w := tl_geq (dec_K h1 h2)
theorem tl_leq_c {t u : List UInt8} (h1 : ¬ u < t → K (.bool true) w) (h2 : ¬ (¬ u < t) → K (.bool false) w) : LiftP P (binS .leq ty x y (tS t) (tS u)) K w := tl_leq (dec_K h1 h2)
theorem tl_gtr_c {t u : List UInt8} (h1 : u < t → K (.bool true) w) (h2 : ¬ (u < t) → K (.bool false) w) : LiftP P (binS .gtr ty x y (tS t) (tS u)) K w := tl_gtr (dec_K h1 h2)
theorem ty_eql0_c {t : List UInt8} (h1 : t = [] → K (.bool true) w) (h2 : ¬ (t = []) → K (.bool false) w) : YieldP P S (binS .eql ty x y (tS t) (.string { data := #[] })) K w := ty_eql0 (dec_K h1 h2)
theorem ty_neq0_c {t : List UInt8} (h1 : t ≠ [] → K (.bool true) w) (h2 : ¬ (t ≠ []) → K (.bool false) w) : YieldP P S (binS .neq ty x y (tS t) (.string { data := #[] })) K w := ty_neq0 (dec_K h1 h2)
theorem ty_leq_c {t u : List UInt8} (h1 : ¬ u < t → K (.bool true) w) (h2 : ¬ (¬ u < t) → K (.bool false) w) : YieldP P S (binS .leq ty x y (tS t) (tS u)) K w := ty_leq (dec_K h1 h2)
theorem ty_gtr_c {t u : List UInt8} (h1 : u < t → K (.bool true) w) (h2 : ¬ (u < t) → K (.bool false) w) : YieldP P S (binS .gtr ty x y (tS t) (tS u)) K w := ty_gtr (dec_K h1 h2)
end
section
variable {P : Program} {K : Value → World → Prop} {S : World → Prop} {w : World} {t : TypeId}
theorem bxB {cs : Array Value} (k : ∀ g w', g = w.heap.size → Blk w' g t cs → Below w.heap.size w w' → K (.pointer (some ⟨g, 0, none⟩)) w') : LiftP P (Instr.box t (.agg cs)) K w :=
  bx (k _ _ rfl (Blk.new w t cs) ((Below.refl _ _).alloc (Nat.le_refl _) _))
theorem alB {cs : Array Value} (hz : (P.info? t).bind (·.zero) = some (.agg cs)) (k : ∀ g w', g = w.heap.size → Blk w' g t cs → Below w.heap.size w w' → K (.pointer (some ⟨g, 0, none⟩)) w') : LiftP P (Instr.alloc t true (.tuple #[])) K w :=
  al hz (k _ _ rfl (Blk.new w t cs) ((Below.refl _ _).alloc (Nat.le_refl _) _))
theorem stB {g : Nat} {old cells : Array Value} (hb : Blk w g t old) (hi : (P.info? t).map (·.size) = some cells.size) (ho : old.size = cells.size) (h1 : cells.all (·.oneCell') = true)
    {K : Value → World → Prop} (k : ∀ w', Blk w' g t cells → Turns (fun j => j = g) w w' → K undef w') : LiftU P (Instr.storeAt t (.pointer (some ⟨g, 0, none⟩)) (.agg cells)) K w :=
  stA hb hi ho h1 (k _ (hb.row cells) (Turns.setRow (F := fun j => j = g) (Turns.refl _ w) (.inl rfl) _))
theorem Turns.own {B g : Nat} {w w' : World} (h : Turns (fun j => j = g) w w') (hg : B ≤ g) (hB : B ≤ w.heap.size) : Below B w w' := h.below hB fun k hk e => by omega
theorem below_own {W w w' : World} {g : Nat} (hb : Below W.heap.size W w) (h : Turns (fun j => j = g) w w') (hg : W.heap.size ≤ g) : Below W.heap.size W w' := hb.trans (h.own hg hb.size)
end
end Go.Proofs.Ytcfncjejpjjhdaa.E
namespace Go.Proofs.Ytcfncjejpjjhdaa.E
open Go Go.RowKit

section
variable {P : Program} {K : Value → World → Prop} {S : World → Prop} {w : World}
theorem zeroCells_one {zc : Array Value} (h1 : zc.all (·.oneCell') = true) (h0 : 0 < zc.size) (n : Nat) : ∀ v ∈ (Builtin.zeroCells zc n).toList, v.oneCell' = true := by
  intro v hv
  unfold Builtin.zeroCells at hv
  simp only [Array.toList_map, List.mem_map] at hv
  obtain ⟨i, _, rfl⟩ := hv
  have hi : i % zc.size < zc.size := Nat.mod_lt _ h0
  rw [getElem!_pos zc (i % zc.size) hi]
  exact (Array.all_eq_true_iff_forall_mem.1 h1) _ (Array.getElem_mem hi)
theorem zeroCells_size (zc : Array Value) (n : Nat) : (Builtin.zeroCells zc n).size = n * zc.size := by simp [Builtin.zeroCells]
theorem clr {t tt e ty : TypeId} {cs : Array Bool} {z : Value} {s : Nat} (ht : P.underlying t = some (.slice e)) (hz : (P.info? e).bind (·.zero) = some z) (hs : z.cells.size = s) (h1 : z.cells.all (·.oneCell') = true) (h0 : 0 < s)
    {g o n c : Nat} {cur : Array Value} (hb : Blk w g tt cur) (hl : o + n * s ≤ cur.size) (hn : 0 < n)
    (k : ∀ w' cur', Blk w' g tt cur' → cur'.size = cur.size → cur'.toList.take o = cur.toList.take o → Turns (fun j => j = g) w w' → K (.tuple #[]) w') :
    NextP P (builtin .clear #[t] ty cs #[.slice (some ⟨g, o, none⟩) n c]) K w := by
  obtain ⟨m, rfl⟩ : ∃ m, n = m + 1 := ⟨n - 1, by omega⟩
  have hZ := zeroCells_one h1 (by omega) (m + 1)
  have hZs := zeroCells_size z.cells (m + 1)
  have hr := run_storeCells_at (P := P) g o tt (Builtin.zeroCells z.cells (m + 1)).toList 0 cur w hb (by simp only [Array.length_toList, hZs, hs]; omega) hZ
  simp only [Nat.add_zero, Array.length_toList, hZs, hs] at hr
  have hlen : (Builtin.zeroCells z.cells (m + 1)).toList.length = (m + 1) * s := by rw [Array.length_toList, hZs, hs]
  obtain ⟨i, hi, hzz⟩ := Option.bind_eq_some_iff.1 hz
  have hrun : (Builtin.clear_ #[t] ty #[.slice (some ⟨g, o, none⟩) (m + 1) c]).run P w = (do storeCells ⟨g, o, none⟩ (Builtin.zeroCells z.cells (m + 1)).toList; pure (Value.tuple #[]) : Sem Value).run P w := by
    simp [Builtin.clear_, run_underlying ht, zeroValue, typeInfo, hi, hzz]
  generalize (Builtin.zeroCells z.cells (m + 1)).toList = Z at *
  have hrun2 : (Builtin.clear_ #[t] ty #[.slice (some ⟨g, o, none⟩) (m + 1) c]).run P w = .ok (.tuple #[]) (w.setRow g (cur.toList.take o ++ Z ++ cur.toList.drop (o + (m + 1) * s)).toArray) := by
    rw [hrun]; simp [hr]
  refine nextV (v := .tuple #[]) (w' := w.setRow g (cur.toList.take o ++ Z ++ cur.toList.drop (o + (m + 1) * s)).toArray) ?_ (k _ _ (hb.row _) ?_ ?_ (Turns.setRow (F := fun j => j = g) (Turns.refl _ w) (.inl rfl) _))
  · simp only [builtin] at hrun2 ⊢
    simp [hrun2]
  · simp only [List.size_toArray, List.length_append, List.length_take, List.length_drop, Array.length_toList, hlen]; omega
  · rw [List.toList_toArray, List.append_assoc, List.take_append_of_le_length (by simp only [List.length_take, Array.length_toList]; omega), List.take_take, Nat.min_self]
/-- A row of the call's own, all behind the i-th element cleared. -/
theorem clrR {t e ty : TypeId} {cs : Array Bool} {z : Value} {s : Nat} (ht : P.underlying t = some (.slice e)) (hz : (P.info? e).bind (·.zero) = some z) (hs : z.cells.size = s) (h1 : z.cells.all (·.oneCell') = true) (h0 : 0 < s)
    {g n c i c' : Nat} {xs : List Value} (h : OwnR s e w (.slice (some ⟨g, 0, none⟩) n c) n xs) (hi : i < n)
    (k : ∀ w', OwnR s e w' (.slice (some ⟨g, 0, none⟩) i c) i (xs.take (i * s)) → Turns (fun j => j = g) w w' → K (.tuple #[]) w') :
    NextP P (builtin .clear #[t] ty cs #[.slice (some ⟨g, i * s, none⟩) (n - i) c']) K w := by
  obtain ⟨hl, h⟩ := h
  rcases h with ⟨h, _⟩ | ⟨g', c', cur, he, hb, h2, h3, h4, h5⟩
  · cases h
  cases he
  have hm : i * s + (n - i) * s = n * s := by rw [← Nat.add_mul]; congr 1; omega
  have hle : i * s ≤ n * s := Nat.mul_le_mul_right s (by omega)
  refine clr ht hz hs h1 h0 hb (by omega) (by omega) ?_
  intro w' cur' hb' hsz htk hT
  refine k w' ⟨by rw [List.length_take]; omega, .inr ⟨g, c, cur', rfl, hb', by omega, h3, by omega, ?_⟩⟩ hT
  rw [htk, ← h5, List.take_take, Nat.min_eq_left hle]
end
section
variable {P : Program} {K : Value → World → Prop} {w : World}
/-- One element appended, whatever the value it was built of. -/
theorem apOneV {t ty e : TypeId} {cs : Array Bool} {z : Value} {size bytes : Nat} (ht : P.underlying t = some (.slice e)) (hinfo : (P.info? e).map (fun i => (i.zero, i.size, i.bytes)) = some (some z, size, bytes)) (hz : z.cells.size = size) (hsz : 0 < size)
    {v : Value} {xs : List Value} {n : Nat} (hown : w.ownsRow 0 e size v n xs) {x : Value} {us : List Value} (hl : us.length = size) (h1 : ∀ u ∈ us, u.oneCell' = true) (h63 : n + 1 ≤ 9223372036854775807) (hbytes : (n + 1) * bytes ≤ 140737488355328)
    (hb : (Instr.buildSlice t 1 #[(0, x)]).run P w = .ok (.slice (some ⟨w.heap.size, 0, none⟩) 1 1) (w.alloc (.cells us.toArray e)))
    (k : ∀ v' w', w'.ownsRow 0 e size v' (n + 1) (xs ++ us) → (v'.ownBlock = v.ownBlock ∨ ∃ b, v'.ownBlock = some b ∧ w.heap.size ≤ b) → Turns (fun j => v.ownBlock = some j) w w' → K v' w') :
    LiftP P (Instr.buildSlice t 1 #[(0, x)]) (fun u w => NextP P (builtin .append #[t, t] ty cs #[v, u]) K w) w := by
  refine lift hb ?_
  have hB := Blk.new w e us.toArray
  have ha := (Below.refl w.heap.size w).alloc (Nat.le_refl _) (.cells us.toArray e)
  have hs := ha.size
  refine apGb ht hinfo hz hsz (ownsRow_turns hown (Turns.of_below (F := fun _ => False) ha) (fun _ _ h => h)) (a := ⟨w.heap.size, 0, none⟩) (m := 1) (c := 1) (news := us) (by rw [hl, Nat.one_mul]) (fun j u hu => by
    rw [add0, Nat.zero_add, hB.cell j]
    simpa using hu) h1 h63 hbytes ?_
  intro v' w' ho hbl hT
  refine k v' w' ho (hbl.imp id fun h => ⟨_, h, hs⟩) ((Turns.of_below ha).trans (hT.mono fun j _ e => .inl e))
end
theorem add_add (a : Addr) (m n : Nat) : (a.add m).add n = a.add (m + n) := by
  unfold Addr.add
  by_cases hm : m = 0 <;> by_cases hn : n = 0 <;> simp [hm, hn, Nat.add_assoc]
/-- A row read from its j-th element on. -/
theorem rRow.cutFrom {α : Type} {s : Nat} {r : Rdr α} {w : World} {A : Option Addr} {c : Nat} {l : List α} (h : rRow s r w [.slice A l.length c] l) (j : Nat) (hj : j ≤ l.length) : rRow s r w [sliced A j l.length c s] (l.drop j) := by
  obtain ⟨A', c', he, hc, hm, h3⟩ := h
  simp only [List.cons.injEq, Value.slice.injEq, and_true, true_and] at he
  obtain ⟨rfl, rfl⟩ := he
  refine ⟨_, _, by rw [List.length_drop]; rfl, by rw [List.length_drop]; omega, by omega, fun i x hx => ?_⟩
  have hi : j + i < l.length := by
    have := (List.getElem?_eq_some_iff.1 hx).1
    rw [List.length_drop] at this; omega
  rw [List.getElem?_drop] at hx
  obtain ⟨a, us, rfl, hus, hcell, hr⟩ := h3 (j + i) x hx
  refine ⟨a.add (j * s), us, by rw [if_neg (by omega)]; rfl, hus, fun k u hu => ?_, hr⟩
  rw [add_add, ← Nat.add_assoc, ← Nat.add_mul]
  exact hcell k u hu
end Go.Proofs.Ytcfncjejpjjhdaa.E
namespace Go.Proofs.Ytcfncjejpjjhdaa.E
open Go Go.RowKit

end Go.Proofs.Ytcfncjejpjjhdaa.E
