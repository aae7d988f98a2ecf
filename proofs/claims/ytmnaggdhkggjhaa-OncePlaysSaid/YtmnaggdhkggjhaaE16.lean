/-
  E16: arguments of any shape (numbers, texts, structs, slices, one in the other): readers, and that what came in is read by its reader.
-/
import Derived.Test.YtmnaggdhkggjhaaE12
import Derived.Deep.Matrix
import Derived.ChangeArms
namespace Go.Proofs.Ytmnaggdhkggjhaa.E
open Go Go.RowKit

abbrev Rdr (α : Type) := World → List Value → α → Prop
def rI (k : IntKind) : Rdr Int := fun _ cs n => cs = [.int k n] ∧ (Lit.int k n).wf = true
def rBool : Rdr Bool := fun _ cs b => cs = [.bool b]
def rS : Rdr ByteArray := fun _ cs s => cs = [.string s] ∧ s.size ≤ maxLen
def rNil : Rdr Unit := fun _ cs _ => cs = []
def rCons {α β : Type} (k : Nat) (r : Rdr α) (q : Rdr β) : Rdr (α × β) := fun w cs p => r w (cs.take k) p.1 ∧ q w (cs.drop k) p.2
def rRow {α : Type} (s : Nat) (r : Rdr α) : Rdr (List α) := fun w cs l => ∃ A c, cs = [.slice A l.length c] ∧ l.length ≤ c ∧ c ≤ maxLen ∧
  ∀ i x, l[i]? = some x → ∃ a us, A = some a ∧ us.length = s ∧ (∀ j u, us[j]? = some u → w.cell? (a.add (i * s + j)) = some u) ∧ r w us x

/-- What is read stays so while nothing of before is turned. -/
def Keeps {α : Type} (r : Rdr α) : Prop := ∀ w w' cs a, Below w.heap.size w w' → r w cs a → r w' cs a
theorem keeps_I (k : IntKind) : Keeps (rI k) := fun _ _ _ _ _ h => h
theorem keeps_Bool : Keeps rBool := fun _ _ _ _ _ h => h
theorem keeps_S : Keeps rS := fun _ _ _ _ _ h => h
theorem keeps_Nil : Keeps rNil := fun _ _ _ _ _ h => h
theorem keeps_Cons {α β : Type} {k : Nat} {r : Rdr α} {q : Rdr β} (h1 : Keeps r) (h2 : Keeps q) : Keeps (rCons k r q) := fun w w' cs a hb h => ⟨h1 w w' _ _ hb h.1, h2 w w' _ _ hb h.2⟩
theorem keeps_Row {α : Type} {s : Nat} {r : Rdr α} (h1 : Keeps r) : Keeps (rRow s r) := by
  rintro w w' cs l hb ⟨A, c, h2, h3, h4, h5⟩
  refine ⟨A, c, h2, h3, h4, fun i x hx => ?_⟩
  obtain ⟨a, us, h6, h7, h8, h9⟩ := h5 i x hx
  exact ⟨a, us, h6, h7, fun j u hu => by rw [hb.cell (World.block_lt_of_cell? _ _ (h8 j u hu)), h8 j u hu], h1 w w' _ _ hb h9⟩

/-- What came in as a type's value is read by the reader. -/
def Opens (P : Program) (t : TypeId) {α : Type} (r : Rdr α) : Prop :=
  ∀ (H : Type) (enc : TypeId × Value → H) (w : World) (base : Nat) (sp : Nat → Bool) (held : Bool) (fuel : Nat) (cs : List Value) (x : DataW H × List MemPlace), DataW.trod enc P w base sp held fuel t cs = some x → ∃ a, r w cs a
theorem opens_int {P : Program} {t : TypeId} {k : IntKind} (ht : P.underlying t = some (.int k)) : Opens P t (rI k) := fun _ _ _ _ _ _ _ _ _ h => by
  obtain ⟨n, h1, _, h3⟩ := DataW.trod_int ht h
  exact ⟨n, h1, h3⟩
theorem opens_bool {P : Program} {t : TypeId} (ht : P.underlying t = some .bool) : Opens P t rBool := fun _ _ _ _ _ _ _ _ _ h => by
  obtain ⟨n, h1, _⟩ := DataW.trod_bool ht h
  exact ⟨n, h1⟩
theorem opens_string {P : Program} {t : TypeId} (ht : P.underlying t = some .string) : Opens P t rS := fun _ _ _ _ _ _ _ _ _ h => by
  obtain ⟨n, h1, _, h3⟩ := DataW.trod_string ht h
  exact ⟨n, h1, h3⟩
theorem choose_list {α : Type} {p : Nat → α → Prop} : ∀ (n : Nat), (∀ i, i < n → ∃ a, p i a) → ∃ l : List α, l.length = n ∧ ∀ i x, l[i]? = some x → p i x
  | 0, _ => ⟨[], rfl, fun i x h => by simp at h⟩
  | n + 1, h => by
    obtain ⟨l, h1, h2⟩ := choose_list n (fun i hi => h i (by omega))
    obtain ⟨a, ha⟩ := h n (by omega)
    refine ⟨l ++ [a], by simp [h1], fun i x hx => ?_⟩
    rcases Nat.lt_or_ge i l.length with hi | hi
    · exact h2 i x (by rwa [List.getElem?_append_left hi] at hx)
    · have : i = l.length := by
        have := (List.getElem?_eq_some_iff.1 hx).1
        simp at this; omega
      subst this
      simp at hx
      rw [h1, ← hx]; exact ha
theorem opens_row {P : Program} {t e : TypeId} {s : Nat} {α : Type} {r : Rdr α} (ht : P.underlying t = some (.slice e)) (hs : P.cellsOf e = s) (h : Opens P e r) : Opens P t (rRow s r) := by
  intro H enc w base sp held fuel cs x hx
  rcases DataW.trod_slice ht hx with ⟨rfl, _⟩ | ⟨a, len, cap, elems, rest, n, _, rfl, _, hb, hl, hc, hlen, he, _, _⟩
  · exact ⟨[], none, 0, rfl, Nat.le_refl _, Nat.zero_le _, fun i x hx => by simp at hx⟩
  · have each : ∀ i, i < len → ∃ y, ∃ us : List Value, us.length = s ∧ (∀ j u, us[j]? = some u → w.cell? (a.add (i * s + j)) = some u) ∧ r w us y := by
      intro i hi
      have h1 := he i hi
      rw [List.getElem?_eq_getElem (by omega)] at h1
      obtain ⟨us, hu, hv⟩ := Option.bind_eq_some_iff.1 h1
      obtain ⟨y, hy⟩ := h H enc w base sp held n us _ hv
      obtain ⟨_, hul, hcell⟩ := World.cells?_some hu
      refine ⟨y, us, by rw [hul, hs], fun j u hju => ?_, hy⟩
      have hj := (List.getElem?_eq_some_iff.1 hju).1
      have := hcell j (by omega)
      rw [hju, hs, Addr.add_add] at this
      exact this
    obtain ⟨l, h1, h2⟩ := choose_list len each
    refine ⟨l, some a, cap, by rw [h1], by omega, hc, fun i y hy => ?_⟩
    obtain ⟨us, h3, h4, h5⟩ := h2 i y hy
    exact ⟨a, us, rfl, h3, h4, h5⟩
/-- The fields of a struct from a place on. -/
def OpensF (P : Program) (fs : List Field) (off m : Nat) {α : Type} (r : Rdr α) : Prop :=
  ∀ (H : Type) (enc : TypeId × Value → H) (w : World) (base : Nat) (sp : Nat → Bool) (held : Bool) (fuel : Nat) (cs : List Value), cs.length = m →
    (∀ f ∈ fs, ∃ x, DataW.trod enc P w base sp held fuel f.type ((cs.drop (f.offset - off)).take (P.cellsOf f.type)) = some x) → ∃ a, r w cs a
theorem opensF_nil {P : Program} {off : Nat} : OpensF P [] off 0 rNil := fun _ _ _ _ _ _ _ cs h _ => ⟨(), List.eq_nil_of_length_eq_zero h⟩
theorem opensF_cons {P : Program} {f : Field} {fs : List Field} {off k m : Nat} {α β : Type} {r : Rdr α} {q : Rdr β} (h1 : f.offset = off) (h2 : P.cellsOf f.type = k) (hge : fs.all (fun g => off + k ≤ g.offset) = true)
    (h3 : Opens P f.type r) (h4 : OpensF P fs (off + k) m q) : OpensF P (f :: fs) off (m + k) (rCons k r q) := by
  intro H enc w base sp held fuel cs hl h
  obtain ⟨x, hx⟩ := h f (by simp)
  rw [h1, h2, Nat.sub_self, List.drop_zero] at hx
  obtain ⟨a, ha⟩ := h3 H enc w base sp held fuel _ x hx
  obtain ⟨b, hb⟩ := h4 H enc w base sp held fuel (cs.drop k) (by rw [List.length_drop, hl]; omega) (fun g hg => by
    obtain ⟨y, hy⟩ := h g (by simp [hg])
    have hg' := of_decide_eq_true (List.all_eq_true.1 hge g hg)
    refine ⟨y, ?_⟩
    rw [List.drop_drop, show k + (g.offset - (off + k)) = g.offset - off from by omega]
    exact hy)
  exact ⟨(a, b), ha, hb⟩
theorem opens_struct {P : Program} {t : TypeId} {fs : Array Field} {m : Nat} {α : Type} {r : Rdr α} (ht : P.underlying t = some (.struct fs)) (hm : P.cellsOf t = m) (h : OpensF P fs.toList 0 m r) : Opens P t r := by
  intro H enc w base sp held fuel cs x hx
  obtain ⟨xs, n, _, _, hl, hxs, hf⟩ := DataW.trod_struct ht hx
  refine h H enc w base sp held n cs (by rw [hl, hm]) (fun f hfm => ?_)
  obtain ⟨i, hi, hfi⟩ := List.getElem_of_mem hfm
  have hi' : i < fs.size := by simpa using hi
  have := hf i f (by rw [← hfi]; simp [hi'])
  rw [List.getElem?_eq_getElem (by omega)] at this
  exact ⟨_, by rw [Nat.sub_zero]; exact this⟩
/-- One cell of a struct's. -/
theorem rCons_I {β : Type} {k : IntKind} {q : Rdr β} {w : World} {cs : List Value} {p : Int × β} (h : rCons 1 (rI k) q w cs p) : ∃ r, cs = .int k p.1 :: r ∧ (Lit.int k p.1).wf = true ∧ q w r p.2 := by
  obtain ⟨⟨h1, h2⟩, h3⟩ := h
  cases cs with
  | nil => simp at h1
  | cons c r => exact ⟨r, by simp at h1; rw [h1], h2, h3⟩
theorem rCons_Bool {β : Type} {q : Rdr β} {w : World} {cs : List Value} {p : Bool × β} (h : rCons 1 rBool q w cs p) : ∃ r, cs = .bool p.1 :: r ∧ q w r p.2 := by
  obtain ⟨h1, h3⟩ := h
  cases cs with
  | nil => simp [rBool] at h1
  | cons c r => exact ⟨r, by simp [rBool] at h1; rw [h1], h3⟩
theorem rCons_S {β : Type} {q : Rdr β} {w : World} {cs : List Value} {p : ByteArray × β} (h : rCons 1 rS q w cs p) : ∃ r, cs = .string p.1 :: r ∧ p.1.size ≤ maxLen ∧ q w r p.2 := by
  obtain ⟨⟨h1, h2⟩, h3⟩ := h
  cases cs with
  | nil => simp at h1
  | cons c r => exact ⟨r, by simp at h1; rw [h1], h2, h3⟩
theorem rCons_Row {α β : Type} {s : Nat} {r : Rdr α} {q : Rdr β} {w : World} {cs : List Value} {p : List α × β} (h : rCons 1 (rRow s r) q w cs p) : ∃ v t, cs = v :: t ∧ rRow s r w [v] p.1 ∧ q w t p.2 := by
  obtain ⟨h1, h3⟩ := h
  cases cs with
  | nil => obtain ⟨_, _, h, _⟩ := h1; simp at h
  | cons c r => exact ⟨c, r, rfl, by simpa using h1, by simpa using h3⟩
/-- A struct is loaded out of a row. -/
theorem ldR {P : Program} {K : Value → World → Prop} {w : World} {t : TypeId} (ha : aggB P t = true) {a : Addr} {us : List Value} (hc : ∀ j u, us[j]? = some u → w.cell? (a.add j) = some u) (hi : (P.info? t).map (·.size) = some us.length)
    (k : K (.agg us.toArray) w) : LiftP P (Instr.loadAt t (.pointer (some a))) K w := by
  refine lift (v := .agg us.toArray) (w' := w) ?_ k
  unfold aggB at ha
  cases hu : P.underlying t with
  | none => rw [hu] at ha; cases ha
  | some d =>
    rw [hu] at ha
    have hl : (loadCells a us.length).run P w = .ok us.toArray w := run_loadCells_list (P := P) w a us hc
    cases hq : P.info? t with
    | none => simp [hq] at hi
    | some i =>
      have hs : i.size = us.length := by simpa [hq] using hi
      have hagg : (isAgg t).run P w = .ok true w := by
        unfold isAgg
        rw [Sem.run_bind, run_underlying hu w]
        cases d <;> simp_all
      simp [Instr.loadAt, Instr.sureAddr, loadVar, Sem.run_bind, hagg, sizeOf, typeInfo, hq, hs, hl]
end Go.Proofs.Ytmnaggdhkggjhaa.E
