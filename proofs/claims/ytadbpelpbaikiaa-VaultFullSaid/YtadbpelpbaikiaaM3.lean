import Derived.Test.YtadbpelpbaikiaaM2
import Derived.Lib.MinMax
import Derived.ArgAppend
import Derived.MapKept
import Derived.Deep.Matrix
import Derived.ChangeArms
import Derived.Maps.Range
namespace Go.Proofs.Ytadbpelpbaikiaa.E
open Go Go.RowKit

/-- A [][]byte that reads as bss. -/
def RdSS (w : World) (v : Value) (bss : List (List UInt8)) : Prop :=
  ∃ A c, v = .slice A bss.length c ∧ bss.length ≤ c ∧ c ≤ 9223372036854775807 ∧ ∀ i (hi : i < bss.length), ∃ a A' n' c', A = some a ∧ w.cell? (a.add i) = some (.slice A' n' c') ∧ RdB w (.slice A' n' c') bss[i]
theorem RdSS.below {w w' : World} {v : Value} {bss : List (List UInt8)} (h : RdSS w v bss) (hb : Below w.heap.size w w') : RdSS w' v bss := by
  obtain ⟨A, c, rfl, h1, h2, h3⟩ := h
  refine ⟨A, c, rfl, h1, h2, fun i hi => ?_⟩
  obtain ⟨a, A', n', c', ha, hc, hr⟩ := h3 i hi
  exact ⟨a, A', n', c', ha, (hb.cell (World.block_lt_of_cell? w _ hc)).trans hc, hr.below hb⟩
theorem RdSS.at {w : World} {A : Option Addr} {n c : Nat} {bss : List (List UInt8)} (h : RdSS w (.slice A n c) bss) (i : Nat) (hi : i < bss.length) : ∃ a A' n' c', A = some a ∧ w.cell? (a.add i) = some (.slice A' n' c') ∧ RdB w (.slice A' n' c') bss[i] := by
  obtain ⟨A', c', he, _, _, h3⟩ := h
  cases he
  exact h3 i hi
theorem RdSS.slice {w : World} {v : Value} {bss : List (List UInt8)} (h : RdSS w v bss) : ∃ A c, v = .slice A bss.length c ∧ bss.length ≤ c ∧ c ≤ 9223372036854775807 := by
  obtain ⟨A, c, h0, h1, h2, _⟩ := h
  exact ⟨A, c, h0, h1, h2⟩
/-- A row of slices of its own. -/
theorem RdSS.of {w : World} {v : Value} {cs : List Value} {bss : List (List UInt8)} (h : Rd w v cs) (hl : cs.length = bss.length) (he : ∀ i (h1 : i < cs.length) (h2 : i < bss.length), RdB w cs[i] bss[i]) : RdSS w v bss := by
  obtain ⟨A, c, rfl, h1, h2, h3⟩ := h
  refine ⟨A, c, by rw [hl], by omega, h2, fun i hi => ?_⟩
  obtain ⟨a, ha, hc⟩ := h3 i _ (List.getElem?_eq_getElem (by omega))
  have hr := he i (by omega) hi
  obtain ⟨A', c', hs, _⟩ := hr.slice
  rw [hs] at hc hr
  exact ⟨a, A', _, c', ha, hc, hr⟩
section
variable {P : Program} {K : Value → World → Prop} {S : World → Prop} {w : World}
theorem cpx {t ty : TypeId} {e : TypeId} (h : P.underlying t = some (.slice e)) {cs : Array Bool} {A : Option Addr} {n c : Nat} (k : K (.int .i64 c) w) : NextP P (builtin .cap #[t] ty cs #[.slice A n c]) K w := by
  refine nextV ?_ k
  have he : P.elem t = e := by simp [Program.elem, h]
  have := run_cap_slice (P := P) w t ty A n c (by rw [he]; exact h)
  simp only [builtin] at this ⊢
  simp [this, goInt]
theorem yl1 {t : TypeId} (h : oneB P t = true) {a : Addr} {v : Value} (hc : ∀ w', S w' → w'.cell? a = some v) (k : K v w) : YieldP P S (Instr.loadAt t (.pointer (some a))) K w := yld (fun w' hw => run_load1 h (hc w' hw)) k
end
end Go.Proofs.Ytadbpelpbaikiaa.E
namespace Go.Proofs.Ytadbpelpbaikiaa.E
open Go Go.RowKit

section
variable {P : Program} {K : Value → World → Prop} {S : World → Prop} {w : World}
theorem pr_pnil {t e : TypeId} {x y : Operand} (h : P.underlying t = some (.pointer e)) {p : Option Addr} : PR P (binS .eql t x y (.pointer p) (.pointer none)) (.bool p.isNone) := by
  intro w
  have he : P.pointee t = e := by simp [Program.pointee, h]
  simp only [binS, eqGuard_at_pointer, Sem.run_bind, Sem.run_pure, Result.andThen_ok]
  exact run_eql_pointer_nil w t p (by rw [he]; exact h)
theorem lns {t ty : TypeId} (h : P.underlying t = some .string) {cs : Array Bool} {s : ByteArray} (k : K (.int .i64 s.size) w) : NextP P (builtin .len #[t] ty cs #[.string s]) K w := by
  refine nextV (v := .int .i64 s.size) (w' := w) ?_ k
  have := run_len_string (P := P) w t ty s h
  simp only [builtin] at this ⊢
  simp [this, goInt]
theorem yfd {s : TypeId} {i o n : Nat} (h : fofs P s i = some (o, n)) (hn : n ≠ 0) {g : Nat} (k : K (.pointer (some ⟨g, o, none⟩)) w) : YieldP P S (Instr.fieldAt s (.pointer (some ⟨g, 0, none⟩)) i) K w :=
  yld (fun w' _ => run_fd h hn _ w') (by rw [add0, Nat.zero_add]; exact k)
theorem yln {t ty : TypeId} {e : TypeId} (h : P.underlying t = some (.slice e)) {cs : Array Bool} {A : Option Addr} {n c : Nat} (k : K (.int .i64 n) w) : YieldN P S (builtin .len #[t] ty cs #[.slice A n c]) K w :=
  yldN (v := .int .i64 n) (fun w' _ => by simp [builtin, Builtin.len_, run_underlying h, goInt]) k
theorem ymn {t ty : TypeId} {cs : Array Bool} {a b : Int} (k : K (.int .i64 (min a b)) w) : YieldN P S (builtin .min #[t, t] ty cs #[.int .i64 a, .int .i64 b]) K w :=
  yldN (v := .int .i64 (min a b)) (fun w' _ => by
    have := Lib.run_min_ints (P := P) w' #[t, t] ty .i64 .i64 a b
    simp only [builtin] at this ⊢
    simp [this]) k
theorem ymx {t ty : TypeId} {cs : Array Bool} {a b : Int} (k : K (.int .i64 (max a b)) w) : YieldN P S (builtin .max #[t, t] ty cs #[.int .i64 a, .int .i64 b]) K w :=
  yldN (v := .int .i64 (max a b)) (fun w' _ => by
    have := Lib.run_max_ints (P := P) w' #[t, t] ty .i64 .i64 a b
    simp only [builtin] at this ⊢
    simp [this]) k
end
end Go.Proofs.Ytadbpelpbaikiaa.E
namespace Go.Proofs.Ytadbpelpbaikiaa.E
open Go Go.RowKit

/-- Nothing that was there has turned, but blocks of F. -/
structure Turns (F : Nat → Prop) (w w' : World) : Prop where
  os : w'.os = w.os
  tape : w'.tape = w.tape
  output : w'.output = w.output
  size : w.heap.size ≤ w'.heap.size
  block : ∀ k, k < w.heap.size → ¬ F k → w'.heap[k]? = w.heap[k]?
/-- F, and all that is new since there were n blocks. -/
def Ext (F : Nat → Prop) (n : Nat) : Nat → Prop := fun k => F k ∨ n ≤ k
section
variable {F : Nat → Prop} {w w' w'' : World}
theorem Turns.refl (F : Nat → Prop) (w : World) : Turns F w w := ⟨rfl, rfl, rfl, Nat.le_refl _, fun _ _ _ => rfl⟩
theorem Turns.trans (h : Turns F w w') (k : Turns (Ext F w.heap.size) w' w'') : Turns F w w'' :=
  ⟨k.os.trans h.os, k.tape.trans h.tape, k.output.trans h.output, Nat.le_trans h.size k.size, fun i hi hF => (k.block i (Nat.lt_of_lt_of_le hi h.size) (fun e => e.elim hF (fun e => absurd e (Nat.not_le.2 hi)))).trans (h.block i hi hF)⟩
theorem Turns.mono {G : Nat → Prop} (h : Turns F w w') (hG : ∀ k, k < w.heap.size → F k → G k) : Turns G w w' := ⟨h.os, h.tape, h.output, h.size, fun k hk hF => h.block k hk (fun e => hF (hG k hk e))⟩
theorem Turns.of_below (h : Below w.heap.size w w') : Turns F w w' := ⟨h.os, h.tape, h.output, h.size, fun k hk _ => h.block k hk⟩
theorem Turns.below {B : Nat} (h : Turns F w w') (hB : B ≤ w.heap.size) (hF : ∀ k, k < B → ¬ F k) : Below B w w' := ⟨h.os, h.tape, h.output, h.size, fun k hk => h.block k (Nat.lt_of_lt_of_le hk hB) (hF k hk)⟩
theorem Turns.then_below (h : Turns F w w') (k : Below w'.heap.size w' w'') : Turns F w w'' := h.trans (Turns.of_below k)
theorem Turns.drew (h : Turns F w w') : Turns F w w'.drew := ⟨h.os, h.tape, h.output, h.size, h.block⟩
theorem Turns.alloc (h : Turns F w w') (o : Obj) : Turns F w (w'.alloc o) := h.then_below ((Below.refl _ _).alloc (Nat.le_refl _) o)
theorem Turns.setCell (h : Turns F w w') {p : Addr} (hp : Ext F w.heap.size p.block) (u : Value) : Turns F w (w'.setCell p u) :=
  h.trans ⟨rfl, rfl, rfl, by simp [World.setCell], fun k _ hk => Below.heap_setCell _ _ _ _ (fun e => hk (by rw [e]; exact hp))⟩
theorem Turns.setRow (h : Turns F w w') {g : Nat} (hp : Ext F w.heap.size g) (ds : Array Value) : Turns F w (w'.setRow g ds) :=
  h.trans ⟨rfl, rfl, rfl, by simp [World.setRow], fun k _ hk => setRow_other _ _ _ _ (fun e => hk (by rw [e]; exact hp))⟩
theorem Turns.grown (h : Turns F w w') {row : Option Nat} (hg : w'.grownBy w'' row) (hr : ∀ k, row = some k → Ext F w.heap.size k) : Turns F w w'' :=
  h.trans ⟨hg.os, hg.tape, hg.output, hg.size, fun k hk hF => hg.block k hk (fun e => hF (hr k e.symm))⟩
theorem Blk.turns {g : Nat} {t : TypeId} {cs : Array Value} (h : Blk w g t cs) (hT : Turns F w w') (hF : ¬ F g) : Blk w' g t cs := (hT.block g h.lt hF).trans h
theorem Own.turns {e : TypeId} {v : Value} {xs : List Value} (h : Own e w v xs) (hT : Turns F w w') (hF : ∀ k, v.ownBlock = some k → ¬ F k) : Own e w' v xs := by
  refine ⟨h.1, ?_⟩
  rcases h.2 with h | ⟨g, cap, cur, rfl, h1, h2, h3⟩
  · exact .inl h
  · refine .inr ⟨g, cap, cur, rfl, h1, ?_, h3⟩
    rw [hT.block g (Array.getElem?_eq_some_iff.1 h2).1 (hF g rfl)]
    exact h2
theorem Own.ownLt {e : TypeId} {v : Value} {xs : List Value} (h : Own e w v xs) {k : Nat} (hk : v.ownBlock = some k) : k < w.heap.size := by
  rcases h.2 with h | ⟨g, cap, cur, rfl, h1, h2, h3⟩
  · rw [h.1] at hk; cases hk
  · have : g = k := by simpa [Value.ownBlock] using hk
    subst this
    exact (Array.getElem?_eq_some_iff.1 h2).1
end
/-- What an append leaves, by footprints. -/
theorem apT {P : Program} {K : Value → World → Prop} {w : World} {t ty e : TypeId} {cs : Array Bool} {z : Value} {bytes : Nat} (ht : P.underlying t = some (.slice e)) (hinfo : (P.info? e).map (fun i => (i.zero, i.size, i.bytes)) = some (some z, 1, bytes)) (hz : z.cells.size = 1) (hb0 : 0 < bytes)
    {v x : Value} {xs ys : List Value} (hown : Own e w v xs) (hx : Rd w x ys) (h1 : ∀ u ∈ ys, u.oneCell' = true) (hl : (xs.length + ys.length) * bytes ≤ 140737488355328)
    (k : ∀ v' w', Own e w' v' (xs ++ ys) → (v'.ownBlock = v.ownBlock ∨ v'.ownBlock = some w.heap.size) → Turns (fun j => v.ownBlock = some j) w w' → K v' w') : NextP P (builtin .append #[t, t] ty cs #[v, x]) K w :=
  ap ht hinfo hz hb0 hown hx h1 hl fun v' w' ho hg hbl => k v' w' ho hbl ⟨hg.os, hg.tape, hg.output, hg.size, fun j hj hF => hg.block j hj (fun e => hF e.symm)⟩
end Go.Proofs.Ytadbpelpbaikiaa.E
namespace Go.Proofs.Ytadbpelpbaikiaa.E
open Go Go.RowKit

/-- A row of the call's own, or such a row cut to its length (its capacity told as its length). -/
def OwnC (e : TypeId) (w : World) (v : Value) (xs : List Value) : Prop :=
  Own e w v xs ∨ ∃ g cur, v = .slice (some ⟨g, 0, none⟩) xs.length xs.length ∧ Blk w g e cur ∧ xs.length ≤ 9223372036854775807 ∧ xs.length ≤ cur.size ∧ cur.toList.take xs.length = xs
section
variable {e : TypeId} {w w' : World} {v : Value} {xs : List Value}
theorem Own.c (h : Own e w v xs) : OwnC e w v xs := .inl h
theorem OwnC.rd (h : OwnC e w v xs) : Rd w v xs := by
  rcases h with h | ⟨g, cur, rfl, hb, h1, h2, h3⟩
  · exact h.rd
  · refine ⟨some ⟨g, 0, none⟩, xs.length, rfl, Nat.le_refl _, h1, fun i u hu => ⟨_, rfl, ?_⟩⟩
    have hi := (List.getElem?_eq_some_iff.1 hu).1
    rw [add0, Nat.zero_add]
    have := hb.cell i
    rw [this]
    rw [← h3, List.getElem?_take, if_pos hi] at hu
    simpa using hu
theorem OwnC.slice (h : OwnC e w v xs) : ∃ A c, v = .slice A xs.length c := by
  obtain ⟨A, c, rfl, _⟩ := h.rd; exact ⟨A, c, rfl⟩
theorem OwnC.lt (h : OwnC e w v xs) {k : Nat} (hk : v.ownBlock = some k) : k < w.heap.size := by
  rcases h with h | ⟨g, cur, rfl, hb, _⟩
  · exact h.ownLt hk
  · have : g = k := by simpa [Value.ownBlock] using hk
    subst this; exact hb.lt
theorem OwnC.turns {F : Nat → Prop} (h : OwnC e w v xs) (hT : Turns F w w') (hF : ∀ k, v.ownBlock = some k → ¬ F k) : OwnC e w' v xs := by
  rcases h with h | ⟨g, cur, rfl, hb, h1⟩
  · exact .inl (h.turns hT hF)
  · exact .inr ⟨g, cur, rfl, hb.turns hT (hF g rfl), h1⟩
theorem OwnC.below (h : OwnC e w v xs) (hb : Below w.heap.size w w') : OwnC e w' v xs := h.turns (F := fun _ => False) (Turns.of_below hb) (fun _ _ h => h)
theorem OwnC.at {A : Option Addr} {n c : Nat} (h : OwnC e w (.slice A n c) xs) (i : Nat) (hi : i < xs.length) : ∃ g, A = some ⟨g, 0, none⟩ ∧ w.cell? ⟨g, i, none⟩ = some xs[i] ∧ w.frozen? ⟨g, i, none⟩ = false := by
  obtain ⟨a, ha, hc⟩ := Rd.at h.rd i hi
  rcases h with h | ⟨g, cur, he, hb, h1⟩
  · obtain ⟨g, rfl, h2, h3⟩ := h.at i hi
    rw [add0, Nat.zero_add] at h2 h3
    exact ⟨g, rfl, h2, h3⟩
  · cases he
    cases ha
    rw [add0, Nat.zero_add] at hc
    exact ⟨g, rfl, hc, hb.frozen i⟩
theorem OwnC.set {g n c : Nat} (h : OwnC e w (.slice (some ⟨g, 0, none⟩) n c) xs) (i : Nat) (hi : i < xs.length) (u : Value) : OwnC e (w.setCell ⟨g, i, none⟩ u) (.slice (some ⟨g, 0, none⟩) n c) (xs.set i u) := by
  rcases h with h | ⟨g', cur, he, hb, h1, h2, h3⟩
  · have := h.set i hi u
    rw [add0, Nat.zero_add] at this
    exact .inl this
  · cases he
    refine .inr ⟨g, cur.setIfInBounds i u, by simp, hb.set_ i u, by simpa using h1, by simpa using h2, ?_⟩
    rw [Array.toList_setIfInBounds, List.length_set, List.take_set, h3]
/-- Cut to its first k cells, capacity and all. -/
theorem OwnC.cut {A : Option Addr} {n c : Nat} (h : OwnC e w (.slice A n c) xs) (k : Nat) (hk : k ≤ xs.length) : OwnC e w (sliced A 0 k k 1) (xs.take k) ∧ (∀ b, (sliced A 0 k k 1).ownBlock = some b → (Value.slice A n c).ownBlock = some b) := by
  have hlen : (xs.take k).length = k := by rw [List.length_take]; omega
  rcases h with h | ⟨g, cur, he, hb, h1, h2, h3⟩
  · rcases h.2 with ⟨he, h0⟩ | ⟨g, cap, cur, he, _, hh, hn, hm, hs, ht⟩
    · cases he
      have : k = 0 := by omega
      subst this
      exact ⟨.inl (by simpa [sliced] using Own.nil e w), fun b hb => by simp [sliced, Value.ownBlock] at hb⟩
    · cases he
      have e1 : sliced (some ⟨g, 0, none⟩) 0 k k 1 = .slice (some ⟨g, 0, none⟩) k k := by simp [sliced, add0]
      rw [e1]
      simp only [maxLen] at hm
      refine ⟨.inr ⟨g, cur, by rw [hlen], hh, by omega, by omega, ?_⟩, fun b hb => hb⟩
      rw [hlen]
      rw [Nat.mul_one] at ht
      rw [← ht, List.take_take, show min k xs.length = k from by omega]
  · cases he
    have e1 : sliced (some ⟨g, 0, none⟩) 0 k k 1 = .slice (some ⟨g, 0, none⟩) k k := by simp [sliced, add0]
    rw [e1]
    refine ⟨.inr ⟨g, cur, by rw [hlen], hb, by omega, by omega, ?_⟩, fun b hb => hb⟩
    rw [hlen, ← h3, List.take_take, show min k xs.length = k from by omega]
end
/-- append to such a row. -/
theorem apO {P : Program} {K : Value → World → Prop} {w : World} {t ty e : TypeId} {cs : Array Bool} {z : Value} {bytes : Nat} (ht : P.underlying t = some (.slice e)) (hinfo : (P.info? e).map (fun i => (i.zero, i.size, i.bytes)) = some (some z, 1, bytes)) (hz : z.cells.size = 1) (hb0 : 0 < bytes)
    {v x : Value} {xs ys : List Value} (hown : OwnC e w v xs) (hx : Rd w x ys) (h1 : ∀ u ∈ ys, u.oneCell' = true) (hl : (xs.length + ys.length) * bytes ≤ 140737488355328)
    (k : ∀ v' w', OwnC e w' v' (xs ++ ys) → (v'.ownBlock = v.ownBlock ∨ ∃ g, v'.ownBlock = some g ∧ w.heap.size ≤ g) → Turns (fun j => v.ownBlock = some j) w w' → K v' w') : NextP P (builtin .append #[t, t] ty cs #[v, x]) K w := by
  rcases hown with h | ⟨g, cur, rfl, hb, h2, h3, h4⟩
  · refine apT ht hinfo hz hb0 h hx h1 hl ?_
    intro v' w' ho hbl hT
    exact k v' w' (.inl ho) (hbl.elim .inl fun h => .inr ⟨_, h, Nat.le_refl _⟩) hT
  · have hrd : Rd w (.slice (some ⟨g, 0, none⟩) xs.length xs.length) xs := OwnC.rd (e := e) (.inr ⟨g, cur, rfl, hb, h2, h3, h4⟩)
    obtain ⟨i, hi, hzz⟩ := Option.map_eq_some_iff.1 hinfo
    simp only [Prod.mk.injEq] at hzz
    obtain ⟨hz0, hz1, hz2⟩ := hzz
    obtain ⟨A, c, rfl, hc1, hc2, hcell⟩ := hx
    have hlen : xs.length + ys.length ≤ 140737488355328 := Nat.le_trans (Nat.le_mul_of_pos_right _ hb0) hl
    cases ys with
    | nil =>
      refine nextV (v := .slice (some ⟨g, 0, none⟩) xs.length xs.length) (w' := w) ?_ (k _ w (by rw [List.append_nil]; exact .inr ⟨g, cur, rfl, hb, h2, h3, h4⟩) (.inl rfl) (Turns.refl _ w))
      cases A <;> simp [builtin, Builtin.append_, run_underlying ht, sizeOf, typeInfo, hi, Builtin.lenOf, Builtin.firstCells, storeCells, loadCells, loadCellsFrom]
    | cons y r =>
      obtain ⟨a, rfl, _⟩ := hcell 0 y (by simp)
      obtain ⟨v', w', hr, ho, hg⟩ := run_append_arg_grows (P := P) w t ty e i z 1 bytes ht hi hz0 hz1 hz2 hz (by omega) ⟨g, 0, none⟩ xs.length xs.length xs (by simp)
        (fun j u hu => by
          obtain ⟨A', c', he, _, _, hcc⟩ := hrd
          cases he
          obtain ⟨a', ha', hc⟩ := hcc j u hu
          cases ha'
          exact hc) a (y :: r).length c (y :: r) (by simp) (fun j u hu => by
          obtain ⟨a', ha', hc⟩ := hcell j u hu
          cases ha'
          exact hc) (by simp) (by simp only [maxLen]; omega) (by simpa using hl)
      have hform : ∃ q cap, v' = .slice (some ⟨q, 0, none⟩) (xs.length + (y :: r).length) cap ∧ w.heap.size ≤ q := by
        rcases ho.2 with ⟨_, h0⟩ | ⟨q, cap, cur', he, hq, _⟩
        · simp at h0
        · exact ⟨q, cap, he, hq⟩
      have hown : Own e w' v' (xs ++ y :: r) := by
        refine ⟨by simp, ?_⟩
        rcases ho.2 with ⟨_, h0⟩ | ⟨q, cap, cur', he, _, hq⟩
        · simp at h0
        · exact .inr ⟨q, cap, cur', by rw [he, List.length_append], Nat.zero_le _, by simpa using hq⟩
      obtain ⟨q, cap, rfl, hq⟩ := hform
      refine nextV (v := _) (w' := w') ?_ (k _ w' (.inl hown) (.inr ⟨q, rfl, hq⟩) ⟨hg.os, hg.tape, hg.output, hg.size, fun j hj _ => hg.block j hj (by simp)⟩)
      simp only [builtin]; simp only [List.length_cons] at hr ⊢; simp [hr]
theorem Rd.turns {F : Nat → Prop} {w w' : World} {v : Value} {cs : List Value} (h : Rd w v cs) (hT : Turns F w w') (hF : cs = [] ∨ ∀ b, v.ownBlock = some b → ¬ F b) : Rd w' v cs := by
  obtain ⟨A, c, rfl, h1, h2, h3⟩ := h
  refine ⟨A, c, rfl, h1, h2, fun i u hu => ?_⟩
  obtain ⟨a, rfl, hc⟩ := h3 i u hu
  have e : (a.add i).block = a.block := by unfold Addr.add; split <;> rfl
  have hlt := World.block_lt_of_cell? w _ hc
  refine ⟨a, rfl, (World.cell?_of_block (w := w) (a := a.add i) ?_).trans hc⟩
  refine hT.block _ hlt ?_
  rw [e]
  rcases hF with rfl | hF
  · simp at hu
  · exact hF _ rfl
theorem RdB.turns {F : Nat → Prop} {w w' : World} {v : Value} {bs : List UInt8} (h : RdB w v bs) (hT : Turns F w w') (hF : bs = [] ∨ ∀ b, v.ownBlock = some b → ¬ F b) : RdB w' v bs :=
  Rd.turns h hT (hF.imp_left fun h => by rw [h]; rfl)
theorem Rd.lt {w : World} {v : Value} {cs : List Value} (h : Rd w v cs) (h0 : cs ≠ []) {b : Nat} (hb : v.ownBlock = some b) : b < w.heap.size := by
  obtain ⟨A, c, rfl, h1, h2, h3⟩ := h
  cases cs with
  | nil => exact absurd rfl h0
  | cons y r =>
    obtain ⟨a, rfl, hc⟩ := h3 0 y rfl
    have e : (a.add 0).block = a.block := by unfold Addr.add; split <;> rfl
    have hlt := World.block_lt_of_cell? w _ hc
    rw [e] at hlt
    cases hb
    exact hlt
theorem RdB.lt {w : World} {v : Value} {bs : List UInt8} (h : RdB w v bs) (h0 : bs ≠ []) {b : Nat} (hb : v.ownBlock = some b) : b < w.heap.size :=
  Rd.lt h (fun e => h0 (by simpa using e)) hb

theorem mnI {P : Program} {K : Value → World → Prop} {w : World} {t ty : TypeId} {cs : Array Bool} {a b : Int} (k : K (.int .i64 (min a b)) w) : NextP P (builtin .min #[t, t] ty cs #[.int .i64 a, .int .i64 b]) K w :=
  nextV (v := .int .i64 (min a b)) (w' := w) (by
    have := Lib.run_min_ints (P := P) w #[t, t] ty .i64 .i64 a b
    simp only [builtin] at this ⊢
    simp [this]) k
theorem mxI {P : Program} {K : Value → World → Prop} {w : World} {t ty : TypeId} {cs : Array Bool} {a b : Int} (k : K (.int .i64 (max a b)) w) : NextP P (builtin .max #[t, t] ty cs #[.int .i64 a, .int .i64 b]) K w :=
  nextV (v := .int .i64 (max a b)) (w' := w) (by
    have := Lib.run_max_ints (P := P) w #[t, t] ty .i64 .i64 a b
    simp only [builtin] at this ⊢
    simp [this]) k

/-- A row's block has this colour. -/
def InC (c : Nat → Nat) (x : Nat) (v : Value) : Prop := ∀ b, v.ownBlock = some b → c b = x
/-- The colours, what is new since n blocks being of colour x. -/
def col (c : Nat → Nat) (n x : Nat) : Nat → Nat := fun k => if k < n then c k else x
/-- The blocks that have a colour. -/
def D (c : Nat → Nat) : Nat → Prop := fun k => c k ≠ 0
theorem InC.nil (c : Nat → Nat) (x : Nat) (n k : Nat) : InC c x (.slice none n k) := fun b hb => by cases hb
theorem InC.ne {c : Nat → Nat} {x y g : Nat} {v : Value} (h : InC c x v) (hg : c g = y) (hxy : x ≠ y) : v.ownBlock ≠ some g := fun he => hxy ((h g he).symm.trans hg)
theorem InC.fresh {c : Nat → Nat} {n x : Nat} {v : Value} (h : Fresh n v) : InC (col c n x) x v := fun b hb => by
  have := h b hb
  simp only [col]; rw [if_neg (by omega)]
theorem col_lt (c : Nat → Nat) (n x : Nat) : ∀ k, k < n → col c n x k = c k := fun k hk => by simp only [col]; rw [if_pos hk]
theorem col_ge (c : Nat → Nat) (n x : Nat) {k : Nat} (hk : n ≤ k) : col c n x k = x := by simp only [col]; rw [if_neg (by omega)]
theorem Turns.step {c c1 : Nat → Nat} {w w1 w2 : World} (h : Turns (D c) w w1) (hc : ∀ k, k < w.heap.size → c1 k = c k) (k : Turns (D c1) w1 w2) : Turns (D c) w w2 :=
  h.trans (k.mono fun j _ hj => by
    rcases Nat.lt_or_ge j w.heap.size with hlt | hge
    · exact .inl (by rw [D, ← hc j hlt]; exact hj)
    · exact .inr hge)
theorem InC.re {c c' : Nat → Nat} {x n : Nat} {v : Value} (h : InC c x v) (hlt : ∀ b, v.ownBlock = some b → b < n) (hc : ∀ k, k < n → c' k = c k) : InC c' x v := fun b hb => (hc b (hlt b hb)).trans (h b hb)
end Go.Proofs.Ytadbpelpbaikiaa.E
namespace Go.Proofs.Ytadbpelpbaikiaa.E
open Go Go.RowKit

end Go.Proofs.Ytadbpelpbaikiaa.E
namespace Go.Proofs.Ytadbpelpbaikiaa.E
open Go Go.RowKit

abbrev Rdr (α : Type) := World → List Value → α → Prop
def rS : Rdr ByteArray := fun _ cs s => cs = [.string s] ∧ s.size ≤ maxLen
def rRow {α : Type} (s : Nat) (r : Rdr α) : Rdr (List α) := fun w cs l => ∃ A c, cs = [.slice A l.length c] ∧ l.length ≤ c ∧ c ≤ maxLen ∧
  ∀ i x, l[i]? = some x → ∃ a us, A = some a ∧ us.length = s ∧ (∀ j u, us[j]? = some u → w.cell? (a.add (i * s + j)) = some u) ∧ r w us x

/-- What is read stays so while nothing of before is turned. -/
def Keeps {α : Type} (r : Rdr α) : Prop := ∀ w w' cs a, Below w.heap.size w w' → r w cs a → r w' cs a
theorem keeps_S : Keeps rS := fun _ _ _ _ _ h => h
theorem keeps_Row {α : Type} {s : Nat} {r : Rdr α} (h1 : Keeps r) : Keeps (rRow s r) := by
  rintro w w' cs l hb ⟨A, c, h2, h3, h4, h5⟩
  refine ⟨A, c, h2, h3, h4, fun i x hx => ?_⟩
  obtain ⟨a, us, h6, h7, h8, h9⟩ := h5 i x hx
  exact ⟨a, us, h6, h7, fun j u hu => by rw [hb.cell (World.block_lt_of_cell? _ _ (h8 j u hu)), h8 j u hu], h1 w w' _ _ hb h9⟩

/-- What came in as a type's value is read by the reader. -/
def Opens (P : Program) (t : TypeId) {α : Type} (r : Rdr α) : Prop :=
  ∀ (H : Type) (enc : TypeId × Value → H) (w : World) (base : Nat) (sp : Nat → Bool) (held : Bool) (fuel : Nat) (cs : List Value) (x : DataW H × List MemPlace), DataW.trod enc P w base sp held fuel t cs = some x → ∃ a, r w cs a
theorem opens_string {P : Program} {t : TypeId} (ht : P.underlying t = some .string) : Opens P t rS := fun _ _ _ _ _ _ _ _ _ h => by
  obtain ⟨n, h1, _, h3⟩ := DataW.trod_string ht h
  exact ⟨n, h1, h3⟩
theorem choose_list {α : Type} {p : Nat → α → Prop} : ∀ (n : Nat), (∀ i, i < n → ∃ a, p i a) → ∃ l : List α, l.length = n ∧ ∀ i x, l[i]? = some x → p i x
  | 0, _ => ⟨[], rfl, fun i x h => by simp at h⟩
  | n + 1, h => by
    obtain ⟨l, h1, h2⟩ := choose_list n (fun i hi => h i (by omega))
    obtain ⟨a, ha⟩ := h n (by omega)
    refine ⟨l ++ [a], by simp [h1], fun i x hx => ?_⟩
    rcases Nat.lt_or_ge i l.length with hi | hi
    · exact h2 i x (by rwa [List.getElem?_append_left hi] at hx)
    · have : i = l.length := by
        have := (List.getElem?_eq_some_iff.1 hx).1
        simp at this; omega
      subst this
      simp at hx
      rw [h1, ← hx]; exact ha
theorem opens_row {P : Program} {t e : TypeId} {s : Nat} {α : Type} {r : Rdr α} (ht : P.underlying t = some (.slice e)) (hs : P.cellsOf e = s) (h : Opens P e r) : Opens P t (rRow s r) := by
  intro H enc w base sp held fuel cs x hx
  rcases DataW.trod_slice ht hx with ⟨rfl, _⟩ | ⟨a, len, cap, elems, rest, n, _, rfl, _, hb, hl, hc, hlen, he, _, _⟩
  · exact ⟨[], none, 0, rfl, Nat.le_refl _, Nat.zero_le _, fun i x hx => by simp at hx⟩
  · have each : ∀ i, i < len → ∃ y, ∃ us : List Value, us.length = s ∧ (∀ j u, us[j]? = some u → w.cell? (a.add (i * s + j)) = some u) ∧ r w us y := by
      intro i hi
      have h1 := he i hi
      rw [List.getElem?_eq_getElem (by omega)] at h1
      obtain ⟨us, hu, hv⟩ := Option.bind_eq_some_iff.1 h1
      obtain ⟨y, hy⟩ := h H enc w base sp held n us _ hv
      obtain ⟨_, hul, hcell⟩ := World.cells?_some hu
      refine ⟨y, us, by rw [hul, hs], fun j u hju => ?_, hy⟩
      have hj := (List.getElem?_eq_some_iff.1 hju).1
      have := hcell j (by omega)
      rw [hju, hs, Addr.add_add] at this
      exact this
    obtain ⟨l, h1, h2⟩ := choose_list len each
    refine ⟨l, some a, cap, by rw [h1], by omega, hc, fun i y hy => ?_⟩
    obtain ⟨us, h3, h4, h5⟩ := h2 i y hy
    exact ⟨a, us, rfl, h3, h4, h5⟩
end Go.Proofs.Ytadbpelpbaikiaa.E
namespace Go.Proofs.Ytadbpelpbaikiaa.E
open Go Go.RowKit

theorem rRow.turns {α : Type} {s : Nat} {r : Rdr α} (hr : ∀ w w' us x, r w us x → r w' us x) {F : Nat → Prop} {w w' : World} {v : Value} {l : List α} (h : rRow s r w [v] l) (hs : 0 < s) (hT : Turns F w w') (hF : l = [] ∨ ∀ k, v.ownBlock = some k → ¬ F k) : rRow s r w' [v] l := by
  obtain ⟨A, c, he, h1, h2, h3⟩ := h
  refine ⟨A, c, he, h1, h2, fun i x hx => ?_⟩
  obtain ⟨a, us, rfl, h5, h6, h7⟩ := h3 i x hx
  refine ⟨a, us, rfl, h5, fun j u hu => ?_, hr _ _ _ _ h7⟩
  have hc := h6 j u hu
  have hb : (a.add (i * s + j)).block = a.block := by unfold Addr.add; split <;> rfl
  have hlt := World.block_lt_of_cell? w _ hc
  refine (World.cell?_of_block (w := w) (a := a.add (i * s + j)) (hT.block _ hlt ?_)).trans hc
  rw [hb]
  rcases hF with rfl | hF
  · simp at hx
  · simp only [List.cons.injEq, and_true] at he
    exact hF _ (by rw [he]; rfl)
end Go.Proofs.Ytadbpelpbaikiaa.E
namespace Go.Proofs.Ytadbpelpbaikiaa.E
open Go Go.RowKit

end Go.Proofs.Ytadbpelpbaikiaa.E
namespace Go.Proofs.Ytadbpelpbaikiaa.E
open Go Go.RowKit

end Go.Proofs.Ytadbpelpbaikiaa.E
