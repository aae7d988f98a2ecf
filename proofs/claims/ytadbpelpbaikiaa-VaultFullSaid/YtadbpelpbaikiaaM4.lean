import Derived.Test.YtadbpelpbaikiaaM3
import Derived.Laws.StructEq
import Derived.Laws.CopyRow
import Derived.Lib.ConvBytes
import Derived.Laws.Concat
import Derived.Laws.Strings2
import Derived.Laws.Strings3
import Derived.Test.YtadbpelpbaikiaaM1
import Derived.Test.YtadbpelpbaikiaaProg
import Derived.KernelRfl
namespace Go.Proofs.Ytadbpelpbaikiaa.E
open Go Go.RowKit

theorem rRow.at {α : Type} {s : Nat} {r : Rdr α} {w : World} {A : Option Addr} {n c : Nat} {l : List α} (h : rRow s r w [.slice A n c] l) (i : Nat) (hi : i < l.length) :
    ∃ a us, A = some a ∧ us.length = s ∧ (∀ j u, us[j]? = some u → w.cell? ((a.add (i * s)).add j) = some u) ∧ r w us l[i] := by
  obtain ⟨A', c', he, _, _, h⟩ := h
  simp only [List.cons.injEq, Value.slice.injEq] at he
  obtain ⟨⟨rfl, _, _⟩, _⟩ := he
  obtain ⟨a, us, h1, h2, h3, h4⟩ := h i l[i] (List.getElem?_eq_getElem hi)
  exact ⟨a, us, h1, h2, fun j u hu => by rw [Addr.add_add]; exact h3 j u hu, h4⟩
theorem rRow.slice {α : Type} {s : Nat} {r : Rdr α} {w : World} {v : Value} {l : List α} (h : rRow s r w [v] l) : ∃ A c, v = .slice A l.length c ∧ l.length ≤ c ∧ c ≤ 9223372036854775807 := by
  obtain ⟨A, c, he, h1, h2, _⟩ := h
  simp only [List.cons.injEq, and_true] at he
  exact ⟨A, c, he, h1, by simp only [maxLen] at h2; omega⟩
section
variable {w w' : World}
theorem blk_ne {t t' : TypeId} {g g' : Nat} {cs cs' : Array Value} (h : Blk w g t cs) (h' : Blk w g' t' cs') (ht : t ≠ t') : g ≠ g' := by
  rintro rfl
  have := h.symm.trans h'
  simp only [Option.some.injEq, Obj.cells.injEq] at this
  exact ht this.2.1
end
section
variable {P : Program} {K : Value → World → Prop} {S : World → Prop} {w : World}
theorem yixA {t e : TypeId} (h : P.underlying t = some (.slice e)) {s : Nat} (hs : (P.info? e).map (·.size) = some s) {a : Addr} {n c : Nat} {kd : IntKind} (i : Nat) (h1 : i < n)
    (k : K (.pointer (some (a.add (i * s)))) w) : YieldP P S (Instr.indexAt t (.slice (some a) n c) (.int kd (i : Int))) K w := by
  obtain ⟨j, hj, hs⟩ := Option.map_eq_some_iff.1 hs
  refine yld (v := .pointer (some (a.add (i * s)))) (fun w' _ => ?_) k
  simp [Instr.indexAt, run_underlying h, asIntOf, h1, sizeOf, typeInfo, hj, hs]
end
section
variable {P : Program}
theorem pr_pnot {t e : TypeId} {x y : Operand} (h : P.underlying t = some (.pointer e)) {p : Option Addr} : PR P (binS .neq t x y (.pointer p) (.pointer none)) (.bool p.isSome) := by
  intro w
  have he : P.pointee t = e := by simp [Program.pointee, h]
  have hn : P.underlying t = some (.pointer (P.pointee t)) := by rw [he]; exact h
  simp only [binS, eqGuard_at_pointer, Sem.run_bind, Sem.run_pure, Result.andThen_ok]
  cases p with
  | none => simp [run_neq_pointer_nil w t none hn]
  | some a => simp [run_neq_pointer_nil w t (some a) hn]
end
end Go.Proofs.Ytadbpelpbaikiaa.E
namespace Go.Proofs.Ytadbpelpbaikiaa.E
open Go Go.RowKit

section
variable {P : Program} {K : Value → World → Prop} {S : World → Prop} {w : World}
/-- append(v, x...), elements of any size: the row's block is v's, or new. -/
theorem apGb {t ty e : TypeId} {cs : Array Bool} {z : Value} {size bytes : Nat} (ht : P.underlying t = some (.slice e)) (hinfo : (P.info? e).map (fun i => (i.zero, i.size, i.bytes)) = some (some z, size, bytes)) (hz : z.cells.size = size) (hsz : 0 < size)
    {v : Value} {xs : List Value} {n : Nat} (hown : w.ownsRow 0 e size v n xs) {a : Addr} {m c : Nat} {news : List Value} (hl : news.length = m * size) (hnews : ∀ j u, news[j]? = some u → w.cell? (a.add j) = some u) (h1 : ∀ u ∈ news, u.oneCell' = true)
    (h63 : n + m ≤ 9223372036854775807) (hbytes : (n + m) * bytes ≤ 140737488355328)
    (k : ∀ v' w', w'.ownsRow 0 e size v' (n + m) (xs ++ news) → (v'.ownBlock = v.ownBlock ∨ v'.ownBlock = some w.heap.size) → Turns (fun j => v.ownBlock = some j) w w' → K v' w') : NextP P (builtin .append #[t, t] ty cs #[v, .slice (some a) m c]) K w := by
  obtain ⟨i, hi, hzz⟩ := Option.map_eq_some_iff.1 hinfo
  simp only [Prod.mk.injEq] at hzz
  obtain ⟨hz0, hz1, hz2⟩ := hzz
  obtain ⟨v', w', hr, h2, h3, _, h5⟩ := run_append_own_at (P := P) w 0 t ty e i z size bytes ht hi hz0 hz1 hz2 hz hsz v n xs hown a m c news hl hnews h1 (by simp only [maxLen]; omega) hbytes (Nat.zero_le _)
  refine nextV (v := v') (w' := w') ?_ (k v' w' h2 h5 ⟨h3.os, h3.tape, h3.output, h3.size, fun j hj hF => h3.block j hj (fun e => hF e.symm)⟩)
  simp only [builtin]
  simp [hr]
end
theorem ownsRow_turns {s : Nat} {e : TypeId} {w w' : World} {v : Value} {n : Nat} {xs : List Value} {F : Nat → Prop} (h : w.ownsRow 0 e s v n xs) (hT : Turns F w w') (hF : ∀ k, v.ownBlock = some k → ¬ F k) : w'.ownsRow 0 e s v n xs := by
  refine ⟨h.1, ?_⟩
  rcases h.2 with h | ⟨g, c, cur, rfl, h0, hb, h1⟩
  · exact .inl h
  · have hlt : g < w.heap.size := (Array.getElem?_eq_some_iff.1 hb).1
    exact .inr ⟨g, c, cur, rfl, h0, (hT.block g hlt (hF g rfl)).trans hb, h1⟩
theorem ownsRow_lt {s : Nat} {e : TypeId} {w : World} {v : Value} {n : Nat} {xs : List Value} (h : w.ownsRow 0 e s v n xs) {k : Nat} (hk : v.ownBlock = some k) : k < w.heap.size := by
  rcases h.2 with ⟨rfl, _⟩ | ⟨g, c, cur, rfl, h0, hb, h1⟩
  · cases hk
  · have : g = k := by simpa [Value.ownBlock] using hk
    subst this
    exact (Array.getElem?_eq_some_iff.1 hb).1
theorem Turns.cut {F : Nat → Prop} {w w' : World} (h : Turns F w w') : Turns (fun k => F k ∧ k < w.heap.size) w w' := ⟨h.os, h.tape, h.output, h.size, fun k hk hF => h.block k hk fun e => hF ⟨e, hk⟩⟩
end Go.Proofs.Ytadbpelpbaikiaa.E
namespace Go.Proofs.Ytadbpelpbaikiaa.E
open Go Go.RowKit

/-- A text. -/
def tS (t : List UInt8) : Value := .string ⟨t.toArray⟩
theorem tS_of (s : ByteArray) : Value.string s = tS s.data.toList := by unfold tS; rw [Array.toArray_toList]
section
variable {P : Program} {K : Value → World → Prop} {S : World → Prop} {w : World} {ty : TypeId} {x y : Operand}
theorem pt_eql (t u : List UInt8) : PR P (binS .eql ty x y (tS t) (tS u)) (.bool (decide (t = u))) := by
  have h := pr_seql (P := P) (t := ty) (x := x) (y := y) (a := ⟨t.toArray⟩) (b := ⟨u.toArray⟩)
  simp only at h
  exact h
theorem pt_neq (t u : List UInt8) : PR P (binS .neq ty x y (tS t) (tS u)) (.bool (decide (t ≠ u))) := by
  have h := pr_sneq (P := P) (t := ty) (x := x) (y := y) (a := ⟨t.toArray⟩) (b := ⟨u.toArray⟩)
  simp only at h
  exact h
theorem tl_eql {t u : List UInt8} (k : K (.bool (decide (t = u))) w) : LiftP P (binS .eql ty x y (tS t) (tS u)) K w := ofPR (pt_eql t u) k
theorem ty_eql {t u : List UInt8} (k : K (.bool (decide (t = u))) w) : YieldP P S (binS .eql ty x y (tS t) (tS u)) K w := yofPR (pt_eql t u) k
theorem ty_neq {t u : List UInt8} (k : K (.bool (decide (t ≠ u))) w) : YieldP P S (binS .neq ty x y (tS t) (tS u)) K w := yofPR (pt_neq t u) k
/-- the same, against the empty text -/
theorem tl_eql0 {t : List UInt8} (k : K (.bool (decide (t = []))) w) : LiftP P (binS .eql ty x y (tS t) (.string { data := #[] })) K w := tl_eql (u := []) k
end
end Go.Proofs.Ytadbpelpbaikiaa.E
namespace Go.Proofs.Ytadbpelpbaikiaa.E
open Go Go.RowKit

theorem Fresh.one {B : Nat} {w : World} {v v' : Value} (h : Fresh B v) (hB : B ≤ w.heap.size) (hbl : v'.ownBlock = v.ownBlock ∨ ∃ b, v'.ownBlock = some b ∧ w.heap.size ≤ b) : Fresh B v' := fun k hk => by
  rcases hbl with e | ⟨b, e, hb⟩
  · exact h k (by rw [← e]; exact hk)
  · rw [e] at hk; cases hk; omega
theorem Turns.fresh {B : Nat} {w w' : World} {v : Value} (hT : Turns (fun j => v.ownBlock = some j) w w') (h : Fresh B v) (hB : B ≤ w.heap.size) : Below B w w' := hT.below hB fun k hk e => by have := h k e; omega
section
variable {P : Program} {K : Value → World → Prop} {S : World → Prop} {w : World} {ty : TypeId} {x y : Operand}
theorem dec_K {p : Prop} [Decidable p] (h1 : p → K (.bool true) w) (h2 : ¬ p → K (.bool false) w) : K (.bool (decide p)) w := by
  by_cases h : p
  · rw [decide_eq_true h]; exact h1 h
  · rw [decide_eq_false h]; exact h2 h
theorem tB {p : Prop} [Decidable p] (h : p) : Value.bool true = .bool (decide p) := by rw [decide_eq_true h]
theorem fB {p : Prop} [Decidable p] (h : ¬ p) : Value.bool false = .bool (decide p) := by rw [decide_eq_false h]
theorem tl_eql_t {t u : List UInt8} (h : t = u) (k : K (.bool true) w) : LiftP P (binS .eql ty x y (tS t) (tS u)) K w := tl_eql (dec_K (fun _ => k) (fun e => absurd h e))
theorem tl_eql0_c {t : List UInt8} (h1 : t = [] → K (.bool true) w) (h2 : ¬ (t = []) → K (.bool false) w) : LiftP P (binS .eql ty x y (tS t) (.string { data := #[] })) K w := tl_eql0 (dec_K h1 h2)
theorem ty_eql_t {t u : List UInt8} (h : t = u) (k : K (.bool true) w) : YieldP P S (binS .eql ty x y (tS t) (tS u)) K w := ty_eql (dec_K (fun _ => k) (fun e => absurd h e))
theorem ty_neq_f {t u : List UInt8} (h : ¬ (t ≠ u)) (k : K (.bool false) w) : YieldP P S (binS .neq ty x y (tS t) (tS u)) K w := ty_neq (dec_K (fun e => absurd e h) (fun _ => k))
end
section
variable {P : Program} {K : Value → World → Prop} {S : World → Prop} {w : World} {t : TypeId}
theorem bxB {cs : Array Value} (k : ∀ g w', g = w.heap.size → Blk w' g t cs → Below w.heap.size w w' → K (.pointer (some ⟨g, 0, none⟩)) w') : LiftP P (Instr.box t (.agg cs)) K w :=
  bx (k _ _ rfl (Blk.new w t cs) ((Below.refl _ _).alloc (Nat.le_refl _) _))
theorem Turns.own {B g : Nat} {w w' : World} (h : Turns (fun j => j = g) w w') (hg : B ≤ g) (hB : B ≤ w.heap.size) : Below B w w' := h.below hB fun k hk e => by omega
end
end Go.Proofs.Ytadbpelpbaikiaa.E
namespace Go.Proofs.Ytadbpelpbaikiaa.E
open Go Go.RowKit

theorem add_add (a : Addr) (m n : Nat) : (a.add m).add n = a.add (m + n) := by
  unfold Addr.add
  by_cases hm : m = 0 <;> by_cases hn : n = 0 <;> simp [hm, hn, Nat.add_assoc]
end Go.Proofs.Ytadbpelpbaikiaa.E
namespace Go.Proofs.Ytadbpelpbaikiaa.E
open Go Go.RowKit

end Go.Proofs.Ytadbpelpbaikiaa.E
namespace Go.Proofs.Ytadbpelpbaikiaa.E
open Go Go.RowKit
set_option linter.unusedSimpArgs false
set_option linter.unusedVariables false

end Go.Proofs.Ytadbpelpbaikiaa.E
namespace Go.Proofs.Ytadbpelpbaikiaa.E
open Go Go.RowKit
set_option linter.unusedSimpArgs false
set_option linter.unusedVariables false

/-- An object: its colour, what is so in memory; that it stands while no block of its colour, or of what never turns, is turned. -/
structure Ob9 where
  hu : Nat
  ok : (Nat → Nat) → World → Prop
  pos : 0 < hu ∧ hu < 999
  turns : ∀ {c : Nat → Nat} {w w' : World} {G : Nat → Prop}, ok c w → Turns G w w' → (∀ k, G k → c k ≠ hu ∧ c k ≠ 999) → ok c w'
  re : ∀ {c c' : Nat → Nat} {w : World}, ok c w → (∀ k, k < w.heap.size → c' k = c k) → ok c' w
def MemX (w0 w : World) (L : List Ob9) : Prop := ∃ c : Nat → Nat, (∀ k, k < w0.heap.size → c k = 0) ∧ (∀ o ∈ L, o.ok c w) ∧ Below w0.heap.size w0 w
section
variable {w0 w w' : World} {L A B : List Ob9} {o : Ob9}
theorem Ob9.below {c : Nat → Nat} (h : o.ok c w) (hb : Below w.heap.size w w') : o.ok c w' := o.turns (G := fun _ => False) h (Turns.of_below hb) fun _ h => h.elim
theorem MemX.bel (h : MemX w0 w L) : Below w0.heap.size w0 w := by obtain ⟨_, _, _, h⟩ := h; exact h
theorem MemX.below (h : MemX w0 w L) (hb : Below w.heap.size w w') : MemX w0 w' L := by
  obtain ⟨c, h1, h2, h3⟩ := h
  exact ⟨c, h1, fun o ho => Ob9.below (h2 o ho) hb, h3.trans (hb.mono h3.size)⟩
theorem MemX.nil (w : World) : MemX w w [] := ⟨fun _ => 0, fun _ _ => rfl, by simp, Below.refl _ _⟩
theorem MemX.sub (h : MemX w0 w L) (hs : ∀ x ∈ A, x ∈ L) : MemX w0 w A := by
  obtain ⟨c, h1, h2, h3⟩ := h
  exact ⟨c, h1, fun o ho => h2 o (hs o ho), h3⟩
/-- A call on the first of them: what stands in its place. -/
theorem MemX.call (h : MemX w0 w (o :: B)) (hd : ∀ x ∈ B, x.hu ≠ o.hu) : ∃ c, o.ok c w ∧ (∀ x ∈ B, x.ok c w) ∧ ∀ (os : List Ob9) (w' : World), (∃ c' : Nat → Nat, (∀ k, k < w.heap.size → c' k = c k) ∧ (∀ x ∈ os, x.ok c' w') ∧ Turns (fun k => c k = o.hu) w w') → MemX w0 w' (os ++ B) := by
  obtain ⟨c, h1, h2, h3⟩ := h
  have ho := h2 o (by simp)
  have hp := o.pos
  refine ⟨c, ho, fun x hx => h2 x (by simp [hx]), fun os w' ⟨c', hc, hS, hT⟩ => ⟨c', fun k hk => (hc k (Nat.lt_of_lt_of_le hk h3.size)).trans (h1 k hk), fun x hx => ?_, h3.trans (hT.below h3.size fun k hk e => ?_)⟩⟩
  · rcases List.mem_append.1 hx with h | h
    · exact hS x h
    · refine x.turns (x.re (h2 x (by simp [h])) hc) hT.cut fun k hk => ?_
      rw [hc k hk.2, show c k = o.hu from hk.1]
      exact ⟨fun e => hd x h e.symm, by omega⟩
  · rw [h1 k hk] at e
    omega
theorem MemX.look (h : MemX w0 w L) : ∃ c, (∀ k, k < w0.heap.size → c k = 0) ∧ ∀ o ∈ L, o.ok c w := by
  obtain ⟨c, h1, h2, _⟩ := h
  exact ⟨c, h1, h2⟩
/-- Objects are made. -/
theorem MemX.make (h : MemX w0 w L) : ∃ c : Nat → Nat, (∀ o ∈ L, o.ok c w) ∧ ∀ (os : List Ob9) w', (∃ c' : Nat → Nat, (∀ k, k < w.heap.size → c' k = c k) ∧ (∀ x ∈ os, x.ok c' w') ∧ Below w.heap.size w w') → MemX w0 w' (os ++ L) := by
  obtain ⟨c, h1, h2, h3⟩ := h
  refine ⟨c, h2, fun os w' ⟨c', hc, hS, hb⟩ => ⟨c', fun k hk => (hc k (Nat.lt_of_lt_of_le hk h3.size)).trans (h1 k hk), fun x hx => ?_, h3.trans (hb.mono h3.size)⟩⟩
  rcases List.mem_append.1 hx with h | h
  · exact hS x h
  · exact Ob9.below (x.re (h2 x h) hc) hb
end
theorem MemX.sw {w0 w : World} {a b : Ob9} {L : List Ob9} (h : MemX w0 w (a :: b :: L)) : MemX w0 w (b :: a :: L) := h.sub fun x hx => by
  simp only [List.mem_cons] at hx ⊢
  rcases hx with h | h | h <;> simp [h]
/-- A block known whole. -/
def bxO (g : Nat) (t : TypeId) (cs : Array Value) : Ob9 where
  hu := 9
  ok := fun c w => c g = 9 ∧ Blk w g t cs
  pos := by omega
  turns := fun h hT hG => ⟨h.1, h.2.turns hT fun e => (hG _ e).1 h.1⟩
  re := fun h hc => ⟨(hc _ h.2.lt).trans h.1, h.2⟩
theorem MemX.box {w0 w w' : World} {L : List Ob9} {g : Nat} {t : TypeId} {cs : Array Value} (h : MemX w0 w L) (hg : g = w.heap.size) (hB : Blk w' g t cs) (hb : Below w.heap.size w w') : MemX w0 w' (bxO g t cs :: L) := by
  obtain ⟨c, h1, h2⟩ := h.make
  refine h2 [bxO g t cs] w' ⟨col c w.heap.size 9, col_lt _ _ _, fun x hx => ?_, hb⟩
  simp only [List.mem_cons, List.not_mem_nil, or_false] at hx
  subst hx
  exact ⟨col_ge _ _ _ (by omega), hB⟩
theorem MemX.blk {w0 w : World} {L : List Ob9} {g : Nat} {t : TypeId} {cs : Array Value} (h : MemX w0 w L) (hm : bxO g t cs ∈ L) : Blk w g t cs := by
  obtain ⟨c, _, h2⟩ := h.look
  exact (h2 _ hm).2
theorem MemX.old {w00 w0 w : World} {L : List Ob9} (h : MemX w0 w L) (hb : Below w00.heap.size w00 w0) : MemX w00 w L := by
  obtain ⟨c, h1, h2, h3⟩ := h
  exact ⟨c, fun k hk => h1 k (Nat.lt_of_lt_of_le hk hb.size), h2, below_then hb h3⟩
section
variable {P : Program} {K : Value → World → Prop} {w : World}
/-- A method of what an interface value holds. -/
theorem ivm {name : String} {t : TypeId} {v rcv : Value} {f : FuncId} {args : Array Value} (hm : (method (P.types.size + Made.depth) t v name).run P w = .ok (f, rcv) w) (hc : callable P f = true) (h : CallP P f (#[rcv] ++ args) K w) :
    NextP P (invoke (.fn (.method name) #[]) (#[.iface t v] ++ args)) K w := by
  refine ⟨?_⟩
  have h1 : (invoke (.fn (.method name) #[]) (#[.iface t v] ++ args)).run P w = (callFunc f (#[rcv] ++ args)).run P w := by
    have e0 : (#[Value.iface t v] ++ args)[0]? = some (.iface t v) := by
      rw [Array.getElem?_append_left (by show 0 < 1; omega)]
      rfl
    have e1 : (#[Value.iface t v] ++ args).extract 1 (#[Value.iface t v] ++ args).size = args := by
      apply Array.ext'
      rw [Array.toList_extract, Array.toList_append, List.extract_eq_take_drop, Array.size_append]
      simp only [List.size_toArray, List.length_cons, List.length_nil, Nat.zero_add, Nat.add_sub_cancel_left, List.cons_append, List.nil_append, List.drop_succ_cons, List.drop_zero]
      exact List.take_of_length_le (Nat.le_of_eq Array.length_toList)
    show (match (#[Value.iface t v] ++ args)[0]? with
      | some recv => callMethod recv name ((#[Value.iface t v] ++ args).extract 1 (#[Value.iface t v] ++ args).size)
      | _ => stuck "call: a method without a receiver").run P w = _
    rw [e0, e1]
    show (callMethod (.iface t v) name args).run P w = _
    simp [callMethod, Sem.run_bind, run_program, hm]
  have hr : (callFunc f (#[rcv] ++ args)).run P w = .ok (.enter f (#[rcv] ++ args)) w := by
    unfold callable at hc
    split at hc
    · rename_i fn hfn
      simp only [Bool.and_eq_true, Bool.not_eq_true'] at hc
      have hb : fn.body.isNone = false := by
        cases hh : fn.body with
        | none => rw [hh] at hc; simp at hc
        | some c => rfl
      unfold callFunc
      simp only [Sem.run_bind, run_program, Result.andThen_ok, hfn]
      rw [if_neg (by rw [hc.2]; exact Bool.false_ne_true), if_neg (by rw [hb]; exact Bool.false_ne_true)]
      rfl
    · cases hc
  rw [h1, hr]
  exact h
end
end Go.Proofs.Ytadbpelpbaikiaa.E
namespace Go.Proofs.Ytadbpelpbaikiaa.E
open Go Go.RowKit
set_option linter.unusedSimpArgs false
set_option linter.unusedVariables false

abbrev Txt := List UInt8
section
variable {P : Program} {K : Value → World → Prop} {w : World}
theorem str_addE (a b : List UInt8) : (⟨a.toArray⟩ : ByteArray) ++ ⟨b.toArray⟩ = ⟨(a ++ b).toArray⟩ := by
  apply ByteArray.ext
  rw [ByteArray.data_append]
  simp
theorem adT {ty : TypeId} {x y : Operand} {a b : List UInt8} (h : a.length + b.length ≤ 1000000000) (k : K (tS (a ++ b)) w) : LiftP P (binS .add ty x y (tS a) (tS b)) K w := by
  refine lift (v := tS (a ++ b)) (w' := w) ?_ k
  have hs : (⟨a.toArray⟩ : ByteArray).size + (⟨b.toArray⟩ : ByteArray).size ≤ 9223372036854775807 := by
    show a.toArray.size + b.toArray.size ≤ _
    simp; omega
  have := run_string_add_sum (P := P) w ⟨a.toArray⟩ ⟨b.toArray⟩ hs
  rw [str_addE] at this
  have h2 : (binOp .add ty (tS a) (tS b)).run P w = .ok (tS (a ++ b)) w := by
    unfold tS
    rw [binOp_string_add]; exact this
  rw [binS]
  simp [tS, eqGuard_at_string]
  exact h2
theorem tsz (a : List UInt8) : (⟨a.toArray⟩ : ByteArray).size = a.length := by show a.toArray.size = _; simp
theorem lnT {t ty : TypeId} (h : P.underlying t = some .string) {cs : Array Bool} {a : List UInt8} (k : K (.int .i64 a.length) w) : NextP P (builtin .len #[t] ty cs #[tS a]) K w := lns h (by rw [tsz]; exact k)
theorem ylnT {S : World → Prop} {t ty : TypeId} (h : P.underlying t = some .string) {cs : Array Bool} {a : List UInt8} (k : K (.int .i64 a.length) w) : YieldN P S (builtin .len #[t] ty cs #[tS a]) K w :=
  yldN (v := .int .i64 a.length) (fun w' _ => by
    have := run_len_string (P := P) w' t ty ⟨a.toArray⟩ h
    simp only [builtin] at this ⊢
    unfold tS
    simp [this, goInt, tsz]) k
theorem ixT {t : TypeId} {kd : IntKind} (h : P.underlying t = some .string) {a : List UInt8} (i : Nat) (hi : i < a.length) (k : K (u8 a[i]) w) : LiftP P (Instr.index t (tS a) (.int kd (i : Int))) K w := by
  have hi' : i < (⟨a.toArray⟩ : ByteArray).size := by rw [tsz]; exact hi
  refine lift (v := u8 a[i]) (w' := w) ?_ k
  unfold tS
  rw [run_index_string w t ⟨a.toArray⟩ kd (i : Int) h, dif_pos ⟨by omega, by omega⟩]
  rfl
theorem cutTB {t : TypeId} (h : P.underlying t = some .string) {a : List UInt8} {k1 k2 : IntKind} (i j : Nat) (hij : i ≤ j) (hj : j ≤ a.length) (k : K (tS ((a.drop i).take (j - i))) w) : LiftP P (Instr.sliceAt t (tS a) (some (.int k1 (i : Int))) (some (.int k2 (j : Int))) none) K w := by
  refine lift (v := tS ((a.drop i).take (j - i))) (w' := w) ?_ k
  rw [run_sliceAt_string w t _ _ _ _ h]
  unfold tS
  rw [run_slice_string w t ⟨a.toArray⟩ k1 k2 (i : Int) (j : Int) h (by omega) (by omega) (by rw [tsz]; omega)]
  rw [Int.toNat_natCast, Int.toNat_natCast, Go.ByteArray.extract_mk]
theorem cutTF {t : TypeId} (h : P.underlying t = some .string) {a : List UInt8} {k1 : IntKind} (i : Nat) (hi : i ≤ a.length) (k : K (tS (a.drop i)) w) : LiftP P (Instr.sliceAt t (tS a) (some (.int k1 (i : Int))) none none) K w := by
  refine lift (v := tS (a.drop i)) (w' := w) ?_ k
  rw [run_sliceAt_string w t _ _ _ _ h]
  unfold tS
  rw [run_slice_string_from_if w t ⟨a.toArray⟩ k1 (i : Int) h, if_pos ⟨by omega, by rw [tsz]; omega⟩]
  rw [Int.toNat_natCast, Go.ByteArray.extract_mk, tsz, List.take_of_length_le (by rw [List.length_drop]; omega)]
theorem cvSB {s d e : TypeId} (hs : P.underlying s = some .string) (hd : P.underlying d = some (.slice e)) (he : P.underlying e = some (.int .u8)) {b : ByteArray} (hbs : b.size ≤ 1000000)
    (k : ∀ v' w', RdB w' v' b.data.toList → Below w.heap.size w w' → K v' w') : LiftP P (convert s d (.string b)) K w := by
  have hge := grownCap_ge w b.size 0 e
  have hsz : b.data.toList.length = b.size := by rw [Array.length_toList]; rfl
  refine lift (Lib.run_convert_string_bytes w s d e b hs hd he) (k _ _ ⟨some ⟨w.heap.size, 0, none⟩, grownCap w b.size 0 e, ?_, ?_, ?_, fun i u hu => ⟨_, rfl, ?_⟩⟩ ?_)
  · rw [List.length_map, hsz]
  · rw [List.length_map, hsz]; exact hge
  · have := grownCap_le_maxLen w b.size 0 e (by simp only [maxLen]; omega)
    simp only [maxLen] at this
    omega
  · obtain ⟨hi, hu⟩ := List.getElem?_eq_some_iff.1 hu
    rw [List.length_map, hsz] at hi
    rw [add0, Nat.zero_add, Lib.bytesWorld_cell w e b i hi, ← hu, List.getElem_map]
    simp [u8, List.getD_eq_getElem?_getD, hsz, hi]
  · exact ⟨rfl, rfl, rfl, by rw [Lib.bytesWorld_size]; omega, fun k hk => Lib.bytesWorld_at_old w e b k hk⟩
/-- An interface value is made. -/
theorem mki {t : TypeId} {d : TypeDesc} (h : P.underlying t = some d) (hd : (match d with | .interface _ => false | _ => true) = true) {v : Value} (k : K (.iface t v) w) : LiftP P (Instr.makeInterface t v) K w := by
  refine lift (v := .iface t v) (w' := w) ?_ k
  cases d <;> simp_all [Instr.makeInterface, run_underlying h]
theorem mkfB {fn : Fn} {bs caps : Array Value} (k : K (.func fn bs caps) w) : LiftP P (Instr.makeFunc fn bs caps) K w := lift (v := .func fn bs caps) (w' := w) rfl k
/-- A function with what is bound to it is called. -/
theorem cvlB {f : FuncId} {bs caps args : Array Value} (hc : callable P f = true) (h : CallP P f (bs ++ args ++ caps) K w) : NextP P (callV (.func (.func f) bs caps) args) K w := by
  refine ⟨?_⟩
  have h1 : (callV (.func (.func f) bs caps) args).run P w = (callFunc f (bs ++ args ++ caps)).run P w := rfl
  have hr : (callFunc f (bs ++ args ++ caps)).run P w = .ok (.enter f (bs ++ args ++ caps)) w := by
    unfold callable at hc
    split at hc
    · rename_i fn hfn
      simp only [Bool.and_eq_true, Bool.not_eq_true'] at hc
      have hb : fn.body.isNone = false := by
        cases hh : fn.body with
        | none => rw [hh] at hc; simp at hc
        | some c => rfl
      unfold callFunc
      simp only [Sem.run_bind, run_program, Result.andThen_ok, hfn]
      rw [if_neg (by rw [hc.2]; exact Bool.false_ne_true), if_neg (by rw [hb]; exact Bool.false_ne_true)]
      rfl
    · cases hc
  rw [h1, hr]
  exact h
end
end Go.Proofs.Ytadbpelpbaikiaa.E
namespace Go.Proofs.Ytadbpelpbaikiaa.E
open Go
set_option maxRecDepth 100000

/-- shelfmark/sum.Get -/
def S39 (a0 a1 : Value) (R : Value → World → Prop) (w : World) : Prop :=
  LiftP Try.prog (binS Go.BinOp.lss 3 (Go.Operand.tmp 10) (Go.Operand.const (Go.Value.int Go.IntKind.i64 0)) a1 (Go.Value.int Go.IntKind.i64 0)) (fun v11 w =>
  GuardP v11 false (fun K w => K a1 w) (fun v13 w =>
  GuardP v11 false (fun K w => K a0 w) (fun v14 w =>
  GuardP v11 false (fun K w => NextP Try.prog (builtin Go.Builtin.len #[22] 3 #[false] #[v14]) K w) (fun v15 w =>
  GuardP v11 false (fun K w => LiftP Try.prog (binS Go.BinOp.gtr 3 (Go.Operand.tmp 13) (Go.Operand.tmp 15) v13 v15) K w) (fun v16 w =>
  PickP v11 (Go.Value.bool true) v16 (fun v17 w =>
  CondP v17 (fun w =>
    R (.tuple #[(Go.Value.int Go.IntKind.u32 0), (Go.Value.int Go.IntKind.i64 1)]) w) (fun w =>
    NextP Try.prog (builtin Go.Builtin.len #[22] 3 #[false] #[a0]) (fun v20 w =>
    LiftP Try.prog (binS Go.BinOp.sub 3 (Go.Operand.tmp 20) (Go.Operand.tmp 21) v20 a1) (fun v22 w =>
    LiftP Try.prog (binS Go.BinOp.lss 3 (Go.Operand.tmp 22) (Go.Operand.const (Go.Value.int Go.IntKind.i64 4)) v22 (Go.Value.int Go.IntKind.i64 4)) (fun v23 w =>
    CondP v23 (fun w =>
      R (.tuple #[(Go.Value.int Go.IntKind.u32 0), (Go.Value.int Go.IntKind.i64 2)]) w) (fun w =>
      LiftP Try.prog (binS Go.BinOp.add 3 (Go.Operand.tmp 26) (Go.Operand.const (Go.Value.int Go.IntKind.i64 4)) a1 (Go.Value.int Go.IntKind.i64 4)) (fun v27 w =>
  LiftP Try.prog (Instr.sliceAt 22 a0 (some a1) (some v27) none) (fun v28 w =>
  NextP Try.prog (builtin Go.Builtin.len #[22] 3 #[false] #[v28]) (fun v29 w =>
  LoopP (fun J vs w =>   -- [6, 30]
    LiftP Try.prog (binS Go.BinOp.lss 3 (Go.Operand.tmp 30) (Go.Operand.tmp 29) (vs.tail.headD undef) v29) (fun v31 w =>
    CondP v31 (fun w =>
      LiftP Try.prog (Instr.indexAt 22 v28 (vs.tail.headD undef)) (fun v32 w =>
    LiftP Try.prog (Instr.loadAt 5 v32) (fun v33 w =>
    LiftP Try.prog (binS Go.BinOp.shl 77 (Go.Operand.tmp 34) (Go.Operand.const (Go.Value.int Go.IntKind.u64 8)) (vs.headD undef) (Go.Value.int Go.IntKind.u64 8)) (fun v35 w =>
    LiftP Try.prog (convert 5 77 v33) (fun v37 w =>
    LiftP Try.prog (binS Go.BinOp.or 77 (Go.Operand.tmp 35) (Go.Operand.tmp 37) v35 v37) (fun v38 w =>
    LiftP Try.prog (binS Go.BinOp.add 3 (Go.Operand.tmp 30) (Go.Operand.const (Go.Value.int Go.IntKind.i64 1)) (vs.tail.headD undef) (Go.Value.int Go.IntKind.i64 1)) (fun v39 w =>
    J [v38, v39] w) w) w) w) w) w) w) (fun w =>
      R (.tuple #[(vs.headD undef), (Go.Value.int Go.IntKind.i64 0)]) w) w) w) [(Go.Value.int Go.IntKind.u32 0), (Go.Value.int Go.IntKind.i64 0)] w) w) w) w) w) w) w) w) w) w) w) w) w) w) w
theorem S39.calls (a0 a1 : Value) (R : Value → World → Prop) (w : World) (h : S39 a0 a1 R w) : Calls Try.prog 39 #[a0, a1] w fun e w' => ∃ v, e = .returned v ∧ R v w' :=
  calls_of_tr (n := 41) (c := bodyOf Try.f39) (.two .leaf (.two (.one (.two .leaf (.two (.two .leaf .leaf) (.two .leaf (.two (.two .leaf .leaf) .leaf))))) (.two .leaf (.two (.two .leaf (.one (.loop [6, 30] (.two .leaf (.two (.two .leaf .leaf) (.two (.one (.two .leaf .leaf)) .leaf)))))) (.two .leaf .leaf))))) Try.func39 (by kernel_rfl) Try.ntmps39 (by kernel_rfl) (by kernel_rfl) [a0, a1] (by kernel_rfl) (of_eq_ (by kernel_rfl) h)

/-- shelfmark/sum.Put -/
def S41 (a0 : Value) (R : Value → World → Prop) (w : World) : Prop :=
  LiftP Try.prog (binS Go.BinOp.shr 77 (Go.Operand.tmp 3) (Go.Operand.const (Go.Value.int Go.IntKind.u64 24)) a0 (Go.Value.int Go.IntKind.u64 24)) (fun v4 w =>
  LiftP Try.prog (convert 77 5 v4) (fun v5 w =>
  LiftP Try.prog (binS Go.BinOp.shr 77 (Go.Operand.tmp 6) (Go.Operand.const (Go.Value.int Go.IntKind.u64 16)) a0 (Go.Value.int Go.IntKind.u64 16)) (fun v7 w =>
  LiftP Try.prog (convert 77 5 v7) (fun v8 w =>
  LiftP Try.prog (binS Go.BinOp.shr 77 (Go.Operand.tmp 9) (Go.Operand.const (Go.Value.int Go.IntKind.u64 8)) a0 (Go.Value.int Go.IntKind.u64 8)) (fun v10 w =>
  LiftP Try.prog (convert 77 5 v10) (fun v11 w =>
  LiftP Try.prog (convert 77 5 a0) (fun v13 w =>
  LiftP Try.prog (Instr.buildSlice 22 4 #[(0, v5), (1, v8), (2, v11), (3, v13)]) (fun v14 w =>
  R v14 w) w) w) w) w) w) w) w) w
theorem S41.calls (a0 : Value) (R : Value → World → Prop) (w : World) (h : S41 a0 R w) : Calls Try.prog 41 #[a0] w fun e w' => ∃ v, e = .returned v ∧ R v w' :=
  calls_of_tr (n := 15) (c := bodyOf Try.f41) (.two .leaf (.two .leaf .leaf)) Try.func41 (by kernel_rfl) Try.ntmps41 (by kernel_rfl) (by kernel_rfl) [a0] (by kernel_rfl) (of_eq_ (by kernel_rfl) h)

/-- shelfmark/sum.More -/
def S43 (a0 a1 : Value) (R : Value → World → Prop) (w : World) : Prop :=
  LiftP Try.prog (Instr.alloc 86 true (.tuple #[])) (fun v5 w =>
  LoopP (fun J vs w =>   -- [9]
    LiftP Try.prog (binS Go.BinOp.lss 3 (Go.Operand.tmp 9) (Go.Operand.const (Go.Value.int Go.IntKind.i64 16)) (vs.headD undef) (Go.Value.int Go.IntKind.i64 16)) (fun v10 w =>
    CondP v10 (fun w =>
      LiftP Try.prog (convert 3 77 (vs.headD undef)) (fun v14 w =>
    CallP Try.prog 45 #[v14] (fun v15 w =>
    LiftP Try.prog (Instr.indexAt 86 v5 (vs.headD undef)) (fun v16 w =>
    LiftU Try.prog (Instr.storeAt 77 v16 v15) (fun v_ w =>
    LiftP Try.prog (binS Go.BinOp.add 3 (Go.Operand.tmp 9) (Go.Operand.const (Go.Value.int Go.IntKind.i64 1)) (vs.headD undef) (Go.Value.int Go.IntKind.i64 1)) (fun v17 w =>
    J [v17] w) w) w) w) w) w) (fun w =>
      LiftP Try.prog (Op.unary Go.UnOp.xor a0) (fun v19 w =>
  NextP Try.prog (builtin Go.Builtin.len #[22] 3 #[false] #[a1]) (fun v21 w =>
  LoopP (fun J_1 vs_1 w =>   -- [0, 22]
    LiftP Try.prog (binS Go.BinOp.lss 3 (Go.Operand.tmp 22) (Go.Operand.tmp 21) (vs_1.tail.headD undef) v21) (fun v23 w =>
    CondP v23 (fun w =>
      LiftP Try.prog (Instr.indexAt 22 a1 (vs_1.tail.headD undef)) (fun v24 w =>
    LiftP Try.prog (Instr.loadAt 5 v24) (fun v25 w =>
    LiftP Try.prog (convert 5 77 v25) (fun v28 w =>
    LiftP Try.prog (binS Go.BinOp.xor 77 (Go.Operand.tmp 26) (Go.Operand.tmp 28) (vs_1.headD undef) v28) (fun v29 w =>
    LiftP Try.prog (binS Go.BinOp.shr 77 (Go.Operand.tmp 30) (Go.Operand.const (Go.Value.int Go.IntKind.u64 4)) v29 (Go.Value.int Go.IntKind.u64 4)) (fun v31 w =>
    LiftP Try.prog (binS Go.BinOp.and 77 (Go.Operand.tmp 32) (Go.Operand.const (Go.Value.int Go.IntKind.u32 15)) v29 (Go.Value.int Go.IntKind.u32 15)) (fun v33 w =>
    LiftP Try.prog (Instr.indexAt 86 v5 v33) (fun v34 w =>
    LiftP Try.prog (Instr.loadAt 77 v34) (fun v35 w =>
    LiftP Try.prog (binS Go.BinOp.xor 77 (Go.Operand.tmp 31) (Go.Operand.tmp 35) v31 v35) (fun v36 w =>
    LiftP Try.prog (binS Go.BinOp.shr 77 (Go.Operand.tmp 37) (Go.Operand.const (Go.Value.int Go.IntKind.u64 4)) v36 (Go.Value.int Go.IntKind.u64 4)) (fun v38 w =>
    LiftP Try.prog (binS Go.BinOp.and 77 (Go.Operand.tmp 39) (Go.Operand.const (Go.Value.int Go.IntKind.u32 15)) v36 (Go.Value.int Go.IntKind.u32 15)) (fun v40 w =>
    LiftP Try.prog (Instr.indexAt 86 v5 v40) (fun v41 w =>
    LiftP Try.prog (Instr.loadAt 77 v41) (fun v42 w =>
    LiftP Try.prog (binS Go.BinOp.xor 77 (Go.Operand.tmp 38) (Go.Operand.tmp 42) v38 v42) (fun v43 w =>
    LiftP Try.prog (binS Go.BinOp.add 3 (Go.Operand.tmp 22) (Go.Operand.const (Go.Value.int Go.IntKind.i64 1)) (vs_1.tail.headD undef) (Go.Value.int Go.IntKind.i64 1)) (fun v44 w =>
    J_1 [v43, v44] w) w) w) w) w) w) w) w) w) w) w) w) w) w) w) w) (fun w =>
      LiftP Try.prog (Op.unary Go.UnOp.xor (vs_1.headD undef)) (fun v46 w =>
  R v46 w) w) w) w) [v19, (Go.Value.int Go.IntKind.i64 0)] w) w) w) w) w) [(Go.Value.int Go.IntKind.i64 0)] w) w
theorem S43.calls (a0 a1 : Value) (R : Value → World → Prop) (w : World) (h : S43 a0 a1 R w) : Calls Try.prog 43 #[a0, a1] w fun e w' => ∃ v, e = .returned v ∧ R v w' :=
  calls_of_tr (n := 47) (c := bodyOf Try.f43) (.two .leaf (.two .leaf (.two (.two .leaf (.one (.loop [9] (.two .leaf (.two (.two .leaf .leaf) (.two (.one (.two .leaf .leaf)) .leaf)))))) (.two .leaf (.two (.two .leaf (.one (.loop [0, 22] (.two .leaf (.two (.two .leaf .leaf) (.two (.one (.two .leaf (.two .leaf (.two .leaf .leaf)))) .leaf)))))) (.two .leaf .leaf)))))) Try.func43 (by kernel_rfl) Try.ntmps43 (by kernel_rfl) (by kernel_rfl) [a0, a1] (by kernel_rfl) (of_eq_ (by kernel_rfl) h)

/-- shelfmark/sum.Of -/
def S44 (a0 : Value) (R : Value → World → Prop) (w : World) : Prop :=
  CallP Try.prog 43 #[(Go.Value.int Go.IntKind.u32 0), a0] (fun v4 w =>
  R v4 w) w
theorem S44.calls (a0 : Value) (R : Value → World → Prop) (w : World) (h : S44 a0 R w) : Calls Try.prog 44 #[a0] w fun e w' => ∃ v, e = .returned v ∧ R v w' :=
  calls_of_tr (n := 5) (c := bodyOf Try.f44) (.two .leaf (.two .leaf .leaf)) Try.func44 (by kernel_rfl) Try.ntmps44 (by kernel_rfl) (by kernel_rfl) [a0] (by kernel_rfl) (of_eq_ (by kernel_rfl) h)

/-- shelfmark/sum.nibble -/
def S45 (a0 : Value) (R : Value → World → Prop) (w : World) : Prop :=
  LoopP (fun J vs w =>   -- [0, 3]
    LiftP Try.prog (binS Go.BinOp.lss 3 (Go.Operand.tmp 3) (Go.Operand.const (Go.Value.int Go.IntKind.i64 4)) (vs.tail.headD undef) (Go.Value.int Go.IntKind.i64 4)) (fun v4 w =>
    CondP v4 (fun w =>
      LiftP Try.prog (binS Go.BinOp.shr 77 (Go.Operand.tmp 5) (Go.Operand.const (Go.Value.int Go.IntKind.u64 1)) (vs.headD undef) (Go.Value.int Go.IntKind.u64 1)) (fun v6 w =>
    LiftP Try.prog (binS Go.BinOp.and 77 (Go.Operand.tmp 7) (Go.Operand.const (Go.Value.int Go.IntKind.u32 1)) (vs.headD undef) (Go.Value.int Go.IntKind.u32 1)) (fun v8 w =>
    LiftP Try.prog (Op.unary Go.UnOp.neg v8) (fun v9 w =>
    LiftP Try.prog (binS Go.BinOp.and 77 (Go.Operand.const (Go.Value.int Go.IntKind.u32 3988292384)) (Go.Operand.tmp 9) (Go.Value.int Go.IntKind.u32 3988292384) v9) (fun v10 w =>
    LiftP Try.prog (binS Go.BinOp.xor 77 (Go.Operand.tmp 6) (Go.Operand.tmp 10) v6 v10) (fun v11 w =>
    LiftP Try.prog (binS Go.BinOp.add 3 (Go.Operand.tmp 3) (Go.Operand.const (Go.Value.int Go.IntKind.i64 1)) (vs.tail.headD undef) (Go.Value.int Go.IntKind.i64 1)) (fun v12 w =>
    J [v11, v12] w) w) w) w) w) w) w) (fun w =>
      R (vs.headD undef) w) w) w) [a0, (Go.Value.int Go.IntKind.i64 0)] w
theorem S45.calls (a0 : Value) (R : Value → World → Prop) (w : World) (h : S45 a0 R w) : Calls Try.prog 45 #[a0] w fun e w' => ∃ v, e = .returned v ∧ R v w' :=
  calls_of_tr (n := 14) (c := bodyOf Try.f45) (.two .leaf (.two (.two .leaf (.one (.loop [0, 3] (.two .leaf (.two (.two .leaf .leaf) (.two (.one .leaf) .leaf)))))) (.two .leaf .leaf))) Try.func45 (by kernel_rfl) Try.ntmps45 (by kernel_rfl) (by kernel_rfl) [a0] (by kernel_rfl) (of_eq_ (by kernel_rfl) h)

end Go.Proofs.Ytadbpelpbaikiaa.E
