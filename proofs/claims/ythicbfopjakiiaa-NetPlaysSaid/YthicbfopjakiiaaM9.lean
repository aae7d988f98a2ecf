import Derived.Test.YthicbfopjakiiaaM7
import Derived.Test.YthicbfopjakiiaaM2
import Derived.Test.YthicbfopjakiiaaM3
import Derived.Test.YthicbfopjakiiaaM1
import Derived.Test.YthicbfopjakiiaaProg
import Derived.KernelRfl
namespace Go.Proofs.Ythicbfopjakiiaa.E
open Go Go.RowKit
set_option linter.unusedSimpArgs false
set_option linter.unusedVariables false

end Go.Proofs.Ythicbfopjakiiaa.E
namespace Go.Proofs.Ythicbfopjakiiaa.E
open Go Go.RowKit

/-- Nothing that was there has turned, but blocks of F. -/
structure Turns (F : Nat → Prop) (w w' : World) : Prop where
  os : w'.os = w.os
  tape : w'.tape = w.tape
  output : w'.output = w.output
  size : w.heap.size ≤ w'.heap.size
  block : ∀ k, k < w.heap.size → ¬ F k → w'.heap[k]? = w.heap[k]?
/-- F, and all that is new since there were n blocks. -/
def Ext (F : Nat → Prop) (n : Nat) : Nat → Prop := fun k => F k ∨ n ≤ k
section
variable {F : Nat → Prop} {w w' w'' : World}
theorem Turns.refl (F : Nat → Prop) (w : World) : Turns F w w := ⟨rfl, rfl, rfl, Nat.le_refl _, fun _ _ _ => rfl⟩
theorem Turns.trans (h : Turns F w w') (k : Turns (Ext F w.heap.size) w' w'') : Turns F w w'' :=
  ⟨k.os.trans h.os, k.tape.trans h.tape, k.output.trans h.output, Nat.le_trans h.size k.size, fun i hi hF => (k.block i (Nat.lt_of_lt_of_le hi h.size) (fun e => e.elim hF (fun e => absurd e (Nat.not_le.2 hi)))).trans (h.block i hi hF)⟩
theorem Turns.mono {G : Nat → Prop} (h : Turns F w w') (hG : ∀ k, k < w.heap.size → F k → G k) : Turns G w w' := ⟨h.os, h.tape, h.output, h.size, fun k hk hF => h.block k hk (fun e => hF (hG k hk e))⟩
theorem Turns.of_below (h : Below w.heap.size w w') : Turns F w w' := ⟨h.os, h.tape, h.output, h.size, fun k hk _ => h.block k hk⟩
theorem Turns.below {B : Nat} (h : Turns F w w') (hB : B ≤ w.heap.size) (hF : ∀ k, k < B → ¬ F k) : Below B w w' := ⟨h.os, h.tape, h.output, h.size, fun k hk => h.block k (Nat.lt_of_lt_of_le hk hB) (hF k hk)⟩
theorem Turns.then_below (h : Turns F w w') (k : Below w'.heap.size w' w'') : Turns F w w'' := h.trans (Turns.of_below k)
theorem Turns.drew (h : Turns F w w') : Turns F w w'.drew := ⟨h.os, h.tape, h.output, h.size, h.block⟩
theorem Turns.alloc (h : Turns F w w') (o : Obj) : Turns F w (w'.alloc o) := h.then_below ((Below.refl _ _).alloc (Nat.le_refl _) o)
theorem Turns.setCell (h : Turns F w w') {p : Addr} (hp : Ext F w.heap.size p.block) (u : Value) : Turns F w (w'.setCell p u) :=
  h.trans ⟨rfl, rfl, rfl, by simp [World.setCell], fun k _ hk => Below.heap_setCell _ _ _ _ (fun e => hk (by rw [e]; exact hp))⟩
theorem Turns.setRow (h : Turns F w w') {g : Nat} (hp : Ext F w.heap.size g) (ds : Array Value) : Turns F w (w'.setRow g ds) :=
  h.trans ⟨rfl, rfl, rfl, by simp [World.setRow], fun k _ hk => setRow_other _ _ _ _ (fun e => hk (by rw [e]; exact hp))⟩
theorem Turns.grown (h : Turns F w w') {row : Option Nat} (hg : w'.grownBy w'' row) (hr : ∀ k, row = some k → Ext F w.heap.size k) : Turns F w w'' :=
  h.trans ⟨hg.os, hg.tape, hg.output, hg.size, fun k hk hF => hg.block k hk (fun e => hF (hr k e.symm))⟩
theorem Blk.turns {g : Nat} {t : TypeId} {cs : Array Value} (h : Blk w g t cs) (hT : Turns F w w') (hF : ¬ F g) : Blk w' g t cs := (hT.block g h.lt hF).trans h
theorem Own.turns {e : TypeId} {v : Value} {xs : List Value} (h : Own e w v xs) (hT : Turns F w w') (hF : ∀ k, v.ownBlock = some k → ¬ F k) : Own e w' v xs := by
  refine ⟨h.1, ?_⟩
  rcases h.2 with h | ⟨g, cap, cur, rfl, h1, h2, h3⟩
  · exact .inl h
  · refine .inr ⟨g, cap, cur, rfl, h1, ?_, h3⟩
    rw [hT.block g (Array.getElem?_eq_some_iff.1 h2).1 (hF g rfl)]
    exact h2
theorem Own.ownLt {e : TypeId} {v : Value} {xs : List Value} (h : Own e w v xs) {k : Nat} (hk : v.ownBlock = some k) : k < w.heap.size := by
  rcases h.2 with h | ⟨g, cap, cur, rfl, h1, h2, h3⟩
  · rw [h.1] at hk; cases hk
  · have : g = k := by simpa [Value.ownBlock] using hk
    subst this
    exact (Array.getElem?_eq_some_iff.1 h2).1
end
end Go.Proofs.Ythicbfopjakiiaa.E
namespace Go.Proofs.Ythicbfopjakiiaa.E
open Go
set_option maxRecDepth 100000

/-- shelfmark/shelfmarkref01.Num -/
def S57 (a0 : Value) (R : Value → World → Prop) (w : World) : Prop :=
  LiftP Try.prog (binS Go.BinOp.lss 3 (Go.Operand.tmp 3) (Go.Operand.const (Go.Value.int Go.IntKind.i64 0)) a0 (Go.Value.int Go.IntKind.i64 0)) (fun v4 w =>
  CondP v4 (fun w =>
    R (Go.Value.slice none 0 0) w) (fun w =>
    LiftP Try.prog (binS Go.BinOp.lss 3 (Go.Operand.tmp 5) (Go.Operand.const (Go.Value.int Go.IntKind.i64 128)) a0 (Go.Value.int Go.IntKind.i64 128)) (fun v6 w =>
  CondP v6 (fun w =>
    LiftP Try.prog (convert 3 5 a0) (fun v8 w =>
    LiftP Try.prog (Instr.buildSlice 30 1 #[(0, v8)]) (fun v9 w =>
    R v9 w) w) w) (fun w =>
    LiftP Try.prog (binS Go.BinOp.rem 3 (Go.Operand.tmp 10) (Go.Operand.const (Go.Value.int Go.IntKind.i64 128)) a0 (Go.Value.int Go.IntKind.i64 128)) (fun v11 w =>
  LiftP Try.prog (binS Go.BinOp.add 3 (Go.Operand.const (Go.Value.int Go.IntKind.i64 128)) (Go.Operand.tmp 11) (Go.Value.int Go.IntKind.i64 128) v11) (fun v12 w =>
  LiftP Try.prog (convert 3 5 v12) (fun v13 w =>
  LiftP Try.prog (Instr.buildSlice 30 1 #[(0, v13)]) (fun v14 w =>
  LiftP Try.prog (binS Go.BinOp.quo 3 (Go.Operand.tmp 15) (Go.Operand.const (Go.Value.int Go.IntKind.i64 128)) a0 (Go.Value.int Go.IntKind.i64 128)) (fun v16 w =>
  CallP Try.prog 57 #[v16] (fun v17 w =>
  NextP Try.prog (builtin Go.Builtin.append #[30, 30] 30 #[false, false] #[v14, v17]) (fun v18 w =>
  R v18 w) w) w) w) w) w) w) w) w) w) w) w
theorem S57.calls (a0 : Value) (R : Value → World → Prop) (w : World) (h : S57 a0 R w) : Calls Try.prog 57 #[a0] w fun e w' => ∃ v, e = .returned v ∧ R v w' :=
  calls_of_tr (n := 19) (c := bodyOf Try.f57) (.two .leaf (.two (.two .leaf (.two (.two .leaf .leaf) .leaf)) (.two (.two .leaf (.two (.two .leaf .leaf) .leaf)) (.two .leaf .leaf)))) Try.func57 (by kernel_rfl) Try.ntmps57 (by kernel_rfl) (by kernel_rfl) [a0] (by kernel_rfl) (of_eq_ (by kernel_rfl) h)

/-- shelfmark/shelfmarkref01.Text -/
def S73 (a0 : Value) (R : Value → World → Prop) (w : World) : Prop :=
  NextP Try.prog (builtin Go.Builtin.len #[9] 3 #[false] #[a0]) (fun v4 w =>
  CallP Try.prog 57 #[v4] (fun v5 w =>
  NextP Try.prog (builtin Go.Builtin.append #[30, 9] 30 #[false, false] #[v5, a0]) (fun v7 w =>
  R v7 w) w) w) w
theorem S73.calls (a0 : Value) (R : Value → World → Prop) (w : World) (h : S73 a0 R w) : Calls Try.prog 73 #[a0] w fun e w' => ∃ v, e = .returned v ∧ R v w' :=
  calls_of_tr (n := 8) (c := bodyOf Try.f73) (.two .leaf (.two .leaf .leaf)) Try.func73 (by kernel_rfl) Try.ntmps73 (by kernel_rfl) (by kernel_rfl) [a0] (by kernel_rfl) (of_eq_ (by kernel_rfl) h)

end Go.Proofs.Ythicbfopjakiiaa.E
