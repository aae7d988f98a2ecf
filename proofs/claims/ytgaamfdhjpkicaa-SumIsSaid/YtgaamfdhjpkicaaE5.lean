/-
  E5: how a shallow text is gone through: equations for 'simp' (an operation's run, never what follows it), and rules for what simp leaves.
-/
import Derived.Test.YtgaamfdhjpkicaaE4
import Derived.WalkKit
import Derived.WalkLawsBesides
import Derived.WalkSpells
namespace Go.Proofs.Ytgaamfdhjpkicaa.E
open Go Go.RowKit

/-! ### 1. rules for what needs no memory -/
section
variable {P : Program} {K : Value → World → Prop} {w : World}
theorem lift {m : Sem Value} {v : Value} {w' : World} (h : m.run P w = .ok v w') (k : K v w') : LiftP P m K w := ⟨⟨v, w', h, k⟩⟩
theorem liftU {m : Sem Unit} {u : Unit} {w' : World} (h : m.run P w = .ok u w') (k : K undef w') : LiftU P m K w := ⟨⟨w', h, k⟩⟩
theorem nextV {m : Sem Next} {v : Value} {w' : World} (h : m.run P w = .ok (.value v) w') (k : K v w') : NextP P m K w := ⟨by rw [h]; exact k⟩

section
variable {t : TypeId} {x y : Operand} {kd kd' : IntKind} {a b : Int}
theorem bi_add64 (h : -9223372036854775808 ≤ a + b ∧ a + b ≤ 9223372036854775807) (k : K (.int .i64 (a + b)) w) : LiftP P (binS .add t x y (.int .i64 a) (.int .i64 b)) K w :=
  lift (by simp only [binS, go_sem, Sem.run_bind, Sem.run_pure, Result.andThen_ok] <;> rfl) (by rw [IntWalk.i64_in _ h]; exact k)
theorem bi_sub64 (h : -9223372036854775808 ≤ a - b ∧ a - b ≤ 9223372036854775807) (k : K (.int .i64 (a - b)) w) : LiftP P (binS .sub t x y (.int .i64 a) (.int .i64 b)) K w :=
  lift (by simp only [binS, go_sem, Sem.run_bind, Sem.run_pure, Result.andThen_ok] <;> rfl) (by rw [IntWalk.i64_in _ h]; exact k)
theorem bi_mul64 (h : -9223372036854775808 ≤ a * b ∧ a * b ≤ 9223372036854775807) (k : K (.int .i64 (a * b)) w) : LiftP P (binS .mul t x y (.int .i64 a) (.int .i64 b)) K w :=
  lift (by simp only [binS, go_sem, Sem.run_bind, Sem.run_pure, Result.andThen_ok] <;> rfl) (by rw [IntWalk.i64_in _ h]; exact k)
theorem bi_add (k : K (.int kd (kd.wrap (a + b))) w) : LiftP P (binS .add t x y (.int kd a) (.int kd b)) K w := lift (by simp only [binS, go_sem, Sem.run_bind, Sem.run_pure, Result.andThen_ok] <;> rfl) k
theorem bi_sub (k : K (.int kd (kd.wrap (a - b))) w) : LiftP P (binS .sub t x y (.int kd a) (.int kd b)) K w := lift (by simp only [binS, go_sem, Sem.run_bind, Sem.run_pure, Result.andThen_ok] <;> rfl) k
theorem bi_mul (k : K (.int kd (kd.wrap (a * b))) w) : LiftP P (binS .mul t x y (.int kd a) (.int kd b)) K w := lift (by simp only [binS, go_sem, Sem.run_bind, Sem.run_pure, Result.andThen_ok] <;> rfl) k
theorem bi_quo64 (ha : 0 ≤ a ∧ a ≤ 9223372036854775807 ∧ 1 ≤ b) (k : K (.int .i64 (a / b)) w) : LiftP P (binS .quo t x y (.int .i64 a) (.int .i64 b)) K w :=
  lift (by
    have hb : b ≠ 0 := by omega
    simp only [binS, go_sem, Sem.run_bind, Sem.run_pure, Result.andThen_ok, hb, if_false] <;> rfl) (by rw [IntWalk.i64_quo _ _ ha]; exact k)
theorem bi_rem64 (ha : 0 ≤ a ∧ 1 ≤ b) (k : K (.int .i64 (a % b)) w) : LiftP P (binS .rem t x y (.int .i64 a) (.int .i64 b)) K w :=
  lift (by
    have hb : b ≠ 0 := by omega
    simp only [binS, go_sem, Sem.run_bind, Sem.run_pure, Result.andThen_ok, hb, if_false] <;> rfl) (by rw [IntWalk.rem_in _ _ ha.1]; exact k)
theorem bi_quo (hb : b ≠ 0) (k : K (.int kd (kd.wrap (a.tdiv b))) w) : LiftP P (binS .quo t x y (.int kd a) (.int kd b)) K w :=
  lift (by simp only [binS, go_sem, Sem.run_bind, Sem.run_pure, Result.andThen_ok, hb, if_false] <;> rfl) k
theorem bi_rem (hb : b ≠ 0) (k : K (.int kd (a.tmod b)) w) : LiftP P (binS .rem t x y (.int kd a) (.int kd b)) K w :=
  lift (by simp only [binS, go_sem, Sem.run_bind, Sem.run_pure, Result.andThen_ok, hb, if_false] <;> rfl) k
theorem bi_and (k : K (.int kd (bits .and kd a b)) w) : LiftP P (binS .and t x y (.int kd a) (.int kd b)) K w := lift (by simp only [binS, go_sem, Sem.run_bind, Sem.run_pure, Result.andThen_ok] <;> rfl) k
theorem bi_or (k : K (.int kd (bits .or kd a b)) w) : LiftP P (binS .or t x y (.int kd a) (.int kd b)) K w := lift (by simp only [binS, go_sem, Sem.run_bind, Sem.run_pure, Result.andThen_ok] <;> rfl) k
theorem bi_xor (k : K (.int kd (bits .xor kd a b)) w) : LiftP P (binS .xor t x y (.int kd a) (.int kd b)) K w := lift (by simp only [binS, go_sem, Sem.run_bind, Sem.run_pure, Result.andThen_ok] <;> rfl) k
theorem bi_shr (h : 0 ≤ b ∧ b ≤ 64) (hk : b ≤ kd.bits) (k : K (.int kd (a / 2 ^ b.toNat)) w) : LiftP P (binS .shr t x y (.int kd a) (.int kd' b)) K w :=
  lift (by
    rw [binS, eqGuard_shr, binOp_shr, shift_shr kd kd' a b h.1 hk]
    rfl) k
theorem bi_shl (h : 0 ≤ b ∧ b ≤ 64) (hk : b ≤ kd.bits) (k : K (.int kd (kd.wrap (a * 2 ^ b.toNat))) w) : LiftP P (binS .shl t x y (.int kd a) (.int kd' b)) K w :=
  lift (by
    rw [binS, eqGuard_shl, binOp_shl, shift_shl kd kd' a b h.1 hk]
    rfl) k
theorem bi_eql (k : K (.bool (decide (a = b))) w) : LiftP P (binS .eql t x y (.int kd a) (.int kd b)) K w := lift (by simp only [binS, go_sem, Sem.run_bind, Sem.run_pure, Result.andThen_ok] <;> rfl) (by rw [show (a == b) = decide (a = b) from by by_cases h : a = b <;> simp [h]]; exact k)
theorem bi_neq (k : K (.bool (decide (a ≠ b))) w) : LiftP P (binS .neq t x y (.int kd a) (.int kd b)) K w := lift (by simp only [binS, go_sem, Sem.run_bind, Sem.run_pure, Result.andThen_ok] <;> rfl) (by
  have : (a != b) = decide (a ≠ b) := by by_cases h : a = b <;> simp [h]
  rw [this]; exact k)
theorem bi_lss (k : K (.bool (decide (a < b))) w) : LiftP P (binS .lss t x y (.int kd a) (.int kd b)) K w := lift (by simp only [binS, go_sem, Sem.run_bind, Sem.run_pure, Result.andThen_ok] <;> rfl) k
theorem bi_leq (k : K (.bool (decide (a ≤ b))) w) : LiftP P (binS .leq t x y (.int kd a) (.int kd b)) K w := lift (by simp only [binS, go_sem, Sem.run_bind, Sem.run_pure, Result.andThen_ok] <;> rfl) k
theorem bi_gtr (k : K (.bool (decide (b < a))) w) : LiftP P (binS .gtr t x y (.int kd a) (.int kd b)) K w := lift (by simp only [binS, go_sem, Sem.run_bind, Sem.run_pure, Result.andThen_ok] <;> rfl) k
theorem bi_geq (k : K (.bool (decide (b ≤ a))) w) : LiftP P (binS .geq t x y (.int kd a) (.int kd b)) K w := lift (by simp only [binS, go_sem, Sem.run_bind, Sem.run_pure, Result.andThen_ok] <;> rfl) k
end
theorem bi_lss_t {t : TypeId} {x y : Operand} {kd : IntKind} {a b : Int} (h : a < b) (k : K (.bool true) w) : LiftP P (binS .lss t x y (.int kd a) (.int kd b)) K w := bi_lss (by rw [decide_eq_true h]; exact k)
theorem bi_lss_f {t : TypeId} {x y : Operand} {kd : IntKind} {a b : Int} (h : ¬ a < b) (k : K (.bool false) w) : LiftP P (binS .lss t x y (.int kd a) (.int kd b)) K w := bi_lss (by rw [decide_eq_false h]; exact k)
theorem bi_lss_c {t : TypeId} {x y : Operand} {kd : IntKind} {a b : Int} (h1 : a < b → K (.bool true) w) (h0 : ¬ a < b → K (.bool false) w) : LiftP P (binS .lss t x y (.int kd a) (.int kd b)) K w := by
  by_cases h : a < b
  · exact bi_lss_t h (h1 h)
  · exact bi_lss_f h (h0 h)
theorem bi_leq_t {t : TypeId} {x y : Operand} {kd : IntKind} {a b : Int} (h : a ≤ b) (k : K (.bool true) w) : LiftP P (binS .leq t x y (.int kd a) (.int kd b)) K w := bi_leq (by rw [decide_eq_true h]; exact k)
theorem bi_leq_f {t : TypeId} {x y : Operand} {kd : IntKind} {a b : Int} (h : ¬ a ≤ b) (k : K (.bool false) w) : LiftP P (binS .leq t x y (.int kd a) (.int kd b)) K w := bi_leq (by rw [decide_eq_false h]; exact k)
theorem bi_leq_c {t : TypeId} {x y : Operand} {kd : IntKind} {a b : Int} (h1 : a ≤ b → K (.bool true) w) (h0 : ¬ a ≤ b → K (.bool false) w) : LiftP P (binS .leq t x y (.int kd a) (.int kd b)) K w := by
  by_cases h : a ≤ b
  · exact bi_leq_t h (h1 h)
  · exact bi_leq_f h (h0 h)
theorem bi_gtr_t {t : TypeId} {x y : Operand} {kd : IntKind} {a b : Int} (h : b < a) (k : K (.bool true) w) : LiftP P (binS .gtr t x y (.int kd a) (.int kd b)) K w := bi_gtr (by rw [decide_eq_true h]; exact k)
theorem bi_gtr_f {t : TypeId} {x y : Operand} {kd : IntKind} {a b : Int} (h : ¬ b < a) (k : K (.bool false) w) : LiftP P (binS .gtr t x y (.int kd a) (.int kd b)) K w := bi_gtr (by rw [decide_eq_false h]; exact k)
theorem bi_gtr_c {t : TypeId} {x y : Operand} {kd : IntKind} {a b : Int} (h1 : b < a → K (.bool true) w) (h0 : ¬ b < a → K (.bool false) w) : LiftP P (binS .gtr t x y (.int kd a) (.int kd b)) K w := by
  by_cases h : b < a
  · exact bi_gtr_t h (h1 h)
  · exact bi_gtr_f h (h0 h)
theorem bi_geq_t {t : TypeId} {x y : Operand} {kd : IntKind} {a b : Int} (h : b ≤ a) (k : K (.bool true) w) : LiftP P (binS .geq t x y (.int kd a) (.int kd b)) K w := bi_geq (by rw [decide_eq_true h]; exact k)
theorem bi_geq_f {t : TypeId} {x y : Operand} {kd : IntKind} {a b : Int} (h : ¬ b ≤ a) (k : K (.bool false) w) : LiftP P (binS .geq t x y (.int kd a) (.int kd b)) K w := bi_geq (by rw [decide_eq_false h]; exact k)
theorem bi_geq_c {t : TypeId} {x y : Operand} {kd : IntKind} {a b : Int} (h1 : b ≤ a → K (.bool true) w) (h0 : ¬ b ≤ a → K (.bool false) w) : LiftP P (binS .geq t x y (.int kd a) (.int kd b)) K w := by
  by_cases h : b ≤ a
  · exact bi_geq_t h (h1 h)
  · exact bi_geq_f h (h0 h)
theorem bi_eql_t {t : TypeId} {x y : Operand} {kd : IntKind} {a b : Int} (h : a = b) (k : K (.bool true) w) : LiftP P (binS .eql t x y (.int kd a) (.int kd b)) K w := bi_eql (by rw [decide_eq_true h]; exact k)
theorem bi_eql_f {t : TypeId} {x y : Operand} {kd : IntKind} {a b : Int} (h : ¬ a = b) (k : K (.bool false) w) : LiftP P (binS .eql t x y (.int kd a) (.int kd b)) K w := bi_eql (by rw [decide_eq_false h]; exact k)
theorem bi_eql_c {t : TypeId} {x y : Operand} {kd : IntKind} {a b : Int} (h1 : a = b → K (.bool true) w) (h0 : ¬ a = b → K (.bool false) w) : LiftP P (binS .eql t x y (.int kd a) (.int kd b)) K w := by
  by_cases h : a = b
  · exact bi_eql_t h (h1 h)
  · exact bi_eql_f h (h0 h)
theorem bi_neq_t {t : TypeId} {x y : Operand} {kd : IntKind} {a b : Int} (h : a ≠ b) (k : K (.bool true) w) : LiftP P (binS .neq t x y (.int kd a) (.int kd b)) K w := bi_neq (by rw [decide_eq_true h]; exact k)
theorem bi_neq_f {t : TypeId} {x y : Operand} {kd : IntKind} {a b : Int} (h : a = b) (k : K (.bool false) w) : LiftP P (binS .neq t x y (.int kd a) (.int kd b)) K w := bi_neq (by rw [decide_eq_false (fun h' => h' h)]; exact k)
theorem bi_neq_c {t : TypeId} {x y : Operand} {kd : IntKind} {a b : Int} (h1 : a ≠ b → K (.bool true) w) (h0 : a = b → K (.bool false) w) : LiftP P (binS .neq t x y (.int kd a) (.int kd b)) K w := by
  by_cases h : a = b
  · exact bi_neq_f h (h0 h)
  · exact bi_neq_t h (h1 h)
theorem bs_eql {t : TypeId} {x y : Operand} {a b : ByteArray} (k : K (.bool (decide (a.toList = b.toList))) w) : LiftP P (binS .eql t x y (.string a) (.string b)) K w :=
  lift (by simp only [binS, go_sem, Sem.run_bind, Sem.run_pure, Result.andThen_ok] <;> rfl) (by rw [show (a.toList == b.toList) = decide (a.toList = b.toList) from by by_cases h : a.toList = b.toList <;> simp [h]]; exact k)
theorem bs_neq {t : TypeId} {x y : Operand} {a b : ByteArray} (k : K (.bool (decide (a.toList ≠ b.toList))) w) : LiftP P (binS .neq t x y (.string a) (.string b)) K w :=
  lift (v := .bool (!(a.toList == b.toList))) (w' := w) (by simp [binS, eqGuard_at_string, binOp, Op.stringOp]) (by rw [show (!(a.toList == b.toList)) = decide (a.toList ≠ b.toList) from by by_cases h : a.toList = b.toList <;> simp [h]]; exact k)
theorem bb_eql {t : TypeId} {x y : Operand} {a b : Bool} (ht : P.underlying t = some .bool) (k : K (.bool (decide (a = b))) w) : LiftP P (binS .eql t x y (.bool a) (.bool b)) K w :=
  lift (v := .bool (a == b)) (w' := w) (by simp only [binS, eqGuard_at_bool, Sem.run_bind, Sem.run_pure, Result.andThen_ok]; exact run_eql_bool _ _ _ _ ht) (by rw [show (a == b) = decide (a = b) from by cases a <;> cases b <;> rfl]; exact k)
theorem unT (k : K (.bool false) w) : LiftP P (Op.unary .not (.bool true)) K w := lift rfl k
theorem unF (k : K (.bool true) w) : LiftP P (Op.unary .not (.bool false)) K w := lift rfl k
theorem un_not {b : Bool} (k : K (.bool (!b)) w) : LiftP P (Op.unary .not (.bool b)) K w := lift rfl k
theorem un_neg {kd : IntKind} {a : Int} (k : K (.int kd (kd.wrap (0 - a))) w) : LiftP P (Op.unary .neg (.int kd a)) K w := lift rfl k
theorem un_xor32 {a : Int} (k : K (.int .u32 (bits .xor .u32 4294967295 a)) w) : LiftP P (Op.unary .xor (.int .u32 a)) K w := lift rfl k
theorem xt {vs : Array Value} {i : Nat} {v : Value} (h : vs[i]? = some v) (k : K v w) : LiftP P (Instr.extract (.tuple vs) i) K w := lift (by simp [Instr.extract, h]) k
theorem xt0 {a : Value} {r : List Value} (k : K a w) : LiftP P (Instr.extract (.tuple (a :: r).toArray) 0) K w := xt (by simp) k
theorem xt1 {a b : Value} {r : List Value} (k : K b w) : LiftP P (Instr.extract (.tuple (a :: b :: r).toArray) 1) K w := xt (by simp) k
theorem xt2 {a b c : Value} {r : List Value} (k : K c w) : LiftP P (Instr.extract (.tuple (a :: b :: c :: r).toArray) 2) K w := xt (by simp) k
theorem nck {a : Addr} (k : K (.pointer (some a)) w) : NextP P (nilChk (.pointer (some a))) K w := ⟨k⟩
theorem pick {b : Bool} {x y : Value} (k : K (if b then x else y) w) : PickP (.bool b) x y K w := ⟨⟨b, rfl, k⟩⟩
theorem pickT {x y : Value} (k : K x w) : PickP (.bool true) x y K w := ⟨⟨true, rfl, k⟩⟩
theorem pickF {x y : Value} (k : K y w) : PickP (.bool false) x y K w := ⟨⟨false, rfl, k⟩⟩
theorem gdY {b : Bool} {X : (Value → World → Prop) → World → Prop} (k : X K w) : GuardP (.bool b) b X K w := ⟨fun _ => k, fun hn => absurd rfl hn⟩
theorem gdN {v : Value} {b : Bool} (hv : v ≠ .bool b) {X : (Value → World → Prop) → World → Prop} (k : K undef w) : GuardP v b X K w := ⟨fun he => absurd he hv, fun _ => k⟩
theorem gdFT {X : (Value → World → Prop) → World → Prop} (k : K undef w) : GuardP (.bool false) true X K w := gdN (by simp) k
theorem gdTF {X : (Value → World → Prop) → World → Prop} (k : K undef w) : GuardP (.bool true) false X K w := gdN (by simp) k
theorem gdU {b : Bool} {X : (Value → World → Prop) → World → Prop} (k : K undef w) : GuardP undef b X K w := gdN (by simp [undef]) k
theorem cdT {X Y : World → Prop} (k : X w) : CondP (.bool true) X Y w := ⟨⟨true, rfl, fun _ => k, fun e => by cases e⟩⟩
theorem cdF {X Y : World → Prop} (k : Y w) : CondP (.bool false) X Y w := ⟨⟨false, rfl, fun e => (by cases e), fun _ => k⟩⟩
end

/-! ### 2. the rules -/
theorem CallP.mono {P : Program} {f : FuncId} {as : Array Value} {K K' : Value → World → Prop} {w : World} (h : CallP P f as K w) (hk : ∀ v w', K v w' → K' v w') : CallP P f as K' w :=
  ⟨h.out.mono fun _ _ ⟨v, he, hv⟩ => ⟨v, he, hk _ _ hv⟩⟩
theorem CondP.dec {p : Prop} [Decidable p] {X Y : World → Prop} {w : World} (h1 : p → X w) (h2 : ¬ p → Y w) : CondP (.bool (decide p)) X Y w :=
  ⟨_, rfl, fun h => h1 (of_decide_eq_true h), fun h => h2 (of_decide_eq_false h)⟩
theorem CondP.ofb {b : Bool} {X Y : World → Prop} {w : World} (h1 : b = true → X w) (h2 : b = false → Y w) : CondP (.bool b) X Y w := ⟨b, rfl, h1, h2⟩
theorem CondP.yes {v : Value} {X Y : World → Prop} {w : World} (hv : v = .bool true) (h : X w) : CondP v X Y w := ⟨true, hv, fun _ => h, fun e => by cases e⟩
theorem CondP.no_ {v : Value} {X Y : World → Prop} {w : World} (hv : v = .bool false) (h : Y w) : CondP v X Y w := ⟨false, hv, fun e => (by cases e), fun _ => h⟩
theorem JoinP.plain {X : (List Value → World → Prop) → World → Prop} {Y : List Value → World → Prop} {w : World} (h : X Y w) : JoinP X Y w := ⟨h⟩
/-- Cut at a join: what is known there. -/
theorem JoinP.cut {X : (List Value → World → Prop) → World → Prop} {Y : List Value → World → Prop} {w : World} (I : List Value → World → Prop)
    (hX : ∀ J : List Value → World → Prop, (∀ vs w', I vs w' → J vs w') → X J w) (hY : ∀ vs w', I vs w' → Y vs w') : JoinP X Y w := ⟨hX Y hY⟩
theorem GuardP.both {v : Value} {b : Bool} {X : (Value → World → Prop) → World → Prop} {K : Value → World → Prop} {w : World} (h1 : v = .bool b → X K w) (h2 : v ≠ .bool b → K undef w) : GuardP v b X K w := ⟨h1, h2⟩
theorem LoopP.inv0 {body : (List Value → World → Prop) → List Value → World → Prop} {w : World} (I : World → Prop) (μ : World → Nat) (h0 : I w)
    (hr : ∀ w', I w' → ∀ J : List Value → World → Prop, (∀ w'', I w'' → μ w'' < μ w' → J [] w'') → body J [] w') : LoopP body [] w :=
  ⟨fun vs w' => vs = [] ∧ I w', fun _ w' => μ w', ⟨rfl, h0⟩, fun vs w' ⟨e, h⟩ => by
    subst e
    exact hr w' h _ fun w'' h1 h2 => ⟨⟨rfl, h1⟩, h2⟩⟩
theorem LoopP.inv1 {body : (List Value → World → Prop) → List Value → World → Prop} {a : Value} {w : World} (I : Value → World → Prop) (μ : Value → World → Nat) (h0 : I a w)
    (hr : ∀ x w', I x w' → ∀ J : List Value → World → Prop, (∀ y w'', I y w'' → μ y w'' < μ x w' → J [y] w'') → body J [x] w') : LoopP body [a] w :=
  ⟨fun vs w' => ∃ x, vs = [x] ∧ I x w', fun vs w' => μ (vs.headD undef) w', ⟨a, rfl, h0⟩, fun vs w' ⟨x, e, h⟩ => by
    subst e
    exact hr x w' h _ fun y w'' h1 h2 => ⟨⟨y, rfl, h1⟩, h2⟩⟩
theorem LoopP.inv2 {body : (List Value → World → Prop) → List Value → World → Prop} {a b : Value} {w : World} (I : Value → Value → World → Prop) (μ : Value → Value → World → Nat) (h0 : I a b w)
    (hr : ∀ x1 x2 w', I x1 x2 w' → ∀ J : List Value → World → Prop, (∀ y1 y2 w'', I y1 y2 w'' → μ y1 y2 w'' < μ x1 x2 w' → J [y1, y2] w'') → body J [x1, x2] w') : LoopP body [a, b] w :=
  ⟨fun vs w' => ∃ x1 x2, vs = [x1, x2] ∧ I x1 x2 w', fun vs w' => μ (vs.headD undef) (vs.tail.headD undef) w', ⟨a, b, rfl, h0⟩, fun vs w' ⟨x1, x2, e, h⟩ => by
    subst e
    exact hr x1 x2 w' h _ fun y1 y2 w'' h1 h2 => ⟨⟨y1, y2, rfl, h1⟩, h2⟩⟩
theorem LoopP.inv3 {body : (List Value → World → Prop) → List Value → World → Prop} {a b c : Value} {w : World} (I : Value → Value → Value → World → Prop) (μ : Value → Value → Value → World → Nat) (h0 : I a b c w)
    (hr : ∀ x1 x2 x3 w', I x1 x2 x3 w' → ∀ J : List Value → World → Prop, (∀ y1 y2 y3 w'', I y1 y2 y3 w'' → μ y1 y2 y3 w'' < μ x1 x2 x3 w' → J [y1, y2, y3] w'') → body J [x1, x2, x3] w') : LoopP body [a, b, c] w :=
  ⟨fun vs w' => ∃ x1 x2 x3, vs = [x1, x2, x3] ∧ I x1 x2 x3 w', fun vs w' => μ (vs.headD undef) (vs.tail.headD undef) (vs.tail.tail.headD undef) w', ⟨a, b, c, rfl, h0⟩, fun vs w' ⟨x1, x2, x3, e, h⟩ => by
    subst e
    exact hr x1 x2 x3 w' h _ fun y1 y2 y3 w'' h1 h2 => ⟨⟨y1, y2, y3, rfl, h1⟩, h2⟩⟩
theorem LoopP.inv4 {body : (List Value → World → Prop) → List Value → World → Prop} {a b c d : Value} {w : World} (I : Value → Value → Value → Value → World → Prop) (μ : Value → Value → Value → Value → World → Nat) (h0 : I a b c d w)
    (hr : ∀ x1 x2 x3 x4 w', I x1 x2 x3 x4 w' → ∀ J : List Value → World → Prop, (∀ y1 y2 y3 y4 w'', I y1 y2 y3 y4 w'' → μ y1 y2 y3 y4 w'' < μ x1 x2 x3 x4 w' → J [y1, y2, y3, y4] w'') → body J [x1, x2, x3, x4] w') : LoopP body [a, b, c, d] w :=
  ⟨fun vs w' => ∃ x1 x2 x3 x4, vs = [x1, x2, x3, x4] ∧ I x1 x2 x3 x4 w', fun vs w' => μ (vs.headD undef) (vs.tail.headD undef) (vs.tail.tail.headD undef) (vs.tail.tail.tail.headD undef) w', ⟨a, b, c, d, rfl, h0⟩, fun vs w' ⟨x1, x2, x3, x4, e, h⟩ => by
    subst e
    exact hr x1 x2 x3 x4 w' h _ fun y1 y2 y3 y4 w'' h1 h2 => ⟨⟨y1, y2, y3, y4, rfl, h1⟩, h2⟩⟩

end Go.Proofs.Ytgaamfdhjpkicaa.E
