/-
  E5: how a shallow text is gone through: equations for 'simp' (an operation's run, never what follows it), and rules for what simp leaves.
-/
import Derived.Test.YtmnaggdhkggjhaaE4
import Derived.WalkKit
import Derived.WalkLawsBesides
import Derived.WalkSpells
namespace Go.Proofs.Ytmnaggdhkggjhaa.E
open Go Go.RowKit

/-! ### 1. rules for what needs no memory -/
section
variable {P : Program} {K : Value → World → Prop} {w : World}
theorem lift {m : Sem Value} {v : Value} {w' : World} (h : m.run P w = .ok v w') (k : K v w') : LiftP P m K w := ⟨⟨v, w', h, k⟩⟩
theorem liftU {m : Sem Unit} {u : Unit} {w' : World} (h : m.run P w = .ok u w') (k : K undef w') : LiftU P m K w := ⟨⟨w', h, k⟩⟩
theorem nextV {m : Sem Next} {v : Value} {w' : World} (h : m.run P w = .ok (.value v) w') (k : K v w') : NextP P m K w := ⟨by rw [h]; exact k⟩

end
-- RULES BEGIN
section
variable {P : Program} {K : Value → World → Prop} {S : World → Prop} {w : World}
/-- m yields v in whatever world, and leaves it. -/
def PR (P : Program) (m : Sem Value) (v : Value) : Prop := ∀ w, m.run P w = .ok v w
theorem ofPR {m : Sem Value} {v : Value} (h : PR P m v) (k : K v w) : LiftP P m K w := lift (h w) k
theorem yofPR {m : Sem Value} {v : Value} (h : PR P m v) (k : K v w) : YieldP P S m K w := ⟨⟨v, fun w' _ => h w', k⟩⟩
theorem pr_add64 {t : TypeId} {x y : Operand} {a b : Int} (h : -9223372036854775808 ≤ a + b ∧ a + b ≤ 9223372036854775807) : PR P (binS .add t x y (.int .i64 a) (.int .i64 b)) (.int .i64 (a + b)) := by intro w; rw [show (.int .i64 (a + b) : Value) = .int .i64 (IntKind.i64.wrap (a + b)) from by rw [IntWalk.i64_in _ h]]; simp only [binS, go_sem, Sem.run_bind, Sem.run_pure, Result.andThen_ok] <;> rfl
theorem bi_add64 {t : TypeId} {x y : Operand} {a b : Int} (h : -9223372036854775808 ≤ a + b ∧ a + b ≤ 9223372036854775807) (k : K (.int .i64 (a + b)) w) : LiftP P (binS .add t x y (.int .i64 a) (.int .i64 b)) K w := ofPR (pr_add64 h) k
theorem yi_add64 {t : TypeId} {x y : Operand} {a b : Int} (h : -9223372036854775808 ≤ a + b ∧ a + b ≤ 9223372036854775807) (k : K (.int .i64 (a + b)) w) : YieldP P S (binS .add t x y (.int .i64 a) (.int .i64 b)) K w := yofPR (pr_add64 h) k
theorem pr_add {t : TypeId} {x y : Operand} {kd : IntKind} {a b : Int}  : PR P (binS .add t x y (.int kd a) (.int kd b)) (.int kd (kd.wrap (a + b))) := by intro w; simp only [binS, go_sem, Sem.run_bind, Sem.run_pure, Result.andThen_ok] <;> rfl
theorem bi_add {t : TypeId} {x y : Operand} {kd : IntKind} {a b : Int}  (k : K (.int kd (kd.wrap (a + b))) w) : LiftP P (binS .add t x y (.int kd a) (.int kd b)) K w := ofPR (pr_add ) k
theorem yi_add {t : TypeId} {x y : Operand} {kd : IntKind} {a b : Int}  (k : K (.int kd (kd.wrap (a + b))) w) : YieldP P S (binS .add t x y (.int kd a) (.int kd b)) K w := yofPR (pr_add ) k
theorem pr_sub64 {t : TypeId} {x y : Operand} {a b : Int} (h : -9223372036854775808 ≤ a - b ∧ a - b ≤ 9223372036854775807) : PR P (binS .sub t x y (.int .i64 a) (.int .i64 b)) (.int .i64 (a - b)) := by intro w; rw [show (.int .i64 (a - b) : Value) = .int .i64 (IntKind.i64.wrap (a - b)) from by rw [IntWalk.i64_in _ h]]; simp only [binS, go_sem, Sem.run_bind, Sem.run_pure, Result.andThen_ok] <;> rfl
theorem bi_sub64 {t : TypeId} {x y : Operand} {a b : Int} (h : -9223372036854775808 ≤ a - b ∧ a - b ≤ 9223372036854775807) (k : K (.int .i64 (a - b)) w) : LiftP P (binS .sub t x y (.int .i64 a) (.int .i64 b)) K w := ofPR (pr_sub64 h) k
theorem yi_sub64 {t : TypeId} {x y : Operand} {a b : Int} (h : -9223372036854775808 ≤ a - b ∧ a - b ≤ 9223372036854775807) (k : K (.int .i64 (a - b)) w) : YieldP P S (binS .sub t x y (.int .i64 a) (.int .i64 b)) K w := yofPR (pr_sub64 h) k
theorem pr_sub {t : TypeId} {x y : Operand} {kd : IntKind} {a b : Int}  : PR P (binS .sub t x y (.int kd a) (.int kd b)) (.int kd (kd.wrap (a - b))) := by intro w; simp only [binS, go_sem, Sem.run_bind, Sem.run_pure, Result.andThen_ok] <;> rfl
theorem bi_sub {t : TypeId} {x y : Operand} {kd : IntKind} {a b : Int}  (k : K (.int kd (kd.wrap (a - b))) w) : LiftP P (binS .sub t x y (.int kd a) (.int kd b)) K w := ofPR (pr_sub ) k
theorem yi_sub {t : TypeId} {x y : Operand} {kd : IntKind} {a b : Int}  (k : K (.int kd (kd.wrap (a - b))) w) : YieldP P S (binS .sub t x y (.int kd a) (.int kd b)) K w := yofPR (pr_sub ) k
theorem pr_mul64 {t : TypeId} {x y : Operand} {a b : Int} (h : -9223372036854775808 ≤ a * b ∧ a * b ≤ 9223372036854775807) : PR P (binS .mul t x y (.int .i64 a) (.int .i64 b)) (.int .i64 (a * b)) := by intro w; rw [show (.int .i64 (a * b) : Value) = .int .i64 (IntKind.i64.wrap (a * b)) from by rw [IntWalk.i64_in _ h]]; simp only [binS, go_sem, Sem.run_bind, Sem.run_pure, Result.andThen_ok] <;> rfl
theorem bi_mul64 {t : TypeId} {x y : Operand} {a b : Int} (h : -9223372036854775808 ≤ a * b ∧ a * b ≤ 9223372036854775807) (k : K (.int .i64 (a * b)) w) : LiftP P (binS .mul t x y (.int .i64 a) (.int .i64 b)) K w := ofPR (pr_mul64 h) k
theorem yi_mul64 {t : TypeId} {x y : Operand} {a b : Int} (h : -9223372036854775808 ≤ a * b ∧ a * b ≤ 9223372036854775807) (k : K (.int .i64 (a * b)) w) : YieldP P S (binS .mul t x y (.int .i64 a) (.int .i64 b)) K w := yofPR (pr_mul64 h) k
theorem pr_mul {t : TypeId} {x y : Operand} {kd : IntKind} {a b : Int}  : PR P (binS .mul t x y (.int kd a) (.int kd b)) (.int kd (kd.wrap (a * b))) := by intro w; simp only [binS, go_sem, Sem.run_bind, Sem.run_pure, Result.andThen_ok] <;> rfl
theorem bi_mul {t : TypeId} {x y : Operand} {kd : IntKind} {a b : Int}  (k : K (.int kd (kd.wrap (a * b))) w) : LiftP P (binS .mul t x y (.int kd a) (.int kd b)) K w := ofPR (pr_mul ) k
theorem yi_mul {t : TypeId} {x y : Operand} {kd : IntKind} {a b : Int}  (k : K (.int kd (kd.wrap (a * b))) w) : YieldP P S (binS .mul t x y (.int kd a) (.int kd b)) K w := yofPR (pr_mul ) k
theorem pr_quo64 {t : TypeId} {x y : Operand} {a b : Int} (ha : 0 ≤ a ∧ a ≤ 9223372036854775807 ∧ 1 ≤ b) : PR P (binS .quo t x y (.int .i64 a) (.int .i64 b)) (.int .i64 (a / b)) := by
  intro w
  have hb : b ≠ 0 := by omega
  rw [← IntWalk.i64_quo _ _ ha]
  simp only [binS, go_sem, Sem.run_bind, Sem.run_pure, Result.andThen_ok, hb, if_false] <;> rfl
theorem bi_quo64 {t : TypeId} {x y : Operand} {a b : Int} (ha : 0 ≤ a ∧ a ≤ 9223372036854775807 ∧ 1 ≤ b) (k : K (.int .i64 (a / b)) w) : LiftP P (binS .quo t x y (.int .i64 a) (.int .i64 b)) K w := ofPR (pr_quo64 ha) k
theorem yi_quo64 {t : TypeId} {x y : Operand} {a b : Int} (ha : 0 ≤ a ∧ a ≤ 9223372036854775807 ∧ 1 ≤ b) (k : K (.int .i64 (a / b)) w) : YieldP P S (binS .quo t x y (.int .i64 a) (.int .i64 b)) K w := yofPR (pr_quo64 ha) k
theorem pr_rem64 {t : TypeId} {x y : Operand} {a b : Int} (ha : 0 ≤ a ∧ 1 ≤ b) : PR P (binS .rem t x y (.int .i64 a) (.int .i64 b)) (.int .i64 (a % b)) := by
  intro w
  have hb : b ≠ 0 := by omega
  rw [← IntWalk.rem_in _ _ ha.1]
  simp only [binS, go_sem, Sem.run_bind, Sem.run_pure, Result.andThen_ok, hb, if_false] <;> rfl
theorem bi_rem64 {t : TypeId} {x y : Operand} {a b : Int} (ha : 0 ≤ a ∧ 1 ≤ b) (k : K (.int .i64 (a % b)) w) : LiftP P (binS .rem t x y (.int .i64 a) (.int .i64 b)) K w := ofPR (pr_rem64 ha) k
theorem yi_rem64 {t : TypeId} {x y : Operand} {a b : Int} (ha : 0 ≤ a ∧ 1 ≤ b) (k : K (.int .i64 (a % b)) w) : YieldP P S (binS .rem t x y (.int .i64 a) (.int .i64 b)) K w := yofPR (pr_rem64 ha) k
theorem pr_quo {t : TypeId} {x y : Operand} {kd : IntKind} {a b : Int} (hb : b ≠ 0) : PR P (binS .quo t x y (.int kd a) (.int kd b)) (.int kd (kd.wrap (a.tdiv b))) := by intro w; simp only [binS, go_sem, Sem.run_bind, Sem.run_pure, Result.andThen_ok, hb, if_false] <;> rfl
theorem bi_quo {t : TypeId} {x y : Operand} {kd : IntKind} {a b : Int} (hb : b ≠ 0) (k : K (.int kd (kd.wrap (a.tdiv b))) w) : LiftP P (binS .quo t x y (.int kd a) (.int kd b)) K w := ofPR (pr_quo hb) k
theorem yi_quo {t : TypeId} {x y : Operand} {kd : IntKind} {a b : Int} (hb : b ≠ 0) (k : K (.int kd (kd.wrap (a.tdiv b))) w) : YieldP P S (binS .quo t x y (.int kd a) (.int kd b)) K w := yofPR (pr_quo hb) k
theorem pr_rem {t : TypeId} {x y : Operand} {kd : IntKind} {a b : Int} (hb : b ≠ 0) : PR P (binS .rem t x y (.int kd a) (.int kd b)) (.int kd (a.tmod b)) := by intro w; simp only [binS, go_sem, Sem.run_bind, Sem.run_pure, Result.andThen_ok, hb, if_false] <;> rfl
theorem bi_rem {t : TypeId} {x y : Operand} {kd : IntKind} {a b : Int} (hb : b ≠ 0) (k : K (.int kd (a.tmod b)) w) : LiftP P (binS .rem t x y (.int kd a) (.int kd b)) K w := ofPR (pr_rem hb) k
theorem yi_rem {t : TypeId} {x y : Operand} {kd : IntKind} {a b : Int} (hb : b ≠ 0) (k : K (.int kd (a.tmod b)) w) : YieldP P S (binS .rem t x y (.int kd a) (.int kd b)) K w := yofPR (pr_rem hb) k
theorem pr_and {t : TypeId} {x y : Operand} {kd : IntKind} {a b : Int}  : PR P (binS .and t x y (.int kd a) (.int kd b)) (.int kd (bits .and kd a b)) := by intro w; simp only [binS, go_sem, Sem.run_bind, Sem.run_pure, Result.andThen_ok] <;> rfl
theorem bi_and {t : TypeId} {x y : Operand} {kd : IntKind} {a b : Int}  (k : K (.int kd (bits .and kd a b)) w) : LiftP P (binS .and t x y (.int kd a) (.int kd b)) K w := ofPR (pr_and ) k
theorem yi_and {t : TypeId} {x y : Operand} {kd : IntKind} {a b : Int}  (k : K (.int kd (bits .and kd a b)) w) : YieldP P S (binS .and t x y (.int kd a) (.int kd b)) K w := yofPR (pr_and ) k
theorem pr_or {t : TypeId} {x y : Operand} {kd : IntKind} {a b : Int}  : PR P (binS .or t x y (.int kd a) (.int kd b)) (.int kd (bits .or kd a b)) := by intro w; simp only [binS, go_sem, Sem.run_bind, Sem.run_pure, Result.andThen_ok] <;> rfl
theorem bi_or {t : TypeId} {x y : Operand} {kd : IntKind} {a b : Int}  (k : K (.int kd (bits .or kd a b)) w) : LiftP P (binS .or t x y (.int kd a) (.int kd b)) K w := ofPR (pr_or ) k
theorem yi_or {t : TypeId} {x y : Operand} {kd : IntKind} {a b : Int}  (k : K (.int kd (bits .or kd a b)) w) : YieldP P S (binS .or t x y (.int kd a) (.int kd b)) K w := yofPR (pr_or ) k
theorem pr_xor {t : TypeId} {x y : Operand} {kd : IntKind} {a b : Int}  : PR P (binS .xor t x y (.int kd a) (.int kd b)) (.int kd (bits .xor kd a b)) := by intro w; simp only [binS, go_sem, Sem.run_bind, Sem.run_pure, Result.andThen_ok] <;> rfl
theorem bi_xor {t : TypeId} {x y : Operand} {kd : IntKind} {a b : Int}  (k : K (.int kd (bits .xor kd a b)) w) : LiftP P (binS .xor t x y (.int kd a) (.int kd b)) K w := ofPR (pr_xor ) k
theorem yi_xor {t : TypeId} {x y : Operand} {kd : IntKind} {a b : Int}  (k : K (.int kd (bits .xor kd a b)) w) : YieldP P S (binS .xor t x y (.int kd a) (.int kd b)) K w := yofPR (pr_xor ) k
theorem pr_andNot {t : TypeId} {x y : Operand} {kd : IntKind} {a b : Int}  : PR P (binS .andNot t x y (.int kd a) (.int kd b)) (.int kd (bits .andNot kd a b)) := by intro w; simp only [binS, go_sem, Sem.run_bind, Sem.run_pure, Result.andThen_ok] <;> rfl
theorem bi_andNot {t : TypeId} {x y : Operand} {kd : IntKind} {a b : Int}  (k : K (.int kd (bits .andNot kd a b)) w) : LiftP P (binS .andNot t x y (.int kd a) (.int kd b)) K w := ofPR (pr_andNot ) k
theorem yi_andNot {t : TypeId} {x y : Operand} {kd : IntKind} {a b : Int}  (k : K (.int kd (bits .andNot kd a b)) w) : YieldP P S (binS .andNot t x y (.int kd a) (.int kd b)) K w := yofPR (pr_andNot ) k
theorem pr_shr {t : TypeId} {x y : Operand} {kd kd' : IntKind} {a b : Int} (h : 0 ≤ b ∧ b ≤ 64) (hk : b ≤ kd.bits) : PR P (binS .shr t x y (.int kd a) (.int kd' b)) (.int kd (a / 2 ^ b.toNat)) := by intro w; rw [binS, eqGuard_shr, binOp_shr, shift_shr kd kd' a b h.1 hk]; rfl
theorem bi_shr {t : TypeId} {x y : Operand} {kd kd' : IntKind} {a b : Int} (h : 0 ≤ b ∧ b ≤ 64) (hk : b ≤ kd.bits) (k : K (.int kd (a / 2 ^ b.toNat)) w) : LiftP P (binS .shr t x y (.int kd a) (.int kd' b)) K w := ofPR (pr_shr h hk) k
theorem yi_shr {t : TypeId} {x y : Operand} {kd kd' : IntKind} {a b : Int} (h : 0 ≤ b ∧ b ≤ 64) (hk : b ≤ kd.bits) (k : K (.int kd (a / 2 ^ b.toNat)) w) : YieldP P S (binS .shr t x y (.int kd a) (.int kd' b)) K w := yofPR (pr_shr h hk) k
theorem pr_shl {t : TypeId} {x y : Operand} {kd kd' : IntKind} {a b : Int} (h : 0 ≤ b ∧ b ≤ 64) (hk : b ≤ kd.bits) : PR P (binS .shl t x y (.int kd a) (.int kd' b)) (.int kd (kd.wrap (a * 2 ^ b.toNat))) := by intro w; rw [binS, eqGuard_shl, binOp_shl, shift_shl kd kd' a b h.1 hk]; rfl
theorem bi_shl {t : TypeId} {x y : Operand} {kd kd' : IntKind} {a b : Int} (h : 0 ≤ b ∧ b ≤ 64) (hk : b ≤ kd.bits) (k : K (.int kd (kd.wrap (a * 2 ^ b.toNat))) w) : LiftP P (binS .shl t x y (.int kd a) (.int kd' b)) K w := ofPR (pr_shl h hk) k
theorem yi_shl {t : TypeId} {x y : Operand} {kd kd' : IntKind} {a b : Int} (h : 0 ≤ b ∧ b ≤ 64) (hk : b ≤ kd.bits) (k : K (.int kd (kd.wrap (a * 2 ^ b.toNat))) w) : YieldP P S (binS .shl t x y (.int kd a) (.int kd' b)) K w := yofPR (pr_shl h hk) k
theorem pr_eql {t : TypeId} {x y : Operand} {kd : IntKind} {a b : Int}  : PR P (binS .eql t x y (.int kd a) (.int kd b)) (.bool (decide (a = b))) := by intro w; rw [show (.bool (decide (a = b)) : Value) = .bool (a == b) from by by_cases h : a = b <;> simp [h]]; simp only [binS, go_sem, Sem.run_bind, Sem.run_pure, Result.andThen_ok] <;> rfl
theorem bi_eql {t : TypeId} {x y : Operand} {kd : IntKind} {a b : Int}  (k : K (.bool (decide (a = b))) w) : LiftP P (binS .eql t x y (.int kd a) (.int kd b)) K w := ofPR (pr_eql ) k
theorem yi_eql {t : TypeId} {x y : Operand} {kd : IntKind} {a b : Int}  (k : K (.bool (decide (a = b))) w) : YieldP P S (binS .eql t x y (.int kd a) (.int kd b)) K w := yofPR (pr_eql ) k
theorem pr_neq {t : TypeId} {x y : Operand} {kd : IntKind} {a b : Int}  : PR P (binS .neq t x y (.int kd a) (.int kd b)) (.bool (decide (a ≠ b))) := by intro w; rw [show (.bool (decide (a ≠ b)) : Value) = .bool (a != b) from by by_cases h : a = b <;> simp [h]]; simp only [binS, go_sem, Sem.run_bind, Sem.run_pure, Result.andThen_ok] <;> rfl
theorem bi_neq {t : TypeId} {x y : Operand} {kd : IntKind} {a b : Int}  (k : K (.bool (decide (a ≠ b))) w) : LiftP P (binS .neq t x y (.int kd a) (.int kd b)) K w := ofPR (pr_neq ) k
theorem yi_neq {t : TypeId} {x y : Operand} {kd : IntKind} {a b : Int}  (k : K (.bool (decide (a ≠ b))) w) : YieldP P S (binS .neq t x y (.int kd a) (.int kd b)) K w := yofPR (pr_neq ) k
theorem pr_lss {t : TypeId} {x y : Operand} {kd : IntKind} {a b : Int}  : PR P (binS .lss t x y (.int kd a) (.int kd b)) (.bool (decide (a < b))) := by intro w; simp only [binS, go_sem, Sem.run_bind, Sem.run_pure, Result.andThen_ok] <;> rfl
theorem bi_lss {t : TypeId} {x y : Operand} {kd : IntKind} {a b : Int}  (k : K (.bool (decide (a < b))) w) : LiftP P (binS .lss t x y (.int kd a) (.int kd b)) K w := ofPR (pr_lss ) k
theorem yi_lss {t : TypeId} {x y : Operand} {kd : IntKind} {a b : Int}  (k : K (.bool (decide (a < b))) w) : YieldP P S (binS .lss t x y (.int kd a) (.int kd b)) K w := yofPR (pr_lss ) k
theorem pr_leq {t : TypeId} {x y : Operand} {kd : IntKind} {a b : Int}  : PR P (binS .leq t x y (.int kd a) (.int kd b)) (.bool (decide (a ≤ b))) := by intro w; simp only [binS, go_sem, Sem.run_bind, Sem.run_pure, Result.andThen_ok] <;> rfl
theorem bi_leq {t : TypeId} {x y : Operand} {kd : IntKind} {a b : Int}  (k : K (.bool (decide (a ≤ b))) w) : LiftP P (binS .leq t x y (.int kd a) (.int kd b)) K w := ofPR (pr_leq ) k
theorem yi_leq {t : TypeId} {x y : Operand} {kd : IntKind} {a b : Int}  (k : K (.bool (decide (a ≤ b))) w) : YieldP P S (binS .leq t x y (.int kd a) (.int kd b)) K w := yofPR (pr_leq ) k
theorem pr_gtr {t : TypeId} {x y : Operand} {kd : IntKind} {a b : Int}  : PR P (binS .gtr t x y (.int kd a) (.int kd b)) (.bool (decide (b < a))) := by intro w; simp only [binS, go_sem, Sem.run_bind, Sem.run_pure, Result.andThen_ok] <;> rfl
theorem bi_gtr {t : TypeId} {x y : Operand} {kd : IntKind} {a b : Int}  (k : K (.bool (decide (b < a))) w) : LiftP P (binS .gtr t x y (.int kd a) (.int kd b)) K w := ofPR (pr_gtr ) k
theorem yi_gtr {t : TypeId} {x y : Operand} {kd : IntKind} {a b : Int}  (k : K (.bool (decide (b < a))) w) : YieldP P S (binS .gtr t x y (.int kd a) (.int kd b)) K w := yofPR (pr_gtr ) k
theorem pr_geq {t : TypeId} {x y : Operand} {kd : IntKind} {a b : Int}  : PR P (binS .geq t x y (.int kd a) (.int kd b)) (.bool (decide (b ≤ a))) := by intro w; simp only [binS, go_sem, Sem.run_bind, Sem.run_pure, Result.andThen_ok] <;> rfl
theorem bi_geq {t : TypeId} {x y : Operand} {kd : IntKind} {a b : Int}  (k : K (.bool (decide (b ≤ a))) w) : LiftP P (binS .geq t x y (.int kd a) (.int kd b)) K w := ofPR (pr_geq ) k
theorem yi_geq {t : TypeId} {x y : Operand} {kd : IntKind} {a b : Int}  (k : K (.bool (decide (b ≤ a))) w) : YieldP P S (binS .geq t x y (.int kd a) (.int kd b)) K w := yofPR (pr_geq ) k
theorem pr_seql {t : TypeId} {x y : Operand} {a b : ByteArray}  : PR P (binS .eql t x y (.string a) (.string b)) (.bool (decide (a.data.toList = b.data.toList))) := by intro w; rw [← ByteArray.toList_eq, ← ByteArray.toList_eq, show (.bool (decide (a.toList = b.toList)) : Value) = .bool (a.toList == b.toList) from by by_cases h : a.toList = b.toList <;> simp [h]]; simp only [binS, go_sem, Sem.run_bind, Sem.run_pure, Result.andThen_ok] <;> rfl
theorem bi_seql {t : TypeId} {x y : Operand} {a b : ByteArray}  (k : K (.bool (decide (a.data.toList = b.data.toList))) w) : LiftP P (binS .eql t x y (.string a) (.string b)) K w := ofPR (pr_seql ) k
theorem yi_seql {t : TypeId} {x y : Operand} {a b : ByteArray}  (k : K (.bool (decide (a.data.toList = b.data.toList))) w) : YieldP P S (binS .eql t x y (.string a) (.string b)) K w := yofPR (pr_seql ) k
theorem pr_sneq {t : TypeId} {x y : Operand} {a b : ByteArray}  : PR P (binS .neq t x y (.string a) (.string b)) (.bool (decide (a.data.toList ≠ b.data.toList))) := by intro w; rw [← ByteArray.toList_eq, ← ByteArray.toList_eq, show (.bool (decide (a.toList ≠ b.toList)) : Value) = .bool (!(a.toList == b.toList)) from by by_cases h : a.toList = b.toList <;> simp [h]]; simp [binS, eqGuard_at_string, binOp, Op.stringOp]
theorem bi_sneq {t : TypeId} {x y : Operand} {a b : ByteArray}  (k : K (.bool (decide (a.data.toList ≠ b.data.toList))) w) : LiftP P (binS .neq t x y (.string a) (.string b)) K w := ofPR (pr_sneq ) k
theorem yi_sneq {t : TypeId} {x y : Operand} {a b : ByteArray}  (k : K (.bool (decide (a.data.toList ≠ b.data.toList))) w) : YieldP P S (binS .neq t x y (.string a) (.string b)) K w := yofPR (pr_sneq ) k
theorem pr_slss {t : TypeId} {x y : Operand} {a b : ByteArray}  : PR P (binS .lss t x y (.string a) (.string b)) (.bool (Op.bytesLess a.data.toList b.data.toList)) := by intro w; rw [← ByteArray.toList_eq, ← ByteArray.toList_eq]; simp [binS, eqGuard_at_string, binOp, Op.stringOp]
theorem bi_slss {t : TypeId} {x y : Operand} {a b : ByteArray}  (k : K (.bool (Op.bytesLess a.data.toList b.data.toList)) w) : LiftP P (binS .lss t x y (.string a) (.string b)) K w := ofPR (pr_slss ) k
theorem yi_slss {t : TypeId} {x y : Operand} {a b : ByteArray}  (k : K (.bool (Op.bytesLess a.data.toList b.data.toList)) w) : YieldP P S (binS .lss t x y (.string a) (.string b)) K w := yofPR (pr_slss ) k
theorem pr_sgeq {t : TypeId} {x y : Operand} {a b : ByteArray}  : PR P (binS .geq t x y (.string a) (.string b)) (.bool (!(Op.bytesLess a.data.toList b.data.toList))) := by intro w; rw [← ByteArray.toList_eq, ← ByteArray.toList_eq]; simp [binS, eqGuard_at_string, binOp, Op.stringOp]
theorem bi_sgeq {t : TypeId} {x y : Operand} {a b : ByteArray}  (k : K (.bool (!(Op.bytesLess a.data.toList b.data.toList))) w) : LiftP P (binS .geq t x y (.string a) (.string b)) K w := ofPR (pr_sgeq ) k
theorem yi_sgeq {t : TypeId} {x y : Operand} {a b : ByteArray}  (k : K (.bool (!(Op.bytesLess a.data.toList b.data.toList))) w) : YieldP P S (binS .geq t x y (.string a) (.string b)) K w := yofPR (pr_sgeq ) k
theorem pr_sgtr {t : TypeId} {x y : Operand} {a b : ByteArray}  : PR P (binS .gtr t x y (.string a) (.string b)) (.bool (!(Op.bytesLess a.data.toList b.data.toList || a.data.toList == b.data.toList))) := by intro w; rw [← ByteArray.toList_eq, ← ByteArray.toList_eq]; simp [binS, eqGuard_at_string, binOp, Op.stringOp]
theorem bi_sgtr {t : TypeId} {x y : Operand} {a b : ByteArray}  (k : K (.bool (!(Op.bytesLess a.data.toList b.data.toList || a.data.toList == b.data.toList))) w) : LiftP P (binS .gtr t x y (.string a) (.string b)) K w := ofPR (pr_sgtr ) k
theorem yi_sgtr {t : TypeId} {x y : Operand} {a b : ByteArray}  (k : K (.bool (!(Op.bytesLess a.data.toList b.data.toList || a.data.toList == b.data.toList))) w) : YieldP P S (binS .gtr t x y (.string a) (.string b)) K w := yofPR (pr_sgtr ) k
theorem pr_sleq {t : TypeId} {x y : Operand} {a b : ByteArray}  : PR P (binS .leq t x y (.string a) (.string b)) (.bool (Op.bytesLess a.data.toList b.data.toList || a.data.toList == b.data.toList)) := by intro w; rw [← ByteArray.toList_eq, ← ByteArray.toList_eq]; simp [binS, eqGuard_at_string, binOp, Op.stringOp]
theorem bi_sleq {t : TypeId} {x y : Operand} {a b : ByteArray}  (k : K (.bool (Op.bytesLess a.data.toList b.data.toList || a.data.toList == b.data.toList)) w) : LiftP P (binS .leq t x y (.string a) (.string b)) K w := ofPR (pr_sleq ) k
theorem yi_sleq {t : TypeId} {x y : Operand} {a b : ByteArray}  (k : K (.bool (Op.bytesLess a.data.toList b.data.toList || a.data.toList == b.data.toList)) w) : YieldP P S (binS .leq t x y (.string a) (.string b)) K w := yofPR (pr_sleq ) k
theorem pr_beql {t : TypeId} {x y : Operand} {a b : Bool} (ht : P.underlying t = some .bool) : PR P (binS .eql t x y (.bool a) (.bool b)) (.bool (decide (a = b))) := by intro w; rw [show decide (a = b) = (a == b) from by cases a <;> cases b <;> rfl]; simp only [binS, eqGuard_at_bool, Sem.run_bind, Sem.run_pure, Result.andThen_ok]; exact run_eql_bool _ _ _ _ ht
theorem bi_beql {t : TypeId} {x y : Operand} {a b : Bool} (ht : P.underlying t = some .bool) (k : K (.bool (decide (a = b))) w) : LiftP P (binS .eql t x y (.bool a) (.bool b)) K w := ofPR (pr_beql ht) k
theorem yi_beql {t : TypeId} {x y : Operand} {a b : Bool} (ht : P.underlying t = some .bool) (k : K (.bool (decide (a = b))) w) : YieldP P S (binS .eql t x y (.bool a) (.bool b)) K w := yofPR (pr_beql ht) k
theorem pr_bneq {t : TypeId} {x y : Operand} {a b : Bool} (ht : P.underlying t = some .bool) : PR P (binS .neq t x y (.bool a) (.bool b)) (.bool (decide (a ≠ b))) := by intro w; rw [show decide (a ≠ b) = (a != b) from by cases a <;> cases b <;> rfl]; simp only [binS, eqGuard_at_bool, Sem.run_bind, Sem.run_pure, Result.andThen_ok]; exact run_neq_bool _ _ _ _ ht
theorem bi_bneq {t : TypeId} {x y : Operand} {a b : Bool} (ht : P.underlying t = some .bool) (k : K (.bool (decide (a ≠ b))) w) : LiftP P (binS .neq t x y (.bool a) (.bool b)) K w := ofPR (pr_bneq ht) k
theorem yi_bneq {t : TypeId} {x y : Operand} {a b : Bool} (ht : P.underlying t = some .bool) (k : K (.bool (decide (a ≠ b))) w) : YieldP P S (binS .neq t x y (.bool a) (.bool b)) K w := yofPR (pr_bneq ht) k
theorem pr_T   : PR P (Op.unary .not (.bool true)) (.bool false) := fun w => rfl
theorem bi_T   (k : K (.bool false) w) : LiftP P (Op.unary .not (.bool true)) K w := ofPR (pr_T ) k
theorem yi_T   (k : K (.bool false) w) : YieldP P S (Op.unary .not (.bool true)) K w := yofPR (pr_T ) k
theorem pr_F   : PR P (Op.unary .not (.bool false)) (.bool true) := fun w => rfl
theorem bi_F   (k : K (.bool true) w) : LiftP P (Op.unary .not (.bool false)) K w := ofPR (pr_F ) k
theorem yi_F   (k : K (.bool true) w) : YieldP P S (Op.unary .not (.bool false)) K w := yofPR (pr_F ) k
theorem pr_not {b : Bool}  : PR P (Op.unary .not (.bool b)) (.bool (!b)) := fun w => rfl
theorem bi_not {b : Bool}  (k : K (.bool (!b)) w) : LiftP P (Op.unary .not (.bool b)) K w := ofPR (pr_not ) k
theorem yi_not {b : Bool}  (k : K (.bool (!b)) w) : YieldP P S (Op.unary .not (.bool b)) K w := yofPR (pr_not ) k
theorem pr_neg {kd : IntKind} {a : Int}  : PR P (Op.unary .neg (.int kd a)) (.int kd (kd.wrap (0 - a))) := fun w => rfl
theorem bi_neg {kd : IntKind} {a : Int}  (k : K (.int kd (kd.wrap (0 - a))) w) : LiftP P (Op.unary .neg (.int kd a)) K w := ofPR (pr_neg ) k
theorem yi_neg {kd : IntKind} {a : Int}  (k : K (.int kd (kd.wrap (0 - a))) w) : YieldP P S (Op.unary .neg (.int kd a)) K w := yofPR (pr_neg ) k
theorem pr_un_xor32 {a : Int}  : PR P (Op.unary .xor (.int .u32 a)) (.int .u32 (bits .xor .u32 4294967295 a)) := fun w => rfl
theorem bi_un_xor32 {a : Int}  (k : K (.int .u32 (bits .xor .u32 4294967295 a)) w) : LiftP P (Op.unary .xor (.int .u32 a)) K w := ofPR (pr_un_xor32 ) k
theorem yi_un_xor32 {a : Int}  (k : K (.int .u32 (bits .xor .u32 4294967295 a)) w) : YieldP P S (Op.unary .xor (.int .u32 a)) K w := yofPR (pr_un_xor32 ) k
theorem pr_xt {vs : Array Value} {i : Nat} {v : Value} (h : vs[i]? = some v) : PR P (Instr.extract (.tuple vs) i) (v) := by intro w; simp [Instr.extract, h]
theorem bi_xt {vs : Array Value} {i : Nat} {v : Value} (h : vs[i]? = some v) (k : K (v) w) : LiftP P (Instr.extract (.tuple vs) i) K w := ofPR (pr_xt h) k
theorem yi_xt {vs : Array Value} {i : Nat} {v : Value} (h : vs[i]? = some v) (k : K (v) w) : YieldP P S (Instr.extract (.tuple vs) i) K w := yofPR (pr_xt h) k
theorem pr_xt0 {a : Value} {r : List Value}  : PR P (Instr.extract (.tuple (a :: r).toArray) 0) (a) := pr_xt (by simp)
theorem bi_xt0 {a : Value} {r : List Value}  (k : K (a) w) : LiftP P (Instr.extract (.tuple (a :: r).toArray) 0) K w := ofPR (pr_xt0 ) k
theorem yi_xt0 {a : Value} {r : List Value}  (k : K (a) w) : YieldP P S (Instr.extract (.tuple (a :: r).toArray) 0) K w := yofPR (pr_xt0 ) k
theorem pr_xt1 {a b : Value} {r : List Value}  : PR P (Instr.extract (.tuple (a :: b :: r).toArray) 1) (b) := pr_xt (by simp)
theorem bi_xt1 {a b : Value} {r : List Value}  (k : K (b) w) : LiftP P (Instr.extract (.tuple (a :: b :: r).toArray) 1) K w := ofPR (pr_xt1 ) k
theorem yi_xt1 {a b : Value} {r : List Value}  (k : K (b) w) : YieldP P S (Instr.extract (.tuple (a :: b :: r).toArray) 1) K w := yofPR (pr_xt1 ) k
theorem pr_xt2 {a b c : Value} {r : List Value}  : PR P (Instr.extract (.tuple (a :: b :: c :: r).toArray) 2) (c) := pr_xt (by simp)
theorem bi_xt2 {a b c : Value} {r : List Value}  (k : K (c) w) : LiftP P (Instr.extract (.tuple (a :: b :: c :: r).toArray) 2) K w := ofPR (pr_xt2 ) k
theorem yi_xt2 {a b c : Value} {r : List Value}  (k : K (c) w) : YieldP P S (Instr.extract (.tuple (a :: b :: c :: r).toArray) 2) K w := yofPR (pr_xt2 ) k
theorem pr_xt3 {a b c d : Value} {r : List Value}  : PR P (Instr.extract (.tuple (a :: b :: c :: d :: r).toArray) 3) (d) := pr_xt (by simp)
theorem bi_xt3 {a b c d : Value} {r : List Value}  (k : K (d) w) : LiftP P (Instr.extract (.tuple (a :: b :: c :: d :: r).toArray) 3) K w := ofPR (pr_xt3 ) k
theorem yi_xt3 {a b c d : Value} {r : List Value}  (k : K (d) w) : YieldP P S (Instr.extract (.tuple (a :: b :: c :: d :: r).toArray) 3) K w := yofPR (pr_xt3 ) k
theorem bi_eql_t {t : TypeId} {x y : Operand} {kd : IntKind} {a b : Int} (h : a = b) (k : K (.bool true) w) : LiftP P (binS .eql t x y (.int kd a) (.int kd b)) K w := bi_eql (by rw [decide_eq_true h]; exact k)
theorem bi_eql_f {t : TypeId} {x y : Operand} {kd : IntKind} {a b : Int} (h : ¬ a = b) (k : K (.bool false) w) : LiftP P (binS .eql t x y (.int kd a) (.int kd b)) K w := bi_eql (by rw [decide_eq_false h]; exact k)
theorem bi_eql_c {t : TypeId} {x y : Operand} {kd : IntKind} {a b : Int} (h1 : a = b → K (.bool true) w) (h0 : ¬ a = b → K (.bool false) w) : LiftP P (binS .eql t x y (.int kd a) (.int kd b)) K w := by
  by_cases h : a = b
  · exact bi_eql_t h (h1 h)
  · exact bi_eql_f h (h0 h)
theorem yi_eql_t {t : TypeId} {x y : Operand} {kd : IntKind} {a b : Int} (h : a = b) (k : K (.bool true) w) : YieldP P S (binS .eql t x y (.int kd a) (.int kd b)) K w := yi_eql (by rw [decide_eq_true h]; exact k)
theorem yi_eql_f {t : TypeId} {x y : Operand} {kd : IntKind} {a b : Int} (h : ¬ a = b) (k : K (.bool false) w) : YieldP P S (binS .eql t x y (.int kd a) (.int kd b)) K w := yi_eql (by rw [decide_eq_false h]; exact k)
theorem yi_eql_c {t : TypeId} {x y : Operand} {kd : IntKind} {a b : Int} (h1 : a = b → K (.bool true) w) (h0 : ¬ a = b → K (.bool false) w) : YieldP P S (binS .eql t x y (.int kd a) (.int kd b)) K w := by
  by_cases h : a = b
  · exact yi_eql_t h (h1 h)
  · exact yi_eql_f h (h0 h)
theorem bi_neq_t {t : TypeId} {x y : Operand} {kd : IntKind} {a b : Int} (h : a ≠ b) (k : K (.bool true) w) : LiftP P (binS .neq t x y (.int kd a) (.int kd b)) K w := bi_neq (by rw [decide_eq_true h]; exact k)
theorem bi_neq_f {t : TypeId} {x y : Operand} {kd : IntKind} {a b : Int} (h : a = b) (k : K (.bool false) w) : LiftP P (binS .neq t x y (.int kd a) (.int kd b)) K w := bi_neq (by rw [decide_eq_false (fun h' => h' h)]; exact k)
theorem bi_neq_c {t : TypeId} {x y : Operand} {kd : IntKind} {a b : Int} (h1 : a ≠ b → K (.bool true) w) (h0 : a = b → K (.bool false) w) : LiftP P (binS .neq t x y (.int kd a) (.int kd b)) K w := by
  by_cases h : a ≠ b
  · exact bi_neq_t h (h1 h)
  · exact bi_neq_f (Classical.not_not.1 h) (h0 (Classical.not_not.1 h))
theorem yi_neq_t {t : TypeId} {x y : Operand} {kd : IntKind} {a b : Int} (h : a ≠ b) (k : K (.bool true) w) : YieldP P S (binS .neq t x y (.int kd a) (.int kd b)) K w := yi_neq (by rw [decide_eq_true h]; exact k)
theorem yi_neq_f {t : TypeId} {x y : Operand} {kd : IntKind} {a b : Int} (h : a = b) (k : K (.bool false) w) : YieldP P S (binS .neq t x y (.int kd a) (.int kd b)) K w := yi_neq (by rw [decide_eq_false (fun h' => h' h)]; exact k)
theorem yi_neq_c {t : TypeId} {x y : Operand} {kd : IntKind} {a b : Int} (h1 : a ≠ b → K (.bool true) w) (h0 : a = b → K (.bool false) w) : YieldP P S (binS .neq t x y (.int kd a) (.int kd b)) K w := by
  by_cases h : a ≠ b
  · exact yi_neq_t h (h1 h)
  · exact yi_neq_f (Classical.not_not.1 h) (h0 (Classical.not_not.1 h))
theorem bi_lss_t {t : TypeId} {x y : Operand} {kd : IntKind} {a b : Int} (h : a < b) (k : K (.bool true) w) : LiftP P (binS .lss t x y (.int kd a) (.int kd b)) K w := bi_lss (by rw [decide_eq_true h]; exact k)
theorem bi_lss_f {t : TypeId} {x y : Operand} {kd : IntKind} {a b : Int} (h : ¬ a < b) (k : K (.bool false) w) : LiftP P (binS .lss t x y (.int kd a) (.int kd b)) K w := bi_lss (by rw [decide_eq_false h]; exact k)
theorem bi_lss_c {t : TypeId} {x y : Operand} {kd : IntKind} {a b : Int} (h1 : a < b → K (.bool true) w) (h0 : ¬ a < b → K (.bool false) w) : LiftP P (binS .lss t x y (.int kd a) (.int kd b)) K w := by
  by_cases h : a < b
  · exact bi_lss_t h (h1 h)
  · exact bi_lss_f h (h0 h)
theorem yi_lss_t {t : TypeId} {x y : Operand} {kd : IntKind} {a b : Int} (h : a < b) (k : K (.bool true) w) : YieldP P S (binS .lss t x y (.int kd a) (.int kd b)) K w := yi_lss (by rw [decide_eq_true h]; exact k)
theorem yi_lss_f {t : TypeId} {x y : Operand} {kd : IntKind} {a b : Int} (h : ¬ a < b) (k : K (.bool false) w) : YieldP P S (binS .lss t x y (.int kd a) (.int kd b)) K w := yi_lss (by rw [decide_eq_false h]; exact k)
theorem yi_lss_c {t : TypeId} {x y : Operand} {kd : IntKind} {a b : Int} (h1 : a < b → K (.bool true) w) (h0 : ¬ a < b → K (.bool false) w) : YieldP P S (binS .lss t x y (.int kd a) (.int kd b)) K w := by
  by_cases h : a < b
  · exact yi_lss_t h (h1 h)
  · exact yi_lss_f h (h0 h)
theorem bi_leq_t {t : TypeId} {x y : Operand} {kd : IntKind} {a b : Int} (h : a ≤ b) (k : K (.bool true) w) : LiftP P (binS .leq t x y (.int kd a) (.int kd b)) K w := bi_leq (by rw [decide_eq_true h]; exact k)
theorem bi_leq_f {t : TypeId} {x y : Operand} {kd : IntKind} {a b : Int} (h : ¬ a ≤ b) (k : K (.bool false) w) : LiftP P (binS .leq t x y (.int kd a) (.int kd b)) K w := bi_leq (by rw [decide_eq_false h]; exact k)
theorem bi_leq_c {t : TypeId} {x y : Operand} {kd : IntKind} {a b : Int} (h1 : a ≤ b → K (.bool true) w) (h0 : ¬ a ≤ b → K (.bool false) w) : LiftP P (binS .leq t x y (.int kd a) (.int kd b)) K w := by
  by_cases h : a ≤ b
  · exact bi_leq_t h (h1 h)
  · exact bi_leq_f h (h0 h)
theorem yi_leq_t {t : TypeId} {x y : Operand} {kd : IntKind} {a b : Int} (h : a ≤ b) (k : K (.bool true) w) : YieldP P S (binS .leq t x y (.int kd a) (.int kd b)) K w := yi_leq (by rw [decide_eq_true h]; exact k)
theorem yi_leq_f {t : TypeId} {x y : Operand} {kd : IntKind} {a b : Int} (h : ¬ a ≤ b) (k : K (.bool false) w) : YieldP P S (binS .leq t x y (.int kd a) (.int kd b)) K w := yi_leq (by rw [decide_eq_false h]; exact k)
theorem yi_leq_c {t : TypeId} {x y : Operand} {kd : IntKind} {a b : Int} (h1 : a ≤ b → K (.bool true) w) (h0 : ¬ a ≤ b → K (.bool false) w) : YieldP P S (binS .leq t x y (.int kd a) (.int kd b)) K w := by
  by_cases h : a ≤ b
  · exact yi_leq_t h (h1 h)
  · exact yi_leq_f h (h0 h)
theorem bi_gtr_t {t : TypeId} {x y : Operand} {kd : IntKind} {a b : Int} (h : b < a) (k : K (.bool true) w) : LiftP P (binS .gtr t x y (.int kd a) (.int kd b)) K w := bi_gtr (by rw [decide_eq_true h]; exact k)
theorem bi_gtr_f {t : TypeId} {x y : Operand} {kd : IntKind} {a b : Int} (h : ¬ b < a) (k : K (.bool false) w) : LiftP P (binS .gtr t x y (.int kd a) (.int kd b)) K w := bi_gtr (by rw [decide_eq_false h]; exact k)
theorem bi_gtr_c {t : TypeId} {x y : Operand} {kd : IntKind} {a b : Int} (h1 : b < a → K (.bool true) w) (h0 : ¬ b < a → K (.bool false) w) : LiftP P (binS .gtr t x y (.int kd a) (.int kd b)) K w := by
  by_cases h : b < a
  · exact bi_gtr_t h (h1 h)
  · exact bi_gtr_f h (h0 h)
theorem yi_gtr_t {t : TypeId} {x y : Operand} {kd : IntKind} {a b : Int} (h : b < a) (k : K (.bool true) w) : YieldP P S (binS .gtr t x y (.int kd a) (.int kd b)) K w := yi_gtr (by rw [decide_eq_true h]; exact k)
theorem yi_gtr_f {t : TypeId} {x y : Operand} {kd : IntKind} {a b : Int} (h : ¬ b < a) (k : K (.bool false) w) : YieldP P S (binS .gtr t x y (.int kd a) (.int kd b)) K w := yi_gtr (by rw [decide_eq_false h]; exact k)
theorem yi_gtr_c {t : TypeId} {x y : Operand} {kd : IntKind} {a b : Int} (h1 : b < a → K (.bool true) w) (h0 : ¬ b < a → K (.bool false) w) : YieldP P S (binS .gtr t x y (.int kd a) (.int kd b)) K w := by
  by_cases h : b < a
  · exact yi_gtr_t h (h1 h)
  · exact yi_gtr_f h (h0 h)
theorem bi_geq_t {t : TypeId} {x y : Operand} {kd : IntKind} {a b : Int} (h : b ≤ a) (k : K (.bool true) w) : LiftP P (binS .geq t x y (.int kd a) (.int kd b)) K w := bi_geq (by rw [decide_eq_true h]; exact k)
theorem bi_geq_f {t : TypeId} {x y : Operand} {kd : IntKind} {a b : Int} (h : ¬ b ≤ a) (k : K (.bool false) w) : LiftP P (binS .geq t x y (.int kd a) (.int kd b)) K w := bi_geq (by rw [decide_eq_false h]; exact k)
theorem bi_geq_c {t : TypeId} {x y : Operand} {kd : IntKind} {a b : Int} (h1 : b ≤ a → K (.bool true) w) (h0 : ¬ b ≤ a → K (.bool false) w) : LiftP P (binS .geq t x y (.int kd a) (.int kd b)) K w := by
  by_cases h : b ≤ a
  · exact bi_geq_t h (h1 h)
  · exact bi_geq_f h (h0 h)
theorem yi_geq_t {t : TypeId} {x y : Operand} {kd : IntKind} {a b : Int} (h : b ≤ a) (k : K (.bool true) w) : YieldP P S (binS .geq t x y (.int kd a) (.int kd b)) K w := yi_geq (by rw [decide_eq_true h]; exact k)
theorem yi_geq_f {t : TypeId} {x y : Operand} {kd : IntKind} {a b : Int} (h : ¬ b ≤ a) (k : K (.bool false) w) : YieldP P S (binS .geq t x y (.int kd a) (.int kd b)) K w := yi_geq (by rw [decide_eq_false h]; exact k)
theorem yi_geq_c {t : TypeId} {x y : Operand} {kd : IntKind} {a b : Int} (h1 : b ≤ a → K (.bool true) w) (h0 : ¬ b ≤ a → K (.bool false) w) : YieldP P S (binS .geq t x y (.int kd a) (.int kd b)) K w := by
  by_cases h : b ≤ a
  · exact yi_geq_t h (h1 h)
  · exact yi_geq_f h (h0 h)
theorem bi_seql_t {t : TypeId} {x y : Operand} {a b : ByteArray} (h : a.data.toList = b.data.toList) (k : K (.bool true) w) : LiftP P (binS .eql t x y (.string a) (.string b)) K w := bi_seql (by rw [decide_eq_true h]; exact k)
theorem bi_seql_f {t : TypeId} {x y : Operand} {a b : ByteArray} (h : ¬ a.data.toList = b.data.toList) (k : K (.bool false) w) : LiftP P (binS .eql t x y (.string a) (.string b)) K w := bi_seql (by rw [decide_eq_false h]; exact k)
theorem bi_seql_c {t : TypeId} {x y : Operand} {a b : ByteArray} (h1 : a.data.toList = b.data.toList → K (.bool true) w) (h0 : ¬ a.data.toList = b.data.toList → K (.bool false) w) : LiftP P (binS .eql t x y (.string a) (.string b)) K w := by
  by_cases h : a.data.toList = b.data.toList
  · exact bi_seql_t h (h1 h)
  · exact bi_seql_f h (h0 h)
theorem yi_seql_t {t : TypeId} {x y : Operand} {a b : ByteArray} (h : a.data.toList = b.data.toList) (k : K (.bool true) w) : YieldP P S (binS .eql t x y (.string a) (.string b)) K w := yi_seql (by rw [decide_eq_true h]; exact k)
theorem yi_seql_f {t : TypeId} {x y : Operand} {a b : ByteArray} (h : ¬ a.data.toList = b.data.toList) (k : K (.bool false) w) : YieldP P S (binS .eql t x y (.string a) (.string b)) K w := yi_seql (by rw [decide_eq_false h]; exact k)
theorem yi_seql_c {t : TypeId} {x y : Operand} {a b : ByteArray} (h1 : a.data.toList = b.data.toList → K (.bool true) w) (h0 : ¬ a.data.toList = b.data.toList → K (.bool false) w) : YieldP P S (binS .eql t x y (.string a) (.string b)) K w := by
  by_cases h : a.data.toList = b.data.toList
  · exact yi_seql_t h (h1 h)
  · exact yi_seql_f h (h0 h)
theorem bi_sneq_t {t : TypeId} {x y : Operand} {a b : ByteArray} (h : a.data.toList ≠ b.data.toList) (k : K (.bool true) w) : LiftP P (binS .neq t x y (.string a) (.string b)) K w := bi_sneq (by rw [decide_eq_true h]; exact k)
theorem bi_sneq_f {t : TypeId} {x y : Operand} {a b : ByteArray} (h : a.data.toList = b.data.toList) (k : K (.bool false) w) : LiftP P (binS .neq t x y (.string a) (.string b)) K w := bi_sneq (by rw [decide_eq_false (fun h' => h' h)]; exact k)
theorem bi_sneq_c {t : TypeId} {x y : Operand} {a b : ByteArray} (h1 : a.data.toList ≠ b.data.toList → K (.bool true) w) (h0 : a.data.toList = b.data.toList → K (.bool false) w) : LiftP P (binS .neq t x y (.string a) (.string b)) K w := by
  by_cases h : a.data.toList ≠ b.data.toList
  · exact bi_sneq_t h (h1 h)
  · exact bi_sneq_f (Classical.not_not.1 h) (h0 (Classical.not_not.1 h))
theorem yi_sneq_t {t : TypeId} {x y : Operand} {a b : ByteArray} (h : a.data.toList ≠ b.data.toList) (k : K (.bool true) w) : YieldP P S (binS .neq t x y (.string a) (.string b)) K w := yi_sneq (by rw [decide_eq_true h]; exact k)
theorem yi_sneq_f {t : TypeId} {x y : Operand} {a b : ByteArray} (h : a.data.toList = b.data.toList) (k : K (.bool false) w) : YieldP P S (binS .neq t x y (.string a) (.string b)) K w := yi_sneq (by rw [decide_eq_false (fun h' => h' h)]; exact k)
theorem yi_sneq_c {t : TypeId} {x y : Operand} {a b : ByteArray} (h1 : a.data.toList ≠ b.data.toList → K (.bool true) w) (h0 : a.data.toList = b.data.toList → K (.bool false) w) : YieldP P S (binS .neq t x y (.string a) (.string b)) K w := by
  by_cases h : a.data.toList ≠ b.data.toList
  · exact yi_sneq_t h (h1 h)
  · exact yi_sneq_f (Classical.not_not.1 h) (h0 (Classical.not_not.1 h))
end
-- RULES END
section
variable {P : Program} {K : Value → World → Prop} {S : World → Prop} {w : World}
theorem nck {a : Addr} (k : K (.pointer (some a)) w) : NextP P (nilChk (.pointer (some a))) K w := ⟨k⟩
theorem ynck {a : Addr} (k : K (.pointer (some a)) w) : YieldN P S (nilChk (.pointer (some a))) K w := ⟨⟨_, fun _ _ => rfl, k⟩⟩
theorem act {X : (Value → World → Prop) → World → Prop} {K : (World → Prop) → Value → World → Prop} (h : X (fun v w' => ∃ S' : World → Prop, S' w' ∧ (∀ w, S' w → S w) ∧ K S' v w') w) : ActP S X K w := ⟨h⟩
theorem gaY {b : Bool} {X : (Value → World → Prop) → World → Prop} {K : (World → Prop) → Value → World → Prop} (k : ActP S X K w) : GuardA (.bool b) b S X K w := ⟨fun _ => k, fun hn => absurd rfl hn⟩
theorem gaN {v : Value} {b : Bool} (hv : v ≠ .bool b) {X : (Value → World → Prop) → World → Prop} {K : (World → Prop) → Value → World → Prop} (k : K S undef w) : GuardA v b S X K w := ⟨fun he => absurd he hv, fun _ => k⟩
theorem gaFT {X : (Value → World → Prop) → World → Prop} {K : (World → Prop) → Value → World → Prop} (k : K S undef w) : GuardA (.bool false) true S X K w := gaN (by simp) k
theorem gaTF {X : (Value → World → Prop) → World → Prop} {K : (World → Prop) → Value → World → Prop} (k : K S undef w) : GuardA (.bool true) false S X K w := gaN (by simp) k
theorem yld {m : Sem Value} {v : Value} (h : ∀ w', S w' → m.run P w' = .ok v w') (k : K v w) : YieldP P S m K w := ⟨⟨v, h, k⟩⟩
theorem yldN {m : Sem Next} {v : Value} (h : ∀ w', S w' → m.run P w' = .ok (.value v) w') (k : K v w) : YieldN P S m K w := ⟨⟨v, h, k⟩⟩
theorem draw {X : (World → Prop) → World → Prop} (S : World → Prop) (h : S w.drew) (k : X S w.drew) : DrawP X w := ⟨⟨S, h, k⟩⟩
theorem pick {b : Bool} {x y : Value} (k : K (if b then x else y) w) : PickP (.bool b) x y K w := ⟨⟨b, rfl, k⟩⟩
theorem pickT {x y : Value} (k : K x w) : PickP (.bool true) x y K w := ⟨⟨true, rfl, k⟩⟩
theorem pickF {x y : Value} (k : K y w) : PickP (.bool false) x y K w := ⟨⟨false, rfl, k⟩⟩
theorem gdY {b : Bool} {X : (Value → World → Prop) → World → Prop} (k : X K w) : GuardP (.bool b) b X K w := ⟨fun _ => k, fun hn => absurd rfl hn⟩
theorem gdN {v : Value} {b : Bool} (hv : v ≠ .bool b) {X : (Value → World → Prop) → World → Prop} (k : K undef w) : GuardP v b X K w := ⟨fun he => absurd he hv, fun _ => k⟩
theorem gdFT {X : (Value → World → Prop) → World → Prop} (k : K undef w) : GuardP (.bool false) true X K w := gdN (by simp) k
theorem gdTF {X : (Value → World → Prop) → World → Prop} (k : K undef w) : GuardP (.bool true) false X K w := gdN (by simp) k
theorem gdU {b : Bool} {X : (Value → World → Prop) → World → Prop} (k : K undef w) : GuardP undef b X K w := gdN (by simp [undef]) k
theorem cdT {X Y : World → Prop} (k : X w) : CondP (.bool true) X Y w := ⟨⟨true, rfl, fun _ => k, fun e => by cases e⟩⟩
theorem cdF {X Y : World → Prop} (k : Y w) : CondP (.bool false) X Y w := ⟨⟨false, rfl, fun e => (by cases e), fun _ => k⟩⟩
end

/-! ### 2. the rules -/
theorem CallP.mono {P : Program} {f : FuncId} {as : Array Value} {K K' : Value → World → Prop} {w : World} (h : CallP P f as K w) (hk : ∀ v w', K v w' → K' v w') : CallP P f as K' w :=
  ⟨h.out.mono fun _ _ ⟨v, he, hv⟩ => ⟨v, he, hk _ _ hv⟩⟩
theorem CondP.dec {p : Prop} [Decidable p] {X Y : World → Prop} {w : World} (h1 : p → X w) (h2 : ¬ p → Y w) : CondP (.bool (decide p)) X Y w :=
  ⟨_, rfl, fun h => h1 (of_decide_eq_true h), fun h => h2 (of_decide_eq_false h)⟩
theorem CondP.ofb {b : Bool} {X Y : World → Prop} {w : World} (h1 : b = true → X w) (h2 : b = false → Y w) : CondP (.bool b) X Y w := ⟨b, rfl, h1, h2⟩
theorem CondP.yes {v : Value} {X Y : World → Prop} {w : World} (hv : v = .bool true) (h : X w) : CondP v X Y w := ⟨true, hv, fun _ => h, fun e => by cases e⟩
theorem CondP.no_ {v : Value} {X Y : World → Prop} {w : World} (hv : v = .bool false) (h : Y w) : CondP v X Y w := ⟨false, hv, fun e => (by cases e), fun _ => h⟩
theorem JoinP.plain {X : (List Value → World → Prop) → World → Prop} {Y : List Value → World → Prop} {w : World} (h : X Y w) : JoinP X Y w := ⟨h⟩
/-- Cut at a join: what is known there. -/
theorem JoinP.cut {X : (List Value → World → Prop) → World → Prop} {Y : List Value → World → Prop} {w : World} (I : List Value → World → Prop)
    (hX : ∀ J : List Value → World → Prop, (∀ vs w', I vs w' → J vs w') → X J w) (hY : ∀ vs w', I vs w' → Y vs w') : JoinP X Y w := ⟨hX Y hY⟩
theorem GuardP.both {v : Value} {b : Bool} {X : (Value → World → Prop) → World → Prop} {K : Value → World → Prop} {w : World} (h1 : v = .bool b → X K w) (h2 : v ≠ .bool b → K undef w) : GuardP v b X K w := ⟨h1, h2⟩
theorem LoopP.inv0 {body : (List Value → World → Prop) → List Value → World → Prop} {w : World} (I : World → Prop) (μ : World → Nat) (h0 : I w)
    (hr : ∀ w', I w' → ∀ J : List Value → World → Prop, (∀ w'', I w'' → μ w'' < μ w' → J [] w'') → body J [] w') : LoopP body [] w :=
  ⟨fun vs w' => vs = [] ∧ I w', fun _ w' => μ w', ⟨rfl, h0⟩, fun vs w' ⟨e, h⟩ => by
    subst e
    exact hr w' h _ fun w'' h1 h2 => ⟨⟨rfl, h1⟩, h2⟩⟩
theorem LoopP.inv1 {body : (List Value → World → Prop) → List Value → World → Prop} {a : Value} {w : World} (I : Value → World → Prop) (μ : Value → World → Nat) (h0 : I a w)
    (hr : ∀ x w', I x w' → ∀ J : List Value → World → Prop, (∀ y w'', I y w'' → μ y w'' < μ x w' → J [y] w'') → body J [x] w') : LoopP body [a] w :=
  ⟨fun vs w' => ∃ x, vs = [x] ∧ I x w', fun vs w' => μ (vs.headD undef) w', ⟨a, rfl, h0⟩, fun vs w' ⟨x, e, h⟩ => by
    subst e
    exact hr x w' h _ fun y w'' h1 h2 => ⟨⟨y, rfl, h1⟩, h2⟩⟩
theorem LoopP.inv2 {body : (List Value → World → Prop) → List Value → World → Prop} {a b : Value} {w : World} (I : Value → Value → World → Prop) (μ : Value → Value → World → Nat) (h0 : I a b w)
    (hr : ∀ x1 x2 w', I x1 x2 w' → ∀ J : List Value → World → Prop, (∀ y1 y2 w'', I y1 y2 w'' → μ y1 y2 w'' < μ x1 x2 w' → J [y1, y2] w'') → body J [x1, x2] w') : LoopP body [a, b] w :=
  ⟨fun vs w' => ∃ x1 x2, vs = [x1, x2] ∧ I x1 x2 w', fun vs w' => μ (vs.headD undef) (vs.tail.headD undef) w', ⟨a, b, rfl, h0⟩, fun vs w' ⟨x1, x2, e, h⟩ => by
    subst e
    exact hr x1 x2 w' h _ fun y1 y2 w'' h1 h2 => ⟨⟨y1, y2, rfl, h1⟩, h2⟩⟩
theorem LoopP.inv3 {body : (List Value → World → Prop) → List Value → World → Prop} {a b c : Value} {w : World} (I : Value → Value → Value → World → Prop) (μ : Value → Value → Value → World → Nat) (h0 : I a b c w)
    (hr : ∀ x1 x2 x3 w', I x1 x2 x3 w' → ∀ J : List Value → World → Prop, (∀ y1 y2 y3 w'', I y1 y2 y3 w'' → μ y1 y2 y3 w'' < μ x1 x2 x3 w' → J [y1, y2, y3] w'') → body J [x1, x2, x3] w') : LoopP body [a, b, c] w :=
  ⟨fun vs w' => ∃ x1 x2 x3, vs = [x1, x2, x3] ∧ I x1 x2 x3 w', fun vs w' => μ (vs.headD undef) (vs.tail.headD undef) (vs.tail.tail.headD undef) w', ⟨a, b, c, rfl, h0⟩, fun vs w' ⟨x1, x2, x3, e, h⟩ => by
    subst e
    exact hr x1 x2 x3 w' h _ fun y1 y2 y3 w'' h1 h2 => ⟨⟨y1, y2, y3, rfl, h1⟩, h2⟩⟩
theorem LoopP.inv4 {body : (List Value → World → Prop) → List Value → World → Prop} {a b c d : Value} {w : World} (I : Value → Value → Value → Value → World → Prop) (μ : Value → Value → Value → Value → World → Nat) (h0 : I a b c d w)
    (hr : ∀ x1 x2 x3 x4 w', I x1 x2 x3 x4 w' → ∀ J : List Value → World → Prop, (∀ y1 y2 y3 y4 w'', I y1 y2 y3 y4 w'' → μ y1 y2 y3 y4 w'' < μ x1 x2 x3 x4 w' → J [y1, y2, y3, y4] w'') → body J [x1, x2, x3, x4] w') : LoopP body [a, b, c, d] w :=
  ⟨fun vs w' => ∃ x1 x2 x3 x4, vs = [x1, x2, x3, x4] ∧ I x1 x2 x3 x4 w', fun vs w' => μ (vs.headD undef) (vs.tail.headD undef) (vs.tail.tail.headD undef) (vs.tail.tail.tail.headD undef) w', ⟨a, b, c, d, rfl, h0⟩, fun vs w' ⟨x1, x2, x3, x4, e, h⟩ => by
    subst e
    exact hr x1 x2 x3 x4 w' h _ fun y1 y2 y3 y4 w'' h1 h2 => ⟨⟨y1, y2, y3, y4, rfl, h1⟩, h2⟩⟩

end Go.Proofs.Ytmnaggdhkggjhaa.E
