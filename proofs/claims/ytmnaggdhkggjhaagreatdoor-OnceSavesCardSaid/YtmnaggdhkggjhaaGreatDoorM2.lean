import Derived.Test.YtmnaggdhkggjhaaGreatDoorM1
import Derived.WalkKit
import Derived.WalkLawsBesides
import Derived.WalkSpells
import Derived.Laws.Rows
import Derived.Laws.OwnMore
import Derived.Deep.Draws
import Derived.Maps.AppendAt
import Derived.Deep.AppendLies
import Derived.Laws.BytesString
import Derived.Lib.AppendStr
import Derived.Lib.SlBytesConst
import Derived.OpenShut
namespace Go.Proofs.YtmnaggdhkggjhaaGreatDoor.E
open Go Go.RowKit

section
variable {P : Program} {K : Value → World → Prop} {w : World}
theorem lift {m : Sem Value} {v : Value} {w' : World} (h : m.run P w = .ok v w') (k : K v w') : LiftP P m K w := ⟨⟨v, w', h, k⟩⟩
theorem liftU {m : Sem Unit} {u : Unit} {w' : World} (h : m.run P w = .ok u w') (k : K undef w') : LiftU P m K w := ⟨⟨w', h, k⟩⟩
theorem nextV {m : Sem Next} {v : Value} {w' : World} (h : m.run P w = .ok (.value v) w') (k : K v w') : NextP P m K w := ⟨by rw [h]; exact k⟩

end
-- RULES BEGIN
section
variable {P : Program} {K : Value → World → Prop} {S : World → Prop} {w : World}
/-- m yields v in whatever world, and leaves it. -/
def PR (P : Program) (m : Sem Value) (v : Value) : Prop := ∀ w, m.run P w = .ok v w
theorem ofPR {m : Sem Value} {v : Value} (h : PR P m v) (k : K v w) : LiftP P m K w := lift (h w) k
theorem yofPR {m : Sem Value} {v : Value} (h : PR P m v) (k : K v w) : YieldP P S m K w := ⟨⟨v, fun w' _ => h w', k⟩⟩
theorem pr_add64 {t : TypeId} {x y : Operand} {a b : Int} (h : -9223372036854775808 ≤ a + b ∧ a + b ≤ 9223372036854775807) : PR P (binS .add t x y (.int .i64 a) (.int .i64 b)) (.int .i64 (a + b)) := by intro w; rw [show (.int .i64 (a + b) : Value) = .int .i64 (IntKind.i64.wrap (a + b)) from by rw [IntWalk.i64_in _ h]]; simp only [binS, go_sem, Sem.run_bind, Sem.run_pure, Result.andThen_ok] <;> rfl
theorem bi_add64 {t : TypeId} {x y : Operand} {a b : Int} (h : -9223372036854775808 ≤ a + b ∧ a + b ≤ 9223372036854775807) (k : K (.int .i64 (a + b)) w) : LiftP P (binS .add t x y (.int .i64 a) (.int .i64 b)) K w := ofPR (pr_add64 h) k
theorem yi_add64 {t : TypeId} {x y : Operand} {a b : Int} (h : -9223372036854775808 ≤ a + b ∧ a + b ≤ 9223372036854775807) (k : K (.int .i64 (a + b)) w) : YieldP P S (binS .add t x y (.int .i64 a) (.int .i64 b)) K w := yofPR (pr_add64 h) k
theorem pr_add {t : TypeId} {x y : Operand} {kd : IntKind} {a b : Int}  : PR P (binS .add t x y (.int kd a) (.int kd b)) (.int kd (kd.wrap (a + b))) := by intro w; simp only [binS, go_sem, Sem.run_bind, Sem.run_pure, Result.andThen_ok] <;> rfl
theorem bi_add {t : TypeId} {x y : Operand} {kd : IntKind} {a b : Int}  (k : K (.int kd (kd.wrap (a + b))) w) : LiftP P (binS .add t x y (.int kd a) (.int kd b)) K w := ofPR (pr_add ) k
theorem yi_add {t : TypeId} {x y : Operand} {kd : IntKind} {a b : Int}  (k : K (.int kd (kd.wrap (a + b))) w) : YieldP P S (binS .add t x y (.int kd a) (.int kd b)) K w := yofPR (pr_add ) k
theorem pr_sub64 {t : TypeId} {x y : Operand} {a b : Int} (h : -9223372036854775808 ≤ a - b ∧ a - b ≤ 9223372036854775807) : PR P (binS .sub t x y (.int .i64 a) (.int .i64 b)) (.int .i64 (a - b)) := by intro w; rw [show (.int .i64 (a - b) : Value) = .int .i64 (IntKind.i64.wrap (a - b)) from by rw [IntWalk.i64_in _ h]]; simp only [binS, go_sem, Sem.run_bind, Sem.run_pure, Result.andThen_ok] <;> rfl
theorem bi_sub64 {t : TypeId} {x y : Operand} {a b : Int} (h : -9223372036854775808 ≤ a - b ∧ a - b ≤ 9223372036854775807) (k : K (.int .i64 (a - b)) w) : LiftP P (binS .sub t x y (.int .i64 a) (.int .i64 b)) K w := ofPR (pr_sub64 h) k
theorem yi_sub64 {t : TypeId} {x y : Operand} {a b : Int} (h : -9223372036854775808 ≤ a - b ∧ a - b ≤ 9223372036854775807) (k : K (.int .i64 (a - b)) w) : YieldP P S (binS .sub t x y (.int .i64 a) (.int .i64 b)) K w := yofPR (pr_sub64 h) k
theorem pr_sub {t : TypeId} {x y : Operand} {kd : IntKind} {a b : Int}  : PR P (binS .sub t x y (.int kd a) (.int kd b)) (.int kd (kd.wrap (a - b))) := by intro w; simp only [binS, go_sem, Sem.run_bind, Sem.run_pure, Result.andThen_ok] <;> rfl
theorem bi_sub {t : TypeId} {x y : Operand} {kd : IntKind} {a b : Int}  (k : K (.int kd (kd.wrap (a - b))) w) : LiftP P (binS .sub t x y (.int kd a) (.int kd b)) K w := ofPR (pr_sub ) k
theorem yi_sub {t : TypeId} {x y : Operand} {kd : IntKind} {a b : Int}  (k : K (.int kd (kd.wrap (a - b))) w) : YieldP P S (binS .sub t x y (.int kd a) (.int kd b)) K w := yofPR (pr_sub ) k
theorem pr_mul64 {t : TypeId} {x y : Operand} {a b : Int} (h : -9223372036854775808 ≤ a * b ∧ a * b ≤ 9223372036854775807) : PR P (binS .mul t x y (.int .i64 a) (.int .i64 b)) (.int .i64 (a * b)) := by intro w; rw [show (.int .i64 (a * b) : Value) = .int .i64 (IntKind.i64.wrap (a * b)) from by rw [IntWalk.i64_in _ h]]; simp only [binS, go_sem, Sem.run_bind, Sem.run_pure, Result.andThen_ok] <;> rfl
theorem bi_mul64 {t : TypeId} {x y : Operand} {a b : Int} (h : -9223372036854775808 ≤ a * b ∧ a * b ≤ 9223372036854775807) (k : K (.int .i64 (a * b)) w) : LiftP P (binS .mul t x y (.int .i64 a) (.int .i64 b)) K w := ofPR (pr_mul64 h) k
theorem yi_mul64 {t : TypeId} {x y : Operand} {a b : Int} (h : -9223372036854775808 ≤ a * b ∧ a * b ≤ 9223372036854775807) (k : K (.int .i64 (a * b)) w) : YieldP P S (binS .mul t x y (.int .i64 a) (.int .i64 b)) K w := yofPR (pr_mul64 h) k
theorem pr_mul {t : TypeId} {x y : Operand} {kd : IntKind} {a b : Int}  : PR P (binS .mul t x y (.int kd a) (.int kd b)) (.int kd (kd.wrap (a * b))) := by intro w; simp only [binS, go_sem, Sem.run_bind, Sem.run_pure, Result.andThen_ok] <;> rfl
theorem bi_mul {t : TypeId} {x y : Operand} {kd : IntKind} {a b : Int}  (k : K (.int kd (kd.wrap (a * b))) w) : LiftP P (binS .mul t x y (.int kd a) (.int kd b)) K w := ofPR (pr_mul ) k
theorem yi_mul {t : TypeId} {x y : Operand} {kd : IntKind} {a b : Int}  (k : K (.int kd (kd.wrap (a * b))) w) : YieldP P S (binS .mul t x y (.int kd a) (.int kd b)) K w := yofPR (pr_mul ) k
theorem pr_quo64 {t : TypeId} {x y : Operand} {a b : Int} (ha : 0 ≤ a ∧ a ≤ 9223372036854775807 ∧ 1 ≤ b) : PR P (binS .quo t x y (.int .i64 a) (.int .i64 b)) (.int .i64 (a / b)) := by
  intro w
  have hb : b ≠ 0 := by omega
  rw [← IntWalk.i64_quo _ _ ha]
  simp only [binS, go_sem, Sem.run_bind, Sem.run_pure, Result.andThen_ok, hb, if_false] <;> rfl
theorem bi_quo64 {t : TypeId} {x y : Operand} {a b : Int} (ha : 0 ≤ a ∧ a ≤ 9223372036854775807 ∧ 1 ≤ b) (k : K (.int .i64 (a / b)) w) : LiftP P (binS .quo t x y (.int .i64 a) (.int .i64 b)) K w := ofPR (pr_quo64 ha) k
theorem yi_quo64 {t : TypeId} {x y : Operand} {a b : Int} (ha : 0 ≤ a ∧ a ≤ 9223372036854775807 ∧ 1 ≤ b) (k : K (.int .i64 (a / b)) w) : YieldP P S (binS .quo t x y (.int .i64 a) (.int .i64 b)) K w := yofPR (pr_quo64 ha) k
theorem pr_rem64 {t : TypeId} {x y : Operand} {a b : Int} (ha : 0 ≤ a ∧ 1 ≤ b) : PR P (binS .rem t x y (.int .i64 a) (.int .i64 b)) (.int .i64 (a % b)) := by
  intro w
  have hb : b ≠ 0 := by omega
  rw [← IntWalk.rem_in _ _ ha.1]
  simp only [binS, go_sem, Sem.run_bind, Sem.run_pure, Result.andThen_ok, hb, if_false] <;> rfl
theorem bi_rem64 {t : TypeId} {x y : Operand} {a b : Int} (ha : 0 ≤ a ∧ 1 ≤ b) (k : K (.int .i64 (a % b)) w) : LiftP P (binS .rem t x y (.int .i64 a) (.int .i64 b)) K w := ofPR (pr_rem64 ha) k
theorem yi_rem64 {t : TypeId} {x y : Operand} {a b : Int} (ha : 0 ≤ a ∧ 1 ≤ b) (k : K (.int .i64 (a % b)) w) : YieldP P S (binS .rem t x y (.int .i64 a) (.int .i64 b)) K w := yofPR (pr_rem64 ha) k
theorem pr_quo {t : TypeId} {x y : Operand} {kd : IntKind} {a b : Int} (hb : b ≠ 0) : PR P (binS .quo t x y (.int kd a) (.int kd b)) (.int kd (kd.wrap (a.tdiv b))) := by intro w; simp only [binS, go_sem, Sem.run_bind, Sem.run_pure, Result.andThen_ok, hb, if_false] <;> rfl
theorem bi_quo {t : TypeId} {x y : Operand} {kd : IntKind} {a b : Int} (hb : b ≠ 0) (k : K (.int kd (kd.wrap (a.tdiv b))) w) : LiftP P (binS .quo t x y (.int kd a) (.int kd b)) K w := ofPR (pr_quo hb) k
theorem yi_quo {t : TypeId} {x y : Operand} {kd : IntKind} {a b : Int} (hb : b ≠ 0) (k : K (.int kd (kd.wrap (a.tdiv b))) w) : YieldP P S (binS .quo t x y (.int kd a) (.int kd b)) K w := yofPR (pr_quo hb) k
theorem pr_rem {t : TypeId} {x y : Operand} {kd : IntKind} {a b : Int} (hb : b ≠ 0) : PR P (binS .rem t x y (.int kd a) (.int kd b)) (.int kd (a.tmod b)) := by intro w; simp only [binS, go_sem, Sem.run_bind, Sem.run_pure, Result.andThen_ok, hb, if_false] <;> rfl
theorem bi_rem {t : TypeId} {x y : Operand} {kd : IntKind} {a b : Int} (hb : b ≠ 0) (k : K (.int kd (a.tmod b)) w) : LiftP P (binS .rem t x y (.int kd a) (.int kd b)) K w := ofPR (pr_rem hb) k
theorem yi_rem {t : TypeId} {x y : Operand} {kd : IntKind} {a b : Int} (hb : b ≠ 0) (k : K (.int kd (a.tmod b)) w) : YieldP P S (binS .rem t x y (.int kd a) (.int kd b)) K w := yofPR (pr_rem hb) k
theorem pr_and {t : TypeId} {x y : Operand} {kd : IntKind} {a b : Int}  : PR P (binS .and t x y (.int kd a) (.int kd b)) (.int kd (bits .and kd a b)) := by intro w; simp only [binS, go_sem, Sem.run_bind, Sem.run_pure, Result.andThen_ok] <;> rfl
theorem bi_and {t : TypeId} {x y : Operand} {kd : IntKind} {a b : Int}  (k : K (.int kd (bits .and kd a b)) w) : LiftP P (binS .and t x y (.int kd a) (.int kd b)) K w := ofPR (pr_and ) k
theorem yi_and {t : TypeId} {x y : Operand} {kd : IntKind} {a b : Int}  (k : K (.int kd (bits .and kd a b)) w) : YieldP P S (binS .and t x y (.int kd a) (.int kd b)) K w := yofPR (pr_and ) k
theorem pr_or {t : TypeId} {x y : Operand} {kd : IntKind} {a b : Int}  : PR P (binS .or t x y (.int kd a) (.int kd b)) (.int kd (bits .or kd a b)) := by intro w; simp only [binS, go_sem, Sem.run_bind, Sem.run_pure, Result.andThen_ok] <;> rfl
theorem bi_or {t : TypeId} {x y : Operand} {kd : IntKind} {a b : Int}  (k : K (.int kd (bits .or kd a b)) w) : LiftP P (binS .or t x y (.int kd a) (.int kd b)) K w := ofPR (pr_or ) k
theorem yi_or {t : TypeId} {x y : Operand} {kd : IntKind} {a b : Int}  (k : K (.int kd (bits .or kd a b)) w) : YieldP P S (binS .or t x y (.int kd a) (.int kd b)) K w := yofPR (pr_or ) k
theorem pr_xor {t : TypeId} {x y : Operand} {kd : IntKind} {a b : Int}  : PR P (binS .xor t x y (.int kd a) (.int kd b)) (.int kd (bits .xor kd a b)) := by intro w; simp only [binS, go_sem, Sem.run_bind, Sem.run_pure, Result.andThen_ok] <;> rfl
theorem bi_xor {t : TypeId} {x y : Operand} {kd : IntKind} {a b : Int}  (k : K (.int kd (bits .xor kd a b)) w) : LiftP P (binS .xor t x y (.int kd a) (.int kd b)) K w := ofPR (pr_xor ) k
theorem yi_xor {t : TypeId} {x y : Operand} {kd : IntKind} {a b : Int}  (k : K (.int kd (bits .xor kd a b)) w) : YieldP P S (binS .xor t x y (.int kd a) (.int kd b)) K w := yofPR (pr_xor ) k
theorem pr_shr {t : TypeId} {x y : Operand} {kd kd' : IntKind} {a b : Int} (h : 0 ≤ b ∧ b ≤ 64) (hk : b ≤ kd.bits) : PR P (binS .shr t x y (.int kd a) (.int kd' b)) (.int kd (a / 2 ^ b.toNat)) := by intro w; rw [binS, eqGuard_shr, binOp_shr, shift_shr kd kd' a b h.1 hk]; rfl
theorem bi_shr {t : TypeId} {x y : Operand} {kd kd' : IntKind} {a b : Int} (h : 0 ≤ b ∧ b ≤ 64) (hk : b ≤ kd.bits) (k : K (.int kd (a / 2 ^ b.toNat)) w) : LiftP P (binS .shr t x y (.int kd a) (.int kd' b)) K w := ofPR (pr_shr h hk) k
theorem yi_shr {t : TypeId} {x y : Operand} {kd kd' : IntKind} {a b : Int} (h : 0 ≤ b ∧ b ≤ 64) (hk : b ≤ kd.bits) (k : K (.int kd (a / 2 ^ b.toNat)) w) : YieldP P S (binS .shr t x y (.int kd a) (.int kd' b)) K w := yofPR (pr_shr h hk) k
theorem pr_shl {t : TypeId} {x y : Operand} {kd kd' : IntKind} {a b : Int} (h : 0 ≤ b ∧ b ≤ 64) (hk : b ≤ kd.bits) : PR P (binS .shl t x y (.int kd a) (.int kd' b)) (.int kd (kd.wrap (a * 2 ^ b.toNat))) := by intro w; rw [binS, eqGuard_shl, binOp_shl, shift_shl kd kd' a b h.1 hk]; rfl
theorem bi_shl {t : TypeId} {x y : Operand} {kd kd' : IntKind} {a b : Int} (h : 0 ≤ b ∧ b ≤ 64) (hk : b ≤ kd.bits) (k : K (.int kd (kd.wrap (a * 2 ^ b.toNat))) w) : LiftP P (binS .shl t x y (.int kd a) (.int kd' b)) K w := ofPR (pr_shl h hk) k
theorem yi_shl {t : TypeId} {x y : Operand} {kd kd' : IntKind} {a b : Int} (h : 0 ≤ b ∧ b ≤ 64) (hk : b ≤ kd.bits) (k : K (.int kd (kd.wrap (a * 2 ^ b.toNat))) w) : YieldP P S (binS .shl t x y (.int kd a) (.int kd' b)) K w := yofPR (pr_shl h hk) k
theorem pr_eql {t : TypeId} {x y : Operand} {kd : IntKind} {a b : Int}  : PR P (binS .eql t x y (.int kd a) (.int kd b)) (.bool (decide (a = b))) := by intro w; rw [show (.bool (decide (a = b)) : Value) = .bool (a == b) from by by_cases h : a = b <;> simp [h]]; simp only [binS, go_sem, Sem.run_bind, Sem.run_pure, Result.andThen_ok] <;> rfl
theorem bi_eql {t : TypeId} {x y : Operand} {kd : IntKind} {a b : Int}  (k : K (.bool (decide (a = b))) w) : LiftP P (binS .eql t x y (.int kd a) (.int kd b)) K w := ofPR (pr_eql ) k
theorem yi_eql {t : TypeId} {x y : Operand} {kd : IntKind} {a b : Int}  (k : K (.bool (decide (a = b))) w) : YieldP P S (binS .eql t x y (.int kd a) (.int kd b)) K w := yofPR (pr_eql ) k
theorem pr_neq {t : TypeId} {x y : Operand} {kd : IntKind} {a b : Int}  : PR P (binS .neq t x y (.int kd a) (.int kd b)) (.bool (decide (a ≠ b))) := by intro w; rw [show (.bool (decide (a ≠ b)) : Value) = .bool (a != b) from by by_cases h : a = b <;> simp [h]]; simp only [binS, go_sem, Sem.run_bind, Sem.run_pure, Result.andThen_ok] <;> rfl
theorem bi_neq {t : TypeId} {x y : Operand} {kd : IntKind} {a b : Int}  (k : K (.bool (decide (a ≠ b))) w) : LiftP P (binS .neq t x y (.int kd a) (.int kd b)) K w := ofPR (pr_neq ) k
theorem yi_neq {t : TypeId} {x y : Operand} {kd : IntKind} {a b : Int}  (k : K (.bool (decide (a ≠ b))) w) : YieldP P S (binS .neq t x y (.int kd a) (.int kd b)) K w := yofPR (pr_neq ) k
theorem pr_lss {t : TypeId} {x y : Operand} {kd : IntKind} {a b : Int}  : PR P (binS .lss t x y (.int kd a) (.int kd b)) (.bool (decide (a < b))) := by intro w; simp only [binS, go_sem, Sem.run_bind, Sem.run_pure, Result.andThen_ok] <;> rfl
theorem bi_lss {t : TypeId} {x y : Operand} {kd : IntKind} {a b : Int}  (k : K (.bool (decide (a < b))) w) : LiftP P (binS .lss t x y (.int kd a) (.int kd b)) K w := ofPR (pr_lss ) k
theorem yi_lss {t : TypeId} {x y : Operand} {kd : IntKind} {a b : Int}  (k : K (.bool (decide (a < b))) w) : YieldP P S (binS .lss t x y (.int kd a) (.int kd b)) K w := yofPR (pr_lss ) k
theorem pr_leq {t : TypeId} {x y : Operand} {kd : IntKind} {a b : Int}  : PR P (binS .leq t x y (.int kd a) (.int kd b)) (.bool (decide (a ≤ b))) := by intro w; simp only [binS, go_sem, Sem.run_bind, Sem.run_pure, Result.andThen_ok] <;> rfl
theorem bi_leq {t : TypeId} {x y : Operand} {kd : IntKind} {a b : Int}  (k : K (.bool (decide (a ≤ b))) w) : LiftP P (binS .leq t x y (.int kd a) (.int kd b)) K w := ofPR (pr_leq ) k
theorem yi_leq {t : TypeId} {x y : Operand} {kd : IntKind} {a b : Int}  (k : K (.bool (decide (a ≤ b))) w) : YieldP P S (binS .leq t x y (.int kd a) (.int kd b)) K w := yofPR (pr_leq ) k
theorem pr_gtr {t : TypeId} {x y : Operand} {kd : IntKind} {a b : Int}  : PR P (binS .gtr t x y (.int kd a) (.int kd b)) (.bool (decide (b < a))) := by intro w; simp only [binS, go_sem, Sem.run_bind, Sem.run_pure, Result.andThen_ok] <;> rfl
theorem bi_gtr {t : TypeId} {x y : Operand} {kd : IntKind} {a b : Int}  (k : K (.bool (decide (b < a))) w) : LiftP P (binS .gtr t x y (.int kd a) (.int kd b)) K w := ofPR (pr_gtr ) k
theorem yi_gtr {t : TypeId} {x y : Operand} {kd : IntKind} {a b : Int}  (k : K (.bool (decide (b < a))) w) : YieldP P S (binS .gtr t x y (.int kd a) (.int kd b)) K w := yofPR (pr_gtr ) k
theorem pr_geq {t : TypeId} {x y : Operand} {kd : IntKind} {a b : Int}  : PR P (binS .geq t x y (.int kd a) (.int kd b)) (.bool (decide (b ≤ a))) := by intro w; simp only [binS, go_sem, Sem.run_bind, Sem.run_pure, Result.andThen_ok] <;> rfl
theorem bi_geq {t : TypeId} {x y : Operand} {kd : IntKind} {a b : Int}  (k : K (.bool (decide (b ≤ a))) w) : LiftP P (binS .geq t x y (.int kd a) (.int kd b)) K w := ofPR (pr_geq ) k
theorem yi_geq {t : TypeId} {x y : Operand} {kd : IntKind} {a b : Int}  (k : K (.bool (decide (b ≤ a))) w) : YieldP P S (binS .geq t x y (.int kd a) (.int kd b)) K w := yofPR (pr_geq ) k
theorem pr_seql {t : TypeId} {x y : Operand} {a b : ByteArray}  : PR P (binS .eql t x y (.string a) (.string b)) (.bool (decide (a.data.toList = b.data.toList))) := by intro w; rw [← ByteArray.toList_eq, ← ByteArray.toList_eq, show (.bool (decide (a.toList = b.toList)) : Value) = .bool (a.toList == b.toList) from by by_cases h : a.toList = b.toList <;> simp [h]]; simp only [binS, go_sem, Sem.run_bind, Sem.run_pure, Result.andThen_ok] <;> rfl
theorem bi_seql {t : TypeId} {x y : Operand} {a b : ByteArray}  (k : K (.bool (decide (a.data.toList = b.data.toList))) w) : LiftP P (binS .eql t x y (.string a) (.string b)) K w := ofPR (pr_seql ) k
theorem pr_sneq {t : TypeId} {x y : Operand} {a b : ByteArray}  : PR P (binS .neq t x y (.string a) (.string b)) (.bool (decide (a.data.toList ≠ b.data.toList))) := by intro w; rw [← ByteArray.toList_eq, ← ByteArray.toList_eq, show (.bool (decide (a.toList ≠ b.toList)) : Value) = .bool (!(a.toList == b.toList)) from by by_cases h : a.toList = b.toList <;> simp [h]]; simp [binS, eqGuard_at_string, binOp, Op.stringOp]
theorem bi_sneq {t : TypeId} {x y : Operand} {a b : ByteArray}  (k : K (.bool (decide (a.data.toList ≠ b.data.toList))) w) : LiftP P (binS .neq t x y (.string a) (.string b)) K w := ofPR (pr_sneq ) k
theorem pr_beql {t : TypeId} {x y : Operand} {a b : Bool} (ht : P.underlying t = some .bool) : PR P (binS .eql t x y (.bool a) (.bool b)) (.bool (decide (a = b))) := by intro w; rw [show decide (a = b) = (a == b) from by cases a <;> cases b <;> rfl]; simp only [binS, eqGuard_at_bool, Sem.run_bind, Sem.run_pure, Result.andThen_ok]; exact run_eql_bool _ _ _ _ ht
theorem bi_beql {t : TypeId} {x y : Operand} {a b : Bool} (ht : P.underlying t = some .bool) (k : K (.bool (decide (a = b))) w) : LiftP P (binS .eql t x y (.bool a) (.bool b)) K w := ofPR (pr_beql ht) k
theorem pr_bneq {t : TypeId} {x y : Operand} {a b : Bool} (ht : P.underlying t = some .bool) : PR P (binS .neq t x y (.bool a) (.bool b)) (.bool (decide (a ≠ b))) := by intro w; rw [show decide (a ≠ b) = (a != b) from by cases a <;> cases b <;> rfl]; simp only [binS, eqGuard_at_bool, Sem.run_bind, Sem.run_pure, Result.andThen_ok]; exact run_neq_bool _ _ _ _ ht
theorem yi_bneq {t : TypeId} {x y : Operand} {a b : Bool} (ht : P.underlying t = some .bool) (k : K (.bool (decide (a ≠ b))) w) : YieldP P S (binS .neq t x y (.bool a) (.bool b)) K w := yofPR (pr_bneq ht) k
theorem pr_T   : PR P (Op.unary .not (.bool true)) (.bool false) := fun w => rfl
theorem bi_T   (k : K (.bool false) w) : LiftP P (Op.unary .not (.bool true)) K w := ofPR (pr_T ) k
theorem yi_T   (k : K (.bool false) w) : YieldP P S (Op.unary .not (.bool true)) K w := yofPR (pr_T ) k
theorem pr_F   : PR P (Op.unary .not (.bool false)) (.bool true) := fun w => rfl
theorem bi_F   (k : K (.bool true) w) : LiftP P (Op.unary .not (.bool false)) K w := ofPR (pr_F ) k
theorem yi_F   (k : K (.bool true) w) : YieldP P S (Op.unary .not (.bool false)) K w := yofPR (pr_F ) k
theorem pr_not {b : Bool}  : PR P (Op.unary .not (.bool b)) (.bool (!b)) := fun w => rfl
theorem bi_not {b : Bool}  (k : K (.bool (!b)) w) : LiftP P (Op.unary .not (.bool b)) K w := ofPR (pr_not ) k
theorem yi_not {b : Bool}  (k : K (.bool (!b)) w) : YieldP P S (Op.unary .not (.bool b)) K w := yofPR (pr_not ) k
theorem pr_neg {kd : IntKind} {a : Int}  : PR P (Op.unary .neg (.int kd a)) (.int kd (kd.wrap (0 - a))) := fun w => rfl
theorem bi_neg {kd : IntKind} {a : Int}  (k : K (.int kd (kd.wrap (0 - a))) w) : LiftP P (Op.unary .neg (.int kd a)) K w := ofPR (pr_neg ) k
theorem yi_neg {kd : IntKind} {a : Int}  (k : K (.int kd (kd.wrap (0 - a))) w) : YieldP P S (Op.unary .neg (.int kd a)) K w := yofPR (pr_neg ) k
theorem pr_un_xor32 {a : Int}  : PR P (Op.unary .xor (.int .u32 a)) (.int .u32 (bits .xor .u32 4294967295 a)) := fun w => rfl
theorem bi_un_xor32 {a : Int}  (k : K (.int .u32 (bits .xor .u32 4294967295 a)) w) : LiftP P (Op.unary .xor (.int .u32 a)) K w := ofPR (pr_un_xor32 ) k
theorem yi_un_xor32 {a : Int}  (k : K (.int .u32 (bits .xor .u32 4294967295 a)) w) : YieldP P S (Op.unary .xor (.int .u32 a)) K w := yofPR (pr_un_xor32 ) k
theorem pr_xt {vs : Array Value} {i : Nat} {v : Value} (h : vs[i]? = some v) : PR P (Instr.extract (.tuple vs) i) (v) := by intro w; simp [Instr.extract, h]
theorem pr_xt0 {a : Value} {r : List Value}  : PR P (Instr.extract (.tuple (a :: r).toArray) 0) (a) := pr_xt (by simp)
theorem bi_xt0 {a : Value} {r : List Value}  (k : K (a) w) : LiftP P (Instr.extract (.tuple (a :: r).toArray) 0) K w := ofPR (pr_xt0 ) k
theorem yi_xt0 {a : Value} {r : List Value}  (k : K (a) w) : YieldP P S (Instr.extract (.tuple (a :: r).toArray) 0) K w := yofPR (pr_xt0 ) k
theorem pr_xt1 {a b : Value} {r : List Value}  : PR P (Instr.extract (.tuple (a :: b :: r).toArray) 1) (b) := pr_xt (by simp)
theorem bi_xt1 {a b : Value} {r : List Value}  (k : K (b) w) : LiftP P (Instr.extract (.tuple (a :: b :: r).toArray) 1) K w := ofPR (pr_xt1 ) k
theorem yi_xt1 {a b : Value} {r : List Value}  (k : K (b) w) : YieldP P S (Instr.extract (.tuple (a :: b :: r).toArray) 1) K w := yofPR (pr_xt1 ) k
theorem pr_xt2 {a b c : Value} {r : List Value}  : PR P (Instr.extract (.tuple (a :: b :: c :: r).toArray) 2) (c) := pr_xt (by simp)
theorem bi_xt2 {a b c : Value} {r : List Value}  (k : K (c) w) : LiftP P (Instr.extract (.tuple (a :: b :: c :: r).toArray) 2) K w := ofPR (pr_xt2 ) k
theorem yi_xt2 {a b c : Value} {r : List Value}  (k : K (c) w) : YieldP P S (Instr.extract (.tuple (a :: b :: c :: r).toArray) 2) K w := yofPR (pr_xt2 ) k
theorem pr_xt3 {a b c d : Value} {r : List Value}  : PR P (Instr.extract (.tuple (a :: b :: c :: d :: r).toArray) 3) (d) := pr_xt (by simp)
theorem bi_xt3 {a b c d : Value} {r : List Value}  (k : K (d) w) : LiftP P (Instr.extract (.tuple (a :: b :: c :: d :: r).toArray) 3) K w := ofPR (pr_xt3 ) k
theorem yi_xt3 {a b c d : Value} {r : List Value}  (k : K (d) w) : YieldP P S (Instr.extract (.tuple (a :: b :: c :: d :: r).toArray) 3) K w := yofPR (pr_xt3 ) k
theorem bi_eql_t {t : TypeId} {x y : Operand} {kd : IntKind} {a b : Int} (h : a = b) (k : K (.bool true) w) : LiftP P (binS .eql t x y (.int kd a) (.int kd b)) K w := bi_eql (by rw [decide_eq_true h]; exact k)
theorem bi_eql_f {t : TypeId} {x y : Operand} {kd : IntKind} {a b : Int} (h : ¬ a = b) (k : K (.bool false) w) : LiftP P (binS .eql t x y (.int kd a) (.int kd b)) K w := bi_eql (by rw [decide_eq_false h]; exact k)
theorem bi_eql_c {t : TypeId} {x y : Operand} {kd : IntKind} {a b : Int} (h1 : a = b → K (.bool true) w) (h0 : ¬ a = b → K (.bool false) w) : LiftP P (binS .eql t x y (.int kd a) (.int kd b)) K w := by
  by_cases h : a = b
  · exact bi_eql_t h (h1 h)
  · exact bi_eql_f h (h0 h)
theorem yi_eql_t {t : TypeId} {x y : Operand} {kd : IntKind} {a b : Int} (h : a = b) (k : K (.bool true) w) : YieldP P S (binS .eql t x y (.int kd a) (.int kd b)) K w := yi_eql (by rw [decide_eq_true h]; exact k)
theorem yi_eql_f {t : TypeId} {x y : Operand} {kd : IntKind} {a b : Int} (h : ¬ a = b) (k : K (.bool false) w) : YieldP P S (binS .eql t x y (.int kd a) (.int kd b)) K w := yi_eql (by rw [decide_eq_false h]; exact k)
theorem yi_eql_c {t : TypeId} {x y : Operand} {kd : IntKind} {a b : Int} (h1 : a = b → K (.bool true) w) (h0 : ¬ a = b → K (.bool false) w) : YieldP P S (binS .eql t x y (.int kd a) (.int kd b)) K w := by
  by_cases h : a = b
  · exact yi_eql_t h (h1 h)
  · exact yi_eql_f h (h0 h)
theorem bi_neq_t {t : TypeId} {x y : Operand} {kd : IntKind} {a b : Int} (h : a ≠ b) (k : K (.bool true) w) : LiftP P (binS .neq t x y (.int kd a) (.int kd b)) K w := bi_neq (by rw [decide_eq_true h]; exact k)
theorem bi_neq_f {t : TypeId} {x y : Operand} {kd : IntKind} {a b : Int} (h : a = b) (k : K (.bool false) w) : LiftP P (binS .neq t x y (.int kd a) (.int kd b)) K w := bi_neq (by rw [decide_eq_false (fun h' => h' h)]; exact k)
theorem bi_neq_c {t : TypeId} {x y : Operand} {kd : IntKind} {a b : Int} (h1 : a ≠ b → K (.bool true) w) (h0 : a = b → K (.bool false) w) : LiftP P (binS .neq t x y (.int kd a) (.int kd b)) K w := by
  by_cases h : a ≠ b
  · exact bi_neq_t h (h1 h)
  · exact bi_neq_f (Classical.not_not.1 h) (h0 (Classical.not_not.1 h))
theorem yi_neq_t {t : TypeId} {x y : Operand} {kd : IntKind} {a b : Int} (h : a ≠ b) (k : K (.bool true) w) : YieldP P S (binS .neq t x y (.int kd a) (.int kd b)) K w := yi_neq (by rw [decide_eq_true h]; exact k)
theorem yi_neq_f {t : TypeId} {x y : Operand} {kd : IntKind} {a b : Int} (h : a = b) (k : K (.bool false) w) : YieldP P S (binS .neq t x y (.int kd a) (.int kd b)) K w := yi_neq (by rw [decide_eq_false (fun h' => h' h)]; exact k)
theorem yi_neq_c {t : TypeId} {x y : Operand} {kd : IntKind} {a b : Int} (h1 : a ≠ b → K (.bool true) w) (h0 : a = b → K (.bool false) w) : YieldP P S (binS .neq t x y (.int kd a) (.int kd b)) K w := by
  by_cases h : a ≠ b
  · exact yi_neq_t h (h1 h)
  · exact yi_neq_f (Classical.not_not.1 h) (h0 (Classical.not_not.1 h))
theorem bi_lss_t {t : TypeId} {x y : Operand} {kd : IntKind} {a b : Int} (h : a < b) (k : K (.bool true) w) : LiftP P (binS .lss t x y (.int kd a) (.int kd b)) K w := bi_lss (by rw [decide_eq_true h]; exact k)
theorem bi_lss_f {t : TypeId} {x y : Operand} {kd : IntKind} {a b : Int} (h : ¬ a < b) (k : K (.bool false) w) : LiftP P (binS .lss t x y (.int kd a) (.int kd b)) K w := bi_lss (by rw [decide_eq_false h]; exact k)
theorem bi_lss_c {t : TypeId} {x y : Operand} {kd : IntKind} {a b : Int} (h1 : a < b → K (.bool true) w) (h0 : ¬ a < b → K (.bool false) w) : LiftP P (binS .lss t x y (.int kd a) (.int kd b)) K w := by
  by_cases h : a < b
  · exact bi_lss_t h (h1 h)
  · exact bi_lss_f h (h0 h)
theorem yi_lss_t {t : TypeId} {x y : Operand} {kd : IntKind} {a b : Int} (h : a < b) (k : K (.bool true) w) : YieldP P S (binS .lss t x y (.int kd a) (.int kd b)) K w := yi_lss (by rw [decide_eq_true h]; exact k)
theorem yi_lss_f {t : TypeId} {x y : Operand} {kd : IntKind} {a b : Int} (h : ¬ a < b) (k : K (.bool false) w) : YieldP P S (binS .lss t x y (.int kd a) (.int kd b)) K w := yi_lss (by rw [decide_eq_false h]; exact k)
theorem yi_lss_c {t : TypeId} {x y : Operand} {kd : IntKind} {a b : Int} (h1 : a < b → K (.bool true) w) (h0 : ¬ a < b → K (.bool false) w) : YieldP P S (binS .lss t x y (.int kd a) (.int kd b)) K w := by
  by_cases h : a < b
  · exact yi_lss_t h (h1 h)
  · exact yi_lss_f h (h0 h)
theorem bi_leq_t {t : TypeId} {x y : Operand} {kd : IntKind} {a b : Int} (h : a ≤ b) (k : K (.bool true) w) : LiftP P (binS .leq t x y (.int kd a) (.int kd b)) K w := bi_leq (by rw [decide_eq_true h]; exact k)
theorem bi_leq_f {t : TypeId} {x y : Operand} {kd : IntKind} {a b : Int} (h : ¬ a ≤ b) (k : K (.bool false) w) : LiftP P (binS .leq t x y (.int kd a) (.int kd b)) K w := bi_leq (by rw [decide_eq_false h]; exact k)
theorem bi_leq_c {t : TypeId} {x y : Operand} {kd : IntKind} {a b : Int} (h1 : a ≤ b → K (.bool true) w) (h0 : ¬ a ≤ b → K (.bool false) w) : LiftP P (binS .leq t x y (.int kd a) (.int kd b)) K w := by
  by_cases h : a ≤ b
  · exact bi_leq_t h (h1 h)
  · exact bi_leq_f h (h0 h)
theorem yi_leq_t {t : TypeId} {x y : Operand} {kd : IntKind} {a b : Int} (h : a ≤ b) (k : K (.bool true) w) : YieldP P S (binS .leq t x y (.int kd a) (.int kd b)) K w := yi_leq (by rw [decide_eq_true h]; exact k)
theorem yi_leq_f {t : TypeId} {x y : Operand} {kd : IntKind} {a b : Int} (h : ¬ a ≤ b) (k : K (.bool false) w) : YieldP P S (binS .leq t x y (.int kd a) (.int kd b)) K w := yi_leq (by rw [decide_eq_false h]; exact k)
theorem bi_gtr_t {t : TypeId} {x y : Operand} {kd : IntKind} {a b : Int} (h : b < a) (k : K (.bool true) w) : LiftP P (binS .gtr t x y (.int kd a) (.int kd b)) K w := bi_gtr (by rw [decide_eq_true h]; exact k)
theorem bi_gtr_f {t : TypeId} {x y : Operand} {kd : IntKind} {a b : Int} (h : ¬ b < a) (k : K (.bool false) w) : LiftP P (binS .gtr t x y (.int kd a) (.int kd b)) K w := bi_gtr (by rw [decide_eq_false h]; exact k)
theorem bi_gtr_c {t : TypeId} {x y : Operand} {kd : IntKind} {a b : Int} (h1 : b < a → K (.bool true) w) (h0 : ¬ b < a → K (.bool false) w) : LiftP P (binS .gtr t x y (.int kd a) (.int kd b)) K w := by
  by_cases h : b < a
  · exact bi_gtr_t h (h1 h)
  · exact bi_gtr_f h (h0 h)
theorem yi_gtr_t {t : TypeId} {x y : Operand} {kd : IntKind} {a b : Int} (h : b < a) (k : K (.bool true) w) : YieldP P S (binS .gtr t x y (.int kd a) (.int kd b)) K w := yi_gtr (by rw [decide_eq_true h]; exact k)
theorem yi_gtr_f {t : TypeId} {x y : Operand} {kd : IntKind} {a b : Int} (h : ¬ b < a) (k : K (.bool false) w) : YieldP P S (binS .gtr t x y (.int kd a) (.int kd b)) K w := yi_gtr (by rw [decide_eq_false h]; exact k)
theorem yi_gtr_c {t : TypeId} {x y : Operand} {kd : IntKind} {a b : Int} (h1 : b < a → K (.bool true) w) (h0 : ¬ b < a → K (.bool false) w) : YieldP P S (binS .gtr t x y (.int kd a) (.int kd b)) K w := by
  by_cases h : b < a
  · exact yi_gtr_t h (h1 h)
  · exact yi_gtr_f h (h0 h)
theorem bi_geq_t {t : TypeId} {x y : Operand} {kd : IntKind} {a b : Int} (h : b ≤ a) (k : K (.bool true) w) : LiftP P (binS .geq t x y (.int kd a) (.int kd b)) K w := bi_geq (by rw [decide_eq_true h]; exact k)
theorem bi_geq_f {t : TypeId} {x y : Operand} {kd : IntKind} {a b : Int} (h : ¬ b ≤ a) (k : K (.bool false) w) : LiftP P (binS .geq t x y (.int kd a) (.int kd b)) K w := bi_geq (by rw [decide_eq_false h]; exact k)
theorem bi_geq_c {t : TypeId} {x y : Operand} {kd : IntKind} {a b : Int} (h1 : b ≤ a → K (.bool true) w) (h0 : ¬ b ≤ a → K (.bool false) w) : LiftP P (binS .geq t x y (.int kd a) (.int kd b)) K w := by
  by_cases h : b ≤ a
  · exact bi_geq_t h (h1 h)
  · exact bi_geq_f h (h0 h)
theorem yi_geq_t {t : TypeId} {x y : Operand} {kd : IntKind} {a b : Int} (h : b ≤ a) (k : K (.bool true) w) : YieldP P S (binS .geq t x y (.int kd a) (.int kd b)) K w := yi_geq (by rw [decide_eq_true h]; exact k)
theorem yi_geq_f {t : TypeId} {x y : Operand} {kd : IntKind} {a b : Int} (h : ¬ b ≤ a) (k : K (.bool false) w) : YieldP P S (binS .geq t x y (.int kd a) (.int kd b)) K w := yi_geq (by rw [decide_eq_false h]; exact k)
theorem bi_seql_t {t : TypeId} {x y : Operand} {a b : ByteArray} (h : a.data.toList = b.data.toList) (k : K (.bool true) w) : LiftP P (binS .eql t x y (.string a) (.string b)) K w := bi_seql (by rw [decide_eq_true h]; exact k)
theorem bi_seql_f {t : TypeId} {x y : Operand} {a b : ByteArray} (h : ¬ a.data.toList = b.data.toList) (k : K (.bool false) w) : LiftP P (binS .eql t x y (.string a) (.string b)) K w := bi_seql (by rw [decide_eq_false h]; exact k)
theorem bi_seql_c {t : TypeId} {x y : Operand} {a b : ByteArray} (h1 : a.data.toList = b.data.toList → K (.bool true) w) (h0 : ¬ a.data.toList = b.data.toList → K (.bool false) w) : LiftP P (binS .eql t x y (.string a) (.string b)) K w := by
  by_cases h : a.data.toList = b.data.toList
  · exact bi_seql_t h (h1 h)
  · exact bi_seql_f h (h0 h)
theorem bi_sneq_t {t : TypeId} {x y : Operand} {a b : ByteArray} (h : a.data.toList ≠ b.data.toList) (k : K (.bool true) w) : LiftP P (binS .neq t x y (.string a) (.string b)) K w := bi_sneq (by rw [decide_eq_true h]; exact k)
theorem bi_sneq_f {t : TypeId} {x y : Operand} {a b : ByteArray} (h : a.data.toList = b.data.toList) (k : K (.bool false) w) : LiftP P (binS .neq t x y (.string a) (.string b)) K w := bi_sneq (by rw [decide_eq_false (fun h' => h' h)]; exact k)
theorem bi_sneq_c {t : TypeId} {x y : Operand} {a b : ByteArray} (h1 : a.data.toList ≠ b.data.toList → K (.bool true) w) (h0 : a.data.toList = b.data.toList → K (.bool false) w) : LiftP P (binS .neq t x y (.string a) (.string b)) K w := by
  by_cases h : a.data.toList ≠ b.data.toList
  · exact bi_sneq_t h (h1 h)
  · exact bi_sneq_f (Classical.not_not.1 h) (h0 (Classical.not_not.1 h))
end
-- RULES END
section
variable {P : Program} {K : Value → World → Prop} {S : World → Prop} {w : World}
theorem nck {a : Addr} (k : K (.pointer (some a)) w) : NextP P (nilChk (.pointer (some a))) K w := ⟨k⟩
theorem ynck {a : Addr} (k : K (.pointer (some a)) w) : YieldN P S (nilChk (.pointer (some a))) K w := ⟨⟨_, fun _ _ => rfl, k⟩⟩
theorem act {X : (Value → World → Prop) → World → Prop} {K : (World → Prop) → Value → World → Prop} (h : X (fun v w' => ∃ S' : World → Prop, S' w' ∧ (∀ w, S' w → S w) ∧ K S' v w') w) : ActP S X K w := ⟨h⟩
theorem gaY {b : Bool} {X : (Value → World → Prop) → World → Prop} {K : (World → Prop) → Value → World → Prop} (k : ActP S X K w) : GuardA (.bool b) b S X K w := ⟨fun _ => k, fun hn => absurd rfl hn⟩
theorem gaN {v : Value} {b : Bool} (hv : v ≠ .bool b) {X : (Value → World → Prop) → World → Prop} {K : (World → Prop) → Value → World → Prop} (k : K S undef w) : GuardA v b S X K w := ⟨fun he => absurd he hv, fun _ => k⟩
theorem gaFT {X : (Value → World → Prop) → World → Prop} {K : (World → Prop) → Value → World → Prop} (k : K S undef w) : GuardA (.bool false) true S X K w := gaN (by simp) k
theorem gaTF {X : (Value → World → Prop) → World → Prop} {K : (World → Prop) → Value → World → Prop} (k : K S undef w) : GuardA (.bool true) false S X K w := gaN (by simp) k
theorem yld {m : Sem Value} {v : Value} (h : ∀ w', S w' → m.run P w' = .ok v w') (k : K v w) : YieldP P S m K w := ⟨⟨v, h, k⟩⟩
theorem yldN {m : Sem Next} {v : Value} (h : ∀ w', S w' → m.run P w' = .ok (.value v) w') (k : K v w) : YieldN P S m K w := ⟨⟨v, h, k⟩⟩
theorem draw {X : (World → Prop) → World → Prop} (S : World → Prop) (h : S w.drew) (k : X S w.drew) : DrawP X w := ⟨⟨S, h, k⟩⟩
theorem pick {b : Bool} {x y : Value} (k : K (if b then x else y) w) : PickP (.bool b) x y K w := ⟨⟨b, rfl, k⟩⟩
theorem pickT {x y : Value} (k : K x w) : PickP (.bool true) x y K w := ⟨⟨true, rfl, k⟩⟩
theorem pickF {x y : Value} (k : K y w) : PickP (.bool false) x y K w := ⟨⟨false, rfl, k⟩⟩
theorem gdY {b : Bool} {X : (Value → World → Prop) → World → Prop} (k : X K w) : GuardP (.bool b) b X K w := ⟨fun _ => k, fun hn => absurd rfl hn⟩
theorem gdN {v : Value} {b : Bool} (hv : v ≠ .bool b) {X : (Value → World → Prop) → World → Prop} (k : K undef w) : GuardP v b X K w := ⟨fun he => absurd he hv, fun _ => k⟩
theorem gdFT {X : (Value → World → Prop) → World → Prop} (k : K undef w) : GuardP (.bool false) true X K w := gdN (by simp) k
theorem gdTF {X : (Value → World → Prop) → World → Prop} (k : K undef w) : GuardP (.bool true) false X K w := gdN (by simp) k
theorem gdU {b : Bool} {X : (Value → World → Prop) → World → Prop} (k : K undef w) : GuardP undef b X K w := gdN (by simp [undef]) k
theorem cdT {X Y : World → Prop} (k : X w) : CondP (.bool true) X Y w := ⟨⟨true, rfl, fun _ => k, fun e => by cases e⟩⟩
theorem cdF {X Y : World → Prop} (k : Y w) : CondP (.bool false) X Y w := ⟨⟨false, rfl, fun e => (by cases e), fun _ => k⟩⟩
end

theorem CallP.mono {P : Program} {f : FuncId} {as : Array Value} {K K' : Value → World → Prop} {w : World} (h : CallP P f as K w) (hk : ∀ v w', K v w' → K' v w') : CallP P f as K' w :=
  ⟨h.out.mono fun _ _ ⟨v, he, hv⟩ => ⟨v, he, hk _ _ hv⟩⟩
theorem CondP.dec {p : Prop} [Decidable p] {X Y : World → Prop} {w : World} (h1 : p → X w) (h2 : ¬ p → Y w) : CondP (.bool (decide p)) X Y w :=
  ⟨_, rfl, fun h => h1 (of_decide_eq_true h), fun h => h2 (of_decide_eq_false h)⟩
theorem CondP.yes {v : Value} {X Y : World → Prop} {w : World} (hv : v = .bool true) (h : X w) : CondP v X Y w := ⟨true, hv, fun _ => h, fun e => by cases e⟩
theorem CondP.no_ {v : Value} {X Y : World → Prop} {w : World} (hv : v = .bool false) (h : Y w) : CondP v X Y w := ⟨false, hv, fun e => (by cases e), fun _ => h⟩
theorem JoinP.plain {X : (List Value → World → Prop) → World → Prop} {Y : List Value → World → Prop} {w : World} (h : X Y w) : JoinP X Y w := ⟨h⟩
/-- Cut at a join: what is known there. -/
theorem JoinP.cut {X : (List Value → World → Prop) → World → Prop} {Y : List Value → World → Prop} {w : World} (I : List Value → World → Prop)
    (hX : ∀ J : List Value → World → Prop, (∀ vs w', I vs w' → J vs w') → X J w) (hY : ∀ vs w', I vs w' → Y vs w') : JoinP X Y w := ⟨hX Y hY⟩
theorem GuardP.both {v : Value} {b : Bool} {X : (Value → World → Prop) → World → Prop} {K : Value → World → Prop} {w : World} (h1 : v = .bool b → X K w) (h2 : v ≠ .bool b → K undef w) : GuardP v b X K w := ⟨h1, h2⟩
theorem LoopP.inv0 {body : (List Value → World → Prop) → List Value → World → Prop} {w : World} (I : World → Prop) (μ : World → Nat) (h0 : I w)
    (hr : ∀ w', I w' → ∀ J : List Value → World → Prop, (∀ w'', I w'' → μ w'' < μ w' → J [] w'') → body J [] w') : LoopP body [] w :=
  ⟨fun vs w' => vs = [] ∧ I w', fun _ w' => μ w', ⟨rfl, h0⟩, fun vs w' ⟨e, h⟩ => by
    subst e
    exact hr w' h _ fun w'' h1 h2 => ⟨⟨rfl, h1⟩, h2⟩⟩
theorem LoopP.inv1 {body : (List Value → World → Prop) → List Value → World → Prop} {a : Value} {w : World} (I : Value → World → Prop) (μ : Value → World → Nat) (h0 : I a w)
    (hr : ∀ x w', I x w' → ∀ J : List Value → World → Prop, (∀ y w'', I y w'' → μ y w'' < μ x w' → J [y] w'') → body J [x] w') : LoopP body [a] w :=
  ⟨fun vs w' => ∃ x, vs = [x] ∧ I x w', fun vs w' => μ (vs.headD undef) w', ⟨a, rfl, h0⟩, fun vs w' ⟨x, e, h⟩ => by
    subst e
    exact hr x w' h _ fun y w'' h1 h2 => ⟨⟨y, rfl, h1⟩, h2⟩⟩
theorem LoopP.inv2 {body : (List Value → World → Prop) → List Value → World → Prop} {a b : Value} {w : World} (I : Value → Value → World → Prop) (μ : Value → Value → World → Nat) (h0 : I a b w)
    (hr : ∀ x1 x2 w', I x1 x2 w' → ∀ J : List Value → World → Prop, (∀ y1 y2 w'', I y1 y2 w'' → μ y1 y2 w'' < μ x1 x2 w' → J [y1, y2] w'') → body J [x1, x2] w') : LoopP body [a, b] w :=
  ⟨fun vs w' => ∃ x1 x2, vs = [x1, x2] ∧ I x1 x2 w', fun vs w' => μ (vs.headD undef) (vs.tail.headD undef) w', ⟨a, b, rfl, h0⟩, fun vs w' ⟨x1, x2, e, h⟩ => by
    subst e
    exact hr x1 x2 w' h _ fun y1 y2 w'' h1 h2 => ⟨⟨y1, y2, rfl, h1⟩, h2⟩⟩
end Go.Proofs.YtmnaggdhkggjhaaGreatDoor.E
namespace Go.Proofs.YtmnaggdhkggjhaaGreatDoor.E
open Go Go.RowKit

def Blk (w : World) (g : Nat) (t : TypeId) (cs : Array Value) : Prop := w.heap[g]? = some (.cells cs t (0, 0))
section
variable {w w' : World} {g : Nat} {t : TypeId} {cs : Array Value}
theorem Blk.lt (h : Blk w g t cs) : g < w.heap.size := (Array.getElem?_eq_some_iff.1 h).1
theorem Blk.cell (h : Blk w g t cs) (i : Nat) : w.cell? ⟨g, i, none⟩ = cs[i]? := cell_of_row w g i cs t (0, 0) h
theorem Blk.frozen (h : Blk w g t cs) (i : Nat) : w.frozen? ⟨g, i, none⟩ = false := by
  unfold Blk at h
  simp [World.frozen?, h]
theorem Blk.new (w : World) (t : TypeId) (cs : Array Value) : Blk (w.alloc (.cells cs t)) w.heap.size t cs := heap_alloc_new w _
theorem Blk.alloc (h : Blk w g t cs) (o : Obj) : Blk (w.alloc o) g t cs := (Below.heap_alloc w o g h.lt).trans h
theorem Blk.set_ (h : Blk w g t cs) (i : Nat) (u : Value) : Blk (w.setCell ⟨g, i, none⟩ u) g t (cs.setIfInBounds i u) := by
  unfold Blk at h ⊢
  simp [World.setCell, Array.getElem?_modify, h]
theorem Blk.below {B : Nat} (h : Blk w g t cs) (hb : Below B w w') (hg : g < B) : Blk w' g t cs := (hb.block g hg).trans h
theorem Blk.below' (h : Blk w g t cs) (hb : Below w.heap.size w w') : Blk w' g t cs := h.below hb h.lt
end

theorem below_then {W w w' : World} (h : Below W.heap.size W w) (k : Below w.heap.size w w') : Below W.heap.size W w' := h.trans (k.mono h.size)
def Rd (w : World) (v : Value) (cs : List Value) : Prop :=
  ∃ A c, v = .slice A cs.length c ∧ cs.length ≤ c ∧ c ≤ 9223372036854775807 ∧ ∀ i u, cs[i]? = some u → ∃ a, A = some a ∧ w.cell? (a.add i) = some u
theorem Rd.below {w w' : World} {v : Value} {cs : List Value} (h : Rd w v cs) (hb : Below w.heap.size w w') : Rd w' v cs := by
  obtain ⟨A, c, rfl, h1, h2, h3⟩ := h
  refine ⟨A, c, rfl, h1, h2, fun i u hu => ?_⟩
  obtain ⟨a, ha, hc⟩ := h3 i u hu
  exact ⟨a, ha, (hb.cell (World.block_lt_of_cell? w _ hc)).trans hc⟩
def u8 (b : UInt8) : Value := .int .u8 (b.toNat : Int)
/-- A []byte that reads as bs. -/
def RdB (w : World) (v : Value) (bs : List UInt8) : Prop := Rd w v (bs.map u8)
theorem RdB.below {w w' : World} {v : Value} {bs : List UInt8} (h : RdB w v bs) (hb : Below w.heap.size w w') : RdB w' v bs := Rd.below h hb
theorem RdB.slice {w : World} {v : Value} {bs : List UInt8} (h : RdB w v bs) : ∃ A c, v = .slice A bs.length c ∧ bs.length ≤ c ∧ c ≤ 9223372036854775807 ∧
    ∀ i (hi : i < bs.length), ∃ a, A = some a ∧ w.cell? (a.add i) = some (.int .u8 (bs[i].toNat : Int)) := by
  obtain ⟨A, c, rfl, h1, h2, h3⟩ := h
  simp only [List.length_map] at h1 ⊢
  exact ⟨A, c, rfl, h1, h2, fun i hi => h3 i _ (by rw [List.getElem?_map, List.getElem?_eq_getElem hi]; rfl)⟩

section
variable {P : Program} {K : Value → World → Prop} {w : World}
/-- a variable of type t, at its zero value z -/
theorem al {t : TypeId} {z : Value} (hz : (P.info? t).bind (·.zero) = some z) (k : K (.pointer (some ⟨w.heap.size, 0, none⟩)) (w.alloc (.cells z.cells t))) : LiftP P (Instr.alloc t true (.tuple #[])) K w := by
  obtain ⟨i, hi, hz⟩ := Option.bind_eq_some_iff.1 hz
  refine lift (v := .pointer (some ⟨w.heap.size, 0, none⟩)) ?_ k
  simp [Instr.alloc, zeroValue, typeInfo, hi, hz, newVar, newRow]
theorem bx {t : TypeId} {v : Value} (k : K (.pointer (some ⟨w.heap.size, 0, none⟩)) (w.alloc (.cells v.cells t))) : LiftP P (Instr.box t v) K w :=
  lift (by simp [Instr.box, newVar, newRow]) k
def oneB (P : Program) (t : TypeId) : Bool := match P.underlying t with
  | some (.struct _) | some (.array _ _) | none => false
  | _ => true
theorem run_isAgg {t : TypeId} (h : oneB P t = true) (w : World) : (isAgg t).run P w = .ok false w := by
  unfold oneB at h
  unfold isAgg
  cases hu : P.underlying t with
  | none => rw [hu] at h; cases h
  | some d =>
    rw [Sem.run_bind, run_underlying hu]
    rw [hu] at h
    cases d <;> first | rfl | (cases h)
theorem run_load1 {t : TypeId} (h : oneB P t = true) {a : Addr} {v : Value} (hc : w.cell? a = some v) : (Instr.loadAt t (.pointer (some a))).run P w = .ok v w := by
  simp [Instr.loadAt, Instr.sureAddr, loadVar, run_isAgg h, hc]
theorem ld {t : TypeId} (h : oneB P t = true) {a : Addr} {v : Value} (hc : w.cell? a = some v) (k : K v w) : LiftP P (Instr.loadAt t (.pointer (some a))) K w := lift (run_load1 h hc) k
theorem run_store1 {t : TypeId} (h : (P.info? t).map (·.size) = some 1) {a : Addr} {v : Value} (h1 : v.oneCell' = true) (hc : (w.cell? a).isSome = true) (hf : w.frozen? a = false) : (Instr.storeAt t (.pointer (some a)) v).run P w = .ok () (w.setCell a v) := by
  obtain ⟨i, hi, hs⟩ := Option.map_eq_some_iff.1 h
  obtain ⟨u, hu⟩ := Option.isSome_iff_exists.1 hc
  have hcs : v.cells = #[v] := by cases v <;> first | rfl | (cases h1)
  simp only [Instr.storeAt, Instr.sureAddr, storeVar, sizeOf, typeInfo, Sem.run_bind, Sem.run_pure, Result.andThen_ok, run_program, hi, hcs, hs]
  simp only [List.size_toArray, List.length_cons, List.length_nil, ne_eq, not_true_eq_false, if_false, storeCells, Addr.add_zero', Sem.run_bind]
  have := run_store P w a v .plain h1
  simp [storeCells, this, stored, hu, hf]
theorem st {t : TypeId} (h : (P.info? t).map (·.size) = some 1) {a : Addr} {v : Value} (h1 : v.oneCell' = true) (hc : (w.cell? a).isSome = true) (hf : w.frozen? a = false) {K : Value → World → Prop} (k : K undef (w.setCell a v)) : LiftU P (Instr.storeAt t (.pointer (some a)) v) K w := liftU (run_store1 h h1 hc hf) k
theorem ix {t e : TypeId} (h : P.underlying t = some (.slice e)) {s : Nat} (hs : (P.info? e).map (·.size) = some s) {a : Addr} {n c : Nat} {kd : IntKind} {i : Int} (h0 : 0 ≤ i) (h1 : i < n)
    (k : K (.pointer (some (a.add (i.toNat * s)))) w) : LiftP P (Instr.indexAt t (.slice (some a) n c) (.int kd i)) K w := by
  obtain ⟨j, hj, hs⟩ := Option.map_eq_some_iff.1 hs
  refine lift ?_ k
  simp [Instr.indexAt, run_underlying h, asIntOf, h0, h1, sizeOf, typeInfo, hj, hs]
theorem ix1 {t e : TypeId} (h : P.underlying t = some (.slice e)) (hs : (P.info? e).map (·.size) = some 1) {a : Addr} {n c : Nat} {kd : IntKind} {i : Nat} (h1 : i < n)
    (k : K (.pointer (some (a.add i))) w) : LiftP P (Instr.indexAt t (.slice (some a) n c) (.int kd i)) K w :=
  ix h hs (by omega) (by omega) (by rw [Nat.mul_one, Int.toNat_natCast]; exact k)
theorem ixA {t e : TypeId} {n : Nat} (h : P.underlying t = some (.array n e)) {s : Nat} (hs : (P.info? e).map (·.size) = some s) {a : Addr} {kd : IntKind} {i : Int} (h0 : 0 ≤ i) (h1 : i < n)
    (k : K (.pointer (some (a.add (i.toNat * s)))) w) : LiftP P (Instr.indexAt t (.pointer (some a)) (.int kd i)) K w := by
  obtain ⟨j, hj, hs⟩ := Option.map_eq_some_iff.1 hs
  refine lift ?_ k
  simp [Instr.indexAt, run_underlying h, asIntOf, h0, h1, sizeOf, typeInfo, hj, hs, Instr.sureAddr]
theorem ixB {t e : TypeId} {n : Nat} (h : P.underlying t = some (.array n e)) (hs : (P.info? e).map (·.size) = some 1) {g : Nat} {kd : IntKind} {i : Nat} (h1 : i < n)
    (k : K (.pointer (some ⟨g, i, none⟩)) w) : LiftP P (Instr.indexAt t (.pointer (some ⟨g, 0, none⟩)) (.int kd i)) K w :=
  ixA h hs (by omega) (by omega) (by rw [Nat.mul_one, Int.toNat_natCast, Addr.add_lit, Nat.zero_add]; exact k)
theorem ln {t ty : TypeId} {e : TypeId} (h : P.underlying t = some (.slice e)) {cs : Array Bool} {A : Option Addr} {n c : Nat} (k : K (.int .i64 n) w) : NextP P (builtin .len #[t] ty cs #[.slice A n c]) K w := by
  refine nextV ?_ k
  simp [builtin, Builtin.len_, run_underlying h, goInt]
theorem cv {s d : TypeId} {ks kd : IntKind} (hs : P.underlying s = some (.int ks)) (hd : P.underlying d = some (.int kd)) {n : Int} (k : K (.int kd (kd.wrap n)) w) : LiftP P (convert s d (.int ks n)) K w := by
  refine lift ?_ k
  simp [convert, run_underlying hs, run_underlying hd, Conv.intToInt]
end
theorem add0 (b o n : Nat) : (⟨b, o, none⟩ : Addr).add n = ⟨b, o + n, none⟩ := Addr.add_lit b o n

end Go.Proofs.YtmnaggdhkggjhaaGreatDoor.E
namespace Go.Proofs.YtmnaggdhkggjhaaGreatDoor.E
open Go Go.RowKit

def Own (e : TypeId) (w : World) (v : Value) (xs : List Value) : Prop := w.ownsRow 0 e 1 v xs.length xs
theorem Own.nil (e : TypeId) (w : World) : Own e w (.slice none 0 0) [] := ⟨by simp, .inl ⟨rfl, rfl⟩⟩
theorem Own.new (w : World) (e : TypeId) (xs : List Value) (h : xs.length ≤ 9223372036854775807) : Own e (w.alloc (.cells xs.toArray e)) (.slice (some ⟨w.heap.size, 0, none⟩) xs.length xs.length) xs :=
  ⟨by simp, .inr ⟨w.heap.size, xs.length, xs.toArray, rfl, Nat.zero_le _, heap_alloc_new w _, Nat.le_refl _, by simp only [maxLen]; omega, by simp, by simp⟩⟩
theorem Own.rd {e : TypeId} {w : World} {v : Value} {xs : List Value} (h : Own e w v xs) : Rd w v xs := by
  rcases h.2 with ⟨rfl, h0⟩ | ⟨g, cap, cur, rfl, _, hh, hn, hm, hs, ht⟩
  · have : xs = [] := List.eq_nil_of_length_eq_zero h0
    subst this
    exact ⟨none, 0, rfl, Nat.le_refl _, by omega, fun i u hu => by simp at hu⟩
  · refine ⟨some ⟨g, 0, none⟩, cap, rfl, hn, by simp only [maxLen] at hm; omega, fun i u hu => ⟨_, rfl, ?_⟩⟩
    exact h.cells (g := g) rfl i u hu
theorem Own.kept {e : TypeId} {w w' : World} {v : Value} {xs : List Value} {row : Option Nat} (h : Own e w v xs) (hg : w.grownBy w' row) (hne : v.ownBlock = none ∨ v.ownBlock ≠ row) : Own e w' v xs := World.ownsRow.kept h hg hne
theorem Own.alloc {e : TypeId} {w : World} {v : Value} {xs : List Value} (h : Own e w v xs) (o : Obj) : Own e (w.alloc o) v xs := World.ownsRow.alloc h o
theorem Own.below {e : TypeId} {w w' : World} {v : Value} {xs : List Value} (h : Own e w v xs) (hb : Below w.heap.size w w') : Own e w' v xs :=
  h.kept (row := none) ⟨hb.os, hb.tape, hb.output, hb.size, fun k hk _ => hb.block k hk⟩ (by cases h : v.ownBlock <;> simp)
theorem Own.lt {e : TypeId} {w : World} {v : Value} {xs : List Value} (h : Own e w v xs) {k : Nat} (hk : v.ownBlock = some k) : k < w.heap.size := (World.ownsRow.lt h k hk).2
/-- Opened: where there is an element. -/
theorem Own.form {e : TypeId} {w : World} {v : Value} {xs : List Value} (h : Own e w v xs) (h0 : 0 < xs.length) : ∃ g cap cur, v = .slice (some ⟨g, 0, none⟩) xs.length cap ∧ Blk w g e cur ∧ xs.length ≤ cap ∧ cur.size = cap ∧ cur.toList.take xs.length = xs ∧ cap ≤ 9223372036854775807 := by
  rcases h.2 with ⟨rfl, hz⟩ | ⟨g, cap, cur, rfl, _, hh, hn, hm, hs, ht⟩
  · omega
  · exact ⟨g, cap, cur, rfl, hh, hn, by omega, by simpa using ht, by simp only [maxLen] at hm; omega⟩
theorem Own.of_blk {e : TypeId} {w : World} {g n cap : Nat} {cur : Array Value} {xs : List Value} (hb : Blk w g e cur) (hn : n = xs.length) (hc : xs.length ≤ cap) (hm : cap ≤ 9223372036854775807) (hs : cur.size = cap) (ht : cur.toList.take xs.length = xs) :
    Own e w (.slice (some ⟨g, 0, none⟩) n cap) xs := by
  subst hn
  exact ⟨by simp, .inr ⟨g, cap, cur, rfl, Nat.zero_le _, hb, hc, by simp only [maxLen]; omega, by omega, by simpa using ht⟩⟩

theorem run_append_of_nil {P : Program} (w : World) (t ty e : TypeId) (i : TypeInfo) (ht : P.underlying t = some (.slice e)) (hi : P.info? e = some i) (v : Value) (xs : List Value) (hown : Own e w v xs) (c : Nat) :
    (Builtin.append_ #[t, t] ty #[v, .slice none 0 c]).run P w = .ok v w := by
  rcases hown.2 with ⟨rfl, _⟩ | ⟨g, cap, cur, rfl, _, _, hnc, _⟩
  · simp [Builtin.append_, run_underlying ht, sizeOf, typeInfo, hi, Builtin.lenOf, Builtin.firstCells]
  · simp [Builtin.append_, run_underlying ht, sizeOf, typeInfo, hi, Builtin.lenOf, Builtin.firstCells, hnc, storeCells]

section
variable {P : Program} {K : Value → World → Prop} {w : World}
/-- append(v, x...), v a row of the call's own, x read. -/
theorem ap {t ty e : TypeId} {cs : Array Bool} {z : Value} {bytes : Nat} (ht : P.underlying t = some (.slice e)) (hinfo : (P.info? e).map (fun i => (i.zero, i.size, i.bytes)) = some (some z, 1, bytes)) (hz : z.cells.size = 1) (hb0 : 0 < bytes)
    {v x : Value} {xs ys : List Value} (hown : Own e w v xs) (hx : Rd w x ys) (h1 : ∀ u ∈ ys, u.oneCell' = true) (hl : (xs.length + ys.length) * bytes ≤ 140737488355328)
    (k : ∀ v' w', Own e w' v' (xs ++ ys) → w.grownBy w' v.ownBlock → (v'.ownBlock = v.ownBlock ∨ v'.ownBlock = some w.heap.size) → K v' w') : NextP P (builtin .append #[t, t] ty cs #[v, x]) K w := by
  obtain ⟨i, hi, hzz⟩ := Option.map_eq_some_iff.1 hinfo
  simp only [Prod.mk.injEq] at hzz
  obtain ⟨hz0, hz1, hz2⟩ := hzz
  obtain ⟨A, c, rfl, hc1, hc2, hcell⟩ := hx
  have hlen : xs.length + ys.length ≤ 140737488355328 := Nat.le_trans (Nat.le_mul_of_pos_right _ hb0) hl
  cases ys with
  | nil =>
    cases A with
    | none =>
      refine nextV (v := v) (w' := w) ?_ (k v w (by simpa using hown) (World.grownBy.refl w _) (.inl rfl))
      have := run_append_of_nil (P := P) w t ty e i ht hi v xs hown c
      simp only [builtin, List.length_nil] at this ⊢
      simp [this]
    | some a =>
      obtain ⟨v', w', hr, h2, h3, _, h5⟩ := run_append_own_at (P := P) w 0 t ty e i z 1 bytes ht hi hz0 hz1 hz2 hz (by omega) v xs.length xs hown a 0 c [] rfl (by simp) (by simp) (by simp only [maxLen]; omega) (by simpa using hl) (Nat.zero_le _)
      refine nextV (v := v') (w' := w') ?_ (k v' w' (by simpa [Own] using h2) h3 h5)
      simp only [builtin, List.length_nil]
      simp [hr]
  | cons y r =>
    obtain ⟨a, rfl, _⟩ := hcell 0 y (by simp)
    obtain ⟨v', w', hr, h2, h3, _, h5⟩ := run_append_own_at (P := P) w 0 t ty e i z 1 bytes ht hi hz0 hz1 hz2 hz (by omega) v xs.length xs hown a (y :: r).length c (y :: r) (by simp) (fun j u hu => by
      obtain ⟨a', ha, hc⟩ := hcell j u hu
      cases ha; exact hc) h1 (by simp only [maxLen]; omega) hl (Nat.zero_le _)
    refine nextV (v := v') (w' := w') ?_ (k v' w' (by simpa [Own] using h2) h3 h5)
    show ((do pure (Next.value (← Builtin.append_ #[t, t] ty #[v, .slice (some a) (y :: r).length c])) : Sem Next)).run P w = _
    rw [Sem.run_bind, hr]
    rfl

theorem run_loadCellsFrom_of (w : World) (a : Addr) : ∀ (xs : List Value) (i : Nat) (acc : Array Value), (∀ j u, xs[j]? = some u → w.cell? (a.add (i + j)) = some u) →
    (loadCellsFrom a i xs.length acc).run P w = .ok (acc ++ xs.toArray) w
  | [], i, acc, _ => by simp [loadCellsFrom]
  | x :: xs, i, acc, h => by
    have h0 : w.cell? (a.add i) = some x := by simpa using h 0 x rfl
    have ih := run_loadCellsFrom_of w a xs (i + 1) (acc.push x) (fun j u hu => by
      have := h (j + 1) u (by simpa using hu)
      rw [show i + 1 + j = i + (j + 1) by omega]
      exact this)
    simp only [List.length_cons, loadCellsFrom, Sem.run_bind, run_load, h0, Result.andThen_ok, ih]
    simp
theorem run_loadCells_of (w : World) (a : Addr) (xs : List Value) (n : Nat) (hn : xs.length = n) (h : ∀ j u, xs[j]? = some u → w.cell? (a.add j) = some u) : (loadCells a n).run P w = .ok xs.toArray w := by
  subst hn
  have := run_loadCellsFrom_of (P := P) w a xs 0 #[] (by simpa using h)
  simpa [loadCells] using this
theorem foldl_push (bs : List UInt8) : ∀ s : ByteArray, (bs.map fun b => (b.toNat : Int)).foldl (fun (r : ByteArray) (n : Int) => r.push (UInt8.ofNat n.toNat)) s = ⟨(s.data.toList ++ bs).toArray⟩ := by
  induction bs with
  | nil => intro s; simp
  | cons b bs ih =>
    intro s
    simp only [List.map_cons, List.foldl_cons]
    rw [ih]
    simp [ByteArray.push]
theorem run_cvBS {s d e : TypeId} (hs : P.underlying s = some (.slice e)) (he : P.underlying e = some (.int .u8)) (hd : P.underlying d = some .string) {v : Value} {bs : List UInt8} (hv : RdB w v bs) :
    (convert s d v).run P w = .ok (.string ⟨bs.toArray⟩) w := by
  obtain ⟨A, c, rfl, hc1, hc2, hcell⟩ := hv.slice
  rw [run_convert_bytes_string w s d e A bs.length c hs he hd]
  cases A with
  | none =>
    cases bs with
    | nil => rfl
    | cons b r => obtain ⟨a, h, _⟩ := hcell 0 (by simp); cases h
  | some a =>
    rw [run_bytesToString w a bs.length c (bs.map fun b => (b.toNat : Int)) ?_, foldl_push]
    · rw [show ByteArray.empty.data.toList = [] from rfl, List.nil_append]
    · have := run_loadCells_of (P := P) w a (bs.map u8) bs.length (by simp) fun j u hu => by
        obtain ⟨hj, rfl⟩ := List.getElem?_eq_some_iff.1 hu
        simp only [List.length_map] at hj
        obtain ⟨a', ha, hc⟩ := hcell j hj
        cases ha
        rw [hc, List.getElem_map]
        rfl
      rw [this]
      simp [u8, Function.comp_def]
theorem cvBS {s d e : TypeId} (hs : P.underlying s = some (.slice e)) (he : P.underlying e = some (.int .u8)) (hd : P.underlying d = some .string) {v : Value} {bs : List UInt8} (hv : RdB w v bs)
    (k : K (.string ⟨bs.toArray⟩) w) : LiftP P (convert s d v) K w := lift (run_cvBS hs he hd hv) k
end

end Go.Proofs.YtmnaggdhkggjhaaGreatDoor.E
namespace Go.Proofs.YtmnaggdhkggjhaaGreatDoor.E
open Go Go.RowKit

theorem calls_of {P : Program} {f : FuncId} {args : Array Value} {w : World} (h : CallP P f args (fun r w' => r = .bool true ∧ Below w.heap.size w w') w) :
    Calls P f args w fun e w' => e = .returned (.bool true) ∧ Below w.heap.size w w' := h.out.mono fun e w' ⟨v, he, hv, hb⟩ => ⟨by rw [he, hv], hb⟩

end Go.Proofs.YtmnaggdhkggjhaaGreatDoor.E
namespace Go.Proofs.YtmnaggdhkggjhaaGreatDoor.E
open Go Go.RowKit

theorem Rd.slice {w : World} {v : Value} {cs : List Value} (h : Rd w v cs) : ∃ A c, v = .slice A cs.length c ∧ cs.length ≤ c ∧ c ≤ 9223372036854775807 := by
  obtain ⟨A, c, rfl, h1, h2, _⟩ := h; exact ⟨A, c, rfl, h1, h2⟩
theorem Rd.at {w : World} {A : Option Addr} {n c : Nat} {cs : List Value} (h : Rd w (.slice A n c) cs) (i : Nat) (hi : i < cs.length) : ∃ a, A = some a ∧ w.cell? (a.add i) = some cs[i] := by
  obtain ⟨A', c', he, h1, h2, h3⟩ := h
  cases he
  exact h3 i _ (List.getElem?_eq_getElem hi)
theorem RdB.at {w : World} {A : Option Addr} {n c : Nat} {bs : List UInt8} (h : RdB w (.slice A n c) bs) (i : Nat) (hi : i < bs.length) : ∃ a, A = some a ∧ w.cell? (a.add i) = some (.int .u8 (bs[i].toNat : Int)) := by
  obtain ⟨a, h1, h2⟩ := Rd.at h i (by simpa using hi)
  refine ⟨a, h1, ?_⟩
  rw [h2, List.getElem_map]; rfl
theorem Rd.atI {w : World} {A : Option Addr} {n c : Nat} {kd : IntKind} {ys : List Int} (h : Rd w (.slice A n c) (ys.map (Value.int kd))) (i : Nat) (hi : i < ys.length) : ∃ a, A = some a ∧ w.cell? (a.add i) = some (.int kd ys[i]) := by
  obtain ⟨a, h1, h2⟩ := Rd.at h i (by simpa using hi)
  refine ⟨a, h1, ?_⟩
  rw [h2, List.getElem_map]

inductive Bd (d : Nat) : Option Value → Nat → Prop where
  | no : Bd d none d
  | at (k : IntKind) (n : Nat) : Bd d (some (.int k n)) n
theorem sliced_rd {w : World} {A : Option Addr} {n c : Nat} {cs : List Value} (h : Rd w (.slice A n c) cs) {l k m : Nat} (h1 : l ≤ k) (h2 : k ≤ cs.length) (h3 : k ≤ m) (h4 : m ≤ c) :
    Rd w (sliced A l k m 1) ((cs.take k).drop l) := by
  obtain ⟨A', c', he, g1, g2, g3⟩ := h
  cases he
  have hlen : ((cs.take k).drop l).length = k - l := by simp [List.length_drop, List.length_take]; omega
  refine ⟨_, _, by rw [hlen]; rfl, by rw [hlen]; omega, by omega, fun i u hu => ?_⟩
  have hi : i < k - l := by rw [← hlen]; exact (List.getElem?_eq_some_iff.1 hu).1
  rw [List.getElem?_drop, List.getElem?_take, if_pos (by omega)] at hu
  obtain ⟨a, rfl, hc⟩ := g3 _ u hu
  refine ⟨a.add l, by rw [if_neg (by omega)]; simp, ?_⟩
  rw [← hc]
  congr 1
  unfold Addr.add
  by_cases hl : l = 0 <;> by_cases hi0 : i = 0 <;> simp [hl, hi0, Nat.add_assoc]
section
variable {P : Program} {K : Value → World → Prop} {S : World → Prop} {w : World}
theorem pr_cut {t e : TypeId} (ht : P.underlying t = some (.slice e)) {s : Nat} (hs : (P.info? e).map (·.size) = some s) {A : Option Addr} {n c l k m : Nat} {lo hi mx : Option Value}
    (hlo : Bd 0 lo l) (hhi : Bd n hi k) (hmx : Bd c mx m) (h1 : l ≤ k) (h2 : hi = none → l ≤ n) (h3 : k ≤ m) (h4 : m ≤ c) (hx : mx = none ∨ hi ≠ none) :
    PR P (Instr.sliceAt t (.slice A n c) lo hi mx) (sliced A l k m s) := by
  obtain ⟨j, hj, hs⟩ := Option.map_eq_some_iff.1 hs
  have he : P.elem t = e := by simp [Program.elem, ht]
  have ht' : P.underlying t = some (.slice (P.elem t)) := by rw [he]; exact ht
  intro w
  rw [run_sliceAt_slice w t _ _ _ _ ht']
  have hsz : ((sizeOf (P.elem t)).run P w) = .ok s w := by simp [he, sizeOf, typeInfo, hj, hs]
  cases hlo <;> cases hhi <;> cases hmx
  · rw [run_slice_all w t A n c ht', hsz]; rfl
  · exact absurd rfl (hx.resolve_left (by simp))
  · rw [run_slice_h w t A n c ht' _ _ (by omega) (by omega), hsz]; rfl
  · rw [run_slice_hm w t A n c ht' _ _ _ _ (by omega) (by omega) (by omega), hsz]; rfl
  · rw [run_slice_l w t A n c ht' _ _ (by omega) (by omega), hsz]; rfl
  · exact absurd rfl (hx.resolve_left (by simp))
  · rw [run_slice_lh w t A n c ht' _ _ _ _ (by omega) (by omega) (by omega), hsz]; rfl
  · rw [run_slice_lhm w t A n c ht' _ _ _ _ _ _ (by omega) (by omega) (by omega) (by omega), hsz]; rfl

/-- x[lo:hi] of one-cell elements. -/
theorem ct {t e : TypeId} (ht : P.underlying t = some (.slice e)) (hs : (P.info? e).map (·.size) = some 1) {A : Option Addr} {n c l k : Nat} {lo hi : Option Value} {cs : List Value} (hr : Rd w (.slice A n c) cs)
    (hlo : Bd 0 lo l) (hhi : Bd n hi k) (h1 : l ≤ k) (h2 : k ≤ cs.length)
    (kk : ∀ v', Rd w v' ((cs.take k).drop l) → K v' w) : LiftP P (Instr.sliceAt t (.slice A n c) lo hi none) K w := by
  have hr' := hr
  obtain ⟨A', c', he, g1, g2, g3⟩ := hr
  cases he
  exact ofPR (pr_cut ht hs hlo hhi .no h1 (fun hh => by cases hhi <;> first | omega | cases hh) (by omega) (Nat.le_refl _) (.inl rfl)) (kk _ (sliced_rd hr' h1 h2 (by omega) (Nat.le_refl _)))
theorem ctB {t e : TypeId} (ht : P.underlying t = some (.slice e)) (hs : (P.info? e).map (·.size) = some 1) {A : Option Addr} {n c l k : Nat} {lo hi : Option Value} {bs : List UInt8} (hr : RdB w (.slice A n c) bs)
    (hlo : Bd 0 lo l) (hhi : Bd n hi k) (h1 : l ≤ k) (h2 : k ≤ bs.length)
    (kk : ∀ v', RdB w v' ((bs.take k).drop l) → K v' w) : LiftP P (Instr.sliceAt t (.slice A n c) lo hi none) K w :=
  ct ht hs hr hlo hhi h1 (by simpa using h2) (fun v' h' => kk v' (by unfold RdB; rw [List.map_drop, List.map_take]; exact h'))

theorem bs0 {t e : TypeId} (ht : P.underlying t = some (.slice e)) {s : Nat} (hs : (P.info? e).map (·.size) = some s) (k : K (.slice (some ⟨w.heap.size, 0, none⟩) 0 0) (w.alloc (.cells #[] e))) : LiftP P (Instr.buildSlice t 0 #[]) K w := by
  obtain ⟨j, hj, hs⟩ := Option.map_eq_some_iff.1 hs
  refine lift ?_ k
  have h0 : ∀ f : Nat → Value, Array.map f (Array.range 0) = #[] := fun f => by apply Array.ext_getElem?; intro i; simp
  simp [Instr.buildSlice, run_underlying ht, sizeOf, typeInfo, hj, hs, newRow, Instr.fill, h0]
end
theorem u8_one : ∀ (bs : List UInt8), ∀ u ∈ bs.map u8, u.oneCell' = true := by
  intro bs u hu
  obtain ⟨b, _, rfl⟩ := List.mem_map.1 hu
  rfl
theorem Own.rdB {e : TypeId} {w : World} {v : Value} {bs : List UInt8} (h : Own e w v (bs.map u8)) : RdB w v bs := h.rd
end Go.Proofs.YtmnaggdhkggjhaaGreatDoor.E
namespace Go.Proofs.YtmnaggdhkggjhaaGreatDoor.E
open Go Go.RowKit

/-- v's row, if it has one, lies behind B. -/
def Fresh (B : Nat) (v : Value) : Prop := ∀ k, v.ownBlock = some k → B ≤ k
theorem Fresh.new {B : Nat} {w : World} (h : B ≤ w.heap.size) (n c : Nat) : Fresh B (.slice (some ⟨w.heap.size, 0, none⟩) n c) := fun k hk => by cases hk; exact h
theorem Fresh.nil (B : Nat) : Fresh B (.slice none 0 0) := fun k hk => by cases hk

section
variable {e : TypeId} {w w' : World} {v : Value} {xs : List Value}
theorem Own.slice (h : Own e w v xs) : ∃ A c, v = .slice A xs.length c := by
  obtain ⟨A, c, rfl, _⟩ := h.rd; exact ⟨A, c, rfl⟩
/-- At a place: the address, the cell, that it may be written. -/
theorem Own.at {A : Option Addr} {n c : Nat} (h : Own e w (.slice A n c) xs) (i : Nat) (hi : i < xs.length) : ∃ g, A = some ⟨g, 0, none⟩ ∧ w.cell? ((⟨g, 0, none⟩ : Addr).add i) = some xs[i] ∧ w.frozen? ((⟨g, 0, none⟩ : Addr).add i) = false := by
  obtain ⟨g, cap, cur, he, hb, _⟩ := h.form (by omega)
  cases he
  obtain ⟨a, ha, hc⟩ := Rd.at h.rd i hi
  cases ha
  exact ⟨g, rfl, hc, by rw [add0, Nat.zero_add]; exact hb.frozen i⟩
theorem Own.set {g n c : Nat} (h : Own e w (.slice (some ⟨g, 0, none⟩) n c) xs) (i : Nat) (hi : i < xs.length) (u : Value) : Own e (w.setCell ((⟨g, 0, none⟩ : Addr).add i) u) (.slice (some ⟨g, 0, none⟩) n c) (xs.set i u) := by
  obtain ⟨g', cap, cur, he, hb, h1, h2, h3, h4⟩ := h.form (by omega)
  cases he
  rw [add0, Nat.zero_add]
  refine Own.of_blk (hb.set_ i u) (by simp) (by simpa using h1) h4 (by simpa using h2) ?_
  rw [Array.toList_setIfInBounds, List.length_set, List.take_set, h3]
end
section
variable {P : Program} {K : Value → World → Prop} {w : World}
/-- append(v, x...): v a row behind B, x read. What lies before B stays; so does a row of another block. -/
theorem apF {t ty e : TypeId} {cs : Array Bool} {z : Value} {bytes : Nat} (B : Nat) (ht : P.underlying t = some (.slice e)) (hinfo : (P.info? e).map (fun i => (i.zero, i.size, i.bytes)) = some (some z, 1, bytes)) (hz : z.cells.size = 1) (hb0 : 0 < bytes)
    {v x : Value} {xs ys : List Value} (hown : Own e w v xs) (hf : Fresh B v) (hB : B ≤ w.heap.size) (hx : Rd w x ys) (h1 : ∀ u ∈ ys, u.oneCell' = true) (hl : (xs.length + ys.length) * bytes ≤ 140737488355328)
    (k : ∀ v' w', Own e w' v' (xs ++ ys) → Fresh B v' → Below B w w' → (∀ e' u zs, Own e' w u zs → (u.ownBlock = none ∨ u.ownBlock ≠ v.ownBlock) → Own e' w' u zs ∧ (u.ownBlock = none ∨ u.ownBlock ≠ v'.ownBlock)) → K v' w') : NextP P (builtin .append #[t, t] ty cs #[v, x]) K w :=
  ap ht hinfo hz hb0 hown hx h1 hl fun v' w' ho hg hbl => k v' w' ho
    (fun j hj => by rcases hbl with h | h <;> rw [h] at hj; exact hf j hj; cases hj; exact hB)
    ((Below.refl B w).grown hg hB (fun j hj => hf j hj))
    (fun e' u zs hu hne => ⟨hu.kept hg hne, by
      rcases hne with h | h
      · exact .inl h
      · cases hub : u.ownBlock with
        | none => exact .inl rfl
        | some j =>
          refine .inr fun hh => ?_
          rcases hbl with h2 | h2
          · exact h (hub.trans (hh.trans h2))
          · rw [h2] at hh
            have := hu.lt hub
            cases hh
            omega⟩)
end
theorem z_a : type_of% @nck := @nck
theorem z_b : type_of% @cdT := @cdT
theorem z_c : type_of% @cdF := @cdF
theorem z_d : type_of% @gdY := @gdY
theorem z_e : type_of% @gdFT := @gdFT
theorem z_f : type_of% @gdTF := @gdTF
theorem z_g : type_of% @gdU := @gdU
theorem z_h : type_of% @gaY := @gaY
theorem z_i : type_of% @gaFT := @gaFT
theorem z_j : type_of% @gaTF := @gaTF
theorem z_k : type_of% @pickT := @pickT
theorem z_l : type_of% @pickF := @pickF
theorem z_m : type_of% @bi_lss_t := @bi_lss_t
theorem z_n : type_of% @bi_lss_f := @bi_lss_f
theorem z_o : type_of% @bi_add64 := @bi_add64
theorem z_p : type_of% @bi_sub64 := @bi_sub64
theorem z_q : type_of% @bi_eql_t := @bi_eql_t
theorem z_r : type_of% @bi_eql_f := @bi_eql_f
theorem z_s : type_of% @bi_neq_t := @bi_neq_t
theorem z_t : type_of% @bi_neq_f := @bi_neq_f
theorem z_u : type_of% @bi_gtr_t := @bi_gtr_t
theorem z_v : type_of% @bi_gtr_f := @bi_gtr_f
theorem z_w : type_of% @bi_leq_t := @bi_leq_t
theorem z_x : type_of% @bi_leq_f := @bi_leq_f
theorem z_y : type_of% @bi_geq_t := @bi_geq_t
theorem z_z : type_of% @bi_geq_f := @bi_geq_f
theorem z_A : type_of% @bi_xt0 := @bi_xt0
theorem z_B : type_of% @bi_xt1 := @bi_xt1
theorem z_C : type_of% @bi_xt2 := @bi_xt2
theorem z_D : type_of% @bi_xt3 := @bi_xt3
theorem z_E : type_of% @bi_T := @bi_T
theorem z_F : type_of% @bi_F := @bi_F
theorem z_G : type_of% @bi_not := @bi_not
theorem z_H : type_of% @bi_and := @bi_and
theorem z_I : type_of% @bi_or := @bi_or
theorem z_J : type_of% @bi_xor := @bi_xor
theorem z_K : type_of% @bi_shr := @bi_shr
theorem z_L : type_of% @bi_shl := @bi_shl
theorem z_M : type_of% @bi_quo64 := @bi_quo64
theorem z_N : type_of% @bi_rem64 := @bi_rem64
theorem z_O : type_of% @bi_mul64 := @bi_mul64
theorem z_P : type_of% @bi_neg := @bi_neg
theorem z_Q : type_of% @bi_un_xor32 := @bi_un_xor32
theorem z_R : type_of% @bi_add := @bi_add
theorem z_S : type_of% @bi_sub := @bi_sub
theorem z_T : type_of% @bi_mul := @bi_mul
theorem z_U : type_of% @bi_quo := @bi_quo
theorem z_V : type_of% @bi_rem := @bi_rem
theorem z_W : type_of% @ynck := @ynck
theorem z_X : type_of% @yi_lss_t := @yi_lss_t
theorem z_Y : type_of% @yi_lss_f := @yi_lss_f
theorem z_Z : type_of% @yi_add64 := @yi_add64
theorem z_a1 : type_of% @yi_sub64 := @yi_sub64
theorem z_b1 : type_of% @yi_eql_t := @yi_eql_t
theorem z_c1 : type_of% @yi_eql_f := @yi_eql_f
theorem z_d1 : type_of% @yi_neq_t := @yi_neq_t
theorem z_e1 : type_of% @yi_neq_f := @yi_neq_f
theorem z_f1 : type_of% @yi_gtr_t := @yi_gtr_t
theorem z_g1 : type_of% @yi_gtr_f := @yi_gtr_f
theorem z_h1 : type_of% @yi_leq_t := @yi_leq_t
theorem z_i1 : type_of% @yi_leq_f := @yi_leq_f
theorem z_j1 : type_of% @yi_geq_t := @yi_geq_t
theorem z_k1 : type_of% @yi_geq_f := @yi_geq_f
theorem z_l1 : type_of% @yi_xt0 := @yi_xt0
theorem z_m1 : type_of% @yi_xt1 := @yi_xt1
theorem z_n1 : type_of% @yi_xt2 := @yi_xt2
theorem z_o1 : type_of% @yi_xt3 := @yi_xt3
theorem z_p1 : type_of% @yi_T := @yi_T
theorem z_q1 : type_of% @yi_F := @yi_F
theorem z_r1 : type_of% @yi_not := @yi_not
theorem z_s1 : type_of% @yi_and := @yi_and
theorem z_t1 : type_of% @yi_or := @yi_or
theorem z_u1 : type_of% @yi_xor := @yi_xor
theorem z_v1 : type_of% @yi_shr := @yi_shr
theorem z_w1 : type_of% @yi_shl := @yi_shl
theorem z_x1 : type_of% @yi_quo64 := @yi_quo64
theorem z_y1 : type_of% @yi_rem64 := @yi_rem64
theorem z_z1 : type_of% @yi_mul64 := @yi_mul64
theorem z_A1 : type_of% @yi_neg := @yi_neg
theorem z_B1 : type_of% @yi_un_xor32 := @yi_un_xor32
theorem z_C1 : type_of% @yi_add := @yi_add
theorem z_D1 : type_of% @yi_sub := @yi_sub
theorem z_E1 : type_of% @yi_mul := @yi_mul
theorem z_F1 : type_of% @yi_quo := @yi_quo
theorem z_G1 : type_of% @yi_rem := @yi_rem
end Go.Proofs.YtmnaggdhkggjhaaGreatDoor.E
