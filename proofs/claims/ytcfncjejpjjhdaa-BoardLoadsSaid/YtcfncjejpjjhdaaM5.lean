import Derived.Test.YtcfncjejpjjhdaaM4
import Derived.Test.YtcfncjejpjjhdaaM3
import Derived.Test.YtcfncjejpjjhdaaS1
import Derived.Laws.StructEq
namespace Go.Proofs.Ytcfncjejpjjhdaa.E
open Go Go.RowKit
set_option linter.unusedSimpArgs false
set_option linter.unusedVariables false

def rgF (r : Rg) : List Value := [tS r.1, tS r.2]
def rgA (r : Rg) : Array Value := #[tS r.1, tS r.2]
def rgV (r : Rg) : Value := .agg (rgA r)
theorem rgF_len (r : Rg) : (rgF r).length = 2 := rfl
theorem rgF_one (r : Rg) : ∀ u ∈ rgF r, u.oneCell' = true := by
  intro u hu
  simp only [rgF, List.mem_cons, List.not_mem_nil, or_false] at hu
  rcases hu with rfl | rfl <;> rfl
theorem rgA_one (r : Rg) : (rgA r).all (·.oneCell') = true := by
  rw [← Array.all_toList]; rfl
theorem und3 : Try.prog.underlying 3 = some (.int .i64) := by kernel_rfl
theorem und9 : Try.prog.underlying 9 = some .string := by kernel_rfl
theorem und26 : Try.prog.underlying 22 = some (.slice 32) := by kernel_rfl
theorem und60 : Try.prog.underlying 73 = some (.slice 9) := by kernel_rfl
theorem und62 : Try.prog.underlying 100 = some (.slice 4) := by kernel_rfl
theorem sz4 : (Try.prog.info? 4).map (·.size) = some 1 := by kernel_rfl
theorem sz9 : (Try.prog.info? 9).map (·.size) = some 1 := by kernel_rfl
theorem sz23 : (Try.prog.info? 32).map (·.size) = some 2 := by kernel_rfl
theorem agg23 : aggB Try.prog 32 = true := by kernel_rfl
theorem one4 : oneB Try.prog 4 = true := by kernel_rfl
theorem one9 : oneB Try.prog 9 = true := by kernel_rfl
theorem z23 : (Try.prog.info? 32).bind (·.zero) = some (rgV ([], [])) := by kernel_rfl
theorem inf23 : (Try.prog.info? 32).map (fun i => (i.zero, i.size, i.bytes)) = some (some (rgV ([], [])), 2, 32) := by kernel_rfl
theorem inf9 : (Try.prog.info? 9).map (fun i => (i.zero, i.size, i.bytes)) = some (some (tS []), 1, 16) := by kernel_rfl
theorem inf4 : (Try.prog.info? 4).map (fun i => (i.zero, i.size, i.bytes)) = some (some (.bool false), 1, 1) := by kernel_rfl
theorem g0 : fofs Try.prog 32 0 = some (0, 1) := by kernel_rfl
theorem g1 : fofs Try.prog 32 1 = some (1, 1) := by kernel_rfl

theorem empty14 (r : Rg) (w : World) : CallP Try.prog 55 #[rgV r] (fun v w' => v = .bool (decide (emptyR r)) ∧ Below w.heap.size w w') w := by
  refine ⟨S55.calls _ _ _ ?_⟩
  unfold S55
  refine bx ?_
  have hB : Blk (w.alloc (.cells (rgV r).cells 32)) w.heap.size 32 (rgA r) := Blk.new w 32 _
  have ha := (Below.refl w.heap.size w).alloc (Nat.le_refl _) (.cells (rgV r).cells 32)
  generalize w.alloc (.cells (rgV r).cells 32) = w1 at *
  have c0 : w1.cell? ⟨w.heap.size, 0, none⟩ = some (tS r.1) := hB.cell 0
  have c1 : w1.cell? ⟨w.heap.size, 1, none⟩ = some (tS r.2) := hB.cell 1
  (repeat with_reducible first | refine fd g0 (by decide) ?_| refine fd g1 (by decide) ?_| refine ld one9 c0 ?_| refine ld one9 c1 ?_|refine z_a ?_|refine z_b ?_|refine z_c ?_|refine z_d ?_|refine z_e ?_|refine z_f ?_|refine z_g ?_|refine z_h ?_|refine z_i ?_|refine z_j ?_|refine z_k ?_|refine z_l ?_|refine z_m (by omega) ?_|refine z_n (by omega) ?_|refine z_o (by omega) ?_|refine z_p (by omega) ?_|refine z_q (by omega) ?_|refine z_r (by omega) ?_|refine z_s (by omega) ?_|refine z_t (by omega) ?_|refine z_u (by omega) ?_|refine z_v (by omega) ?_|refine z_w (by omega) ?_|refine z_x (by omega) ?_|refine z_y (by omega) ?_|refine z_z (by omega) ?_|refine z_A ?_|refine z_B ?_|refine z_C ?_|refine z_D ?_|refine z_E ?_|refine z_F ?_|refine z_G ?_|refine z_H ?_|refine z_I ?_)
  refine tl_neq0_c (fun h1 => ?_) (fun h1 => ?_)
  · (repeat with_reducible first | refine fd g0 (by decide) ?_| refine fd g1 (by decide) ?_| refine ld one9 c0 ?_| refine ld one9 c1 ?_|refine z_a ?_|refine z_b ?_|refine z_c ?_|refine z_d ?_|refine z_e ?_|refine z_f ?_|refine z_g ?_|refine z_h ?_|refine z_i ?_|refine z_j ?_|refine z_k ?_|refine z_l ?_|refine z_m (by omega) ?_|refine z_n (by omega) ?_|refine z_o (by omega) ?_|refine z_p (by omega) ?_|refine z_q (by omega) ?_|refine z_r (by omega) ?_|refine z_s (by omega) ?_|refine z_t (by omega) ?_|refine z_u (by omega) ?_|refine z_v (by omega) ?_|refine z_w (by omega) ?_|refine z_x (by omega) ?_|refine z_y (by omega) ?_|refine z_z (by omega) ?_|refine z_A ?_|refine z_B ?_|refine z_C ?_|refine z_D ?_|refine z_E ?_|refine z_F ?_|refine z_G ?_|refine z_H ?_|refine z_I ?_)
    refine tl_leq_c (fun h2 => ?_) (fun h2 => ?_)
    · (repeat with_reducible first|refine z_a ?_|refine z_b ?_|refine z_c ?_|refine z_d ?_|refine z_e ?_|refine z_f ?_|refine z_g ?_|refine z_h ?_|refine z_i ?_|refine z_j ?_|refine z_k ?_|refine z_l ?_|refine z_m (by omega) ?_|refine z_n (by omega) ?_|refine z_o (by omega) ?_|refine z_p (by omega) ?_|refine z_q (by omega) ?_|refine z_r (by omega) ?_|refine z_s (by omega) ?_|refine z_t (by omega) ?_|refine z_u (by omega) ?_|refine z_v (by omega) ?_|refine z_w (by omega) ?_|refine z_x (by omega) ?_|refine z_y (by omega) ?_|refine z_z (by omega) ?_|refine z_A ?_|refine z_B ?_|refine z_C ?_|refine z_D ?_|refine z_E ?_|refine z_F ?_|refine z_G ?_|refine z_H ?_|refine z_I ?_)
      exact ⟨tB ⟨h1, h2⟩, ha⟩
    · (repeat with_reducible first|refine z_a ?_|refine z_b ?_|refine z_c ?_|refine z_d ?_|refine z_e ?_|refine z_f ?_|refine z_g ?_|refine z_h ?_|refine z_i ?_|refine z_j ?_|refine z_k ?_|refine z_l ?_|refine z_m (by omega) ?_|refine z_n (by omega) ?_|refine z_o (by omega) ?_|refine z_p (by omega) ?_|refine z_q (by omega) ?_|refine z_r (by omega) ?_|refine z_s (by omega) ?_|refine z_t (by omega) ?_|refine z_u (by omega) ?_|refine z_v (by omega) ?_|refine z_w (by omega) ?_|refine z_x (by omega) ?_|refine z_y (by omega) ?_|refine z_z (by omega) ?_|refine z_A ?_|refine z_B ?_|refine z_C ?_|refine z_D ?_|refine z_E ?_|refine z_F ?_|refine z_G ?_|refine z_H ?_|refine z_I ?_)
      exact ⟨fB fun e => h2 e.2, ha⟩
  · (repeat with_reducible first|refine z_a ?_|refine z_b ?_|refine z_c ?_|refine z_d ?_|refine z_e ?_|refine z_f ?_|refine z_g ?_|refine z_h ?_|refine z_i ?_|refine z_j ?_|refine z_k ?_|refine z_l ?_|refine z_m (by omega) ?_|refine z_n (by omega) ?_|refine z_o (by omega) ?_|refine z_p (by omega) ?_|refine z_q (by omega) ?_|refine z_r (by omega) ?_|refine z_s (by omega) ?_|refine z_t (by omega) ?_|refine z_u (by omega) ?_|refine z_v (by omega) ?_|refine z_w (by omega) ?_|refine z_x (by omega) ?_|refine z_y (by omega) ?_|refine z_z (by omega) ?_|refine z_A ?_|refine z_B ?_|refine z_C ?_|refine z_D ?_|refine z_E ?_|refine z_F ?_|refine z_G ?_|refine z_H ?_|refine z_I ?_)
    exact ⟨fB fun e => h1 e.1, ha⟩
theorem has17 (r : Rg) (s : Txt) (w : World) : CallP Try.prog 32 #[rgV r, tS s] (fun v w' => v = .bool (decide (hasR r s)) ∧ Below w.heap.size w w') w := by
  refine ⟨S32.calls _ _ _ _ ?_⟩
  unfold S32
  refine bx ?_
  have hB : Blk (w.alloc (.cells (rgV r).cells 32)) w.heap.size 32 (rgA r) := Blk.new w 32 _
  have ha := (Below.refl w.heap.size w).alloc (Nat.le_refl _) (.cells (rgV r).cells 32)
  generalize w.alloc (.cells (rgV r).cells 32) = w1 at *
  have c0 : w1.cell? ⟨w.heap.size, 0, none⟩ = some (tS r.1) := hB.cell 0
  have c1 : w1.cell? ⟨w.heap.size, 1, none⟩ = some (tS r.2) := hB.cell 1
  (repeat with_reducible first | refine fd g0 (by decide) ?_| refine fd g1 (by decide) ?_| refine ld one9 c0 ?_| refine ld one9 c1 ?_|refine z_a ?_|refine z_b ?_|refine z_c ?_|refine z_d ?_|refine z_e ?_|refine z_f ?_|refine z_g ?_|refine z_h ?_|refine z_i ?_|refine z_j ?_|refine z_k ?_|refine z_l ?_|refine z_m (by omega) ?_|refine z_n (by omega) ?_|refine z_o (by omega) ?_|refine z_p (by omega) ?_|refine z_q (by omega) ?_|refine z_r (by omega) ?_|refine z_s (by omega) ?_|refine z_t (by omega) ?_|refine z_u (by omega) ?_|refine z_v (by omega) ?_|refine z_w (by omega) ?_|refine z_x (by omega) ?_|refine z_y (by omega) ?_|refine z_z (by omega) ?_|refine z_A ?_|refine z_B ?_|refine z_C ?_|refine z_D ?_|refine z_E ?_|refine z_F ?_|refine z_G ?_|refine z_H ?_|refine z_I ?_)
  refine tl_geq_c (fun h1 => ?_) (fun h1 => ?_)
  · (repeat with_reducible first | refine fd g0 (by decide) ?_| refine fd g1 (by decide) ?_| refine ld one9 c0 ?_| refine ld one9 c1 ?_|refine z_a ?_|refine z_b ?_|refine z_c ?_|refine z_d ?_|refine z_e ?_|refine z_f ?_|refine z_g ?_|refine z_h ?_|refine z_i ?_|refine z_j ?_|refine z_k ?_|refine z_l ?_|refine z_m (by omega) ?_|refine z_n (by omega) ?_|refine z_o (by omega) ?_|refine z_p (by omega) ?_|refine z_q (by omega) ?_|refine z_r (by omega) ?_|refine z_s (by omega) ?_|refine z_t (by omega) ?_|refine z_u (by omega) ?_|refine z_v (by omega) ?_|refine z_w (by omega) ?_|refine z_x (by omega) ?_|refine z_y (by omega) ?_|refine z_z (by omega) ?_|refine z_A ?_|refine z_B ?_|refine z_C ?_|refine z_D ?_|refine z_E ?_|refine z_F ?_|refine z_G ?_|refine z_H ?_|refine z_I ?_)
    refine tl_eql0_c (fun h2 => ?_) (fun h2 => ?_)
    · (repeat with_reducible first|refine z_a ?_|refine z_b ?_|refine z_c ?_|refine z_d ?_|refine z_e ?_|refine z_f ?_|refine z_g ?_|refine z_h ?_|refine z_i ?_|refine z_j ?_|refine z_k ?_|refine z_l ?_|refine z_m (by omega) ?_|refine z_n (by omega) ?_|refine z_o (by omega) ?_|refine z_p (by omega) ?_|refine z_q (by omega) ?_|refine z_r (by omega) ?_|refine z_s (by omega) ?_|refine z_t (by omega) ?_|refine z_u (by omega) ?_|refine z_v (by omega) ?_|refine z_w (by omega) ?_|refine z_x (by omega) ?_|refine z_y (by omega) ?_|refine z_z (by omega) ?_|refine z_A ?_|refine z_B ?_|refine z_C ?_|refine z_D ?_|refine z_E ?_|refine z_F ?_|refine z_G ?_|refine z_H ?_|refine z_I ?_)
      exact ⟨tB ⟨h1, .inl h2⟩, ha⟩
    · (repeat with_reducible first | refine fd g0 (by decide) ?_| refine fd g1 (by decide) ?_| refine ld one9 c0 ?_| refine ld one9 c1 ?_|refine z_a ?_|refine z_b ?_|refine z_c ?_|refine z_d ?_|refine z_e ?_|refine z_f ?_|refine z_g ?_|refine z_h ?_|refine z_i ?_|refine z_j ?_|refine z_k ?_|refine z_l ?_|refine z_m (by omega) ?_|refine z_n (by omega) ?_|refine z_o (by omega) ?_|refine z_p (by omega) ?_|refine z_q (by omega) ?_|refine z_r (by omega) ?_|refine z_s (by omega) ?_|refine z_t (by omega) ?_|refine z_u (by omega) ?_|refine z_v (by omega) ?_|refine z_w (by omega) ?_|refine z_x (by omega) ?_|refine z_y (by omega) ?_|refine z_z (by omega) ?_|refine z_A ?_|refine z_B ?_|refine z_C ?_|refine z_D ?_|refine z_E ?_|refine z_F ?_|refine z_G ?_|refine z_H ?_|refine z_I ?_)
      refine tl_lss_c (fun h3 => ?_) (fun h3 => ?_)
      · (repeat with_reducible first|refine z_a ?_|refine z_b ?_|refine z_c ?_|refine z_d ?_|refine z_e ?_|refine z_f ?_|refine z_g ?_|refine z_h ?_|refine z_i ?_|refine z_j ?_|refine z_k ?_|refine z_l ?_|refine z_m (by omega) ?_|refine z_n (by omega) ?_|refine z_o (by omega) ?_|refine z_p (by omega) ?_|refine z_q (by omega) ?_|refine z_r (by omega) ?_|refine z_s (by omega) ?_|refine z_t (by omega) ?_|refine z_u (by omega) ?_|refine z_v (by omega) ?_|refine z_w (by omega) ?_|refine z_x (by omega) ?_|refine z_y (by omega) ?_|refine z_z (by omega) ?_|refine z_A ?_|refine z_B ?_|refine z_C ?_|refine z_D ?_|refine z_E ?_|refine z_F ?_|refine z_G ?_|refine z_H ?_|refine z_I ?_)
        exact ⟨tB ⟨h1, .inr h3⟩, ha⟩
      · (repeat with_reducible first|refine z_a ?_|refine z_b ?_|refine z_c ?_|refine z_d ?_|refine z_e ?_|refine z_f ?_|refine z_g ?_|refine z_h ?_|refine z_i ?_|refine z_j ?_|refine z_k ?_|refine z_l ?_|refine z_m (by omega) ?_|refine z_n (by omega) ?_|refine z_o (by omega) ?_|refine z_p (by omega) ?_|refine z_q (by omega) ?_|refine z_r (by omega) ?_|refine z_s (by omega) ?_|refine z_t (by omega) ?_|refine z_u (by omega) ?_|refine z_v (by omega) ?_|refine z_w (by omega) ?_|refine z_x (by omega) ?_|refine z_y (by omega) ?_|refine z_z (by omega) ?_|refine z_A ?_|refine z_B ?_|refine z_C ?_|refine z_D ?_|refine z_E ?_|refine z_F ?_|refine z_G ?_|refine z_H ?_|refine z_I ?_)
        exact ⟨fB fun e => e.2.elim h2 h3, ha⟩
  · (repeat with_reducible first|refine z_a ?_|refine z_b ?_|refine z_c ?_|refine z_d ?_|refine z_e ?_|refine z_f ?_|refine z_g ?_|refine z_h ?_|refine z_i ?_|refine z_j ?_|refine z_k ?_|refine z_l ?_|refine z_m (by omega) ?_|refine z_n (by omega) ?_|refine z_o (by omega) ?_|refine z_p (by omega) ?_|refine z_q (by omega) ?_|refine z_r (by omega) ?_|refine z_s (by omega) ?_|refine z_t (by omega) ?_|refine z_u (by omega) ?_|refine z_v (by omega) ?_|refine z_w (by omega) ?_|refine z_x (by omega) ?_|refine z_y (by omega) ?_|refine z_z (by omega) ?_|refine z_A ?_|refine z_B ?_|refine z_C ?_|refine z_D ?_|refine z_E ?_|refine z_F ?_|refine z_G ?_|refine z_H ?_|refine z_I ?_)
    exact ⟨fB fun e => h1 e.1, ha⟩
theorem lesser43 (a b : Txt) (w : World) : CallP Try.prog 69 #[tS a, tS b] (fun v w' => v = tS (lesserP a b) ∧ w = w') w := by
  refine ⟨S69.calls _ _ _ _ ?_⟩
  unfold S69
  refine tl_eql0_c (fun h1 => ?_) (fun h1 => ?_)
  · (repeat with_reducible first|refine z_a ?_|refine z_b ?_|refine z_c ?_|refine z_d ?_|refine z_e ?_|refine z_f ?_|refine z_g ?_|refine z_h ?_|refine z_i ?_|refine z_j ?_|refine z_k ?_|refine z_l ?_|refine z_m (by omega) ?_|refine z_n (by omega) ?_|refine z_o (by omega) ?_|refine z_p (by omega) ?_|refine z_q (by omega) ?_|refine z_r (by omega) ?_|refine z_s (by omega) ?_|refine z_t (by omega) ?_|refine z_u (by omega) ?_|refine z_v (by omega) ?_|refine z_w (by omega) ?_|refine z_x (by omega) ?_|refine z_y (by omega) ?_|refine z_z (by omega) ?_|refine z_A ?_|refine z_B ?_|refine z_C ?_|refine z_D ?_|refine z_E ?_|refine z_F ?_|refine z_G ?_|refine z_H ?_|refine z_I ?_)
    exact ⟨by rw [lesserP, if_pos (.inl h1)], rfl⟩
  · (repeat with_reducible first|refine z_a ?_|refine z_b ?_|refine z_c ?_|refine z_d ?_|refine z_e ?_|refine z_f ?_|refine z_g ?_|refine z_h ?_|refine z_i ?_|refine z_j ?_|refine z_k ?_|refine z_l ?_|refine z_m (by omega) ?_|refine z_n (by omega) ?_|refine z_o (by omega) ?_|refine z_p (by omega) ?_|refine z_q (by omega) ?_|refine z_r (by omega) ?_|refine z_s (by omega) ?_|refine z_t (by omega) ?_|refine z_u (by omega) ?_|refine z_v (by omega) ?_|refine z_w (by omega) ?_|refine z_x (by omega) ?_|refine z_y (by omega) ?_|refine z_z (by omega) ?_|refine z_A ?_|refine z_B ?_|refine z_C ?_|refine z_D ?_|refine z_E ?_|refine z_F ?_|refine z_G ?_|refine z_H ?_|refine z_I ?_)
    refine tl_neq0_c (fun h2 => ?_) (fun h2 => ?_)
    · (repeat with_reducible first|refine z_a ?_|refine z_b ?_|refine z_c ?_|refine z_d ?_|refine z_e ?_|refine z_f ?_|refine z_g ?_|refine z_h ?_|refine z_i ?_|refine z_j ?_|refine z_k ?_|refine z_l ?_|refine z_m (by omega) ?_|refine z_n (by omega) ?_|refine z_o (by omega) ?_|refine z_p (by omega) ?_|refine z_q (by omega) ?_|refine z_r (by omega) ?_|refine z_s (by omega) ?_|refine z_t (by omega) ?_|refine z_u (by omega) ?_|refine z_v (by omega) ?_|refine z_w (by omega) ?_|refine z_x (by omega) ?_|refine z_y (by omega) ?_|refine z_z (by omega) ?_|refine z_A ?_|refine z_B ?_|refine z_C ?_|refine z_D ?_|refine z_E ?_|refine z_F ?_|refine z_G ?_|refine z_H ?_|refine z_I ?_)
      refine tl_lss_c (fun h3 => ?_) (fun h3 => ?_)
      · (repeat with_reducible first|refine z_a ?_|refine z_b ?_|refine z_c ?_|refine z_d ?_|refine z_e ?_|refine z_f ?_|refine z_g ?_|refine z_h ?_|refine z_i ?_|refine z_j ?_|refine z_k ?_|refine z_l ?_|refine z_m (by omega) ?_|refine z_n (by omega) ?_|refine z_o (by omega) ?_|refine z_p (by omega) ?_|refine z_q (by omega) ?_|refine z_r (by omega) ?_|refine z_s (by omega) ?_|refine z_t (by omega) ?_|refine z_u (by omega) ?_|refine z_v (by omega) ?_|refine z_w (by omega) ?_|refine z_x (by omega) ?_|refine z_y (by omega) ?_|refine z_z (by omega) ?_|refine z_A ?_|refine z_B ?_|refine z_C ?_|refine z_D ?_|refine z_E ?_|refine z_F ?_|refine z_G ?_|refine z_H ?_|refine z_I ?_)
        exact ⟨by rw [lesserP, if_pos (.inr ⟨h2, h3⟩)], rfl⟩
      · (repeat with_reducible first|refine z_a ?_|refine z_b ?_|refine z_c ?_|refine z_d ?_|refine z_e ?_|refine z_f ?_|refine z_g ?_|refine z_h ?_|refine z_i ?_|refine z_j ?_|refine z_k ?_|refine z_l ?_|refine z_m (by omega) ?_|refine z_n (by omega) ?_|refine z_o (by omega) ?_|refine z_p (by omega) ?_|refine z_q (by omega) ?_|refine z_r (by omega) ?_|refine z_s (by omega) ?_|refine z_t (by omega) ?_|refine z_u (by omega) ?_|refine z_v (by omega) ?_|refine z_w (by omega) ?_|refine z_x (by omega) ?_|refine z_y (by omega) ?_|refine z_z (by omega) ?_|refine z_A ?_|refine z_B ?_|refine z_C ?_|refine z_D ?_|refine z_E ?_|refine z_F ?_|refine z_G ?_|refine z_H ?_|refine z_I ?_)
        exact ⟨by rw [lesserP, if_neg (fun e => e.elim h1 fun e => h3 e.2)], rfl⟩
    · (repeat with_reducible first|refine z_a ?_|refine z_b ?_|refine z_c ?_|refine z_d ?_|refine z_e ?_|refine z_f ?_|refine z_g ?_|refine z_h ?_|refine z_i ?_|refine z_j ?_|refine z_k ?_|refine z_l ?_|refine z_m (by omega) ?_|refine z_n (by omega) ?_|refine z_o (by omega) ?_|refine z_p (by omega) ?_|refine z_q (by omega) ?_|refine z_r (by omega) ?_|refine z_s (by omega) ?_|refine z_t (by omega) ?_|refine z_u (by omega) ?_|refine z_v (by omega) ?_|refine z_w (by omega) ?_|refine z_x (by omega) ?_|refine z_y (by omega) ?_|refine z_z (by omega) ?_|refine z_A ?_|refine z_B ?_|refine z_C ?_|refine z_D ?_|refine z_E ?_|refine z_F ?_|refine z_G ?_|refine z_H ?_|refine z_I ?_)
      exact ⟨by rw [lesserP, if_neg (fun e => e.elim h1 fun e => h2 e.1)], rfl⟩
theorem nan69 (a : Txt) (w : World) : CallP Try.prog 74 #[tS a] (fun v w' => v = .bool false ∧ w = w') w := by
  refine ⟨S74.calls _ _ _ ?_⟩
  unfold S74
  refine tl_neq_f (fun e => e rfl) ?_
  exact ⟨rfl, rfl⟩
def cmpT (a b : Txt) : Int := if a < b then -1 else if b < a then 1 else 0
theorem cmp50 (a b : Txt) (w : World) : CallP Try.prog 65 #[tS a, tS b] (fun v w' => v = .int .i64 (cmpT a b) ∧ w = w') w := by
  refine ⟨S65.calls _ _ _ _ ?_⟩
  unfold S65
  refine (nan69 a w).mono ?_
  rintro _ _ ⟨rfl, rfl⟩
  refine (nan69 b w).mono ?_
  rintro _ _ ⟨rfl, rfl⟩
  (repeat with_reducible first|refine z_a ?_|refine z_b ?_|refine z_c ?_|refine z_d ?_|refine z_e ?_|refine z_f ?_|refine z_g ?_|refine z_h ?_|refine z_i ?_|refine z_j ?_|refine z_k ?_|refine z_l ?_|refine z_m (by omega) ?_|refine z_n (by omega) ?_|refine z_o (by omega) ?_|refine z_p (by omega) ?_|refine z_q (by omega) ?_|refine z_r (by omega) ?_|refine z_s (by omega) ?_|refine z_t (by omega) ?_|refine z_u (by omega) ?_|refine z_v (by omega) ?_|refine z_w (by omega) ?_|refine z_x (by omega) ?_|refine z_y (by omega) ?_|refine z_z (by omega) ?_|refine z_A ?_|refine z_B ?_|refine z_C ?_|refine z_D ?_|refine z_E ?_|refine z_F ?_|refine z_G ?_|refine z_H ?_|refine z_I ?_)
  refine tl_lss_c (fun h1 => ?_) (fun h1 => ?_)
  · (repeat with_reducible first|refine z_a ?_|refine z_b ?_|refine z_c ?_|refine z_d ?_|refine z_e ?_|refine z_f ?_|refine z_g ?_|refine z_h ?_|refine z_i ?_|refine z_j ?_|refine z_k ?_|refine z_l ?_|refine z_m (by omega) ?_|refine z_n (by omega) ?_|refine z_o (by omega) ?_|refine z_p (by omega) ?_|refine z_q (by omega) ?_|refine z_r (by omega) ?_|refine z_s (by omega) ?_|refine z_t (by omega) ?_|refine z_u (by omega) ?_|refine z_v (by omega) ?_|refine z_w (by omega) ?_|refine z_x (by omega) ?_|refine z_y (by omega) ?_|refine z_z (by omega) ?_|refine z_A ?_|refine z_B ?_|refine z_C ?_|refine z_D ?_|refine z_E ?_|refine z_F ?_|refine z_G ?_|refine z_H ?_|refine z_I ?_)
    exact ⟨by rw [cmpT, if_pos h1], rfl⟩
  · (repeat with_reducible first|refine z_a ?_|refine z_b ?_|refine z_c ?_|refine z_d ?_|refine z_e ?_|refine z_f ?_|refine z_g ?_|refine z_h ?_|refine z_i ?_|refine z_j ?_|refine z_k ?_|refine z_l ?_|refine z_m (by omega) ?_|refine z_n (by omega) ?_|refine z_o (by omega) ?_|refine z_p (by omega) ?_|refine z_q (by omega) ?_|refine z_r (by omega) ?_|refine z_s (by omega) ?_|refine z_t (by omega) ?_|refine z_u (by omega) ?_|refine z_v (by omega) ?_|refine z_w (by omega) ?_|refine z_x (by omega) ?_|refine z_y (by omega) ?_|refine z_z (by omega) ?_|refine z_A ?_|refine z_B ?_|refine z_C ?_|refine z_D ?_|refine z_E ?_|refine z_F ?_|refine z_G ?_|refine z_H ?_|refine z_I ?_)
    refine tl_gtr_c (fun h2 => ?_) (fun h2 => ?_)
    · (repeat with_reducible first|refine z_a ?_|refine z_b ?_|refine z_c ?_|refine z_d ?_|refine z_e ?_|refine z_f ?_|refine z_g ?_|refine z_h ?_|refine z_i ?_|refine z_j ?_|refine z_k ?_|refine z_l ?_|refine z_m (by omega) ?_|refine z_n (by omega) ?_|refine z_o (by omega) ?_|refine z_p (by omega) ?_|refine z_q (by omega) ?_|refine z_r (by omega) ?_|refine z_s (by omega) ?_|refine z_t (by omega) ?_|refine z_u (by omega) ?_|refine z_v (by omega) ?_|refine z_w (by omega) ?_|refine z_x (by omega) ?_|refine z_y (by omega) ?_|refine z_z (by omega) ?_|refine z_A ?_|refine z_B ?_|refine z_C ?_|refine z_D ?_|refine z_E ?_|refine z_F ?_|refine z_G ?_|refine z_H ?_|refine z_I ?_)
      exact ⟨by rw [cmpT, if_neg h1, if_pos h2], rfl⟩
    · (repeat with_reducible first|refine z_a ?_|refine z_b ?_|refine z_c ?_|refine z_d ?_|refine z_e ?_|refine z_f ?_|refine z_g ?_|refine z_h ?_|refine z_i ?_|refine z_j ?_|refine z_k ?_|refine z_l ?_|refine z_m (by omega) ?_|refine z_n (by omega) ?_|refine z_o (by omega) ?_|refine z_p (by omega) ?_|refine z_q (by omega) ?_|refine z_r (by omega) ?_|refine z_s (by omega) ?_|refine z_t (by omega) ?_|refine z_u (by omega) ?_|refine z_v (by omega) ?_|refine z_w (by omega) ?_|refine z_x (by omega) ?_|refine z_y (by omega) ?_|refine z_z (by omega) ?_|refine z_A ?_|refine z_B ?_|refine z_C ?_|refine z_D ?_|refine z_E ?_|refine z_F ?_|refine z_G ?_|refine z_H ?_|refine z_I ?_)
      exact ⟨by rw [cmpT, if_neg h1, if_neg h2], rfl⟩
end Go.Proofs.Ytcfncjejpjjhdaa.E
namespace Go.Proofs.Ytcfncjejpjjhdaa.E
open Go Go.RowKit
set_option linter.unusedSimpArgs false
set_option linter.unusedVariables false

def mtV (m : Option Rg) : Value := .tuple #[rgV (m.getD ([], [])), .bool m.isSome]
theorem meet12 (a b : Rg) (w : World) : CallP Try.prog 56 #[rgV a, rgV b] (fun v w' => v = mtV (meetP a b) ∧ Below w.heap.size w w') w := by
  refine ⟨S56.calls _ _ _ _ ?_⟩
  unfold S56
  refine bxB ?_
  intro gA w1 hgA hA1 ha1
  refine bxB ?_
  intro gB w2 hgB hB2 ha2
  refine alB z23 ?_
  intro gR w3 hgR hR3 ha3
  have hb2 := below_then ha1 ha2
  have hb3 := below_then hb2 ha3
  have hA2 := hA1.below' ha2
  have hA3 := hA2.below' ha3
  have hB3 := hB2.below' ha3
  have hs1 := ha1.size
  have hs2 := ha2.size
  have hdr : Below w3.heap.size w3 w3.drew := (Below.refl _ _).drew
  refine JoinP.cut (fun vs w' => ∃ g, vs = [.pointer (some ⟨g, 0, none⟩)] ∧ Blk w' g 32 (rgA (maxP a.1 b.1, lesserP a.2 b.2)) ∧ Below w3.heap.size w3 w') (fun J hJ => ?_) (fun vs w4 hI => ?_)
  · refine draw (Below w3.heap.size w3) hdr ?_
    have a0 : ∀ w', Below w3.heap.size w3 w' → w'.cell? ⟨gA, 0, none⟩ = some (tS a.1) := fun w' h => (hA3.below' h).cell 0
    have a1 : ∀ w', Below w3.heap.size w3 w' → w'.cell? ⟨gA, 1, none⟩ = some (tS a.2) := fun w' h => (hA3.below' h).cell 1
    have b0 : ∀ w', Below w3.heap.size w3 w' → w'.cell? ⟨gB, 0, none⟩ = some (tS b.1) := fun w' h => (hB3.below' h).cell 0
    have b1 : ∀ w', Below w3.heap.size w3 w' → w'.cell? ⟨gB, 1, none⟩ = some (tS b.2) := fun w' h => (hB3.below' h).cell 1
    refine yfd g0 (by decide) ?_
    refine yl1 one9 a0 ?_
    refine yfd g0 (by decide) ?_
    refine yl1 one9 b0 ?_
    refine ytmax ?_
    refine yfd g1 (by decide) ?_
    refine yl1 one9 a1 ?_
    refine yfd g1 (by decide) ?_
    refine yl1 one9 b1 ?_
    generalize w3.drew = w4 at *
    have hs4 := hdr.size
    have hm : (if a.1 < b.1 then b.1 else a.1) = maxP a.1 b.1 := rfl
    rw [hm]
    refine ⟨?_, ?_⟩
    · refine act ?_
      refine (lesser43 _ _ _).mono ?_
      rintro _ _ ⟨rfl, rfl⟩
      refine ⟨_, hdr, fun _ h => h, ?_⟩
      refine ⟨?_, ?_⟩
      · refine act ?_
        refine bd (cells := rgA (maxP a.1 b.1, lesserP a.2 b.2)) (by kernel_rfl) ?_
        refine ⟨_, hdr, fun _ h => h, ?_⟩
        refine act ?_
        refine alB z23 ?_
        intro g w5 hg hM5 h5
        refine ⟨_, below_then hdr h5, fun _ h => h, ?_⟩
        refine act ?_
        refine stB hM5 (by rw [sz23]; rfl) (by rfl) (rgA_one _) ?_
        intro w6 hM6 hT6
        have hb6 := below_own (below_then hdr h5) hT6 (by omega)
        refine ⟨_, hb6, fun _ h => h, ?_⟩
        exact hJ _ _ ⟨g, rfl, hM6, hb6⟩
      · refine ⟨?_, trivial⟩
        refine act ?_
        refine alB z23 ?_
        intro g w5 hg hM5 h5
        refine ⟨_, below_then hdr h5, fun _ h => h, ?_⟩
        refine act ?_
        refine bd (cells := rgA (maxP a.1 b.1, lesserP a.2 b.2)) (by kernel_rfl) ?_
        refine ⟨_, below_then hdr h5, fun _ h => h, ?_⟩
        refine act ?_
        refine stB hM5 (by rw [sz23]; rfl) (by rfl) (rgA_one _) ?_
        intro w6 hM6 hT6
        have hb6 := below_own (below_then hdr h5) hT6 (by omega)
        refine ⟨_, hb6, fun _ h => h, ?_⟩
        exact hJ _ _ ⟨g, rfl, hM6, hb6⟩
    · refine ⟨?_, trivial⟩
      refine act ?_
      refine alB z23 ?_
      intro g w5 hg hM5 h5
      refine ⟨_, below_then hdr h5, fun _ h => h, ?_⟩
      refine act ?_
      refine (lesser43 _ _ _).mono ?_
      rintro _ _ ⟨rfl, rfl⟩
      refine ⟨_, below_then hdr h5, fun _ h => h, ?_⟩
      refine act ?_
      refine bd (cells := rgA (maxP a.1 b.1, lesserP a.2 b.2)) (by kernel_rfl) ?_
      refine ⟨_, below_then hdr h5, fun _ h => h, ?_⟩
      refine act ?_
      refine stB hM5 (by rw [sz23]; rfl) (by rfl) (rgA_one _) ?_
      intro w6 hM6 hT6
      have hb6 := below_own (below_then hdr h5) hT6 (by omega)
      refine ⟨_, hb6, fun _ h => h, ?_⟩
      exact hJ _ _ ⟨g, rfl, hM6, hb6⟩
  · obtain ⟨g, rfl, hM4, hb4⟩ := hI
    dsimp only [List.headD_cons, List.tail_cons]
    have hA4 := hA3.below' hb4
    have hB4 := hB3.below' hb4
    have hR4 := hR3.below' hb4
    have hb4' := below_then hb3 hb4
    have hgR' : w.heap.size ≤ gR := by omega
    refine ldA agg23 hA4 (by rw [sz23]; rfl) ?_
    refine (empty14 a w4).mono ?_
    rintro _ w5 ⟨rfl, h5⟩
    have hb5 := below_then hb4' h5
    refine (Classical.em (emptyR a)).elim (fun e1 => ?a1) (fun e1 => ?a2)
    case' a1 =>
      rw [decide_eq_true e1]
      (repeat with_reducible first|refine z_a ?_|refine z_b ?_|refine z_c ?_|refine z_d ?_|refine z_e ?_|refine z_f ?_|refine z_g ?_|refine z_h ?_|refine z_i ?_|refine z_j ?_|refine z_k ?_|refine z_l ?_|refine z_m (by omega) ?_|refine z_n (by omega) ?_|refine z_o (by omega) ?_|refine z_p (by omega) ?_|refine z_q (by omega) ?_|refine z_r (by omega) ?_|refine z_s (by omega) ?_|refine z_t (by omega) ?_|refine z_u (by omega) ?_|refine z_v (by omega) ?_|refine z_w (by omega) ?_|refine z_x (by omega) ?_|refine z_y (by omega) ?_|refine z_z (by omega) ?_|refine z_A ?_|refine z_B ?_|refine z_C ?_|refine z_D ?_|refine z_E ?_|refine z_F ?_|refine z_G ?_|refine z_H ?_|refine z_I ?_)
      have hN : meetP a b = none := by rw [meetP, if_pos (.inl e1)]
      have hb9 := hb5
      have hR9 := hR4.below' h5
      clear hb5 h5
    case' a2 =>
      rw [decide_eq_false e1]
      (repeat with_reducible first|refine z_a ?_|refine z_b ?_|refine z_c ?_|refine z_d ?_|refine z_e ?_|refine z_f ?_|refine z_g ?_|refine z_h ?_|refine z_i ?_|refine z_j ?_|refine z_k ?_|refine z_l ?_|refine z_m (by omega) ?_|refine z_n (by omega) ?_|refine z_o (by omega) ?_|refine z_p (by omega) ?_|refine z_q (by omega) ?_|refine z_r (by omega) ?_|refine z_s (by omega) ?_|refine z_t (by omega) ?_|refine z_u (by omega) ?_|refine z_v (by omega) ?_|refine z_w (by omega) ?_|refine z_x (by omega) ?_|refine z_y (by omega) ?_|refine z_z (by omega) ?_|refine z_A ?_|refine z_B ?_|refine z_C ?_|refine z_D ?_|refine z_E ?_|refine z_F ?_|refine z_G ?_|refine z_H ?_|refine z_I ?_)
      refine ldA agg23 (hB4.below' h5) (by rw [sz23]; rfl) ?_
      (repeat with_reducible first|refine z_a ?_|refine z_b ?_|refine z_c ?_|refine z_d ?_|refine z_e ?_|refine z_f ?_|refine z_g ?_|refine z_h ?_|refine z_i ?_|refine z_j ?_|refine z_k ?_|refine z_l ?_|refine z_m (by omega) ?_|refine z_n (by omega) ?_|refine z_o (by omega) ?_|refine z_p (by omega) ?_|refine z_q (by omega) ?_|refine z_r (by omega) ?_|refine z_s (by omega) ?_|refine z_t (by omega) ?_|refine z_u (by omega) ?_|refine z_v (by omega) ?_|refine z_w (by omega) ?_|refine z_x (by omega) ?_|refine z_y (by omega) ?_|refine z_z (by omega) ?_|refine z_A ?_|refine z_B ?_|refine z_C ?_|refine z_D ?_|refine z_E ?_|refine z_F ?_|refine z_G ?_|refine z_H ?_|refine z_I ?_)
      refine (empty14 b w5).mono ?_
      rintro _ w6 ⟨rfl, h6⟩
      have h6' := below_then h5 h6
      have hb6 := below_then hb5 h6
      refine (Classical.em (emptyR b)).elim (fun e2 => ?b1) (fun e2 => ?b2)
    case' b1 =>
      rw [decide_eq_true e2]
      (repeat with_reducible first|refine z_a ?_|refine z_b ?_|refine z_c ?_|refine z_d ?_|refine z_e ?_|refine z_f ?_|refine z_g ?_|refine z_h ?_|refine z_i ?_|refine z_j ?_|refine z_k ?_|refine z_l ?_|refine z_m (by omega) ?_|refine z_n (by omega) ?_|refine z_o (by omega) ?_|refine z_p (by omega) ?_|refine z_q (by omega) ?_|refine z_r (by omega) ?_|refine z_s (by omega) ?_|refine z_t (by omega) ?_|refine z_u (by omega) ?_|refine z_v (by omega) ?_|refine z_w (by omega) ?_|refine z_x (by omega) ?_|refine z_y (by omega) ?_|refine z_z (by omega) ?_|refine z_A ?_|refine z_B ?_|refine z_C ?_|refine z_D ?_|refine z_E ?_|refine z_F ?_|refine z_G ?_|refine z_H ?_|refine z_I ?_)
      have hN : meetP a b = none := by rw [meetP, if_pos (.inr (.inl e2))]
      have hb9 := hb6
      have hR9 := hR4.below' h6'
      clear hb5 h5 h6 hb6 h6'
    case' b2 =>
      rw [decide_eq_false e2]
      (repeat with_reducible first|refine z_a ?_|refine z_b ?_|refine z_c ?_|refine z_d ?_|refine z_e ?_|refine z_f ?_|refine z_g ?_|refine z_h ?_|refine z_i ?_|refine z_j ?_|refine z_k ?_|refine z_l ?_|refine z_m (by omega) ?_|refine z_n (by omega) ?_|refine z_o (by omega) ?_|refine z_p (by omega) ?_|refine z_q (by omega) ?_|refine z_r (by omega) ?_|refine z_s (by omega) ?_|refine z_t (by omega) ?_|refine z_u (by omega) ?_|refine z_v (by omega) ?_|refine z_w (by omega) ?_|refine z_x (by omega) ?_|refine z_y (by omega) ?_|refine z_z (by omega) ?_|refine z_A ?_|refine z_B ?_|refine z_C ?_|refine z_D ?_|refine z_E ?_|refine z_F ?_|refine z_G ?_|refine z_H ?_|refine z_I ?_)
      refine ldA agg23 (hM4.below' h6') (by rw [sz23]; rfl) ?_
      (repeat with_reducible first|refine z_a ?_|refine z_b ?_|refine z_c ?_|refine z_d ?_|refine z_e ?_|refine z_f ?_|refine z_g ?_|refine z_h ?_|refine z_i ?_|refine z_j ?_|refine z_k ?_|refine z_l ?_|refine z_m (by omega) ?_|refine z_n (by omega) ?_|refine z_o (by omega) ?_|refine z_p (by omega) ?_|refine z_q (by omega) ?_|refine z_r (by omega) ?_|refine z_s (by omega) ?_|refine z_t (by omega) ?_|refine z_u (by omega) ?_|refine z_v (by omega) ?_|refine z_w (by omega) ?_|refine z_x (by omega) ?_|refine z_y (by omega) ?_|refine z_z (by omega) ?_|refine z_A ?_|refine z_B ?_|refine z_C ?_|refine z_D ?_|refine z_E ?_|refine z_F ?_|refine z_G ?_|refine z_H ?_|refine z_I ?_)
      refine (empty14 _ w6).mono ?_
      rintro _ w7 ⟨rfl, h7⟩
      have h7' := below_then h6' h7
      have hb7 := below_then hb6 h7
      refine (Classical.em (emptyR (maxP a.1 b.1, lesserP a.2 b.2))).elim (fun e3 => ?c1) (fun e3 => ?c2)
    case' c1 =>
      rw [decide_eq_true e3]
      (repeat with_reducible first|refine z_a ?_|refine z_b ?_|refine z_c ?_|refine z_d ?_|refine z_e ?_|refine z_f ?_|refine z_g ?_|refine z_h ?_|refine z_i ?_|refine z_j ?_|refine z_k ?_|refine z_l ?_|refine z_m (by omega) ?_|refine z_n (by omega) ?_|refine z_o (by omega) ?_|refine z_p (by omega) ?_|refine z_q (by omega) ?_|refine z_r (by omega) ?_|refine z_s (by omega) ?_|refine z_t (by omega) ?_|refine z_u (by omega) ?_|refine z_v (by omega) ?_|refine z_w (by omega) ?_|refine z_x (by omega) ?_|refine z_y (by omega) ?_|refine z_z (by omega) ?_|refine z_A ?_|refine z_B ?_|refine z_C ?_|refine z_D ?_|refine z_E ?_|refine z_F ?_|refine z_G ?_|refine z_H ?_|refine z_I ?_)
      have hN : meetP a b = none := by rw [meetP, if_pos (.inr (.inr e3))]
      have hb9 := hb7
      have hR9 := hR4.below' h7'
      clear hb5 h5 h6 hb6 h6' h7 hb7 h7'
    case c2 =>
      rw [decide_eq_false e3]
      (repeat with_reducible first|refine z_a ?_|refine z_b ?_|refine z_c ?_|refine z_d ?_|refine z_e ?_|refine z_f ?_|refine z_g ?_|refine z_h ?_|refine z_i ?_|refine z_j ?_|refine z_k ?_|refine z_l ?_|refine z_m (by omega) ?_|refine z_n (by omega) ?_|refine z_o (by omega) ?_|refine z_p (by omega) ?_|refine z_q (by omega) ?_|refine z_r (by omega) ?_|refine z_s (by omega) ?_|refine z_t (by omega) ?_|refine z_u (by omega) ?_|refine z_v (by omega) ?_|refine z_w (by omega) ?_|refine z_x (by omega) ?_|refine z_y (by omega) ?_|refine z_z (by omega) ?_|refine z_A ?_|refine z_B ?_|refine z_C ?_|refine z_D ?_|refine z_E ?_|refine z_F ?_|refine z_G ?_|refine z_H ?_|refine z_I ?_)
      have hN : meetP a b = some (maxP a.1 b.1, lesserP a.2 b.2) := by rw [meetP, if_neg (fun h => h.elim e1 fun h => h.elim e2 e3)]
      refine ldA agg23 (hM4.below' h7') (by rw [sz23]; rfl) ?_
      refine stB (hR4.below' h7') (by rw [sz23]; rfl) (by rfl) (rgA_one _) ?_
      intro w8 hR8 hT8
      refine retA agg23 hR8 (by rw [sz23]; rfl) ?_
      exact ⟨by rw [hN]; rfl, below_own hb7 hT8 hgR'⟩
    all_goals
      refine bd (cells := rgA ([], [])) (by kernel_rfl) ?_
      refine stB hR9 (by rw [sz23]; rfl) (by rfl) (rgA_one _) ?_
      intro w8 hR8 hT8
      refine retA agg23 hR8 (by rw [sz23]; rfl) ?_
      exact ⟨by rw [hN]; rfl, below_own hb9 hT8 hgR'⟩
end Go.Proofs.Ytcfncjejpjjhdaa.E
namespace Go.Proofs.Ytcfncjejpjjhdaa.E
open Go Go.RowKit
set_option linter.unusedSimpArgs false
set_option linter.unusedVariables false

abbrev RgR : Rdr (List Rg) := rRow 2 (fun _ us x => us = rgF x)
abbrev TxR : Rdr (List Txt) := rRow 1 (fun _ us x => us = [tS x])
abbrev BoR : Rdr (List Bool) := rRow 1 (fun _ us x => us = [.bool x])
theorem keeps_RgR : Keeps RgR := keeps_Row (fun _ _ _ _ _ h => h)
theorem keeps_TxR : Keeps TxR := keeps_Row (fun _ _ _ _ _ h => h)
theorem keeps_BoR : Keeps BoR := keeps_Row (fun _ _ _ _ _ h => h)
theorem RgR.kept {w w' : World} {v : Value} {l : List Rg} (h : RgR w [v] l) (hb : Below w.heap.size w w') : RgR w' [v] l := keeps_RgR _ _ _ _ hb h
theorem TxR.kept {w w' : World} {v : Value} {l : List Txt} (h : TxR w [v] l) (hb : Below w.heap.size w w') : TxR w' [v] l := keeps_TxR _ _ _ _ hb h
theorem BoR.kept {w w' : World} {v : Value} {l : List Bool} (h : BoR w [v] l) (hb : Below w.heap.size w w') : BoR w' [v] l := keeps_BoR _ _ _ _ hb h
theorem add_0 (a : Addr) : a.add 0 = a := by
  obtain ⟨b, o, s⟩ := a
  cases s <;> rfl
theorem RgR.at {w : World} {A : Option Addr} {n c : Nat} {l : List Rg} (h : RgR w [.slice A n c] l) (i : Nat) (hi : i < l.length) :
    ∃ a, A = some a ∧ (∀ j u, (rgF l[i])[j]? = some u → w.cell? ((a.add (i * 2)).add j) = some u) := by
  obtain ⟨a, us, ha, _, hc, rfl⟩ := rRow.at h i hi
  exact ⟨a, ha, hc⟩
theorem TxR.at {w : World} {A : Option Addr} {n c : Nat} {l : List Txt} (h : TxR w [.slice A n c] l) (i : Nat) (hi : i < l.length) :
    ∃ a, A = some a ∧ w.cell? (a.add (i * 1)) = some (tS l[i]) := by
  obtain ⟨a, us, ha, _, hc, rfl⟩ := rRow.at h i hi
  have h0 := hc 0 _ rfl
  rw [add_0] at h0
  exact ⟨a, ha, h0⟩
theorem BoR.at {w : World} {A : Option Addr} {n c : Nat} {l : List Bool} (h : BoR w [.slice A n c] l) (i : Nat) (hi : i < l.length) :
    ∃ a, A = some a ∧ w.cell? (a.add (i * 1)) = some (.bool l[i]) := by
  obtain ⟨a, us, ha, _, hc, rfl⟩ := rRow.at h i hi
  have h0 := hc 0 _ rfl
  rw [add_0] at h0
  exact ⟨a, ha, h0⟩
theorem mem_take_succ {α : Type} {l : List α} {k : Nat} (hk : k < l.length) {x : α} (h : x ∈ l.take (k + 1)) : x ∈ l.take k ∨ x = l[k] := by
  rw [List.take_succ_eq_append_getElem hk] at h
  rcases List.mem_append.1 h with h | h
  · exact .inl h
  · exact .inr (by simpa using h)
theorem in51 (v : Value) (l : List Rg) (s : Txt) (w : World) (hv : RgR w [v] l) : CallP Try.prog 33 #[v, tS s] (fun r w' => r = .bool (decide (inL l s)) ∧ Below w.heap.size w w') w := by
  obtain ⟨A, c, rfl, hc, hm⟩ := hv.slice
  refine ⟨S33.calls _ _ _ _ ?_⟩
  unfold S33
  refine LoopP.inv1 (fun iv w' => ∃ k : Nat, k ≤ l.length ∧ iv = .int .i64 k ∧ (∀ x ∈ l.take k, ¬ hasR x s) ∧ Below w.heap.size w w') (fun iv _ => l.length - (intOf iv).toNat) ⟨0, by omega, rfl, by simp, Below.refl _ _⟩ ?_
  rintro _ w1 ⟨k, hk, rfl, hall, hb1⟩ J hJ
  dsimp only [List.headD_cons, List.tail_cons]
  refine ln und26 ?_
  refine bi_lss_c (fun h => ?_) (fun h => ?_)
  · have hk' : k < l.length := by omega
    obtain ⟨a, rfl, hcell⟩ := (hv.kept hb1).at k hk'
    (repeat with_reducible first | refine ixN und26 sz23 k hk' ?_|refine z_a ?_|refine z_b ?_|refine z_c ?_|refine z_d ?_|refine z_e ?_|refine z_f ?_|refine z_g ?_|refine z_h ?_|refine z_i ?_|refine z_j ?_|refine z_k ?_|refine z_l ?_|refine z_m (by omega) ?_|refine z_n (by omega) ?_|refine z_o (by omega) ?_|refine z_p (by omega) ?_|refine z_q (by omega) ?_|refine z_r (by omega) ?_|refine z_s (by omega) ?_|refine z_t (by omega) ?_|refine z_u (by omega) ?_|refine z_v (by omega) ?_|refine z_w (by omega) ?_|refine z_x (by omega) ?_|refine z_y (by omega) ?_|refine z_z (by omega) ?_|refine z_A ?_|refine z_B ?_|refine z_C ?_|refine z_D ?_|refine z_E ?_|refine z_F ?_|refine z_G ?_|refine z_H ?_|refine z_I ?_)
    refine ldR (us := rgF l[k]) agg23 hcell (by rw [sz23]; rfl) ?_
    refine (has17 l[k] s w1).mono ?_
    rintro _ w2 ⟨rfl, hb2⟩
    by_cases hh : hasR l[k] s
    · rw [decide_eq_true hh]
      (repeat with_reducible first|refine z_a ?_|refine z_b ?_|refine z_c ?_|refine z_d ?_|refine z_e ?_|refine z_f ?_|refine z_g ?_|refine z_h ?_|refine z_i ?_|refine z_j ?_|refine z_k ?_|refine z_l ?_|refine z_m (by omega) ?_|refine z_n (by omega) ?_|refine z_o (by omega) ?_|refine z_p (by omega) ?_|refine z_q (by omega) ?_|refine z_r (by omega) ?_|refine z_s (by omega) ?_|refine z_t (by omega) ?_|refine z_u (by omega) ?_|refine z_v (by omega) ?_|refine z_w (by omega) ?_|refine z_x (by omega) ?_|refine z_y (by omega) ?_|refine z_z (by omega) ?_|refine z_A ?_|refine z_B ?_|refine z_C ?_|refine z_D ?_|refine z_E ?_|refine z_F ?_|refine z_G ?_|refine z_H ?_|refine z_I ?_)
      exact ⟨tB ⟨_, List.getElem_mem hk', hh⟩, below_then hb1 hb2⟩
    · rw [decide_eq_false hh]
      (repeat with_reducible first|refine z_a ?_|refine z_b ?_|refine z_c ?_|refine z_d ?_|refine z_e ?_|refine z_f ?_|refine z_g ?_|refine z_h ?_|refine z_i ?_|refine z_j ?_|refine z_k ?_|refine z_l ?_|refine z_m (by omega) ?_|refine z_n (by omega) ?_|refine z_o (by omega) ?_|refine z_p (by omega) ?_|refine z_q (by omega) ?_|refine z_r (by omega) ?_|refine z_s (by omega) ?_|refine z_t (by omega) ?_|refine z_u (by omega) ?_|refine z_v (by omega) ?_|refine z_w (by omega) ?_|refine z_x (by omega) ?_|refine z_y (by omega) ?_|refine z_z (by omega) ?_|refine z_A ?_|refine z_B ?_|refine z_C ?_|refine z_D ?_|refine z_E ?_|refine z_F ?_|refine z_G ?_|refine z_H ?_|refine z_I ?_)
      refine hJ _ _ ⟨k + 1, by omega, by simp, fun x hx => ?_, below_then hb1 hb2⟩ (by simp [intOf]; omega)
      rcases mem_take_succ hk' hx with hx | rfl
      · exact hall x hx
      · exact hh
  · (repeat with_reducible first|refine z_a ?_|refine z_b ?_|refine z_c ?_|refine z_d ?_|refine z_e ?_|refine z_f ?_|refine z_g ?_|refine z_h ?_|refine z_i ?_|refine z_j ?_|refine z_k ?_|refine z_l ?_|refine z_m (by omega) ?_|refine z_n (by omega) ?_|refine z_o (by omega) ?_|refine z_p (by omega) ?_|refine z_q (by omega) ?_|refine z_r (by omega) ?_|refine z_s (by omega) ?_|refine z_t (by omega) ?_|refine z_u (by omega) ?_|refine z_v (by omega) ?_|refine z_w (by omega) ?_|refine z_x (by omega) ?_|refine z_y (by omega) ?_|refine z_z (by omega) ?_|refine z_A ?_|refine z_B ?_|refine z_C ?_|refine z_D ?_|refine z_E ?_|refine z_F ?_|refine z_G ?_|refine z_H ?_|refine z_I ?_)
    have : k = l.length := by omega
    subst this
    rw [List.take_length] at hall
    exact ⟨fB fun ⟨r, hr, hh⟩ => hall r hr hh, hb1⟩
end Go.Proofs.Ytcfncjejpjjhdaa.E
namespace Go.Proofs.Ytcfncjejpjjhdaa.E
open Go Go.RowKit
set_option linter.unusedSimpArgs false
set_option linter.unusedVariables false

theorem tS_list (t : Txt) : (⟨t.toArray⟩ : ByteArray).toList = t := by
  rw [ByteArray.toList_eq]
theorem run_eq23 (x y : Rg) (w : World) : (Op.eqFields 9999 (rgA x) (rgA y) (Try.prog.fieldsOf 32).toList).run Try.prog w = .ok (decide (x = y)) w := by
  have e : (Try.prog.fieldsOf 32).toList = [(Try.prog.fieldsOf 32)[0]!, (Try.prog.fieldsOf 32)[1]!] := by kernel_rfl
  rw [e]
  have t0 : ((Try.prog.fieldsOf 32)[0]!).type = 9 := by kernel_rfl
  have t1 : ((Try.prog.fieldsOf 32)[1]!).type = 9 := by kernel_rfl
  have o0 : ((Try.prog.fieldsOf 32)[0]!).offset = 0 := by kernel_rfl
  have o1 : ((Try.prog.fieldsOf 32)[1]!).offset = 1 := by kernel_rfl
  have hs : decide (x = y) = ((⟨x.1.toArray⟩ : ByteArray).toList == (⟨y.1.toArray⟩ : ByteArray).toList && ((⟨x.2.toArray⟩ : ByteArray).toList == (⟨y.2.toArray⟩ : ByteArray).toList && true)) := by
    rw [tS_list, tS_list, tS_list, tS_list]
    obtain ⟨a, b⟩ := x
    obtain ⟨c, d⟩ := y
    by_cases h1 : a = c <;> by_cases h2 : b = d <;> simp [h1, h2]
  rw [hs]
  refine eqFields_cons (by decide +kernel) (by rw [t0]; exact und9) rfl (u := tS x.1) (u' := tS y.1) (by rw [o0]; rfl) (by rw [o0]; rfl) (by rw [t0]; exact run_equalIn_string w 9998 9 _ _ und9) ?_
  refine eqFields_cons (by decide +kernel) (by rw [t1]; exact und9) rfl (u := tS x.2) (u' := tS y.2) (by rw [o1]; rfl) (by rw [o1]; rfl) (by rw [t1]; exact run_equalIn_string w 9998 9 _ _ und9) ?_
  simp [Op.eqFields]
theorem guard23 : Try.prog.eqGuardType Try.prog.depth 32 = false := by kernel_rfl
theorem fields23 : Try.prog.underlying 32 = some (.struct (Try.prog.fieldsOf 32)) := by kernel_rfl
theorem held23 : Try.prog.stoodInHeld 32 = false := by kernel_rfl
theorem pr_neq23 {x' y' : Operand} (x y : Rg) : PR Try.prog (binS .neq 32 x' y' (rgV x) (rgV y)) (.bool (decide (x ≠ y))) := by
  intro w
  simp only [binS, Sem.run_bind, rgV, run_eqGuard_agg w .neq 32 x' y' (rgA x) (rgA y) guard23, Result.andThen_ok]
  rw [run_neq_struct, run_equalIn_agg w 9999 32 _ _ fields23 held23, run_eq23]
  by_cases h : x = y <;> simp [h]
theorem pr_eql23 {x' y' : Operand} (x y : Rg) : PR Try.prog (binS .eql 32 x' y' (rgV x) (rgV y)) (.bool (decide (x = y))) := by
  intro w
  simp only [binS, Sem.run_bind, rgV, run_eqGuard_agg w .eql 32 x' y' (rgA x) (rgA y) guard23, Result.andThen_ok]
  rw [run_eql_struct, run_equalIn_agg w 9999 32 _ _ fields23 held23, run_eq23]
  rfl
theorem same20 (v v' : Value) (l l' : List Rg) (w : World) (hv : RgR w [v] l) (hv' : RgR w [v'] l') : CallP Try.prog 42 #[v, v'] (fun r w' => r = .bool (decide (l = l')) ∧ Below w.heap.size w w') w := by
  obtain ⟨A, c, rfl, hc, hm⟩ := hv.slice
  obtain ⟨A', c', rfl, hc', hm'⟩ := hv'.slice
  refine ⟨S42.calls _ _ _ _ ?_⟩
  unfold S42
  refine ln und26 ?_
  refine ln und26 ?_
  refine bi_neq_c (fun h => ?_) (fun h => ?_)
  · (repeat with_reducible first|refine z_a ?_|refine z_b ?_|refine z_c ?_|refine z_d ?_|refine z_e ?_|refine z_f ?_|refine z_g ?_|refine z_h ?_|refine z_i ?_|refine z_j ?_|refine z_k ?_|refine z_l ?_|refine z_m (by omega) ?_|refine z_n (by omega) ?_|refine z_o (by omega) ?_|refine z_p (by omega) ?_|refine z_q (by omega) ?_|refine z_r (by omega) ?_|refine z_s (by omega) ?_|refine z_t (by omega) ?_|refine z_u (by omega) ?_|refine z_v (by omega) ?_|refine z_w (by omega) ?_|refine z_x (by omega) ?_|refine z_y (by omega) ?_|refine z_z (by omega) ?_|refine z_A ?_|refine z_B ?_|refine z_C ?_|refine z_D ?_|refine z_E ?_|refine z_F ?_|refine z_G ?_|refine z_H ?_|refine z_I ?_)
    exact ⟨fB fun e => h (by rw [e]), Below.refl _ _⟩
  have hlen : l.length = l'.length := by omega
  (repeat with_reducible first|refine z_a ?_|refine z_b ?_|refine z_c ?_|refine z_d ?_|refine z_e ?_|refine z_f ?_|refine z_g ?_|refine z_h ?_|refine z_i ?_|refine z_j ?_|refine z_k ?_|refine z_l ?_|refine z_m (by omega) ?_|refine z_n (by omega) ?_|refine z_o (by omega) ?_|refine z_p (by omega) ?_|refine z_q (by omega) ?_|refine z_r (by omega) ?_|refine z_s (by omega) ?_|refine z_t (by omega) ?_|refine z_u (by omega) ?_|refine z_v (by omega) ?_|refine z_w (by omega) ?_|refine z_x (by omega) ?_|refine z_y (by omega) ?_|refine z_z (by omega) ?_|refine z_A ?_|refine z_B ?_|refine z_C ?_|refine z_D ?_|refine z_E ?_|refine z_F ?_|refine z_G ?_|refine z_H ?_|refine z_I ?_)
  refine LoopP.inv1 (fun iv w' => ∃ k : Nat, k ≤ l.length ∧ iv = .int .i64 k ∧ l.take k = l'.take k ∧ Below w.heap.size w w') (fun iv _ => l.length - (intOf iv).toNat) ⟨0, by omega, rfl, by simp, Below.refl _ _⟩ ?_
  rintro _ w1 ⟨k, hk, rfl, hall, hb1⟩ J hJ
  dsimp only [List.headD_cons, List.tail_cons]
  refine ln und26 ?_
  refine bi_lss_c (fun h => ?_) (fun h => ?_)
  · have hk' : k < l.length := by omega
    have hk2 : k < l'.length := by omega
    obtain ⟨a, rfl, hcell⟩ := (hv.kept hb1).at k hk'
    obtain ⟨a', rfl, hcell'⟩ := (hv'.kept hb1).at k hk2
    have hdr : Below w1.heap.size w1 w1.drew := (Below.refl _ _).drew
    (repeat with_reducible first|refine z_a ?_|refine z_b ?_|refine z_c ?_|refine z_d ?_|refine z_e ?_|refine z_f ?_|refine z_g ?_|refine z_h ?_|refine z_i ?_|refine z_j ?_|refine z_k ?_|refine z_l ?_|refine z_m (by omega) ?_|refine z_n (by omega) ?_|refine z_o (by omega) ?_|refine z_p (by omega) ?_|refine z_q (by omega) ?_|refine z_r (by omega) ?_|refine z_s (by omega) ?_|refine z_t (by omega) ?_|refine z_u (by omega) ?_|refine z_v (by omega) ?_|refine z_w (by omega) ?_|refine z_x (by omega) ?_|refine z_y (by omega) ?_|refine z_z (by omega) ?_|refine z_A ?_|refine z_B ?_|refine z_C ?_|refine z_D ?_|refine z_E ?_|refine z_F ?_|refine z_G ?_|refine z_H ?_|refine z_I ?_)
    refine draw (Below w1.heap.size w1) hdr ?_
    refine yixA und26 sz23 k hk' ?_
    refine yldR agg23 (keepC hcell) (by rw [sz23]; rfl) ?_
    refine yixA und26 sz23 k hk2 ?_
    refine yldR agg23 (keepC hcell') (by rw [sz23]; rfl) ?_
    refine yofPR (pr_neq23 l[k] l'[k]) ?_
    by_cases he : l[k] ≠ l'[k]
    · rw [decide_eq_true he]
      (repeat with_reducible first|refine z_a ?_|refine z_b ?_|refine z_c ?_|refine z_d ?_|refine z_e ?_|refine z_f ?_|refine z_g ?_|refine z_h ?_|refine z_i ?_|refine z_j ?_|refine z_k ?_|refine z_l ?_|refine z_m (by omega) ?_|refine z_n (by omega) ?_|refine z_o (by omega) ?_|refine z_p (by omega) ?_|refine z_q (by omega) ?_|refine z_r (by omega) ?_|refine z_s (by omega) ?_|refine z_t (by omega) ?_|refine z_u (by omega) ?_|refine z_v (by omega) ?_|refine z_w (by omega) ?_|refine z_x (by omega) ?_|refine z_y (by omega) ?_|refine z_z (by omega) ?_|refine z_A ?_|refine z_B ?_|refine z_C ?_|refine z_D ?_|refine z_E ?_|refine z_F ?_|refine z_G ?_|refine z_H ?_|refine z_I ?_)
      exact ⟨fB fun e => he (by subst e; rfl), below_then hb1 hdr⟩
    · rw [decide_eq_false he]
      (repeat with_reducible first|refine z_a ?_|refine z_b ?_|refine z_c ?_|refine z_d ?_|refine z_e ?_|refine z_f ?_|refine z_g ?_|refine z_h ?_|refine z_i ?_|refine z_j ?_|refine z_k ?_|refine z_l ?_|refine z_m (by omega) ?_|refine z_n (by omega) ?_|refine z_o (by omega) ?_|refine z_p (by omega) ?_|refine z_q (by omega) ?_|refine z_r (by omega) ?_|refine z_s (by omega) ?_|refine z_t (by omega) ?_|refine z_u (by omega) ?_|refine z_v (by omega) ?_|refine z_w (by omega) ?_|refine z_x (by omega) ?_|refine z_y (by omega) ?_|refine z_z (by omega) ?_|refine z_A ?_|refine z_B ?_|refine z_C ?_|refine z_D ?_|refine z_E ?_|refine z_F ?_|refine z_G ?_|refine z_H ?_|refine z_I ?_)
      refine hJ _ _ ⟨k + 1, by omega, by simp, ?_, below_then hb1 hdr⟩ (by simp [intOf]; omega)
      rw [List.take_succ_eq_append_getElem hk', List.take_succ_eq_append_getElem hk2, hall, Classical.not_not.1 he]
  · (repeat with_reducible first|refine z_a ?_|refine z_b ?_|refine z_c ?_|refine z_d ?_|refine z_e ?_|refine z_f ?_|refine z_g ?_|refine z_h ?_|refine z_i ?_|refine z_j ?_|refine z_k ?_|refine z_l ?_|refine z_m (by omega) ?_|refine z_n (by omega) ?_|refine z_o (by omega) ?_|refine z_p (by omega) ?_|refine z_q (by omega) ?_|refine z_r (by omega) ?_|refine z_s (by omega) ?_|refine z_t (by omega) ?_|refine z_u (by omega) ?_|refine z_v (by omega) ?_|refine z_w (by omega) ?_|refine z_x (by omega) ?_|refine z_y (by omega) ?_|refine z_z (by omega) ?_|refine z_A ?_|refine z_B ?_|refine z_C ?_|refine z_D ?_|refine z_E ?_|refine z_F ?_|refine z_G ?_|refine z_H ?_|refine z_I ?_)
    have : k = l.length := by omega
    subst this
    rw [List.take_length, hlen, List.take_length] at hall
    exact ⟨tB hall, hb1⟩
/-- The first place where p is so. -/
def FirstP (p : Rg → Bool) (l : List Rg) (v : Value) : Prop := (∃ (k : Nat) (hk : k < l.length), v = .int .i64 k ∧ p l[k] = true ∧ ∀ x ∈ l.take k, p x = false) ∨ (v = .int .i64 (-1) ∧ ∀ x ∈ l, p x = false)
/-- What a predicate does, in worlds that came of one. -/
def PredP (f : FuncId) (caps : Array Value) (p : Rg → Bool) (w : World) : Prop := ∀ x w', Below w.heap.size w w' → CallP Try.prog f (#[rgV x] ++ caps) (fun v w'' => v = .bool (p x) ∧ Below w'.heap.size w' w'') w'
theorem index66 (v : Value) (l : List Rg) (f : FuncId) (caps : Array Value) (p : Rg → Bool) (hf : callable Try.prog f = true) (w : World) (hp : PredP f caps p w) (hv : RgR w [v] l) :
    CallP Try.prog 71 #[v, .func (.func f) #[] caps] (fun r w' => FirstP p l r ∧ Below w.heap.size w w') w := by
  obtain ⟨A, c, rfl, hc, hm⟩ := hv.slice
  refine ⟨S71.calls _ _ _ _ ?_⟩
  unfold S71
  refine ln und26 ?_
  refine LoopP.inv1 (fun iv w' => ∃ k : Nat, k ≤ l.length ∧ iv = .int .i64 k ∧ (∀ x ∈ l.take k, p x = false) ∧ Below w.heap.size w w') (fun iv _ => l.length - (intOf iv).toNat) ⟨0, by omega, rfl, by simp, Below.refl _ _⟩ ?_
  rintro _ w1 ⟨k, hk, rfl, hall, hb1⟩ J hJ
  dsimp only [List.headD_cons, List.tail_cons]
  refine bi_lss_c (fun h => ?_) (fun h => ?_)
  · have hk' : k < l.length := by omega
    obtain ⟨a, rfl, hcell⟩ := (hv.kept hb1).at k hk'
    (repeat with_reducible first | refine ixN und26 sz23 k hk' ?_|refine z_a ?_|refine z_b ?_|refine z_c ?_|refine z_d ?_|refine z_e ?_|refine z_f ?_|refine z_g ?_|refine z_h ?_|refine z_i ?_|refine z_j ?_|refine z_k ?_|refine z_l ?_|refine z_m (by omega) ?_|refine z_n (by omega) ?_|refine z_o (by omega) ?_|refine z_p (by omega) ?_|refine z_q (by omega) ?_|refine z_r (by omega) ?_|refine z_s (by omega) ?_|refine z_t (by omega) ?_|refine z_u (by omega) ?_|refine z_v (by omega) ?_|refine z_w (by omega) ?_|refine z_x (by omega) ?_|refine z_y (by omega) ?_|refine z_z (by omega) ?_|refine z_A ?_|refine z_B ?_|refine z_C ?_|refine z_D ?_|refine z_E ?_|refine z_F ?_|refine z_G ?_|refine z_H ?_|refine z_I ?_)
    refine ldR (us := rgF l[k]) agg23 hcell (by rw [sz23]; rfl) ?_
    refine cvl hf ?_
    refine (hp l[k] w1 hb1).mono ?_
    rintro _ w2 ⟨rfl, hb2⟩
    by_cases hh : p l[k] = true
    · rw [hh]
      (repeat with_reducible first|refine z_a ?_|refine z_b ?_|refine z_c ?_|refine z_d ?_|refine z_e ?_|refine z_f ?_|refine z_g ?_|refine z_h ?_|refine z_i ?_|refine z_j ?_|refine z_k ?_|refine z_l ?_|refine z_m (by omega) ?_|refine z_n (by omega) ?_|refine z_o (by omega) ?_|refine z_p (by omega) ?_|refine z_q (by omega) ?_|refine z_r (by omega) ?_|refine z_s (by omega) ?_|refine z_t (by omega) ?_|refine z_u (by omega) ?_|refine z_v (by omega) ?_|refine z_w (by omega) ?_|refine z_x (by omega) ?_|refine z_y (by omega) ?_|refine z_z (by omega) ?_|refine z_A ?_|refine z_B ?_|refine z_C ?_|refine z_D ?_|refine z_E ?_|refine z_F ?_|refine z_G ?_|refine z_H ?_|refine z_I ?_)
      exact ⟨.inl ⟨k, hk', rfl, hh, hall⟩, below_then hb1 hb2⟩
    · have hh : p l[k] = false := by simpa using hh
      rw [hh]
      (repeat with_reducible first|refine z_a ?_|refine z_b ?_|refine z_c ?_|refine z_d ?_|refine z_e ?_|refine z_f ?_|refine z_g ?_|refine z_h ?_|refine z_i ?_|refine z_j ?_|refine z_k ?_|refine z_l ?_|refine z_m (by omega) ?_|refine z_n (by omega) ?_|refine z_o (by omega) ?_|refine z_p (by omega) ?_|refine z_q (by omega) ?_|refine z_r (by omega) ?_|refine z_s (by omega) ?_|refine z_t (by omega) ?_|refine z_u (by omega) ?_|refine z_v (by omega) ?_|refine z_w (by omega) ?_|refine z_x (by omega) ?_|refine z_y (by omega) ?_|refine z_z (by omega) ?_|refine z_A ?_|refine z_B ?_|refine z_C ?_|refine z_D ?_|refine z_E ?_|refine z_F ?_|refine z_G ?_|refine z_H ?_|refine z_I ?_)
      refine hJ _ _ ⟨k + 1, by omega, by simp, fun x hx => ?_, below_then hb1 hb2⟩ (by simp [intOf]; omega)
      rcases mem_take_succ hk' hx with hx | rfl
      · exact hall x hx
      · exact hh
  · (repeat with_reducible first|refine z_a ?_|refine z_b ?_|refine z_c ?_|refine z_d ?_|refine z_e ?_|refine z_f ?_|refine z_g ?_|refine z_h ?_|refine z_i ?_|refine z_j ?_|refine z_k ?_|refine z_l ?_|refine z_m (by omega) ?_|refine z_n (by omega) ?_|refine z_o (by omega) ?_|refine z_p (by omega) ?_|refine z_q (by omega) ?_|refine z_r (by omega) ?_|refine z_s (by omega) ?_|refine z_t (by omega) ?_|refine z_u (by omega) ?_|refine z_v (by omega) ?_|refine z_w (by omega) ?_|refine z_x (by omega) ?_|refine z_y (by omega) ?_|refine z_z (by omega) ?_|refine z_A ?_|refine z_B ?_|refine z_C ?_|refine z_D ?_|refine z_E ?_|refine z_F ?_|refine z_G ?_|refine z_H ?_|refine z_I ?_)
    have : k = l.length := by omega
    subst this
    rw [List.take_length] at hall
    exact ⟨.inr ⟨rfl, hall⟩, hb1⟩
end Go.Proofs.Ytcfncjejpjjhdaa.E
namespace Go.Proofs.Ytcfncjejpjjhdaa.E
open Go Go.RowKit
set_option linter.unusedSimpArgs false
set_option linter.unusedVariables false

/-- A row of ranges of the call's own. -/
def OwnG (B : Nat) (w : World) (v : Value) (l : List Rg) : Prop := OwnR 2 32 w v l.length (l.flatMap rgF) ∧ Fresh B v
theorem OwnG.rd {B : Nat} {w : World} {v : Value} {l : List Rg} (h : OwnG B w v l) : RgR w [v] l := h.1.rd rgF_len fun _ _ => rfl
theorem OwnG.kept {B : Nat} {w w' : World} {v : Value} {l : List Rg} (h : OwnG B w v l) (hb : Below w.heap.size w w') : OwnG B w' v l := ⟨h.1.below hb, h.2⟩
theorem OwnG.mono {B B' : Nat} {w : World} {v : Value} {l : List Rg} (h : OwnG B w v l) (hb : B' ≤ B) : OwnG B' w v l := ⟨h.1, fun k hk => Nat.le_trans hb (h.2 k hk)⟩
theorem RgR.none {w : World} {n c : Nat} {l : List Rg} (h : RgR w [.slice none n c] l) : l = [] := by
  cases l with
  | nil => rfl
  | cons x r =>
    obtain ⟨A, c', he, _, _, h3⟩ := h
    obtain ⟨a, us, ha, _⟩ := h3 0 x rfl
    cases he; cases ha
theorem clone47 (v : Value) (l : List Rg) (hl : l.length ≤ 100000) (w : World) (hv : RgR w [v] l) : CallP Try.prog 37 #[v] (fun r w' => OwnG w.heap.size w' r l ∧ Below w.heap.size w w') w := by
  obtain ⟨A, c, rfl, hc, hm⟩ := hv.slice
  refine ⟨S37.calls _ _ _ ?_⟩
  unfold S37
  refine ofPR (pr_slnil und26) ?_
  cases A with
  | none =>
    have := hv.none
    subst this
    simp only [Option.isNone_none]
    (repeat with_reducible first|refine z_a ?_|refine z_b ?_|refine z_c ?_|refine z_d ?_|refine z_e ?_|refine z_f ?_|refine z_g ?_|refine z_h ?_|refine z_i ?_|refine z_j ?_|refine z_k ?_|refine z_l ?_|refine z_m (by omega) ?_|refine z_n (by omega) ?_|refine z_o (by omega) ?_|refine z_p (by omega) ?_|refine z_q (by omega) ?_|refine z_r (by omega) ?_|refine z_s (by omega) ?_|refine z_t (by omega) ?_|refine z_u (by omega) ?_|refine z_v (by omega) ?_|refine z_w (by omega) ?_|refine z_x (by omega) ?_|refine z_y (by omega) ?_|refine z_z (by omega) ?_|refine z_A ?_|refine z_B ?_|refine z_C ?_|refine z_D ?_|refine z_E ?_|refine z_F ?_|refine z_G ?_|refine z_H ?_|refine z_I ?_)
    exact ⟨⟨⟨rfl, .inl ⟨rfl, rfl⟩⟩, Fresh.nil _⟩, Below.refl _ _⟩
  | some a =>
    simp only [Option.isNone_some]
    (repeat with_reducible first|refine z_a ?_|refine z_b ?_|refine z_c ?_|refine z_d ?_|refine z_e ?_|refine z_f ?_|refine z_g ?_|refine z_h ?_|refine z_i ?_|refine z_j ?_|refine z_k ?_|refine z_l ?_|refine z_m (by omega) ?_|refine z_n (by omega) ?_|refine z_o (by omega) ?_|refine z_p (by omega) ?_|refine z_q (by omega) ?_|refine z_r (by omega) ?_|refine z_s (by omega) ?_|refine z_t (by omega) ?_|refine z_u (by omega) ?_|refine z_v (by omega) ?_|refine z_w (by omega) ?_|refine z_x (by omega) ?_|refine z_y (by omega) ?_|refine z_z (by omega) ?_|refine z_A ?_|refine z_B ?_|refine z_C ?_|refine z_D ?_|refine z_E ?_|refine z_F ?_|refine z_G ?_|refine z_H ?_|refine z_I ?_)
    refine bs0 und26 sz23 ?_
    have hB := Blk.new w 32 #[]
    have ha := (Below.refl w.heap.size w).alloc (Nat.le_refl _) (.cells #[] 32)
    generalize w.alloc (.cells #[] 32) = w1 at *
    refine apRm w.heap.size und26 inf23 (by rfl) (by decide) (xs := []) (n := 0) ⟨rfl, .inr ⟨w.heap.size, 0, #[], rfl, Nat.zero_le _, hB, Nat.le_refl _, by decide, rfl, rfl⟩⟩ (fun k hk => by cases hk; exact Nat.le_refl _) ha.size rgF_len (fun x _ => rgF_one x) (hv.kept ha) (by omega) (by omega) ?_
    intro v2 w2 ho2 hf2 hb2
    rw [Nat.zero_add, List.nil_append] at ho2
    exact ⟨⟨OwnR.of_own ho2, hf2⟩, ha.trans hb2⟩
theorem filter_take {p : Rg → Bool} {l : List Rg} {j : Nat} (hj : j < l.length) : (l.take (j + 1)).filter p = (l.take j).filter p ++ (if p l[j] = true then [l[j]] else []) := by
  rw [List.take_succ_eq_append_getElem hj, List.filter_append, List.filter_cons, List.filter_nil]
theorem delete46 (v : Value) (l : List Rg) (B : Nat) (w : World) (hB : B ≤ w.heap.size) (hv : OwnG B w v l) :
    CallP Try.prog 62 #[v, .func (.func 55) #[] #[]] (fun r w' => OwnG B w' r (l.filter fun x => decide (¬ emptyR x)) ∧ Below B w w') w := by
  obtain ⟨A, c, rfl, hc, hm⟩ := hv.1.slice
  have hm : c ≤ 9223372036854775807 := hm
  refine ⟨S62.calls _ _ _ _ ?_⟩
  unfold S62
  refine (index66 _ l 55 #[] (fun x => decide (emptyR x)) (by kernel_rfl) w (fun x w' _ => by simpa using empty14 x w') hv.rd).mono ?_
  rintro _ w1 ⟨hr, hb1⟩
  have hv1 := hv.kept hb1
  have hB1 := hb1.size
  rcases hr with ⟨k, hk, rfl, hpk, hall⟩ | ⟨rfl, hall⟩
  · (repeat with_reducible first|refine z_a ?_|refine z_b ?_|refine z_c ?_|refine z_d ?_|refine z_e ?_|refine z_f ?_|refine z_g ?_|refine z_h ?_|refine z_i ?_|refine z_j ?_|refine z_k ?_|refine z_l ?_|refine z_m (by omega) ?_|refine z_n (by omega) ?_|refine z_o (by omega) ?_|refine z_p (by omega) ?_|refine z_q (by omega) ?_|refine z_r (by omega) ?_|refine z_s (by omega) ?_|refine z_t (by omega) ?_|refine z_u (by omega) ?_|refine z_v (by omega) ?_|refine z_w (by omega) ?_|refine z_x (by omega) ?_|refine z_y (by omega) ?_|refine z_z (by omega) ?_|refine z_A ?_|refine z_B ?_|refine z_C ?_|refine z_D ?_|refine z_E ?_|refine z_F ?_|refine z_G ?_|refine z_H ?_|refine z_I ?_)
    have hA : ∃ g, A = some ⟨g, 0, none⟩ := by
      obtain ⟨g, _, he, _⟩ := hv1.1.at 0 (by omega)
      exact ⟨g, he⟩
    obtain ⟨g, rfl⟩ := hA
    have hgB : B ≤ g := hv.2 g rfl
    refine LoopP.inv2 (fun iv jv w' => ∃ (i j : Nat) (m : List Rg), i < j ∧ j ≤ l.length ∧ m.length = l.length ∧ iv = .int .i64 i ∧ jv = .int .i64 j ∧ m.take i = (l.take j).filter (fun x => decide (¬ emptyR x)) ∧ m.drop j = l.drop j ∧ OwnR 2 32 w' (.slice (some ⟨g, 0, none⟩) l.length c) l.length (m.flatMap rgF) ∧ Below B w w') (fun _ jv _ => l.length - (intOf jv).toNat)
      ⟨k, k + 1, l, by omega, by omega, rfl, rfl, by simp, ?_, rfl, hv1.1, hb1.mono hB⟩ ?_
    · rw [filter_take hk]
      have h1 : (l.take k).filter (fun x => decide (¬ emptyR x)) = l.take k := List.filter_eq_self.2 fun x hx => by have := hall x hx; simpa using this
      have h2 : ¬ (decide (¬ emptyR l[k]) = true) := by simpa using hpk
      rw [h1, if_neg h2, List.append_nil]
    rintro _ _ w2 ⟨i, j, m, hij, hj, hml, rfl, rfl, htk, hdr, ho2, hb2⟩ J hJ
    dsimp only [List.headD_cons, List.tail_cons]
    refine ln und26 ?_
    refine bi_lss_c (fun h => ?_) (fun h => ?_)
    · have hj' : j < l.length := by omega
      have hmj : m[j]'(by omega) = l[j] := by
        have e1 := List.getElem_drop (xs := m) (i := j) (j := 0) (h := by simp; omega)
        have e2 := List.getElem_drop (xs := l) (i := j) (j := 0) (h := by simp; omega)
        simp only [Nat.add_zero] at e1 e2
        rw [← e1, ← e2]
        simp only [hdr]
      (repeat with_reducible first|refine z_a ?_|refine z_b ?_|refine z_c ?_|refine z_d ?_|refine z_e ?_|refine z_f ?_|refine z_g ?_|refine z_h ?_|refine z_i ?_|refine z_j ?_|refine z_k ?_|refine z_l ?_|refine z_m (by omega) ?_|refine z_n (by omega) ?_|refine z_o (by omega) ?_|refine z_p (by omega) ?_|refine z_q (by omega) ?_|refine z_r (by omega) ?_|refine z_s (by omega) ?_|refine z_t (by omega) ?_|refine z_u (by omega) ?_|refine z_v (by omega) ?_|refine z_w (by omega) ?_|refine z_x (by omega) ?_|refine z_y (by omega) ?_|refine z_z (by omega) ?_|refine z_A ?_|refine z_B ?_|refine z_C ?_|refine z_D ?_|refine z_E ?_|refine z_F ?_|refine z_G ?_|refine z_H ?_|refine z_I ?_)
      refine JoinP.cut (fun vs w' => ∃ (i' : Nat) (m' : List Rg), i' < j + 1 ∧ m'.length = l.length ∧ vs = [.int .i64 i'] ∧ m'.take i' = (l.take (j + 1)).filter (fun x => decide (¬ emptyR x)) ∧ m'.drop (j + 1) = l.drop (j + 1) ∧ OwnR 2 32 w' (.slice (some ⟨g, 0, none⟩) l.length c) l.length (m'.flatMap rgF) ∧ Below B w w') (fun J2 hJ2 => ?_) (fun xs w' hI => ?_)
      · have hrow : RgR w2 [.slice (some ⟨g, 0, none⟩) l.length c] m := by
          have := (OwnR.rd (r := fun _ us x => us = rgF x) (l := m) (by rw [hml]; exact ho2) rgF_len (fun _ _ => rfl))
          exact this
        obtain ⟨a, ha, hcell⟩ := hrow.at j (by omega)
        cases ha
        (repeat with_reducible first | refine ixN und26 sz23 j hj' ?_|refine z_a ?_|refine z_b ?_|refine z_c ?_|refine z_d ?_|refine z_e ?_|refine z_f ?_|refine z_g ?_|refine z_h ?_|refine z_i ?_|refine z_j ?_|refine z_k ?_|refine z_l ?_|refine z_m (by omega) ?_|refine z_n (by omega) ?_|refine z_o (by omega) ?_|refine z_p (by omega) ?_|refine z_q (by omega) ?_|refine z_r (by omega) ?_|refine z_s (by omega) ?_|refine z_t (by omega) ?_|refine z_u (by omega) ?_|refine z_v (by omega) ?_|refine z_w (by omega) ?_|refine z_x (by omega) ?_|refine z_y (by omega) ?_|refine z_z (by omega) ?_|refine z_A ?_|refine z_B ?_|refine z_C ?_|refine z_D ?_|refine z_E ?_|refine z_F ?_|refine z_G ?_|refine z_H ?_|refine z_I ?_)
        refine ldR (us := rgF m[j]) agg23 hcell (by rw [sz23]; rfl) ?_
        refine alB z23 ?_
        intro gv w3 hgv hV3 h3
        have hs2 := hb2.size
        refine stB hV3 (by rw [sz23]; rfl) (by rfl) (cells := rgA m[j]) (rgA_one _) ?_
        intro w4 hV4 hT4
        have h4 : Below w2.heap.size w2 w4 := below_own h3 hT4 (by omega)
        refine ldA agg23 hV4 (by rw [sz23]; rfl) ?_
        refine cvl (by kernel_rfl) ?_
        refine (empty14 m[j] w4).mono ?_
        rintro _ w5 ⟨rfl, h5⟩
        have h5' := below_then h4 h5
        have ho5 := ho2.below h5'
        have hb5 : Below B w w5 := hb2.trans (h5'.mono (by omega))
        have hd1 : m.drop (j + 1) = l.drop (j + 1) := by rw [← List.drop_drop, hdr, List.drop_drop]
        by_cases he : emptyR m[j]
        · rw [decide_eq_true he]
          (repeat with_reducible first|refine z_a ?_|refine z_b ?_|refine z_c ?_|refine z_d ?_|refine z_e ?_|refine z_f ?_|refine z_g ?_|refine z_h ?_|refine z_i ?_|refine z_j ?_|refine z_k ?_|refine z_l ?_|refine z_m (by omega) ?_|refine z_n (by omega) ?_|refine z_o (by omega) ?_|refine z_p (by omega) ?_|refine z_q (by omega) ?_|refine z_r (by omega) ?_|refine z_s (by omega) ?_|refine z_t (by omega) ?_|refine z_u (by omega) ?_|refine z_v (by omega) ?_|refine z_w (by omega) ?_|refine z_x (by omega) ?_|refine z_y (by omega) ?_|refine z_z (by omega) ?_|refine z_A ?_|refine z_B ?_|refine z_C ?_|refine z_D ?_|refine z_E ?_|refine z_F ?_|refine z_G ?_|refine z_H ?_|refine z_I ?_)
          refine hJ2 _ _ ⟨i, m, by omega, hml, rfl, ?_, hd1, ho5, hb5⟩
          rw [filter_take hj', htk, if_neg (by rw [← hmj]; simpa using he), List.append_nil]
        · rw [decide_eq_false he]
          (repeat with_reducible first|refine z_a ?_|refine z_b ?_|refine z_c ?_|refine z_d ?_|refine z_e ?_|refine z_f ?_|refine z_g ?_|refine z_h ?_|refine z_i ?_|refine z_j ?_|refine z_k ?_|refine z_l ?_|refine z_m (by omega) ?_|refine z_n (by omega) ?_|refine z_o (by omega) ?_|refine z_p (by omega) ?_|refine z_q (by omega) ?_|refine z_r (by omega) ?_|refine z_s (by omega) ?_|refine z_t (by omega) ?_|refine z_u (by omega) ?_|refine z_v (by omega) ?_|refine z_w (by omega) ?_|refine z_x (by omega) ?_|refine z_y (by omega) ?_|refine z_z (by omega) ?_|refine z_A ?_|refine z_B ?_|refine z_C ?_|refine z_D ?_|refine z_E ?_|refine z_F ?_|refine z_G ?_|refine z_H ?_|refine z_I ?_)
          refine ldA agg23 (hV4.below' h5) (by rw [sz23]; rfl) ?_
          refine ixG und26 sz23 i (by omega) ?_
          refine stE ho5 i (by omega) (by rfl) sz23 (rgA_one _) ?_
          intro w6 ho6 hT6
          have hput := flatMap_put rgF 2 rgF_len m[j] m i (by omega)
          have e : (rgA m[j]).toList = rgF m[j] := rfl
          rw [e, hput] at ho6
          (repeat with_reducible first|refine z_a ?_|refine z_b ?_|refine z_c ?_|refine z_d ?_|refine z_e ?_|refine z_f ?_|refine z_g ?_|refine z_h ?_|refine z_i ?_|refine z_j ?_|refine z_k ?_|refine z_l ?_|refine z_m (by omega) ?_|refine z_n (by omega) ?_|refine z_o (by omega) ?_|refine z_p (by omega) ?_|refine z_q (by omega) ?_|refine z_r (by omega) ?_|refine z_s (by omega) ?_|refine z_t (by omega) ?_|refine z_u (by omega) ?_|refine z_v (by omega) ?_|refine z_w (by omega) ?_|refine z_x (by omega) ?_|refine z_y (by omega) ?_|refine z_z (by omega) ?_|refine z_A ?_|refine z_B ?_|refine z_C ?_|refine z_D ?_|refine z_E ?_|refine z_F ?_|refine z_G ?_|refine z_H ?_|refine z_I ?_)
          refine hJ2 _ _ ⟨i + 1, m.set i m[j], by omega, by simpa using hml, by simp, ?_, ?_, ho6, hb5.trans (hT6.own hgB (by have := hb5.size; omega))⟩
          · rw [filter_take hj', ← htk, if_pos (by rw [← hmj]; simpa using he), List.take_succ_eq_append_getElem (by simp; omega), List.take_set_of_le (Nat.le_refl _), List.getElem_set_self, hmj]
          · rw [List.drop_set_of_lt (by omega)]; exact hd1
      · obtain ⟨i', m', hi', hm', rfl, htk', hdr', ho', hb'⟩ := hI
        dsimp only [List.headD_cons, List.tail_cons]
        (repeat with_reducible first|refine z_a ?_|refine z_b ?_|refine z_c ?_|refine z_d ?_|refine z_e ?_|refine z_f ?_|refine z_g ?_|refine z_h ?_|refine z_i ?_|refine z_j ?_|refine z_k ?_|refine z_l ?_|refine z_m (by omega) ?_|refine z_n (by omega) ?_|refine z_o (by omega) ?_|refine z_p (by omega) ?_|refine z_q (by omega) ?_|refine z_r (by omega) ?_|refine z_s (by omega) ?_|refine z_t (by omega) ?_|refine z_u (by omega) ?_|refine z_v (by omega) ?_|refine z_w (by omega) ?_|refine z_x (by omega) ?_|refine z_y (by omega) ?_|refine z_z (by omega) ?_|refine z_A ?_|refine z_B ?_|refine z_C ?_|refine z_D ?_|refine z_E ?_|refine z_F ?_|refine z_G ?_|refine z_H ?_|refine z_I ?_)
        exact hJ _ _ _ ⟨i', j + 1, m', by omega, by omega, hm', rfl, by simp, htk', hdr', ho', hb'⟩ (by simp [intOf]; omega)
    · have : j = l.length := by omega
      subst this
      (repeat with_reducible first|refine z_a ?_|refine z_b ?_|refine z_c ?_|refine z_d ?_|refine z_e ?_|refine z_f ?_|refine z_g ?_|refine z_h ?_|refine z_i ?_|refine z_j ?_|refine z_k ?_|refine z_l ?_|refine z_m (by omega) ?_|refine z_n (by omega) ?_|refine z_o (by omega) ?_|refine z_p (by omega) ?_|refine z_q (by omega) ?_|refine z_r (by omega) ?_|refine z_s (by omega) ?_|refine z_t (by omega) ?_|refine z_u (by omega) ?_|refine z_v (by omega) ?_|refine z_w (by omega) ?_|refine z_x (by omega) ?_|refine z_y (by omega) ?_|refine z_z (by omega) ?_|refine z_A ?_|refine z_B ?_|refine z_C ?_|refine z_D ?_|refine z_E ?_|refine z_F ?_|refine z_G ?_|refine z_H ?_|refine z_I ?_)
      have hle : l.length ≤ c := hc
      refine ofPR (pr_cut und26 sz23 (.at _ _) .no .no (show i ≤ l.length by omega) (fun _ => by omega) hc (Nat.le_refl _) (.inl rfl)) ?_
      have e1 : sliced (some ⟨g, 0, none⟩) i l.length c 2 = .slice (some ⟨g, i * 2, none⟩) (l.length - i) (c - i) := by
        unfold sliced
        rw [if_neg (by omega), Option.map_some, add0, Nat.zero_add]
      rw [e1]
      refine clrR und26 z23 (by rfl) (rgA_one ([], [])) (by decide) ho2 (by omega) ?_
      intro w3 ho3 hT3
      refine ofPR (pr_cut und26 sz23 .no (.at _ _) .no (Nat.zero_le _) (fun h => by cases h) (show i ≤ c by omega) (Nat.le_refl _) (.inl rfl)) ?_
      have e2 : sliced (some ⟨g, 0, none⟩) 0 i c 2 = .slice (some ⟨g, 0, none⟩) i c := by
        unfold sliced
        by_cases h0 : c = 0
        · omega
        · rw [if_neg h0, Option.map_some, add0]; simp
      rw [e2]
      rw [List.take_length] at htk
      have hlen : i = (l.filter fun x => decide (¬ emptyR x)).length := by rw [← htk, List.length_take]; omega
      refine ⟨⟨?_, fun k hk => by cases hk; exact hgB⟩, hb2.trans (hT3.own hgB (by have := hb2.size; omega))⟩
      have e3 : (m.flatMap rgF).take (i * 2) = (m.take i).flatMap rgF := by
        have h := List.take_append_drop i m
        conv => lhs; rw [← h, List.flatMap_append]
        rw [List.take_append_of_le_length (by rw [flatMap_len rgF 2 rgF_len, List.length_take]; omega), List.take_of_length_le (by rw [flatMap_len rgF 2 rgF_len, List.length_take]; omega)]
      rw [e3, htk] at ho3
      rw [← hlen]
      exact ho3
  · (repeat with_reducible first|refine z_a ?_|refine z_b ?_|refine z_c ?_|refine z_d ?_|refine z_e ?_|refine z_f ?_|refine z_g ?_|refine z_h ?_|refine z_i ?_|refine z_j ?_|refine z_k ?_|refine z_l ?_|refine z_m (by omega) ?_|refine z_n (by omega) ?_|refine z_o (by omega) ?_|refine z_p (by omega) ?_|refine z_q (by omega) ?_|refine z_r (by omega) ?_|refine z_s (by omega) ?_|refine z_t (by omega) ?_|refine z_u (by omega) ?_|refine z_v (by omega) ?_|refine z_w (by omega) ?_|refine z_x (by omega) ?_|refine z_y (by omega) ?_|refine z_z (by omega) ?_|refine z_A ?_|refine z_B ?_|refine z_C ?_|refine z_D ?_|refine z_E ?_|refine z_F ?_|refine z_G ?_|refine z_H ?_|refine z_I ?_)
    have h1 : l.filter (fun x => decide (¬ emptyR x)) = l := List.filter_eq_self.2 fun x hx => by have := hall x hx; simpa using this
    rw [h1]
    exact ⟨hv1, hb1.mono hB⟩
end Go.Proofs.Ytcfncjejpjjhdaa.E
