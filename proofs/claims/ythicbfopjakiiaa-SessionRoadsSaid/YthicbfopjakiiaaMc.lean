import Derived.Test.YthicbfopjakiiaaMb
import Derived.Test.YthicbfopjakiiaaM4
namespace Go.Proofs.Ythicbfopjakiiaa.E
open Go Go.RowKit
set_option linter.unusedSimpArgs false
set_option linter.unusedVariables false

end Go.Proofs.Ythicbfopjakiiaa.E
namespace Go.Proofs.Ythicbfopjakiiaa.E
open Go Go.RowKit
set_option linter.unusedSimpArgs false
set_option linter.unusedVariables false

theorem Mark_spec (B : Nat) (w : World) (g mark sent : Nat) (ts : List ByteArray) (h : EndAt B w g mark sent ts) :
    CallP Try.prog 20 #[.pointer (some ⟨g, 0, none⟩)] (fun r w' => r = .int .i64 mark ∧ w = w') w := by
  obtain ⟨hB, A, c, hbl, ho, hf, hd⟩ := h
  have c0 : w.cell? ⟨g, 0, none⟩ = some (.int .i64 mark) := hbl.cell 0
  refine ⟨S20.calls _ _ _ ?_⟩
  unfold S20
  (repeat with_reducible first | refine fd g0 (by decide) ?_| refine ld one3 c0 ?_|refine z_a ?_|refine z_b ?_|refine z_c ?_|refine z_d ?_|refine z_e ?_|refine z_f ?_|refine z_g ?_|refine z_h ?_|refine z_i ?_|refine z_j ?_|refine z_k ?_|refine z_l ?_|refine z_m (by omega) ?_|refine z_n (by omega) ?_|refine z_o (by omega) ?_|refine z_p (by omega) ?_|refine z_q (by omega) ?_|refine z_r (by omega) ?_|refine z_s (by omega) ?_|refine z_t (by omega) ?_|refine z_u (by omega) ?_|refine z_v (by omega) ?_|refine z_w (by omega) ?_|refine z_x (by omega) ?_|refine z_y (by omega) ?_|refine z_z (by omega) ?_|refine z_A ?_|refine z_B ?_|refine z_C ?_|refine z_D ?_|refine z_E ?_|refine z_F ?_|refine z_G ?_|refine z_H ?_|refine z_I ?_|refine z_J ?_|refine z_K (by omega) (by decide) ?_|refine z_L (by omega) (by decide) ?_|refine z_M (by omega) ?_|refine z_N (by omega) ?_|refine z_O (by omega) ?_|refine z_P ?_|refine z_Q ?_|refine z_R ?_|refine z_S ?_|refine z_T ?_|refine z_U (by decide) ?_|refine z_V (by decide) ?_)
  exact ⟨rfl, rfl⟩
theorem h1 : fofs Try.prog 42 1 = some (1, 1) := by kernel_rfl
theorem h2 : fofs Try.prog 42 2 = some (2, 1) := by kernel_rfl
end Go.Proofs.Ythicbfopjakiiaa.E
namespace Go.Proofs.Ythicbfopjakiiaa.E
open Go Go.RowKit
set_option linter.unusedSimpArgs false
set_option linter.unusedVariables false

theorem items_get (l : List ByteArray) : ∀ (f j : Nat) (hj : j < l.length), (items f l)[2 * j]? = some (.int .i64 ((f + j : Nat) : Int)) ∧ (items f l)[2 * j + 1]? = some (.string l[j]) := by
  induction l with
  | nil => intro f j hj; simp at hj
  | cons s r ih =>
    intro f j hj
    cases j with
    | zero => exact ⟨by simp [items], by simp [items]⟩
    | succ j =>
      have := ih (f + 1) j (by simpa using hj)
      rw [show 2 * (j + 1) = 2 * j + 1 + 1 from by omega]
      simp only [items, List.getElem?_cons_succ, List.getElem_cons_succ]
      rw [show f + (j + 1) = f + 1 + j from by omega]
      exact this
theorem i0' : fofs Try.prog 99 0 = some (0, 1) := by kernel_rfl
theorem i1' : fofs Try.prog 99 1 = some (1, 1) := by kernel_rfl
theorem yixS {P : Program} {K : Value → World → Prop} {S : World → Prop} {w : World} {t e : TypeId} (h : P.underlying t = some (.slice e)) {s : Nat} (hs : (P.info? e).map (·.size) = some s) {g n c : Nat} {kd : IntKind} (i : Nat) (h1 : i < n)
    (k : K (.pointer (some ⟨g, i * s, none⟩)) w) : YieldP P S (Instr.indexAt t (.slice (some ⟨g, 0, none⟩) n c) (.int kd (i : Int))) K w := by
  obtain ⟨j, hj, hs⟩ := Option.map_eq_some_iff.1 hs
  refine yld (v := .pointer (some ⟨g, i * s, none⟩)) (fun w' _ => ?_) k
  simp [Instr.indexAt, run_underlying h, asIntOf, h1, sizeOf, typeInfo, hj, hs, Addr.add_lit]
theorem yfdS {P : Program} {K : Value → World → Prop} {S : World → Prop} {w : World} {s : TypeId} {i o n : Nat} (h : fofs P s i = some (o, n)) (hn : n ≠ 0) {g q : Nat} (k : K (.pointer (some ⟨g, q + o, none⟩)) w) : YieldP P S (Instr.fieldAt s (.pointer (some ⟨g, q, none⟩)) i) K w :=
  yld (fun w' _ => run_fd h hn _ w') (by rw [add0]; exact k)
end Go.Proofs.Ythicbfopjakiiaa.E
namespace Go.Proofs.Ythicbfopjakiiaa.E
open Go Go.RowKit
set_option linter.unusedSimpArgs false
set_option linter.unusedVariables false

end Go.Proofs.Ythicbfopjakiiaa.E
namespace Go.Proofs.Ythicbfopjakiiaa.E
open Go Go.RowKit
set_option linter.unusedSimpArgs false
set_option linter.unusedVariables false

theorem ix0 {P : Program} {K : Value → World → Prop} {w : World} {t e : TypeId} (h : P.underlying t = some (.slice e)) {s : Nat} (hs : (P.info? e).map (·.size) = some s) {a : Addr} {n c : Nat} {kd : IntKind} (h1 : 0 < n)
    (k : K (.pointer (some a)) w) : LiftP P (Instr.indexAt t (.slice (some a) n c) (.int kd 0)) K w :=
  ix h hs (Int.le_refl _) (by omega) (by rw [show (0 : Int).toNat * s = 0 from by simp, Addr.add_zero']; exact k)
theorem awake_spec (w : World) : CallP Try.prog 11 #[] (fun r w' => r = .bool true ∧ Below w.heap.size w w') w := by
  refine ⟨S11.calls _ _ ?_⟩
  unfold S11
  refine (New_spec w).mono ?_
  rintro _ w1 ⟨g, rfl, h1, hb1⟩
  refine ofPR (pr_pnil undP) ?_
  simp only [Option.isNone_some]
  (repeat with_reducible first|refine z_a ?_|refine z_b ?_|refine z_c ?_|refine z_d ?_|refine z_e ?_|refine z_f ?_|refine z_g ?_|refine z_h ?_|refine z_i ?_|refine z_j ?_|refine z_k ?_|refine z_l ?_|refine z_m (by omega) ?_|refine z_n (by omega) ?_|refine z_o (by omega) ?_|refine z_p (by omega) ?_|refine z_q (by omega) ?_|refine z_r (by omega) ?_|refine z_s (by omega) ?_|refine z_t (by omega) ?_|refine z_u (by omega) ?_|refine z_v (by omega) ?_|refine z_w (by omega) ?_|refine z_x (by omega) ?_|refine z_y (by omega) ?_|refine z_z (by omega) ?_|refine z_A ?_|refine z_B ?_|refine z_C ?_|refine z_D ?_|refine z_E ?_|refine z_F ?_|refine z_G ?_|refine z_H ?_|refine z_I ?_|refine z_J ?_|refine z_K (by omega) (by decide) ?_|refine z_L (by omega) (by decide) ?_|refine z_M (by omega) ?_|refine z_N (by omega) ?_|refine z_O (by omega) ?_|refine z_P ?_|refine z_Q ?_|refine z_R ?_|refine z_S ?_|refine z_T ?_|refine z_U (by decide) ?_|refine z_V (by decide) ?_)
  refine (Send_spec _ w1 g 0 0 [] ⟨#[97]⟩ h1 (by omega) (by decide)).mono ?_
  rintro _ w2 ⟨rfl, h2, hb2⟩
  have e2 : sendAns 0 [] ⟨#[97]⟩ = (1, 0, 1, [⟨#[97]⟩]) := rfl
  rw [e2] at h2 ⊢
  replace hb2 := hb1.trans hb2
  (repeat with_reducible first|refine z_a ?_|refine z_b ?_|refine z_c ?_|refine z_d ?_|refine z_e ?_|refine z_f ?_|refine z_g ?_|refine z_h ?_|refine z_i ?_|refine z_j ?_|refine z_k ?_|refine z_l ?_|refine z_m (by omega) ?_|refine z_n (by omega) ?_|refine z_o (by omega) ?_|refine z_p (by omega) ?_|refine z_q (by omega) ?_|refine z_r (by omega) ?_|refine z_s (by omega) ?_|refine z_t (by omega) ?_|refine z_u (by omega) ?_|refine z_v (by omega) ?_|refine z_w (by omega) ?_|refine z_x (by omega) ?_|refine z_y (by omega) ?_|refine z_z (by omega) ?_|refine z_A ?_|refine z_B ?_|refine z_C ?_|refine z_D ?_|refine z_E ?_|refine z_F ?_|refine z_G ?_|refine z_H ?_|refine z_I ?_|refine z_J ?_|refine z_K (by omega) (by decide) ?_|refine z_L (by omega) (by decide) ?_|refine z_M (by omega) ?_|refine z_N (by omega) ?_|refine z_O (by omega) ?_|refine z_P ?_|refine z_Q ?_|refine z_R ?_|refine z_S ?_|refine z_T ?_|refine z_U (by decide) ?_|refine z_V (by decide) ?_)
  refine (Send_spec _ w2 g 0 1 [⟨#[97]⟩] ⟨#[98]⟩ h2 (by omega) (by decide)).mono ?_
  rintro _ w3 ⟨rfl, h3, hb3⟩
  have e3 : sendAns 1 [⟨#[97]⟩] ⟨#[98]⟩ = (2, 0, 2, [⟨#[97]⟩, ⟨#[98]⟩]) := rfl
  rw [e3] at h3 ⊢
  replace hb3 := hb2.trans hb3
  (repeat with_reducible first|refine z_a ?_|refine z_b ?_|refine z_c ?_|refine z_d ?_|refine z_e ?_|refine z_f ?_|refine z_g ?_|refine z_h ?_|refine z_i ?_|refine z_j ?_|refine z_k ?_|refine z_l ?_|refine z_m (by omega) ?_|refine z_n (by omega) ?_|refine z_o (by omega) ?_|refine z_p (by omega) ?_|refine z_q (by omega) ?_|refine z_r (by omega) ?_|refine z_s (by omega) ?_|refine z_t (by omega) ?_|refine z_u (by omega) ?_|refine z_v (by omega) ?_|refine z_w (by omega) ?_|refine z_x (by omega) ?_|refine z_y (by omega) ?_|refine z_z (by omega) ?_|refine z_A ?_|refine z_B ?_|refine z_C ?_|refine z_D ?_|refine z_E ?_|refine z_F ?_|refine z_G ?_|refine z_H ?_|refine z_I ?_|refine z_J ?_|refine z_K (by omega) (by decide) ?_|refine z_L (by omega) (by decide) ?_|refine z_M (by omega) ?_|refine z_N (by omega) ?_|refine z_O (by omega) ?_|refine z_P ?_|refine z_Q ?_|refine z_R ?_|refine z_S ?_|refine z_T ?_|refine z_U (by decide) ?_|refine z_V (by decide) ?_)
  refine (Post_spec _ w3 g 0 2 [⟨#[97]⟩, ⟨#[98]⟩] 1 h3 (by decide) (by omega) (by decide)).mono ?_
  rintro l w4 ⟨hl, hfl, hb4⟩
  have h4 := h3.below hb4
  replace hb4 := below_then hb3 hb4
  have hl' : w4.ownsRow 0 99 2 l 1 [.int .i64 1, .string ⟨#[97]⟩] := hl
  obtain ⟨gl, cap, cur, rfl, hll⟩ : ∃ gl cap cur, l = .slice (some ⟨gl, 0, none⟩) 1 cap ∧ w4.heap[gl]? = some (.cells cur 99 (0, 0)) := by
    rcases hl'.2 with ⟨_, h⟩ | ⟨gl, cap, cur, h1, _, h3, _⟩
    · omega
    · exact ⟨gl, cap, cur, h1, h3⟩
  have k0 : w4.cell? ⟨gl, 0, none⟩ = some (.int .i64 1) := by
    have := hl'.cells (g := gl) rfl 0 (.int .i64 1) rfl
    rwa [add0] at this
  have k1 : w4.cell? ⟨gl, 1, none⟩ = some (.string ⟨#[97]⟩) := by
    have := hl'.cells (g := gl) rfl 1 (.string ⟨#[97]⟩) rfl
    rwa [add0] at this
  (repeat with_reducible first|refine z_q rfl ?_| refine ln und44 ?_| refine ix0 und44 sz99 (by decide) ?_| refine fd i0 (by decide) ?_| refine fd i1 (by decide) ?_| refine ld one3 k0 ?_| refine ld one9 k1 ?_|refine z_H1 rfl ?_|refine z_a ?_|refine z_b ?_|refine z_c ?_|refine z_d ?_|refine z_e ?_|refine z_f ?_|refine z_g ?_|refine z_h ?_|refine z_i ?_|refine z_j ?_|refine z_k ?_|refine z_l ?_|refine z_m (by omega) ?_|refine z_n (by omega) ?_|refine z_o (by omega) ?_|refine z_p (by omega) ?_|refine z_q (by omega) ?_|refine z_r (by omega) ?_|refine z_s (by omega) ?_|refine z_t (by omega) ?_|refine z_u (by omega) ?_|refine z_v (by omega) ?_|refine z_w (by omega) ?_|refine z_x (by omega) ?_|refine z_y (by omega) ?_|refine z_z (by omega) ?_|refine z_A ?_|refine z_B ?_|refine z_C ?_|refine z_D ?_|refine z_E ?_|refine z_F ?_|refine z_G ?_|refine z_H ?_|refine z_I ?_|refine z_J ?_|refine z_K (by omega) (by decide) ?_|refine z_L (by omega) (by decide) ?_|refine z_M (by omega) ?_|refine z_N (by omega) ?_|refine z_O (by omega) ?_|refine z_P ?_|refine z_Q ?_|refine z_R ?_|refine z_S ?_|refine z_T ?_|refine z_U (by decide) ?_|refine z_V (by decide) ?_)
  refine (Take_spec _ w4 g 0 2 [⟨#[97]⟩, ⟨#[98]⟩] 2 _ h4 (by omega)).mono ?_
  rintro _ w5 ⟨rfl, h5, hb5⟩
  replace hb5 := hb4.trans hb5
  rw [decide_eq_false (by omega)]
  replace h5 : EndAt w.heap.size w5 g 0 2 [⟨#[97]⟩, ⟨#[98]⟩] := h5
  (repeat with_reducible first|refine z_a ?_|refine z_b ?_|refine z_c ?_|refine z_d ?_|refine z_e ?_|refine z_f ?_|refine z_g ?_|refine z_h ?_|refine z_i ?_|refine z_j ?_|refine z_k ?_|refine z_l ?_|refine z_m (by omega) ?_|refine z_n (by omega) ?_|refine z_o (by omega) ?_|refine z_p (by omega) ?_|refine z_q (by omega) ?_|refine z_r (by omega) ?_|refine z_s (by omega) ?_|refine z_t (by omega) ?_|refine z_u (by omega) ?_|refine z_v (by omega) ?_|refine z_w (by omega) ?_|refine z_x (by omega) ?_|refine z_y (by omega) ?_|refine z_z (by omega) ?_|refine z_A ?_|refine z_B ?_|refine z_C ?_|refine z_D ?_|refine z_E ?_|refine z_F ?_|refine z_G ?_|refine z_H ?_|refine z_I ?_|refine z_J ?_|refine z_K (by omega) (by decide) ?_|refine z_L (by omega) (by decide) ?_|refine z_M (by omega) ?_|refine z_N (by omega) ?_|refine z_O (by omega) ?_|refine z_P ?_|refine z_Q ?_|refine z_R ?_|refine z_S ?_|refine z_T ?_|refine z_U (by decide) ?_|refine z_V (by decide) ?_)
  refine (Take_spec _ w5 g 0 2 [⟨#[97]⟩, ⟨#[98]⟩] 1 _ h5 (by omega)).mono ?_
  rintro _ w6 ⟨rfl, h6, hb6⟩
  replace hb6 := hb5.trans hb6
  rw [decide_eq_true (by simp)]
  replace h6 : EndAt w.heap.size w6 g 1 2 [⟨#[97]⟩, ⟨#[98]⟩] := h6
  (repeat with_reducible first|refine z_a ?_|refine z_b ?_|refine z_c ?_|refine z_d ?_|refine z_e ?_|refine z_f ?_|refine z_g ?_|refine z_h ?_|refine z_i ?_|refine z_j ?_|refine z_k ?_|refine z_l ?_|refine z_m (by omega) ?_|refine z_n (by omega) ?_|refine z_o (by omega) ?_|refine z_p (by omega) ?_|refine z_q (by omega) ?_|refine z_r (by omega) ?_|refine z_s (by omega) ?_|refine z_t (by omega) ?_|refine z_u (by omega) ?_|refine z_v (by omega) ?_|refine z_w (by omega) ?_|refine z_x (by omega) ?_|refine z_y (by omega) ?_|refine z_z (by omega) ?_|refine z_A ?_|refine z_B ?_|refine z_C ?_|refine z_D ?_|refine z_E ?_|refine z_F ?_|refine z_G ?_|refine z_H ?_|refine z_I ?_|refine z_J ?_|refine z_K (by omega) (by decide) ?_|refine z_L (by omega) (by decide) ?_|refine z_M (by omega) ?_|refine z_N (by omega) ?_|refine z_O (by omega) ?_|refine z_P ?_|refine z_Q ?_|refine z_R ?_|refine z_S ?_|refine z_T ?_|refine z_U (by decide) ?_|refine z_V (by decide) ?_)
  refine (Acked_spec _ w6 g 1 2 [⟨#[97]⟩, ⟨#[98]⟩] 1 h6 (by decide) (by omega) (by decide)).mono ?_
  rintro _ w7 ⟨n, rfl, hn, h7, hb7⟩
  replace hb7 := hb6.trans hb7
  have hn1 : n = 1 := by simpa using hn
  subst hn1
  (repeat with_reducible first|refine z_q rfl ?_|refine z_a ?_|refine z_b ?_|refine z_c ?_|refine z_d ?_|refine z_e ?_|refine z_f ?_|refine z_g ?_|refine z_h ?_|refine z_i ?_|refine z_j ?_|refine z_k ?_|refine z_l ?_|refine z_m (by omega) ?_|refine z_n (by omega) ?_|refine z_o (by omega) ?_|refine z_p (by omega) ?_|refine z_q (by omega) ?_|refine z_r (by omega) ?_|refine z_s (by omega) ?_|refine z_t (by omega) ?_|refine z_u (by omega) ?_|refine z_v (by omega) ?_|refine z_w (by omega) ?_|refine z_x (by omega) ?_|refine z_y (by omega) ?_|refine z_z (by omega) ?_|refine z_A ?_|refine z_B ?_|refine z_C ?_|refine z_D ?_|refine z_E ?_|refine z_F ?_|refine z_G ?_|refine z_H ?_|refine z_I ?_|refine z_J ?_|refine z_K (by omega) (by decide) ?_|refine z_L (by omega) (by decide) ?_|refine z_M (by omega) ?_|refine z_N (by omega) ?_|refine z_O (by omega) ?_|refine z_P ?_|refine z_Q ?_|refine z_R ?_|refine z_S ?_|refine z_T ?_|refine z_U (by decide) ?_|refine z_V (by decide) ?_)
  refine (Save_spec _ w7 g 1 2 _ h7 (by omega) (by omega) (by decide) (by intro s hs; simp at hs; subst hs; decide)).mono ?_
  rintro _ w8 ⟨rfl, hb8⟩
  have e8 : Pack.num 1 ++ Pack.num 2 ++ Pack.texts (([⟨#[97]⟩, ⟨#[98]⟩] : List ByteArray).drop 1) = [1, 2, 1, 1, 98] := by
    simp [Pack.texts, Pack.text, Pack.num_small]
  rw [e8]
  (repeat with_reducible first|refine z_H1 rfl ?_|refine z_a ?_|refine z_b ?_|refine z_c ?_|refine z_d ?_|refine z_e ?_|refine z_f ?_|refine z_g ?_|refine z_h ?_|refine z_i ?_|refine z_j ?_|refine z_k ?_|refine z_l ?_|refine z_m (by omega) ?_|refine z_n (by omega) ?_|refine z_o (by omega) ?_|refine z_p (by omega) ?_|refine z_q (by omega) ?_|refine z_r (by omega) ?_|refine z_s (by omega) ?_|refine z_t (by omega) ?_|refine z_u (by omega) ?_|refine z_v (by omega) ?_|refine z_w (by omega) ?_|refine z_x (by omega) ?_|refine z_y (by omega) ?_|refine z_z (by omega) ?_|refine z_A ?_|refine z_B ?_|refine z_C ?_|refine z_D ?_|refine z_E ?_|refine z_F ?_|refine z_G ?_|refine z_H ?_|refine z_I ?_|refine z_J ?_|refine z_K (by omega) (by decide) ?_|refine z_L (by omega) (by decide) ?_|refine z_M (by omega) ?_|refine z_N (by omega) ?_|refine z_O (by omega) ?_|refine z_P ?_|refine z_Q ?_|refine z_R ?_|refine z_S ?_|refine z_T ?_|refine z_U (by decide) ?_|refine z_V (by decide) ?_)
  exact ⟨rfl, below_then hb7 hb8⟩

end Go.Proofs.Ythicbfopjakiiaa.E
