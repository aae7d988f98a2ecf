import Derived.Test.YtcfncjejpjjhdaaM9
import Derived.Test.YtcfncjejpjjhdaaM7
namespace Go.Proofs.Ytcfncjejpjjhdaa.E
open Go Go.RowKit
set_option linter.unusedSimpArgs false
set_option linter.unusedVariables false

def sameAt (V M : BdV) (id : Int) : Prop := stV V id = stV M id ∧ lfV V id = lfR M id ∧ ixV V id = ixV M id
def sameP (V M : BdV) (n : Int) : Prop := veV V = n ∧ thV V = thV M ∧ goV V = goV M ∧ ∀ id, -1 ≤ id → id < 9 → sameAt V M id
theorem same_rel {k : Nat} {V M : BdV} (h : BdRel V M) (hok : BdOk k V) : sameP V M (veV M) :=
  ⟨by unfold veV; rw [go_rel h, Bd_len h], (th_rel h).symm, (go_rel h).symm, fun id _ _ => ⟨(st_rel h id).symm, (lf_rel h hok id).symm, (ix_rel h id).symm⟩⟩
theorem gaU {b : Bool} {S : World → Prop} {w : World} {X : (Value → World → Prop) → World → Prop} {K : (World → Prop) → Value → World → Prop} (k : K S undef w) : GuardA undef b S X K w := gaN (by simp [undef]) k
theorem bs1Ix {K : Value → World → Prop} {w : World} {A : Option Addr} {k c : Nat} {id : Int} {fs : List Int} (hr : Rd w (.slice A k c) (iV fs)) (kk : ∀ v' w', IxR w' [v'] [(id, fs)] → Below w.heap.size w w' → K v' w') :
    LiftP Try.prog (Instr.buildSlice 51 1 #[(0, .agg #[.int .i64 id, .slice A k c])]) K w := by
  have hb : (Instr.buildSlice 51 1 #[(0, .agg #[.int .i64 id, .slice A k c])]).run Try.prog w = .ok (.slice (some ⟨w.heap.size, 0, none⟩) 1 1) (w.alloc (.cells #[.int .i64 id, .slice A k c] 47)) := by kernel_rfl
  have ha := (Below.refl w.heap.size w).alloc (Nat.le_refl _) (.cells #[.int .i64 id, .slice A k c] 47)
  have ho : (w.alloc (.cells #[.int .i64 id, .slice A k c] 47)).ownsRow 0 47 2 (.slice (some ⟨w.heap.size, 0, none⟩) 1 1) 1 [.int .i64 id, .slice A k c] :=
    ⟨rfl, .inr ⟨w.heap.size, 1, _, rfl, Nat.zero_le _, heap_alloc_new w _, Nat.le_refl _, by decide, rfl, rfl⟩⟩
  refine lift hb (kk _ _ ?_ ha)
  exact OwnR.rd (f := fun x : Int × List Int => [.int .i64 x.1, .slice A k c]) (l := [(id, fs)]) (OwnR.of_own ho) (fun _ => rfl) fun x hx => by
    simp only [List.mem_cons, List.not_mem_nil, or_false] at hx
    subst hx
    exact ⟨_, rfl, hr.below ha⟩
section
variable {hu hu' : Nat} {c : Nat → Nat} {w : World} {g g' k : Nat} {vn : Int} {V M : BdV}
theorem bndE {b b' : Bool} {t : TypeId} {x y : Operand} {S : World → Prop} {K : Value → World → Prop} {w : World} (ht : Try.prog.underlying t = some .bool) (k : K (.bool (decide (b ≠ b'))) w) : YieldP Try.prog S (binS .neq t x y (.bool b) (.bool b')) K w := yi_bneq ht k
theorem same23 (h : BdS hu c w g V) (h' : RbS hu' c w g' vn M) (hok : BdOk k V) (hk : k ≤ 1000) (hM6 : M.length ≤ 6) (hMs : ∀ x ∈ M, x.st = 1 ∨ x.st = 2 ∨ x.st = 3) (hMl : ∀ x ∈ M, x.rs.length ≤ 100) :
    CallP Try.prog 23 #[.pointer (some ⟨g, 0, none⟩), .pointer (some ⟨g', 0, none⟩)] (fun r w' => (∃ b, r = .bool b ∧ (b = true ↔ sameP V M vn)) ∧ Below w.heap.size w w') w := by
  refine ⟨S23.calls _ _ _ _ ?_⟩
  unfold S23
  have hdr : Below w.heap.size w w.drew := (Below.refl _ _).drew
  have h'0 := h'
  obtain ⟨vLr, MM, hR, hRV⟩ := h'0
  have kV : ∀ w', Below w.heap.size w w' → w'.cell? ⟨g', 1, none⟩ = some (.int .i64 vn) := fun w' hb => (hR.blk.below' hb).cell 1
  refine draw (Below w.heap.size w) hdr ?_
  refine yofPR (pr_pnil undBp) ?_
  simp only [Option.isNone_some]
  (repeat with_reducible first | refine yfd c1 (by decide) ?_| refine yl1 oneI kV ?_|refine z_J ?_|refine z_a ?_|refine z_b ?_|refine z_c ?_|refine z_d ?_|refine z_e ?_|refine z_f ?_|refine z_g ?_|refine z_h ?_|refine z_i ?_|refine z_j ?_|refine z_k ?_|refine z_l ?_|refine z_K (by omega) ?_|refine z_L (by omega) ?_|refine z_M (by omega) ?_|refine z_N (by omega) ?_|refine z_O (by omega) ?_|refine z_P (by omega) ?_|refine z_Q (by omega) ?_|refine z_R (by omega) ?_|refine z_S (by omega) ?_|refine z_T (by omega) ?_|refine z_U (by omega) ?_|refine z_V (by omega) ?_|refine z_W (by omega) ?_|refine z_X (by omega) ?_|refine z_Y ?_|refine z_Z ?_|refine z_a1 ?_|refine z_b1 ?_|refine z_c1 ?_|refine z_d1 ?_|refine z_e1 ?_|refine z_f1 ?_|refine z_g1 ?_)
  refine act ?_
  refine (Version26 (h.below hdr) hok).mono ?_
  rintro _ w1 ⟨rfl, h1⟩
  have hb1 := below_then hdr h1
  refine ⟨_, hb1, fun _ h => h, ?_⟩
  (repeat with_reducible first|refine z_J ?_|refine z_a ?_|refine z_b ?_|refine z_c ?_|refine z_d ?_|refine z_e ?_|refine z_f ?_|refine z_g ?_|refine z_h ?_|refine z_i ?_|refine z_j ?_|refine z_k ?_|refine z_l ?_|refine z_K (by omega) ?_|refine z_L (by omega) ?_|refine z_M (by omega) ?_|refine z_N (by omega) ?_|refine z_O (by omega) ?_|refine z_P (by omega) ?_|refine z_Q (by omega) ?_|refine z_R (by omega) ?_|refine z_S (by omega) ?_|refine z_T (by omega) ?_|refine z_U (by omega) ?_|refine z_V (by omega) ?_|refine z_W (by omega) ?_|refine z_X (by omega) ?_|refine z_Y ?_|refine z_Z ?_|refine z_a1 ?_|refine z_b1 ?_|refine z_c1 ?_|refine z_d1 ?_|refine z_e1 ?_|refine z_f1 ?_|refine z_g1 ?_)
  refine yi_neq_c (fun hn => ?_) (fun hn1 => ?_)
  · (repeat with_reducible first|refine z_J ?_|refine z_a ?_|refine z_b ?_|refine z_c ?_|refine z_d ?_|refine z_e ?_|refine z_f ?_|refine z_g ?_|refine z_h ?_|refine z_i ?_|refine z_j ?_|refine z_k ?_|refine z_l ?_|refine z_K (by omega) ?_|refine z_L (by omega) ?_|refine z_M (by omega) ?_|refine z_N (by omega) ?_|refine z_O (by omega) ?_|refine z_P (by omega) ?_|refine z_Q (by omega) ?_|refine z_R (by omega) ?_|refine z_S (by omega) ?_|refine z_T (by omega) ?_|refine z_U (by omega) ?_|refine z_V (by omega) ?_|refine z_W (by omega) ?_|refine z_X (by omega) ?_|refine z_Y ?_|refine z_Z ?_|refine z_a1 ?_|refine z_b1 ?_|refine z_c1 ?_|refine z_d1 ?_|refine z_e1 ?_|refine z_f1 ?_|refine z_g1 ?_)
    (repeat with_reducible first|refine z_a ?_|refine z_b ?_|refine z_c ?_|refine z_d ?_|refine z_e ?_|refine z_f ?_|refine z_g ?_|refine z_h ?_|refine z_i ?_|refine z_j ?_|refine z_k ?_|refine z_l ?_|refine z_m (by omega) ?_|refine z_n (by omega) ?_|refine z_o (by omega) ?_|refine z_p (by omega) ?_|refine z_q (by omega) ?_|refine z_r (by omega) ?_|refine z_s (by omega) ?_|refine z_t (by omega) ?_|refine z_u (by omega) ?_|refine z_v (by omega) ?_|refine z_w (by omega) ?_|refine z_x (by omega) ?_|refine z_y (by omega) ?_|refine z_z (by omega) ?_|refine z_A ?_|refine z_B ?_|refine z_C ?_|refine z_D ?_|refine z_E ?_|refine z_F ?_|refine z_G ?_|refine z_H ?_|refine z_I ?_)
    exact ⟨⟨false, rfl, ⟨fun e => (by cases e), fun e => absurd e.1 hn⟩⟩, hb1⟩
  (repeat with_reducible first|refine z_J ?_|refine z_a ?_|refine z_b ?_|refine z_c ?_|refine z_d ?_|refine z_e ?_|refine z_f ?_|refine z_g ?_|refine z_h ?_|refine z_i ?_|refine z_j ?_|refine z_k ?_|refine z_l ?_|refine z_K (by omega) ?_|refine z_L (by omega) ?_|refine z_M (by omega) ?_|refine z_N (by omega) ?_|refine z_O (by omega) ?_|refine z_P (by omega) ?_|refine z_Q (by omega) ?_|refine z_R (by omega) ?_|refine z_S (by omega) ?_|refine z_T (by omega) ?_|refine z_U (by omega) ?_|refine z_V (by omega) ?_|refine z_W (by omega) ?_|refine z_X (by omega) ?_|refine z_Y ?_|refine z_Z ?_|refine z_a1 ?_|refine z_b1 ?_|refine z_c1 ?_|refine z_d1 ?_|refine z_e1 ?_|refine z_f1 ?_|refine z_g1 ?_)
  refine act ?_
  refine (There21 (h.below hb1) hok).mono ?_
  rintro v2 w2 ⟨L, hLe, hown2, h2⟩
  have hb2 := below_then hb1 h2
  refine ⟨_, hb2, fun _ h => h, ?_⟩
  (repeat with_reducible first|refine z_J ?_|refine z_a ?_|refine z_b ?_|refine z_c ?_|refine z_d ?_|refine z_e ?_|refine z_f ?_|refine z_g ?_|refine z_h ?_|refine z_i ?_|refine z_j ?_|refine z_k ?_|refine z_l ?_|refine z_K (by omega) ?_|refine z_L (by omega) ?_|refine z_M (by omega) ?_|refine z_N (by omega) ?_|refine z_O (by omega) ?_|refine z_P (by omega) ?_|refine z_Q (by omega) ?_|refine z_R (by omega) ?_|refine z_S (by omega) ?_|refine z_T (by omega) ?_|refine z_U (by omega) ?_|refine z_V (by omega) ?_|refine z_W (by omega) ?_|refine z_X (by omega) ?_|refine z_Y ?_|refine z_Z ?_|refine z_a1 ?_|refine z_b1 ?_|refine z_c1 ?_|refine z_d1 ?_|refine z_e1 ?_|refine z_f1 ?_|refine z_g1 ?_)
  refine act ?_
  refine (refThere39 (h'.below hb2) hM6 hMs).mono ?_
  rintro v3 w3 ⟨L', hLe', hown3, h3⟩
  have hb3 := below_then hb2 h3
  refine ⟨_, hb3, fun _ h => h, ?_⟩
  (repeat with_reducible first|refine z_J ?_|refine z_a ?_|refine z_b ?_|refine z_c ?_|refine z_d ?_|refine z_e ?_|refine z_f ?_|refine z_g ?_|refine z_h ?_|refine z_i ?_|refine z_j ?_|refine z_k ?_|refine z_l ?_|refine z_K (by omega) ?_|refine z_L (by omega) ?_|refine z_M (by omega) ?_|refine z_N (by omega) ?_|refine z_O (by omega) ?_|refine z_P (by omega) ?_|refine z_Q (by omega) ?_|refine z_R (by omega) ?_|refine z_S (by omega) ?_|refine z_T (by omega) ?_|refine z_U (by omega) ?_|refine z_V (by omega) ?_|refine z_W (by omega) ?_|refine z_X (by omega) ?_|refine z_Y ?_|refine z_Z ?_|refine z_a1 ?_|refine z_b1 ?_|refine z_c1 ?_|refine z_d1 ?_|refine z_e1 ?_|refine z_f1 ?_|refine z_g1 ?_)
  refine act ?_
  refine (sameIndexes38 v2 v3 _ _ w3 (hown2.kept h3).rd hown3.rd).mono ?_
  rintro _ w4 ⟨rfl, h4⟩
  rw [hLe, hLe']
  have hb4 := below_then hb3 h4
  refine ⟨_, hb4, fun _ h => h, ?_⟩
  rcases Classical.em (thV V = thV M) with ht | ht
  rotate_left
  · rw [decide_eq_false ht]
    (repeat with_reducible first|refine z_J ?_|refine z_a ?_|refine z_b ?_|refine z_c ?_|refine z_d ?_|refine z_e ?_|refine z_f ?_|refine z_g ?_|refine z_h ?_|refine z_i ?_|refine z_j ?_|refine z_k ?_|refine z_l ?_|refine z_K (by omega) ?_|refine z_L (by omega) ?_|refine z_M (by omega) ?_|refine z_N (by omega) ?_|refine z_O (by omega) ?_|refine z_P (by omega) ?_|refine z_Q (by omega) ?_|refine z_R (by omega) ?_|refine z_S (by omega) ?_|refine z_T (by omega) ?_|refine z_U (by omega) ?_|refine z_V (by omega) ?_|refine z_W (by omega) ?_|refine z_X (by omega) ?_|refine z_Y ?_|refine z_Z ?_|refine z_a1 ?_|refine z_b1 ?_|refine z_c1 ?_|refine z_d1 ?_|refine z_e1 ?_|refine z_f1 ?_|refine z_g1 ?_)
    (repeat with_reducible first|refine z_a ?_|refine z_b ?_|refine z_c ?_|refine z_d ?_|refine z_e ?_|refine z_f ?_|refine z_g ?_|refine z_h ?_|refine z_i ?_|refine z_j ?_|refine z_k ?_|refine z_l ?_|refine z_m (by omega) ?_|refine z_n (by omega) ?_|refine z_o (by omega) ?_|refine z_p (by omega) ?_|refine z_q (by omega) ?_|refine z_r (by omega) ?_|refine z_s (by omega) ?_|refine z_t (by omega) ?_|refine z_u (by omega) ?_|refine z_v (by omega) ?_|refine z_w (by omega) ?_|refine z_x (by omega) ?_|refine z_y (by omega) ?_|refine z_z (by omega) ?_|refine z_A ?_|refine z_B ?_|refine z_C ?_|refine z_D ?_|refine z_E ?_|refine z_F ?_|refine z_G ?_|refine z_H ?_|refine z_I ?_)
    exact ⟨⟨false, rfl, ⟨fun e => (by cases e), fun e => absurd e.2.1 ht⟩⟩, hb4⟩
  rw [decide_eq_true ht]
  (repeat with_reducible first|refine z_J ?_|refine z_a ?_|refine z_b ?_|refine z_c ?_|refine z_d ?_|refine z_e ?_|refine z_f ?_|refine z_g ?_|refine z_h ?_|refine z_i ?_|refine z_j ?_|refine z_k ?_|refine z_l ?_|refine z_K (by omega) ?_|refine z_L (by omega) ?_|refine z_M (by omega) ?_|refine z_N (by omega) ?_|refine z_O (by omega) ?_|refine z_P (by omega) ?_|refine z_Q (by omega) ?_|refine z_R (by omega) ?_|refine z_S (by omega) ?_|refine z_T (by omega) ?_|refine z_U (by omega) ?_|refine z_V (by omega) ?_|refine z_W (by omega) ?_|refine z_X (by omega) ?_|refine z_Y ?_|refine z_Z ?_|refine z_a1 ?_|refine z_b1 ?_|refine z_c1 ?_|refine z_d1 ?_|refine z_e1 ?_|refine z_f1 ?_|refine z_g1 ?_)
  refine act ?_
  refine (Gone22 (h.below hb4) hok).mono ?_
  rintro v5 w5 ⟨ho5, _, h5⟩
  have hb5 := below_then hb4 h5
  refine ⟨_, hb5, fun _ h => h, ?_⟩
  (repeat with_reducible first|refine z_J ?_|refine z_a ?_|refine z_b ?_|refine z_c ?_|refine z_d ?_|refine z_e ?_|refine z_f ?_|refine z_g ?_|refine z_h ?_|refine z_i ?_|refine z_j ?_|refine z_k ?_|refine z_l ?_|refine z_K (by omega) ?_|refine z_L (by omega) ?_|refine z_M (by omega) ?_|refine z_N (by omega) ?_|refine z_O (by omega) ?_|refine z_P (by omega) ?_|refine z_Q (by omega) ?_|refine z_R (by omega) ?_|refine z_S (by omega) ?_|refine z_T (by omega) ?_|refine z_U (by omega) ?_|refine z_V (by omega) ?_|refine z_W (by omega) ?_|refine z_X (by omega) ?_|refine z_Y ?_|refine z_Z ?_|refine z_a1 ?_|refine z_b1 ?_|refine z_c1 ?_|refine z_d1 ?_|refine z_e1 ?_|refine z_f1 ?_|refine z_g1 ?_)
  refine act ?_
  refine (refGone41 (h'.below hb5) hM6).mono ?_
  rintro v6 w6 ⟨ho6, _, h6⟩
  have hb6 := below_then hb5 h6
  refine ⟨_, hb6, fun _ h => h, ?_⟩
  (repeat with_reducible first|refine z_J ?_|refine z_a ?_|refine z_b ?_|refine z_c ?_|refine z_d ?_|refine z_e ?_|refine z_f ?_|refine z_g ?_|refine z_h ?_|refine z_i ?_|refine z_j ?_|refine z_k ?_|refine z_l ?_|refine z_K (by omega) ?_|refine z_L (by omega) ?_|refine z_M (by omega) ?_|refine z_N (by omega) ?_|refine z_O (by omega) ?_|refine z_P (by omega) ?_|refine z_Q (by omega) ?_|refine z_R (by omega) ?_|refine z_S (by omega) ?_|refine z_T (by omega) ?_|refine z_U (by omega) ?_|refine z_V (by omega) ?_|refine z_W (by omega) ?_|refine z_X (by omega) ?_|refine z_Y ?_|refine z_Z ?_|refine z_a1 ?_|refine z_b1 ?_|refine z_c1 ?_|refine z_d1 ?_|refine z_e1 ?_|refine z_f1 ?_|refine z_g1 ?_)
  refine act ?_
  refine (sameInts40 v5 v6 _ _ w6 (ho5.below h6).rd ho6.rd).mono ?_
  rintro _ w7 ⟨rfl, h7⟩
  have hb7 := below_then hb6 h7
  refine ⟨_, hb7, fun _ h => h, ?_⟩
  rcases Classical.em (goV V = goV M) with hgo | hgo
  rotate_left
  · rw [decide_eq_false hgo]
    (repeat with_reducible first|refine z_J ?_|refine z_a ?_|refine z_b ?_|refine z_c ?_|refine z_d ?_|refine z_e ?_|refine z_f ?_|refine z_g ?_|refine z_h ?_|refine z_i ?_|refine z_j ?_|refine z_k ?_|refine z_l ?_|refine z_K (by omega) ?_|refine z_L (by omega) ?_|refine z_M (by omega) ?_|refine z_N (by omega) ?_|refine z_O (by omega) ?_|refine z_P (by omega) ?_|refine z_Q (by omega) ?_|refine z_R (by omega) ?_|refine z_S (by omega) ?_|refine z_T (by omega) ?_|refine z_U (by omega) ?_|refine z_V (by omega) ?_|refine z_W (by omega) ?_|refine z_X (by omega) ?_|refine z_Y ?_|refine z_Z ?_|refine z_a1 ?_|refine z_b1 ?_|refine z_c1 ?_|refine z_d1 ?_|refine z_e1 ?_|refine z_f1 ?_|refine z_g1 ?_)
    (repeat with_reducible first|refine z_a ?_|refine z_b ?_|refine z_c ?_|refine z_d ?_|refine z_e ?_|refine z_f ?_|refine z_g ?_|refine z_h ?_|refine z_i ?_|refine z_j ?_|refine z_k ?_|refine z_l ?_|refine z_m (by omega) ?_|refine z_n (by omega) ?_|refine z_o (by omega) ?_|refine z_p (by omega) ?_|refine z_q (by omega) ?_|refine z_r (by omega) ?_|refine z_s (by omega) ?_|refine z_t (by omega) ?_|refine z_u (by omega) ?_|refine z_v (by omega) ?_|refine z_w (by omega) ?_|refine z_x (by omega) ?_|refine z_y (by omega) ?_|refine z_z (by omega) ?_|refine z_A ?_|refine z_B ?_|refine z_C ?_|refine z_D ?_|refine z_E ?_|refine z_F ?_|refine z_G ?_|refine z_H ?_|refine z_I ?_)
    exact ⟨⟨false, rfl, ⟨fun e => (by cases e), fun e => absurd e.2.2.1 hgo⟩⟩, hb7⟩
  rw [decide_eq_true hgo]
  (repeat with_reducible first|refine z_J ?_|refine z_a ?_|refine z_b ?_|refine z_c ?_|refine z_d ?_|refine z_e ?_|refine z_f ?_|refine z_g ?_|refine z_h ?_|refine z_i ?_|refine z_j ?_|refine z_k ?_|refine z_l ?_|refine z_K (by omega) ?_|refine z_L (by omega) ?_|refine z_M (by omega) ?_|refine z_N (by omega) ?_|refine z_O (by omega) ?_|refine z_P (by omega) ?_|refine z_Q (by omega) ?_|refine z_R (by omega) ?_|refine z_S (by omega) ?_|refine z_T (by omega) ?_|refine z_U (by omega) ?_|refine z_V (by omega) ?_|refine z_W (by omega) ?_|refine z_X (by omega) ?_|refine z_Y ?_|refine z_Z ?_|refine z_a1 ?_|refine z_b1 ?_|refine z_c1 ?_|refine z_d1 ?_|refine z_e1 ?_|refine z_f1 ?_|refine z_g1 ?_)
  (repeat with_reducible first|refine z_a ?_|refine z_b ?_|refine z_c ?_|refine z_d ?_|refine z_e ?_|refine z_f ?_|refine z_g ?_|refine z_h ?_|refine z_i ?_|refine z_j ?_|refine z_k ?_|refine z_l ?_|refine z_m (by omega) ?_|refine z_n (by omega) ?_|refine z_o (by omega) ?_|refine z_p (by omega) ?_|refine z_q (by omega) ?_|refine z_r (by omega) ?_|refine z_s (by omega) ?_|refine z_t (by omega) ?_|refine z_u (by omega) ?_|refine z_v (by omega) ?_|refine z_w (by omega) ?_|refine z_x (by omega) ?_|refine z_y (by omega) ?_|refine z_z (by omega) ?_|refine z_A ?_|refine z_B ?_|refine z_C ?_|refine z_D ?_|refine z_E ?_|refine z_F ?_|refine z_G ?_|refine z_H ?_|refine z_I ?_)
  refine LoopP.inv1 (fun iv w' => ∃ j : Int, iv = .int .i64 j ∧ -1 ≤ j ∧ j ≤ 9 ∧ (∀ id, -1 ≤ id → id < j → sameAt V M id) ∧ Below w.heap.size w w') (fun iv _ => (9 - intOf iv).toNat) ⟨-1, rfl, by omega, by omega, fun id h1 h2 => by omega, hb7⟩ ?_
  clear ho6 ho5 hown2 hown3 hb7 h7
  rintro _ w8 ⟨j, rfl, hj0, hj9, hall, hb8⟩ J hJ
  dsimp only [List.headD_cons, List.tail_cons]
  refine bi_lss_c (fun hlt => ?_) (fun hlt => ?_)
  rotate_left
  · (repeat with_reducible first|refine z_a ?_|refine z_b ?_|refine z_c ?_|refine z_d ?_|refine z_e ?_|refine z_f ?_|refine z_g ?_|refine z_h ?_|refine z_i ?_|refine z_j ?_|refine z_k ?_|refine z_l ?_|refine z_m (by omega) ?_|refine z_n (by omega) ?_|refine z_o (by omega) ?_|refine z_p (by omega) ?_|refine z_q (by omega) ?_|refine z_r (by omega) ?_|refine z_s (by omega) ?_|refine z_t (by omega) ?_|refine z_u (by omega) ?_|refine z_v (by omega) ?_|refine z_w (by omega) ?_|refine z_x (by omega) ?_|refine z_y (by omega) ?_|refine z_z (by omega) ?_|refine z_A ?_|refine z_B ?_|refine z_C ?_|refine z_D ?_|refine z_E ?_|refine z_F ?_|refine z_G ?_|refine z_H ?_|refine z_I ?_)
    exact ⟨⟨true, rfl, ⟨fun _ => ⟨by omega, ht, hgo, fun id h1 h2 => hall id h1 (by omega)⟩, fun _ => rfl⟩⟩, hb8⟩
  (repeat with_reducible first|refine z_a ?_|refine z_b ?_|refine z_c ?_|refine z_d ?_|refine z_e ?_|refine z_f ?_|refine z_g ?_|refine z_h ?_|refine z_i ?_|refine z_j ?_|refine z_k ?_|refine z_l ?_|refine z_m (by omega) ?_|refine z_n (by omega) ?_|refine z_o (by omega) ?_|refine z_p (by omega) ?_|refine z_q (by omega) ?_|refine z_r (by omega) ?_|refine z_s (by omega) ?_|refine z_t (by omega) ?_|refine z_u (by omega) ?_|refine z_v (by omega) ?_|refine z_w (by omega) ?_|refine z_x (by omega) ?_|refine z_y (by omega) ?_|refine z_z (by omega) ?_|refine z_A ?_|refine z_B ?_|refine z_C ?_|refine z_D ?_|refine z_E ?_|refine z_F ?_|refine z_G ?_|refine z_H ?_|refine z_I ?_)
  have bad : ¬ sameAt V M j → ∀ w', Below w.heap.size w w' → (∃ b, Value.bool false = .bool b ∧ (b = true ↔ sameP V M vn)) ∧ Below w.heap.size w w' := fun hs w' hb => ⟨⟨false, rfl, ⟨fun e => (by cases e), fun e => absurd (e.2.2.2 j hj0 hlt) hs⟩⟩, hb⟩
  have next : sameAt V M j → ∀ w', Below w.heap.size w w' → J [.int .i64 (j + 1)] w' := fun hs w' hb => hJ _ _ ⟨j + 1, rfl, by omega, by omega, fun id h1 h2 => by
    rcases Int.lt_or_le id j with h | h
    · exact hall id h1 h
    · have : id = j := by omega
      rw [this]; exact hs, hb⟩ (by simp only [intOf]; omega)
  refine (Index19 j (by omega) (h.below hb8) hok).mono ?_
  rintro r w9 ⟨hr, h9⟩
  have hb9 := below_then hb8 h9
  have hst13 : stV V j = 1 ∨ stV V j = 2 ↔ (ixV V j).isSome = true := by
    constructor
    · intro e
      obtain ⟨q1, q2⟩ := stV_in (V := V) (id := j) (by omega)
      have q3 := ixV_in (V := V) (k := (j - 1).toNat) (by omega) (id := j) (by omega)
      rw [stV_at q1 q2] at e
      rw [q3, if_pos e]; rfl
    · intro e
      unfold ixV at e
      split at e
      · rename_i q; exact q
      · cases e
  -- the answer of Index, put into a box
  have step : ∀ (cells : Array Value) (b : Bool), r = .tuple #[.agg cells, .bool b] → cells.size = 2 → cells.all (·.oneCell') = true → b = (ixV V j).isSome → True := fun _ _ _ _ _ _ => trivial
  cases hix : ixV V j with
  | none =>
    rw [hix] at hr hst13
    replace hr : r = _ := hr
    subst hr
    have hns : ¬ (stV V j = 1 ∨ stV V j = 2) := fun e => by have := hst13.1 e; cases this
    (repeat with_reducible first|refine z_a ?_|refine z_b ?_|refine z_c ?_|refine z_d ?_|refine z_e ?_|refine z_f ?_|refine z_g ?_|refine z_h ?_|refine z_i ?_|refine z_j ?_|refine z_k ?_|refine z_l ?_|refine z_m (by omega) ?_|refine z_n (by omega) ?_|refine z_o (by omega) ?_|refine z_p (by omega) ?_|refine z_q (by omega) ?_|refine z_r (by omega) ?_|refine z_s (by omega) ?_|refine z_t (by omega) ?_|refine z_u (by omega) ?_|refine z_v (by omega) ?_|refine z_w (by omega) ?_|refine z_x (by omega) ?_|refine z_y (by omega) ?_|refine z_z (by omega) ?_|refine z_A ?_|refine z_B ?_|refine z_C ?_|refine z_D ?_|refine z_E ?_|refine z_F ?_|refine z_G ?_|refine z_H ?_|refine z_I ?_)
    refine alB zX ?_
    intro gx wa hgx hBa ha
    refine stB (cells := #[.int .i64 0, .slice none 0 0]) hBa szX rfl (by simp [Value.oneCell']) ?_
    intro wb hBb hTb
    have hb : Below w9.heap.size w9 wb := below_own ha hTb (by omega)
    have hbb := below_then hb9 hb
    refine (refState35 j (h'.below hbb) (by omega)).mono ?_
    rintro _ _ ⟨rfl, rfl⟩
    refine JoinP.cut (fun xs w' => (∃ b, xs = [.bool b] ∧ (b = false ↔ sameAt V M j)) ∧ Below w.heap.size w w') (fun J2 hJ2 => ?_) (fun xs w' hI => ?_)
    rotate_left
    · obtain ⟨⟨b, rfl, hb2⟩, hbw⟩ := hI
      dsimp only [List.headD_cons, List.tail_cons]
      cases b with
      | true =>
        (repeat with_reducible first|refine z_a ?_|refine z_b ?_|refine z_c ?_|refine z_d ?_|refine z_e ?_|refine z_f ?_|refine z_g ?_|refine z_h ?_|refine z_i ?_|refine z_j ?_|refine z_k ?_|refine z_l ?_|refine z_m (by omega) ?_|refine z_n (by omega) ?_|refine z_o (by omega) ?_|refine z_p (by omega) ?_|refine z_q (by omega) ?_|refine z_r (by omega) ?_|refine z_s (by omega) ?_|refine z_t (by omega) ?_|refine z_u (by omega) ?_|refine z_v (by omega) ?_|refine z_w (by omega) ?_|refine z_x (by omega) ?_|refine z_y (by omega) ?_|refine z_z (by omega) ?_|refine z_A ?_|refine z_B ?_|refine z_C ?_|refine z_D ?_|refine z_E ?_|refine z_F ?_|refine z_G ?_|refine z_H ?_|refine z_I ?_)
        exact bad (fun e => by have := hb2.2 e; cases this) _ hbw
      | false =>
        (repeat with_reducible first|refine z_a ?_|refine z_b ?_|refine z_c ?_|refine z_d ?_|refine z_e ?_|refine z_f ?_|refine z_g ?_|refine z_h ?_|refine z_i ?_|refine z_j ?_|refine z_k ?_|refine z_l ?_|refine z_m (by omega) ?_|refine z_n (by omega) ?_|refine z_o (by omega) ?_|refine z_p (by omega) ?_|refine z_q (by omega) ?_|refine z_r (by omega) ?_|refine z_s (by omega) ?_|refine z_t (by omega) ?_|refine z_u (by omega) ?_|refine z_v (by omega) ?_|refine z_w (by omega) ?_|refine z_x (by omega) ?_|refine z_y (by omega) ?_|refine z_z (by omega) ?_|refine z_A ?_|refine z_B ?_|refine z_C ?_|refine z_D ?_|refine z_E ?_|refine z_F ?_|refine z_G ?_|refine z_H ?_|refine z_I ?_)
        exact next (hb2.1 rfl) _ hbw
    have hdr2 : Below wb.heap.size wb wb.drew := (Below.refl _ _).drew
    have hbd := below_then hbb hdr2
    refine draw (Below w.heap.size w) hbd ?_
    generalize wb.drew = wd at *
    refine act ?_
    refine (State13 j (by omega) (h.below hbd) hok).mono ?_
    rintro _ we ⟨rfl, he⟩
    have hbe := below_then hbd he
    refine ⟨_, hbe, fun _ h => h, ?_⟩
    refine yi_neq_c (fun hne => ?_) (fun heq => ?_)
    · (repeat with_reducible first | refine gaU ?_|refine z_J ?_|refine z_a ?_|refine z_b ?_|refine z_c ?_|refine z_d ?_|refine z_e ?_|refine z_f ?_|refine z_g ?_|refine z_h ?_|refine z_i ?_|refine z_j ?_|refine z_k ?_|refine z_l ?_|refine z_K (by omega) ?_|refine z_L (by omega) ?_|refine z_M (by omega) ?_|refine z_N (by omega) ?_|refine z_O (by omega) ?_|refine z_P (by omega) ?_|refine z_Q (by omega) ?_|refine z_R (by omega) ?_|refine z_S (by omega) ?_|refine z_T (by omega) ?_|refine z_U (by omega) ?_|refine z_V (by omega) ?_|refine z_W (by omega) ?_|refine z_X (by omega) ?_|refine z_Y ?_|refine z_Z ?_|refine z_a1 ?_|refine z_b1 ?_|refine z_c1 ?_|refine z_d1 ?_|refine z_e1 ?_|refine z_f1 ?_|refine z_g1 ?_)
      refine ⟨?_, ⟨?_, trivial⟩⟩
      all_goals
        (repeat with_reducible first | refine gaU ?_|refine z_J ?_|refine z_a ?_|refine z_b ?_|refine z_c ?_|refine z_d ?_|refine z_e ?_|refine z_f ?_|refine z_g ?_|refine z_h ?_|refine z_i ?_|refine z_j ?_|refine z_k ?_|refine z_l ?_|refine z_K (by omega) ?_|refine z_L (by omega) ?_|refine z_M (by omega) ?_|refine z_N (by omega) ?_|refine z_O (by omega) ?_|refine z_P (by omega) ?_|refine z_Q (by omega) ?_|refine z_R (by omega) ?_|refine z_S (by omega) ?_|refine z_T (by omega) ?_|refine z_U (by omega) ?_|refine z_V (by omega) ?_|refine z_W (by omega) ?_|refine z_X (by omega) ?_|refine z_Y ?_|refine z_Z ?_|refine z_a1 ?_|refine z_b1 ?_|refine z_c1 ?_|refine z_d1 ?_|refine z_e1 ?_|refine z_f1 ?_|refine z_g1 ?_)
        exact hJ2 _ _ ⟨⟨true, rfl, ⟨fun e => (by cases e), fun e => absurd e.1 hne⟩⟩, hbe⟩
    have n1 : ¬ stV M j = 1 := fun e => hns (.inl (heq.trans e))
    have n2 : ¬ stV M j = 2 := fun e => hns (.inr (heq.trans e))
    (repeat with_reducible first|refine z_J ?_|refine z_a ?_|refine z_b ?_|refine z_c ?_|refine z_d ?_|refine z_e ?_|refine z_f ?_|refine z_g ?_|refine z_h ?_|refine z_i ?_|refine z_j ?_|refine z_k ?_|refine z_l ?_|refine z_K (by omega) ?_|refine z_L (by omega) ?_|refine z_M (by omega) ?_|refine z_N (by omega) ?_|refine z_O (by omega) ?_|refine z_P (by omega) ?_|refine z_Q (by omega) ?_|refine z_R (by omega) ?_|refine z_S (by omega) ?_|refine z_T (by omega) ?_|refine z_U (by omega) ?_|refine z_V (by omega) ?_|refine z_W (by omega) ?_|refine z_X (by omega) ?_|refine z_Y ?_|refine z_Z ?_|refine z_a1 ?_|refine z_b1 ?_|refine z_c1 ?_|refine z_d1 ?_|refine z_e1 ?_|refine z_f1 ?_|refine z_g1 ?_)
    refine bndE undBo ?_
    (repeat with_reducible first|refine z_J ?_|refine z_a ?_|refine z_b ?_|refine z_c ?_|refine z_d ?_|refine z_e ?_|refine z_f ?_|refine z_g ?_|refine z_h ?_|refine z_i ?_|refine z_j ?_|refine z_k ?_|refine z_l ?_|refine z_K (by omega) ?_|refine z_L (by omega) ?_|refine z_M (by omega) ?_|refine z_N (by omega) ?_|refine z_O (by omega) ?_|refine z_P (by omega) ?_|refine z_Q (by omega) ?_|refine z_R (by omega) ?_|refine z_S (by omega) ?_|refine z_T (by omega) ?_|refine z_U (by omega) ?_|refine z_V (by omega) ?_|refine z_W (by omega) ?_|refine z_X (by omega) ?_|refine z_Y ?_|refine z_Z ?_|refine z_a1 ?_|refine z_b1 ?_|refine z_c1 ?_|refine z_d1 ?_|refine z_e1 ?_|refine z_f1 ?_|refine z_g1 ?_)
    simp only [ne_eq, not_true_eq_false, decide_false]
    (repeat with_reducible first|refine z_J ?_|refine z_a ?_|refine z_b ?_|refine z_c ?_|refine z_d ?_|refine z_e ?_|refine z_f ?_|refine z_g ?_|refine z_h ?_|refine z_i ?_|refine z_j ?_|refine z_k ?_|refine z_l ?_|refine z_K (by omega) ?_|refine z_L (by omega) ?_|refine z_M (by omega) ?_|refine z_N (by omega) ?_|refine z_O (by omega) ?_|refine z_P (by omega) ?_|refine z_Q (by omega) ?_|refine z_R (by omega) ?_|refine z_S (by omega) ?_|refine z_T (by omega) ?_|refine z_U (by omega) ?_|refine z_V (by omega) ?_|refine z_W (by omega) ?_|refine z_X (by omega) ?_|refine z_Y ?_|refine z_Z ?_|refine z_a1 ?_|refine z_b1 ?_|refine z_c1 ?_|refine z_d1 ?_|refine z_e1 ?_|refine z_f1 ?_|refine z_g1 ?_)
    refine act ?_
    refine (Left20 j (by omega) (h.below hbe) hok (by omega)).mono ?_
    rintro vf wf ⟨hof, hf⟩
    have hbf := below_then hbe hf
    refine ⟨_, hbf, fun _ h => h, ?_⟩
    (repeat with_reducible first|refine z_J ?_|refine z_a ?_|refine z_b ?_|refine z_c ?_|refine z_d ?_|refine z_e ?_|refine z_f ?_|refine z_g ?_|refine z_h ?_|refine z_i ?_|refine z_j ?_|refine z_k ?_|refine z_l ?_|refine z_K (by omega) ?_|refine z_L (by omega) ?_|refine z_M (by omega) ?_|refine z_N (by omega) ?_|refine z_O (by omega) ?_|refine z_P (by omega) ?_|refine z_Q (by omega) ?_|refine z_R (by omega) ?_|refine z_S (by omega) ?_|refine z_T (by omega) ?_|refine z_U (by omega) ?_|refine z_V (by omega) ?_|refine z_W (by omega) ?_|refine z_X (by omega) ?_|refine z_Y ?_|refine z_Z ?_|refine z_a1 ?_|refine z_b1 ?_|refine z_c1 ?_|refine z_d1 ?_|refine z_e1 ?_|refine z_f1 ?_|refine z_g1 ?_)
    refine act ?_
    refine (refLeft43 j (by omega) (h'.below hbf) hMl).mono ?_
    rintro vg wg ⟨hog, hg⟩
    have hbg := below_then hbf hg
    refine ⟨_, hbg, fun _ h => h, ?_⟩
    (repeat with_reducible first|refine z_J ?_|refine z_a ?_|refine z_b ?_|refine z_c ?_|refine z_d ?_|refine z_e ?_|refine z_f ?_|refine z_g ?_|refine z_h ?_|refine z_i ?_|refine z_j ?_|refine z_k ?_|refine z_l ?_|refine z_K (by omega) ?_|refine z_L (by omega) ?_|refine z_M (by omega) ?_|refine z_N (by omega) ?_|refine z_O (by omega) ?_|refine z_P (by omega) ?_|refine z_Q (by omega) ?_|refine z_R (by omega) ?_|refine z_S (by omega) ?_|refine z_T (by omega) ?_|refine z_U (by omega) ?_|refine z_V (by omega) ?_|refine z_W (by omega) ?_|refine z_X (by omega) ?_|refine z_Y ?_|refine z_Z ?_|refine z_a1 ?_|refine z_b1 ?_|refine z_c1 ?_|refine z_d1 ?_|refine z_e1 ?_|refine z_f1 ?_|refine z_g1 ?_)
    refine act ?_
    refine (same20 vf vg _ _ wg (hof.kept hg).rd hog.rd).mono ?_
    rintro _ wh ⟨rfl, hh⟩
    have hbh := below_then hbg hh
    refine ⟨_, hbh, fun _ h => h, ?_⟩
    rcases Classical.em (lfV V j = lfR M j) with hlf | hlf
    · rw [decide_eq_true hlf]
      (repeat with_reducible first|refine z_J ?_|refine z_a ?_|refine z_b ?_|refine z_c ?_|refine z_d ?_|refine z_e ?_|refine z_f ?_|refine z_g ?_|refine z_h ?_|refine z_i ?_|refine z_j ?_|refine z_k ?_|refine z_l ?_|refine z_K (by omega) ?_|refine z_L (by omega) ?_|refine z_M (by omega) ?_|refine z_N (by omega) ?_|refine z_O (by omega) ?_|refine z_P (by omega) ?_|refine z_Q (by omega) ?_|refine z_R (by omega) ?_|refine z_S (by omega) ?_|refine z_T (by omega) ?_|refine z_U (by omega) ?_|refine z_V (by omega) ?_|refine z_W (by omega) ?_|refine z_X (by omega) ?_|refine z_Y ?_|refine z_Z ?_|refine z_a1 ?_|refine z_b1 ?_|refine z_c1 ?_|refine z_d1 ?_|refine z_e1 ?_|refine z_f1 ?_|refine z_g1 ?_)
      refine ⟨?_, ⟨?_, trivial⟩⟩
      all_goals
        (repeat with_reducible first | refine gaU ?_|refine z_J ?_|refine z_a ?_|refine z_b ?_|refine z_c ?_|refine z_d ?_|refine z_e ?_|refine z_f ?_|refine z_g ?_|refine z_h ?_|refine z_i ?_|refine z_j ?_|refine z_k ?_|refine z_l ?_|refine z_K (by omega) ?_|refine z_L (by omega) ?_|refine z_M (by omega) ?_|refine z_N (by omega) ?_|refine z_O (by omega) ?_|refine z_P (by omega) ?_|refine z_Q (by omega) ?_|refine z_R (by omega) ?_|refine z_S (by omega) ?_|refine z_T (by omega) ?_|refine z_U (by omega) ?_|refine z_V (by omega) ?_|refine z_W (by omega) ?_|refine z_X (by omega) ?_|refine z_Y ?_|refine z_Z ?_|refine z_a1 ?_|refine z_b1 ?_|refine z_c1 ?_|refine z_d1 ?_|refine z_e1 ?_|refine z_f1 ?_|refine z_g1 ?_)
        refine hJ2 _ _ ⟨⟨false, rfl, ⟨fun _ => ⟨heq, hlf, ?_⟩, fun _ => rfl⟩⟩, hbh⟩
        rw [hix]
        unfold ixV
        rw [if_neg (by omega)]
    · rw [decide_eq_false hlf]
      (repeat with_reducible first|refine z_J ?_|refine z_a ?_|refine z_b ?_|refine z_c ?_|refine z_d ?_|refine z_e ?_|refine z_f ?_|refine z_g ?_|refine z_h ?_|refine z_i ?_|refine z_j ?_|refine z_k ?_|refine z_l ?_|refine z_K (by omega) ?_|refine z_L (by omega) ?_|refine z_M (by omega) ?_|refine z_N (by omega) ?_|refine z_O (by omega) ?_|refine z_P (by omega) ?_|refine z_Q (by omega) ?_|refine z_R (by omega) ?_|refine z_S (by omega) ?_|refine z_T (by omega) ?_|refine z_U (by omega) ?_|refine z_V (by omega) ?_|refine z_W (by omega) ?_|refine z_X (by omega) ?_|refine z_Y ?_|refine z_Z ?_|refine z_a1 ?_|refine z_b1 ?_|refine z_c1 ?_|refine z_d1 ?_|refine z_e1 ?_|refine z_f1 ?_|refine z_g1 ?_)
      refine ⟨?_, ⟨?_, trivial⟩⟩
      all_goals
        (repeat with_reducible first | refine gaU ?_|refine z_J ?_|refine z_a ?_|refine z_b ?_|refine z_c ?_|refine z_d ?_|refine z_e ?_|refine z_f ?_|refine z_g ?_|refine z_h ?_|refine z_i ?_|refine z_j ?_|refine z_k ?_|refine z_l ?_|refine z_K (by omega) ?_|refine z_L (by omega) ?_|refine z_M (by omega) ?_|refine z_N (by omega) ?_|refine z_O (by omega) ?_|refine z_P (by omega) ?_|refine z_Q (by omega) ?_|refine z_R (by omega) ?_|refine z_S (by omega) ?_|refine z_T (by omega) ?_|refine z_U (by omega) ?_|refine z_V (by omega) ?_|refine z_W (by omega) ?_|refine z_X (by omega) ?_|refine z_Y ?_|refine z_Z ?_|refine z_a1 ?_|refine z_b1 ?_|refine z_c1 ?_|refine z_d1 ?_|refine z_e1 ?_|refine z_f1 ?_|refine z_g1 ?_)
        exact hJ2 _ _ ⟨⟨true, rfl, ⟨fun e => (by cases e), fun e => absurd e.2.1 hlf⟩⟩, hbh⟩
  | some fs =>
    rw [hix] at hr hst13
    obtain ⟨vfs, rfl, hvf, hff⟩ := hr
    have hns : stV V j = 1 ∨ stV V j = 2 := hst13.2 rfl
    obtain ⟨Ax, cx, rfl⟩ := hvf.slice
    (repeat with_reducible first|refine z_a ?_|refine z_b ?_|refine z_c ?_|refine z_d ?_|refine z_e ?_|refine z_f ?_|refine z_g ?_|refine z_h ?_|refine z_i ?_|refine z_j ?_|refine z_k ?_|refine z_l ?_|refine z_m (by omega) ?_|refine z_n (by omega) ?_|refine z_o (by omega) ?_|refine z_p (by omega) ?_|refine z_q (by omega) ?_|refine z_r (by omega) ?_|refine z_s (by omega) ?_|refine z_t (by omega) ?_|refine z_u (by omega) ?_|refine z_v (by omega) ?_|refine z_w (by omega) ?_|refine z_x (by omega) ?_|refine z_y (by omega) ?_|refine z_z (by omega) ?_|refine z_A ?_|refine z_B ?_|refine z_C ?_|refine z_D ?_|refine z_E ?_|refine z_F ?_|refine z_G ?_|refine z_H ?_|refine z_I ?_)
    refine alB zX ?_
    intro gx wa hgx hBa ha
    refine stB (cells := #[.int .i64 j, .slice Ax (iV fs).length cx]) hBa szX rfl (by simp [Value.oneCell']) ?_
    intro wb hBb hTb
    have hb : Below w9.heap.size w9 wb := below_own ha hTb (by omega)
    have hbb := below_then hb9 hb
    refine (refState35 j (h'.below hbb) (by omega)).mono ?_
    rintro _ _ ⟨rfl, rfl⟩
    refine JoinP.cut (fun xs w' => (∃ b, xs = [.bool b] ∧ (b = false ↔ sameAt V M j)) ∧ Below w.heap.size w w') (fun J2 hJ2 => ?_) (fun xs w' hI => ?_)
    rotate_left
    · obtain ⟨⟨b, rfl, hb2⟩, hbw⟩ := hI
      dsimp only [List.headD_cons, List.tail_cons]
      cases b with
      | true =>
        (repeat with_reducible first|refine z_a ?_|refine z_b ?_|refine z_c ?_|refine z_d ?_|refine z_e ?_|refine z_f ?_|refine z_g ?_|refine z_h ?_|refine z_i ?_|refine z_j ?_|refine z_k ?_|refine z_l ?_|refine z_m (by omega) ?_|refine z_n (by omega) ?_|refine z_o (by omega) ?_|refine z_p (by omega) ?_|refine z_q (by omega) ?_|refine z_r (by omega) ?_|refine z_s (by omega) ?_|refine z_t (by omega) ?_|refine z_u (by omega) ?_|refine z_v (by omega) ?_|refine z_w (by omega) ?_|refine z_x (by omega) ?_|refine z_y (by omega) ?_|refine z_z (by omega) ?_|refine z_A ?_|refine z_B ?_|refine z_C ?_|refine z_D ?_|refine z_E ?_|refine z_F ?_|refine z_G ?_|refine z_H ?_|refine z_I ?_)
        exact bad (fun e => by have := hb2.2 e; cases this) _ hbw
      | false =>
        (repeat with_reducible first|refine z_a ?_|refine z_b ?_|refine z_c ?_|refine z_d ?_|refine z_e ?_|refine z_f ?_|refine z_g ?_|refine z_h ?_|refine z_i ?_|refine z_j ?_|refine z_k ?_|refine z_l ?_|refine z_m (by omega) ?_|refine z_n (by omega) ?_|refine z_o (by omega) ?_|refine z_p (by omega) ?_|refine z_q (by omega) ?_|refine z_r (by omega) ?_|refine z_s (by omega) ?_|refine z_t (by omega) ?_|refine z_u (by omega) ?_|refine z_v (by omega) ?_|refine z_w (by omega) ?_|refine z_x (by omega) ?_|refine z_y (by omega) ?_|refine z_z (by omega) ?_|refine z_A ?_|refine z_B ?_|refine z_C ?_|refine z_D ?_|refine z_E ?_|refine z_F ?_|refine z_G ?_|refine z_H ?_|refine z_I ?_)
        exact next (hb2.1 rfl) _ hbw
    have hdr2 : Below wb.heap.size wb wb.drew := (Below.refl _ _).drew
    have hbd := below_then hbb hdr2
    have kX : ∀ w', Below wb.heap.size wb w' → Blk w' gx 47 #[.int .i64 j, .slice Ax (iV fs).length cx] := fun w' h => hBb.below' h
    refine draw (Below wb.heap.size wb) hdr2 ?_
    generalize wb.drew = wd at *
    refine act ?_
    refine (State13 j (by omega) (h.below hbd) hok).mono ?_
    rintro _ we ⟨rfl, he⟩
    have he' := below_then hdr2 he
    have hbe := below_then hbd he
    refine ⟨_, he', fun _ h => h, ?_⟩
    refine yi_neq_c (fun hne => ?_) (fun heq => ?_)
    · (repeat with_reducible first | refine gaU ?_|refine z_J ?_|refine z_a ?_|refine z_b ?_|refine z_c ?_|refine z_d ?_|refine z_e ?_|refine z_f ?_|refine z_g ?_|refine z_h ?_|refine z_i ?_|refine z_j ?_|refine z_k ?_|refine z_l ?_|refine z_K (by omega) ?_|refine z_L (by omega) ?_|refine z_M (by omega) ?_|refine z_N (by omega) ?_|refine z_O (by omega) ?_|refine z_P (by omega) ?_|refine z_Q (by omega) ?_|refine z_R (by omega) ?_|refine z_S (by omega) ?_|refine z_T (by omega) ?_|refine z_U (by omega) ?_|refine z_V (by omega) ?_|refine z_W (by omega) ?_|refine z_X (by omega) ?_|refine z_Y ?_|refine z_Z ?_|refine z_a1 ?_|refine z_b1 ?_|refine z_c1 ?_|refine z_d1 ?_|refine z_e1 ?_|refine z_f1 ?_|refine z_g1 ?_)
      refine ⟨?_, ⟨?_, trivial⟩⟩
      all_goals
        (repeat with_reducible first | refine gaU ?_|refine z_J ?_|refine z_a ?_|refine z_b ?_|refine z_c ?_|refine z_d ?_|refine z_e ?_|refine z_f ?_|refine z_g ?_|refine z_h ?_|refine z_i ?_|refine z_j ?_|refine z_k ?_|refine z_l ?_|refine z_K (by omega) ?_|refine z_L (by omega) ?_|refine z_M (by omega) ?_|refine z_N (by omega) ?_|refine z_O (by omega) ?_|refine z_P (by omega) ?_|refine z_Q (by omega) ?_|refine z_R (by omega) ?_|refine z_S (by omega) ?_|refine z_T (by omega) ?_|refine z_U (by omega) ?_|refine z_V (by omega) ?_|refine z_W (by omega) ?_|refine z_X (by omega) ?_|refine z_Y ?_|refine z_Z ?_|refine z_a1 ?_|refine z_b1 ?_|refine z_c1 ?_|refine z_d1 ?_|refine z_e1 ?_|refine z_f1 ?_|refine z_g1 ?_)
        exact hJ2 _ _ ⟨⟨true, rfl, ⟨fun e => (by cases e), fun e => absurd e.1 hne⟩⟩, hbe⟩
    have hMj : stV M j = 1 ∨ stV M j = 2 := by omega
    obtain ⟨q1, q2⟩ := stV_in (V := M) (id := j) (by omega)
    obtain ⟨i, hi, hji⟩ : ∃ i : Nat, i < M.length ∧ j = i + 1 := ⟨(j - 1).toNat, by omega, by omega⟩
    have hMst : M[i].st = 1 ∨ M[i].st = 2 := by
      have := stV_at q1 q2
      have e : (j - 1).toNat = i := by omega
      simp only [e] at this
      omega
    have hixM : ixV M j = some M[i].fs := by rw [ixV_in hi hji, if_pos hMst]
    rcases hMj with hM1 | hM1
    all_goals
      first
        | ((repeat with_reducible first|refine z_J ?_|refine z_a ?_|refine z_b ?_|refine z_c ?_|refine z_d ?_|refine z_e ?_|refine z_f ?_|refine z_g ?_|refine z_h ?_|refine z_i ?_|refine z_j ?_|refine z_k ?_|refine z_l ?_|refine z_K (by omega) ?_|refine z_L (by omega) ?_|refine z_M (by omega) ?_|refine z_N (by omega) ?_|refine z_O (by omega) ?_|refine z_P (by omega) ?_|refine z_Q (by omega) ?_|refine z_R (by omega) ?_|refine z_S (by omega) ?_|refine z_T (by omega) ?_|refine z_U (by omega) ?_|refine z_V (by omega) ?_|refine z_W (by omega) ?_|refine z_X (by omega) ?_|refine z_Y ?_|refine z_Z ?_|refine z_a1 ?_|refine z_b1 ?_|refine z_c1 ?_|refine z_d1 ?_|refine z_e1 ?_|refine z_f1 ?_|refine z_g1 ?_)
           refine bndE undBo ?_
           (repeat with_reducible first|refine z_J ?_|refine z_a ?_|refine z_b ?_|refine z_c ?_|refine z_d ?_|refine z_e ?_|refine z_f ?_|refine z_g ?_|refine z_h ?_|refine z_i ?_|refine z_j ?_|refine z_k ?_|refine z_l ?_|refine z_K (by omega) ?_|refine z_L (by omega) ?_|refine z_M (by omega) ?_|refine z_N (by omega) ?_|refine z_O (by omega) ?_|refine z_P (by omega) ?_|refine z_Q (by omega) ?_|refine z_R (by omega) ?_|refine z_S (by omega) ?_|refine z_T (by omega) ?_|refine z_U (by omega) ?_|refine z_V (by omega) ?_|refine z_W (by omega) ?_|refine z_X (by omega) ?_|refine z_Y ?_|refine z_Z ?_|refine z_a1 ?_|refine z_b1 ?_|refine z_c1 ?_|refine z_d1 ?_|refine z_e1 ?_|refine z_f1 ?_|refine z_g1 ?_))
      simp only [ne_eq, not_true_eq_false, decide_false]
      (repeat with_reducible first|refine z_J ?_|refine z_a ?_|refine z_b ?_|refine z_c ?_|refine z_d ?_|refine z_e ?_|refine z_f ?_|refine z_g ?_|refine z_h ?_|refine z_i ?_|refine z_j ?_|refine z_k ?_|refine z_l ?_|refine z_K (by omega) ?_|refine z_L (by omega) ?_|refine z_M (by omega) ?_|refine z_N (by omega) ?_|refine z_O (by omega) ?_|refine z_P (by omega) ?_|refine z_Q (by omega) ?_|refine z_R (by omega) ?_|refine z_S (by omega) ?_|refine z_T (by omega) ?_|refine z_U (by omega) ?_|refine z_V (by omega) ?_|refine z_W (by omega) ?_|refine z_X (by omega) ?_|refine z_Y ?_|refine z_Z ?_|refine z_a1 ?_|refine z_b1 ?_|refine z_c1 ?_|refine z_d1 ?_|refine z_e1 ?_|refine z_f1 ?_|refine z_g1 ?_)
      refine act ?_
      refine (Left20 j (by omega) (h.below hbe) hok (by omega)).mono ?_
      rintro vf wf ⟨hof, hf⟩
      have hf' := below_then he' hf
      have hbf := below_then hbe hf
      refine ⟨_, hf', fun _ h => h, ?_⟩
      (repeat with_reducible first|refine z_J ?_|refine z_a ?_|refine z_b ?_|refine z_c ?_|refine z_d ?_|refine z_e ?_|refine z_f ?_|refine z_g ?_|refine z_h ?_|refine z_i ?_|refine z_j ?_|refine z_k ?_|refine z_l ?_|refine z_K (by omega) ?_|refine z_L (by omega) ?_|refine z_M (by omega) ?_|refine z_N (by omega) ?_|refine z_O (by omega) ?_|refine z_P (by omega) ?_|refine z_Q (by omega) ?_|refine z_R (by omega) ?_|refine z_S (by omega) ?_|refine z_T (by omega) ?_|refine z_U (by omega) ?_|refine z_V (by omega) ?_|refine z_W (by omega) ?_|refine z_X (by omega) ?_|refine z_Y ?_|refine z_Z ?_|refine z_a1 ?_|refine z_b1 ?_|refine z_c1 ?_|refine z_d1 ?_|refine z_e1 ?_|refine z_f1 ?_|refine z_g1 ?_)
      refine act ?_
      refine (refLeft43 j (by omega) (h'.below hbf) hMl).mono ?_
      rintro vg wg ⟨hog, hg⟩
      have hg' := below_then hf' hg
      have hbg := below_then hbf hg
      refine ⟨_, hg', fun _ h => h, ?_⟩
      (repeat with_reducible first|refine z_J ?_|refine z_a ?_|refine z_b ?_|refine z_c ?_|refine z_d ?_|refine z_e ?_|refine z_f ?_|refine z_g ?_|refine z_h ?_|refine z_i ?_|refine z_j ?_|refine z_k ?_|refine z_l ?_|refine z_K (by omega) ?_|refine z_L (by omega) ?_|refine z_M (by omega) ?_|refine z_N (by omega) ?_|refine z_O (by omega) ?_|refine z_P (by omega) ?_|refine z_Q (by omega) ?_|refine z_R (by omega) ?_|refine z_S (by omega) ?_|refine z_T (by omega) ?_|refine z_U (by omega) ?_|refine z_V (by omega) ?_|refine z_W (by omega) ?_|refine z_X (by omega) ?_|refine z_Y ?_|refine z_Z ?_|refine z_a1 ?_|refine z_b1 ?_|refine z_c1 ?_|refine z_d1 ?_|refine z_e1 ?_|refine z_f1 ?_|refine z_g1 ?_)
      refine act ?_
      refine (same20 vf vg _ _ wg (hof.kept hg).rd hog.rd).mono ?_
      rintro _ wh ⟨rfl, hh⟩
      have hh' := below_then hg' hh
      have hbh := below_then hbg hh
      refine ⟨_, hh', fun _ h => h, ?_⟩
      rcases Classical.em (lfV V j = lfR M j) with hlf | hlf
      rotate_left
      · rw [decide_eq_false hlf]
        (repeat with_reducible first|refine z_J ?_|refine z_a ?_|refine z_b ?_|refine z_c ?_|refine z_d ?_|refine z_e ?_|refine z_f ?_|refine z_g ?_|refine z_h ?_|refine z_i ?_|refine z_j ?_|refine z_k ?_|refine z_l ?_|refine z_K (by omega) ?_|refine z_L (by omega) ?_|refine z_M (by omega) ?_|refine z_N (by omega) ?_|refine z_O (by omega) ?_|refine z_P (by omega) ?_|refine z_Q (by omega) ?_|refine z_R (by omega) ?_|refine z_S (by omega) ?_|refine z_T (by omega) ?_|refine z_U (by omega) ?_|refine z_V (by omega) ?_|refine z_W (by omega) ?_|refine z_X (by omega) ?_|refine z_Y ?_|refine z_Z ?_|refine z_a1 ?_|refine z_b1 ?_|refine z_c1 ?_|refine z_d1 ?_|refine z_e1 ?_|refine z_f1 ?_|refine z_g1 ?_)
        refine ⟨?_, ⟨?_, trivial⟩⟩
        all_goals
          (repeat with_reducible first | refine gaU ?_|refine z_J ?_|refine z_a ?_|refine z_b ?_|refine z_c ?_|refine z_d ?_|refine z_e ?_|refine z_f ?_|refine z_g ?_|refine z_h ?_|refine z_i ?_|refine z_j ?_|refine z_k ?_|refine z_l ?_|refine z_K (by omega) ?_|refine z_L (by omega) ?_|refine z_M (by omega) ?_|refine z_N (by omega) ?_|refine z_O (by omega) ?_|refine z_P (by omega) ?_|refine z_Q (by omega) ?_|refine z_R (by omega) ?_|refine z_S (by omega) ?_|refine z_T (by omega) ?_|refine z_U (by omega) ?_|refine z_V (by omega) ?_|refine z_W (by omega) ?_|refine z_X (by omega) ?_|refine z_Y ?_|refine z_Z ?_|refine z_a1 ?_|refine z_b1 ?_|refine z_c1 ?_|refine z_d1 ?_|refine z_e1 ?_|refine z_f1 ?_|refine z_g1 ?_)
          exact hJ2 _ _ ⟨⟨true, rfl, ⟨fun e => (by cases e), fun e => absurd e.2.1 hlf⟩⟩, hbh⟩
      rw [decide_eq_true hlf]
      subst hRV
      have hiM : i < MM.length := by rwa [absB_len] at hi
      have hMi : (absB MM)[i] = MM[i].x := absB_get hi
      have hRb := hR.below hbb
      obtain ⟨gR, cR, hvR, f0, _, _⟩ := hRb.at i hiM
      have helR := hRb.el _ (List.getElem_mem hiM)
      obtain ⟨Ar, cr, er, _⟩ := helR.fo.slice
      have hfrd := helR.frd
      rw [er] at f0 hfrd
      have k0 : ∀ w', Below wb.heap.size wb w' → w'.cell? ⟨g', 0, none⟩ = some vLr := fun w' h => (hRb.blk.below' h).cell 0
      have kf : ∀ w', Below wb.heap.size wb w' → w'.cell? ⟨gR, i * 3 + 0, none⟩ = some (.slice Ar MM[i].x.fs.length cr) := RdKeep f0
      have e1 : j - 1 = (i : Int) := by omega
      (repeat with_reducible first|refine z_J ?_|refine z_a ?_|refine z_b ?_|refine z_c ?_|refine z_d ?_|refine z_e ?_|refine z_f ?_|refine z_g ?_|refine z_h ?_|refine z_i ?_|refine z_j ?_|refine z_k ?_|refine z_l ?_|refine z_K (by omega) ?_|refine z_L (by omega) ?_|refine z_M (by omega) ?_|refine z_N (by omega) ?_|refine z_O (by omega) ?_|refine z_P (by omega) ?_|refine z_Q (by omega) ?_|refine z_R (by omega) ?_|refine z_S (by omega) ?_|refine z_T (by omega) ?_|refine z_U (by omega) ?_|refine z_V (by omega) ?_|refine z_W (by omega) ?_|refine z_X (by omega) ?_|refine z_Y ?_|refine z_Z ?_|refine z_a1 ?_|refine z_b1 ?_|refine z_c1 ?_|refine z_d1 ?_|refine z_e1 ?_|refine z_f1 ?_|refine z_g1 ?_)
      refine yldA aggX kX szX ?_
      (repeat with_reducible first | refine yfd c0 (by decide) ?_| refine yl1 oneRls k0 ?_|refine z_J ?_|refine z_a ?_|refine z_b ?_|refine z_c ?_|refine z_d ?_|refine z_e ?_|refine z_f ?_|refine z_g ?_|refine z_h ?_|refine z_i ?_|refine z_j ?_|refine z_k ?_|refine z_l ?_|refine z_K (by omega) ?_|refine z_L (by omega) ?_|refine z_M (by omega) ?_|refine z_N (by omega) ?_|refine z_O (by omega) ?_|refine z_P (by omega) ?_|refine z_Q (by omega) ?_|refine z_R (by omega) ?_|refine z_S (by omega) ?_|refine z_T (by omega) ?_|refine z_U (by omega) ?_|refine z_V (by omega) ?_|refine z_W (by omega) ?_|refine z_X (by omega) ?_|refine z_Y ?_|refine z_Z ?_|refine z_a1 ?_|refine z_b1 ?_|refine z_c1 ?_|refine z_d1 ?_|refine z_e1 ?_|refine z_f1 ?_|refine z_g1 ?_)
      rw [hvR, e1]
      (repeat with_reducible first | refine yixG undRs szRl i hiM ?_| refine yfdG m0 (by decide) ?_| refine yl1 oneIs kf ?_|refine z_J ?_|refine z_a ?_|refine z_b ?_|refine z_c ?_|refine z_d ?_|refine z_e ?_|refine z_f ?_|refine z_g ?_|refine z_h ?_|refine z_i ?_|refine z_j ?_|refine z_k ?_|refine z_l ?_|refine z_K (by omega) ?_|refine z_L (by omega) ?_|refine z_M (by omega) ?_|refine z_N (by omega) ?_|refine z_O (by omega) ?_|refine z_P (by omega) ?_|refine z_Q (by omega) ?_|refine z_R (by omega) ?_|refine z_S (by omega) ?_|refine z_T (by omega) ?_|refine z_U (by omega) ?_|refine z_V (by omega) ?_|refine z_W (by omega) ?_|refine z_X (by omega) ?_|refine z_Y ?_|refine z_Z ?_|refine z_a1 ?_|refine z_b1 ?_|refine z_c1 ?_|refine z_d1 ?_|refine z_e1 ?_|refine z_f1 ?_|refine z_g1 ?_)
      refine ybd (cells := #[.int .i64 j, .slice Ar MM[i].x.fs.length cr]) (by kernel_rfl) ?_
      rw [hMi] at hixM
      have hrX := hvf.rd
      have done : ∀ (vx vy : Value) (w' : World) (h' : Below wb.heap.size wb w'), IxR w' [vx] [(j, fs)] → IxR w' [vy] [(j, MM[i].x.fs)] → True := fun _ _ _ _ _ _ => trivial
      refine ⟨?_, ⟨?_, trivial⟩⟩
      all_goals
        first
          | ((repeat with_reducible first|refine z_J ?_|refine z_a ?_|refine z_b ?_|refine z_c ?_|refine z_d ?_|refine z_e ?_|refine z_f ?_|refine z_g ?_|refine z_h ?_|refine z_i ?_|refine z_j ?_|refine z_k ?_|refine z_l ?_|refine z_K (by omega) ?_|refine z_L (by omega) ?_|refine z_M (by omega) ?_|refine z_N (by omega) ?_|refine z_O (by omega) ?_|refine z_P (by omega) ?_|refine z_Q (by omega) ?_|refine z_R (by omega) ?_|refine z_S (by omega) ?_|refine z_T (by omega) ?_|refine z_U (by omega) ?_|refine z_V (by omega) ?_|refine z_W (by omega) ?_|refine z_X (by omega) ?_|refine z_Y ?_|refine z_Z ?_|refine z_a1 ?_|refine z_b1 ?_|refine z_c1 ?_|refine z_d1 ?_|refine z_e1 ?_|refine z_f1 ?_|refine z_g1 ?_)
             refine act ?_
             refine bs1Ix (fs := fs) ((hrX.below hb).below hh') ?_
             intro vx wx hx0 h1x
             have hx1 := below_then hh' h1x
             refine ⟨_, hx1, fun _ h => h, ?_⟩
             (repeat with_reducible first|refine z_J ?_|refine z_a ?_|refine z_b ?_|refine z_c ?_|refine z_d ?_|refine z_e ?_|refine z_f ?_|refine z_g ?_|refine z_h ?_|refine z_i ?_|refine z_j ?_|refine z_k ?_|refine z_l ?_|refine z_K (by omega) ?_|refine z_L (by omega) ?_|refine z_M (by omega) ?_|refine z_N (by omega) ?_|refine z_O (by omega) ?_|refine z_P (by omega) ?_|refine z_Q (by omega) ?_|refine z_R (by omega) ?_|refine z_S (by omega) ?_|refine z_T (by omega) ?_|refine z_U (by omega) ?_|refine z_V (by omega) ?_|refine z_W (by omega) ?_|refine z_X (by omega) ?_|refine z_Y ?_|refine z_Z ?_|refine z_a1 ?_|refine z_b1 ?_|refine z_c1 ?_|refine z_d1 ?_|refine z_e1 ?_|refine z_f1 ?_|refine z_g1 ?_)
             refine act ?_
             refine bs1Ix (fs := MM[i].x.fs) (hfrd.below hx1) ?_
             intro vy wy hy h2y
             have hy1 := below_then hx1 h2y
             have hx := keeps_IxR _ _ _ _ h2y hx0)
          | ((repeat with_reducible first|refine z_J ?_|refine z_a ?_|refine z_b ?_|refine z_c ?_|refine z_d ?_|refine z_e ?_|refine z_f ?_|refine z_g ?_|refine z_h ?_|refine z_i ?_|refine z_j ?_|refine z_k ?_|refine z_l ?_|refine z_K (by omega) ?_|refine z_L (by omega) ?_|refine z_M (by omega) ?_|refine z_N (by omega) ?_|refine z_O (by omega) ?_|refine z_P (by omega) ?_|refine z_Q (by omega) ?_|refine z_R (by omega) ?_|refine z_S (by omega) ?_|refine z_T (by omega) ?_|refine z_U (by omega) ?_|refine z_V (by omega) ?_|refine z_W (by omega) ?_|refine z_X (by omega) ?_|refine z_Y ?_|refine z_Z ?_|refine z_a1 ?_|refine z_b1 ?_|refine z_c1 ?_|refine z_d1 ?_|refine z_e1 ?_|refine z_f1 ?_|refine z_g1 ?_)
             refine act ?_
             refine bs1Ix (fs := MM[i].x.fs) (hfrd.below hh') ?_
             intro vy wx hy0 h1x
             have hx1 := below_then hh' h1x
             refine ⟨_, hx1, fun _ h => h, ?_⟩
             (repeat with_reducible first|refine z_J ?_|refine z_a ?_|refine z_b ?_|refine z_c ?_|refine z_d ?_|refine z_e ?_|refine z_f ?_|refine z_g ?_|refine z_h ?_|refine z_i ?_|refine z_j ?_|refine z_k ?_|refine z_l ?_|refine z_K (by omega) ?_|refine z_L (by omega) ?_|refine z_M (by omega) ?_|refine z_N (by omega) ?_|refine z_O (by omega) ?_|refine z_P (by omega) ?_|refine z_Q (by omega) ?_|refine z_R (by omega) ?_|refine z_S (by omega) ?_|refine z_T (by omega) ?_|refine z_U (by omega) ?_|refine z_V (by omega) ?_|refine z_W (by omega) ?_|refine z_X (by omega) ?_|refine z_Y ?_|refine z_Z ?_|refine z_a1 ?_|refine z_b1 ?_|refine z_c1 ?_|refine z_d1 ?_|refine z_e1 ?_|refine z_f1 ?_|refine z_g1 ?_)
             refine act ?_
             refine bs1Ix (fs := fs) ((hrX.below hb).below hx1) ?_
             intro vx wy hx h2y
             have hy1 := below_then hx1 h2y
             have hy := keeps_IxR _ _ _ _ h2y hy0)
      all_goals
        refine ⟨_, hy1, fun _ h => h, ?_⟩
        (repeat with_reducible first|refine z_J ?_|refine z_a ?_|refine z_b ?_|refine z_c ?_|refine z_d ?_|refine z_e ?_|refine z_f ?_|refine z_g ?_|refine z_h ?_|refine z_i ?_|refine z_j ?_|refine z_k ?_|refine z_l ?_|refine z_K (by omega) ?_|refine z_L (by omega) ?_|refine z_M (by omega) ?_|refine z_N (by omega) ?_|refine z_O (by omega) ?_|refine z_P (by omega) ?_|refine z_Q (by omega) ?_|refine z_R (by omega) ?_|refine z_S (by omega) ?_|refine z_T (by omega) ?_|refine z_U (by omega) ?_|refine z_V (by omega) ?_|refine z_W (by omega) ?_|refine z_X (by omega) ?_|refine z_Y ?_|refine z_Z ?_|refine z_a1 ?_|refine z_b1 ?_|refine z_c1 ?_|refine z_d1 ?_|refine z_e1 ?_|refine z_f1 ?_|refine z_g1 ?_)
        refine act ?_
        refine (sameIndexes38 vx vy _ _ wy hx hy).mono ?_
        rintro _ wz ⟨rfl, hz⟩
        have hz1 := below_then hy1 hz
        refine ⟨_, hz1, fun _ h => h, ?_⟩
        rcases Classical.em (fs = MM[i].x.fs) with hfe | hfe
        · rw [decide_eq_true (by rw [hfe])]
          (repeat with_reducible first|refine z_J ?_|refine z_a ?_|refine z_b ?_|refine z_c ?_|refine z_d ?_|refine z_e ?_|refine z_f ?_|refine z_g ?_|refine z_h ?_|refine z_i ?_|refine z_j ?_|refine z_k ?_|refine z_l ?_|refine z_K (by omega) ?_|refine z_L (by omega) ?_|refine z_M (by omega) ?_|refine z_N (by omega) ?_|refine z_O (by omega) ?_|refine z_P (by omega) ?_|refine z_Q (by omega) ?_|refine z_R (by omega) ?_|refine z_S (by omega) ?_|refine z_T (by omega) ?_|refine z_U (by omega) ?_|refine z_V (by omega) ?_|refine z_W (by omega) ?_|refine z_X (by omega) ?_|refine z_Y ?_|refine z_Z ?_|refine z_a1 ?_|refine z_b1 ?_|refine z_c1 ?_|refine z_d1 ?_|refine z_e1 ?_|refine z_f1 ?_|refine z_g1 ?_)
          exact hJ2 _ _ ⟨⟨false, rfl, ⟨fun _ => ⟨heq, hlf, by rw [hix, hixM, hfe]⟩, fun _ => rfl⟩⟩, below_then hbb hz1⟩
        · rw [decide_eq_false (fun e => hfe (by simpa using e))]
          (repeat with_reducible first|refine z_J ?_|refine z_a ?_|refine z_b ?_|refine z_c ?_|refine z_d ?_|refine z_e ?_|refine z_f ?_|refine z_g ?_|refine z_h ?_|refine z_i ?_|refine z_j ?_|refine z_k ?_|refine z_l ?_|refine z_K (by omega) ?_|refine z_L (by omega) ?_|refine z_M (by omega) ?_|refine z_N (by omega) ?_|refine z_O (by omega) ?_|refine z_P (by omega) ?_|refine z_Q (by omega) ?_|refine z_R (by omega) ?_|refine z_S (by omega) ?_|refine z_T (by omega) ?_|refine z_U (by omega) ?_|refine z_V (by omega) ?_|refine z_W (by omega) ?_|refine z_X (by omega) ?_|refine z_Y ?_|refine z_Z ?_|refine z_a1 ?_|refine z_b1 ?_|refine z_c1 ?_|refine z_d1 ?_|refine z_e1 ?_|refine z_f1 ?_|refine z_g1 ?_)
          exact hJ2 _ _ ⟨⟨true, rfl, ⟨fun e => (by cases e), fun e => absurd (by have := e.2.2; rw [hix, hixM] at this; simpa using this) hfe⟩⟩, below_then hbb hz1⟩
end
end Go.Proofs.Ytcfncjejpjjhdaa.E
namespace Go.Proofs.Ytcfncjejpjjhdaa.E
open Go Go.RowKit
set_option linter.unusedSimpArgs false
set_option linter.unusedVariables false

theorem not_lt_nil' (s : Txt) : ¬ s < [] := by simp
theorem aw_m1 : mns [allR] ([109], []) = [([], [109])] := by
  refine (IsMinus.eq ⟨⟨by simp; decide, by simp⟩, fun s => ?_⟩).symm
  have := not_lt_nil' s
  simp [inL, hasR, allR]
theorem aw_m2 : mns [([], [109])] allR = [] := by
  refine (IsMinus.eq ⟨⟨by simp, by simp⟩, fun s => ?_⟩).symm
  have := not_lt_nil' s
  simp [inL, hasR, allR]
theorem ck0 : ckI [0] = 0 := by
  unfold ckI
  rw [if_neg (by simp), if_neg (by simp), if_pos ⟨by simp, by simp⟩]
theorem aw_de : deV [] [0] [allR] = [⟨[0], 1, [allR]⟩] ∧ deE [] [0] = (1, 0) := by
  obtain ⟨d1, d2⟩ := de_good (V := []) (fs := [0]) (by simp) ck0
  rw [d2, d1]
  exact ⟨rfl, rfl⟩
theorem ok_nil : BdOk 1 [] := ⟨by simp, by simp⟩
def LowD (hu : Nat) (w0 : World) (w : World) (g : Nat) (V : BdV) : Prop := ∃ c : Nat → Nat, (∀ k, k < w0.heap.size → c k = 0) ∧ BdS hu c w g V ∧ Below w0.heap.size w0 w
theorem LowD.step {hu : Nat} {w0 w w' : World} {g : Nat} {V V' : BdV} (hh : hu ≠ 0) {c : Nat → Nat} (hc : ∀ k, k < w0.heap.size → c k = 0) (hb : Below w0.heap.size w0 w) (h : LeftD hu c w g V' w') : LowD hu w0 w' g V' := by
  obtain ⟨c', h1, h2, hT⟩ := h
  refine ⟨c', fun k hk => (h1 k (Nat.lt_of_lt_of_le hk hb.size)).trans (hc k hk), h2, hb.trans (hT.below hb.size fun k hk e => ?_)⟩
  rw [hc k hk] at e
  exact hh e.symm
theorem ok_one {n : Nat} {st : Int} {rs : List Rg} (h1 : st = 1 ∧ rs ≠ [] ∨ st = 2 ∧ rs = []) (hc : Canon rs) (hl : rs.length ≤ n) : BdOk n [⟨[0], st, rs⟩] := ⟨by simp, fun x hx => by
  simp only [List.mem_cons, List.not_mem_nil, or_false] at hx
  subst hx
  exact ⟨by simp only; omega, fun e => h1.elim (fun h => h.2) (fun h => by simp only at e; omega), fun e => h1.elim (fun h => by simp only at e; omega) (fun h => h.2), fun e => by simp only at e; omega, fun _ => ck0, hc, hl⟩⟩
theorem re_one {st : Int} {rs : List Rg} {r : Rg} : reV [⟨[0], st, rs⟩] 1 (rep0 r) = if st = 1 then [rep0 r ⟨[0], st, rs⟩] else [⟨[0], st, rs⟩] := by
  have : stV [⟨[0], st, rs⟩] 1 = st := rfl
  unfold reV
  rw [this]
  rfl
theorem reB_one {st : Int} {rs : List Rg} {r : Rg} : reB [⟨[0], st, rs⟩] 1 (rep0 r) = decide (st = 1 ∧ mns rs r = []) := by
  have : stV [⟨[0], st, rs⟩] 1 = st := rfl
  have h2 : stV (upd [⟨[0], st, rs⟩] 1 (rep0 r)) 1 = if mns rs r = [] then 2 else 1 := rfl
  unfold reB
  rw [this, h2, decide_eq_decide]
  by_cases h : mns rs r = []
  · rw [if_pos h]; simp [h]
  · rw [if_neg h]; simp [h]
theorem awake7 (w : World) : CallP Try.prog 7 #[] (fun r w' => r = .bool true ∧ Below w.heap.size w w') w := by
  refine ⟨S7.calls _ _ ?_⟩
  unfold S7
  refine (New9 1 (by decide) (fun _ => 0) w).mono ?_
  rintro _ w1 ⟨g, c1, rfl, hc1, hS1, hb1⟩
  refine nilP undBp ?_
  simp only [Option.isNone_some]
  (repeat with_reducible first|refine z_a ?_|refine z_b ?_|refine z_c ?_|refine z_d ?_|refine z_e ?_|refine z_f ?_|refine z_g ?_|refine z_h ?_|refine z_i ?_|refine z_j ?_|refine z_k ?_|refine z_l ?_|refine z_m (by omega) ?_|refine z_n (by omega) ?_|refine z_o (by omega) ?_|refine z_p (by omega) ?_|refine z_q (by omega) ?_|refine z_r (by omega) ?_|refine z_s (by omega) ?_|refine z_t (by omega) ?_|refine z_u (by omega) ?_|refine z_v (by omega) ?_|refine z_w (by omega) ?_|refine z_x (by omega) ?_|refine z_y (by omega) ?_|refine z_z (by omega) ?_|refine z_A ?_|refine z_B ?_|refine z_C ?_|refine z_D ?_|refine z_E ?_|refine z_F ?_|refine z_G ?_|refine z_H ?_|refine z_I ?_)
  refine bs1I bI1 ?_
  intro v2 w2 ho2 _ h2
  have hb2 := below_then hb1 h2
  refine (Declare10 (k := 1) v2 [0] ho2.rd (by simp) (hS1.below h2) ok_nil).mono ?_
  rintro _ w3 ⟨rfl, hL3⟩
  obtain ⟨c3, hc3, hS3, hb3⟩ := LowD.step (by decide) (V := []) (fun k hk => hc1 k hk) hb2 hL3
  obtain ⟨d1, d2⟩ := aw_de
  rw [d1] at hS3
  rw [d2]
  (repeat with_reducible first|refine z_a ?_|refine z_b ?_|refine z_c ?_|refine z_d ?_|refine z_e ?_|refine z_f ?_|refine z_g ?_|refine z_h ?_|refine z_i ?_|refine z_j ?_|refine z_k ?_|refine z_l ?_|refine z_m (by omega) ?_|refine z_n (by omega) ?_|refine z_o (by omega) ?_|refine z_p (by omega) ?_|refine z_q (by omega) ?_|refine z_r (by omega) ?_|refine z_s (by omega) ?_|refine z_t (by omega) ?_|refine z_u (by omega) ?_|refine z_v (by omega) ?_|refine z_w (by omega) ?_|refine z_x (by omega) ?_|refine z_y (by omega) ?_|refine z_z (by omega) ?_|refine z_A ?_|refine z_B ?_|refine z_C ?_|refine z_D ?_|refine z_E ?_|refine z_F ?_|refine z_G ?_|refine z_H ?_|refine z_I ?_)
  refine bd (cells := rgA ([109], [])) (by kernel_rfl) ?_
  have ok3 : BdOk 1 [⟨[0], 1, [allR]⟩] := ok_one (.inl ⟨rfl, by simp⟩) canon_all (by simp)
  refine (Report11 (k := 1) 1 ([109], []) (by decide) hS3 ok3 (by decide)).mono ?_
  rintro _ w4 ⟨rfl, hL4⟩
  obtain ⟨c4, hc4, hS4, hb4⟩ := LowD.step (by decide) (V := []) hc3 hb3 hL4
  rw [re_one, if_pos rfl] at hS4
  rw [reB_one, aw_m1]
  have e4 : rep0 ([109], []) ⟨[0], 1, [allR]⟩ = ⟨[0], 1, [([], [109])]⟩ := by
    unfold rep0
    rw [aw_m1]
    rfl
  rw [e4] at hS4
  have ok4 : BdOk 1 [⟨[0], 1, [([], [109])]⟩] := ok_one (.inl ⟨rfl, by simp⟩) ⟨by simp; decide, by simp⟩ (by simp)
  refine (Left20 (n := 1) 1 (by decide) hS4 ok4 (by decide)).mono ?_
  rintro v5 w5 ⟨ho5, h5⟩
  have hb5 := below_then hb4 h5
  have e5 : lfV [⟨[0], 1, [([], [109])]⟩] 1 = [([], [109])] := rfl
  rw [e5] at ho5
  refine bd (cells := rgA allR) (by kernel_rfl) ?_
  have hcc4 := col_lt c4 w4.heap.size 0
  have hs4 := hb4.size
  refine (Report11 (k := 1) 1 allR (by decide) ((hS4.re hcc4).below h5) ok4 (by decide)).mono ?_
  rintro _ w6 ⟨rfl, hL6⟩
  have hT6 : RgR w6 [v5] [([], [109])] := by
    obtain ⟨c', _, _, hT⟩ := hL6
    refine OwnR.rd (ho5.1.turns hT fun k hk e => ?_) rgF_len fun _ _ => rfl
    rw [col_ge _ _ _ (ho5.2 k hk)] at e
    cases e
  obtain ⟨c6, hc6, hS6, hb6⟩ := LowD.step (by decide) (V := []) (fun k hk => (hcc4 k (by omega)).trans (hc4 k hk)) hb5 hL6
  rw [re_one, if_pos rfl] at hS6
  rw [reB_one, aw_m2]
  have e6 : rep0 allR ⟨[0], 1, [([], [109])]⟩ = ⟨[0], 2, []⟩ := by
    unfold rep0
    rw [aw_m2]
    rfl
  rw [e6] at hS6
  have ok6 : BdOk 1 [⟨[0], 2, []⟩] := ok_one (.inr ⟨rfl, rfl⟩) ⟨by simp, by simp⟩ (by simp)
  rw [decide_eq_false (by simp), decide_eq_true (by simp)]
  (repeat with_reducible first|refine z_a ?_|refine z_b ?_|refine z_c ?_|refine z_d ?_|refine z_e ?_|refine z_f ?_|refine z_g ?_|refine z_h ?_|refine z_i ?_|refine z_j ?_|refine z_k ?_|refine z_l ?_|refine z_m (by omega) ?_|refine z_n (by omega) ?_|refine z_o (by omega) ?_|refine z_p (by omega) ?_|refine z_q (by omega) ?_|refine z_r (by omega) ?_|refine z_s (by omega) ?_|refine z_t (by omega) ?_|refine z_u (by omega) ?_|refine z_v (by omega) ?_|refine z_w (by omega) ?_|refine z_x (by omega) ?_|refine z_y (by omega) ?_|refine z_z (by omega) ?_|refine z_A ?_|refine z_B ?_|refine z_C ?_|refine z_D ?_|refine z_E ?_|refine z_F ?_|refine z_G ?_|refine z_H ?_|refine z_I ?_)
  obtain ⟨A5, cc5, hv5, _⟩ := hT6.slice
  rw [show ([([], [109])] : List Rg).length = 1 from rfl] at hv5
  subst hv5
  (repeat with_reducible first | refine ln und26 ?_|refine z_a ?_|refine z_b ?_|refine z_c ?_|refine z_d ?_|refine z_e ?_|refine z_f ?_|refine z_g ?_|refine z_h ?_|refine z_i ?_|refine z_j ?_|refine z_k ?_|refine z_l ?_|refine z_m (by omega) ?_|refine z_n (by omega) ?_|refine z_o (by omega) ?_|refine z_p (by omega) ?_|refine z_q (by omega) ?_|refine z_r (by omega) ?_|refine z_s (by omega) ?_|refine z_t (by omega) ?_|refine z_u (by omega) ?_|refine z_v (by omega) ?_|refine z_w (by omega) ?_|refine z_x (by omega) ?_|refine z_y (by omega) ?_|refine z_z (by omega) ?_|refine z_A ?_|refine z_B ?_|refine z_C ?_|refine z_D ?_|refine z_E ?_|refine z_F ?_|refine z_G ?_|refine z_H ?_|refine z_I ?_)
  obtain ⟨a, ha, hcell⟩ := RgR.at hT6 0 (by decide)
  subst ha
  refine ixN und26 sz23 0 (by decide) ?_
  (repeat with_reducible first|refine z_a ?_|refine z_b ?_|refine z_c ?_|refine z_d ?_|refine z_e ?_|refine z_f ?_|refine z_g ?_|refine z_h ?_|refine z_i ?_|refine z_j ?_|refine z_k ?_|refine z_l ?_|refine z_m (by omega) ?_|refine z_n (by omega) ?_|refine z_o (by omega) ?_|refine z_p (by omega) ?_|refine z_q (by omega) ?_|refine z_r (by omega) ?_|refine z_s (by omega) ?_|refine z_t (by omega) ?_|refine z_u (by omega) ?_|refine z_v (by omega) ?_|refine z_w (by omega) ?_|refine z_x (by omega) ?_|refine z_y (by omega) ?_|refine z_z (by omega) ?_|refine z_A ?_|refine z_B ?_|refine z_C ?_|refine z_D ?_|refine z_E ?_|refine z_F ?_|refine z_G ?_|refine z_H ?_|refine z_I ?_)
  refine ldR (us := rgF ([], [109])) agg23 hcell (by rw [sz23]; rfl) ?_
  (repeat with_reducible first|refine z_a ?_|refine z_b ?_|refine z_c ?_|refine z_d ?_|refine z_e ?_|refine z_f ?_|refine z_g ?_|refine z_h ?_|refine z_i ?_|refine z_j ?_|refine z_k ?_|refine z_l ?_|refine z_m (by omega) ?_|refine z_n (by omega) ?_|refine z_o (by omega) ?_|refine z_p (by omega) ?_|refine z_q (by omega) ?_|refine z_r (by omega) ?_|refine z_s (by omega) ?_|refine z_t (by omega) ?_|refine z_u (by omega) ?_|refine z_v (by omega) ?_|refine z_w (by omega) ?_|refine z_x (by omega) ?_|refine z_y (by omega) ?_|refine z_z (by omega) ?_|refine z_A ?_|refine z_B ?_|refine z_C ?_|refine z_D ?_|refine z_E ?_|refine z_F ?_|refine z_G ?_|refine z_H ?_|refine z_I ?_)
  refine bd (cells := rgA ([], [109])) (by kernel_rfl) ?_
  (repeat with_reducible first|refine z_a ?_|refine z_b ?_|refine z_c ?_|refine z_d ?_|refine z_e ?_|refine z_f ?_|refine z_g ?_|refine z_h ?_|refine z_i ?_|refine z_j ?_|refine z_k ?_|refine z_l ?_|refine z_m (by omega) ?_|refine z_n (by omega) ?_|refine z_o (by omega) ?_|refine z_p (by omega) ?_|refine z_q (by omega) ?_|refine z_r (by omega) ?_|refine z_s (by omega) ?_|refine z_t (by omega) ?_|refine z_u (by omega) ?_|refine z_v (by omega) ?_|refine z_w (by omega) ?_|refine z_x (by omega) ?_|refine z_y (by omega) ?_|refine z_z (by omega) ?_|refine z_A ?_|refine z_B ?_|refine z_C ?_|refine z_D ?_|refine z_E ?_|refine z_F ?_|refine z_G ?_|refine z_H ?_|refine z_I ?_)
  refine ofPR (pr_eql23 ([], [109]) ([], [109])) ?_
  rw [decide_eq_true rfl]
  (repeat with_reducible first|refine z_a ?_|refine z_b ?_|refine z_c ?_|refine z_d ?_|refine z_e ?_|refine z_f ?_|refine z_g ?_|refine z_h ?_|refine z_i ?_|refine z_j ?_|refine z_k ?_|refine z_l ?_|refine z_m (by omega) ?_|refine z_n (by omega) ?_|refine z_o (by omega) ?_|refine z_p (by omega) ?_|refine z_q (by omega) ?_|refine z_r (by omega) ?_|refine z_s (by omega) ?_|refine z_t (by omega) ?_|refine z_u (by omega) ?_|refine z_v (by omega) ?_|refine z_w (by omega) ?_|refine z_x (by omega) ?_|refine z_y (by omega) ?_|refine z_z (by omega) ?_|refine z_A ?_|refine z_B ?_|refine z_C ?_|refine z_D ?_|refine z_E ?_|refine z_F ?_|refine z_G ?_|refine z_H ?_|refine z_I ?_)
  refine (State13 (n := 1) 1 (by decide) hS6 ok6).mono ?_
  rintro _ w7 ⟨rfl, h7⟩
  have e7 : stV [⟨[0], 2, []⟩] 1 = 2 := rfl
  rw [e7]
  (repeat with_reducible first|refine z_a ?_|refine z_b ?_|refine z_c ?_|refine z_d ?_|refine z_e ?_|refine z_f ?_|refine z_g ?_|refine z_h ?_|refine z_i ?_|refine z_j ?_|refine z_k ?_|refine z_l ?_|refine z_m (by omega) ?_|refine z_n (by omega) ?_|refine z_o (by omega) ?_|refine z_p (by omega) ?_|refine z_q (by omega) ?_|refine z_r (by omega) ?_|refine z_s (by omega) ?_|refine z_t (by omega) ?_|refine z_u (by omega) ?_|refine z_v (by omega) ?_|refine z_w (by omega) ?_|refine z_x (by omega) ?_|refine z_y (by omega) ?_|refine z_z (by omega) ?_|refine z_A ?_|refine z_B ?_|refine z_C ?_|refine z_D ?_|refine z_E ?_|refine z_F ?_|refine z_G ?_|refine z_H ?_|refine z_I ?_)
  refine (Drop16 (k := 1) 1 (by decide) (hS6.below h7) ok6).mono ?_
  rintro _ w8 ⟨rfl, hL8⟩
  obtain ⟨c8, hc8, hS8, hb8⟩ := LowD.step (by decide) (V := []) hc6 (below_then hb6 h7) hL8
  have e8 : drV [⟨[0], 2, []⟩] 1 gone0 = [⟨[], 3, []⟩] := rfl
  have e9 : drE [⟨[0], 2, []⟩] 1 = 0 := rfl
  rw [e8] at hS8
  rw [e9]
  (repeat with_reducible first|refine z_a ?_|refine z_b ?_|refine z_c ?_|refine z_d ?_|refine z_e ?_|refine z_f ?_|refine z_g ?_|refine z_h ?_|refine z_i ?_|refine z_j ?_|refine z_k ?_|refine z_l ?_|refine z_m (by omega) ?_|refine z_n (by omega) ?_|refine z_o (by omega) ?_|refine z_p (by omega) ?_|refine z_q (by omega) ?_|refine z_r (by omega) ?_|refine z_s (by omega) ?_|refine z_t (by omega) ?_|refine z_u (by omega) ?_|refine z_v (by omega) ?_|refine z_w (by omega) ?_|refine z_x (by omega) ?_|refine z_y (by omega) ?_|refine z_z (by omega) ?_|refine z_A ?_|refine z_B ?_|refine z_C ?_|refine z_D ?_|refine z_E ?_|refine z_F ?_|refine z_G ?_|refine z_H ?_|refine z_I ?_)
  have ok8 : BdOk 1 [⟨[], 3, []⟩] := ⟨by simp, fun x hx => by
    simp only [List.mem_cons, List.not_mem_nil, or_false] at hx
    subst hx
    exact ⟨.inr (.inr rfl), fun e => (by cases e), fun _ => rfl, fun _ => rfl, fun e => absurd rfl e, ⟨by simp, by simp⟩, by simp⟩⟩
  refine (Version26 (n := 1) hS8 ok8).mono ?_
  rintro _ w9 ⟨rfl, h9⟩
  have e10 : veV [⟨[], 3, []⟩] = 2 := rfl
  rw [e10]
  (repeat with_reducible first|refine z_a ?_|refine z_b ?_|refine z_c ?_|refine z_d ?_|refine z_e ?_|refine z_f ?_|refine z_g ?_|refine z_h ?_|refine z_i ?_|refine z_j ?_|refine z_k ?_|refine z_l ?_|refine z_m (by omega) ?_|refine z_n (by omega) ?_|refine z_o (by omega) ?_|refine z_p (by omega) ?_|refine z_q (by omega) ?_|refine z_r (by omega) ?_|refine z_s (by omega) ?_|refine z_t (by omega) ?_|refine z_u (by omega) ?_|refine z_v (by omega) ?_|refine z_w (by omega) ?_|refine z_x (by omega) ?_|refine z_y (by omega) ?_|refine z_z (by omega) ?_|refine z_A ?_|refine z_B ?_|refine z_C ?_|refine z_D ?_|refine z_E ?_|refine z_F ?_|refine z_G ?_|refine z_H ?_|refine z_I ?_)
  exact ⟨rfl, below_then hb8 h9⟩
structure ActB where
  kind : Int
  id : Int
  fs : List Int
  r : Rg
abbrev AcB : Rdr (List ActB) := rRow 5 (fun w us x => ∃ vf, us = [.int .i64 x.kind, .int .i64 x.id, vf, tS x.r.1, tS x.r.2] ∧ Rd w vf (iV x.fs))
theorem keeps_AcB : Keeps AcB := keeps_Row (fun _ _ _ _ hb h => by obtain ⟨vf, h1, h2⟩ := h; exact ⟨vf, h1, h2.below hb⟩)
theorem undAs : Try.prog.underlying 37 = some (.slice 44) := by kernel_rfl
theorem szA : (Try.prog.info? 44).map (·.size) = some 5 := by kernel_rfl
theorem p0 : fofs Try.prog 44 0 = some (0, 1) := by kernel_rfl
theorem p1 : fofs Try.prog 44 1 = some (1, 1) := by kernel_rfl
theorem p2 : fofs Try.prog 44 2 = some (2, 1) := by kernel_rfl
theorem p3 : fofs Try.prog 44 3 = some (3, 2) := by kernel_rfl
abbrev IntsT : Rdr (List Int) := rRow 1 (rI .i64)
abbrev ActBT := Int × Int × List Int × RgT × Unit
abbrev rActB : Rdr ActBT := rCons 1 (rI .i64) (rCons 1 (rI .i64) (rCons 1 IntsT (rCons 2 rRgT rNil)))
abbrev ActsB : Rdr (List ActBT) := rRow 5 rActB
theorem opens_IntsT : Opens Try.prog 23 IntsT := opens_row undIs (by kernel_rfl) (opens_int und3)
theorem opens_ActB : Opens Try.prog 44 rActB := opens_struct Try.underlying44 (by kernel_rfl) (opensF_cons rfl (by kernel_rfl) (by decide) (opens_int und3) (opensF_cons rfl (by kernel_rfl) (by decide) (opens_int und3) (opensF_cons rfl (by kernel_rfl) (by decide) opens_IntsT (opensF_cons rfl (by kernel_rfl) (by decide) opens_Rg opensF_nil))))
theorem opens_ActsB : Opens Try.prog 37 ActsB := opens_row undAs (by kernel_rfl) opens_ActB
def toActB (x : ActBT) : ActB := ⟨x.1, x.2.1, x.2.2.1, toRg x.2.2.2.1⟩
theorem intsT_rd {w : World} {v : Value} {l : List Int} (h : IntsT w [v] l) : Rd w v (iV l) ∧ ∀ n ∈ l, (Lit.int .i64 n).wf = true := by
  obtain ⟨A, c, he, h1, h2, h3⟩ := h
  simp only [List.cons.injEq, and_true] at he
  subst he
  refine ⟨⟨A, c, by rw [List.length_map], by rw [List.length_map]; exact h1, by simp only [maxLen] at h2; omega, fun i u hu => ?_⟩, fun n hn => ?_⟩
  · rw [List.getElem?_map] at hu
    obtain ⟨y, hy, rfl⟩ := Option.map_eq_some_iff.1 hu
    obtain ⟨a, us, ha, hus, hcell, hr, _⟩ := h3 i y hy
    subst hr
    refine ⟨a, ha, ?_⟩
    have := hcell 0 _ rfl
    rwa [Nat.mul_one, Nat.add_zero] at this
  · obtain ⟨i, hi, rfl⟩ := List.getElem_of_mem hn
    obtain ⟨a, us, ha, hus, hcell, hr, hw⟩ := h3 i _ (List.getElem?_eq_getElem hi)
    exact hw
theorem actB_cells {w : World} {us : List Value} {x : ActBT} (h : rActB w us x) : (∃ vf, us = [.int .i64 x.1, .int .i64 x.2.1, vf, tS (toRg x.2.2.2.1).1, tS (toRg x.2.2.2.1).2] ∧ Rd w vf (iV x.2.2.1)) ∧ (Lit.int .i64 x.2.1).wf = true := by
  obtain ⟨r, rfl, _, h⟩ := rCons_I h
  obtain ⟨r, rfl, hw, h⟩ := rCons_I h
  obtain ⟨h1, h2⟩ := h
  obtain ⟨h3, h4⟩ := h2
  have e1 := rgT_cells h3
  have e2 : (r.drop 1).drop 2 = [] := h4
  have hI := h1
  obtain ⟨A, c, he, _⟩ := hI
  rw [he] at h1
  have e4 : r.drop 1 = (r.drop 1).take 2 ++ (r.drop 1).drop 2 := (List.take_append_drop 2 _).symm
  have e3 : r = r.take 1 ++ r.drop 1 := (List.take_append_drop 1 r).symm
  rw [e4, e1, e2, he] at e3
  rw [e3]
  exact ⟨⟨_, rfl, (intsT_rd h1).1⟩, hw⟩
theorem actsB_of {w : World} {v : Value} {l : List ActBT} (h : ActsB w [v] l) : AcB w [v] (l.map toActB) ∧ ∀ a ∈ l.map toActB, a.id ≤ 9223372036854775807 := by
  obtain ⟨A, c, he, h1, h2, h3⟩ := h
  refine ⟨⟨A, c, by rw [he, List.length_map], by rw [List.length_map]; exact h1, h2, fun i x hx => ?_⟩, fun a ha => ?_⟩
  · rw [List.getElem?_map] at hx
    obtain ⟨y, hy, rfl⟩ := Option.map_eq_some_iff.1 hx
    obtain ⟨a, us, ha, hus, hcell, hr⟩ := h3 i y hy
    exact ⟨a, us, ha, hus, hcell, (actB_cells hr).1⟩
  · obtain ⟨x, hx, rfl⟩ := List.mem_map.1 ha
    obtain ⟨i, hi, rfl⟩ := List.getElem_of_mem hx
    obtain ⟨a, us, _, hus, hcell, hr⟩ := h3 i l[i] (List.getElem?_eq_getElem hi)
    exact (bounds_i64 (actB_cells hr).2).2
end Go.Proofs.Ytcfncjejpjjhdaa.E
namespace Go.Proofs.Ytcfncjejpjjhdaa.E
open Go Go.RowKit
set_option linter.unusedSimpArgs false
set_option linter.unusedVariables false

theorem acB_at {w : World} {A : Option Addr} {n c : Nat} {l : List ActB} (h : AcB w [.slice A n c] l) (i : Nat) (hi : i < l.length) :
    ∃ a Af cf, A = some a ∧ w.cell? ((a.add (i * 5)).add 0) = some (.int .i64 l[i].kind) ∧ w.cell? ((a.add (i * 5)).add 1) = some (.int .i64 l[i].id) ∧ w.cell? ((a.add (i * 5)).add 2) = some (.slice Af l[i].fs.length cf) ∧
      (∀ j u, (rgF l[i].r)[j]? = some u → w.cell? ((a.add (i * 5)).add (3 + j)) = some u) ∧ Rd w (.slice Af l[i].fs.length cf) (iV l[i].fs) := by
  obtain ⟨a, us, rfl, _, hcell, vf, rfl, hrd⟩ := rRow.at h i hi
  obtain ⟨Af, cf, rfl, _⟩ := hrd.slice
  have hl : (iV l[i].fs).length = l[i].fs.length := List.length_map _
  rw [hl] at hrd hcell
  refine ⟨a, Af, cf, rfl, hcell 0 _ rfl, hcell 1 _ rfl, hcell 2 _ rfl, fun j u hu => ?_, hrd⟩
  match j, hu with
  | 0, hu => exact hcell 3 _ hu
  | 1, hu => exact hcell 4 _ hu
  | n + 2, hu => simp [rgF] at hu
theorem addAdd {a : Addr} {w : World} {us : List Value} {o : Nat} (h : ∀ j u, us[j]? = some u → w.cell? (a.add (o + j)) = some u) : ∀ j u, us[j]? = some u → w.cell? ((a.add o).add j) = some u := fun j u hu => by rw [add_add]; exact h j u hu
end Go.Proofs.Ytcfncjejpjjhdaa.E
namespace Go.Proofs.Ytcfncjejpjjhdaa.E
open Go Go.RowKit
set_option linter.unusedSimpArgs false
set_option linter.unusedVariables false

inductive Kd where
  | bd
  | rf
  | row
  | arr (t : TypeId)
/-- A board, a board of the reference, a row of numbers of the call's own (g: how many): its colour, its place, what it is. -/
structure Ob where
  kd : Kd
  hu : Nat
  g : Nat
  V : BdV
  v : Value
abbrev obD (hu g : Nat) (V : BdV) : Ob := ⟨.bd, hu, g, V, .slice none 0 0⟩
abbrev obE (hu g : Nat) (V : BdV) : Ob := ⟨.rf, hu, g, V, .slice none 0 0⟩
/-- An array of the call's own, of type t. -/
abbrev obA (hu g : Nat) (t : TypeId) (cs : Array Value) : Ob := ⟨.arr t, hu, g, [], .agg cs⟩
def ObS (c : Nat → Nat) (w : World) (o : Ob) : Prop := match o.kd with
  | .rf => RbS o.hu c w o.g (veV o.V) o.V
  | .bd => BdS o.hu c w o.g o.V
  | .row => (0 < o.hu ∧ o.hu < 999) ∧ InC c o.hu o.v ∧ ∃ l, Own 3 w o.v (iV l) ∧ l.length = o.g
  | .arr t => (0 < o.hu ∧ o.hu < 999) ∧ c o.g = o.hu ∧ ∃ cs, o.v = .agg cs ∧ Blk w o.g t cs
theorem ObS.turns {c : Nat → Nat} {w w' : World} {o : Ob} {G : Nat → Prop} (h : ObS c w o) (hT : Turns G w w') (hG : ∀ k, G k → c k ≠ o.hu ∧ c k ≠ 999) : ObS c w' o := by
  unfold ObS at *
  cases hr : o.kd with
  | rf => rw [hr] at h; exact RbS.turns h hT hG
  | bd => rw [hr] at h; exact BdS.turns h hT hG
  | row =>
    rw [hr] at h
    obtain ⟨h1, h2, l, h3, h4⟩ := h
    exact ⟨h1, h2, l, ownsRow_turns h3 hT fun k hk e => (hG k e).1 (h2 k hk), h4⟩
  | arr t =>
    rw [hr] at h
    obtain ⟨h1, h2, cs, h3, h4⟩ := h
    exact ⟨h1, h2, cs, h3, h4.turns hT fun e => (hG _ e).1 h2⟩
theorem ObS.re {c c' : Nat → Nat} {w : World} {o : Ob} (h : ObS c w o) (hc : ∀ k, k < w.heap.size → c' k = c k) : ObS c' w o := by
  unfold ObS at *
  cases hr : o.kd with
  | rf => rw [hr] at h; exact RbS.re h hc
  | bd => rw [hr] at h; exact BdS.re h hc
  | row =>
    rw [hr] at h
    obtain ⟨h1, h2, l, h3, h4⟩ := h
    exact ⟨h1, fun k hk => by rw [hc k (ownsRow_lt h3 hk)]; exact h2 k hk, l, h3, h4⟩
  | arr t =>
    rw [hr] at h
    obtain ⟨h1, h2, cs, h3, h4⟩ := h
    exact ⟨h1, by rw [hc _ h4.lt]; exact h2, cs, h3, h4⟩
theorem ObS.hh {c : Nat → Nat} {w : World} {o : Ob} (h : ObS c w o) : 0 < o.hu ∧ o.hu < 999 := by
  unfold ObS at h
  cases hr : o.kd with
  | rf => rw [hr] at h; obtain ⟨_, _, h, _⟩ := h; exact h.hh
  | bd => rw [hr] at h; obtain ⟨_, _, h, _⟩ := h; exact h.hh
  | row => rw [hr] at h; exact h.1
  | arr t => rw [hr] at h; exact h.1
theorem ObS.below {c : Nat → Nat} {w w' : World} {o : Ob} (h : ObS c w o) (hb : Below w.heap.size w w') : ObS c w' o := h.turns (G := fun _ => False) (Turns.of_below hb) fun _ h => h.elim
/-- Objects, and that what was there at w0 stands. -/
def MemL (w0 w : World) (L : List Ob) : Prop := ∃ c : Nat → Nat, (∀ k, k < w0.heap.size → c k = 0) ∧ (∀ o ∈ L, ObS c w o) ∧ Below w0.heap.size w0 w
section
variable {w0 w w' : World} {L A B : List Ob} {o o' : Ob}
theorem MemL.bel (h : MemL w0 w L) : Below w0.heap.size w0 w := by obtain ⟨_, _, _, h⟩ := h; exact h
theorem MemL.below (h : MemL w0 w L) (hb : Below w.heap.size w w') : MemL w0 w' L := by
  obtain ⟨c, h1, h2, h3⟩ := h
  exact ⟨c, h1, fun o ho => (h2 o ho).below hb, below_then h3 hb⟩
theorem MemL.nil (w : World) : MemL w w [] := ⟨fun _ => 0, fun _ _ => rfl, by simp, Below.refl _ _⟩
/-- A call on one of them. -/
theorem MemL.call (h : MemL w0 w (A ++ o :: B)) (hd : ∀ x ∈ A ++ B, x.hu ≠ o.hu) : ∃ c, ObS c w o ∧ ∀ (o' : Ob) (w' : World), o'.hu = o.hu → (∃ c', (∀ k, k < w.heap.size → c' k = c k) ∧ ObS c' w' o' ∧ Turns (fun k => c k = o.hu) w w') → MemL w0 w' (A ++ o' :: B) := by
  obtain ⟨c, h1, h2, h3⟩ := h
  have ho := h2 o (by simp)
  have hh := ho.hh
  refine ⟨c, ho, fun o' w' e ⟨c', hc, hS, hT⟩ => ⟨c', fun k hk => (hc k (Nat.lt_of_lt_of_le hk h3.size)).trans (h1 k hk), fun x hx => ?_, h3.trans (hT.below h3.size fun k hk e => ?_)⟩⟩
  · have keep : x ∈ A ++ B → ObS c' w' x := fun hx => by
      refine ((h2 x ?_).re hc).turns hT.cut fun k hk => ?_
      · rcases List.mem_append.1 hx with h | h
        · simp [h]
        · simp [h]
      · rw [hc k hk.2]
        have := hd x hx
        have : c k = o.hu := hk.1
        omega
    rcases List.mem_append.1 hx with h | h
    · exact keep (List.mem_append.2 (.inl h))
    · rcases List.mem_cons.1 h with rfl | h
      · exact hS
      · exact keep (List.mem_append.2 (.inr h))
  · rw [h1 k hk] at e
    omega
/-- An object is made. -/
theorem MemL.make (h : MemL w0 w L) : ∃ c : Nat → Nat, ∀ (o : Ob) w', (∃ c', (∀ k, k < w.heap.size → c' k = c k) ∧ ObS c' w' o ∧ Below w.heap.size w w') → MemL w0 w' (L ++ [o]) := by
  obtain ⟨c, h1, h2, h3⟩ := h
  refine ⟨c, fun o w' ⟨c', hc, hS, hb⟩ => ⟨c', fun k hk => (hc k (Nat.lt_of_lt_of_le hk h3.size)).trans (h1 k hk), fun x hx => ?_, below_then h3 hb⟩⟩
  rcases List.mem_append.1 hx with h | h
  · exact ((h2 x h).re hc).below hb
  · simp only [List.mem_cons, List.not_mem_nil, or_false] at h
    rw [h]; exact hS
end
section
variable {w0 w w' : World} {L A B : List Ob} {hu g : Nat} {V V' : BdV}
theorem MemL.callD (h : MemL w0 w (A ++ obD hu g V :: B)) (hd : ∀ x ∈ A ++ B, x.hu ≠ hu) : ∃ c, BdS hu c w g V ∧ ∀ (V' : BdV) (w' : World), LeftD hu c w g V' w' → MemL w0 w' (A ++ obD hu g V' :: B) := by
  obtain ⟨c, h1, h2⟩ := h.call hd
  exact ⟨c, h1, fun V' w' hl => h2 (obD hu g V') w' rfl hl⟩
theorem MemL.callE (h : MemL w0 w (A ++ obE hu g V :: B)) (hd : ∀ x ∈ A ++ B, x.hu ≠ hu) : ∃ c, RbS hu c w g (veV V) V ∧ ∀ (V' : BdV) (w' : World), LeftE hu c w g (veV V') V' w' → MemL w0 w' (A ++ obE hu g V' :: B) := by
  obtain ⟨c, h1, h2⟩ := h.call hd
  exact ⟨c, h1, fun V' w' hl => h2 (obE hu g V') w' rfl hl⟩
theorem MemL.look (h : MemL w0 w (A ++ obD hu g V :: B)) : ∃ c, BdS hu c w g V := by
  obtain ⟨c, h1, h2, h3⟩ := h
  exact ⟨c, h2 (obD hu g V) (by simp)⟩
end
noncomputable def actV0 (V : BdV) (a : ActB) : BdV := if a.kind = 1 then deV V a.fs [allR] else if a.kind = 2 then drV V a.id gone0 else if a.kind = 3 then reV V a.id (rep0 a.r) else V
noncomputable def actM0 (V : BdV) (a : ActB) : BdV := if a.kind = 1 then deV V a.fs [] else if a.kind = 2 then drV V a.id goneR else if a.kind = 3 then reV V a.id (repR a.r) else V
structure StepB (n : Nat) (V M : BdV) : Prop where
  rel : BdRel V M
  ok : BdOk n V
  len : ∀ x ∈ M, x.rs.length ≤ n
theorem upd_mem {V : BdV} {id : Int} {f : Ln → Ln} {x : Ln} (h : x ∈ upd V id f) : x ∈ V ∨ ∃ y ∈ V, x = f y := by
  obtain ⟨i, hi, rfl⟩ := List.getElem_of_mem h
  have hi' : i < V.length := by rwa [upd_len] at hi
  rw [upd_get]
  split
  · exact .inr ⟨_, List.getElem_mem hi', rfl⟩
  · exact .inl (List.getElem_mem hi')
theorem StepB.mono {n m : Nat} {V M : BdV} (h : StepB n V M) (hm : n ≤ m) : StepB m V M :=
  ⟨h.rel, ⟨h.ok.1, fun x hx => by have := h.ok.2 x hx; exact ⟨this.1, this.2, this.3, this.4, this.5, this.6, Nat.le_trans this.7 hm⟩⟩, fun x hx => Nat.le_trans (h.len x hx) hm⟩
theorem StepB.de {n : Nat} {V M : BdV} (h : StepB n V M) (hn : 1 ≤ n) (fs : List Int) : StepB n (deV V fs [allR]) (deV M fs []) := by
  refine ⟨(de_rel h.rel fs).2, de_ok h.ok hn fs, fun x hx => ?_⟩
  unfold deV at hx
  split at hx
  · exact h.len x hx
  · split at hx
    · rcases List.mem_append.1 hx with hx | hx
      · exact h.len x hx
      · simp only [List.mem_cons, List.not_mem_nil, or_false] at hx
        rw [hx]; simp
    · exact h.len x hx
theorem StepB.dr {n : Nat} {V M : BdV} (h : StepB n V M) (id : Int) : StepB n (drV V id gone0) (drV M id goneR) := by
  refine ⟨(dr_rel h.rel id).2, dr_ok h.ok id, fun x hx => ?_⟩
  unfold drV at hx
  split at hx
  · rcases upd_mem hx with hx | ⟨y, hy, rfl⟩
    · exact h.len x hx
    · exact h.len y hy
  · exact h.len x hx
theorem StepB.re {n : Nat} {V M : BdV} (h : StepB n V M) (id : Int) (r : Rg) : StepB (n + 1) (reV V id (rep0 r)) (reV M id (repR r)) := by
  refine ⟨(re_rel h.rel id r).2, re_ok h.ok id r, fun x hx => ?_⟩
  unfold reV at hx
  split at hx
  · rcases upd_mem hx with hx | ⟨y, hy, rfl⟩
    · exact Nat.le_succ_of_le (h.len x hx)
    · have h1 := lst_len (y.rs ++ [r])
      have h2 := h.len y hy
      rw [List.length_append, List.length_cons, List.length_nil] at h1
      show (lst (y.rs ++ [r])).length ≤ n + 1
      omega
  · exact Nat.le_succ_of_le (h.len x hx)
theorem StepB.act {n : Nat} {V M : BdV} (h : StepB n V M) (hn : 1 ≤ n) (a : ActB) : StepB (n + 1) (actV0 V a) (actM0 M a) := by
  unfold actV0 actM0
  split
  · exact (h.de hn a.fs).mono (Nat.le_succ n)
  · split
    · exact (h.dr a.id).mono (Nat.le_succ n)
    · split
      · exact h.re a.id a.r
      · exact h.mono (Nat.le_succ n)
theorem StepB.st {n : Nat} {V M : BdV} (h : StepB n V M) : M.length ≤ 6 ∧ ∀ x ∈ M, x.st = 1 ∨ x.st = 2 ∨ x.st = 3 := by
  have hl := Bd_len h.rel
  refine ⟨by have := h.ok.1; omega, fun x hx => ?_⟩
  obtain ⟨i, hi, rfl⟩ := List.getElem_of_mem hx
  have hi' : i < V.length := by omega
  have := Bd_at h.rel i hi'
  rw [this.st]
  exact (h.ok.2 _ (List.getElem_mem hi')).st
theorem StepB.nil : StepB 1 [] [] := ⟨⟨rfl, fun i x y h => by simp at h⟩, ok_nil, by simp⟩
theorem ve_bound {n : Nat} {V M : BdV} (h : StepB n V M) : 0 ≤ veV M ∧ veV M ≤ 12 := by
  have h6 := h.st.1
  rw [veV_count]
  have := List.countP_le_length (p := fun x : Ln => decide (x.st = 3)) (l := M)
  omega
theorem ve_de {V : BdV} (fs : List Int) : veV (deV V fs []) = veV V + if V.length ≠ 6 ∧ ckI fs = 0 then 1 else 0 := by
  unfold deV
  by_cases h1 : V.length = 6
  · rw [if_pos h1, if_neg (fun e => e.1 h1)]; omega
  · rw [if_neg h1]
    by_cases h2 : ckI fs = 0
    · rw [if_pos h2, if_pos ⟨h1, h2⟩, ve_one]
    · rw [if_neg h2, if_neg (fun e => h2 e.2)]; omega
theorem repR_st {r : Rg} (x : Ln) : (repR r x).st ≠ 3 := by
  show (if lst _ = [allR] then (2 : Int) else 1) ≠ 3
  split <;> omega
section
variable {w0 w : World} {A B : List Ob} {hu g n : Nat} {V M : BdV}
/-- The calls, told of all boards. -/
theorem callDe {vf : Value} {fs : List Int} (h : MemL w0 w (A ++ obD hu g V :: B)) (hd : ∀ x ∈ A ++ B, x.hu ≠ hu) (hs : StepB n V M) (hf : Rd w vf (iV fs)) (hfl : fs.length ≤ 100000) :
    CallP Try.prog 10 #[.pointer (some ⟨g, 0, none⟩), vf] (fun u w' => u = .tuple #[.int .i64 (deE V fs).1, .int .i64 (deE V fs).2] ∧ MemL w0 w' (A ++ obD hu g (deV V fs [allR]) :: B)) w := by
  obtain ⟨c, h1, h2⟩ := h.callD hd
  exact (Declare10 vf fs hf hfl h1 hs.ok).mono fun u w' ⟨hu, hl⟩ => ⟨hu, h2 _ _ hl⟩
theorem callDr (id : Int) (hid : id ≤ 9223372036854775807) (h : MemL w0 w (A ++ obD hu g V :: B)) (hd : ∀ x ∈ A ++ B, x.hu ≠ hu) (hs : StepB n V M) :
    CallP Try.prog 16 #[.pointer (some ⟨g, 0, none⟩), .int .i64 id] (fun u w' => u = .int .i64 (drE V id) ∧ MemL w0 w' (A ++ obD hu g (drV V id gone0) :: B)) w := by
  obtain ⟨c, h1, h2⟩ := h.callD hd
  exact (Drop16 id hid h1 hs.ok).mono fun u w' ⟨hu, hl⟩ => ⟨hu, h2 _ _ hl⟩
theorem callRe (id : Int) (r : Rg) (hid : id ≤ 9223372036854775807) (h : MemL w0 w (A ++ obD hu g V :: B)) (hd : ∀ x ∈ A ++ B, x.hu ≠ hu) (hs : StepB n V M) (hn : n ≤ 1000) :
    CallP Try.prog 11 #[.pointer (some ⟨g, 0, none⟩), .int .i64 id, rgV r] (fun u w' => u = .bool (reB V id (rep0 r)) ∧ MemL w0 w' (A ++ obD hu g (reV V id (rep0 r)) :: B)) w := by
  obtain ⟨c, h1, h2⟩ := h.callD hd
  exact (Report11 id r hid h1 hs.ok hn).mono fun u w' ⟨hu, hl⟩ => ⟨hu, h2 _ _ hl⟩
theorem refDe {vf : Value} {fs : List Int} (h : MemL w0 w (A ++ obE hu g M :: B)) (hd : ∀ x ∈ A ++ B, x.hu ≠ hu) (hs : StepB n V M) (hf : Rd w vf (iV fs)) (hfl : fs.length ≤ 100000) :
    CallP Try.prog 15 #[.pointer (some ⟨g, 0, none⟩), vf] (fun u w' => u = .tuple #[.int .i64 (deE M fs).1, .int .i64 (deE M fs).2] ∧ MemL w0 w' (A ++ obE hu g (deV M fs []) :: B)) w := by
  obtain ⟨c, h1, h2⟩ := h.callE hd
  have hv := ve_bound hs
  exact (refDeclare15 vf fs hf hfl h1 hs.st.1 hv.1 (by omega)).mono fun u w' ⟨hu, hl⟩ => ⟨hu, h2 _ _ (by rw [ve_de]; exact hl)⟩
theorem refDr (id : Int) (hid : id ≤ 9223372036854775807) (h : MemL w0 w (A ++ obE hu g M :: B)) (hd : ∀ x ∈ A ++ B, x.hu ≠ hu) (hs : StepB n V M) :
    CallP Try.prog 17 #[.pointer (some ⟨g, 0, none⟩), .int .i64 id] (fun u w' => u = .int .i64 (drE M id) ∧ MemL w0 w' (A ++ obE hu g (drV M id goneR) :: B)) w := by
  obtain ⟨c, h1, h2⟩ := h.callE hd
  have hv := ve_bound hs
  exact (refDrop17 id hid h1 hv.1 (by omega)).mono fun u w' ⟨hu, hl⟩ => ⟨hu, h2 _ _ (by rw [ve_dr id (f := goneR) (fun _ => rfl)]; exact hl)⟩
theorem refRe (id : Int) (r : Rg) (hid : id ≤ 9223372036854775807) (h : MemL w0 w (A ++ obE hu g M :: B)) (hd : ∀ x ∈ A ++ B, x.hu ≠ hu) (hs : StepB n V M) (hn : n ≤ 100) :
    CallP Try.prog 18 #[.pointer (some ⟨g, 0, none⟩), .int .i64 id, rgV r] (fun u w' => u = .bool (reB M id (repR r)) ∧ MemL w0 w' (A ++ obE hu g (reV M id (repR r)) :: B)) w := by
  obtain ⟨c, h1, h2⟩ := h.callE hd
  exact (refReport18 id r hid h1 (fun x hx => Nat.le_trans (hs.len x hx) hn)).mono fun u w' ⟨hu, hl⟩ => ⟨hu, h2 _ _ (by rw [ve_re id (f := repR r) repR_st]; exact hl)⟩
end
end Go.Proofs.Ytcfncjejpjjhdaa.E
