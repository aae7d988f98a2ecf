import Derived.Test.YtcfncjejpjjhdaaM9
import Derived.Test.YtcfncjejpjjhdaaM7
/- same: do a board and the reference's tell the same? -/
namespace Go.Proofs.Ytcfncjejpjjhdaa.E
open Go Go.RowKit
set_option linter.unusedSimpArgs false
set_option linter.unusedVariables false

def sameAt (V M : BdV) (id : Int) : Prop := stV V id = stV M id ∧ lfV V id = lfR M id ∧ ixV V id = ixV M id
def sameP (V M : BdV) (n : Int) : Prop := veV V = n ∧ thV V = thV M ∧ goV V = goV M ∧ ∀ id, -1 ≤ id → id < 9 → sameAt V M id
theorem same_rel {k : Nat} {V M : BdV} (h : BdRel V M) (hok : BdOk k V) : sameP V M (veV M) :=
  ⟨by unfold veV; rw [go_rel h, Bd_len h], (th_rel h).symm, (go_rel h).symm, fun id _ _ => ⟨(st_rel h id).symm, (lf_rel h hok id).symm, (ix_rel h id).symm⟩⟩
theorem gaU {b : Bool} {S : World → Prop} {w : World} {X : (Value → World → Prop) → World → Prop} {K : (World → Prop) → Value → World → Prop} (k : K S undef w) : GuardA undef b S X K w := gaN (by simp [undef]) k
theorem bs1Ix {K : Value → World → Prop} {w : World} {A : Option Addr} {k c : Nat} {id : Int} {fs : List Int} (hr : Rd w (.slice A k c) (iV fs)) (kk : ∀ v' w', IxR w' [v'] [(id, fs)] → Below w.heap.size w w' → K v' w') :
    LiftP Try.prog (Instr.buildSlice 51 1 #[(0, .agg #[.int .i64 id, .slice A k c])]) K w := by
  have hb : (Instr.buildSlice 51 1 #[(0, .agg #[.int .i64 id, .slice A k c])]).run Try.prog w = .ok (.slice (some ⟨w.heap.size, 0, none⟩) 1 1) (w.alloc (.cells #[.int .i64 id, .slice A k c] 47)) := by kernel_rfl
  have ha := (Below.refl w.heap.size w).alloc (Nat.le_refl _) (.cells #[.int .i64 id, .slice A k c] 47)
  have ho : (w.alloc (.cells #[.int .i64 id, .slice A k c] 47)).ownsRow 0 47 2 (.slice (some ⟨w.heap.size, 0, none⟩) 1 1) 1 [.int .i64 id, .slice A k c] :=
    ⟨rfl, .inr ⟨w.heap.size, 1, _, rfl, Nat.zero_le _, heap_alloc_new w _, Nat.le_refl _, by decide, rfl, rfl⟩⟩
  refine lift hb (kk _ _ ?_ ha)
  exact OwnR.rd (f := fun x : Int × List Int => [.int .i64 x.1, .slice A k c]) (l := [(id, fs)]) (OwnR.of_own ho) (fun _ => rfl) fun x hx => by
    simp only [List.mem_cons, List.not_mem_nil, or_false] at hx
    subst hx
    exact ⟨_, rfl, hr.below ha⟩
section
variable {hu hu' : Nat} {c : Nat → Nat} {w : World} {g g' k : Nat} {vn : Int} {V M : BdV}
theorem bndE {b b' : Bool} {t : TypeId} {x y : Operand} {S : World → Prop} {K : Value → World → Prop} {w : World} (ht : Try.prog.underlying t = some .bool) (k : K (.bool (decide (b ≠ b'))) w) : YieldP Try.prog S (binS .neq t x y (.bool b) (.bool b')) K w := yi_bneq ht k
theorem ixV_ref (h : M.length ≤ 6) {i : Nat} (hi : i < M.length) {id : Int} (hid : id = i + 1) : ixV M id = if M[i].st = 1 ∨ M[i].st = 2 then some M[i].fs else none := ixV_in hi hid
theorem same23 (h : BdS hu c w g V) (h' : RbS hu' c w g' vn M) (hok : BdOk k V) (hk : k ≤ 1000) (hM6 : M.length ≤ 6) (hMs : ∀ x ∈ M, x.st = 1 ∨ x.st = 2 ∨ x.st = 3) (hMl : ∀ x ∈ M, x.rs.length ≤ 100) :
    CallP Try.prog 23 #[.pointer (some ⟨g, 0, none⟩), .pointer (some ⟨g', 0, none⟩)] (fun r w' => (∃ b, r = .bool b ∧ (b = true ↔ sameP V M vn)) ∧ Below w.heap.size w w') w := by
  refine ⟨S23.calls _ _ _ _ ?_⟩
  unfold S23
  have hdr : Below w.heap.size w w.drew := (Below.refl _ _).drew
  have h'0 := h'
  obtain ⟨vLr, MM, hR, hRV⟩ := h'0
  have kV : ∀ w', Below w.heap.size w w' → w'.cell? ⟨g', 1, none⟩ = some (.int .i64 vn) := fun w' hb => (hR.blk.below' hb).cell 1
  refine draw (Below w.heap.size w) hdr ?_
  refine yofPR (pr_pnil undBp) ?_
  simp only [Option.isNone_some]
  (repeat with_reducible first | refine yfd c1 (by decide) ?_ | refine yl1 oneI kV ?_ | refine ynck ?_ | refine nck ?_ | refine cdT ?_ | refine cdF ?_ | refine gdY ?_ | refine gdFT ?_ | refine gdTF ?_ | refine gdU ?_ | refine gaY ?_ | refine gaFT ?_ | refine gaTF ?_ | refine pickT ?_ | refine pickF ?_ | refine yi_lss_t (by omega) ?_ | refine yi_lss_f (by omega) ?_ | refine yi_add64 (by omega) ?_ | refine yi_sub64 (by omega) ?_ | refine yi_eql_t (by omega) ?_ | refine yi_eql_f (by omega) ?_ | refine yi_neq_t (by omega) ?_ | refine yi_neq_f (by omega) ?_ | refine yi_gtr_t (by omega) ?_ | refine yi_gtr_f (by omega) ?_ | refine yi_leq_t (by omega) ?_ | refine yi_leq_f (by omega) ?_ | refine yi_geq_t (by omega) ?_ | refine yi_geq_f (by omega) ?_ | refine yi_xt0 ?_ | refine yi_xt1 ?_ | refine yi_xt2 ?_ | refine yi_xt3 ?_ | refine yi_T ?_ | refine yi_F ?_ | refine yi_not ?_ | refine yi_and ?_ | refine yi_or ?_ | refine yi_xor ?_ | refine yi_shr (by omega) (by decide) ?_ | refine yi_shl (by omega) (by decide) ?_ | refine yi_quo64 (by omega) ?_ | refine yi_rem64 (by omega) ?_ | refine yi_mul64 (by omega) ?_ | refine yi_neg ?_ | refine yi_un_xor32 ?_ | refine yi_add ?_ | refine yi_sub ?_ | refine yi_mul ?_ | refine yi_quo (by decide) ?_ | refine yi_rem (by decide) ?_)
  refine act ?_
  refine (Version26 (h.below hdr) hok).mono ?_
  rintro _ w1 ⟨rfl, h1⟩
  have hb1 := below_then hdr h1
  refine ⟨_, hb1, fun _ h => h, ?_⟩
  (repeat with_reducible first | refine ynck ?_ | refine nck ?_ | refine cdT ?_ | refine cdF ?_ | refine gdY ?_ | refine gdFT ?_ | refine gdTF ?_ | refine gdU ?_ | refine gaY ?_ | refine gaFT ?_ | refine gaTF ?_ | refine pickT ?_ | refine pickF ?_ | refine yi_lss_t (by omega) ?_ | refine yi_lss_f (by omega) ?_ | refine yi_add64 (by omega) ?_ | refine yi_sub64 (by omega) ?_ | refine yi_eql_t (by omega) ?_ | refine yi_eql_f (by omega) ?_ | refine yi_neq_t (by omega) ?_ | refine yi_neq_f (by omega) ?_ | refine yi_gtr_t (by omega) ?_ | refine yi_gtr_f (by omega) ?_ | refine yi_leq_t (by omega) ?_ | refine yi_leq_f (by omega) ?_ | refine yi_geq_t (by omega) ?_ | refine yi_geq_f (by omega) ?_ | refine yi_xt0 ?_ | refine yi_xt1 ?_ | refine yi_xt2 ?_ | refine yi_xt3 ?_ | refine yi_T ?_ | refine yi_F ?_ | refine yi_not ?_ | refine yi_and ?_ | refine yi_or ?_ | refine yi_xor ?_ | refine yi_shr (by omega) (by decide) ?_ | refine yi_shl (by omega) (by decide) ?_ | refine yi_quo64 (by omega) ?_ | refine yi_rem64 (by omega) ?_ | refine yi_mul64 (by omega) ?_ | refine yi_neg ?_ | refine yi_un_xor32 ?_ | refine yi_add ?_ | refine yi_sub ?_ | refine yi_mul ?_ | refine yi_quo (by decide) ?_ | refine yi_rem (by decide) ?_)
  refine yi_neq_c (fun hn => ?_) (fun hn1 => ?_)
  · (repeat with_reducible first | refine ynck ?_ | refine nck ?_ | refine cdT ?_ | refine cdF ?_ | refine gdY ?_ | refine gdFT ?_ | refine gdTF ?_ | refine gdU ?_ | refine gaY ?_ | refine gaFT ?_ | refine gaTF ?_ | refine pickT ?_ | refine pickF ?_ | refine yi_lss_t (by omega) ?_ | refine yi_lss_f (by omega) ?_ | refine yi_add64 (by omega) ?_ | refine yi_sub64 (by omega) ?_ | refine yi_eql_t (by omega) ?_ | refine yi_eql_f (by omega) ?_ | refine yi_neq_t (by omega) ?_ | refine yi_neq_f (by omega) ?_ | refine yi_gtr_t (by omega) ?_ | refine yi_gtr_f (by omega) ?_ | refine yi_leq_t (by omega) ?_ | refine yi_leq_f (by omega) ?_ | refine yi_geq_t (by omega) ?_ | refine yi_geq_f (by omega) ?_ | refine yi_xt0 ?_ | refine yi_xt1 ?_ | refine yi_xt2 ?_ | refine yi_xt3 ?_ | refine yi_T ?_ | refine yi_F ?_ | refine yi_not ?_ | refine yi_and ?_ | refine yi_or ?_ | refine yi_xor ?_ | refine yi_shr (by omega) (by decide) ?_ | refine yi_shl (by omega) (by decide) ?_ | refine yi_quo64 (by omega) ?_ | refine yi_rem64 (by omega) ?_ | refine yi_mul64 (by omega) ?_ | refine yi_neg ?_ | refine yi_un_xor32 ?_ | refine yi_add ?_ | refine yi_sub ?_ | refine yi_mul ?_ | refine yi_quo (by decide) ?_ | refine yi_rem (by decide) ?_)
    (repeat with_reducible first | refine nck ?_ | refine cdT ?_ | refine cdF ?_ | refine gdY ?_ | refine gdFT ?_ | refine gdTF ?_ | refine gdU ?_ | refine gaY ?_ | refine gaFT ?_ | refine gaTF ?_ | refine pickT ?_ | refine pickF ?_ | refine bi_lss_t (by omega) ?_ | refine bi_lss_f (by omega) ?_ | refine bi_add64 (by omega) ?_ | refine bi_sub64 (by omega) ?_ | refine bi_eql_t (by omega) ?_ | refine bi_eql_f (by omega) ?_ | refine bi_neq_t (by omega) ?_ | refine bi_neq_f (by omega) ?_ | refine bi_gtr_t (by omega) ?_ | refine bi_gtr_f (by omega) ?_ | refine bi_leq_t (by omega) ?_ | refine bi_leq_f (by omega) ?_ | refine bi_geq_t (by omega) ?_ | refine bi_geq_f (by omega) ?_ | refine bi_xt0 ?_ | refine bi_xt1 ?_ | refine bi_xt2 ?_ | refine bi_xt3 ?_ | refine bi_T ?_ | refine bi_F ?_ | refine bi_not ?_ | refine bi_and ?_ | refine bi_or ?_ | refine bi_xor ?_ | refine bi_shr (by omega) (by decide) ?_ | refine bi_shl (by omega) (by decide) ?_ | refine bi_quo64 (by omega) ?_ | refine bi_rem64 (by omega) ?_ | refine bi_mul64 (by omega) ?_ | refine bi_neg ?_ | refine bi_un_xor32 ?_ | refine bi_add ?_ | refine bi_sub ?_ | refine bi_mul ?_ | refine bi_quo (by decide) ?_ | refine bi_rem (by decide) ?_)
    exact ⟨⟨false, rfl, ⟨fun e => (by cases e), fun e => absurd e.1 hn⟩⟩, hb1⟩
  (repeat with_reducible first | refine ynck ?_ | refine nck ?_ | refine cdT ?_ | refine cdF ?_ | refine gdY ?_ | refine gdFT ?_ | refine gdTF ?_ | refine gdU ?_ | refine gaY ?_ | refine gaFT ?_ | refine gaTF ?_ | refine pickT ?_ | refine pickF ?_ | refine yi_lss_t (by omega) ?_ | refine yi_lss_f (by omega) ?_ | refine yi_add64 (by omega) ?_ | refine yi_sub64 (by omega) ?_ | refine yi_eql_t (by omega) ?_ | refine yi_eql_f (by omega) ?_ | refine yi_neq_t (by omega) ?_ | refine yi_neq_f (by omega) ?_ | refine yi_gtr_t (by omega) ?_ | refine yi_gtr_f (by omega) ?_ | refine yi_leq_t (by omega) ?_ | refine yi_leq_f (by omega) ?_ | refine yi_geq_t (by omega) ?_ | refine yi_geq_f (by omega) ?_ | refine yi_xt0 ?_ | refine yi_xt1 ?_ | refine yi_xt2 ?_ | refine yi_xt3 ?_ | refine yi_T ?_ | refine yi_F ?_ | refine yi_not ?_ | refine yi_and ?_ | refine yi_or ?_ | refine yi_xor ?_ | refine yi_shr (by omega) (by decide) ?_ | refine yi_shl (by omega) (by decide) ?_ | refine yi_quo64 (by omega) ?_ | refine yi_rem64 (by omega) ?_ | refine yi_mul64 (by omega) ?_ | refine yi_neg ?_ | refine yi_un_xor32 ?_ | refine yi_add ?_ | refine yi_sub ?_ | refine yi_mul ?_ | refine yi_quo (by decide) ?_ | refine yi_rem (by decide) ?_)
  refine act ?_
  refine (There21 (h.below hb1) hok).mono ?_
  rintro v2 w2 ⟨L, hLe, hown2, h2⟩
  have hb2 := below_then hb1 h2
  refine ⟨_, hb2, fun _ h => h, ?_⟩
  (repeat with_reducible first | refine ynck ?_ | refine nck ?_ | refine cdT ?_ | refine cdF ?_ | refine gdY ?_ | refine gdFT ?_ | refine gdTF ?_ | refine gdU ?_ | refine gaY ?_ | refine gaFT ?_ | refine gaTF ?_ | refine pickT ?_ | refine pickF ?_ | refine yi_lss_t (by omega) ?_ | refine yi_lss_f (by omega) ?_ | refine yi_add64 (by omega) ?_ | refine yi_sub64 (by omega) ?_ | refine yi_eql_t (by omega) ?_ | refine yi_eql_f (by omega) ?_ | refine yi_neq_t (by omega) ?_ | refine yi_neq_f (by omega) ?_ | refine yi_gtr_t (by omega) ?_ | refine yi_gtr_f (by omega) ?_ | refine yi_leq_t (by omega) ?_ | refine yi_leq_f (by omega) ?_ | refine yi_geq_t (by omega) ?_ | refine yi_geq_f (by omega) ?_ | refine yi_xt0 ?_ | refine yi_xt1 ?_ | refine yi_xt2 ?_ | refine yi_xt3 ?_ | refine yi_T ?_ | refine yi_F ?_ | refine yi_not ?_ | refine yi_and ?_ | refine yi_or ?_ | refine yi_xor ?_ | refine yi_shr (by omega) (by decide) ?_ | refine yi_shl (by omega) (by decide) ?_ | refine yi_quo64 (by omega) ?_ | refine yi_rem64 (by omega) ?_ | refine yi_mul64 (by omega) ?_ | refine yi_neg ?_ | refine yi_un_xor32 ?_ | refine yi_add ?_ | refine yi_sub ?_ | refine yi_mul ?_ | refine yi_quo (by decide) ?_ | refine yi_rem (by decide) ?_)
  refine act ?_
  refine (refThere39 (h'.below hb2) hM6 hMs).mono ?_
  rintro v3 w3 ⟨L', hLe', hown3, h3⟩
  have hb3 := below_then hb2 h3
  refine ⟨_, hb3, fun _ h => h, ?_⟩
  (repeat with_reducible first | refine ynck ?_ | refine nck ?_ | refine cdT ?_ | refine cdF ?_ | refine gdY ?_ | refine gdFT ?_ | refine gdTF ?_ | refine gdU ?_ | refine gaY ?_ | refine gaFT ?_ | refine gaTF ?_ | refine pickT ?_ | refine pickF ?_ | refine yi_lss_t (by omega) ?_ | refine yi_lss_f (by omega) ?_ | refine yi_add64 (by omega) ?_ | refine yi_sub64 (by omega) ?_ | refine yi_eql_t (by omega) ?_ | refine yi_eql_f (by omega) ?_ | refine yi_neq_t (by omega) ?_ | refine yi_neq_f (by omega) ?_ | refine yi_gtr_t (by omega) ?_ | refine yi_gtr_f (by omega) ?_ | refine yi_leq_t (by omega) ?_ | refine yi_leq_f (by omega) ?_ | refine yi_geq_t (by omega) ?_ | refine yi_geq_f (by omega) ?_ | refine yi_xt0 ?_ | refine yi_xt1 ?_ | refine yi_xt2 ?_ | refine yi_xt3 ?_ | refine yi_T ?_ | refine yi_F ?_ | refine yi_not ?_ | refine yi_and ?_ | refine yi_or ?_ | refine yi_xor ?_ | refine yi_shr (by omega) (by decide) ?_ | refine yi_shl (by omega) (by decide) ?_ | refine yi_quo64 (by omega) ?_ | refine yi_rem64 (by omega) ?_ | refine yi_mul64 (by omega) ?_ | refine yi_neg ?_ | refine yi_un_xor32 ?_ | refine yi_add ?_ | refine yi_sub ?_ | refine yi_mul ?_ | refine yi_quo (by decide) ?_ | refine yi_rem (by decide) ?_)
  refine act ?_
  refine (sameIndexes38 v2 v3 _ _ w3 (hown2.kept h3).rd hown3.rd).mono ?_
  rintro _ w4 ⟨rfl, h4⟩
  rw [hLe, hLe']
  have hb4 := below_then hb3 h4
  refine ⟨_, hb4, fun _ h => h, ?_⟩
  rcases Classical.em (thV V = thV M) with ht | ht
  rotate_left
  · rw [decide_eq_false ht]
    (repeat with_reducible first | refine ynck ?_ | refine nck ?_ | refine cdT ?_ | refine cdF ?_ | refine gdY ?_ | refine gdFT ?_ | refine gdTF ?_ | refine gdU ?_ | refine gaY ?_ | refine gaFT ?_ | refine gaTF ?_ | refine pickT ?_ | refine pickF ?_ | refine yi_lss_t (by omega) ?_ | refine yi_lss_f (by omega) ?_ | refine yi_add64 (by omega) ?_ | refine yi_sub64 (by omega) ?_ | refine yi_eql_t (by omega) ?_ | refine yi_eql_f (by omega) ?_ | refine yi_neq_t (by omega) ?_ | refine yi_neq_f (by omega) ?_ | refine yi_gtr_t (by omega) ?_ | refine yi_gtr_f (by omega) ?_ | refine yi_leq_t (by omega) ?_ | refine yi_leq_f (by omega) ?_ | refine yi_geq_t (by omega) ?_ | refine yi_geq_f (by omega) ?_ | refine yi_xt0 ?_ | refine yi_xt1 ?_ | refine yi_xt2 ?_ | refine yi_xt3 ?_ | refine yi_T ?_ | refine yi_F ?_ | refine yi_not ?_ | refine yi_and ?_ | refine yi_or ?_ | refine yi_xor ?_ | refine yi_shr (by omega) (by decide) ?_ | refine yi_shl (by omega) (by decide) ?_ | refine yi_quo64 (by omega) ?_ | refine yi_rem64 (by omega) ?_ | refine yi_mul64 (by omega) ?_ | refine yi_neg ?_ | refine yi_un_xor32 ?_ | refine yi_add ?_ | refine yi_sub ?_ | refine yi_mul ?_ | refine yi_quo (by decide) ?_ | refine yi_rem (by decide) ?_)
    (repeat with_reducible first | refine nck ?_ | refine cdT ?_ | refine cdF ?_ | refine gdY ?_ | refine gdFT ?_ | refine gdTF ?_ | refine gdU ?_ | refine gaY ?_ | refine gaFT ?_ | refine gaTF ?_ | refine pickT ?_ | refine pickF ?_ | refine bi_lss_t (by omega) ?_ | refine bi_lss_f (by omega) ?_ | refine bi_add64 (by omega) ?_ | refine bi_sub64 (by omega) ?_ | refine bi_eql_t (by omega) ?_ | refine bi_eql_f (by omega) ?_ | refine bi_neq_t (by omega) ?_ | refine bi_neq_f (by omega) ?_ | refine bi_gtr_t (by omega) ?_ | refine bi_gtr_f (by omega) ?_ | refine bi_leq_t (by omega) ?_ | refine bi_leq_f (by omega) ?_ | refine bi_geq_t (by omega) ?_ | refine bi_geq_f (by omega) ?_ | refine bi_xt0 ?_ | refine bi_xt1 ?_ | refine bi_xt2 ?_ | refine bi_xt3 ?_ | refine bi_T ?_ | refine bi_F ?_ | refine bi_not ?_ | refine bi_and ?_ | refine bi_or ?_ | refine bi_xor ?_ | refine bi_shr (by omega) (by decide) ?_ | refine bi_shl (by omega) (by decide) ?_ | refine bi_quo64 (by omega) ?_ | refine bi_rem64 (by omega) ?_ | refine bi_mul64 (by omega) ?_ | refine bi_neg ?_ | refine bi_un_xor32 ?_ | refine bi_add ?_ | refine bi_sub ?_ | refine bi_mul ?_ | refine bi_quo (by decide) ?_ | refine bi_rem (by decide) ?_)
    exact ⟨⟨false, rfl, ⟨fun e => (by cases e), fun e => absurd e.2.1 ht⟩⟩, hb4⟩
  rw [decide_eq_true ht]
  (repeat with_reducible first | refine ynck ?_ | refine nck ?_ | refine cdT ?_ | refine cdF ?_ | refine gdY ?_ | refine gdFT ?_ | refine gdTF ?_ | refine gdU ?_ | refine gaY ?_ | refine gaFT ?_ | refine gaTF ?_ | refine pickT ?_ | refine pickF ?_ | refine yi_lss_t (by omega) ?_ | refine yi_lss_f (by omega) ?_ | refine yi_add64 (by omega) ?_ | refine yi_sub64 (by omega) ?_ | refine yi_eql_t (by omega) ?_ | refine yi_eql_f (by omega) ?_ | refine yi_neq_t (by omega) ?_ | refine yi_neq_f (by omega) ?_ | refine yi_gtr_t (by omega) ?_ | refine yi_gtr_f (by omega) ?_ | refine yi_leq_t (by omega) ?_ | refine yi_leq_f (by omega) ?_ | refine yi_geq_t (by omega) ?_ | refine yi_geq_f (by omega) ?_ | refine yi_xt0 ?_ | refine yi_xt1 ?_ | refine yi_xt2 ?_ | refine yi_xt3 ?_ | refine yi_T ?_ | refine yi_F ?_ | refine yi_not ?_ | refine yi_and ?_ | refine yi_or ?_ | refine yi_xor ?_ | refine yi_shr (by omega) (by decide) ?_ | refine yi_shl (by omega) (by decide) ?_ | refine yi_quo64 (by omega) ?_ | refine yi_rem64 (by omega) ?_ | refine yi_mul64 (by omega) ?_ | refine yi_neg ?_ | refine yi_un_xor32 ?_ | refine yi_add ?_ | refine yi_sub ?_ | refine yi_mul ?_ | refine yi_quo (by decide) ?_ | refine yi_rem (by decide) ?_)
  refine act ?_
  refine (Gone22 (h.below hb4) hok).mono ?_
  rintro v5 w5 ⟨ho5, _, h5⟩
  have hb5 := below_then hb4 h5
  refine ⟨_, hb5, fun _ h => h, ?_⟩
  (repeat with_reducible first | refine ynck ?_ | refine nck ?_ | refine cdT ?_ | refine cdF ?_ | refine gdY ?_ | refine gdFT ?_ | refine gdTF ?_ | refine gdU ?_ | refine gaY ?_ | refine gaFT ?_ | refine gaTF ?_ | refine pickT ?_ | refine pickF ?_ | refine yi_lss_t (by omega) ?_ | refine yi_lss_f (by omega) ?_ | refine yi_add64 (by omega) ?_ | refine yi_sub64 (by omega) ?_ | refine yi_eql_t (by omega) ?_ | refine yi_eql_f (by omega) ?_ | refine yi_neq_t (by omega) ?_ | refine yi_neq_f (by omega) ?_ | refine yi_gtr_t (by omega) ?_ | refine yi_gtr_f (by omega) ?_ | refine yi_leq_t (by omega) ?_ | refine yi_leq_f (by omega) ?_ | refine yi_geq_t (by omega) ?_ | refine yi_geq_f (by omega) ?_ | refine yi_xt0 ?_ | refine yi_xt1 ?_ | refine yi_xt2 ?_ | refine yi_xt3 ?_ | refine yi_T ?_ | refine yi_F ?_ | refine yi_not ?_ | refine yi_and ?_ | refine yi_or ?_ | refine yi_xor ?_ | refine yi_shr (by omega) (by decide) ?_ | refine yi_shl (by omega) (by decide) ?_ | refine yi_quo64 (by omega) ?_ | refine yi_rem64 (by omega) ?_ | refine yi_mul64 (by omega) ?_ | refine yi_neg ?_ | refine yi_un_xor32 ?_ | refine yi_add ?_ | refine yi_sub ?_ | refine yi_mul ?_ | refine yi_quo (by decide) ?_ | refine yi_rem (by decide) ?_)
  refine act ?_
  refine (refGone41 (h'.below hb5) hM6).mono ?_
  rintro v6 w6 ⟨ho6, _, h6⟩
  have hb6 := below_then hb5 h6
  refine ⟨_, hb6, fun _ h => h, ?_⟩
  (repeat with_reducible first | refine ynck ?_ | refine nck ?_ | refine cdT ?_ | refine cdF ?_ | refine gdY ?_ | refine gdFT ?_ | refine gdTF ?_ | refine gdU ?_ | refine gaY ?_ | refine gaFT ?_ | refine gaTF ?_ | refine pickT ?_ | refine pickF ?_ | refine yi_lss_t (by omega) ?_ | refine yi_lss_f (by omega) ?_ | refine yi_add64 (by omega) ?_ | refine yi_sub64 (by omega) ?_ | refine yi_eql_t (by omega) ?_ | refine yi_eql_f (by omega) ?_ | refine yi_neq_t (by omega) ?_ | refine yi_neq_f (by omega) ?_ | refine yi_gtr_t (by omega) ?_ | refine yi_gtr_f (by omega) ?_ | refine yi_leq_t (by omega) ?_ | refine yi_leq_f (by omega) ?_ | refine yi_geq_t (by omega) ?_ | refine yi_geq_f (by omega) ?_ | refine yi_xt0 ?_ | refine yi_xt1 ?_ | refine yi_xt2 ?_ | refine yi_xt3 ?_ | refine yi_T ?_ | refine yi_F ?_ | refine yi_not ?_ | refine yi_and ?_ | refine yi_or ?_ | refine yi_xor ?_ | refine yi_shr (by omega) (by decide) ?_ | refine yi_shl (by omega) (by decide) ?_ | refine yi_quo64 (by omega) ?_ | refine yi_rem64 (by omega) ?_ | refine yi_mul64 (by omega) ?_ | refine yi_neg ?_ | refine yi_un_xor32 ?_ | refine yi_add ?_ | refine yi_sub ?_ | refine yi_mul ?_ | refine yi_quo (by decide) ?_ | refine yi_rem (by decide) ?_)
  refine act ?_
  refine (sameInts40 v5 v6 _ _ w6 (ho5.below h6).rd ho6.rd).mono ?_
  rintro _ w7 ⟨rfl, h7⟩
  have hb7 := below_then hb6 h7
  refine ⟨_, hb7, fun _ h => h, ?_⟩
  rcases Classical.em (goV V = goV M) with hgo | hgo
  rotate_left
  · rw [decide_eq_false hgo]
    (repeat with_reducible first | refine ynck ?_ | refine nck ?_ | refine cdT ?_ | refine cdF ?_ | refine gdY ?_ | refine gdFT ?_ | refine gdTF ?_ | refine gdU ?_ | refine gaY ?_ | refine gaFT ?_ | refine gaTF ?_ | refine pickT ?_ | refine pickF ?_ | refine yi_lss_t (by omega) ?_ | refine yi_lss_f (by omega) ?_ | refine yi_add64 (by omega) ?_ | refine yi_sub64 (by omega) ?_ | refine yi_eql_t (by omega) ?_ | refine yi_eql_f (by omega) ?_ | refine yi_neq_t (by omega) ?_ | refine yi_neq_f (by omega) ?_ | refine yi_gtr_t (by omega) ?_ | refine yi_gtr_f (by omega) ?_ | refine yi_leq_t (by omega) ?_ | refine yi_leq_f (by omega) ?_ | refine yi_geq_t (by omega) ?_ | refine yi_geq_f (by omega) ?_ | refine yi_xt0 ?_ | refine yi_xt1 ?_ | refine yi_xt2 ?_ | refine yi_xt3 ?_ | refine yi_T ?_ | refine yi_F ?_ | refine yi_not ?_ | refine yi_and ?_ | refine yi_or ?_ | refine yi_xor ?_ | refine yi_shr (by omega) (by decide) ?_ | refine yi_shl (by omega) (by decide) ?_ | refine yi_quo64 (by omega) ?_ | refine yi_rem64 (by omega) ?_ | refine yi_mul64 (by omega) ?_ | refine yi_neg ?_ | refine yi_un_xor32 ?_ | refine yi_add ?_ | refine yi_sub ?_ | refine yi_mul ?_ | refine yi_quo (by decide) ?_ | refine yi_rem (by decide) ?_)
    (repeat with_reducible first | refine nck ?_ | refine cdT ?_ | refine cdF ?_ | refine gdY ?_ | refine gdFT ?_ | refine gdTF ?_ | refine gdU ?_ | refine gaY ?_ | refine gaFT ?_ | refine gaTF ?_ | refine pickT ?_ | refine pickF ?_ | refine bi_lss_t (by omega) ?_ | refine bi_lss_f (by omega) ?_ | refine bi_add64 (by omega) ?_ | refine bi_sub64 (by omega) ?_ | refine bi_eql_t (by omega) ?_ | refine bi_eql_f (by omega) ?_ | refine bi_neq_t (by omega) ?_ | refine bi_neq_f (by omega) ?_ | refine bi_gtr_t (by omega) ?_ | refine bi_gtr_f (by omega) ?_ | refine bi_leq_t (by omega) ?_ | refine bi_leq_f (by omega) ?_ | refine bi_geq_t (by omega) ?_ | refine bi_geq_f (by omega) ?_ | refine bi_xt0 ?_ | refine bi_xt1 ?_ | refine bi_xt2 ?_ | refine bi_xt3 ?_ | refine bi_T ?_ | refine bi_F ?_ | refine bi_not ?_ | refine bi_and ?_ | refine bi_or ?_ | refine bi_xor ?_ | refine bi_shr (by omega) (by decide) ?_ | refine bi_shl (by omega) (by decide) ?_ | refine bi_quo64 (by omega) ?_ | refine bi_rem64 (by omega) ?_ | refine bi_mul64 (by omega) ?_ | refine bi_neg ?_ | refine bi_un_xor32 ?_ | refine bi_add ?_ | refine bi_sub ?_ | refine bi_mul ?_ | refine bi_quo (by decide) ?_ | refine bi_rem (by decide) ?_)
    exact ⟨⟨false, rfl, ⟨fun e => (by cases e), fun e => absurd e.2.2.1 hgo⟩⟩, hb7⟩
  rw [decide_eq_true hgo]
  (repeat with_reducible first | refine ynck ?_ | refine nck ?_ | refine cdT ?_ | refine cdF ?_ | refine gdY ?_ | refine gdFT ?_ | refine gdTF ?_ | refine gdU ?_ | refine gaY ?_ | refine gaFT ?_ | refine gaTF ?_ | refine pickT ?_ | refine pickF ?_ | refine yi_lss_t (by omega) ?_ | refine yi_lss_f (by omega) ?_ | refine yi_add64 (by omega) ?_ | refine yi_sub64 (by omega) ?_ | refine yi_eql_t (by omega) ?_ | refine yi_eql_f (by omega) ?_ | refine yi_neq_t (by omega) ?_ | refine yi_neq_f (by omega) ?_ | refine yi_gtr_t (by omega) ?_ | refine yi_gtr_f (by omega) ?_ | refine yi_leq_t (by omega) ?_ | refine yi_leq_f (by omega) ?_ | refine yi_geq_t (by omega) ?_ | refine yi_geq_f (by omega) ?_ | refine yi_xt0 ?_ | refine yi_xt1 ?_ | refine yi_xt2 ?_ | refine yi_xt3 ?_ | refine yi_T ?_ | refine yi_F ?_ | refine yi_not ?_ | refine yi_and ?_ | refine yi_or ?_ | refine yi_xor ?_ | refine yi_shr (by omega) (by decide) ?_ | refine yi_shl (by omega) (by decide) ?_ | refine yi_quo64 (by omega) ?_ | refine yi_rem64 (by omega) ?_ | refine yi_mul64 (by omega) ?_ | refine yi_neg ?_ | refine yi_un_xor32 ?_ | refine yi_add ?_ | refine yi_sub ?_ | refine yi_mul ?_ | refine yi_quo (by decide) ?_ | refine yi_rem (by decide) ?_)
  (repeat with_reducible first | refine nck ?_ | refine cdT ?_ | refine cdF ?_ | refine gdY ?_ | refine gdFT ?_ | refine gdTF ?_ | refine gdU ?_ | refine gaY ?_ | refine gaFT ?_ | refine gaTF ?_ | refine pickT ?_ | refine pickF ?_ | refine bi_lss_t (by omega) ?_ | refine bi_lss_f (by omega) ?_ | refine bi_add64 (by omega) ?_ | refine bi_sub64 (by omega) ?_ | refine bi_eql_t (by omega) ?_ | refine bi_eql_f (by omega) ?_ | refine bi_neq_t (by omega) ?_ | refine bi_neq_f (by omega) ?_ | refine bi_gtr_t (by omega) ?_ | refine bi_gtr_f (by omega) ?_ | refine bi_leq_t (by omega) ?_ | refine bi_leq_f (by omega) ?_ | refine bi_geq_t (by omega) ?_ | refine bi_geq_f (by omega) ?_ | refine bi_xt0 ?_ | refine bi_xt1 ?_ | refine bi_xt2 ?_ | refine bi_xt3 ?_ | refine bi_T ?_ | refine bi_F ?_ | refine bi_not ?_ | refine bi_and ?_ | refine bi_or ?_ | refine bi_xor ?_ | refine bi_shr (by omega) (by decide) ?_ | refine bi_shl (by omega) (by decide) ?_ | refine bi_quo64 (by omega) ?_ | refine bi_rem64 (by omega) ?_ | refine bi_mul64 (by omega) ?_ | refine bi_neg ?_ | refine bi_un_xor32 ?_ | refine bi_add ?_ | refine bi_sub ?_ | refine bi_mul ?_ | refine bi_quo (by decide) ?_ | refine bi_rem (by decide) ?_)
  refine LoopP.inv1 (fun iv w' => ∃ j : Int, iv = .int .i64 j ∧ -1 ≤ j ∧ j ≤ 9 ∧ (∀ id, -1 ≤ id → id < j → sameAt V M id) ∧ Below w.heap.size w w') (fun iv _ => (9 - intOf iv).toNat) ⟨-1, rfl, by omega, by omega, fun id h1 h2 => by omega, hb7⟩ ?_
  clear ho6 ho5 hown2 hown3 hb7 h7
  rintro _ w8 ⟨j, rfl, hj0, hj9, hall, hb8⟩ J hJ
  dsimp only [List.headD_cons, List.tail_cons]
  refine bi_lss_c (fun hlt => ?_) (fun hlt => ?_)
  rotate_left
  · (repeat with_reducible first | refine nck ?_ | refine cdT ?_ | refine cdF ?_ | refine gdY ?_ | refine gdFT ?_ | refine gdTF ?_ | refine gdU ?_ | refine gaY ?_ | refine gaFT ?_ | refine gaTF ?_ | refine pickT ?_ | refine pickF ?_ | refine bi_lss_t (by omega) ?_ | refine bi_lss_f (by omega) ?_ | refine bi_add64 (by omega) ?_ | refine bi_sub64 (by omega) ?_ | refine bi_eql_t (by omega) ?_ | refine bi_eql_f (by omega) ?_ | refine bi_neq_t (by omega) ?_ | refine bi_neq_f (by omega) ?_ | refine bi_gtr_t (by omega) ?_ | refine bi_gtr_f (by omega) ?_ | refine bi_leq_t (by omega) ?_ | refine bi_leq_f (by omega) ?_ | refine bi_geq_t (by omega) ?_ | refine bi_geq_f (by omega) ?_ | refine bi_xt0 ?_ | refine bi_xt1 ?_ | refine bi_xt2 ?_ | refine bi_xt3 ?_ | refine bi_T ?_ | refine bi_F ?_ | refine bi_not ?_ | refine bi_and ?_ | refine bi_or ?_ | refine bi_xor ?_ | refine bi_shr (by omega) (by decide) ?_ | refine bi_shl (by omega) (by decide) ?_ | refine bi_quo64 (by omega) ?_ | refine bi_rem64 (by omega) ?_ | refine bi_mul64 (by omega) ?_ | refine bi_neg ?_ | refine bi_un_xor32 ?_ | refine bi_add ?_ | refine bi_sub ?_ | refine bi_mul ?_ | refine bi_quo (by decide) ?_ | refine bi_rem (by decide) ?_)
    exact ⟨⟨true, rfl, ⟨fun _ => ⟨by omega, ht, hgo, fun id h1 h2 => hall id h1 (by omega)⟩, fun _ => rfl⟩⟩, hb8⟩
  (repeat with_reducible first | refine nck ?_ | refine cdT ?_ | refine cdF ?_ | refine gdY ?_ | refine gdFT ?_ | refine gdTF ?_ | refine gdU ?_ | refine gaY ?_ | refine gaFT ?_ | refine gaTF ?_ | refine pickT ?_ | refine pickF ?_ | refine bi_lss_t (by omega) ?_ | refine bi_lss_f (by omega) ?_ | refine bi_add64 (by omega) ?_ | refine bi_sub64 (by omega) ?_ | refine bi_eql_t (by omega) ?_ | refine bi_eql_f (by omega) ?_ | refine bi_neq_t (by omega) ?_ | refine bi_neq_f (by omega) ?_ | refine bi_gtr_t (by omega) ?_ | refine bi_gtr_f (by omega) ?_ | refine bi_leq_t (by omega) ?_ | refine bi_leq_f (by omega) ?_ | refine bi_geq_t (by omega) ?_ | refine bi_geq_f (by omega) ?_ | refine bi_xt0 ?_ | refine bi_xt1 ?_ | refine bi_xt2 ?_ | refine bi_xt3 ?_ | refine bi_T ?_ | refine bi_F ?_ | refine bi_not ?_ | refine bi_and ?_ | refine bi_or ?_ | refine bi_xor ?_ | refine bi_shr (by omega) (by decide) ?_ | refine bi_shl (by omega) (by decide) ?_ | refine bi_quo64 (by omega) ?_ | refine bi_rem64 (by omega) ?_ | refine bi_mul64 (by omega) ?_ | refine bi_neg ?_ | refine bi_un_xor32 ?_ | refine bi_add ?_ | refine bi_sub ?_ | refine bi_mul ?_ | refine bi_quo (by decide) ?_ | refine bi_rem (by decide) ?_)
  have bad : ¬ sameAt V M j → ∀ w', Below w.heap.size w w' → (∃ b, Value.bool false = .bool b ∧ (b = true ↔ sameP V M vn)) ∧ Below w.heap.size w w' := fun hs w' hb => ⟨⟨false, rfl, ⟨fun e => (by cases e), fun e => absurd (e.2.2.2 j hj0 hlt) hs⟩⟩, hb⟩
  have next : sameAt V M j → ∀ w', Below w.heap.size w w' → J [.int .i64 (j + 1)] w' := fun hs w' hb => hJ _ _ ⟨j + 1, rfl, by omega, by omega, fun id h1 h2 => by
    rcases Int.lt_or_le id j with h | h
    · exact hall id h1 h
    · have : id = j := by omega
      rw [this]; exact hs, hb⟩ (by simp only [intOf]; omega)
  refine (Index19 j (by omega) (h.below hb8) hok).mono ?_
  rintro r w9 ⟨hr, h9⟩
  have hb9 := below_then hb8 h9
  have hst13 : stV V j = 1 ∨ stV V j = 2 ↔ (ixV V j).isSome = true := by
    constructor
    · intro e
      obtain ⟨q1, q2⟩ := stV_in (V := V) (id := j) (by omega)
      have q3 := ixV_in (V := V) (k := (j - 1).toNat) (by omega) (id := j) (by omega)
      rw [stV_at q1 q2] at e
      rw [q3, if_pos e]; rfl
    · intro e
      unfold ixV at e
      split at e
      · rename_i q; exact q
      · cases e
  -- the answer of Index, put into a box
  have step : ∀ (cells : Array Value) (b : Bool), r = .tuple #[.agg cells, .bool b] → cells.size = 2 → cells.all (·.oneCell') = true → b = (ixV V j).isSome → True := fun _ _ _ _ _ _ => trivial
  cases hix : ixV V j with
  | none =>
    rw [hix] at hr hst13
    replace hr : r = _ := hr
    subst hr
    have hns : ¬ (stV V j = 1 ∨ stV V j = 2) := fun e => by have := hst13.1 e; cases this
    (repeat with_reducible first | refine nck ?_ | refine cdT ?_ | refine cdF ?_ | refine gdY ?_ | refine gdFT ?_ | refine gdTF ?_ | refine gdU ?_ | refine gaY ?_ | refine gaFT ?_ | refine gaTF ?_ | refine pickT ?_ | refine pickF ?_ | refine bi_lss_t (by omega) ?_ | refine bi_lss_f (by omega) ?_ | refine bi_add64 (by omega) ?_ | refine bi_sub64 (by omega) ?_ | refine bi_eql_t (by omega) ?_ | refine bi_eql_f (by omega) ?_ | refine bi_neq_t (by omega) ?_ | refine bi_neq_f (by omega) ?_ | refine bi_gtr_t (by omega) ?_ | refine bi_gtr_f (by omega) ?_ | refine bi_leq_t (by omega) ?_ | refine bi_leq_f (by omega) ?_ | refine bi_geq_t (by omega) ?_ | refine bi_geq_f (by omega) ?_ | refine bi_xt0 ?_ | refine bi_xt1 ?_ | refine bi_xt2 ?_ | refine bi_xt3 ?_ | refine bi_T ?_ | refine bi_F ?_ | refine bi_not ?_ | refine bi_and ?_ | refine bi_or ?_ | refine bi_xor ?_ | refine bi_shr (by omega) (by decide) ?_ | refine bi_shl (by omega) (by decide) ?_ | refine bi_quo64 (by omega) ?_ | refine bi_rem64 (by omega) ?_ | refine bi_mul64 (by omega) ?_ | refine bi_neg ?_ | refine bi_un_xor32 ?_ | refine bi_add ?_ | refine bi_sub ?_ | refine bi_mul ?_ | refine bi_quo (by decide) ?_ | refine bi_rem (by decide) ?_)
    refine alB zX ?_
    intro gx wa hgx hBa ha
    refine stB (cells := #[.int .i64 0, .slice none 0 0]) hBa szX rfl (by simp [Value.oneCell']) ?_
    intro wb hBb hTb
    have hb : Below w9.heap.size w9 wb := below_own ha hTb (by omega)
    have hbb := below_then hb9 hb
    refine (refState35 j (h'.below hbb) (by omega)).mono ?_
    rintro _ _ ⟨rfl, rfl⟩
    refine JoinP.cut (fun xs w' => (∃ b, xs = [.bool b] ∧ (b = false ↔ sameAt V M j)) ∧ Below w.heap.size w w') (fun J2 hJ2 => ?_) (fun xs w' hI => ?_)
    rotate_left
    · obtain ⟨⟨b, rfl, hb2⟩, hbw⟩ := hI
      dsimp only [List.headD_cons, List.tail_cons]
      cases b with
      | true =>
        (repeat with_reducible first | refine nck ?_ | refine cdT ?_ | refine cdF ?_ | refine gdY ?_ | refine gdFT ?_ | refine gdTF ?_ | refine gdU ?_ | refine gaY ?_ | refine gaFT ?_ | refine gaTF ?_ | refine pickT ?_ | refine pickF ?_ | refine bi_lss_t (by omega) ?_ | refine bi_lss_f (by omega) ?_ | refine bi_add64 (by omega) ?_ | refine bi_sub64 (by omega) ?_ | refine bi_eql_t (by omega) ?_ | refine bi_eql_f (by omega) ?_ | refine bi_neq_t (by omega) ?_ | refine bi_neq_f (by omega) ?_ | refine bi_gtr_t (by omega) ?_ | refine bi_gtr_f (by omega) ?_ | refine bi_leq_t (by omega) ?_ | refine bi_leq_f (by omega) ?_ | refine bi_geq_t (by omega) ?_ | refine bi_geq_f (by omega) ?_ | refine bi_xt0 ?_ | refine bi_xt1 ?_ | refine bi_xt2 ?_ | refine bi_xt3 ?_ | refine bi_T ?_ | refine bi_F ?_ | refine bi_not ?_ | refine bi_and ?_ | refine bi_or ?_ | refine bi_xor ?_ | refine bi_shr (by omega) (by decide) ?_ | refine bi_shl (by omega) (by decide) ?_ | refine bi_quo64 (by omega) ?_ | refine bi_rem64 (by omega) ?_ | refine bi_mul64 (by omega) ?_ | refine bi_neg ?_ | refine bi_un_xor32 ?_ | refine bi_add ?_ | refine bi_sub ?_ | refine bi_mul ?_ | refine bi_quo (by decide) ?_ | refine bi_rem (by decide) ?_)
        exact bad (fun e => by have := hb2.2 e; cases this) _ hbw
      | false =>
        (repeat with_reducible first | refine nck ?_ | refine cdT ?_ | refine cdF ?_ | refine gdY ?_ | refine gdFT ?_ | refine gdTF ?_ | refine gdU ?_ | refine gaY ?_ | refine gaFT ?_ | refine gaTF ?_ | refine pickT ?_ | refine pickF ?_ | refine bi_lss_t (by omega) ?_ | refine bi_lss_f (by omega) ?_ | refine bi_add64 (by omega) ?_ | refine bi_sub64 (by omega) ?_ | refine bi_eql_t (by omega) ?_ | refine bi_eql_f (by omega) ?_ | refine bi_neq_t (by omega) ?_ | refine bi_neq_f (by omega) ?_ | refine bi_gtr_t (by omega) ?_ | refine bi_gtr_f (by omega) ?_ | refine bi_leq_t (by omega) ?_ | refine bi_leq_f (by omega) ?_ | refine bi_geq_t (by omega) ?_ | refine bi_geq_f (by omega) ?_ | refine bi_xt0 ?_ | refine bi_xt1 ?_ | refine bi_xt2 ?_ | refine bi_xt3 ?_ | refine bi_T ?_ | refine bi_F ?_ | refine bi_not ?_ | refine bi_and ?_ | refine bi_or ?_ | refine bi_xor ?_ | refine bi_shr (by omega) (by decide) ?_ | refine bi_shl (by omega) (by decide) ?_ | refine bi_quo64 (by omega) ?_ | refine bi_rem64 (by omega) ?_ | refine bi_mul64 (by omega) ?_ | refine bi_neg ?_ | refine bi_un_xor32 ?_ | refine bi_add ?_ | refine bi_sub ?_ | refine bi_mul ?_ | refine bi_quo (by decide) ?_ | refine bi_rem (by decide) ?_)
        exact next (hb2.1 rfl) _ hbw
    have hdr2 : Below wb.heap.size wb wb.drew := (Below.refl _ _).drew
    have hbd := below_then hbb hdr2
    refine draw (Below w.heap.size w) hbd ?_
    generalize wb.drew = wd at *
    refine act ?_
    refine (State13 j (by omega) (h.below hbd) hok).mono ?_
    rintro _ we ⟨rfl, he⟩
    have hbe := below_then hbd he
    refine ⟨_, hbe, fun _ h => h, ?_⟩
    refine yi_neq_c (fun hne => ?_) (fun heq => ?_)
    · (repeat with_reducible first | refine gaU ?_ | refine ynck ?_ | refine nck ?_ | refine cdT ?_ | refine cdF ?_ | refine gdY ?_ | refine gdFT ?_ | refine gdTF ?_ | refine gdU ?_ | refine gaY ?_ | refine gaFT ?_ | refine gaTF ?_ | refine pickT ?_ | refine pickF ?_ | refine yi_lss_t (by omega) ?_ | refine yi_lss_f (by omega) ?_ | refine yi_add64 (by omega) ?_ | refine yi_sub64 (by omega) ?_ | refine yi_eql_t (by omega) ?_ | refine yi_eql_f (by omega) ?_ | refine yi_neq_t (by omega) ?_ | refine yi_neq_f (by omega) ?_ | refine yi_gtr_t (by omega) ?_ | refine yi_gtr_f (by omega) ?_ | refine yi_leq_t (by omega) ?_ | refine yi_leq_f (by omega) ?_ | refine yi_geq_t (by omega) ?_ | refine yi_geq_f (by omega) ?_ | refine yi_xt0 ?_ | refine yi_xt1 ?_ | refine yi_xt2 ?_ | refine yi_xt3 ?_ | refine yi_T ?_ | refine yi_F ?_ | refine yi_not ?_ | refine yi_and ?_ | refine yi_or ?_ | refine yi_xor ?_ | refine yi_shr (by omega) (by decide) ?_ | refine yi_shl (by omega) (by decide) ?_ | refine yi_quo64 (by omega) ?_ | refine yi_rem64 (by omega) ?_ | refine yi_mul64 (by omega) ?_ | refine yi_neg ?_ | refine yi_un_xor32 ?_ | refine yi_add ?_ | refine yi_sub ?_ | refine yi_mul ?_ | refine yi_quo (by decide) ?_ | refine yi_rem (by decide) ?_)
      refine ⟨?_, ⟨?_, trivial⟩⟩
      all_goals
        (repeat with_reducible first | refine gaU ?_ | refine ynck ?_ | refine nck ?_ | refine cdT ?_ | refine cdF ?_ | refine gdY ?_ | refine gdFT ?_ | refine gdTF ?_ | refine gdU ?_ | refine gaY ?_ | refine gaFT ?_ | refine gaTF ?_ | refine pickT ?_ | refine pickF ?_ | refine yi_lss_t (by omega) ?_ | refine yi_lss_f (by omega) ?_ | refine yi_add64 (by omega) ?_ | refine yi_sub64 (by omega) ?_ | refine yi_eql_t (by omega) ?_ | refine yi_eql_f (by omega) ?_ | refine yi_neq_t (by omega) ?_ | refine yi_neq_f (by omega) ?_ | refine yi_gtr_t (by omega) ?_ | refine yi_gtr_f (by omega) ?_ | refine yi_leq_t (by omega) ?_ | refine yi_leq_f (by omega) ?_ | refine yi_geq_t (by omega) ?_ | refine yi_geq_f (by omega) ?_ | refine yi_xt0 ?_ | refine yi_xt1 ?_ | refine yi_xt2 ?_ | refine yi_xt3 ?_ | refine yi_T ?_ | refine yi_F ?_ | refine yi_not ?_ | refine yi_and ?_ | refine yi_or ?_ | refine yi_xor ?_ | refine yi_shr (by omega) (by decide) ?_ | refine yi_shl (by omega) (by decide) ?_ | refine yi_quo64 (by omega) ?_ | refine yi_rem64 (by omega) ?_ | refine yi_mul64 (by omega) ?_ | refine yi_neg ?_ | refine yi_un_xor32 ?_ | refine yi_add ?_ | refine yi_sub ?_ | refine yi_mul ?_ | refine yi_quo (by decide) ?_ | refine yi_rem (by decide) ?_)
        exact hJ2 _ _ ⟨⟨true, rfl, ⟨fun e => (by cases e), fun e => absurd e.1 hne⟩⟩, hbe⟩
    have n1 : ¬ stV M j = 1 := fun e => hns (.inl (heq.trans e))
    have n2 : ¬ stV M j = 2 := fun e => hns (.inr (heq.trans e))
    (repeat with_reducible first | refine ynck ?_ | refine nck ?_ | refine cdT ?_ | refine cdF ?_ | refine gdY ?_ | refine gdFT ?_ | refine gdTF ?_ | refine gdU ?_ | refine gaY ?_ | refine gaFT ?_ | refine gaTF ?_ | refine pickT ?_ | refine pickF ?_ | refine yi_lss_t (by omega) ?_ | refine yi_lss_f (by omega) ?_ | refine yi_add64 (by omega) ?_ | refine yi_sub64 (by omega) ?_ | refine yi_eql_t (by omega) ?_ | refine yi_eql_f (by omega) ?_ | refine yi_neq_t (by omega) ?_ | refine yi_neq_f (by omega) ?_ | refine yi_gtr_t (by omega) ?_ | refine yi_gtr_f (by omega) ?_ | refine yi_leq_t (by omega) ?_ | refine yi_leq_f (by omega) ?_ | refine yi_geq_t (by omega) ?_ | refine yi_geq_f (by omega) ?_ | refine yi_xt0 ?_ | refine yi_xt1 ?_ | refine yi_xt2 ?_ | refine yi_xt3 ?_ | refine yi_T ?_ | refine yi_F ?_ | refine yi_not ?_ | refine yi_and ?_ | refine yi_or ?_ | refine yi_xor ?_ | refine yi_shr (by omega) (by decide) ?_ | refine yi_shl (by omega) (by decide) ?_ | refine yi_quo64 (by omega) ?_ | refine yi_rem64 (by omega) ?_ | refine yi_mul64 (by omega) ?_ | refine yi_neg ?_ | refine yi_un_xor32 ?_ | refine yi_add ?_ | refine yi_sub ?_ | refine yi_mul ?_ | refine yi_quo (by decide) ?_ | refine yi_rem (by decide) ?_)
    refine bndE undBo ?_
    (repeat with_reducible first | refine ynck ?_ | refine nck ?_ | refine cdT ?_ | refine cdF ?_ | refine gdY ?_ | refine gdFT ?_ | refine gdTF ?_ | refine gdU ?_ | refine gaY ?_ | refine gaFT ?_ | refine gaTF ?_ | refine pickT ?_ | refine pickF ?_ | refine yi_lss_t (by omega) ?_ | refine yi_lss_f (by omega) ?_ | refine yi_add64 (by omega) ?_ | refine yi_sub64 (by omega) ?_ | refine yi_eql_t (by omega) ?_ | refine yi_eql_f (by omega) ?_ | refine yi_neq_t (by omega) ?_ | refine yi_neq_f (by omega) ?_ | refine yi_gtr_t (by omega) ?_ | refine yi_gtr_f (by omega) ?_ | refine yi_leq_t (by omega) ?_ | refine yi_leq_f (by omega) ?_ | refine yi_geq_t (by omega) ?_ | refine yi_geq_f (by omega) ?_ | refine yi_xt0 ?_ | refine yi_xt1 ?_ | refine yi_xt2 ?_ | refine yi_xt3 ?_ | refine yi_T ?_ | refine yi_F ?_ | refine yi_not ?_ | refine yi_and ?_ | refine yi_or ?_ | refine yi_xor ?_ | refine yi_shr (by omega) (by decide) ?_ | refine yi_shl (by omega) (by decide) ?_ | refine yi_quo64 (by omega) ?_ | refine yi_rem64 (by omega) ?_ | refine yi_mul64 (by omega) ?_ | refine yi_neg ?_ | refine yi_un_xor32 ?_ | refine yi_add ?_ | refine yi_sub ?_ | refine yi_mul ?_ | refine yi_quo (by decide) ?_ | refine yi_rem (by decide) ?_)
    simp only [ne_eq, not_true_eq_false, decide_false]
    (repeat with_reducible first | refine ynck ?_ | refine nck ?_ | refine cdT ?_ | refine cdF ?_ | refine gdY ?_ | refine gdFT ?_ | refine gdTF ?_ | refine gdU ?_ | refine gaY ?_ | refine gaFT ?_ | refine gaTF ?_ | refine pickT ?_ | refine pickF ?_ | refine yi_lss_t (by omega) ?_ | refine yi_lss_f (by omega) ?_ | refine yi_add64 (by omega) ?_ | refine yi_sub64 (by omega) ?_ | refine yi_eql_t (by omega) ?_ | refine yi_eql_f (by omega) ?_ | refine yi_neq_t (by omega) ?_ | refine yi_neq_f (by omega) ?_ | refine yi_gtr_t (by omega) ?_ | refine yi_gtr_f (by omega) ?_ | refine yi_leq_t (by omega) ?_ | refine yi_leq_f (by omega) ?_ | refine yi_geq_t (by omega) ?_ | refine yi_geq_f (by omega) ?_ | refine yi_xt0 ?_ | refine yi_xt1 ?_ | refine yi_xt2 ?_ | refine yi_xt3 ?_ | refine yi_T ?_ | refine yi_F ?_ | refine yi_not ?_ | refine yi_and ?_ | refine yi_or ?_ | refine yi_xor ?_ | refine yi_shr (by omega) (by decide) ?_ | refine yi_shl (by omega) (by decide) ?_ | refine yi_quo64 (by omega) ?_ | refine yi_rem64 (by omega) ?_ | refine yi_mul64 (by omega) ?_ | refine yi_neg ?_ | refine yi_un_xor32 ?_ | refine yi_add ?_ | refine yi_sub ?_ | refine yi_mul ?_ | refine yi_quo (by decide) ?_ | refine yi_rem (by decide) ?_)
    refine act ?_
    refine (Left20 j (by omega) (h.below hbe) hok hk).mono ?_
    rintro vf wf ⟨hof, hf⟩
    have hbf := below_then hbe hf
    refine ⟨_, hbf, fun _ h => h, ?_⟩
    (repeat with_reducible first | refine ynck ?_ | refine nck ?_ | refine cdT ?_ | refine cdF ?_ | refine gdY ?_ | refine gdFT ?_ | refine gdTF ?_ | refine gdU ?_ | refine gaY ?_ | refine gaFT ?_ | refine gaTF ?_ | refine pickT ?_ | refine pickF ?_ | refine yi_lss_t (by omega) ?_ | refine yi_lss_f (by omega) ?_ | refine yi_add64 (by omega) ?_ | refine yi_sub64 (by omega) ?_ | refine yi_eql_t (by omega) ?_ | refine yi_eql_f (by omega) ?_ | refine yi_neq_t (by omega) ?_ | refine yi_neq_f (by omega) ?_ | refine yi_gtr_t (by omega) ?_ | refine yi_gtr_f (by omega) ?_ | refine yi_leq_t (by omega) ?_ | refine yi_leq_f (by omega) ?_ | refine yi_geq_t (by omega) ?_ | refine yi_geq_f (by omega) ?_ | refine yi_xt0 ?_ | refine yi_xt1 ?_ | refine yi_xt2 ?_ | refine yi_xt3 ?_ | refine yi_T ?_ | refine yi_F ?_ | refine yi_not ?_ | refine yi_and ?_ | refine yi_or ?_ | refine yi_xor ?_ | refine yi_shr (by omega) (by decide) ?_ | refine yi_shl (by omega) (by decide) ?_ | refine yi_quo64 (by omega) ?_ | refine yi_rem64 (by omega) ?_ | refine yi_mul64 (by omega) ?_ | refine yi_neg ?_ | refine yi_un_xor32 ?_ | refine yi_add ?_ | refine yi_sub ?_ | refine yi_mul ?_ | refine yi_quo (by decide) ?_ | refine yi_rem (by decide) ?_)
    refine act ?_
    refine (refLeft43 j (by omega) (h'.below hbf) hMl).mono ?_
    rintro vg wg ⟨hog, hg⟩
    have hbg := below_then hbf hg
    refine ⟨_, hbg, fun _ h => h, ?_⟩
    (repeat with_reducible first | refine ynck ?_ | refine nck ?_ | refine cdT ?_ | refine cdF ?_ | refine gdY ?_ | refine gdFT ?_ | refine gdTF ?_ | refine gdU ?_ | refine gaY ?_ | refine gaFT ?_ | refine gaTF ?_ | refine pickT ?_ | refine pickF ?_ | refine yi_lss_t (by omega) ?_ | refine yi_lss_f (by omega) ?_ | refine yi_add64 (by omega) ?_ | refine yi_sub64 (by omega) ?_ | refine yi_eql_t (by omega) ?_ | refine yi_eql_f (by omega) ?_ | refine yi_neq_t (by omega) ?_ | refine yi_neq_f (by omega) ?_ | refine yi_gtr_t (by omega) ?_ | refine yi_gtr_f (by omega) ?_ | refine yi_leq_t (by omega) ?_ | refine yi_leq_f (by omega) ?_ | refine yi_geq_t (by omega) ?_ | refine yi_geq_f (by omega) ?_ | refine yi_xt0 ?_ | refine yi_xt1 ?_ | refine yi_xt2 ?_ | refine yi_xt3 ?_ | refine yi_T ?_ | refine yi_F ?_ | refine yi_not ?_ | refine yi_and ?_ | refine yi_or ?_ | refine yi_xor ?_ | refine yi_shr (by omega) (by decide) ?_ | refine yi_shl (by omega) (by decide) ?_ | refine yi_quo64 (by omega) ?_ | refine yi_rem64 (by omega) ?_ | refine yi_mul64 (by omega) ?_ | refine yi_neg ?_ | refine yi_un_xor32 ?_ | refine yi_add ?_ | refine yi_sub ?_ | refine yi_mul ?_ | refine yi_quo (by decide) ?_ | refine yi_rem (by decide) ?_)
    refine act ?_
    refine (same20 vf vg _ _ wg (hof.kept hg).rd hog.rd).mono ?_
    rintro _ wh ⟨rfl, hh⟩
    have hbh := below_then hbg hh
    refine ⟨_, hbh, fun _ h => h, ?_⟩
    rcases Classical.em (lfV V j = lfR M j) with hlf | hlf
    · rw [decide_eq_true hlf]
      (repeat with_reducible first | refine ynck ?_ | refine nck ?_ | refine cdT ?_ | refine cdF ?_ | refine gdY ?_ | refine gdFT ?_ | refine gdTF ?_ | refine gdU ?_ | refine gaY ?_ | refine gaFT ?_ | refine gaTF ?_ | refine pickT ?_ | refine pickF ?_ | refine yi_lss_t (by omega) ?_ | refine yi_lss_f (by omega) ?_ | refine yi_add64 (by omega) ?_ | refine yi_sub64 (by omega) ?_ | refine yi_eql_t (by omega) ?_ | refine yi_eql_f (by omega) ?_ | refine yi_neq_t (by omega) ?_ | refine yi_neq_f (by omega) ?_ | refine yi_gtr_t (by omega) ?_ | refine yi_gtr_f (by omega) ?_ | refine yi_leq_t (by omega) ?_ | refine yi_leq_f (by omega) ?_ | refine yi_geq_t (by omega) ?_ | refine yi_geq_f (by omega) ?_ | refine yi_xt0 ?_ | refine yi_xt1 ?_ | refine yi_xt2 ?_ | refine yi_xt3 ?_ | refine yi_T ?_ | refine yi_F ?_ | refine yi_not ?_ | refine yi_and ?_ | refine yi_or ?_ | refine yi_xor ?_ | refine yi_shr (by omega) (by decide) ?_ | refine yi_shl (by omega) (by decide) ?_ | refine yi_quo64 (by omega) ?_ | refine yi_rem64 (by omega) ?_ | refine yi_mul64 (by omega) ?_ | refine yi_neg ?_ | refine yi_un_xor32 ?_ | refine yi_add ?_ | refine yi_sub ?_ | refine yi_mul ?_ | refine yi_quo (by decide) ?_ | refine yi_rem (by decide) ?_)
      refine ⟨?_, ⟨?_, trivial⟩⟩
      all_goals
        (repeat with_reducible first | refine gaU ?_ | refine ynck ?_ | refine nck ?_ | refine cdT ?_ | refine cdF ?_ | refine gdY ?_ | refine gdFT ?_ | refine gdTF ?_ | refine gdU ?_ | refine gaY ?_ | refine gaFT ?_ | refine gaTF ?_ | refine pickT ?_ | refine pickF ?_ | refine yi_lss_t (by omega) ?_ | refine yi_lss_f (by omega) ?_ | refine yi_add64 (by omega) ?_ | refine yi_sub64 (by omega) ?_ | refine yi_eql_t (by omega) ?_ | refine yi_eql_f (by omega) ?_ | refine yi_neq_t (by omega) ?_ | refine yi_neq_f (by omega) ?_ | refine yi_gtr_t (by omega) ?_ | refine yi_gtr_f (by omega) ?_ | refine yi_leq_t (by omega) ?_ | refine yi_leq_f (by omega) ?_ | refine yi_geq_t (by omega) ?_ | refine yi_geq_f (by omega) ?_ | refine yi_xt0 ?_ | refine yi_xt1 ?_ | refine yi_xt2 ?_ | refine yi_xt3 ?_ | refine yi_T ?_ | refine yi_F ?_ | refine yi_not ?_ | refine yi_and ?_ | refine yi_or ?_ | refine yi_xor ?_ | refine yi_shr (by omega) (by decide) ?_ | refine yi_shl (by omega) (by decide) ?_ | refine yi_quo64 (by omega) ?_ | refine yi_rem64 (by omega) ?_ | refine yi_mul64 (by omega) ?_ | refine yi_neg ?_ | refine yi_un_xor32 ?_ | refine yi_add ?_ | refine yi_sub ?_ | refine yi_mul ?_ | refine yi_quo (by decide) ?_ | refine yi_rem (by decide) ?_)
        refine hJ2 _ _ ⟨⟨false, rfl, ⟨fun _ => ⟨heq, hlf, ?_⟩, fun _ => rfl⟩⟩, hbh⟩
        rw [hix]
        unfold ixV
        rw [if_neg (by omega)]
    · rw [decide_eq_false hlf]
      (repeat with_reducible first | refine ynck ?_ | refine nck ?_ | refine cdT ?_ | refine cdF ?_ | refine gdY ?_ | refine gdFT ?_ | refine gdTF ?_ | refine gdU ?_ | refine gaY ?_ | refine gaFT ?_ | refine gaTF ?_ | refine pickT ?_ | refine pickF ?_ | refine yi_lss_t (by omega) ?_ | refine yi_lss_f (by omega) ?_ | refine yi_add64 (by omega) ?_ | refine yi_sub64 (by omega) ?_ | refine yi_eql_t (by omega) ?_ | refine yi_eql_f (by omega) ?_ | refine yi_neq_t (by omega) ?_ | refine yi_neq_f (by omega) ?_ | refine yi_gtr_t (by omega) ?_ | refine yi_gtr_f (by omega) ?_ | refine yi_leq_t (by omega) ?_ | refine yi_leq_f (by omega) ?_ | refine yi_geq_t (by omega) ?_ | refine yi_geq_f (by omega) ?_ | refine yi_xt0 ?_ | refine yi_xt1 ?_ | refine yi_xt2 ?_ | refine yi_xt3 ?_ | refine yi_T ?_ | refine yi_F ?_ | refine yi_not ?_ | refine yi_and ?_ | refine yi_or ?_ | refine yi_xor ?_ | refine yi_shr (by omega) (by decide) ?_ | refine yi_shl (by omega) (by decide) ?_ | refine yi_quo64 (by omega) ?_ | refine yi_rem64 (by omega) ?_ | refine yi_mul64 (by omega) ?_ | refine yi_neg ?_ | refine yi_un_xor32 ?_ | refine yi_add ?_ | refine yi_sub ?_ | refine yi_mul ?_ | refine yi_quo (by decide) ?_ | refine yi_rem (by decide) ?_)
      refine ⟨?_, ⟨?_, trivial⟩⟩
      all_goals
        (repeat with_reducible first | refine gaU ?_ | refine ynck ?_ | refine nck ?_ | refine cdT ?_ | refine cdF ?_ | refine gdY ?_ | refine gdFT ?_ | refine gdTF ?_ | refine gdU ?_ | refine gaY ?_ | refine gaFT ?_ | refine gaTF ?_ | refine pickT ?_ | refine pickF ?_ | refine yi_lss_t (by omega) ?_ | refine yi_lss_f (by omega) ?_ | refine yi_add64 (by omega) ?_ | refine yi_sub64 (by omega) ?_ | refine yi_eql_t (by omega) ?_ | refine yi_eql_f (by omega) ?_ | refine yi_neq_t (by omega) ?_ | refine yi_neq_f (by omega) ?_ | refine yi_gtr_t (by omega) ?_ | refine yi_gtr_f (by omega) ?_ | refine yi_leq_t (by omega) ?_ | refine yi_leq_f (by omega) ?_ | refine yi_geq_t (by omega) ?_ | refine yi_geq_f (by omega) ?_ | refine yi_xt0 ?_ | refine yi_xt1 ?_ | refine yi_xt2 ?_ | refine yi_xt3 ?_ | refine yi_T ?_ | refine yi_F ?_ | refine yi_not ?_ | refine yi_and ?_ | refine yi_or ?_ | refine yi_xor ?_ | refine yi_shr (by omega) (by decide) ?_ | refine yi_shl (by omega) (by decide) ?_ | refine yi_quo64 (by omega) ?_ | refine yi_rem64 (by omega) ?_ | refine yi_mul64 (by omega) ?_ | refine yi_neg ?_ | refine yi_un_xor32 ?_ | refine yi_add ?_ | refine yi_sub ?_ | refine yi_mul ?_ | refine yi_quo (by decide) ?_ | refine yi_rem (by decide) ?_)
        exact hJ2 _ _ ⟨⟨true, rfl, ⟨fun e => (by cases e), fun e => absurd e.2.1 hlf⟩⟩, hbh⟩
  | some fs =>
    rw [hix] at hr hst13
    obtain ⟨vfs, rfl, hvf, hff⟩ := hr
    have hns : stV V j = 1 ∨ stV V j = 2 := hst13.2 rfl
    obtain ⟨Ax, cx, rfl⟩ := hvf.slice
    (repeat with_reducible first | refine nck ?_ | refine cdT ?_ | refine cdF ?_ | refine gdY ?_ | refine gdFT ?_ | refine gdTF ?_ | refine gdU ?_ | refine gaY ?_ | refine gaFT ?_ | refine gaTF ?_ | refine pickT ?_ | refine pickF ?_ | refine bi_lss_t (by omega) ?_ | refine bi_lss_f (by omega) ?_ | refine bi_add64 (by omega) ?_ | refine bi_sub64 (by omega) ?_ | refine bi_eql_t (by omega) ?_ | refine bi_eql_f (by omega) ?_ | refine bi_neq_t (by omega) ?_ | refine bi_neq_f (by omega) ?_ | refine bi_gtr_t (by omega) ?_ | refine bi_gtr_f (by omega) ?_ | refine bi_leq_t (by omega) ?_ | refine bi_leq_f (by omega) ?_ | refine bi_geq_t (by omega) ?_ | refine bi_geq_f (by omega) ?_ | refine bi_xt0 ?_ | refine bi_xt1 ?_ | refine bi_xt2 ?_ | refine bi_xt3 ?_ | refine bi_T ?_ | refine bi_F ?_ | refine bi_not ?_ | refine bi_and ?_ | refine bi_or ?_ | refine bi_xor ?_ | refine bi_shr (by omega) (by decide) ?_ | refine bi_shl (by omega) (by decide) ?_ | refine bi_quo64 (by omega) ?_ | refine bi_rem64 (by omega) ?_ | refine bi_mul64 (by omega) ?_ | refine bi_neg ?_ | refine bi_un_xor32 ?_ | refine bi_add ?_ | refine bi_sub ?_ | refine bi_mul ?_ | refine bi_quo (by decide) ?_ | refine bi_rem (by decide) ?_)
    refine alB zX ?_
    intro gx wa hgx hBa ha
    refine stB (cells := #[.int .i64 j, .slice Ax (iV fs).length cx]) hBa szX rfl (by simp [Value.oneCell']) ?_
    intro wb hBb hTb
    have hb : Below w9.heap.size w9 wb := below_own ha hTb (by omega)
    have hbb := below_then hb9 hb
    refine (refState35 j (h'.below hbb) (by omega)).mono ?_
    rintro _ _ ⟨rfl, rfl⟩
    refine JoinP.cut (fun xs w' => (∃ b, xs = [.bool b] ∧ (b = false ↔ sameAt V M j)) ∧ Below w.heap.size w w') (fun J2 hJ2 => ?_) (fun xs w' hI => ?_)
    rotate_left
    · obtain ⟨⟨b, rfl, hb2⟩, hbw⟩ := hI
      dsimp only [List.headD_cons, List.tail_cons]
      cases b with
      | true =>
        (repeat with_reducible first | refine nck ?_ | refine cdT ?_ | refine cdF ?_ | refine gdY ?_ | refine gdFT ?_ | refine gdTF ?_ | refine gdU ?_ | refine gaY ?_ | refine gaFT ?_ | refine gaTF ?_ | refine pickT ?_ | refine pickF ?_ | refine bi_lss_t (by omega) ?_ | refine bi_lss_f (by omega) ?_ | refine bi_add64 (by omega) ?_ | refine bi_sub64 (by omega) ?_ | refine bi_eql_t (by omega) ?_ | refine bi_eql_f (by omega) ?_ | refine bi_neq_t (by omega) ?_ | refine bi_neq_f (by omega) ?_ | refine bi_gtr_t (by omega) ?_ | refine bi_gtr_f (by omega) ?_ | refine bi_leq_t (by omega) ?_ | refine bi_leq_f (by omega) ?_ | refine bi_geq_t (by omega) ?_ | refine bi_geq_f (by omega) ?_ | refine bi_xt0 ?_ | refine bi_xt1 ?_ | refine bi_xt2 ?_ | refine bi_xt3 ?_ | refine bi_T ?_ | refine bi_F ?_ | refine bi_not ?_ | refine bi_and ?_ | refine bi_or ?_ | refine bi_xor ?_ | refine bi_shr (by omega) (by decide) ?_ | refine bi_shl (by omega) (by decide) ?_ | refine bi_quo64 (by omega) ?_ | refine bi_rem64 (by omega) ?_ | refine bi_mul64 (by omega) ?_ | refine bi_neg ?_ | refine bi_un_xor32 ?_ | refine bi_add ?_ | refine bi_sub ?_ | refine bi_mul ?_ | refine bi_quo (by decide) ?_ | refine bi_rem (by decide) ?_)
        exact bad (fun e => by have := hb2.2 e; cases this) _ hbw
      | false =>
        (repeat with_reducible first | refine nck ?_ | refine cdT ?_ | refine cdF ?_ | refine gdY ?_ | refine gdFT ?_ | refine gdTF ?_ | refine gdU ?_ | refine gaY ?_ | refine gaFT ?_ | refine gaTF ?_ | refine pickT ?_ | refine pickF ?_ | refine bi_lss_t (by omega) ?_ | refine bi_lss_f (by omega) ?_ | refine bi_add64 (by omega) ?_ | refine bi_sub64 (by omega) ?_ | refine bi_eql_t (by omega) ?_ | refine bi_eql_f (by omega) ?_ | refine bi_neq_t (by omega) ?_ | refine bi_neq_f (by omega) ?_ | refine bi_gtr_t (by omega) ?_ | refine bi_gtr_f (by omega) ?_ | refine bi_leq_t (by omega) ?_ | refine bi_leq_f (by omega) ?_ | refine bi_geq_t (by omega) ?_ | refine bi_geq_f (by omega) ?_ | refine bi_xt0 ?_ | refine bi_xt1 ?_ | refine bi_xt2 ?_ | refine bi_xt3 ?_ | refine bi_T ?_ | refine bi_F ?_ | refine bi_not ?_ | refine bi_and ?_ | refine bi_or ?_ | refine bi_xor ?_ | refine bi_shr (by omega) (by decide) ?_ | refine bi_shl (by omega) (by decide) ?_ | refine bi_quo64 (by omega) ?_ | refine bi_rem64 (by omega) ?_ | refine bi_mul64 (by omega) ?_ | refine bi_neg ?_ | refine bi_un_xor32 ?_ | refine bi_add ?_ | refine bi_sub ?_ | refine bi_mul ?_ | refine bi_quo (by decide) ?_ | refine bi_rem (by decide) ?_)
        exact next (hb2.1 rfl) _ hbw
    have hdr2 : Below wb.heap.size wb wb.drew := (Below.refl _ _).drew
    have hbd := below_then hbb hdr2
    have kX : ∀ w', Below wb.heap.size wb w' → Blk w' gx 47 #[.int .i64 j, .slice Ax (iV fs).length cx] := fun w' h => hBb.below' h
    refine draw (Below wb.heap.size wb) hdr2 ?_
    generalize wb.drew = wd at *
    refine act ?_
    refine (State13 j (by omega) (h.below hbd) hok).mono ?_
    rintro _ we ⟨rfl, he⟩
    have he' := below_then hdr2 he
    have hbe := below_then hbd he
    refine ⟨_, he', fun _ h => h, ?_⟩
    refine yi_neq_c (fun hne => ?_) (fun heq => ?_)
    · (repeat with_reducible first | refine gaU ?_ | refine ynck ?_ | refine nck ?_ | refine cdT ?_ | refine cdF ?_ | refine gdY ?_ | refine gdFT ?_ | refine gdTF ?_ | refine gdU ?_ | refine gaY ?_ | refine gaFT ?_ | refine gaTF ?_ | refine pickT ?_ | refine pickF ?_ | refine yi_lss_t (by omega) ?_ | refine yi_lss_f (by omega) ?_ | refine yi_add64 (by omega) ?_ | refine yi_sub64 (by omega) ?_ | refine yi_eql_t (by omega) ?_ | refine yi_eql_f (by omega) ?_ | refine yi_neq_t (by omega) ?_ | refine yi_neq_f (by omega) ?_ | refine yi_gtr_t (by omega) ?_ | refine yi_gtr_f (by omega) ?_ | refine yi_leq_t (by omega) ?_ | refine yi_leq_f (by omega) ?_ | refine yi_geq_t (by omega) ?_ | refine yi_geq_f (by omega) ?_ | refine yi_xt0 ?_ | refine yi_xt1 ?_ | refine yi_xt2 ?_ | refine yi_xt3 ?_ | refine yi_T ?_ | refine yi_F ?_ | refine yi_not ?_ | refine yi_and ?_ | refine yi_or ?_ | refine yi_xor ?_ | refine yi_shr (by omega) (by decide) ?_ | refine yi_shl (by omega) (by decide) ?_ | refine yi_quo64 (by omega) ?_ | refine yi_rem64 (by omega) ?_ | refine yi_mul64 (by omega) ?_ | refine yi_neg ?_ | refine yi_un_xor32 ?_ | refine yi_add ?_ | refine yi_sub ?_ | refine yi_mul ?_ | refine yi_quo (by decide) ?_ | refine yi_rem (by decide) ?_)
      refine ⟨?_, ⟨?_, trivial⟩⟩
      all_goals
        (repeat with_reducible first | refine gaU ?_ | refine ynck ?_ | refine nck ?_ | refine cdT ?_ | refine cdF ?_ | refine gdY ?_ | refine gdFT ?_ | refine gdTF ?_ | refine gdU ?_ | refine gaY ?_ | refine gaFT ?_ | refine gaTF ?_ | refine pickT ?_ | refine pickF ?_ | refine yi_lss_t (by omega) ?_ | refine yi_lss_f (by omega) ?_ | refine yi_add64 (by omega) ?_ | refine yi_sub64 (by omega) ?_ | refine yi_eql_t (by omega) ?_ | refine yi_eql_f (by omega) ?_ | refine yi_neq_t (by omega) ?_ | refine yi_neq_f (by omega) ?_ | refine yi_gtr_t (by omega) ?_ | refine yi_gtr_f (by omega) ?_ | refine yi_leq_t (by omega) ?_ | refine yi_leq_f (by omega) ?_ | refine yi_geq_t (by omega) ?_ | refine yi_geq_f (by omega) ?_ | refine yi_xt0 ?_ | refine yi_xt1 ?_ | refine yi_xt2 ?_ | refine yi_xt3 ?_ | refine yi_T ?_ | refine yi_F ?_ | refine yi_not ?_ | refine yi_and ?_ | refine yi_or ?_ | refine yi_xor ?_ | refine yi_shr (by omega) (by decide) ?_ | refine yi_shl (by omega) (by decide) ?_ | refine yi_quo64 (by omega) ?_ | refine yi_rem64 (by omega) ?_ | refine yi_mul64 (by omega) ?_ | refine yi_neg ?_ | refine yi_un_xor32 ?_ | refine yi_add ?_ | refine yi_sub ?_ | refine yi_mul ?_ | refine yi_quo (by decide) ?_ | refine yi_rem (by decide) ?_)
        exact hJ2 _ _ ⟨⟨true, rfl, ⟨fun e => (by cases e), fun e => absurd e.1 hne⟩⟩, hbe⟩
    have hMj : stV M j = 1 ∨ stV M j = 2 := by omega
    obtain ⟨q1, q2⟩ := stV_in (V := M) (id := j) (by omega)
    obtain ⟨i, hi, hji⟩ : ∃ i : Nat, i < M.length ∧ j = i + 1 := ⟨(j - 1).toNat, by omega, by omega⟩
    have hMst : M[i].st = 1 ∨ M[i].st = 2 := by
      have := stV_at q1 q2
      have e : (j - 1).toNat = i := by omega
      simp only [e] at this
      omega
    have hixM : ixV M j = some M[i].fs := by rw [ixV_in hi hji, if_pos hMst]
    rcases hMj with hM1 | hM1
    all_goals
      first
        | ((repeat with_reducible first | refine ynck ?_ | refine nck ?_ | refine cdT ?_ | refine cdF ?_ | refine gdY ?_ | refine gdFT ?_ | refine gdTF ?_ | refine gdU ?_ | refine gaY ?_ | refine gaFT ?_ | refine gaTF ?_ | refine pickT ?_ | refine pickF ?_ | refine yi_lss_t (by omega) ?_ | refine yi_lss_f (by omega) ?_ | refine yi_add64 (by omega) ?_ | refine yi_sub64 (by omega) ?_ | refine yi_eql_t (by omega) ?_ | refine yi_eql_f (by omega) ?_ | refine yi_neq_t (by omega) ?_ | refine yi_neq_f (by omega) ?_ | refine yi_gtr_t (by omega) ?_ | refine yi_gtr_f (by omega) ?_ | refine yi_leq_t (by omega) ?_ | refine yi_leq_f (by omega) ?_ | refine yi_geq_t (by omega) ?_ | refine yi_geq_f (by omega) ?_ | refine yi_xt0 ?_ | refine yi_xt1 ?_ | refine yi_xt2 ?_ | refine yi_xt3 ?_ | refine yi_T ?_ | refine yi_F ?_ | refine yi_not ?_ | refine yi_and ?_ | refine yi_or ?_ | refine yi_xor ?_ | refine yi_shr (by omega) (by decide) ?_ | refine yi_shl (by omega) (by decide) ?_ | refine yi_quo64 (by omega) ?_ | refine yi_rem64 (by omega) ?_ | refine yi_mul64 (by omega) ?_ | refine yi_neg ?_ | refine yi_un_xor32 ?_ | refine yi_add ?_ | refine yi_sub ?_ | refine yi_mul ?_ | refine yi_quo (by decide) ?_ | refine yi_rem (by decide) ?_)
           refine bndE undBo ?_
           (repeat with_reducible first | refine ynck ?_ | refine nck ?_ | refine cdT ?_ | refine cdF ?_ | refine gdY ?_ | refine gdFT ?_ | refine gdTF ?_ | refine gdU ?_ | refine gaY ?_ | refine gaFT ?_ | refine gaTF ?_ | refine pickT ?_ | refine pickF ?_ | refine yi_lss_t (by omega) ?_ | refine yi_lss_f (by omega) ?_ | refine yi_add64 (by omega) ?_ | refine yi_sub64 (by omega) ?_ | refine yi_eql_t (by omega) ?_ | refine yi_eql_f (by omega) ?_ | refine yi_neq_t (by omega) ?_ | refine yi_neq_f (by omega) ?_ | refine yi_gtr_t (by omega) ?_ | refine yi_gtr_f (by omega) ?_ | refine yi_leq_t (by omega) ?_ | refine yi_leq_f (by omega) ?_ | refine yi_geq_t (by omega) ?_ | refine yi_geq_f (by omega) ?_ | refine yi_xt0 ?_ | refine yi_xt1 ?_ | refine yi_xt2 ?_ | refine yi_xt3 ?_ | refine yi_T ?_ | refine yi_F ?_ | refine yi_not ?_ | refine yi_and ?_ | refine yi_or ?_ | refine yi_xor ?_ | refine yi_shr (by omega) (by decide) ?_ | refine yi_shl (by omega) (by decide) ?_ | refine yi_quo64 (by omega) ?_ | refine yi_rem64 (by omega) ?_ | refine yi_mul64 (by omega) ?_ | refine yi_neg ?_ | refine yi_un_xor32 ?_ | refine yi_add ?_ | refine yi_sub ?_ | refine yi_mul ?_ | refine yi_quo (by decide) ?_ | refine yi_rem (by decide) ?_))
      simp only [ne_eq, not_true_eq_false, decide_false]
      (repeat with_reducible first | refine ynck ?_ | refine nck ?_ | refine cdT ?_ | refine cdF ?_ | refine gdY ?_ | refine gdFT ?_ | refine gdTF ?_ | refine gdU ?_ | refine gaY ?_ | refine gaFT ?_ | refine gaTF ?_ | refine pickT ?_ | refine pickF ?_ | refine yi_lss_t (by omega) ?_ | refine yi_lss_f (by omega) ?_ | refine yi_add64 (by omega) ?_ | refine yi_sub64 (by omega) ?_ | refine yi_eql_t (by omega) ?_ | refine yi_eql_f (by omega) ?_ | refine yi_neq_t (by omega) ?_ | refine yi_neq_f (by omega) ?_ | refine yi_gtr_t (by omega) ?_ | refine yi_gtr_f (by omega) ?_ | refine yi_leq_t (by omega) ?_ | refine yi_leq_f (by omega) ?_ | refine yi_geq_t (by omega) ?_ | refine yi_geq_f (by omega) ?_ | refine yi_xt0 ?_ | refine yi_xt1 ?_ | refine yi_xt2 ?_ | refine yi_xt3 ?_ | refine yi_T ?_ | refine yi_F ?_ | refine yi_not ?_ | refine yi_and ?_ | refine yi_or ?_ | refine yi_xor ?_ | refine yi_shr (by omega) (by decide) ?_ | refine yi_shl (by omega) (by decide) ?_ | refine yi_quo64 (by omega) ?_ | refine yi_rem64 (by omega) ?_ | refine yi_mul64 (by omega) ?_ | refine yi_neg ?_ | refine yi_un_xor32 ?_ | refine yi_add ?_ | refine yi_sub ?_ | refine yi_mul ?_ | refine yi_quo (by decide) ?_ | refine yi_rem (by decide) ?_)
      refine act ?_
      refine (Left20 j (by omega) (h.below hbe) hok hk).mono ?_
      rintro vf wf ⟨hof, hf⟩
      have hf' := below_then he' hf
      have hbf := below_then hbe hf
      refine ⟨_, hf', fun _ h => h, ?_⟩
      (repeat with_reducible first | refine ynck ?_ | refine nck ?_ | refine cdT ?_ | refine cdF ?_ | refine gdY ?_ | refine gdFT ?_ | refine gdTF ?_ | refine gdU ?_ | refine gaY ?_ | refine gaFT ?_ | refine gaTF ?_ | refine pickT ?_ | refine pickF ?_ | refine yi_lss_t (by omega) ?_ | refine yi_lss_f (by omega) ?_ | refine yi_add64 (by omega) ?_ | refine yi_sub64 (by omega) ?_ | refine yi_eql_t (by omega) ?_ | refine yi_eql_f (by omega) ?_ | refine yi_neq_t (by omega) ?_ | refine yi_neq_f (by omega) ?_ | refine yi_gtr_t (by omega) ?_ | refine yi_gtr_f (by omega) ?_ | refine yi_leq_t (by omega) ?_ | refine yi_leq_f (by omega) ?_ | refine yi_geq_t (by omega) ?_ | refine yi_geq_f (by omega) ?_ | refine yi_xt0 ?_ | refine yi_xt1 ?_ | refine yi_xt2 ?_ | refine yi_xt3 ?_ | refine yi_T ?_ | refine yi_F ?_ | refine yi_not ?_ | refine yi_and ?_ | refine yi_or ?_ | refine yi_xor ?_ | refine yi_shr (by omega) (by decide) ?_ | refine yi_shl (by omega) (by decide) ?_ | refine yi_quo64 (by omega) ?_ | refine yi_rem64 (by omega) ?_ | refine yi_mul64 (by omega) ?_ | refine yi_neg ?_ | refine yi_un_xor32 ?_ | refine yi_add ?_ | refine yi_sub ?_ | refine yi_mul ?_ | refine yi_quo (by decide) ?_ | refine yi_rem (by decide) ?_)
      refine act ?_
      refine (refLeft43 j (by omega) (h'.below hbf) hMl).mono ?_
      rintro vg wg ⟨hog, hg⟩
      have hg' := below_then hf' hg
      have hbg := below_then hbf hg
      refine ⟨_, hg', fun _ h => h, ?_⟩
      (repeat with_reducible first | refine ynck ?_ | refine nck ?_ | refine cdT ?_ | refine cdF ?_ | refine gdY ?_ | refine gdFT ?_ | refine gdTF ?_ | refine gdU ?_ | refine gaY ?_ | refine gaFT ?_ | refine gaTF ?_ | refine pickT ?_ | refine pickF ?_ | refine yi_lss_t (by omega) ?_ | refine yi_lss_f (by omega) ?_ | refine yi_add64 (by omega) ?_ | refine yi_sub64 (by omega) ?_ | refine yi_eql_t (by omega) ?_ | refine yi_eql_f (by omega) ?_ | refine yi_neq_t (by omega) ?_ | refine yi_neq_f (by omega) ?_ | refine yi_gtr_t (by omega) ?_ | refine yi_gtr_f (by omega) ?_ | refine yi_leq_t (by omega) ?_ | refine yi_leq_f (by omega) ?_ | refine yi_geq_t (by omega) ?_ | refine yi_geq_f (by omega) ?_ | refine yi_xt0 ?_ | refine yi_xt1 ?_ | refine yi_xt2 ?_ | refine yi_xt3 ?_ | refine yi_T ?_ | refine yi_F ?_ | refine yi_not ?_ | refine yi_and ?_ | refine yi_or ?_ | refine yi_xor ?_ | refine yi_shr (by omega) (by decide) ?_ | refine yi_shl (by omega) (by decide) ?_ | refine yi_quo64 (by omega) ?_ | refine yi_rem64 (by omega) ?_ | refine yi_mul64 (by omega) ?_ | refine yi_neg ?_ | refine yi_un_xor32 ?_ | refine yi_add ?_ | refine yi_sub ?_ | refine yi_mul ?_ | refine yi_quo (by decide) ?_ | refine yi_rem (by decide) ?_)
      refine act ?_
      refine (same20 vf vg _ _ wg (hof.kept hg).rd hog.rd).mono ?_
      rintro _ wh ⟨rfl, hh⟩
      have hh' := below_then hg' hh
      have hbh := below_then hbg hh
      refine ⟨_, hh', fun _ h => h, ?_⟩
      rcases Classical.em (lfV V j = lfR M j) with hlf | hlf
      rotate_left
      · rw [decide_eq_false hlf]
        (repeat with_reducible first | refine ynck ?_ | refine nck ?_ | refine cdT ?_ | refine cdF ?_ | refine gdY ?_ | refine gdFT ?_ | refine gdTF ?_ | refine gdU ?_ | refine gaY ?_ | refine gaFT ?_ | refine gaTF ?_ | refine pickT ?_ | refine pickF ?_ | refine yi_lss_t (by omega) ?_ | refine yi_lss_f (by omega) ?_ | refine yi_add64 (by omega) ?_ | refine yi_sub64 (by omega) ?_ | refine yi_eql_t (by omega) ?_ | refine yi_eql_f (by omega) ?_ | refine yi_neq_t (by omega) ?_ | refine yi_neq_f (by omega) ?_ | refine yi_gtr_t (by omega) ?_ | refine yi_gtr_f (by omega) ?_ | refine yi_leq_t (by omega) ?_ | refine yi_leq_f (by omega) ?_ | refine yi_geq_t (by omega) ?_ | refine yi_geq_f (by omega) ?_ | refine yi_xt0 ?_ | refine yi_xt1 ?_ | refine yi_xt2 ?_ | refine yi_xt3 ?_ | refine yi_T ?_ | refine yi_F ?_ | refine yi_not ?_ | refine yi_and ?_ | refine yi_or ?_ | refine yi_xor ?_ | refine yi_shr (by omega) (by decide) ?_ | refine yi_shl (by omega) (by decide) ?_ | refine yi_quo64 (by omega) ?_ | refine yi_rem64 (by omega) ?_ | refine yi_mul64 (by omega) ?_ | refine yi_neg ?_ | refine yi_un_xor32 ?_ | refine yi_add ?_ | refine yi_sub ?_ | refine yi_mul ?_ | refine yi_quo (by decide) ?_ | refine yi_rem (by decide) ?_)
        refine ⟨?_, ⟨?_, trivial⟩⟩
        all_goals
          (repeat with_reducible first | refine gaU ?_ | refine ynck ?_ | refine nck ?_ | refine cdT ?_ | refine cdF ?_ | refine gdY ?_ | refine gdFT ?_ | refine gdTF ?_ | refine gdU ?_ | refine gaY ?_ | refine gaFT ?_ | refine gaTF ?_ | refine pickT ?_ | refine pickF ?_ | refine yi_lss_t (by omega) ?_ | refine yi_lss_f (by omega) ?_ | refine yi_add64 (by omega) ?_ | refine yi_sub64 (by omega) ?_ | refine yi_eql_t (by omega) ?_ | refine yi_eql_f (by omega) ?_ | refine yi_neq_t (by omega) ?_ | refine yi_neq_f (by omega) ?_ | refine yi_gtr_t (by omega) ?_ | refine yi_gtr_f (by omega) ?_ | refine yi_leq_t (by omega) ?_ | refine yi_leq_f (by omega) ?_ | refine yi_geq_t (by omega) ?_ | refine yi_geq_f (by omega) ?_ | refine yi_xt0 ?_ | refine yi_xt1 ?_ | refine yi_xt2 ?_ | refine yi_xt3 ?_ | refine yi_T ?_ | refine yi_F ?_ | refine yi_not ?_ | refine yi_and ?_ | refine yi_or ?_ | refine yi_xor ?_ | refine yi_shr (by omega) (by decide) ?_ | refine yi_shl (by omega) (by decide) ?_ | refine yi_quo64 (by omega) ?_ | refine yi_rem64 (by omega) ?_ | refine yi_mul64 (by omega) ?_ | refine yi_neg ?_ | refine yi_un_xor32 ?_ | refine yi_add ?_ | refine yi_sub ?_ | refine yi_mul ?_ | refine yi_quo (by decide) ?_ | refine yi_rem (by decide) ?_)
          exact hJ2 _ _ ⟨⟨true, rfl, ⟨fun e => (by cases e), fun e => absurd e.2.1 hlf⟩⟩, hbh⟩
      rw [decide_eq_true hlf]
      subst hRV
      have hiM : i < MM.length := by rwa [absB_len] at hi
      have hMi : (absB MM)[i] = MM[i].x := absB_get hi
      have hRb := hR.below hbb
      obtain ⟨gR, cR, hvR, f0, _, _⟩ := hRb.at i hiM
      have helR := hRb.el _ (List.getElem_mem hiM)
      obtain ⟨Ar, cr, er, _⟩ := helR.fo.slice
      have hfrd := helR.frd
      rw [er] at f0 hfrd
      have k0 : ∀ w', Below wb.heap.size wb w' → w'.cell? ⟨g', 0, none⟩ = some vLr := fun w' h => (hRb.blk.below' h).cell 0
      have kf : ∀ w', Below wb.heap.size wb w' → w'.cell? ⟨gR, i * 3 + 0, none⟩ = some (.slice Ar MM[i].x.fs.length cr) := RdKeep f0
      have e1 : j - 1 = (i : Int) := by omega
      (repeat with_reducible first | refine ynck ?_ | refine nck ?_ | refine cdT ?_ | refine cdF ?_ | refine gdY ?_ | refine gdFT ?_ | refine gdTF ?_ | refine gdU ?_ | refine gaY ?_ | refine gaFT ?_ | refine gaTF ?_ | refine pickT ?_ | refine pickF ?_ | refine yi_lss_t (by omega) ?_ | refine yi_lss_f (by omega) ?_ | refine yi_add64 (by omega) ?_ | refine yi_sub64 (by omega) ?_ | refine yi_eql_t (by omega) ?_ | refine yi_eql_f (by omega) ?_ | refine yi_neq_t (by omega) ?_ | refine yi_neq_f (by omega) ?_ | refine yi_gtr_t (by omega) ?_ | refine yi_gtr_f (by omega) ?_ | refine yi_leq_t (by omega) ?_ | refine yi_leq_f (by omega) ?_ | refine yi_geq_t (by omega) ?_ | refine yi_geq_f (by omega) ?_ | refine yi_xt0 ?_ | refine yi_xt1 ?_ | refine yi_xt2 ?_ | refine yi_xt3 ?_ | refine yi_T ?_ | refine yi_F ?_ | refine yi_not ?_ | refine yi_and ?_ | refine yi_or ?_ | refine yi_xor ?_ | refine yi_shr (by omega) (by decide) ?_ | refine yi_shl (by omega) (by decide) ?_ | refine yi_quo64 (by omega) ?_ | refine yi_rem64 (by omega) ?_ | refine yi_mul64 (by omega) ?_ | refine yi_neg ?_ | refine yi_un_xor32 ?_ | refine yi_add ?_ | refine yi_sub ?_ | refine yi_mul ?_ | refine yi_quo (by decide) ?_ | refine yi_rem (by decide) ?_)
      refine yldA aggX kX szX ?_
      (repeat with_reducible first | refine yfd c0 (by decide) ?_ | refine yl1 oneRls k0 ?_ | refine ynck ?_ | refine nck ?_ | refine cdT ?_ | refine cdF ?_ | refine gdY ?_ | refine gdFT ?_ | refine gdTF ?_ | refine gdU ?_ | refine gaY ?_ | refine gaFT ?_ | refine gaTF ?_ | refine pickT ?_ | refine pickF ?_ | refine yi_lss_t (by omega) ?_ | refine yi_lss_f (by omega) ?_ | refine yi_add64 (by omega) ?_ | refine yi_sub64 (by omega) ?_ | refine yi_eql_t (by omega) ?_ | refine yi_eql_f (by omega) ?_ | refine yi_neq_t (by omega) ?_ | refine yi_neq_f (by omega) ?_ | refine yi_gtr_t (by omega) ?_ | refine yi_gtr_f (by omega) ?_ | refine yi_leq_t (by omega) ?_ | refine yi_leq_f (by omega) ?_ | refine yi_geq_t (by omega) ?_ | refine yi_geq_f (by omega) ?_ | refine yi_xt0 ?_ | refine yi_xt1 ?_ | refine yi_xt2 ?_ | refine yi_xt3 ?_ | refine yi_T ?_ | refine yi_F ?_ | refine yi_not ?_ | refine yi_and ?_ | refine yi_or ?_ | refine yi_xor ?_ | refine yi_shr (by omega) (by decide) ?_ | refine yi_shl (by omega) (by decide) ?_ | refine yi_quo64 (by omega) ?_ | refine yi_rem64 (by omega) ?_ | refine yi_mul64 (by omega) ?_ | refine yi_neg ?_ | refine yi_un_xor32 ?_ | refine yi_add ?_ | refine yi_sub ?_ | refine yi_mul ?_ | refine yi_quo (by decide) ?_ | refine yi_rem (by decide) ?_)
      rw [hvR, e1]
      (repeat with_reducible first | refine yixG undRs szRl i hiM ?_ | refine yfdG m0 (by decide) ?_ | refine yl1 oneIs kf ?_ | refine ynck ?_ | refine nck ?_ | refine cdT ?_ | refine cdF ?_ | refine gdY ?_ | refine gdFT ?_ | refine gdTF ?_ | refine gdU ?_ | refine gaY ?_ | refine gaFT ?_ | refine gaTF ?_ | refine pickT ?_ | refine pickF ?_ | refine yi_lss_t (by omega) ?_ | refine yi_lss_f (by omega) ?_ | refine yi_add64 (by omega) ?_ | refine yi_sub64 (by omega) ?_ | refine yi_eql_t (by omega) ?_ | refine yi_eql_f (by omega) ?_ | refine yi_neq_t (by omega) ?_ | refine yi_neq_f (by omega) ?_ | refine yi_gtr_t (by omega) ?_ | refine yi_gtr_f (by omega) ?_ | refine yi_leq_t (by omega) ?_ | refine yi_leq_f (by omega) ?_ | refine yi_geq_t (by omega) ?_ | refine yi_geq_f (by omega) ?_ | refine yi_xt0 ?_ | refine yi_xt1 ?_ | refine yi_xt2 ?_ | refine yi_xt3 ?_ | refine yi_T ?_ | refine yi_F ?_ | refine yi_not ?_ | refine yi_and ?_ | refine yi_or ?_ | refine yi_xor ?_ | refine yi_shr (by omega) (by decide) ?_ | refine yi_shl (by omega) (by decide) ?_ | refine yi_quo64 (by omega) ?_ | refine yi_rem64 (by omega) ?_ | refine yi_mul64 (by omega) ?_ | refine yi_neg ?_ | refine yi_un_xor32 ?_ | refine yi_add ?_ | refine yi_sub ?_ | refine yi_mul ?_ | refine yi_quo (by decide) ?_ | refine yi_rem (by decide) ?_)
      refine ybd (cells := #[.int .i64 j, .slice Ar MM[i].x.fs.length cr]) (by kernel_rfl) ?_
      rw [hMi] at hixM
      have hrX := hvf.rd
      have done : ∀ (vx vy : Value) (w' : World) (h' : Below wb.heap.size wb w'), IxR w' [vx] [(j, fs)] → IxR w' [vy] [(j, MM[i].x.fs)] → True := fun _ _ _ _ _ _ => trivial
      refine ⟨?_, ⟨?_, trivial⟩⟩
      all_goals
        first
          | ((repeat with_reducible first | refine ynck ?_ | refine nck ?_ | refine cdT ?_ | refine cdF ?_ | refine gdY ?_ | refine gdFT ?_ | refine gdTF ?_ | refine gdU ?_ | refine gaY ?_ | refine gaFT ?_ | refine gaTF ?_ | refine pickT ?_ | refine pickF ?_ | refine yi_lss_t (by omega) ?_ | refine yi_lss_f (by omega) ?_ | refine yi_add64 (by omega) ?_ | refine yi_sub64 (by omega) ?_ | refine yi_eql_t (by omega) ?_ | refine yi_eql_f (by omega) ?_ | refine yi_neq_t (by omega) ?_ | refine yi_neq_f (by omega) ?_ | refine yi_gtr_t (by omega) ?_ | refine yi_gtr_f (by omega) ?_ | refine yi_leq_t (by omega) ?_ | refine yi_leq_f (by omega) ?_ | refine yi_geq_t (by omega) ?_ | refine yi_geq_f (by omega) ?_ | refine yi_xt0 ?_ | refine yi_xt1 ?_ | refine yi_xt2 ?_ | refine yi_xt3 ?_ | refine yi_T ?_ | refine yi_F ?_ | refine yi_not ?_ | refine yi_and ?_ | refine yi_or ?_ | refine yi_xor ?_ | refine yi_shr (by omega) (by decide) ?_ | refine yi_shl (by omega) (by decide) ?_ | refine yi_quo64 (by omega) ?_ | refine yi_rem64 (by omega) ?_ | refine yi_mul64 (by omega) ?_ | refine yi_neg ?_ | refine yi_un_xor32 ?_ | refine yi_add ?_ | refine yi_sub ?_ | refine yi_mul ?_ | refine yi_quo (by decide) ?_ | refine yi_rem (by decide) ?_)
             refine act ?_
             refine bs1Ix (fs := fs) ((hrX.below hb).below hh') ?_
             intro vx wx hx0 h1x
             have hx1 := below_then hh' h1x
             refine ⟨_, hx1, fun _ h => h, ?_⟩
             (repeat with_reducible first | refine ynck ?_ | refine nck ?_ | refine cdT ?_ | refine cdF ?_ | refine gdY ?_ | refine gdFT ?_ | refine gdTF ?_ | refine gdU ?_ | refine gaY ?_ | refine gaFT ?_ | refine gaTF ?_ | refine pickT ?_ | refine pickF ?_ | refine yi_lss_t (by omega) ?_ | refine yi_lss_f (by omega) ?_ | refine yi_add64 (by omega) ?_ | refine yi_sub64 (by omega) ?_ | refine yi_eql_t (by omega) ?_ | refine yi_eql_f (by omega) ?_ | refine yi_neq_t (by omega) ?_ | refine yi_neq_f (by omega) ?_ | refine yi_gtr_t (by omega) ?_ | refine yi_gtr_f (by omega) ?_ | refine yi_leq_t (by omega) ?_ | refine yi_leq_f (by omega) ?_ | refine yi_geq_t (by omega) ?_ | refine yi_geq_f (by omega) ?_ | refine yi_xt0 ?_ | refine yi_xt1 ?_ | refine yi_xt2 ?_ | refine yi_xt3 ?_ | refine yi_T ?_ | refine yi_F ?_ | refine yi_not ?_ | refine yi_and ?_ | refine yi_or ?_ | refine yi_xor ?_ | refine yi_shr (by omega) (by decide) ?_ | refine yi_shl (by omega) (by decide) ?_ | refine yi_quo64 (by omega) ?_ | refine yi_rem64 (by omega) ?_ | refine yi_mul64 (by omega) ?_ | refine yi_neg ?_ | refine yi_un_xor32 ?_ | refine yi_add ?_ | refine yi_sub ?_ | refine yi_mul ?_ | refine yi_quo (by decide) ?_ | refine yi_rem (by decide) ?_)
             refine act ?_
             refine bs1Ix (fs := MM[i].x.fs) (hfrd.below hx1) ?_
             intro vy wy hy h2y
             have hy1 := below_then hx1 h2y
             have hx := keeps_IxR _ _ _ _ h2y hx0)
          | ((repeat with_reducible first | refine ynck ?_ | refine nck ?_ | refine cdT ?_ | refine cdF ?_ | refine gdY ?_ | refine gdFT ?_ | refine gdTF ?_ | refine gdU ?_ | refine gaY ?_ | refine gaFT ?_ | refine gaTF ?_ | refine pickT ?_ | refine pickF ?_ | refine yi_lss_t (by omega) ?_ | refine yi_lss_f (by omega) ?_ | refine yi_add64 (by omega) ?_ | refine yi_sub64 (by omega) ?_ | refine yi_eql_t (by omega) ?_ | refine yi_eql_f (by omega) ?_ | refine yi_neq_t (by omega) ?_ | refine yi_neq_f (by omega) ?_ | refine yi_gtr_t (by omega) ?_ | refine yi_gtr_f (by omega) ?_ | refine yi_leq_t (by omega) ?_ | refine yi_leq_f (by omega) ?_ | refine yi_geq_t (by omega) ?_ | refine yi_geq_f (by omega) ?_ | refine yi_xt0 ?_ | refine yi_xt1 ?_ | refine yi_xt2 ?_ | refine yi_xt3 ?_ | refine yi_T ?_ | refine yi_F ?_ | refine yi_not ?_ | refine yi_and ?_ | refine yi_or ?_ | refine yi_xor ?_ | refine yi_shr (by omega) (by decide) ?_ | refine yi_shl (by omega) (by decide) ?_ | refine yi_quo64 (by omega) ?_ | refine yi_rem64 (by omega) ?_ | refine yi_mul64 (by omega) ?_ | refine yi_neg ?_ | refine yi_un_xor32 ?_ | refine yi_add ?_ | refine yi_sub ?_ | refine yi_mul ?_ | refine yi_quo (by decide) ?_ | refine yi_rem (by decide) ?_)
             refine act ?_
             refine bs1Ix (fs := MM[i].x.fs) (hfrd.below hh') ?_
             intro vy wx hy0 h1x
             have hx1 := below_then hh' h1x
             refine ⟨_, hx1, fun _ h => h, ?_⟩
             (repeat with_reducible first | refine ynck ?_ | refine nck ?_ | refine cdT ?_ | refine cdF ?_ | refine gdY ?_ | refine gdFT ?_ | refine gdTF ?_ | refine gdU ?_ | refine gaY ?_ | refine gaFT ?_ | refine gaTF ?_ | refine pickT ?_ | refine pickF ?_ | refine yi_lss_t (by omega) ?_ | refine yi_lss_f (by omega) ?_ | refine yi_add64 (by omega) ?_ | refine yi_sub64 (by omega) ?_ | refine yi_eql_t (by omega) ?_ | refine yi_eql_f (by omega) ?_ | refine yi_neq_t (by omega) ?_ | refine yi_neq_f (by omega) ?_ | refine yi_gtr_t (by omega) ?_ | refine yi_gtr_f (by omega) ?_ | refine yi_leq_t (by omega) ?_ | refine yi_leq_f (by omega) ?_ | refine yi_geq_t (by omega) ?_ | refine yi_geq_f (by omega) ?_ | refine yi_xt0 ?_ | refine yi_xt1 ?_ | refine yi_xt2 ?_ | refine yi_xt3 ?_ | refine yi_T ?_ | refine yi_F ?_ | refine yi_not ?_ | refine yi_and ?_ | refine yi_or ?_ | refine yi_xor ?_ | refine yi_shr (by omega) (by decide) ?_ | refine yi_shl (by omega) (by decide) ?_ | refine yi_quo64 (by omega) ?_ | refine yi_rem64 (by omega) ?_ | refine yi_mul64 (by omega) ?_ | refine yi_neg ?_ | refine yi_un_xor32 ?_ | refine yi_add ?_ | refine yi_sub ?_ | refine yi_mul ?_ | refine yi_quo (by decide) ?_ | refine yi_rem (by decide) ?_)
             refine act ?_
             refine bs1Ix (fs := fs) ((hrX.below hb).below hx1) ?_
             intro vx wy hx h2y
             have hy1 := below_then hx1 h2y
             have hy := keeps_IxR _ _ _ _ h2y hy0)
      all_goals
        refine ⟨_, hy1, fun _ h => h, ?_⟩
        (repeat with_reducible first | refine ynck ?_ | refine nck ?_ | refine cdT ?_ | refine cdF ?_ | refine gdY ?_ | refine gdFT ?_ | refine gdTF ?_ | refine gdU ?_ | refine gaY ?_ | refine gaFT ?_ | refine gaTF ?_ | refine pickT ?_ | refine pickF ?_ | refine yi_lss_t (by omega) ?_ | refine yi_lss_f (by omega) ?_ | refine yi_add64 (by omega) ?_ | refine yi_sub64 (by omega) ?_ | refine yi_eql_t (by omega) ?_ | refine yi_eql_f (by omega) ?_ | refine yi_neq_t (by omega) ?_ | refine yi_neq_f (by omega) ?_ | refine yi_gtr_t (by omega) ?_ | refine yi_gtr_f (by omega) ?_ | refine yi_leq_t (by omega) ?_ | refine yi_leq_f (by omega) ?_ | refine yi_geq_t (by omega) ?_ | refine yi_geq_f (by omega) ?_ | refine yi_xt0 ?_ | refine yi_xt1 ?_ | refine yi_xt2 ?_ | refine yi_xt3 ?_ | refine yi_T ?_ | refine yi_F ?_ | refine yi_not ?_ | refine yi_and ?_ | refine yi_or ?_ | refine yi_xor ?_ | refine yi_shr (by omega) (by decide) ?_ | refine yi_shl (by omega) (by decide) ?_ | refine yi_quo64 (by omega) ?_ | refine yi_rem64 (by omega) ?_ | refine yi_mul64 (by omega) ?_ | refine yi_neg ?_ | refine yi_un_xor32 ?_ | refine yi_add ?_ | refine yi_sub ?_ | refine yi_mul ?_ | refine yi_quo (by decide) ?_ | refine yi_rem (by decide) ?_)
        refine act ?_
        refine (sameIndexes38 vx vy _ _ wy hx hy).mono ?_
        rintro _ wz ⟨rfl, hz⟩
        have hz1 := below_then hy1 hz
        refine ⟨_, hz1, fun _ h => h, ?_⟩
        rcases Classical.em (fs = MM[i].x.fs) with hfe | hfe
        · rw [decide_eq_true (by rw [hfe])]
          (repeat with_reducible first | refine ynck ?_ | refine nck ?_ | refine cdT ?_ | refine cdF ?_ | refine gdY ?_ | refine gdFT ?_ | refine gdTF ?_ | refine gdU ?_ | refine gaY ?_ | refine gaFT ?_ | refine gaTF ?_ | refine pickT ?_ | refine pickF ?_ | refine yi_lss_t (by omega) ?_ | refine yi_lss_f (by omega) ?_ | refine yi_add64 (by omega) ?_ | refine yi_sub64 (by omega) ?_ | refine yi_eql_t (by omega) ?_ | refine yi_eql_f (by omega) ?_ | refine yi_neq_t (by omega) ?_ | refine yi_neq_f (by omega) ?_ | refine yi_gtr_t (by omega) ?_ | refine yi_gtr_f (by omega) ?_ | refine yi_leq_t (by omega) ?_ | refine yi_leq_f (by omega) ?_ | refine yi_geq_t (by omega) ?_ | refine yi_geq_f (by omega) ?_ | refine yi_xt0 ?_ | refine yi_xt1 ?_ | refine yi_xt2 ?_ | refine yi_xt3 ?_ | refine yi_T ?_ | refine yi_F ?_ | refine yi_not ?_ | refine yi_and ?_ | refine yi_or ?_ | refine yi_xor ?_ | refine yi_shr (by omega) (by decide) ?_ | refine yi_shl (by omega) (by decide) ?_ | refine yi_quo64 (by omega) ?_ | refine yi_rem64 (by omega) ?_ | refine yi_mul64 (by omega) ?_ | refine yi_neg ?_ | refine yi_un_xor32 ?_ | refine yi_add ?_ | refine yi_sub ?_ | refine yi_mul ?_ | refine yi_quo (by decide) ?_ | refine yi_rem (by decide) ?_)
          exact hJ2 _ _ ⟨⟨false, rfl, ⟨fun _ => ⟨heq, hlf, by rw [hix, hixM, hfe]⟩, fun _ => rfl⟩⟩, below_then hbb hz1⟩
        · rw [decide_eq_false (fun e => hfe (by simpa using e))]
          (repeat with_reducible first | refine ynck ?_ | refine nck ?_ | refine cdT ?_ | refine cdF ?_ | refine gdY ?_ | refine gdFT ?_ | refine gdTF ?_ | refine gdU ?_ | refine gaY ?_ | refine gaFT ?_ | refine gaTF ?_ | refine pickT ?_ | refine pickF ?_ | refine yi_lss_t (by omega) ?_ | refine yi_lss_f (by omega) ?_ | refine yi_add64 (by omega) ?_ | refine yi_sub64 (by omega) ?_ | refine yi_eql_t (by omega) ?_ | refine yi_eql_f (by omega) ?_ | refine yi_neq_t (by omega) ?_ | refine yi_neq_f (by omega) ?_ | refine yi_gtr_t (by omega) ?_ | refine yi_gtr_f (by omega) ?_ | refine yi_leq_t (by omega) ?_ | refine yi_leq_f (by omega) ?_ | refine yi_geq_t (by omega) ?_ | refine yi_geq_f (by omega) ?_ | refine yi_xt0 ?_ | refine yi_xt1 ?_ | refine yi_xt2 ?_ | refine yi_xt3 ?_ | refine yi_T ?_ | refine yi_F ?_ | refine yi_not ?_ | refine yi_and ?_ | refine yi_or ?_ | refine yi_xor ?_ | refine yi_shr (by omega) (by decide) ?_ | refine yi_shl (by omega) (by decide) ?_ | refine yi_quo64 (by omega) ?_ | refine yi_rem64 (by omega) ?_ | refine yi_mul64 (by omega) ?_ | refine yi_neg ?_ | refine yi_un_xor32 ?_ | refine yi_add ?_ | refine yi_sub ?_ | refine yi_mul ?_ | refine yi_quo (by decide) ?_ | refine yi_rem (by decide) ?_)
          exact hJ2 _ _ ⟨⟨true, rfl, ⟨fun e => (by cases e), fun e => absurd (by have := e.2.2; rw [hix, hixM] at this; simpa using this) hfe⟩⟩, below_then hbb hz1⟩
end
end Go.Proofs.Ytcfncjejpjjhdaa.E
/- awake, light, readers of acts; BoardReady. -/
namespace Go.Proofs.Ytcfncjejpjjhdaa.E
open Go Go.RowKit
set_option linter.unusedSimpArgs false
set_option linter.unusedVariables false

theorem not_lt_nil' (s : Txt) : ¬ s < [] := by simp
theorem aw_m1 : mns [allR] ([109], []) = [([], [109])] := by
  refine (IsMinus.eq ⟨⟨by simp; decide, by simp⟩, fun s => ?_⟩).symm
  have := not_lt_nil' s
  simp [inL, hasR, allR]
theorem aw_m2 : mns [([], [109])] allR = [] := by
  refine (IsMinus.eq ⟨⟨by simp, by simp⟩, fun s => ?_⟩).symm
  have := not_lt_nil' s
  simp [inL, hasR, allR]
theorem ck0 : ckI [0] = 0 := by
  unfold ckI
  rw [if_neg (by simp), if_neg (by simp), if_pos ⟨by simp, by simp⟩]
theorem aw_de : deV [] [0] [allR] = [⟨[0], 1, [allR]⟩] ∧ deE [] [0] = (1, 0) := by
  obtain ⟨d1, d2⟩ := de_good (V := []) (fs := [0]) (by simp) ck0
  rw [d2, d1]
  exact ⟨rfl, rfl⟩
theorem ok_nil : BdOk 1 [] := ⟨by simp, by simp⟩
def LowD (hu : Nat) (w0 : World) (w : World) (g : Nat) (V : BdV) : Prop := ∃ c : Nat → Nat, (∀ k, k < w0.heap.size → c k = 0) ∧ BdS hu c w g V ∧ Below w0.heap.size w0 w
theorem LowD.step {hu : Nat} {w0 w w' : World} {g : Nat} {V V' : BdV} (hh : hu ≠ 0) {c : Nat → Nat} (hc : ∀ k, k < w0.heap.size → c k = 0) (hb : Below w0.heap.size w0 w) (h : LeftD hu c w g V' w') : LowD hu w0 w' g V' := by
  obtain ⟨c', h1, h2, hT⟩ := h
  refine ⟨c', fun k hk => (h1 k (Nat.lt_of_lt_of_le hk hb.size)).trans (hc k hk), h2, hb.trans (hT.below hb.size fun k hk e => ?_)⟩
  rw [hc k hk] at e
  exact hh e.symm
theorem bE0 (w : World) : (Instr.buildSlice 23 1 #[(0, .int .i64 0)]).run Try.prog w = .ok (.slice (some ⟨w.heap.size, 0, none⟩) 1 1) (w.alloc (.cells #[.int .i64 0] 3)) := bI1 w 0
theorem ok_one {n : Nat} {st : Int} {rs : List Rg} (h1 : st = 1 ∧ rs ≠ [] ∨ st = 2 ∧ rs = []) (hc : Canon rs) (hl : rs.length ≤ n) : BdOk n [⟨[0], st, rs⟩] := ⟨by simp, fun x hx => by
  simp only [List.mem_cons, List.not_mem_nil, or_false] at hx
  subst hx
  exact ⟨by simp only; omega, fun e => h1.elim (fun h => h.2) (fun h => by simp only at e; omega), fun e => h1.elim (fun h => by simp only at e; omega) (fun h => h.2), fun e => by simp only at e; omega, fun _ => ck0, hc, hl⟩⟩
theorem re_one {st : Int} {rs : List Rg} {r : Rg} : reV [⟨[0], st, rs⟩] 1 (rep0 r) = if st = 1 then [rep0 r ⟨[0], st, rs⟩] else [⟨[0], st, rs⟩] := by
  have : stV [⟨[0], st, rs⟩] 1 = st := rfl
  unfold reV
  rw [this]
  rfl
theorem reB_one {st : Int} {rs : List Rg} {r : Rg} : reB [⟨[0], st, rs⟩] 1 (rep0 r) = decide (st = 1 ∧ mns rs r = []) := by
  have : stV [⟨[0], st, rs⟩] 1 = st := rfl
  have h2 : stV (upd [⟨[0], st, rs⟩] 1 (rep0 r)) 1 = if mns rs r = [] then 2 else 1 := rfl
  unfold reB
  rw [this, h2, decide_eq_decide]
  by_cases h : mns rs r = []
  · rw [if_pos h]; simp [h]
  · rw [if_neg h]; simp [h]
theorem awake7 (w : World) : CallP Try.prog 7 #[] (fun r w' => r = .bool true ∧ Below w.heap.size w w') w := by
  refine ⟨S7.calls _ _ ?_⟩
  unfold S7
  refine (New9 1 (by decide) (fun _ => 0) w).mono ?_
  rintro _ w1 ⟨g, c1, rfl, hc1, hS1, hb1⟩
  refine nilP undBp ?_
  simp only [Option.isNone_some]
  (repeat with_reducible first | refine nck ?_ | refine cdT ?_ | refine cdF ?_ | refine gdY ?_ | refine gdFT ?_ | refine gdTF ?_ | refine gdU ?_ | refine gaY ?_ | refine gaFT ?_ | refine gaTF ?_ | refine pickT ?_ | refine pickF ?_ | refine bi_lss_t (by omega) ?_ | refine bi_lss_f (by omega) ?_ | refine bi_add64 (by omega) ?_ | refine bi_sub64 (by omega) ?_ | refine bi_eql_t (by omega) ?_ | refine bi_eql_f (by omega) ?_ | refine bi_neq_t (by omega) ?_ | refine bi_neq_f (by omega) ?_ | refine bi_gtr_t (by omega) ?_ | refine bi_gtr_f (by omega) ?_ | refine bi_leq_t (by omega) ?_ | refine bi_leq_f (by omega) ?_ | refine bi_geq_t (by omega) ?_ | refine bi_geq_f (by omega) ?_ | refine bi_xt0 ?_ | refine bi_xt1 ?_ | refine bi_xt2 ?_ | refine bi_xt3 ?_ | refine bi_T ?_ | refine bi_F ?_ | refine bi_not ?_ | refine bi_and ?_ | refine bi_or ?_ | refine bi_xor ?_ | refine bi_shr (by omega) (by decide) ?_ | refine bi_shl (by omega) (by decide) ?_ | refine bi_quo64 (by omega) ?_ | refine bi_rem64 (by omega) ?_ | refine bi_mul64 (by omega) ?_ | refine bi_neg ?_ | refine bi_un_xor32 ?_ | refine bi_add ?_ | refine bi_sub ?_ | refine bi_mul ?_ | refine bi_quo (by decide) ?_ | refine bi_rem (by decide) ?_)
  refine bs1I bI1 ?_
  intro v2 w2 ho2 _ h2
  have hb2 := below_then hb1 h2
  refine (Declare10 (k := 1) v2 [0] ho2.rd (by simp) (hS1.below h2) ok_nil).mono ?_
  rintro _ w3 ⟨rfl, hL3⟩
  obtain ⟨c3, hc3, hS3, hb3⟩ := LowD.step (by decide) (V := []) (fun k hk => hc1 k hk) hb2 hL3
  obtain ⟨d1, d2⟩ := aw_de
  rw [d1] at hS3
  rw [d2]
  (repeat with_reducible first | refine nck ?_ | refine cdT ?_ | refine cdF ?_ | refine gdY ?_ | refine gdFT ?_ | refine gdTF ?_ | refine gdU ?_ | refine gaY ?_ | refine gaFT ?_ | refine gaTF ?_ | refine pickT ?_ | refine pickF ?_ | refine bi_lss_t (by omega) ?_ | refine bi_lss_f (by omega) ?_ | refine bi_add64 (by omega) ?_ | refine bi_sub64 (by omega) ?_ | refine bi_eql_t (by omega) ?_ | refine bi_eql_f (by omega) ?_ | refine bi_neq_t (by omega) ?_ | refine bi_neq_f (by omega) ?_ | refine bi_gtr_t (by omega) ?_ | refine bi_gtr_f (by omega) ?_ | refine bi_leq_t (by omega) ?_ | refine bi_leq_f (by omega) ?_ | refine bi_geq_t (by omega) ?_ | refine bi_geq_f (by omega) ?_ | refine bi_xt0 ?_ | refine bi_xt1 ?_ | refine bi_xt2 ?_ | refine bi_xt3 ?_ | refine bi_T ?_ | refine bi_F ?_ | refine bi_not ?_ | refine bi_and ?_ | refine bi_or ?_ | refine bi_xor ?_ | refine bi_shr (by omega) (by decide) ?_ | refine bi_shl (by omega) (by decide) ?_ | refine bi_quo64 (by omega) ?_ | refine bi_rem64 (by omega) ?_ | refine bi_mul64 (by omega) ?_ | refine bi_neg ?_ | refine bi_un_xor32 ?_ | refine bi_add ?_ | refine bi_sub ?_ | refine bi_mul ?_ | refine bi_quo (by decide) ?_ | refine bi_rem (by decide) ?_)
  refine bd (cells := rgA ([109], [])) (by kernel_rfl) ?_
  have ok3 : BdOk 1 [⟨[0], 1, [allR]⟩] := ok_one (.inl ⟨rfl, by simp⟩) canon_all (by simp)
  refine (Report11 (k := 1) 1 ([109], []) (by decide) hS3 ok3 (by decide)).mono ?_
  rintro _ w4 ⟨rfl, hL4⟩
  obtain ⟨c4, hc4, hS4, hb4⟩ := LowD.step (by decide) (V := []) hc3 hb3 hL4
  rw [re_one, if_pos rfl] at hS4
  rw [reB_one, aw_m1]
  have e4 : rep0 ([109], []) ⟨[0], 1, [allR]⟩ = ⟨[0], 1, [([], [109])]⟩ := by
    unfold rep0
    rw [aw_m1]
    rfl
  rw [e4] at hS4
  have ok4 : BdOk 1 [⟨[0], 1, [([], [109])]⟩] := ok_one (.inl ⟨rfl, by simp⟩) ⟨by simp; decide, by simp⟩ (by simp)
  refine (Left20 (n := 1) 1 (by decide) hS4 ok4 (by decide)).mono ?_
  rintro v5 w5 ⟨ho5, h5⟩
  have hb5 := below_then hb4 h5
  have e5 : lfV [⟨[0], 1, [([], [109])]⟩] 1 = [([], [109])] := rfl
  rw [e5] at ho5
  refine bd (cells := rgA allR) (by kernel_rfl) ?_
  have hcc4 := col_lt c4 w4.heap.size 0
  have hs4 := hb4.size
  refine (Report11 (k := 1) 1 allR (by decide) ((hS4.re hcc4).below h5) ok4 (by decide)).mono ?_
  rintro _ w6 ⟨rfl, hL6⟩
  have hT6 : RgR w6 [v5] [([], [109])] := by
    obtain ⟨c', _, _, hT⟩ := hL6
    refine OwnR.rd (ho5.1.turns hT fun k hk e => ?_) rgF_len fun _ _ => rfl
    rw [col_ge _ _ _ (ho5.2 k hk)] at e
    cases e
  obtain ⟨c6, hc6, hS6, hb6⟩ := LowD.step (by decide) (V := []) (fun k hk => (hcc4 k (by omega)).trans (hc4 k hk)) hb5 hL6
  rw [re_one, if_pos rfl] at hS6
  rw [reB_one, aw_m2]
  have e6 : rep0 allR ⟨[0], 1, [([], [109])]⟩ = ⟨[0], 2, []⟩ := by
    unfold rep0
    rw [aw_m2]
    rfl
  rw [e6] at hS6
  have ok6 : BdOk 1 [⟨[0], 2, []⟩] := ok_one (.inr ⟨rfl, rfl⟩) ⟨by simp, by simp⟩ (by simp)
  rw [decide_eq_false (by simp), decide_eq_true (by simp)]
  (repeat with_reducible first | refine nck ?_ | refine cdT ?_ | refine cdF ?_ | refine gdY ?_ | refine gdFT ?_ | refine gdTF ?_ | refine gdU ?_ | refine gaY ?_ | refine gaFT ?_ | refine gaTF ?_ | refine pickT ?_ | refine pickF ?_ | refine bi_lss_t (by omega) ?_ | refine bi_lss_f (by omega) ?_ | refine bi_add64 (by omega) ?_ | refine bi_sub64 (by omega) ?_ | refine bi_eql_t (by omega) ?_ | refine bi_eql_f (by omega) ?_ | refine bi_neq_t (by omega) ?_ | refine bi_neq_f (by omega) ?_ | refine bi_gtr_t (by omega) ?_ | refine bi_gtr_f (by omega) ?_ | refine bi_leq_t (by omega) ?_ | refine bi_leq_f (by omega) ?_ | refine bi_geq_t (by omega) ?_ | refine bi_geq_f (by omega) ?_ | refine bi_xt0 ?_ | refine bi_xt1 ?_ | refine bi_xt2 ?_ | refine bi_xt3 ?_ | refine bi_T ?_ | refine bi_F ?_ | refine bi_not ?_ | refine bi_and ?_ | refine bi_or ?_ | refine bi_xor ?_ | refine bi_shr (by omega) (by decide) ?_ | refine bi_shl (by omega) (by decide) ?_ | refine bi_quo64 (by omega) ?_ | refine bi_rem64 (by omega) ?_ | refine bi_mul64 (by omega) ?_ | refine bi_neg ?_ | refine bi_un_xor32 ?_ | refine bi_add ?_ | refine bi_sub ?_ | refine bi_mul ?_ | refine bi_quo (by decide) ?_ | refine bi_rem (by decide) ?_)
  obtain ⟨A5, cc5, hv5, _⟩ := hT6.slice
  rw [show ([([], [109])] : List Rg).length = 1 from rfl] at hv5
  subst hv5
  (repeat with_reducible first | refine ln und26 ?_ | refine nck ?_ | refine cdT ?_ | refine cdF ?_ | refine gdY ?_ | refine gdFT ?_ | refine gdTF ?_ | refine gdU ?_ | refine gaY ?_ | refine gaFT ?_ | refine gaTF ?_ | refine pickT ?_ | refine pickF ?_ | refine bi_lss_t (by omega) ?_ | refine bi_lss_f (by omega) ?_ | refine bi_add64 (by omega) ?_ | refine bi_sub64 (by omega) ?_ | refine bi_eql_t (by omega) ?_ | refine bi_eql_f (by omega) ?_ | refine bi_neq_t (by omega) ?_ | refine bi_neq_f (by omega) ?_ | refine bi_gtr_t (by omega) ?_ | refine bi_gtr_f (by omega) ?_ | refine bi_leq_t (by omega) ?_ | refine bi_leq_f (by omega) ?_ | refine bi_geq_t (by omega) ?_ | refine bi_geq_f (by omega) ?_ | refine bi_xt0 ?_ | refine bi_xt1 ?_ | refine bi_xt2 ?_ | refine bi_xt3 ?_ | refine bi_T ?_ | refine bi_F ?_ | refine bi_not ?_ | refine bi_and ?_ | refine bi_or ?_ | refine bi_xor ?_ | refine bi_shr (by omega) (by decide) ?_ | refine bi_shl (by omega) (by decide) ?_ | refine bi_quo64 (by omega) ?_ | refine bi_rem64 (by omega) ?_ | refine bi_mul64 (by omega) ?_ | refine bi_neg ?_ | refine bi_un_xor32 ?_ | refine bi_add ?_ | refine bi_sub ?_ | refine bi_mul ?_ | refine bi_quo (by decide) ?_ | refine bi_rem (by decide) ?_)
  obtain ⟨a, ha, hcell⟩ := RgR.at hT6 0 (by decide)
  subst ha
  refine ixN und26 sz23 0 (by decide) ?_
  (repeat with_reducible first | refine nck ?_ | refine cdT ?_ | refine cdF ?_ | refine gdY ?_ | refine gdFT ?_ | refine gdTF ?_ | refine gdU ?_ | refine gaY ?_ | refine gaFT ?_ | refine gaTF ?_ | refine pickT ?_ | refine pickF ?_ | refine bi_lss_t (by omega) ?_ | refine bi_lss_f (by omega) ?_ | refine bi_add64 (by omega) ?_ | refine bi_sub64 (by omega) ?_ | refine bi_eql_t (by omega) ?_ | refine bi_eql_f (by omega) ?_ | refine bi_neq_t (by omega) ?_ | refine bi_neq_f (by omega) ?_ | refine bi_gtr_t (by omega) ?_ | refine bi_gtr_f (by omega) ?_ | refine bi_leq_t (by omega) ?_ | refine bi_leq_f (by omega) ?_ | refine bi_geq_t (by omega) ?_ | refine bi_geq_f (by omega) ?_ | refine bi_xt0 ?_ | refine bi_xt1 ?_ | refine bi_xt2 ?_ | refine bi_xt3 ?_ | refine bi_T ?_ | refine bi_F ?_ | refine bi_not ?_ | refine bi_and ?_ | refine bi_or ?_ | refine bi_xor ?_ | refine bi_shr (by omega) (by decide) ?_ | refine bi_shl (by omega) (by decide) ?_ | refine bi_quo64 (by omega) ?_ | refine bi_rem64 (by omega) ?_ | refine bi_mul64 (by omega) ?_ | refine bi_neg ?_ | refine bi_un_xor32 ?_ | refine bi_add ?_ | refine bi_sub ?_ | refine bi_mul ?_ | refine bi_quo (by decide) ?_ | refine bi_rem (by decide) ?_)
  refine ldR (us := rgF ([], [109])) agg23 hcell (by rw [sz23]; rfl) ?_
  (repeat with_reducible first | refine nck ?_ | refine cdT ?_ | refine cdF ?_ | refine gdY ?_ | refine gdFT ?_ | refine gdTF ?_ | refine gdU ?_ | refine gaY ?_ | refine gaFT ?_ | refine gaTF ?_ | refine pickT ?_ | refine pickF ?_ | refine bi_lss_t (by omega) ?_ | refine bi_lss_f (by omega) ?_ | refine bi_add64 (by omega) ?_ | refine bi_sub64 (by omega) ?_ | refine bi_eql_t (by omega) ?_ | refine bi_eql_f (by omega) ?_ | refine bi_neq_t (by omega) ?_ | refine bi_neq_f (by omega) ?_ | refine bi_gtr_t (by omega) ?_ | refine bi_gtr_f (by omega) ?_ | refine bi_leq_t (by omega) ?_ | refine bi_leq_f (by omega) ?_ | refine bi_geq_t (by omega) ?_ | refine bi_geq_f (by omega) ?_ | refine bi_xt0 ?_ | refine bi_xt1 ?_ | refine bi_xt2 ?_ | refine bi_xt3 ?_ | refine bi_T ?_ | refine bi_F ?_ | refine bi_not ?_ | refine bi_and ?_ | refine bi_or ?_ | refine bi_xor ?_ | refine bi_shr (by omega) (by decide) ?_ | refine bi_shl (by omega) (by decide) ?_ | refine bi_quo64 (by omega) ?_ | refine bi_rem64 (by omega) ?_ | refine bi_mul64 (by omega) ?_ | refine bi_neg ?_ | refine bi_un_xor32 ?_ | refine bi_add ?_ | refine bi_sub ?_ | refine bi_mul ?_ | refine bi_quo (by decide) ?_ | refine bi_rem (by decide) ?_)
  refine bd (cells := rgA ([], [109])) (by kernel_rfl) ?_
  (repeat with_reducible first | refine nck ?_ | refine cdT ?_ | refine cdF ?_ | refine gdY ?_ | refine gdFT ?_ | refine gdTF ?_ | refine gdU ?_ | refine gaY ?_ | refine gaFT ?_ | refine gaTF ?_ | refine pickT ?_ | refine pickF ?_ | refine bi_lss_t (by omega) ?_ | refine bi_lss_f (by omega) ?_ | refine bi_add64 (by omega) ?_ | refine bi_sub64 (by omega) ?_ | refine bi_eql_t (by omega) ?_ | refine bi_eql_f (by omega) ?_ | refine bi_neq_t (by omega) ?_ | refine bi_neq_f (by omega) ?_ | refine bi_gtr_t (by omega) ?_ | refine bi_gtr_f (by omega) ?_ | refine bi_leq_t (by omega) ?_ | refine bi_leq_f (by omega) ?_ | refine bi_geq_t (by omega) ?_ | refine bi_geq_f (by omega) ?_ | refine bi_xt0 ?_ | refine bi_xt1 ?_ | refine bi_xt2 ?_ | refine bi_xt3 ?_ | refine bi_T ?_ | refine bi_F ?_ | refine bi_not ?_ | refine bi_and ?_ | refine bi_or ?_ | refine bi_xor ?_ | refine bi_shr (by omega) (by decide) ?_ | refine bi_shl (by omega) (by decide) ?_ | refine bi_quo64 (by omega) ?_ | refine bi_rem64 (by omega) ?_ | refine bi_mul64 (by omega) ?_ | refine bi_neg ?_ | refine bi_un_xor32 ?_ | refine bi_add ?_ | refine bi_sub ?_ | refine bi_mul ?_ | refine bi_quo (by decide) ?_ | refine bi_rem (by decide) ?_)
  refine ofPR (pr_eql23 ([], [109]) ([], [109])) ?_
  rw [decide_eq_true rfl]
  (repeat with_reducible first | refine nck ?_ | refine cdT ?_ | refine cdF ?_ | refine gdY ?_ | refine gdFT ?_ | refine gdTF ?_ | refine gdU ?_ | refine gaY ?_ | refine gaFT ?_ | refine gaTF ?_ | refine pickT ?_ | refine pickF ?_ | refine bi_lss_t (by omega) ?_ | refine bi_lss_f (by omega) ?_ | refine bi_add64 (by omega) ?_ | refine bi_sub64 (by omega) ?_ | refine bi_eql_t (by omega) ?_ | refine bi_eql_f (by omega) ?_ | refine bi_neq_t (by omega) ?_ | refine bi_neq_f (by omega) ?_ | refine bi_gtr_t (by omega) ?_ | refine bi_gtr_f (by omega) ?_ | refine bi_leq_t (by omega) ?_ | refine bi_leq_f (by omega) ?_ | refine bi_geq_t (by omega) ?_ | refine bi_geq_f (by omega) ?_ | refine bi_xt0 ?_ | refine bi_xt1 ?_ | refine bi_xt2 ?_ | refine bi_xt3 ?_ | refine bi_T ?_ | refine bi_F ?_ | refine bi_not ?_ | refine bi_and ?_ | refine bi_or ?_ | refine bi_xor ?_ | refine bi_shr (by omega) (by decide) ?_ | refine bi_shl (by omega) (by decide) ?_ | refine bi_quo64 (by omega) ?_ | refine bi_rem64 (by omega) ?_ | refine bi_mul64 (by omega) ?_ | refine bi_neg ?_ | refine bi_un_xor32 ?_ | refine bi_add ?_ | refine bi_sub ?_ | refine bi_mul ?_ | refine bi_quo (by decide) ?_ | refine bi_rem (by decide) ?_)
  refine (State13 (n := 1) 1 (by decide) hS6 ok6).mono ?_
  rintro _ w7 ⟨rfl, h7⟩
  have e7 : stV [⟨[0], 2, []⟩] 1 = 2 := rfl
  rw [e7]
  (repeat with_reducible first | refine nck ?_ | refine cdT ?_ | refine cdF ?_ | refine gdY ?_ | refine gdFT ?_ | refine gdTF ?_ | refine gdU ?_ | refine gaY ?_ | refine gaFT ?_ | refine gaTF ?_ | refine pickT ?_ | refine pickF ?_ | refine bi_lss_t (by omega) ?_ | refine bi_lss_f (by omega) ?_ | refine bi_add64 (by omega) ?_ | refine bi_sub64 (by omega) ?_ | refine bi_eql_t (by omega) ?_ | refine bi_eql_f (by omega) ?_ | refine bi_neq_t (by omega) ?_ | refine bi_neq_f (by omega) ?_ | refine bi_gtr_t (by omega) ?_ | refine bi_gtr_f (by omega) ?_ | refine bi_leq_t (by omega) ?_ | refine bi_leq_f (by omega) ?_ | refine bi_geq_t (by omega) ?_ | refine bi_geq_f (by omega) ?_ | refine bi_xt0 ?_ | refine bi_xt1 ?_ | refine bi_xt2 ?_ | refine bi_xt3 ?_ | refine bi_T ?_ | refine bi_F ?_ | refine bi_not ?_ | refine bi_and ?_ | refine bi_or ?_ | refine bi_xor ?_ | refine bi_shr (by omega) (by decide) ?_ | refine bi_shl (by omega) (by decide) ?_ | refine bi_quo64 (by omega) ?_ | refine bi_rem64 (by omega) ?_ | refine bi_mul64 (by omega) ?_ | refine bi_neg ?_ | refine bi_un_xor32 ?_ | refine bi_add ?_ | refine bi_sub ?_ | refine bi_mul ?_ | refine bi_quo (by decide) ?_ | refine bi_rem (by decide) ?_)
  refine (Drop16 (k := 1) 1 (by decide) (hS6.below h7) ok6).mono ?_
  rintro _ w8 ⟨rfl, hL8⟩
  obtain ⟨c8, hc8, hS8, hb8⟩ := LowD.step (by decide) (V := []) hc6 (below_then hb6 h7) hL8
  have e8 : drV [⟨[0], 2, []⟩] 1 gone0 = [⟨[], 3, []⟩] := rfl
  have e9 : drE [⟨[0], 2, []⟩] 1 = 0 := rfl
  rw [e8] at hS8
  rw [e9]
  (repeat with_reducible first | refine nck ?_ | refine cdT ?_ | refine cdF ?_ | refine gdY ?_ | refine gdFT ?_ | refine gdTF ?_ | refine gdU ?_ | refine gaY ?_ | refine gaFT ?_ | refine gaTF ?_ | refine pickT ?_ | refine pickF ?_ | refine bi_lss_t (by omega) ?_ | refine bi_lss_f (by omega) ?_ | refine bi_add64 (by omega) ?_ | refine bi_sub64 (by omega) ?_ | refine bi_eql_t (by omega) ?_ | refine bi_eql_f (by omega) ?_ | refine bi_neq_t (by omega) ?_ | refine bi_neq_f (by omega) ?_ | refine bi_gtr_t (by omega) ?_ | refine bi_gtr_f (by omega) ?_ | refine bi_leq_t (by omega) ?_ | refine bi_leq_f (by omega) ?_ | refine bi_geq_t (by omega) ?_ | refine bi_geq_f (by omega) ?_ | refine bi_xt0 ?_ | refine bi_xt1 ?_ | refine bi_xt2 ?_ | refine bi_xt3 ?_ | refine bi_T ?_ | refine bi_F ?_ | refine bi_not ?_ | refine bi_and ?_ | refine bi_or ?_ | refine bi_xor ?_ | refine bi_shr (by omega) (by decide) ?_ | refine bi_shl (by omega) (by decide) ?_ | refine bi_quo64 (by omega) ?_ | refine bi_rem64 (by omega) ?_ | refine bi_mul64 (by omega) ?_ | refine bi_neg ?_ | refine bi_un_xor32 ?_ | refine bi_add ?_ | refine bi_sub ?_ | refine bi_mul ?_ | refine bi_quo (by decide) ?_ | refine bi_rem (by decide) ?_)
  have ok8 : BdOk 1 [⟨[], 3, []⟩] := ⟨by simp, fun x hx => by
    simp only [List.mem_cons, List.not_mem_nil, or_false] at hx
    subst hx
    exact ⟨.inr (.inr rfl), fun e => (by cases e), fun _ => rfl, fun _ => rfl, fun e => absurd rfl e, ⟨by simp, by simp⟩, by simp⟩⟩
  refine (Version26 (n := 1) hS8 ok8).mono ?_
  rintro _ w9 ⟨rfl, h9⟩
  have e10 : veV [⟨[], 3, []⟩] = 2 := rfl
  rw [e10]
  (repeat with_reducible first | refine nck ?_ | refine cdT ?_ | refine cdF ?_ | refine gdY ?_ | refine gdFT ?_ | refine gdTF ?_ | refine gdU ?_ | refine gaY ?_ | refine gaFT ?_ | refine gaTF ?_ | refine pickT ?_ | refine pickF ?_ | refine bi_lss_t (by omega) ?_ | refine bi_lss_f (by omega) ?_ | refine bi_add64 (by omega) ?_ | refine bi_sub64 (by omega) ?_ | refine bi_eql_t (by omega) ?_ | refine bi_eql_f (by omega) ?_ | refine bi_neq_t (by omega) ?_ | refine bi_neq_f (by omega) ?_ | refine bi_gtr_t (by omega) ?_ | refine bi_gtr_f (by omega) ?_ | refine bi_leq_t (by omega) ?_ | refine bi_leq_f (by omega) ?_ | refine bi_geq_t (by omega) ?_ | refine bi_geq_f (by omega) ?_ | refine bi_xt0 ?_ | refine bi_xt1 ?_ | refine bi_xt2 ?_ | refine bi_xt3 ?_ | refine bi_T ?_ | refine bi_F ?_ | refine bi_not ?_ | refine bi_and ?_ | refine bi_or ?_ | refine bi_xor ?_ | refine bi_shr (by omega) (by decide) ?_ | refine bi_shl (by omega) (by decide) ?_ | refine bi_quo64 (by omega) ?_ | refine bi_rem64 (by omega) ?_ | refine bi_mul64 (by omega) ?_ | refine bi_neg ?_ | refine bi_un_xor32 ?_ | refine bi_add ?_ | refine bi_sub ?_ | refine bi_mul ?_ | refine bi_quo (by decide) ?_ | refine bi_rem (by decide) ?_)
  exact ⟨rfl, below_then hb8 h9⟩
/-! ### acts -/
structure ActB where
  kind : Int
  id : Int
  fs : List Int
  r : Rg
abbrev AcB : Rdr (List ActB) := rRow 5 (fun w us x => ∃ vf, us = [.int .i64 x.kind, .int .i64 x.id, vf, tS x.r.1, tS x.r.2] ∧ Rd w vf (iV x.fs))
theorem keeps_AcB : Keeps AcB := keeps_Row (fun _ _ _ _ hb h => by obtain ⟨vf, h1, h2⟩ := h; exact ⟨vf, h1, h2.below hb⟩)
theorem undAs : Try.prog.underlying 37 = some (.slice 44) := by kernel_rfl
theorem szA : (Try.prog.info? 44).map (·.size) = some 5 := by kernel_rfl
theorem p0 : fofs Try.prog 44 0 = some (0, 1) := by kernel_rfl
theorem p1 : fofs Try.prog 44 1 = some (1, 1) := by kernel_rfl
theorem p2 : fofs Try.prog 44 2 = some (2, 1) := by kernel_rfl
theorem p3 : fofs Try.prog 44 3 = some (3, 2) := by kernel_rfl
abbrev IntsT : Rdr (List Int) := rRow 1 (rI .i64)
abbrev ActBT := Int × Int × List Int × RgT × Unit
abbrev rActB : Rdr ActBT := rCons 1 (rI .i64) (rCons 1 (rI .i64) (rCons 1 IntsT (rCons 2 rRgT rNil)))
abbrev ActsB : Rdr (List ActBT) := rRow 5 rActB
theorem opens_IntsT : Opens Try.prog 23 IntsT := opens_row undIs (by kernel_rfl) (opens_int und3)
theorem opens_ActB : Opens Try.prog 44 rActB := opens_struct Try.underlying44 (by kernel_rfl) (opensF_cons rfl (by kernel_rfl) (by decide) (opens_int und3) (opensF_cons rfl (by kernel_rfl) (by decide) (opens_int und3) (opensF_cons rfl (by kernel_rfl) (by decide) opens_IntsT (opensF_cons rfl (by kernel_rfl) (by decide) opens_Rg opensF_nil))))
theorem opens_ActsB : Opens Try.prog 37 ActsB := opens_row undAs (by kernel_rfl) opens_ActB
def toActB (x : ActBT) : ActB := ⟨x.1, x.2.1, x.2.2.1, toRg x.2.2.2.1⟩
theorem intsT_rd {w : World} {v : Value} {l : List Int} (h : IntsT w [v] l) : Rd w v (iV l) ∧ ∀ n ∈ l, (Lit.int .i64 n).wf = true := by
  obtain ⟨A, c, he, h1, h2, h3⟩ := h
  simp only [List.cons.injEq, and_true] at he
  subst he
  refine ⟨⟨A, c, by rw [List.length_map], by rw [List.length_map]; exact h1, by simp only [maxLen] at h2; omega, fun i u hu => ?_⟩, fun n hn => ?_⟩
  · rw [List.getElem?_map] at hu
    obtain ⟨y, hy, rfl⟩ := Option.map_eq_some_iff.1 hu
    obtain ⟨a, us, ha, hus, hcell, hr, _⟩ := h3 i y hy
    subst hr
    refine ⟨a, ha, ?_⟩
    have := hcell 0 _ rfl
    rwa [Nat.mul_one, Nat.add_zero] at this
  · obtain ⟨i, hi, rfl⟩ := List.getElem_of_mem hn
    obtain ⟨a, us, ha, hus, hcell, hr, hw⟩ := h3 i _ (List.getElem?_eq_getElem hi)
    exact hw
theorem actB_cells {w : World} {us : List Value} {x : ActBT} (h : rActB w us x) : (∃ vf, us = [.int .i64 x.1, .int .i64 x.2.1, vf, tS (toRg x.2.2.2.1).1, tS (toRg x.2.2.2.1).2] ∧ Rd w vf (iV x.2.2.1)) ∧ (Lit.int .i64 x.2.1).wf = true := by
  obtain ⟨r, rfl, _, h⟩ := rCons_I h
  obtain ⟨r, rfl, hw, h⟩ := rCons_I h
  obtain ⟨h1, h2⟩ := h
  obtain ⟨h3, h4⟩ := h2
  have e1 := rgT_cells h3
  have e2 : (r.drop 1).drop 2 = [] := h4
  have hI := h1
  obtain ⟨A, c, he, _⟩ := hI
  rw [he] at h1
  have e4 : r.drop 1 = (r.drop 1).take 2 ++ (r.drop 1).drop 2 := (List.take_append_drop 2 _).symm
  have e3 : r = r.take 1 ++ r.drop 1 := (List.take_append_drop 1 r).symm
  rw [e4, e1, e2, he] at e3
  rw [e3]
  exact ⟨⟨_, rfl, (intsT_rd h1).1⟩, hw⟩
theorem actsB_of {w : World} {v : Value} {l : List ActBT} (h : ActsB w [v] l) : AcB w [v] (l.map toActB) ∧ ∀ a ∈ l.map toActB, a.id ≤ 9223372036854775807 := by
  obtain ⟨A, c, he, h1, h2, h3⟩ := h
  refine ⟨⟨A, c, by rw [he, List.length_map], by rw [List.length_map]; exact h1, h2, fun i x hx => ?_⟩, fun a ha => ?_⟩
  · rw [List.getElem?_map] at hx
    obtain ⟨y, hy, rfl⟩ := Option.map_eq_some_iff.1 hx
    obtain ⟨a, us, ha, hus, hcell, hr⟩ := h3 i y hy
    exact ⟨a, us, ha, hus, hcell, (actB_cells hr).1⟩
  · obtain ⟨x, hx, rfl⟩ := List.mem_map.1 ha
    obtain ⟨i, hi, rfl⟩ := List.getElem_of_mem hx
    obtain ⟨a, us, _, hus, hcell, hr⟩ := h3 i l[i] (List.getElem?_eq_getElem hi)
    exact (bounds_i64 (actB_cells hr).2).2
end Go.Proofs.Ytcfncjejpjjhdaa.E
/- light; BoardReady. -/
namespace Go.Proofs.Ytcfncjejpjjhdaa.E
open Go Go.RowKit
set_option linter.unusedSimpArgs false
set_option linter.unusedVariables false

theorem canon_nil_iff {l : List Rg} (h : Canon l) : l = [] ↔ ∀ s, ¬ inL l s := by
  constructor
  · intro e s hs; rw [e] at hs; exact inL_nil s hs
  · intro e
    exact canon_ext _ _ h ⟨by simp, by simp⟩ fun s => ⟨fun hs => absurd hs (e s), fun hs => absurd hs (inL_nil s)⟩
theorem acB_at {w : World} {A : Option Addr} {n c : Nat} {l : List ActB} (h : AcB w [.slice A n c] l) (i : Nat) (hi : i < l.length) :
    ∃ a Af cf, A = some a ∧ w.cell? ((a.add (i * 5)).add 0) = some (.int .i64 l[i].kind) ∧ w.cell? ((a.add (i * 5)).add 1) = some (.int .i64 l[i].id) ∧ w.cell? ((a.add (i * 5)).add 2) = some (.slice Af l[i].fs.length cf) ∧
      (∀ j u, (rgF l[i].r)[j]? = some u → w.cell? ((a.add (i * 5)).add (3 + j)) = some u) ∧ Rd w (.slice Af l[i].fs.length cf) (iV l[i].fs) := by
  obtain ⟨a, us, rfl, _, hcell, vf, rfl, hrd⟩ := rRow.at h i hi
  obtain ⟨Af, cf, rfl, _⟩ := hrd.slice
  have hl : (iV l[i].fs).length = l[i].fs.length := List.length_map _
  rw [hl] at hrd hcell
  refine ⟨a, Af, cf, rfl, hcell 0 _ rfl, hcell 1 _ rfl, hcell 2 _ rfl, fun j u hu => ?_, hrd⟩
  match j, hu with
  | 0, hu => exact hcell 3 _ hu
  | 1, hu => exact hcell 4 _ hu
  | n + 2, hu => simp [rgF] at hu
theorem addAdd {a : Addr} {w : World} {us : List Value} {o : Nat} (h : ∀ j u, us[j]? = some u → w.cell? (a.add (o + j)) = some u) : ∀ j u, us[j]? = some u → w.cell? ((a.add o).add j) = some u := fun j u hu => by rw [add_add]; exact h j u hu
theorem light14 (v : Value) (l : List ActB) (w : World) (hv : AcB w [v] l) : CallP Try.prog 14 #[v] (fun r w' => ∃ b, r = .bool b ∧ (b = true → l.length ≤ 60 ∧ ∀ a ∈ l, a.fs.length ≤ 50) ∧ Below w.heap.size w w') w := by
  obtain ⟨A, c, rfl, hc, hm⟩ := hv.slice
  refine ⟨S14.calls _ _ _ ?_⟩
  unfold S14
  refine LoopP.inv1 (fun iv w' => ∃ k : Nat, k ≤ l.length ∧ k ≤ 61 ∧ iv = .int .i64 k ∧ (∀ a ∈ l.take k, a.fs.length ≤ 50) ∧ Below w.heap.size w w') (fun iv _ => l.length - (intOf iv).toNat) ⟨0, by omega, by omega, rfl, by simp, Below.refl _ _⟩ ?_
  rintro _ w1 ⟨k, hk, hk1, rfl, hall, hb1⟩ J hJ
  dsimp only [List.headD_cons, List.tail_cons]
  refine ln undAs ?_
  refine bi_lss_c (fun h => ?a) (fun h => ?b)
  case' a =>
    have hk' : k < l.length := by omega
    (repeat with_reducible first | refine nck ?_ | refine cdT ?_ | refine cdF ?_ | refine gdY ?_ | refine gdFT ?_ | refine gdTF ?_ | refine gdU ?_ | refine gaY ?_ | refine gaFT ?_ | refine gaTF ?_ | refine pickT ?_ | refine pickF ?_ | refine bi_lss_t (by omega) ?_ | refine bi_lss_f (by omega) ?_ | refine bi_add64 (by omega) ?_ | refine bi_sub64 (by omega) ?_ | refine bi_eql_t (by omega) ?_ | refine bi_eql_f (by omega) ?_ | refine bi_neq_t (by omega) ?_ | refine bi_neq_f (by omega) ?_ | refine bi_gtr_t (by omega) ?_ | refine bi_gtr_f (by omega) ?_ | refine bi_leq_t (by omega) ?_ | refine bi_leq_f (by omega) ?_ | refine bi_geq_t (by omega) ?_ | refine bi_geq_f (by omega) ?_ | refine bi_xt0 ?_ | refine bi_xt1 ?_ | refine bi_xt2 ?_ | refine bi_xt3 ?_ | refine bi_T ?_ | refine bi_F ?_ | refine bi_not ?_ | refine bi_and ?_ | refine bi_or ?_ | refine bi_xor ?_ | refine bi_shr (by omega) (by decide) ?_ | refine bi_shl (by omega) (by decide) ?_ | refine bi_quo64 (by omega) ?_ | refine bi_rem64 (by omega) ?_ | refine bi_mul64 (by omega) ?_ | refine bi_neg ?_ | refine bi_un_xor32 ?_ | refine bi_add ?_ | refine bi_sub ?_ | refine bi_mul ?_ | refine bi_quo (by decide) ?_ | refine bi_rem (by decide) ?_)
    refine bi_leq_c (fun h2 => ?a1) (fun h2 => ?a2)
  case a1 =>
    obtain ⟨a, Af, cf, rfl, q0, q1, q2, q3, hrd⟩ := acB_at (keeps_AcB _ _ _ _ hb1 hv) k hk'
    (repeat with_reducible first | refine ixN undAs szA k hk' ?_ | refine fdA p2 (by decide) ?_ | refine ld oneIs q2 ?_ | refine ln undIs ?_ | refine nck ?_ | refine cdT ?_ | refine cdF ?_ | refine gdY ?_ | refine gdFT ?_ | refine gdTF ?_ | refine gdU ?_ | refine gaY ?_ | refine gaFT ?_ | refine gaTF ?_ | refine pickT ?_ | refine pickF ?_ | refine bi_lss_t (by omega) ?_ | refine bi_lss_f (by omega) ?_ | refine bi_add64 (by omega) ?_ | refine bi_sub64 (by omega) ?_ | refine bi_eql_t (by omega) ?_ | refine bi_eql_f (by omega) ?_ | refine bi_neq_t (by omega) ?_ | refine bi_neq_f (by omega) ?_ | refine bi_gtr_t (by omega) ?_ | refine bi_gtr_f (by omega) ?_ | refine bi_leq_t (by omega) ?_ | refine bi_leq_f (by omega) ?_ | refine bi_geq_t (by omega) ?_ | refine bi_geq_f (by omega) ?_ | refine bi_xt0 ?_ | refine bi_xt1 ?_ | refine bi_xt2 ?_ | refine bi_xt3 ?_ | refine bi_T ?_ | refine bi_F ?_ | refine bi_not ?_ | refine bi_and ?_ | refine bi_or ?_ | refine bi_xor ?_ | refine bi_shr (by omega) (by decide) ?_ | refine bi_shl (by omega) (by decide) ?_ | refine bi_quo64 (by omega) ?_ | refine bi_rem64 (by omega) ?_ | refine bi_mul64 (by omega) ?_ | refine bi_neg ?_ | refine bi_un_xor32 ?_ | refine bi_add ?_ | refine bi_sub ?_ | refine bi_mul ?_ | refine bi_quo (by decide) ?_ | refine bi_rem (by decide) ?_)
    refine bi_gtr_c (fun h3 => ?_) (fun h3 => ?_)
    · (repeat with_reducible first | refine nck ?_ | refine cdT ?_ | refine cdF ?_ | refine gdY ?_ | refine gdFT ?_ | refine gdTF ?_ | refine gdU ?_ | refine gaY ?_ | refine gaFT ?_ | refine gaTF ?_ | refine pickT ?_ | refine pickF ?_ | refine bi_lss_t (by omega) ?_ | refine bi_lss_f (by omega) ?_ | refine bi_add64 (by omega) ?_ | refine bi_sub64 (by omega) ?_ | refine bi_eql_t (by omega) ?_ | refine bi_eql_f (by omega) ?_ | refine bi_neq_t (by omega) ?_ | refine bi_neq_f (by omega) ?_ | refine bi_gtr_t (by omega) ?_ | refine bi_gtr_f (by omega) ?_ | refine bi_leq_t (by omega) ?_ | refine bi_leq_f (by omega) ?_ | refine bi_geq_t (by omega) ?_ | refine bi_geq_f (by omega) ?_ | refine bi_xt0 ?_ | refine bi_xt1 ?_ | refine bi_xt2 ?_ | refine bi_xt3 ?_ | refine bi_T ?_ | refine bi_F ?_ | refine bi_not ?_ | refine bi_and ?_ | refine bi_or ?_ | refine bi_xor ?_ | refine bi_shr (by omega) (by decide) ?_ | refine bi_shl (by omega) (by decide) ?_ | refine bi_quo64 (by omega) ?_ | refine bi_rem64 (by omega) ?_ | refine bi_mul64 (by omega) ?_ | refine bi_neg ?_ | refine bi_un_xor32 ?_ | refine bi_add ?_ | refine bi_sub ?_ | refine bi_mul ?_ | refine bi_quo (by decide) ?_ | refine bi_rem (by decide) ?_)
      exact ⟨false, rfl, (fun e => by cases e), hb1⟩
    (repeat with_reducible first | refine ixN undAs szA k hk' ?_ | refine fdA p3 (by decide) ?_ | refine nck ?_ | refine cdT ?_ | refine cdF ?_ | refine gdY ?_ | refine gdFT ?_ | refine gdTF ?_ | refine gdU ?_ | refine gaY ?_ | refine gaFT ?_ | refine gaTF ?_ | refine pickT ?_ | refine pickF ?_ | refine bi_lss_t (by omega) ?_ | refine bi_lss_f (by omega) ?_ | refine bi_add64 (by omega) ?_ | refine bi_sub64 (by omega) ?_ | refine bi_eql_t (by omega) ?_ | refine bi_eql_f (by omega) ?_ | refine bi_neq_t (by omega) ?_ | refine bi_neq_f (by omega) ?_ | refine bi_gtr_t (by omega) ?_ | refine bi_gtr_f (by omega) ?_ | refine bi_leq_t (by omega) ?_ | refine bi_leq_f (by omega) ?_ | refine bi_geq_t (by omega) ?_ | refine bi_geq_f (by omega) ?_ | refine bi_xt0 ?_ | refine bi_xt1 ?_ | refine bi_xt2 ?_ | refine bi_xt3 ?_ | refine bi_T ?_ | refine bi_F ?_ | refine bi_not ?_ | refine bi_and ?_ | refine bi_or ?_ | refine bi_xor ?_ | refine bi_shr (by omega) (by decide) ?_ | refine bi_shl (by omega) (by decide) ?_ | refine bi_quo64 (by omega) ?_ | refine bi_rem64 (by omega) ?_ | refine bi_mul64 (by omega) ?_ | refine bi_neg ?_ | refine bi_un_xor32 ?_ | refine bi_add ?_ | refine bi_sub ?_ | refine bi_mul ?_ | refine bi_quo (by decide) ?_ | refine bi_rem (by decide) ?_)
    refine ldR (us := rgF l[k].r) agg23 (addAdd q3) (by rw [sz23]; rfl) ?_
    (repeat with_reducible first | refine nck ?_ | refine cdT ?_ | refine cdF ?_ | refine gdY ?_ | refine gdFT ?_ | refine gdTF ?_ | refine gdU ?_ | refine gaY ?_ | refine gaFT ?_ | refine gaTF ?_ | refine pickT ?_ | refine pickF ?_ | refine bi_lss_t (by omega) ?_ | refine bi_lss_f (by omega) ?_ | refine bi_add64 (by omega) ?_ | refine bi_sub64 (by omega) ?_ | refine bi_eql_t (by omega) ?_ | refine bi_eql_f (by omega) ?_ | refine bi_neq_t (by omega) ?_ | refine bi_neq_f (by omega) ?_ | refine bi_gtr_t (by omega) ?_ | refine bi_gtr_f (by omega) ?_ | refine bi_leq_t (by omega) ?_ | refine bi_leq_f (by omega) ?_ | refine bi_geq_t (by omega) ?_ | refine bi_geq_f (by omega) ?_ | refine bi_xt0 ?_ | refine bi_xt1 ?_ | refine bi_xt2 ?_ | refine bi_xt3 ?_ | refine bi_T ?_ | refine bi_F ?_ | refine bi_not ?_ | refine bi_and ?_ | refine bi_or ?_ | refine bi_xor ?_ | refine bi_shr (by omega) (by decide) ?_ | refine bi_shl (by omega) (by decide) ?_ | refine bi_quo64 (by omega) ?_ | refine bi_rem64 (by omega) ?_ | refine bi_mul64 (by omega) ?_ | refine bi_neg ?_ | refine bi_un_xor32 ?_ | refine bi_add ?_ | refine bi_sub ?_ | refine bi_mul ?_ | refine bi_quo (by decide) ?_ | refine bi_rem (by decide) ?_)
    refine bs1R l[k].r ?_
    intro v2 w2 ho2 hb2
    (repeat with_reducible first | refine nck ?_ | refine cdT ?_ | refine cdF ?_ | refine gdY ?_ | refine gdFT ?_ | refine gdTF ?_ | refine gdU ?_ | refine gaY ?_ | refine gaFT ?_ | refine gaTF ?_ | refine pickT ?_ | refine pickF ?_ | refine bi_lss_t (by omega) ?_ | refine bi_lss_f (by omega) ?_ | refine bi_add64 (by omega) ?_ | refine bi_sub64 (by omega) ?_ | refine bi_eql_t (by omega) ?_ | refine bi_eql_f (by omega) ?_ | refine bi_neq_t (by omega) ?_ | refine bi_neq_f (by omega) ?_ | refine bi_gtr_t (by omega) ?_ | refine bi_gtr_f (by omega) ?_ | refine bi_leq_t (by omega) ?_ | refine bi_leq_f (by omega) ?_ | refine bi_geq_t (by omega) ?_ | refine bi_geq_f (by omega) ?_ | refine bi_xt0 ?_ | refine bi_xt1 ?_ | refine bi_xt2 ?_ | refine bi_xt3 ?_ | refine bi_T ?_ | refine bi_F ?_ | refine bi_not ?_ | refine bi_and ?_ | refine bi_or ?_ | refine bi_xor ?_ | refine bi_shr (by omega) (by decide) ?_ | refine bi_shl (by omega) (by decide) ?_ | refine bi_quo64 (by omega) ?_ | refine bi_rem64 (by omega) ?_ | refine bi_mul64 (by omega) ?_ | refine bi_neg ?_ | refine bi_un_xor32 ?_ | refine bi_add ?_ | refine bi_sub ?_ | refine bi_mul ?_ | refine bi_quo (by decide) ?_ | refine bi_rem (by decide) ?_)
    refine (light11 v2 [l[k].r] 1 (by decide) w2 ho2.rd).mono ?_
    rintro _ _ ⟨z, rfl, _, rfl⟩
    have hb2' := below_then hb1 hb2
    cases z with
    | false =>
      (repeat with_reducible first | refine nck ?_ | refine cdT ?_ | refine cdF ?_ | refine gdY ?_ | refine gdFT ?_ | refine gdTF ?_ | refine gdU ?_ | refine gaY ?_ | refine gaFT ?_ | refine gaTF ?_ | refine pickT ?_ | refine pickF ?_ | refine bi_lss_t (by omega) ?_ | refine bi_lss_f (by omega) ?_ | refine bi_add64 (by omega) ?_ | refine bi_sub64 (by omega) ?_ | refine bi_eql_t (by omega) ?_ | refine bi_eql_f (by omega) ?_ | refine bi_neq_t (by omega) ?_ | refine bi_neq_f (by omega) ?_ | refine bi_gtr_t (by omega) ?_ | refine bi_gtr_f (by omega) ?_ | refine bi_leq_t (by omega) ?_ | refine bi_leq_f (by omega) ?_ | refine bi_geq_t (by omega) ?_ | refine bi_geq_f (by omega) ?_ | refine bi_xt0 ?_ | refine bi_xt1 ?_ | refine bi_xt2 ?_ | refine bi_xt3 ?_ | refine bi_T ?_ | refine bi_F ?_ | refine bi_not ?_ | refine bi_and ?_ | refine bi_or ?_ | refine bi_xor ?_ | refine bi_shr (by omega) (by decide) ?_ | refine bi_shl (by omega) (by decide) ?_ | refine bi_quo64 (by omega) ?_ | refine bi_rem64 (by omega) ?_ | refine bi_mul64 (by omega) ?_ | refine bi_neg ?_ | refine bi_un_xor32 ?_ | refine bi_add ?_ | refine bi_sub ?_ | refine bi_mul ?_ | refine bi_quo (by decide) ?_ | refine bi_rem (by decide) ?_)
      exact ⟨false, rfl, (fun e => by cases e), hb2'⟩
    | true =>
      (repeat with_reducible first | refine nck ?_ | refine cdT ?_ | refine cdF ?_ | refine gdY ?_ | refine gdFT ?_ | refine gdTF ?_ | refine gdU ?_ | refine gaY ?_ | refine gaFT ?_ | refine gaTF ?_ | refine pickT ?_ | refine pickF ?_ | refine bi_lss_t (by omega) ?_ | refine bi_lss_f (by omega) ?_ | refine bi_add64 (by omega) ?_ | refine bi_sub64 (by omega) ?_ | refine bi_eql_t (by omega) ?_ | refine bi_eql_f (by omega) ?_ | refine bi_neq_t (by omega) ?_ | refine bi_neq_f (by omega) ?_ | refine bi_gtr_t (by omega) ?_ | refine bi_gtr_f (by omega) ?_ | refine bi_leq_t (by omega) ?_ | refine bi_leq_f (by omega) ?_ | refine bi_geq_t (by omega) ?_ | refine bi_geq_f (by omega) ?_ | refine bi_xt0 ?_ | refine bi_xt1 ?_ | refine bi_xt2 ?_ | refine bi_xt3 ?_ | refine bi_T ?_ | refine bi_F ?_ | refine bi_not ?_ | refine bi_and ?_ | refine bi_or ?_ | refine bi_xor ?_ | refine bi_shr (by omega) (by decide) ?_ | refine bi_shl (by omega) (by decide) ?_ | refine bi_quo64 (by omega) ?_ | refine bi_rem64 (by omega) ?_ | refine bi_mul64 (by omega) ?_ | refine bi_neg ?_ | refine bi_un_xor32 ?_ | refine bi_add ?_ | refine bi_sub ?_ | refine bi_mul ?_ | refine bi_quo (by decide) ?_ | refine bi_rem (by decide) ?_)
      refine hJ _ _ ⟨k + 1, by omega, by omega, by simp, fun a ha => ?_, hb2'⟩ (by simp [intOf]; omega)
      rw [List.take_succ_eq_append_getElem hk'] at ha
      rcases List.mem_append.1 ha with ha | ha
      · exact hall a ha
      · simp only [List.mem_cons, List.not_mem_nil, or_false] at ha
        rw [ha]; omega
  all_goals
    (repeat with_reducible first | refine nck ?_ | refine cdT ?_ | refine cdF ?_ | refine gdY ?_ | refine gdFT ?_ | refine gdTF ?_ | refine gdU ?_ | refine gaY ?_ | refine gaFT ?_ | refine gaTF ?_ | refine pickT ?_ | refine pickF ?_ | refine bi_lss_t (by omega) ?_ | refine bi_lss_f (by omega) ?_ | refine bi_add64 (by omega) ?_ | refine bi_sub64 (by omega) ?_ | refine bi_eql_t (by omega) ?_ | refine bi_eql_f (by omega) ?_ | refine bi_neq_t (by omega) ?_ | refine bi_neq_f (by omega) ?_ | refine bi_gtr_t (by omega) ?_ | refine bi_gtr_f (by omega) ?_ | refine bi_leq_t (by omega) ?_ | refine bi_leq_f (by omega) ?_ | refine bi_geq_t (by omega) ?_ | refine bi_geq_f (by omega) ?_ | refine bi_xt0 ?_ | refine bi_xt1 ?_ | refine bi_xt2 ?_ | refine bi_xt3 ?_ | refine bi_T ?_ | refine bi_F ?_ | refine bi_not ?_ | refine bi_and ?_ | refine bi_or ?_ | refine bi_xor ?_ | refine bi_shr (by omega) (by decide) ?_ | refine bi_shl (by omega) (by decide) ?_ | refine bi_quo64 (by omega) ?_ | refine bi_rem64 (by omega) ?_ | refine bi_mul64 (by omega) ?_ | refine bi_neg ?_ | refine bi_un_xor32 ?_ | refine bi_add ?_ | refine bi_sub ?_ | refine bi_mul ?_ | refine bi_quo (by decide) ?_ | refine bi_rem (by decide) ?_)
    refine ln undAs ?_
    refine bi_leq_c (fun h5 => ?_) (fun h5 => ?_)
    · first
        | (exfalso; omega)
        | (have : k = l.length := by omega
           subst this
           rw [List.take_length] at hall
           exact ⟨true, rfl, fun _ => ⟨by omega, hall⟩, hb1⟩)
    · exact ⟨false, rfl, (fun e => by cases e), hb1⟩
theorem bneq_T {P : Program} {K : Value → World → Prop} {w : World} {x y : Operand} {t : TypeId} {b : Bool} (ht : P.underlying t = some .bool) (k : K (.bool false) w) : LiftP P (binS .neq t x y (.bool b) (.bool b)) K w := by
  refine bi_bneq ht ?_
  rw [decide_eq_false (fun h => h rfl)]
  exact k
/-- append(v, r), told where the row lies. -/
theorem OwnA.pushB {K : Value → World → Prop} {cs : Array Bool} {B : Nat} {w : World} {v : Value} {l : List Rg} (h : OwnA B w v l) (hB : B ≤ w.heap.size) (hl : l.length ≤ 100000) (r : Rg)
    (k : ∀ v' w', OwnA B w' v' (l ++ [r]) → (v'.ownBlock = v.ownBlock ∨ ∃ b, v'.ownBlock = some b ∧ w.heap.size ≤ b) → Turns (fun j => v.ownBlock = some j) w w' → Below B w w' → K v' w') :
    LiftP Try.prog (Instr.buildSlice 22 1 #[(0, rgV r)]) (fun u w => NextP Try.prog (builtin .append #[22, 22] 22 cs #[v, u]) K w) w := by
  refine apOne (us := rgF r) und26 inf23 (by rfl) (by decide) h.1 (rgF_len _) (rgF_one _) (by omega) (by omega) (by kernel_rfl) ?_
  intro v2 w2 ho2 hbl2 hT2
  have hn : (l ++ [r]).length = l.length + 1 := by simp
  have hf : (l ++ [r]).flatMap rgF = l.flatMap rgF ++ rgF r := by rw [List.flatMap_append]; simp
  exact k v2 w2 ⟨by rw [hn, hf]; exact ho2, h.2.one hB hbl2⟩ hbl2 hT2 (hT2.fresh h.2 hB)
/-- Where a board of one index has got to. -/
structure OneP (V : BdV) (told : List Rg) (became : Int) : Prop where
  form : ∃ st rs, V = [⟨[0], st, rs⟩] ∧ (st = 1 ∧ rs ≠ [] ∧ became = 0 ∨ st = 2 ∧ rs = [] ∧ became = 1) ∧ Canon rs ∧ (∀ s, inL rs s ↔ ¬ inL told s) ∧ rs.length ≤ told.length + 1
theorem boardReady (v u : Value) (l : List Rg) (ord : List Int) (w : World) (hv : RgR w [v] l) (hu : IntsT w [u] ord) : CallP Try.prog 3 #[v, u] (fun r w' => r = .bool true ∧ Below w.heap.size w w') w := by
  obtain ⟨A, cA, rfl, hcA, hmA⟩ := hv.slice
  have hu' := (intsT_rd hu).1
  obtain ⟨B, cB, rfl, hcB, hmB⟩ := hu'.slice
  have hlo : (iV ord).length = ord.length := List.length_map _
  rw [hlo] at hu' hcB ⊢
  refine ⟨S3.calls _ _ _ _ ?_⟩
  unfold S3
  refine (awake7 w).mono ?_
  rintro _ w1 ⟨rfl, hb1⟩
  (repeat with_reducible first | refine nck ?_ | refine cdT ?_ | refine cdF ?_ | refine gdY ?_ | refine gdFT ?_ | refine gdTF ?_ | refine gdU ?_ | refine gaY ?_ | refine gaFT ?_ | refine gaTF ?_ | refine pickT ?_ | refine pickF ?_ | refine bi_lss_t (by omega) ?_ | refine bi_lss_f (by omega) ?_ | refine bi_add64 (by omega) ?_ | refine bi_sub64 (by omega) ?_ | refine bi_eql_t (by omega) ?_ | refine bi_eql_f (by omega) ?_ | refine bi_neq_t (by omega) ?_ | refine bi_neq_f (by omega) ?_ | refine bi_gtr_t (by omega) ?_ | refine bi_gtr_f (by omega) ?_ | refine bi_leq_t (by omega) ?_ | refine bi_leq_f (by omega) ?_ | refine bi_geq_t (by omega) ?_ | refine bi_geq_f (by omega) ?_ | refine bi_xt0 ?_ | refine bi_xt1 ?_ | refine bi_xt2 ?_ | refine bi_xt3 ?_ | refine bi_T ?_ | refine bi_F ?_ | refine bi_not ?_ | refine bi_and ?_ | refine bi_or ?_ | refine bi_xor ?_ | refine bi_shr (by omega) (by decide) ?_ | refine bi_shl (by omega) (by decide) ?_ | refine bi_quo64 (by omega) ?_ | refine bi_rem64 (by omega) ?_ | refine bi_mul64 (by omega) ?_ | refine bi_neg ?_ | refine bi_un_xor32 ?_ | refine bi_add ?_ | refine bi_sub ?_ | refine bi_mul ?_ | refine bi_quo (by decide) ?_ | refine bi_rem (by decide) ?_)
  refine (light11 _ l 20 (by decide) w1 (hv.kept hb1)).mono ?_
  rintro _ _ ⟨z, rfl, hz, rfl⟩
  cases z with
  | false =>
    (repeat with_reducible first | refine nck ?_ | refine cdT ?_ | refine cdF ?_ | refine gdY ?_ | refine gdFT ?_ | refine gdTF ?_ | refine gdU ?_ | refine gaY ?_ | refine gaFT ?_ | refine gaTF ?_ | refine pickT ?_ | refine pickF ?_ | refine bi_lss_t (by omega) ?_ | refine bi_lss_f (by omega) ?_ | refine bi_add64 (by omega) ?_ | refine bi_sub64 (by omega) ?_ | refine bi_eql_t (by omega) ?_ | refine bi_eql_f (by omega) ?_ | refine bi_neq_t (by omega) ?_ | refine bi_neq_f (by omega) ?_ | refine bi_gtr_t (by omega) ?_ | refine bi_gtr_f (by omega) ?_ | refine bi_leq_t (by omega) ?_ | refine bi_leq_f (by omega) ?_ | refine bi_geq_t (by omega) ?_ | refine bi_geq_f (by omega) ?_ | refine bi_xt0 ?_ | refine bi_xt1 ?_ | refine bi_xt2 ?_ | refine bi_xt3 ?_ | refine bi_T ?_ | refine bi_F ?_ | refine bi_not ?_ | refine bi_and ?_ | refine bi_or ?_ | refine bi_xor ?_ | refine bi_shr (by omega) (by decide) ?_ | refine bi_shl (by omega) (by decide) ?_ | refine bi_quo64 (by omega) ?_ | refine bi_rem64 (by omega) ?_ | refine bi_mul64 (by omega) ?_ | refine bi_neg ?_ | refine bi_un_xor32 ?_ | refine bi_add ?_ | refine bi_sub ?_ | refine bi_mul ?_ | refine bi_quo (by decide) ?_ | refine bi_rem (by decide) ?_)
    exact ⟨rfl, hb1⟩
  | true =>
  have hl := hz rfl
  (repeat with_reducible first | refine ln undIs ?_ | refine nck ?_ | refine cdT ?_ | refine cdF ?_ | refine gdY ?_ | refine gdFT ?_ | refine gdTF ?_ | refine gdU ?_ | refine gaY ?_ | refine gaFT ?_ | refine gaTF ?_ | refine pickT ?_ | refine pickF ?_ | refine bi_lss_t (by omega) ?_ | refine bi_lss_f (by omega) ?_ | refine bi_add64 (by omega) ?_ | refine bi_sub64 (by omega) ?_ | refine bi_eql_t (by omega) ?_ | refine bi_eql_f (by omega) ?_ | refine bi_neq_t (by omega) ?_ | refine bi_neq_f (by omega) ?_ | refine bi_gtr_t (by omega) ?_ | refine bi_gtr_f (by omega) ?_ | refine bi_leq_t (by omega) ?_ | refine bi_leq_f (by omega) ?_ | refine bi_geq_t (by omega) ?_ | refine bi_geq_f (by omega) ?_ | refine bi_xt0 ?_ | refine bi_xt1 ?_ | refine bi_xt2 ?_ | refine bi_xt3 ?_ | refine bi_T ?_ | refine bi_F ?_ | refine bi_not ?_ | refine bi_and ?_ | refine bi_or ?_ | refine bi_xor ?_ | refine bi_shr (by omega) (by decide) ?_ | refine bi_shl (by omega) (by decide) ?_ | refine bi_quo64 (by omega) ?_ | refine bi_rem64 (by omega) ?_ | refine bi_mul64 (by omega) ?_ | refine bi_neg ?_ | refine bi_un_xor32 ?_ | refine bi_add ?_ | refine bi_sub ?_ | refine bi_mul ?_ | refine bi_quo (by decide) ?_ | refine bi_rem (by decide) ?_)
  refine bi_gtr_c (fun h60 => ?_) (fun h60 => ?_)
  · (repeat with_reducible first | refine nck ?_ | refine cdT ?_ | refine cdF ?_ | refine gdY ?_ | refine gdFT ?_ | refine gdTF ?_ | refine gdU ?_ | refine gaY ?_ | refine gaFT ?_ | refine gaTF ?_ | refine pickT ?_ | refine pickF ?_ | refine bi_lss_t (by omega) ?_ | refine bi_lss_f (by omega) ?_ | refine bi_add64 (by omega) ?_ | refine bi_sub64 (by omega) ?_ | refine bi_eql_t (by omega) ?_ | refine bi_eql_f (by omega) ?_ | refine bi_neq_t (by omega) ?_ | refine bi_neq_f (by omega) ?_ | refine bi_gtr_t (by omega) ?_ | refine bi_gtr_f (by omega) ?_ | refine bi_leq_t (by omega) ?_ | refine bi_leq_f (by omega) ?_ | refine bi_geq_t (by omega) ?_ | refine bi_geq_f (by omega) ?_ | refine bi_xt0 ?_ | refine bi_xt1 ?_ | refine bi_xt2 ?_ | refine bi_xt3 ?_ | refine bi_T ?_ | refine bi_F ?_ | refine bi_not ?_ | refine bi_and ?_ | refine bi_or ?_ | refine bi_xor ?_ | refine bi_shr (by omega) (by decide) ?_ | refine bi_shl (by omega) (by decide) ?_ | refine bi_quo64 (by omega) ?_ | refine bi_rem64 (by omega) ?_ | refine bi_mul64 (by omega) ?_ | refine bi_neg ?_ | refine bi_un_xor32 ?_ | refine bi_add ?_ | refine bi_sub ?_ | refine bi_mul ?_ | refine bi_quo (by decide) ?_ | refine bi_rem (by decide) ?_)
    exact ⟨rfl, hb1⟩
  (repeat with_reducible first | refine nck ?_ | refine cdT ?_ | refine cdF ?_ | refine gdY ?_ | refine gdFT ?_ | refine gdTF ?_ | refine gdU ?_ | refine gaY ?_ | refine gaFT ?_ | refine gaTF ?_ | refine pickT ?_ | refine pickF ?_ | refine bi_lss_t (by omega) ?_ | refine bi_lss_f (by omega) ?_ | refine bi_add64 (by omega) ?_ | refine bi_sub64 (by omega) ?_ | refine bi_eql_t (by omega) ?_ | refine bi_eql_f (by omega) ?_ | refine bi_neq_t (by omega) ?_ | refine bi_neq_f (by omega) ?_ | refine bi_gtr_t (by omega) ?_ | refine bi_gtr_f (by omega) ?_ | refine bi_leq_t (by omega) ?_ | refine bi_leq_f (by omega) ?_ | refine bi_geq_t (by omega) ?_ | refine bi_geq_f (by omega) ?_ | refine bi_xt0 ?_ | refine bi_xt1 ?_ | refine bi_xt2 ?_ | refine bi_xt3 ?_ | refine bi_T ?_ | refine bi_F ?_ | refine bi_not ?_ | refine bi_and ?_ | refine bi_or ?_ | refine bi_xor ?_ | refine bi_shr (by omega) (by decide) ?_ | refine bi_shl (by omega) (by decide) ?_ | refine bi_quo64 (by omega) ?_ | refine bi_rem64 (by omega) ?_ | refine bi_mul64 (by omega) ?_ | refine bi_neg ?_ | refine bi_un_xor32 ?_ | refine bi_add ?_ | refine bi_sub ?_ | refine bi_mul ?_ | refine bi_quo (by decide) ?_ | refine bi_rem (by decide) ?_)
  refine (New9 1 (by decide) (fun _ => 0) w1).mono ?_
  rintro _ w2 ⟨g, c2, rfl, hc2, hS2, h2⟩
  have hb2 := below_then hb1 h2
  refine bs1I bI1 ?_
  intro v3 w3 ho3 _ h3
  have h13 := below_then h2 h3
  refine (Declare10 (k := 1) v3 [0] ho3.rd (by simp) (hS2.below h3) ok_nil).mono ?_
  rintro _ w4 ⟨_, hL4⟩
  obtain ⟨c4, hc4, hS4, h14⟩ := LowD.step (by decide) (V := []) (fun k hk => hc2 k hk) h13 hL4
  obtain ⟨d1, d2⟩ := aw_de
  rw [d1] at hS4
  have hv1 := hv.kept hb1
  have hu1 := hu'.below hb1
  have one0 : OneP [⟨[0], 1, [allR]⟩] [] 0 := ⟨1, [allR], rfl, .inl ⟨rfl, by simp, rfl⟩, canon_all, fun s => ⟨fun _ => inL_nil s, fun _ => in_all s⟩, by simp⟩
  refine LoopP.inv3 (fun tv bv iv w' => ∃ (i : Nat) (told : List Rg) (bec : Int) (V : BdV) (c : Nat → Nat), i ≤ ord.length ∧ iv = .int .i64 i ∧ bv = .int .i64 bec ∧ told.length ≤ i ∧ OwnA w1.heap.size w' tv told ∧ OneP V told bec ∧ (∀ k, k < w1.heap.size → c k = 0) ∧ (∀ k, tv.ownBlock = some k → c k = 0) ∧ BdS 1 c w' g V ∧ Below w1.heap.size w1 w') (fun _ _ iv _ => ord.length - (intOf iv).toNat)
    ⟨0, [], 0, _, c4, by omega, rfl, rfl, by simp, OwnA.nil _ _, one0, hc4, fun k hk => (by cases hk), hS4, h14⟩ ?_
  clear one0 hS4 hc4 h14 hL4
  rintro tv _ _ w5 ⟨i, told, bec, V, c, hi, rfl, rfl, htl, hown, hone, hlow, hcol, hS, hb5⟩ J hJ
  dsimp only [List.headD_cons, List.tail_cons]
  refine ln undIs ?_
  refine bi_lss_c (fun hlt => ?_) (fun hlt => ?_)
  rotate_left
  · (repeat with_reducible first | refine nck ?_ | refine cdT ?_ | refine cdF ?_ | refine gdY ?_ | refine gdFT ?_ | refine gdTF ?_ | refine gdU ?_ | refine gaY ?_ | refine gaFT ?_ | refine gaTF ?_ | refine pickT ?_ | refine pickF ?_ | refine bi_lss_t (by omega) ?_ | refine bi_lss_f (by omega) ?_ | refine bi_add64 (by omega) ?_ | refine bi_sub64 (by omega) ?_ | refine bi_eql_t (by omega) ?_ | refine bi_eql_f (by omega) ?_ | refine bi_neq_t (by omega) ?_ | refine bi_neq_f (by omega) ?_ | refine bi_gtr_t (by omega) ?_ | refine bi_gtr_f (by omega) ?_ | refine bi_leq_t (by omega) ?_ | refine bi_leq_f (by omega) ?_ | refine bi_geq_t (by omega) ?_ | refine bi_geq_f (by omega) ?_ | refine bi_xt0 ?_ | refine bi_xt1 ?_ | refine bi_xt2 ?_ | refine bi_xt3 ?_ | refine bi_T ?_ | refine bi_F ?_ | refine bi_not ?_ | refine bi_and ?_ | refine bi_or ?_ | refine bi_xor ?_ | refine bi_shr (by omega) (by decide) ?_ | refine bi_shl (by omega) (by decide) ?_ | refine bi_quo64 (by omega) ?_ | refine bi_rem64 (by omega) ?_ | refine bi_mul64 (by omega) ?_ | refine bi_neg ?_ | refine bi_un_xor32 ?_ | refine bi_add ?_ | refine bi_sub ?_ | refine bi_mul ?_ | refine bi_quo (by decide) ?_ | refine bi_rem (by decide) ?_)
    exact ⟨rfl, below_then hb1 hb5⟩
  have hi' : i < ord.length := by omega
  obtain ⟨ao, rfl, hco⟩ := Rd.atI hu1 i hi'
  have ko : ∀ w', Below w1.heap.size w1 w' → w'.cell? (ao.add i) = some (.int .i64 ord[i]) := RdKeep hco
  (repeat with_reducible first | refine nck ?_ | refine cdT ?_ | refine cdF ?_ | refine gdY ?_ | refine gdFT ?_ | refine gdTF ?_ | refine gdU ?_ | refine gaY ?_ | refine gaFT ?_ | refine gaTF ?_ | refine pickT ?_ | refine pickF ?_ | refine bi_lss_t (by omega) ?_ | refine bi_lss_f (by omega) ?_ | refine bi_add64 (by omega) ?_ | refine bi_sub64 (by omega) ?_ | refine bi_eql_t (by omega) ?_ | refine bi_eql_f (by omega) ?_ | refine bi_neq_t (by omega) ?_ | refine bi_neq_f (by omega) ?_ | refine bi_gtr_t (by omega) ?_ | refine bi_gtr_f (by omega) ?_ | refine bi_leq_t (by omega) ?_ | refine bi_leq_f (by omega) ?_ | refine bi_geq_t (by omega) ?_ | refine bi_geq_f (by omega) ?_ | refine bi_xt0 ?_ | refine bi_xt1 ?_ | refine bi_xt2 ?_ | refine bi_xt3 ?_ | refine bi_T ?_ | refine bi_F ?_ | refine bi_not ?_ | refine bi_and ?_ | refine bi_or ?_ | refine bi_xor ?_ | refine bi_shr (by omega) (by decide) ?_ | refine bi_shl (by omega) (by decide) ?_ | refine bi_quo64 (by omega) ?_ | refine bi_rem64 (by omega) ?_ | refine bi_mul64 (by omega) ?_ | refine bi_neg ?_ | refine bi_un_xor32 ?_ | refine bi_add ?_ | refine bi_sub ?_ | refine bi_mul ?_ | refine bi_quo (by decide) ?_ | refine bi_rem (by decide) ?_)
  refine JoinP.cut (fun xs w' => ∃ (tv' : Value) (told' : List Rg) (bec' : Int) (V' : BdV) (c' : Nat → Nat), xs = [tv', .int .i64 bec'] ∧ told'.length ≤ i + 1 ∧ OwnA w1.heap.size w' tv' told' ∧ OneP V' told' bec' ∧ (∀ k, k < w1.heap.size → c' k = 0) ∧ (∀ k, tv'.ownBlock = some k → c' k = 0) ∧ BdS 1 c' w' g V' ∧ Below w1.heap.size w1 w') (fun J2 hJ2 => ?_) (fun xs w' hI => ?_)
  rotate_left
  · obtain ⟨tv', told', bec', V', c', rfl, q1, q2, q3, q4, q5, q6, q7⟩ := hI
    dsimp only [List.headD_cons, List.tail_cons]
    (repeat with_reducible first | refine nck ?_ | refine cdT ?_ | refine cdF ?_ | refine gdY ?_ | refine gdFT ?_ | refine gdTF ?_ | refine gdU ?_ | refine gaY ?_ | refine gaFT ?_ | refine gaTF ?_ | refine pickT ?_ | refine pickF ?_ | refine bi_lss_t (by omega) ?_ | refine bi_lss_f (by omega) ?_ | refine bi_add64 (by omega) ?_ | refine bi_sub64 (by omega) ?_ | refine bi_eql_t (by omega) ?_ | refine bi_eql_f (by omega) ?_ | refine bi_neq_t (by omega) ?_ | refine bi_neq_f (by omega) ?_ | refine bi_gtr_t (by omega) ?_ | refine bi_gtr_f (by omega) ?_ | refine bi_leq_t (by omega) ?_ | refine bi_leq_f (by omega) ?_ | refine bi_geq_t (by omega) ?_ | refine bi_geq_f (by omega) ?_ | refine bi_xt0 ?_ | refine bi_xt1 ?_ | refine bi_xt2 ?_ | refine bi_xt3 ?_ | refine bi_T ?_ | refine bi_F ?_ | refine bi_not ?_ | refine bi_and ?_ | refine bi_or ?_ | refine bi_xor ?_ | refine bi_shr (by omega) (by decide) ?_ | refine bi_shl (by omega) (by decide) ?_ | refine bi_quo64 (by omega) ?_ | refine bi_rem64 (by omega) ?_ | refine bi_mul64 (by omega) ?_ | refine bi_neg ?_ | refine bi_un_xor32 ?_ | refine bi_add ?_ | refine bi_sub ?_ | refine bi_mul ?_ | refine bi_quo (by decide) ?_ | refine bi_rem (by decide) ?_)
    exact hJ _ _ _ _ ⟨i + 1, told', bec', V', c', by omega, by simp, rfl, q1, q2, q3, q4, q5, q6, q7⟩ (by simp [intOf]; omega)
  have stay : J2 [tv, .int .i64 bec] w5 := hJ2 _ _ ⟨tv, told, bec, V, c, rfl, by omega, hown, hone, hlow, hcol, hS, hb5⟩
  refine ix1 undIs szI hi' ?_
  refine ld oneI (ko _ hb5) ?_
  refine bi_lss_c (fun h1 => ?_) (fun h1 => ?_)
  · (repeat with_reducible first | refine nck ?_ | refine cdT ?_ | refine cdF ?_ | refine gdY ?_ | refine gdFT ?_ | refine gdTF ?_ | refine gdU ?_ | refine gaY ?_ | refine gaFT ?_ | refine gaTF ?_ | refine pickT ?_ | refine pickF ?_ | refine bi_lss_t (by omega) ?_ | refine bi_lss_f (by omega) ?_ | refine bi_add64 (by omega) ?_ | refine bi_sub64 (by omega) ?_ | refine bi_eql_t (by omega) ?_ | refine bi_eql_f (by omega) ?_ | refine bi_neq_t (by omega) ?_ | refine bi_neq_f (by omega) ?_ | refine bi_gtr_t (by omega) ?_ | refine bi_gtr_f (by omega) ?_ | refine bi_leq_t (by omega) ?_ | refine bi_leq_f (by omega) ?_ | refine bi_geq_t (by omega) ?_ | refine bi_geq_f (by omega) ?_ | refine bi_xt0 ?_ | refine bi_xt1 ?_ | refine bi_xt2 ?_ | refine bi_xt3 ?_ | refine bi_T ?_ | refine bi_F ?_ | refine bi_not ?_ | refine bi_and ?_ | refine bi_or ?_ | refine bi_xor ?_ | refine bi_shr (by omega) (by decide) ?_ | refine bi_shl (by omega) (by decide) ?_ | refine bi_quo64 (by omega) ?_ | refine bi_rem64 (by omega) ?_ | refine bi_mul64 (by omega) ?_ | refine bi_neg ?_ | refine bi_un_xor32 ?_ | refine bi_add ?_ | refine bi_sub ?_ | refine bi_mul ?_ | refine bi_quo (by decide) ?_ | refine bi_rem (by decide) ?_)
    exact stay
  (repeat with_reducible first | refine nck ?_ | refine cdT ?_ | refine cdF ?_ | refine gdY ?_ | refine gdFT ?_ | refine gdTF ?_ | refine gdU ?_ | refine gaY ?_ | refine gaFT ?_ | refine gaTF ?_ | refine pickT ?_ | refine pickF ?_ | refine bi_lss_t (by omega) ?_ | refine bi_lss_f (by omega) ?_ | refine bi_add64 (by omega) ?_ | refine bi_sub64 (by omega) ?_ | refine bi_eql_t (by omega) ?_ | refine bi_eql_f (by omega) ?_ | refine bi_neq_t (by omega) ?_ | refine bi_neq_f (by omega) ?_ | refine bi_gtr_t (by omega) ?_ | refine bi_gtr_f (by omega) ?_ | refine bi_leq_t (by omega) ?_ | refine bi_leq_f (by omega) ?_ | refine bi_geq_t (by omega) ?_ | refine bi_geq_f (by omega) ?_ | refine bi_xt0 ?_ | refine bi_xt1 ?_ | refine bi_xt2 ?_ | refine bi_xt3 ?_ | refine bi_T ?_ | refine bi_F ?_ | refine bi_not ?_ | refine bi_and ?_ | refine bi_or ?_ | refine bi_xor ?_ | refine bi_shr (by omega) (by decide) ?_ | refine bi_shl (by omega) (by decide) ?_ | refine bi_quo64 (by omega) ?_ | refine bi_rem64 (by omega) ?_ | refine bi_mul64 (by omega) ?_ | refine bi_neg ?_ | refine bi_un_xor32 ?_ | refine bi_add ?_ | refine bi_sub ?_ | refine bi_mul ?_ | refine bi_quo (by decide) ?_ | refine bi_rem (by decide) ?_)
  refine ix1 undIs szI hi' ?_
  (repeat with_reducible first | refine nck ?_ | refine cdT ?_ | refine cdF ?_ | refine gdY ?_ | refine gdFT ?_ | refine gdTF ?_ | refine gdU ?_ | refine gaY ?_ | refine gaFT ?_ | refine gaTF ?_ | refine pickT ?_ | refine pickF ?_ | refine bi_lss_t (by omega) ?_ | refine bi_lss_f (by omega) ?_ | refine bi_add64 (by omega) ?_ | refine bi_sub64 (by omega) ?_ | refine bi_eql_t (by omega) ?_ | refine bi_eql_f (by omega) ?_ | refine bi_neq_t (by omega) ?_ | refine bi_neq_f (by omega) ?_ | refine bi_gtr_t (by omega) ?_ | refine bi_gtr_f (by omega) ?_ | refine bi_leq_t (by omega) ?_ | refine bi_leq_f (by omega) ?_ | refine bi_geq_t (by omega) ?_ | refine bi_geq_f (by omega) ?_ | refine bi_xt0 ?_ | refine bi_xt1 ?_ | refine bi_xt2 ?_ | refine bi_xt3 ?_ | refine bi_T ?_ | refine bi_F ?_ | refine bi_not ?_ | refine bi_and ?_ | refine bi_or ?_ | refine bi_xor ?_ | refine bi_shr (by omega) (by decide) ?_ | refine bi_shl (by omega) (by decide) ?_ | refine bi_quo64 (by omega) ?_ | refine bi_rem64 (by omega) ?_ | refine bi_mul64 (by omega) ?_ | refine bi_neg ?_ | refine bi_un_xor32 ?_ | refine bi_add ?_ | refine bi_sub ?_ | refine bi_mul ?_ | refine bi_quo (by decide) ?_ | refine bi_rem (by decide) ?_)
  refine ld oneI (ko _ hb5) ?_
  (repeat with_reducible first | refine ln und26 ?_ | refine nck ?_ | refine cdT ?_ | refine cdF ?_ | refine gdY ?_ | refine gdFT ?_ | refine gdTF ?_ | refine gdU ?_ | refine gaY ?_ | refine gaFT ?_ | refine gaTF ?_ | refine pickT ?_ | refine pickF ?_ | refine bi_lss_t (by omega) ?_ | refine bi_lss_f (by omega) ?_ | refine bi_add64 (by omega) ?_ | refine bi_sub64 (by omega) ?_ | refine bi_eql_t (by omega) ?_ | refine bi_eql_f (by omega) ?_ | refine bi_neq_t (by omega) ?_ | refine bi_neq_f (by omega) ?_ | refine bi_gtr_t (by omega) ?_ | refine bi_gtr_f (by omega) ?_ | refine bi_leq_t (by omega) ?_ | refine bi_leq_f (by omega) ?_ | refine bi_geq_t (by omega) ?_ | refine bi_geq_f (by omega) ?_ | refine bi_xt0 ?_ | refine bi_xt1 ?_ | refine bi_xt2 ?_ | refine bi_xt3 ?_ | refine bi_T ?_ | refine bi_F ?_ | refine bi_not ?_ | refine bi_and ?_ | refine bi_or ?_ | refine bi_xor ?_ | refine bi_shr (by omega) (by decide) ?_ | refine bi_shl (by omega) (by decide) ?_ | refine bi_quo64 (by omega) ?_ | refine bi_rem64 (by omega) ?_ | refine bi_mul64 (by omega) ?_ | refine bi_neg ?_ | refine bi_un_xor32 ?_ | refine bi_add ?_ | refine bi_sub ?_ | refine bi_mul ?_ | refine bi_quo (by decide) ?_ | refine bi_rem (by decide) ?_)
  refine bi_geq_c (fun h2 => ?_) (fun h2 => ?_)
  · (repeat with_reducible first | refine nck ?_ | refine cdT ?_ | refine cdF ?_ | refine gdY ?_ | refine gdFT ?_ | refine gdTF ?_ | refine gdU ?_ | refine gaY ?_ | refine gaFT ?_ | refine gaTF ?_ | refine pickT ?_ | refine pickF ?_ | refine bi_lss_t (by omega) ?_ | refine bi_lss_f (by omega) ?_ | refine bi_add64 (by omega) ?_ | refine bi_sub64 (by omega) ?_ | refine bi_eql_t (by omega) ?_ | refine bi_eql_f (by omega) ?_ | refine bi_neq_t (by omega) ?_ | refine bi_neq_f (by omega) ?_ | refine bi_gtr_t (by omega) ?_ | refine bi_gtr_f (by omega) ?_ | refine bi_leq_t (by omega) ?_ | refine bi_leq_f (by omega) ?_ | refine bi_geq_t (by omega) ?_ | refine bi_geq_f (by omega) ?_ | refine bi_xt0 ?_ | refine bi_xt1 ?_ | refine bi_xt2 ?_ | refine bi_xt3 ?_ | refine bi_T ?_ | refine bi_F ?_ | refine bi_not ?_ | refine bi_and ?_ | refine bi_or ?_ | refine bi_xor ?_ | refine bi_shr (by omega) (by decide) ?_ | refine bi_shl (by omega) (by decide) ?_ | refine bi_quo64 (by omega) ?_ | refine bi_rem64 (by omega) ?_ | refine bi_mul64 (by omega) ?_ | refine bi_neg ?_ | refine bi_un_xor32 ?_ | refine bi_add ?_ | refine bi_sub ?_ | refine bi_mul ?_ | refine bi_quo (by decide) ?_ | refine bi_rem (by decide) ?_)
    exact stay
  obtain ⟨m, hm, hom⟩ : ∃ m : Nat, m < l.length ∧ ord[i] = m := ⟨ord[i].toNat, by omega, by omega⟩
  obtain ⟨a, rfl, hrc⟩ := RgR.at hv1 m hm
  have kr : ∀ w', Below w1.heap.size w1 w' → ∀ j x, (rgF l[m])[j]? = some x → w'.cell? ((a.add (m * 2)).add j) = some x := keepC hrc
  (repeat with_reducible first | refine nck ?_ | refine cdT ?_ | refine cdF ?_ | refine gdY ?_ | refine gdFT ?_ | refine gdTF ?_ | refine gdU ?_ | refine gaY ?_ | refine gaFT ?_ | refine gaTF ?_ | refine pickT ?_ | refine pickF ?_ | refine bi_lss_t (by omega) ?_ | refine bi_lss_f (by omega) ?_ | refine bi_add64 (by omega) ?_ | refine bi_sub64 (by omega) ?_ | refine bi_eql_t (by omega) ?_ | refine bi_eql_f (by omega) ?_ | refine bi_neq_t (by omega) ?_ | refine bi_neq_f (by omega) ?_ | refine bi_gtr_t (by omega) ?_ | refine bi_gtr_f (by omega) ?_ | refine bi_leq_t (by omega) ?_ | refine bi_leq_f (by omega) ?_ | refine bi_geq_t (by omega) ?_ | refine bi_geq_f (by omega) ?_ | refine bi_xt0 ?_ | refine bi_xt1 ?_ | refine bi_xt2 ?_ | refine bi_xt3 ?_ | refine bi_T ?_ | refine bi_F ?_ | refine bi_not ?_ | refine bi_and ?_ | refine bi_or ?_ | refine bi_xor ?_ | refine bi_shr (by omega) (by decide) ?_ | refine bi_shl (by omega) (by decide) ?_ | refine bi_quo64 (by omega) ?_ | refine bi_rem64 (by omega) ?_ | refine bi_mul64 (by omega) ?_ | refine bi_neg ?_ | refine bi_un_xor32 ?_ | refine bi_add ?_ | refine bi_sub ?_ | refine bi_mul ?_ | refine bi_quo (by decide) ?_ | refine bi_rem (by decide) ?_)
  refine ix1 undIs szI hi' ?_
  refine ld oneI (ko _ hb5) ?_
  rw [hom]
  refine ixN und26 sz23 m hm ?_
  refine ldR (us := rgF l[m]) agg23 (kr _ hb5) (by rw [sz23]; rfl) ?_
  have hs5 := hb5.size
  refine hown.pushB hs5 (by omega) l[m] ?_
  intro v6 w6 ho6 hbl6 hT6 h6
  have hb6 := hb5.trans h6
  have hcc5 := col_lt c w5.heap.size 0
  -- the board is not turned by the append
  have hS6 : BdS 1 (col c w5.heap.size 0) w6 g V := (hS.re hcc5).turns hT6.cut fun k hk => by
    rw [hcc5 k hk.2, hcol k hk.1]
    decide
  have hc6 : ∀ k, v6.ownBlock = some k → (col c w5.heap.size 0) k = 0 := fun k hk => by
    rcases hbl6 with e | ⟨b, e, hb⟩
    · rw [e] at hk
      rcases Nat.lt_or_ge k w5.heap.size with h | h
      · rw [hcc5 k h]; exact hcol k hk
      · exact col_ge _ _ _ h
    · rw [e] at hk
      cases hk
      exact col_ge _ _ _ hb
  have hlow6 : ∀ k, k < w1.heap.size → (col c w5.heap.size 0) k = 0 := fun k hk => (hcc5 k (by omega)).trans (hlow k hk)
  generalize col c w5.heap.size 0 = c6 at *
  obtain ⟨st, rs, rfl, hform, hcan, hcompl, hrl⟩ := hone.form
  have ok6 : BdOk 100 [⟨[0], st, rs⟩] := ok_one (hform.imp (fun h => ⟨h.1, h.2.1⟩) (fun h => ⟨h.1, h.2.1⟩)) hcan (by omega)
  obtain ⟨V', told', bec', hV', htold', hbec', hone'⟩ : ∃ (V' : BdV) (told' : List Rg) (bec' : Int), V' = reV [⟨[0], st, rs⟩] 1 (rep0 l[m]) ∧ told' = told ++ [l[m]] ∧ bec' = bec + (if reB [⟨[0], st, rs⟩] 1 (rep0 l[m]) then 1 else 0) ∧ OneP V' told' bec' := by
    refine ⟨_, _, _, rfl, rfl, rfl, ?_⟩
    rw [re_one, reB_one]
    rcases hform with ⟨rfl, hne, rfl⟩ | ⟨rfl, rfl, rfl⟩
    · rw [if_pos rfl]
      have hc' := mns_spec rs l[m]
      have hcm : ∀ s, inL (mns rs l[m]) s ↔ ¬ inL (told ++ [l[m]]) s := fun s => by
        rw [hc'.2 s, hcompl s, inL_append, inL_cons]
        have := inL_nil s
        grind
      have hll := mns_len hcan l[m]
      refine ⟨_, _, rfl, ?_, hc'.1, hcm, by rw [List.length_append]; simp only [List.length_cons, List.length_nil]; omega⟩
      by_cases hm0 : mns rs l[m] = []
      · right
        rw [if_pos hm0, decide_eq_true ⟨rfl, hm0⟩]
        exact ⟨rfl, hm0, rfl⟩
      · left
        rw [if_neg hm0, decide_eq_false (fun e => hm0 e.2)]
        exact ⟨rfl, hm0, rfl⟩
    · rw [if_neg (by decide), decide_eq_false (fun e => absurd e.1 (by decide))]
      refine ⟨2, [], rfl, .inr ⟨rfl, rfl, rfl⟩, hcan, fun s => ⟨fun h => absurd h (inL_nil s), fun h => ?_⟩, by simp⟩
      rw [inL_append] at h
      have : inL [] s := (hcompl s).2 (fun e => h (.inl e))
      exact this
  rw [← htold'] at ho6
  have htl' : told'.length ≤ i + 1 := by rw [htold', List.length_append]; simp; omega
  refine JoinP.cut (fun xs w' => ∃ c', xs = [.int .i64 bec'] ∧ OwnA w1.heap.size w' v6 told' ∧ (∀ k, k < w1.heap.size → c' k = 0) ∧ (∀ k, v6.ownBlock = some k → c' k = 0) ∧ BdS 1 c' w' g V' ∧ Below w1.heap.size w1 w') (fun J3 hJ3 => ?_) (fun xs w' hI => ?_)
  · refine ix1 undIs szI hi' ?_
    refine ld oneI (ko _ hb6) ?_
    rw [hom]
    refine ixN und26 sz23 m hm ?_
    refine ldR (us := rgF l[m]) agg23 (kr _ hb6) (by rw [sz23]; rfl) ?_
    refine (Report11 (k := 100) 1 l[m] (by decide) hS6 ok6 (by decide)).mono ?_
    rintro _ w7 ⟨rfl, hL7⟩
    rw [← hV'] at hL7
    have ho7 : OwnA w1.heap.size w7 v6 told' := by
      obtain ⟨_, _, _, hT⟩ := hL7
      exact ⟨ownsRow_turns ho6.1 hT fun k hk e => (by rw [hc6 k hk] at e; cases e), ho6.2⟩
    have hlt6 : ∀ k, v6.ownBlock = some k → k < w6.heap.size := fun k hk => ownsRow_lt ho6.1 hk
    obtain ⟨c7, q1, q2, hT7⟩ := hL7
    have hb7 : Below w1.heap.size w1 w7 := hb6.trans (hT7.below hb6.size fun k hk e => by rw [hlow6 k hk] at e; cases e)
    have hs6 := hb6.size
    have fin : ∀ x : Int, x = bec' → J3 [.int .i64 x] w7 := fun x hx => hJ3 _ _ ⟨c7, by rw [hx], ho7, fun k hk => (q1 k (by omega)).trans (hlow6 k hk), fun k hk => (q1 k (hlt6 k hk)).trans (hc6 k hk), q2, hb7⟩
    have hbb : 0 ≤ bec ∧ bec ≤ 1 := by rcases hform with ⟨_, _, e⟩ | ⟨_, _, e⟩ <;> omega
    cases hb : reB [⟨[0], st, rs⟩] 1 (rep0 l[m]) with
    | true =>
      rw [hb, if_pos rfl] at hbec'
      (repeat with_reducible first | refine nck ?_ | refine cdT ?_ | refine cdF ?_ | refine gdY ?_ | refine gdFT ?_ | refine gdTF ?_ | refine gdU ?_ | refine gaY ?_ | refine gaFT ?_ | refine gaTF ?_ | refine pickT ?_ | refine pickF ?_ | refine bi_lss_t (by omega) ?_ | refine bi_lss_f (by omega) ?_ | refine bi_add64 (by omega) ?_ | refine bi_sub64 (by omega) ?_ | refine bi_eql_t (by omega) ?_ | refine bi_eql_f (by omega) ?_ | refine bi_neq_t (by omega) ?_ | refine bi_neq_f (by omega) ?_ | refine bi_gtr_t (by omega) ?_ | refine bi_gtr_f (by omega) ?_ | refine bi_leq_t (by omega) ?_ | refine bi_leq_f (by omega) ?_ | refine bi_geq_t (by omega) ?_ | refine bi_geq_f (by omega) ?_ | refine bi_xt0 ?_ | refine bi_xt1 ?_ | refine bi_xt2 ?_ | refine bi_xt3 ?_ | refine bi_T ?_ | refine bi_F ?_ | refine bi_not ?_ | refine bi_and ?_ | refine bi_or ?_ | refine bi_xor ?_ | refine bi_shr (by omega) (by decide) ?_ | refine bi_shl (by omega) (by decide) ?_ | refine bi_quo64 (by omega) ?_ | refine bi_rem64 (by omega) ?_ | refine bi_mul64 (by omega) ?_ | refine bi_neg ?_ | refine bi_un_xor32 ?_ | refine bi_add ?_ | refine bi_sub ?_ | refine bi_mul ?_ | refine bi_quo (by decide) ?_ | refine bi_rem (by decide) ?_)
      exact fin _ hbec'.symm
    | false =>
      rw [hb, if_neg (by simp), Int.add_zero] at hbec'
      (repeat with_reducible first | refine nck ?_ | refine cdT ?_ | refine cdF ?_ | refine gdY ?_ | refine gdFT ?_ | refine gdTF ?_ | refine gdU ?_ | refine gaY ?_ | refine gaFT ?_ | refine gaTF ?_ | refine pickT ?_ | refine pickF ?_ | refine bi_lss_t (by omega) ?_ | refine bi_lss_f (by omega) ?_ | refine bi_add64 (by omega) ?_ | refine bi_sub64 (by omega) ?_ | refine bi_eql_t (by omega) ?_ | refine bi_eql_f (by omega) ?_ | refine bi_neq_t (by omega) ?_ | refine bi_neq_f (by omega) ?_ | refine bi_gtr_t (by omega) ?_ | refine bi_gtr_f (by omega) ?_ | refine bi_leq_t (by omega) ?_ | refine bi_leq_f (by omega) ?_ | refine bi_geq_t (by omega) ?_ | refine bi_geq_f (by omega) ?_ | refine bi_xt0 ?_ | refine bi_xt1 ?_ | refine bi_xt2 ?_ | refine bi_xt3 ?_ | refine bi_T ?_ | refine bi_F ?_ | refine bi_not ?_ | refine bi_and ?_ | refine bi_or ?_ | refine bi_xor ?_ | refine bi_shr (by omega) (by decide) ?_ | refine bi_shl (by omega) (by decide) ?_ | refine bi_quo64 (by omega) ?_ | refine bi_rem64 (by omega) ?_ | refine bi_mul64 (by omega) ?_ | refine bi_neg ?_ | refine bi_un_xor32 ?_ | refine bi_add ?_ | refine bi_sub ?_ | refine bi_mul ?_ | refine bi_quo (by decide) ?_ | refine bi_rem (by decide) ?_)
      exact fin _ hbec'.symm
  clear hbec' hV' htold' hS6 ho6 hT6 hbl6
  obtain ⟨c7, rfl, ho7, hlow7, hc7, hS7, hb7⟩ := hI
  obtain ⟨st', rs', rfl, hform', hcan', hcompl', hrl'⟩ := hone'.form
  have ok7 : BdOk 100 [⟨[0], st', rs'⟩] := ok_one (hform'.imp (fun h => ⟨h.1, h.2.1⟩) (fun h => ⟨h.1, h.2.1⟩)) hcan' (by omega)
  dsimp only [List.headD_cons, List.tail_cons]
  refine bd (cells := rgA allR) (by kernel_rfl) ?_
  refine (covers24 v6 told' allR (by omega) w' ho7.rd).mono ?_
  rintro _ w8 ⟨b2, rfl, hb2, h8⟩
  have hb8 := below_then hb7 h8
  refine (State13 (n := 100) 1 (by decide) (hS7.below h8) ok7).mono ?_
  rintro _ w9 ⟨rfl, h9⟩
  have hb9 := below_then hb8 h9
  have est : stV [⟨[0], st', rs'⟩] 1 = st' := rfl
  rw [est]
  have hall : b2 = true ↔ rs' = [] := by
    rw [hb2, canon_nil_iff hcan']
    exact ⟨fun h s hs => (hcompl' s).1 hs (h s (by simp [hasR, allR])), fun h s _ => Classical.byContradiction fun e => h s ((hcompl' s).2 e)⟩
  have stay' : J2 [v6, .int .i64 bec'] w9 := hJ2 _ _ ⟨v6, told', bec', _, c7, rfl, htl', (ho7.kept h8).kept h9, hone', hlow7, hc7, (hS7.below h8).below h9, hb9⟩
  rcases hform' with ⟨rfl, hne, rfl⟩ | ⟨rfl, rfl, rfl⟩
  · have : b2 = false := by
      cases b2 with
      | false => rfl
      | true => exact absurd (hall.1 rfl) hne
    subst this
    (repeat with_reducible first | refine nck ?_ | refine cdT ?_ | refine cdF ?_ | refine gdY ?_ | refine gdFT ?_ | refine gdTF ?_ | refine gdU ?_ | refine gaY ?_ | refine gaFT ?_ | refine gaTF ?_ | refine pickT ?_ | refine pickF ?_ | refine bi_lss_t (by omega) ?_ | refine bi_lss_f (by omega) ?_ | refine bi_add64 (by omega) ?_ | refine bi_sub64 (by omega) ?_ | refine bi_eql_t (by omega) ?_ | refine bi_eql_f (by omega) ?_ | refine bi_neq_t (by omega) ?_ | refine bi_neq_f (by omega) ?_ | refine bi_gtr_t (by omega) ?_ | refine bi_gtr_f (by omega) ?_ | refine bi_leq_t (by omega) ?_ | refine bi_leq_f (by omega) ?_ | refine bi_geq_t (by omega) ?_ | refine bi_geq_f (by omega) ?_ | refine bi_xt0 ?_ | refine bi_xt1 ?_ | refine bi_xt2 ?_ | refine bi_xt3 ?_ | refine bi_T ?_ | refine bi_F ?_ | refine bi_not ?_ | refine bi_and ?_ | refine bi_or ?_ | refine bi_xor ?_ | refine bi_shr (by omega) (by decide) ?_ | refine bi_shl (by omega) (by decide) ?_ | refine bi_quo64 (by omega) ?_ | refine bi_rem64 (by omega) ?_ | refine bi_mul64 (by omega) ?_ | refine bi_neg ?_ | refine bi_un_xor32 ?_ | refine bi_add ?_ | refine bi_sub ?_ | refine bi_mul ?_ | refine bi_quo (by decide) ?_ | refine bi_rem (by decide) ?_)
    refine bneq_T undBo ?_
    (repeat with_reducible first | refine nck ?_ | refine cdT ?_ | refine cdF ?_ | refine gdY ?_ | refine gdFT ?_ | refine gdTF ?_ | refine gdU ?_ | refine gaY ?_ | refine gaFT ?_ | refine gaTF ?_ | refine pickT ?_ | refine pickF ?_ | refine bi_lss_t (by omega) ?_ | refine bi_lss_f (by omega) ?_ | refine bi_add64 (by omega) ?_ | refine bi_sub64 (by omega) ?_ | refine bi_eql_t (by omega) ?_ | refine bi_eql_f (by omega) ?_ | refine bi_neq_t (by omega) ?_ | refine bi_neq_f (by omega) ?_ | refine bi_gtr_t (by omega) ?_ | refine bi_gtr_f (by omega) ?_ | refine bi_leq_t (by omega) ?_ | refine bi_leq_f (by omega) ?_ | refine bi_geq_t (by omega) ?_ | refine bi_geq_f (by omega) ?_ | refine bi_xt0 ?_ | refine bi_xt1 ?_ | refine bi_xt2 ?_ | refine bi_xt3 ?_ | refine bi_T ?_ | refine bi_F ?_ | refine bi_not ?_ | refine bi_and ?_ | refine bi_or ?_ | refine bi_xor ?_ | refine bi_shr (by omega) (by decide) ?_ | refine bi_shl (by omega) (by decide) ?_ | refine bi_quo64 (by omega) ?_ | refine bi_rem64 (by omega) ?_ | refine bi_mul64 (by omega) ?_ | refine bi_neg ?_ | refine bi_un_xor32 ?_ | refine bi_add ?_ | refine bi_sub ?_ | refine bi_mul ?_ | refine bi_quo (by decide) ?_ | refine bi_rem (by decide) ?_)
    refine bneq_T undBo ?_
    (repeat with_reducible first | refine nck ?_ | refine cdT ?_ | refine cdF ?_ | refine gdY ?_ | refine gdFT ?_ | refine gdTF ?_ | refine gdU ?_ | refine gaY ?_ | refine gaFT ?_ | refine gaTF ?_ | refine pickT ?_ | refine pickF ?_ | refine bi_lss_t (by omega) ?_ | refine bi_lss_f (by omega) ?_ | refine bi_add64 (by omega) ?_ | refine bi_sub64 (by omega) ?_ | refine bi_eql_t (by omega) ?_ | refine bi_eql_f (by omega) ?_ | refine bi_neq_t (by omega) ?_ | refine bi_neq_f (by omega) ?_ | refine bi_gtr_t (by omega) ?_ | refine bi_gtr_f (by omega) ?_ | refine bi_leq_t (by omega) ?_ | refine bi_leq_f (by omega) ?_ | refine bi_geq_t (by omega) ?_ | refine bi_geq_f (by omega) ?_ | refine bi_xt0 ?_ | refine bi_xt1 ?_ | refine bi_xt2 ?_ | refine bi_xt3 ?_ | refine bi_T ?_ | refine bi_F ?_ | refine bi_not ?_ | refine bi_and ?_ | refine bi_or ?_ | refine bi_xor ?_ | refine bi_shr (by omega) (by decide) ?_ | refine bi_shl (by omega) (by decide) ?_ | refine bi_quo64 (by omega) ?_ | refine bi_rem64 (by omega) ?_ | refine bi_mul64 (by omega) ?_ | refine bi_neg ?_ | refine bi_un_xor32 ?_ | refine bi_add ?_ | refine bi_sub ?_ | refine bi_mul ?_ | refine bi_quo (by decide) ?_ | refine bi_rem (by decide) ?_)
    exact stay'
  · have : b2 = true := hall.2 rfl
    subst this
    (repeat with_reducible first | refine nck ?_ | refine cdT ?_ | refine cdF ?_ | refine gdY ?_ | refine gdFT ?_ | refine gdTF ?_ | refine gdU ?_ | refine gaY ?_ | refine gaFT ?_ | refine gaTF ?_ | refine pickT ?_ | refine pickF ?_ | refine bi_lss_t (by omega) ?_ | refine bi_lss_f (by omega) ?_ | refine bi_add64 (by omega) ?_ | refine bi_sub64 (by omega) ?_ | refine bi_eql_t (by omega) ?_ | refine bi_eql_f (by omega) ?_ | refine bi_neq_t (by omega) ?_ | refine bi_neq_f (by omega) ?_ | refine bi_gtr_t (by omega) ?_ | refine bi_gtr_f (by omega) ?_ | refine bi_leq_t (by omega) ?_ | refine bi_leq_f (by omega) ?_ | refine bi_geq_t (by omega) ?_ | refine bi_geq_f (by omega) ?_ | refine bi_xt0 ?_ | refine bi_xt1 ?_ | refine bi_xt2 ?_ | refine bi_xt3 ?_ | refine bi_T ?_ | refine bi_F ?_ | refine bi_not ?_ | refine bi_and ?_ | refine bi_or ?_ | refine bi_xor ?_ | refine bi_shr (by omega) (by decide) ?_ | refine bi_shl (by omega) (by decide) ?_ | refine bi_quo64 (by omega) ?_ | refine bi_rem64 (by omega) ?_ | refine bi_mul64 (by omega) ?_ | refine bi_neg ?_ | refine bi_un_xor32 ?_ | refine bi_add ?_ | refine bi_sub ?_ | refine bi_mul ?_ | refine bi_quo (by decide) ?_ | refine bi_rem (by decide) ?_)
    refine bneq_T undBo ?_
    (repeat with_reducible first | refine nck ?_ | refine cdT ?_ | refine cdF ?_ | refine gdY ?_ | refine gdFT ?_ | refine gdTF ?_ | refine gdU ?_ | refine gaY ?_ | refine gaFT ?_ | refine gaTF ?_ | refine pickT ?_ | refine pickF ?_ | refine bi_lss_t (by omega) ?_ | refine bi_lss_f (by omega) ?_ | refine bi_add64 (by omega) ?_ | refine bi_sub64 (by omega) ?_ | refine bi_eql_t (by omega) ?_ | refine bi_eql_f (by omega) ?_ | refine bi_neq_t (by omega) ?_ | refine bi_neq_f (by omega) ?_ | refine bi_gtr_t (by omega) ?_ | refine bi_gtr_f (by omega) ?_ | refine bi_leq_t (by omega) ?_ | refine bi_leq_f (by omega) ?_ | refine bi_geq_t (by omega) ?_ | refine bi_geq_f (by omega) ?_ | refine bi_xt0 ?_ | refine bi_xt1 ?_ | refine bi_xt2 ?_ | refine bi_xt3 ?_ | refine bi_T ?_ | refine bi_F ?_ | refine bi_not ?_ | refine bi_and ?_ | refine bi_or ?_ | refine bi_xor ?_ | refine bi_shr (by omega) (by decide) ?_ | refine bi_shl (by omega) (by decide) ?_ | refine bi_quo64 (by omega) ?_ | refine bi_rem64 (by omega) ?_ | refine bi_mul64 (by omega) ?_ | refine bi_neg ?_ | refine bi_un_xor32 ?_ | refine bi_add ?_ | refine bi_sub ?_ | refine bi_mul ?_ | refine bi_quo (by decide) ?_ | refine bi_rem (by decide) ?_)
    refine bneq_T undBo ?_
    (repeat with_reducible first | refine nck ?_ | refine cdT ?_ | refine cdF ?_ | refine gdY ?_ | refine gdFT ?_ | refine gdTF ?_ | refine gdU ?_ | refine gaY ?_ | refine gaFT ?_ | refine gaTF ?_ | refine pickT ?_ | refine pickF ?_ | refine bi_lss_t (by omega) ?_ | refine bi_lss_f (by omega) ?_ | refine bi_add64 (by omega) ?_ | refine bi_sub64 (by omega) ?_ | refine bi_eql_t (by omega) ?_ | refine bi_eql_f (by omega) ?_ | refine bi_neq_t (by omega) ?_ | refine bi_neq_f (by omega) ?_ | refine bi_gtr_t (by omega) ?_ | refine bi_gtr_f (by omega) ?_ | refine bi_leq_t (by omega) ?_ | refine bi_leq_f (by omega) ?_ | refine bi_geq_t (by omega) ?_ | refine bi_geq_f (by omega) ?_ | refine bi_xt0 ?_ | refine bi_xt1 ?_ | refine bi_xt2 ?_ | refine bi_xt3 ?_ | refine bi_T ?_ | refine bi_F ?_ | refine bi_not ?_ | refine bi_and ?_ | refine bi_or ?_ | refine bi_xor ?_ | refine bi_shr (by omega) (by decide) ?_ | refine bi_shl (by omega) (by decide) ?_ | refine bi_quo64 (by omega) ?_ | refine bi_rem64 (by omega) ?_ | refine bi_mul64 (by omega) ?_ | refine bi_neg ?_ | refine bi_un_xor32 ?_ | refine bi_add ?_ | refine bi_sub ?_ | refine bi_mul ?_ | refine bi_quo (by decide) ?_ | refine bi_rem (by decide) ?_)
    exact stay'
end Go.Proofs.Ytcfncjejpjjhdaa.E
/- BoardReady, as the statement calls it. -/
namespace Go.Proofs.Ytcfncjejpjjhdaa.E
open Go Go.RowKit
theorem BoardReady_law (v u : Value) (l : List RgT) (ord : List Int) (w : World) (h0 : RgsT w [v] l) (h1 : IntsT w [u] ord) :
    CallP Try.prog 3 #[v, u] (fun r w' => r = .bool true ∧ Below w.heap.size w w') w := boardReady v u _ ord w (rgsT_of h0) h1
end Go.Proofs.Ytcfncjejpjjhdaa.E
/- Several boards at once; acts on a board and the reference's; BoardKeeps. -/
namespace Go.Proofs.Ytcfncjejpjjhdaa.E
open Go Go.RowKit
set_option linter.unusedSimpArgs false
set_option linter.unusedVariables false

inductive Kd where
  | bd
  | rf
  | row
/-- A board, a board of the reference, a row of numbers of the call's own (g: how many): its colour, its place, what it is. -/
structure Ob where
  kd : Kd
  hu : Nat
  g : Nat
  V : BdV
  v : Value
abbrev obD (hu g : Nat) (V : BdV) : Ob := ⟨.bd, hu, g, V, .slice none 0 0⟩
abbrev obE (hu g : Nat) (V : BdV) : Ob := ⟨.rf, hu, g, V, .slice none 0 0⟩
abbrev obR (hu n : Nat) (v : Value) : Ob := ⟨.row, hu, n, [], v⟩
def ObS (c : Nat → Nat) (w : World) (o : Ob) : Prop := match o.kd with
  | .rf => RbS o.hu c w o.g (veV o.V) o.V
  | .bd => BdS o.hu c w o.g o.V
  | .row => (0 < o.hu ∧ o.hu < 999) ∧ InC c o.hu o.v ∧ ∃ l, Own 3 w o.v (iV l) ∧ l.length = o.g
theorem ObS.turns {c : Nat → Nat} {w w' : World} {o : Ob} {G : Nat → Prop} (h : ObS c w o) (hT : Turns G w w') (hG : ∀ k, G k → c k ≠ o.hu ∧ c k ≠ 999) : ObS c w' o := by
  unfold ObS at *
  cases hr : o.kd with
  | rf => rw [hr] at h; exact RbS.turns h hT hG
  | bd => rw [hr] at h; exact BdS.turns h hT hG
  | row =>
    rw [hr] at h
    obtain ⟨h1, h2, l, h3, h4⟩ := h
    exact ⟨h1, h2, l, ownsRow_turns h3 hT fun k hk e => (hG k e).1 (h2 k hk), h4⟩
theorem ObS.re {c c' : Nat → Nat} {w : World} {o : Ob} (h : ObS c w o) (hc : ∀ k, k < w.heap.size → c' k = c k) : ObS c' w o := by
  unfold ObS at *
  cases hr : o.kd with
  | rf => rw [hr] at h; exact RbS.re h hc
  | bd => rw [hr] at h; exact BdS.re h hc
  | row =>
    rw [hr] at h
    obtain ⟨h1, h2, l, h3, h4⟩ := h
    exact ⟨h1, fun k hk => by rw [hc k (ownsRow_lt h3 hk)]; exact h2 k hk, l, h3, h4⟩
theorem ObS.hh {c : Nat → Nat} {w : World} {o : Ob} (h : ObS c w o) : 0 < o.hu ∧ o.hu < 999 := by
  unfold ObS at h
  cases hr : o.kd with
  | rf => rw [hr] at h; obtain ⟨_, _, h, _⟩ := h; exact h.hh
  | bd => rw [hr] at h; obtain ⟨_, _, h, _⟩ := h; exact h.hh
  | row => rw [hr] at h; exact h.1
theorem ObS.below {c : Nat → Nat} {w w' : World} {o : Ob} (h : ObS c w o) (hb : Below w.heap.size w w') : ObS c w' o := h.turns (G := fun _ => False) (Turns.of_below hb) fun _ h => h.elim
/-- Objects, and that what was there at w0 stands. -/
def MemL (w0 w : World) (L : List Ob) : Prop := ∃ c : Nat → Nat, (∀ k, k < w0.heap.size → c k = 0) ∧ (∀ o ∈ L, ObS c w o) ∧ Below w0.heap.size w0 w
section
variable {w0 w w' : World} {L A B : List Ob} {o o' : Ob}
theorem MemL.bel (h : MemL w0 w L) : Below w0.heap.size w0 w := by obtain ⟨_, _, _, h⟩ := h; exact h
theorem MemL.below (h : MemL w0 w L) (hb : Below w.heap.size w w') : MemL w0 w' L := by
  obtain ⟨c, h1, h2, h3⟩ := h
  exact ⟨c, h1, fun o ho => (h2 o ho).below hb, below_then h3 hb⟩
theorem MemL.nil (w : World) : MemL w w [] := ⟨fun _ => 0, fun _ _ => rfl, by simp, Below.refl _ _⟩
/-- A call on one of them. -/
theorem MemL.call (h : MemL w0 w (A ++ o :: B)) (hd : ∀ x ∈ A ++ B, x.hu ≠ o.hu) : ∃ c, ObS c w o ∧ ∀ (o' : Ob) (w' : World), o'.hu = o.hu → (∃ c', (∀ k, k < w.heap.size → c' k = c k) ∧ ObS c' w' o' ∧ Turns (fun k => c k = o.hu) w w') → MemL w0 w' (A ++ o' :: B) := by
  obtain ⟨c, h1, h2, h3⟩ := h
  have ho := h2 o (by simp)
  have hh := ho.hh
  refine ⟨c, ho, fun o' w' e ⟨c', hc, hS, hT⟩ => ⟨c', fun k hk => (hc k (Nat.lt_of_lt_of_le hk h3.size)).trans (h1 k hk), fun x hx => ?_, h3.trans (hT.below h3.size fun k hk e => ?_)⟩⟩
  · have keep : x ∈ A ++ B → ObS c' w' x := fun hx => by
      refine ((h2 x ?_).re hc).turns hT.cut fun k hk => ?_
      · rcases List.mem_append.1 hx with h | h
        · simp [h]
        · simp [h]
      · rw [hc k hk.2]
        have := hd x hx
        have : c k = o.hu := hk.1
        omega
    rcases List.mem_append.1 hx with h | h
    · exact keep (List.mem_append.2 (.inl h))
    · rcases List.mem_cons.1 h with rfl | h
      · exact hS
      · exact keep (List.mem_append.2 (.inr h))
  · rw [h1 k hk] at e
    omega
/-- An object is made. -/
theorem MemL.make (h : MemL w0 w L) : ∃ c : Nat → Nat, ∀ (o : Ob) w', (∃ c', (∀ k, k < w.heap.size → c' k = c k) ∧ ObS c' w' o ∧ Below w.heap.size w w') → MemL w0 w' (L ++ [o]) := by
  obtain ⟨c, h1, h2, h3⟩ := h
  refine ⟨c, fun o w' ⟨c', hc, hS, hb⟩ => ⟨c', fun k hk => (hc k (Nat.lt_of_lt_of_le hk h3.size)).trans (h1 k hk), fun x hx => ?_, below_then h3 hb⟩⟩
  rcases List.mem_append.1 hx with h | h
  · exact ((h2 x h).re hc).below hb
  · simp only [List.mem_cons, List.not_mem_nil, or_false] at h
    rw [h]; exact hS
end
section
variable {w0 w w' : World} {L A B : List Ob} {hu g : Nat} {V V' : BdV}
theorem MemL.callD (h : MemL w0 w (A ++ obD hu g V :: B)) (hd : ∀ x ∈ A ++ B, x.hu ≠ hu) : ∃ c, BdS hu c w g V ∧ ∀ (V' : BdV) (w' : World), LeftD hu c w g V' w' → MemL w0 w' (A ++ obD hu g V' :: B) := by
  obtain ⟨c, h1, h2⟩ := h.call hd
  exact ⟨c, h1, fun V' w' hl => h2 (obD hu g V') w' rfl hl⟩
theorem MemL.callE (h : MemL w0 w (A ++ obE hu g V :: B)) (hd : ∀ x ∈ A ++ B, x.hu ≠ hu) : ∃ c, RbS hu c w g (veV V) V ∧ ∀ (V' : BdV) (w' : World), LeftE hu c w g (veV V') V' w' → MemL w0 w' (A ++ obE hu g V' :: B) := by
  obtain ⟨c, h1, h2⟩ := h.call hd
  exact ⟨c, h1, fun V' w' hl => h2 (obE hu g V') w' rfl hl⟩
theorem MemL.look (h : MemL w0 w (A ++ obD hu g V :: B)) : ∃ c, BdS hu c w g V := by
  obtain ⟨c, h1, h2, h3⟩ := h
  exact ⟨c, h2 (obD hu g V) (by simp)⟩
end
/-! ### acts -/
noncomputable def actV0 (V : BdV) (a : ActB) : BdV := if a.kind = 1 then deV V a.fs [allR] else if a.kind = 2 then drV V a.id gone0 else if a.kind = 3 then reV V a.id (rep0 a.r) else V
noncomputable def actM0 (V : BdV) (a : ActB) : BdV := if a.kind = 1 then deV V a.fs [] else if a.kind = 2 then drV V a.id goneR else if a.kind = 3 then reV V a.id (repR a.r) else V
structure StepB (n : Nat) (V M : BdV) : Prop where
  rel : BdRel V M
  ok : BdOk n V
  len : ∀ x ∈ M, x.rs.length ≤ n
theorem upd_mem {V : BdV} {id : Int} {f : Ln → Ln} {x : Ln} (h : x ∈ upd V id f) : x ∈ V ∨ ∃ y ∈ V, x = f y := by
  obtain ⟨i, hi, rfl⟩ := List.getElem_of_mem h
  have hi' : i < V.length := by rwa [upd_len] at hi
  rw [upd_get]
  split
  · exact .inr ⟨_, List.getElem_mem hi', rfl⟩
  · exact .inl (List.getElem_mem hi')
theorem StepB.mono {n m : Nat} {V M : BdV} (h : StepB n V M) (hm : n ≤ m) : StepB m V M :=
  ⟨h.rel, ⟨h.ok.1, fun x hx => by have := h.ok.2 x hx; exact ⟨this.1, this.2, this.3, this.4, this.5, this.6, Nat.le_trans this.7 hm⟩⟩, fun x hx => Nat.le_trans (h.len x hx) hm⟩
theorem StepB.de {n : Nat} {V M : BdV} (h : StepB n V M) (hn : 1 ≤ n) (fs : List Int) : StepB n (deV V fs [allR]) (deV M fs []) := by
  refine ⟨(de_rel h.rel fs).2, de_ok h.ok hn fs, fun x hx => ?_⟩
  unfold deV at hx
  split at hx
  · exact h.len x hx
  · split at hx
    · rcases List.mem_append.1 hx with hx | hx
      · exact h.len x hx
      · simp only [List.mem_cons, List.not_mem_nil, or_false] at hx
        rw [hx]; simp
    · exact h.len x hx
theorem StepB.dr {n : Nat} {V M : BdV} (h : StepB n V M) (id : Int) : StepB n (drV V id gone0) (drV M id goneR) := by
  refine ⟨(dr_rel h.rel id).2, dr_ok h.ok id, fun x hx => ?_⟩
  unfold drV at hx
  split at hx
  · rcases upd_mem hx with hx | ⟨y, hy, rfl⟩
    · exact h.len x hx
    · exact h.len y hy
  · exact h.len x hx
theorem StepB.re {n : Nat} {V M : BdV} (h : StepB n V M) (id : Int) (r : Rg) : StepB (n + 1) (reV V id (rep0 r)) (reV M id (repR r)) := by
  refine ⟨(re_rel h.rel id r).2, re_ok h.ok id r, fun x hx => ?_⟩
  unfold reV at hx
  split at hx
  · rcases upd_mem hx with hx | ⟨y, hy, rfl⟩
    · exact Nat.le_succ_of_le (h.len x hx)
    · have h1 := lst_len (y.rs ++ [r])
      have h2 := h.len y hy
      rw [List.length_append, List.length_cons, List.length_nil] at h1
      show (lst (y.rs ++ [r])).length ≤ n + 1
      omega
  · exact Nat.le_succ_of_le (h.len x hx)
theorem StepB.act {n : Nat} {V M : BdV} (h : StepB n V M) (hn : 1 ≤ n) (a : ActB) : StepB (n + 1) (actV0 V a) (actM0 M a) := by
  unfold actV0 actM0
  split
  · exact (h.de hn a.fs).mono (Nat.le_succ n)
  · split
    · exact (h.dr a.id).mono (Nat.le_succ n)
    · split
      · exact h.re a.id a.r
      · exact h.mono (Nat.le_succ n)
theorem StepB.st {n : Nat} {V M : BdV} (h : StepB n V M) : M.length ≤ 6 ∧ ∀ x ∈ M, x.st = 1 ∨ x.st = 2 ∨ x.st = 3 := by
  have hl := Bd_len h.rel
  refine ⟨by have := h.ok.1; omega, fun x hx => ?_⟩
  obtain ⟨i, hi, rfl⟩ := List.getElem_of_mem hx
  have hi' : i < V.length := by omega
  have := Bd_at h.rel i hi'
  rw [this.st]
  exact (h.ok.2 _ (List.getElem_mem hi')).st
theorem StepB.nil : StepB 1 [] [] := ⟨⟨rfl, fun i x y h => by simp at h⟩, ok_nil, by simp⟩
theorem ve_bound {n : Nat} {V M : BdV} (h : StepB n V M) : 0 ≤ veV M ∧ veV M ≤ 12 := by
  have h6 := h.st.1
  rw [veV_count]
  have := List.countP_le_length (p := fun x : Ln => decide (x.st = 3)) (l := M)
  omega
theorem ve_de {V : BdV} (fs : List Int) : veV (deV V fs []) = veV V + if V.length ≠ 6 ∧ ckI fs = 0 then 1 else 0 := by
  unfold deV
  by_cases h1 : V.length = 6
  · rw [if_pos h1, if_neg (fun e => e.1 h1)]; omega
  · rw [if_neg h1]
    by_cases h2 : ckI fs = 0
    · rw [if_pos h2, if_pos ⟨h1, h2⟩, ve_one]
    · rw [if_neg h2, if_neg (fun e => h2 e.2)]; omega
theorem repR_st {r : Rg} (x : Ln) : (repR r x).st ≠ 3 := by
  show (if lst _ = [allR] then (2 : Int) else 1) ≠ 3
  split <;> omega
section
variable {w0 w : World} {A B : List Ob} {hu g n : Nat} {V M : BdV}
/-- The calls, told of all boards. -/
theorem callDe {vf : Value} {fs : List Int} (h : MemL w0 w (A ++ obD hu g V :: B)) (hd : ∀ x ∈ A ++ B, x.hu ≠ hu) (hs : StepB n V M) (hf : Rd w vf (iV fs)) (hfl : fs.length ≤ 100000) :
    CallP Try.prog 10 #[.pointer (some ⟨g, 0, none⟩), vf] (fun u w' => u = .tuple #[.int .i64 (deE V fs).1, .int .i64 (deE V fs).2] ∧ MemL w0 w' (A ++ obD hu g (deV V fs [allR]) :: B)) w := by
  obtain ⟨c, h1, h2⟩ := h.callD hd
  exact (Declare10 vf fs hf hfl h1 hs.ok).mono fun u w' ⟨hu, hl⟩ => ⟨hu, h2 _ _ hl⟩
theorem callDr (id : Int) (hid : id ≤ 9223372036854775807) (h : MemL w0 w (A ++ obD hu g V :: B)) (hd : ∀ x ∈ A ++ B, x.hu ≠ hu) (hs : StepB n V M) :
    CallP Try.prog 16 #[.pointer (some ⟨g, 0, none⟩), .int .i64 id] (fun u w' => u = .int .i64 (drE V id) ∧ MemL w0 w' (A ++ obD hu g (drV V id gone0) :: B)) w := by
  obtain ⟨c, h1, h2⟩ := h.callD hd
  exact (Drop16 id hid h1 hs.ok).mono fun u w' ⟨hu, hl⟩ => ⟨hu, h2 _ _ hl⟩
theorem callRe (id : Int) (r : Rg) (hid : id ≤ 9223372036854775807) (h : MemL w0 w (A ++ obD hu g V :: B)) (hd : ∀ x ∈ A ++ B, x.hu ≠ hu) (hs : StepB n V M) (hn : n ≤ 1000) :
    CallP Try.prog 11 #[.pointer (some ⟨g, 0, none⟩), .int .i64 id, rgV r] (fun u w' => u = .bool (reB V id (rep0 r)) ∧ MemL w0 w' (A ++ obD hu g (reV V id (rep0 r)) :: B)) w := by
  obtain ⟨c, h1, h2⟩ := h.callD hd
  exact (Report11 id r hid h1 hs.ok hn).mono fun u w' ⟨hu, hl⟩ => ⟨hu, h2 _ _ hl⟩
theorem refDe {vf : Value} {fs : List Int} (h : MemL w0 w (A ++ obE hu g M :: B)) (hd : ∀ x ∈ A ++ B, x.hu ≠ hu) (hs : StepB n V M) (hf : Rd w vf (iV fs)) (hfl : fs.length ≤ 100000) :
    CallP Try.prog 15 #[.pointer (some ⟨g, 0, none⟩), vf] (fun u w' => u = .tuple #[.int .i64 (deE M fs).1, .int .i64 (deE M fs).2] ∧ MemL w0 w' (A ++ obE hu g (deV M fs []) :: B)) w := by
  obtain ⟨c, h1, h2⟩ := h.callE hd
  have hv := ve_bound hs
  exact (refDeclare15 vf fs hf hfl h1 hs.st.1 hv.1 (by omega)).mono fun u w' ⟨hu, hl⟩ => ⟨hu, h2 _ _ (by rw [ve_de]; exact hl)⟩
theorem refDr (id : Int) (hid : id ≤ 9223372036854775807) (h : MemL w0 w (A ++ obE hu g M :: B)) (hd : ∀ x ∈ A ++ B, x.hu ≠ hu) (hs : StepB n V M) :
    CallP Try.prog 17 #[.pointer (some ⟨g, 0, none⟩), .int .i64 id] (fun u w' => u = .int .i64 (drE M id) ∧ MemL w0 w' (A ++ obE hu g (drV M id goneR) :: B)) w := by
  obtain ⟨c, h1, h2⟩ := h.callE hd
  have hv := ve_bound hs
  exact (refDrop17 id hid h1 hv.1 (by omega)).mono fun u w' ⟨hu, hl⟩ => ⟨hu, h2 _ _ (by rw [ve_dr id (f := goneR) (fun _ => rfl)]; exact hl)⟩
theorem refRe (id : Int) (r : Rg) (hid : id ≤ 9223372036854775807) (h : MemL w0 w (A ++ obE hu g M :: B)) (hd : ∀ x ∈ A ++ B, x.hu ≠ hu) (hs : StepB n V M) (hn : n ≤ 100) :
    CallP Try.prog 18 #[.pointer (some ⟨g, 0, none⟩), .int .i64 id, rgV r] (fun u w' => u = .bool (reB M id (repR r)) ∧ MemL w0 w' (A ++ obE hu g (reV M id (repR r)) :: B)) w := by
  obtain ⟨c, h1, h2⟩ := h.callE hd
  exact (refReport18 id r hid h1 (fun x hx => Nat.le_trans (hs.len x hx) hn)).mono fun u w' ⟨hu, hl⟩ => ⟨hu, h2 _ _ (by rw [ve_re id (f := repR r) repR_st]; exact hl)⟩
end
end Go.Proofs.Ytcfncjejpjjhdaa.E
/- BoardKeeps. -/
namespace Go.Proofs.Ytcfncjejpjjhdaa.E
open Go Go.RowKit
set_option linter.unusedSimpArgs false
set_option linter.unusedVariables false

theorem MemL.low {w0 w w' : World} {L : List Ob} (h : MemL w0 w L) (hb : Below w.heap.size w w') : MemL w0 w' L := h.below hb
theorem undStr : Try.prog.underlying 9 = some .string := by kernel_rfl
theorem szStr : (Try.prog.info? 9).map (·.size) = some 1 := by kernel_rfl
theorem r0 : fofs Try.prog 32 0 = some (0, 1) := by kernel_rfl
/-- A new row of numbers is overwritten. -/
theorem setRow9 {B : Nat} {w w' : World} {v : Value} {l : List Int} {i : Nat} (h : Own 3 w v (iV l)) (hf : Fresh B v) (hi : i < l.length) :
    ∃ g n c, v = .slice (some ⟨g, 0, none⟩) n c ∧ n = l.length ∧ (w.cell? ⟨g, i, none⟩).isSome = true ∧ w.frozen? ⟨g, i, none⟩ = false ∧ Own 3 (w.setCell ⟨g, i, none⟩ (.int .i64 9)) v (iV (l.set i 9)) ∧ Turns (fun j => j = g) w (w.setCell ⟨g, i, none⟩ (.int .i64 9)) ∧ B ≤ g := by
  obtain ⟨A, c, rfl⟩ := h.slice
  have hl : (iV l).length = l.length := List.length_map _
  obtain ⟨g, rfl, h1, h2⟩ := h.at i (by rw [hl]; exact hi)
  rw [add0, Nat.zero_add] at h1 h2
  have hs := h.set i (by rw [hl]; exact hi) (.int .i64 9)
  rw [add0, Nat.zero_add] at hs
  have e : (iV l).set i (.int .i64 9) = iV (l.set i 9) := by unfold iV; rw [List.map_set]
  rw [e] at hs
  exact ⟨g, _, c, rfl, hl, by rw [h1]; rfl, h2, hs, Turns.setCell (F := fun j => j = g) (p := ⟨g, i, none⟩) (Turns.refl _ w) (.inl rfl) _, hf g rfl⟩
theorem boardKeeps (v u : Value) (l : List ActB) (fs : List Int) (w : World) (hv : AcB w [v] l) (hl64 : ∀ a ∈ l, a.id ≤ 9223372036854775807) (hu : Rd w u (iV fs)) : CallP Try.prog 4 #[v, u] (fun r w' => r = .bool true ∧ Below w.heap.size w w') w := by
  obtain ⟨A, cA, rfl, hcA, hmA⟩ := hv.slice
  obtain ⟨B, cB, rfl, hcB, hmB⟩ := hu.slice
  have hlo : (iV fs).length = fs.length := List.length_map _
  rw [hlo] at hu hcB ⊢
  refine ⟨S4.calls _ _ _ _ ?_⟩
  unfold S4
  refine (awake7 w).mono ?_
  rintro _ w1 ⟨rfl, hb1⟩
  (repeat with_reducible first | refine nck ?_ | refine cdT ?_ | refine cdF ?_ | refine gdY ?_ | refine gdFT ?_ | refine gdTF ?_ | refine gdU ?_ | refine gaY ?_ | refine gaFT ?_ | refine gaTF ?_ | refine pickT ?_ | refine pickF ?_ | refine bi_lss_t (by omega) ?_ | refine bi_lss_f (by omega) ?_ | refine bi_add64 (by omega) ?_ | refine bi_sub64 (by omega) ?_ | refine bi_eql_t (by omega) ?_ | refine bi_eql_f (by omega) ?_ | refine bi_neq_t (by omega) ?_ | refine bi_neq_f (by omega) ?_ | refine bi_gtr_t (by omega) ?_ | refine bi_gtr_f (by omega) ?_ | refine bi_leq_t (by omega) ?_ | refine bi_leq_f (by omega) ?_ | refine bi_geq_t (by omega) ?_ | refine bi_geq_f (by omega) ?_ | refine bi_xt0 ?_ | refine bi_xt1 ?_ | refine bi_xt2 ?_ | refine bi_xt3 ?_ | refine bi_T ?_ | refine bi_F ?_ | refine bi_not ?_ | refine bi_and ?_ | refine bi_or ?_ | refine bi_xor ?_ | refine bi_shr (by omega) (by decide) ?_ | refine bi_shl (by omega) (by decide) ?_ | refine bi_quo64 (by omega) ?_ | refine bi_rem64 (by omega) ?_ | refine bi_mul64 (by omega) ?_ | refine bi_neg ?_ | refine bi_un_xor32 ?_ | refine bi_add ?_ | refine bi_sub ?_ | refine bi_mul ?_ | refine bi_quo (by decide) ?_ | refine bi_rem (by decide) ?_)
  refine (light14 _ l w1 (keeps_AcB _ _ _ _ hb1 hv)).mono ?_
  rintro _ w2 ⟨z, rfl, hz, h2⟩
  have hb2 := below_then hb1 h2
  cases z with
  | false =>
    (repeat with_reducible first | refine nck ?_ | refine cdT ?_ | refine cdF ?_ | refine gdY ?_ | refine gdFT ?_ | refine gdTF ?_ | refine gdU ?_ | refine gaY ?_ | refine gaFT ?_ | refine gaTF ?_ | refine pickT ?_ | refine pickF ?_ | refine bi_lss_t (by omega) ?_ | refine bi_lss_f (by omega) ?_ | refine bi_add64 (by omega) ?_ | refine bi_sub64 (by omega) ?_ | refine bi_eql_t (by omega) ?_ | refine bi_eql_f (by omega) ?_ | refine bi_neq_t (by omega) ?_ | refine bi_neq_f (by omega) ?_ | refine bi_gtr_t (by omega) ?_ | refine bi_gtr_f (by omega) ?_ | refine bi_leq_t (by omega) ?_ | refine bi_leq_f (by omega) ?_ | refine bi_geq_t (by omega) ?_ | refine bi_geq_f (by omega) ?_ | refine bi_xt0 ?_ | refine bi_xt1 ?_ | refine bi_xt2 ?_ | refine bi_xt3 ?_ | refine bi_T ?_ | refine bi_F ?_ | refine bi_not ?_ | refine bi_and ?_ | refine bi_or ?_ | refine bi_xor ?_ | refine bi_shr (by omega) (by decide) ?_ | refine bi_shl (by omega) (by decide) ?_ | refine bi_quo64 (by omega) ?_ | refine bi_rem64 (by omega) ?_ | refine bi_mul64 (by omega) ?_ | refine bi_neg ?_ | refine bi_un_xor32 ?_ | refine bi_add ?_ | refine bi_sub ?_ | refine bi_mul ?_ | refine bi_quo (by decide) ?_ | refine bi_rem (by decide) ?_)
    exact ⟨rfl, hb2⟩
  | true =>
  obtain ⟨hl60, hf50⟩ := hz rfl
  (repeat with_reducible first | refine ln undIs ?_ | refine nck ?_ | refine cdT ?_ | refine cdF ?_ | refine gdY ?_ | refine gdFT ?_ | refine gdTF ?_ | refine gdU ?_ | refine gaY ?_ | refine gaFT ?_ | refine gaTF ?_ | refine pickT ?_ | refine pickF ?_ | refine bi_lss_t (by omega) ?_ | refine bi_lss_f (by omega) ?_ | refine bi_add64 (by omega) ?_ | refine bi_sub64 (by omega) ?_ | refine bi_eql_t (by omega) ?_ | refine bi_eql_f (by omega) ?_ | refine bi_neq_t (by omega) ?_ | refine bi_neq_f (by omega) ?_ | refine bi_gtr_t (by omega) ?_ | refine bi_gtr_f (by omega) ?_ | refine bi_leq_t (by omega) ?_ | refine bi_leq_f (by omega) ?_ | refine bi_geq_t (by omega) ?_ | refine bi_geq_f (by omega) ?_ | refine bi_xt0 ?_ | refine bi_xt1 ?_ | refine bi_xt2 ?_ | refine bi_xt3 ?_ | refine bi_T ?_ | refine bi_F ?_ | refine bi_not ?_ | refine bi_and ?_ | refine bi_or ?_ | refine bi_xor ?_ | refine bi_shr (by omega) (by decide) ?_ | refine bi_shl (by omega) (by decide) ?_ | refine bi_quo64 (by omega) ?_ | refine bi_rem64 (by omega) ?_ | refine bi_mul64 (by omega) ?_ | refine bi_neg ?_ | refine bi_un_xor32 ?_ | refine bi_add ?_ | refine bi_sub ?_ | refine bi_mul ?_ | refine bi_quo (by decide) ?_ | refine bi_rem (by decide) ?_)
  refine bi_gtr_c (fun h50 => ?_) (fun h50 => ?_)
  · (repeat with_reducible first | refine nck ?_ | refine cdT ?_ | refine cdF ?_ | refine gdY ?_ | refine gdFT ?_ | refine gdTF ?_ | refine gdU ?_ | refine gaY ?_ | refine gaFT ?_ | refine gaTF ?_ | refine pickT ?_ | refine pickF ?_ | refine bi_lss_t (by omega) ?_ | refine bi_lss_f (by omega) ?_ | refine bi_add64 (by omega) ?_ | refine bi_sub64 (by omega) ?_ | refine bi_eql_t (by omega) ?_ | refine bi_eql_f (by omega) ?_ | refine bi_neq_t (by omega) ?_ | refine bi_neq_f (by omega) ?_ | refine bi_gtr_t (by omega) ?_ | refine bi_gtr_f (by omega) ?_ | refine bi_leq_t (by omega) ?_ | refine bi_leq_f (by omega) ?_ | refine bi_geq_t (by omega) ?_ | refine bi_geq_f (by omega) ?_ | refine bi_xt0 ?_ | refine bi_xt1 ?_ | refine bi_xt2 ?_ | refine bi_xt3 ?_ | refine bi_T ?_ | refine bi_F ?_ | refine bi_not ?_ | refine bi_and ?_ | refine bi_or ?_ | refine bi_xor ?_ | refine bi_shr (by omega) (by decide) ?_ | refine bi_shl (by omega) (by decide) ?_ | refine bi_quo64 (by omega) ?_ | refine bi_rem64 (by omega) ?_ | refine bi_mul64 (by omega) ?_ | refine bi_neg ?_ | refine bi_un_xor32 ?_ | refine bi_add ?_ | refine bi_sub ?_ | refine bi_mul ?_ | refine bi_quo (by decide) ?_ | refine bi_rem (by decide) ?_)
    exact ⟨rfl, hb2⟩
  (repeat with_reducible first | refine nck ?_ | refine cdT ?_ | refine cdF ?_ | refine gdY ?_ | refine gdFT ?_ | refine gdTF ?_ | refine gdU ?_ | refine gaY ?_ | refine gaFT ?_ | refine gaTF ?_ | refine pickT ?_ | refine pickF ?_ | refine bi_lss_t (by omega) ?_ | refine bi_lss_f (by omega) ?_ | refine bi_add64 (by omega) ?_ | refine bi_sub64 (by omega) ?_ | refine bi_eql_t (by omega) ?_ | refine bi_eql_f (by omega) ?_ | refine bi_neq_t (by omega) ?_ | refine bi_neq_f (by omega) ?_ | refine bi_gtr_t (by omega) ?_ | refine bi_gtr_f (by omega) ?_ | refine bi_leq_t (by omega) ?_ | refine bi_leq_f (by omega) ?_ | refine bi_geq_t (by omega) ?_ | refine bi_geq_f (by omega) ?_ | refine bi_xt0 ?_ | refine bi_xt1 ?_ | refine bi_xt2 ?_ | refine bi_xt3 ?_ | refine bi_T ?_ | refine bi_F ?_ | refine bi_not ?_ | refine bi_and ?_ | refine bi_or ?_ | refine bi_xor ?_ | refine bi_shr (by omega) (by decide) ?_ | refine bi_shl (by omega) (by decide) ?_ | refine bi_quo64 (by omega) ?_ | refine bi_rem64 (by omega) ?_ | refine bi_mul64 (by omega) ?_ | refine bi_neg ?_ | refine bi_un_xor32 ?_ | refine bi_add ?_ | refine bi_sub ?_ | refine bi_mul ?_ | refine bi_quo (by decide) ?_ | refine bi_rem (by decide) ?_)
  have hv2 := keeps_AcB _ _ _ _ hb2 hv
  have hu2 := hu.below hb2
  -- the two boards and the row
  obtain ⟨c0, mk0⟩ := (MemL.nil w2).make
  refine (New9 1 (by decide) c0 w2).mono ?_
  rintro _ w3 ⟨g1, c3, rfl, hc3, hS3, h3⟩
  have M3 : MemL w2 w3 [obD 1 g1 []] := mk0 (obD 1 g1 []) w3 ⟨c3, hc3, hS3, h3⟩
  refine bd (cells := #[.slice none 0 0, .int .i64 0]) (by kernel_rfl) ?_
  obtain ⟨c1, mk1⟩ := M3.make
  refine bxB ?_
  intro g2 w4 hg2 hB4 h4
  have M4 : MemL w2 w4 [obD 1 g1 [], obE 2 g2 []] := mk1 (obE 2 g2 []) w4 ⟨col c1 w3.heap.size 2, col_lt _ _ _, RbS.new 2 (by decide) c1 (show w3.heap.size ≤ g2 by omega) hB4, h4⟩
  obtain ⟨c2, mk2⟩ := M4.make
  refine bs0 undIs szI ?_
  have ha := (Below.refl w4.heap.size w4).alloc (Nat.le_refl _) (.cells #[] 3)
  refine apF w4.heap.size undIs infI (by rfl) (by decide) (Own.lit0 w4 3) (Fresh.new (Nat.le_refl _) _ _) ha.size (hu2.below (below_then M4.bel ha)) (fun x hx => by obtain ⟨n, _, rfl⟩ := List.mem_map.1 hx; rfl) (by rw [List.length_map]; simp; omega) ?_
  intro v5 w5 ho5 hf5 h5 _
  have h45 := ha.trans h5
  rw [List.nil_append] at ho5
  have M5 : MemL w2 w5 [obD 1 g1 [], obE 2 g2 [], obR 3 fs.length v5] := mk2 (obR 3 fs.length v5) w5 ⟨col c2 w4.heap.size 3, col_lt _ _ _, ⟨(by decide : 0 < 3 ∧ 3 < 999), InC.fresh hf5, fs, ho5, rfl⟩, h45⟩
  have hs1 := StepB.nil
  refine (callDe (A := []) (fs := fs) (vf := v5) M5 (by simp) hs1 ho5.rd (by omega)).mono ?_
  rintro _ w6 ⟨_, M6⟩
  have M6 : MemL w2 w6 [obD 1 g1 (deV [] fs [allR]), obE 2 g2 [], obR 3 fs.length v5] := M6
  refine (refDe (A := [obD 1 g1 (deV [] fs [allR])]) (fs := fs) (vf := .slice B fs.length cB) M6 (by simp) hs1 (hu2.below M6.bel) (by omega)).mono ?_
  rintro _ w7 ⟨_, M7⟩
  have M7 : MemL w2 w7 [obD 1 g1 (deV [] fs [allR]), obE 2 g2 (deV [] fs []), obR 3 fs.length v5] := M7
  have hs7 := hs1.de (Nat.le_refl _) fs
  generalize deV [] fs [allR] = V1 at *
  generalize deV [] fs [] = R1 at *
  obtain ⟨A5, c5, hv5⟩ := ho5.slice
  have hlf : (iV fs).length = fs.length := hlo
  rw [hlf] at hv5
  rw [hv5]
  refine LoopP.inv1 (fun iv w' => ∃ k : Nat, k ≤ fs.length ∧ iv = .int .i64 k ∧ MemL w2 w' [obD 1 g1 V1, obE 2 g2 R1, obR 3 fs.length v5]) (fun iv _ => fs.length - (intOf iv).toNat) ⟨0, by omega, rfl, M7⟩ ?_
  clear M3 M4 M5 M6 M7
  rintro _ w8 ⟨k, hk, rfl, M8⟩ J hJ
  dsimp only [List.headD_cons, List.tail_cons]
  refine ln undIs ?_
  refine bi_lss_c (fun hlt => ?_) (fun hlt => ?_)
  · have hk' : k < fs.length := by omega
    obtain ⟨c8, hO8, back⟩ := MemL.call (A := [obD 1 g1 V1, obE 2 g2 R1]) (o := obR 3 fs.length v5) (B := []) M8 (by simp)
    obtain ⟨hh8, hin8, l8, ho8, hl8⟩ := hO8
    obtain ⟨g8, n8, cc8, e8, hn8, q1, q2, q3, q4, _⟩ := setRow9 (B := 0) (w' := w8) ho8 (fun _ _ => Nat.zero_le _) (by show k < l8.length; rw [hl8]; exact hk')
    have e8' : Value.slice A5 fs.length c5 = .slice (some ⟨g8, 0, none⟩) n8 cc8 := hv5.symm.trans e8
    cases e8'
    (repeat with_reducible first | refine nck ?_ | refine cdT ?_ | refine cdF ?_ | refine gdY ?_ | refine gdFT ?_ | refine gdTF ?_ | refine gdU ?_ | refine gaY ?_ | refine gaFT ?_ | refine gaTF ?_ | refine pickT ?_ | refine pickF ?_ | refine bi_lss_t (by omega) ?_ | refine bi_lss_f (by omega) ?_ | refine bi_add64 (by omega) ?_ | refine bi_sub64 (by omega) ?_ | refine bi_eql_t (by omega) ?_ | refine bi_eql_f (by omega) ?_ | refine bi_neq_t (by omega) ?_ | refine bi_neq_f (by omega) ?_ | refine bi_gtr_t (by omega) ?_ | refine bi_gtr_f (by omega) ?_ | refine bi_leq_t (by omega) ?_ | refine bi_leq_f (by omega) ?_ | refine bi_geq_t (by omega) ?_ | refine bi_geq_f (by omega) ?_ | refine bi_xt0 ?_ | refine bi_xt1 ?_ | refine bi_xt2 ?_ | refine bi_xt3 ?_ | refine bi_T ?_ | refine bi_F ?_ | refine bi_not ?_ | refine bi_and ?_ | refine bi_or ?_ | refine bi_xor ?_ | refine bi_shr (by omega) (by decide) ?_ | refine bi_shl (by omega) (by decide) ?_ | refine bi_quo64 (by omega) ?_ | refine bi_rem64 (by omega) ?_ | refine bi_mul64 (by omega) ?_ | refine bi_neg ?_ | refine bi_un_xor32 ?_ | refine bi_add ?_ | refine bi_sub ?_ | refine bi_mul ?_ | refine bi_quo (by decide) ?_ | refine bi_rem (by decide) ?_)
    refine ix1 undIs szI hk' ?_
    rw [add0, Nat.zero_add]
    refine st szI rfl q1 q2 ?_
    (repeat with_reducible first | refine nck ?_ | refine cdT ?_ | refine cdF ?_ | refine gdY ?_ | refine gdFT ?_ | refine gdTF ?_ | refine gdU ?_ | refine gaY ?_ | refine gaFT ?_ | refine gaTF ?_ | refine pickT ?_ | refine pickF ?_ | refine bi_lss_t (by omega) ?_ | refine bi_lss_f (by omega) ?_ | refine bi_add64 (by omega) ?_ | refine bi_sub64 (by omega) ?_ | refine bi_eql_t (by omega) ?_ | refine bi_eql_f (by omega) ?_ | refine bi_neq_t (by omega) ?_ | refine bi_neq_f (by omega) ?_ | refine bi_gtr_t (by omega) ?_ | refine bi_gtr_f (by omega) ?_ | refine bi_leq_t (by omega) ?_ | refine bi_leq_f (by omega) ?_ | refine bi_geq_t (by omega) ?_ | refine bi_geq_f (by omega) ?_ | refine bi_xt0 ?_ | refine bi_xt1 ?_ | refine bi_xt2 ?_ | refine bi_xt3 ?_ | refine bi_T ?_ | refine bi_F ?_ | refine bi_not ?_ | refine bi_and ?_ | refine bi_or ?_ | refine bi_xor ?_ | refine bi_shr (by omega) (by decide) ?_ | refine bi_shl (by omega) (by decide) ?_ | refine bi_quo64 (by omega) ?_ | refine bi_rem64 (by omega) ?_ | refine bi_mul64 (by omega) ?_ | refine bi_neg ?_ | refine bi_un_xor32 ?_ | refine bi_add ?_ | refine bi_sub ?_ | refine bi_mul ?_ | refine bi_quo (by decide) ?_ | refine bi_rem (by decide) ?_)
    refine hJ _ _ ⟨k + 1, by omega, by simp, ?_⟩ (by simp [intOf]; omega)
    refine back (obR 3 fs.length v5) _ rfl ⟨c8, fun _ _ => rfl, ⟨hh8, hin8, l8.set k 9, q3, by rw [List.length_set]; exact hl8⟩, q4.mono fun j _ e => ?_⟩
    show c8 j = 3
    rw [e]
    exact hin8 g8 (by show v5.ownBlock = _; rw [hv5]; rfl)
  -- the acts
  (repeat with_reducible first | refine nck ?_ | refine cdT ?_ | refine cdF ?_ | refine gdY ?_ | refine gdFT ?_ | refine gdTF ?_ | refine gdU ?_ | refine gaY ?_ | refine gaFT ?_ | refine gaTF ?_ | refine pickT ?_ | refine pickF ?_ | refine bi_lss_t (by omega) ?_ | refine bi_lss_f (by omega) ?_ | refine bi_add64 (by omega) ?_ | refine bi_sub64 (by omega) ?_ | refine bi_eql_t (by omega) ?_ | refine bi_eql_f (by omega) ?_ | refine bi_neq_t (by omega) ?_ | refine bi_neq_f (by omega) ?_ | refine bi_gtr_t (by omega) ?_ | refine bi_gtr_f (by omega) ?_ | refine bi_leq_t (by omega) ?_ | refine bi_leq_f (by omega) ?_ | refine bi_geq_t (by omega) ?_ | refine bi_geq_f (by omega) ?_ | refine bi_xt0 ?_ | refine bi_xt1 ?_ | refine bi_xt2 ?_ | refine bi_xt3 ?_ | refine bi_T ?_ | refine bi_F ?_ | refine bi_not ?_ | refine bi_and ?_ | refine bi_or ?_ | refine bi_xor ?_ | refine bi_shr (by omega) (by decide) ?_ | refine bi_shl (by omega) (by decide) ?_ | refine bi_quo64 (by omega) ?_ | refine bi_rem64 (by omega) ?_ | refine bi_mul64 (by omega) ?_ | refine bi_neg ?_ | refine bi_un_xor32 ?_ | refine bi_add ?_ | refine bi_sub ?_ | refine bi_mul ?_ | refine bi_quo (by decide) ?_ | refine bi_rem (by decide) ?_)
  refine LoopP.inv1 (fun iv w' => ∃ (k : Nat) (V R : BdV), k ≤ l.length ∧ iv = .int .i64 k ∧ StepB (k + 1) V R ∧ MemL w2 w' [obD 1 g1 V, obE 2 g2 R]) (fun iv _ => l.length - (intOf iv).toNat) ⟨0, V1, R1, by omega, rfl, hs7, by
    obtain ⟨c, q1, q2, q3⟩ := M8
    exact ⟨c, q1, fun o ho => q2 o (by simp only [List.mem_cons, List.not_mem_nil, or_false] at ho ⊢; rcases ho with h | h <;> simp [h]), q3⟩⟩ ?_
  clear M8 hs7 hlt
  rintro _ w9 ⟨k2, V, R, hk2, rfl, hs, M9⟩ J1 hJ1
  dsimp only [List.headD_cons, List.tail_cons]
  refine ln undAs ?_
  refine bi_lss_c (fun hlt => ?_) (fun hlt => ?_)
  · have hk' : k2 < l.length := by omega
    have hid := hl64 _ (List.getElem_mem hk')
    have hfl := hf50 _ (List.getElem_mem hk')
    obtain ⟨a, Af, cf, rfl, q0, q1, q2, q3, hrd⟩ := acB_at hv2 k2 hk'
    have k0 : ∀ w', Below w2.heap.size w2 w' → w'.cell? ((a.add (k2 * 5)).add 0) = some (.int .i64 l[k2].kind) := RdKeep q0
    have k1 : ∀ w', Below w2.heap.size w2 w' → w'.cell? ((a.add (k2 * 5)).add 1) = some (.int .i64 l[k2].id) := RdKeep q1
    have kf : ∀ w', Below w2.heap.size w2 w' → w'.cell? ((a.add (k2 * 5)).add 2) = some (.slice Af l[k2].fs.length cf) := RdKeep q2
    have kr : ∀ w', Below w2.heap.size w2 w' → ∀ j u, (rgF l[k2].r)[j]? = some u → w'.cell? (((a.add (k2 * 5)).add 3).add j) = some u := fun w' h => keepC (addAdd q3) w' h
    (repeat with_reducible first | refine nck ?_ | refine cdT ?_ | refine cdF ?_ | refine gdY ?_ | refine gdFT ?_ | refine gdTF ?_ | refine gdU ?_ | refine gaY ?_ | refine gaFT ?_ | refine gaTF ?_ | refine pickT ?_ | refine pickF ?_ | refine bi_lss_t (by omega) ?_ | refine bi_lss_f (by omega) ?_ | refine bi_add64 (by omega) ?_ | refine bi_sub64 (by omega) ?_ | refine bi_eql_t (by omega) ?_ | refine bi_eql_f (by omega) ?_ | refine bi_neq_t (by omega) ?_ | refine bi_neq_f (by omega) ?_ | refine bi_gtr_t (by omega) ?_ | refine bi_gtr_f (by omega) ?_ | refine bi_leq_t (by omega) ?_ | refine bi_leq_f (by omega) ?_ | refine bi_geq_t (by omega) ?_ | refine bi_geq_f (by omega) ?_ | refine bi_xt0 ?_ | refine bi_xt1 ?_ | refine bi_xt2 ?_ | refine bi_xt3 ?_ | refine bi_T ?_ | refine bi_F ?_ | refine bi_not ?_ | refine bi_and ?_ | refine bi_or ?_ | refine bi_xor ?_ | refine bi_shr (by omega) (by decide) ?_ | refine bi_shl (by omega) (by decide) ?_ | refine bi_quo64 (by omega) ?_ | refine bi_rem64 (by omega) ?_ | refine bi_mul64 (by omega) ?_ | refine bi_neg ?_ | refine bi_un_xor32 ?_ | refine bi_add ?_ | refine bi_sub ?_ | refine bi_mul ?_ | refine bi_quo (by decide) ?_ | refine bi_rem (by decide) ?_)
    refine JoinP.cut (fun xs w' => xs = [] ∧ ∃ (V' R' : BdV), StepB (k2 + 2) V' R' ∧ MemL w2 w' [obD 1 g1 V', obE 2 g2 R']) (fun J2 hJ2 => ?_) (fun xs w' hI => ?_)
    rotate_left
    · obtain ⟨rfl, V', R', h1, h2⟩ := hI
      (repeat with_reducible first | refine nck ?_ | refine cdT ?_ | refine cdF ?_ | refine gdY ?_ | refine gdFT ?_ | refine gdTF ?_ | refine gdU ?_ | refine gaY ?_ | refine gaFT ?_ | refine gaTF ?_ | refine pickT ?_ | refine pickF ?_ | refine bi_lss_t (by omega) ?_ | refine bi_lss_f (by omega) ?_ | refine bi_add64 (by omega) ?_ | refine bi_sub64 (by omega) ?_ | refine bi_eql_t (by omega) ?_ | refine bi_eql_f (by omega) ?_ | refine bi_neq_t (by omega) ?_ | refine bi_neq_f (by omega) ?_ | refine bi_gtr_t (by omega) ?_ | refine bi_gtr_f (by omega) ?_ | refine bi_leq_t (by omega) ?_ | refine bi_leq_f (by omega) ?_ | refine bi_geq_t (by omega) ?_ | refine bi_geq_f (by omega) ?_ | refine bi_xt0 ?_ | refine bi_xt1 ?_ | refine bi_xt2 ?_ | refine bi_xt3 ?_ | refine bi_T ?_ | refine bi_F ?_ | refine bi_not ?_ | refine bi_and ?_ | refine bi_or ?_ | refine bi_xor ?_ | refine bi_shr (by omega) (by decide) ?_ | refine bi_shl (by omega) (by decide) ?_ | refine bi_quo64 (by omega) ?_ | refine bi_rem64 (by omega) ?_ | refine bi_mul64 (by omega) ?_ | refine bi_neg ?_ | refine bi_un_xor32 ?_ | refine bi_add ?_ | refine bi_sub ?_ | refine bi_mul ?_ | refine bi_quo (by decide) ?_ | refine bi_rem (by decide) ?_)
      exact hJ1 _ _ ⟨k2 + 1, V', R', by omega, by simp, h1, h2⟩ (by simp [intOf]; omega)
    (repeat with_reducible first | refine ixN undAs szA k2 hk' ?_ | refine fdA p0 (by decide) ?_ | refine ld oneI (k0 _ M9.bel) ?_ | refine nck ?_ | refine cdT ?_ | refine cdF ?_ | refine gdY ?_ | refine gdFT ?_ | refine gdTF ?_ | refine gdU ?_ | refine gaY ?_ | refine gaFT ?_ | refine gaTF ?_ | refine pickT ?_ | refine pickF ?_ | refine bi_lss_t (by omega) ?_ | refine bi_lss_f (by omega) ?_ | refine bi_add64 (by omega) ?_ | refine bi_sub64 (by omega) ?_ | refine bi_eql_t (by omega) ?_ | refine bi_eql_f (by omega) ?_ | refine bi_neq_t (by omega) ?_ | refine bi_neq_f (by omega) ?_ | refine bi_gtr_t (by omega) ?_ | refine bi_gtr_f (by omega) ?_ | refine bi_leq_t (by omega) ?_ | refine bi_leq_f (by omega) ?_ | refine bi_geq_t (by omega) ?_ | refine bi_geq_f (by omega) ?_ | refine bi_xt0 ?_ | refine bi_xt1 ?_ | refine bi_xt2 ?_ | refine bi_xt3 ?_ | refine bi_T ?_ | refine bi_F ?_ | refine bi_not ?_ | refine bi_and ?_ | refine bi_or ?_ | refine bi_xor ?_ | refine bi_shr (by omega) (by decide) ?_ | refine bi_shl (by omega) (by decide) ?_ | refine bi_quo64 (by omega) ?_ | refine bi_rem64 (by omega) ?_ | refine bi_mul64 (by omega) ?_ | refine bi_neg ?_ | refine bi_un_xor32 ?_ | refine bi_add ?_ | refine bi_sub ?_ | refine bi_mul ?_ | refine bi_quo (by decide) ?_ | refine bi_rem (by decide) ?_)
    refine bi_eql_c (fun e1 => ?_) (fun e1 => ?_)
    · (repeat with_reducible first | refine ixN undAs szA k2 hk' ?_ | refine fdA p2 (by decide) ?_ | refine ld oneIs (kf _ M9.bel) ?_ | refine nck ?_ | refine cdT ?_ | refine cdF ?_ | refine gdY ?_ | refine gdFT ?_ | refine gdTF ?_ | refine gdU ?_ | refine gaY ?_ | refine gaFT ?_ | refine gaTF ?_ | refine pickT ?_ | refine pickF ?_ | refine bi_lss_t (by omega) ?_ | refine bi_lss_f (by omega) ?_ | refine bi_add64 (by omega) ?_ | refine bi_sub64 (by omega) ?_ | refine bi_eql_t (by omega) ?_ | refine bi_eql_f (by omega) ?_ | refine bi_neq_t (by omega) ?_ | refine bi_neq_f (by omega) ?_ | refine bi_gtr_t (by omega) ?_ | refine bi_gtr_f (by omega) ?_ | refine bi_leq_t (by omega) ?_ | refine bi_leq_f (by omega) ?_ | refine bi_geq_t (by omega) ?_ | refine bi_geq_f (by omega) ?_ | refine bi_xt0 ?_ | refine bi_xt1 ?_ | refine bi_xt2 ?_ | refine bi_xt3 ?_ | refine bi_T ?_ | refine bi_F ?_ | refine bi_not ?_ | refine bi_and ?_ | refine bi_or ?_ | refine bi_xor ?_ | refine bi_shr (by omega) (by decide) ?_ | refine bi_shl (by omega) (by decide) ?_ | refine bi_quo64 (by omega) ?_ | refine bi_rem64 (by omega) ?_ | refine bi_mul64 (by omega) ?_ | refine bi_neg ?_ | refine bi_un_xor32 ?_ | refine bi_add ?_ | refine bi_sub ?_ | refine bi_mul ?_ | refine bi_quo (by decide) ?_ | refine bi_rem (by decide) ?_)
      refine (callDe (A := []) (fs := l[k2].fs) M9 (by simp) hs (hrd.below M9.bel) (by omega)).mono ?_
      rintro _ wa ⟨_, Ma⟩
      have Ma : MemL w2 wa [obD 1 g1 (deV V l[k2].fs [allR]), obE 2 g2 R] := Ma
      (repeat with_reducible first | refine ixN undAs szA k2 hk' ?_ | refine fdA p2 (by decide) ?_ | refine ld oneIs (kf _ Ma.bel) ?_ | refine nck ?_ | refine cdT ?_ | refine cdF ?_ | refine gdY ?_ | refine gdFT ?_ | refine gdTF ?_ | refine gdU ?_ | refine gaY ?_ | refine gaFT ?_ | refine gaTF ?_ | refine pickT ?_ | refine pickF ?_ | refine bi_lss_t (by omega) ?_ | refine bi_lss_f (by omega) ?_ | refine bi_add64 (by omega) ?_ | refine bi_sub64 (by omega) ?_ | refine bi_eql_t (by omega) ?_ | refine bi_eql_f (by omega) ?_ | refine bi_neq_t (by omega) ?_ | refine bi_neq_f (by omega) ?_ | refine bi_gtr_t (by omega) ?_ | refine bi_gtr_f (by omega) ?_ | refine bi_leq_t (by omega) ?_ | refine bi_leq_f (by omega) ?_ | refine bi_geq_t (by omega) ?_ | refine bi_geq_f (by omega) ?_ | refine bi_xt0 ?_ | refine bi_xt1 ?_ | refine bi_xt2 ?_ | refine bi_xt3 ?_ | refine bi_T ?_ | refine bi_F ?_ | refine bi_not ?_ | refine bi_and ?_ | refine bi_or ?_ | refine bi_xor ?_ | refine bi_shr (by omega) (by decide) ?_ | refine bi_shl (by omega) (by decide) ?_ | refine bi_quo64 (by omega) ?_ | refine bi_rem64 (by omega) ?_ | refine bi_mul64 (by omega) ?_ | refine bi_neg ?_ | refine bi_un_xor32 ?_ | refine bi_add ?_ | refine bi_sub ?_ | refine bi_mul ?_ | refine bi_quo (by decide) ?_ | refine bi_rem (by decide) ?_)
      refine (refDe (A := [obD 1 g1 (deV V l[k2].fs [allR])]) (fs := l[k2].fs) Ma (by simp) hs (hrd.below Ma.bel) (by omega)).mono ?_
      rintro _ wb ⟨_, Mb⟩
      exact hJ2 _ _ ⟨rfl, _, _, (hs.de (by omega) l[k2].fs).mono (by omega), Mb⟩
    (repeat with_reducible first | refine nck ?_ | refine cdT ?_ | refine cdF ?_ | refine gdY ?_ | refine gdFT ?_ | refine gdTF ?_ | refine gdU ?_ | refine gaY ?_ | refine gaFT ?_ | refine gaTF ?_ | refine pickT ?_ | refine pickF ?_ | refine bi_lss_t (by omega) ?_ | refine bi_lss_f (by omega) ?_ | refine bi_add64 (by omega) ?_ | refine bi_sub64 (by omega) ?_ | refine bi_eql_t (by omega) ?_ | refine bi_eql_f (by omega) ?_ | refine bi_neq_t (by omega) ?_ | refine bi_neq_f (by omega) ?_ | refine bi_gtr_t (by omega) ?_ | refine bi_gtr_f (by omega) ?_ | refine bi_leq_t (by omega) ?_ | refine bi_leq_f (by omega) ?_ | refine bi_geq_t (by omega) ?_ | refine bi_geq_f (by omega) ?_ | refine bi_xt0 ?_ | refine bi_xt1 ?_ | refine bi_xt2 ?_ | refine bi_xt3 ?_ | refine bi_T ?_ | refine bi_F ?_ | refine bi_not ?_ | refine bi_and ?_ | refine bi_or ?_ | refine bi_xor ?_ | refine bi_shr (by omega) (by decide) ?_ | refine bi_shl (by omega) (by decide) ?_ | refine bi_quo64 (by omega) ?_ | refine bi_rem64 (by omega) ?_ | refine bi_mul64 (by omega) ?_ | refine bi_neg ?_ | refine bi_un_xor32 ?_ | refine bi_add ?_ | refine bi_sub ?_ | refine bi_mul ?_ | refine bi_quo (by decide) ?_ | refine bi_rem (by decide) ?_)
    refine bi_eql_c (fun e2 => ?_) (fun e2 => ?_)
    · (repeat with_reducible first | refine ixN undAs szA k2 hk' ?_ | refine fdA p1 (by decide) ?_ | refine ld oneI (k1 _ M9.bel) ?_ | refine nck ?_ | refine cdT ?_ | refine cdF ?_ | refine gdY ?_ | refine gdFT ?_ | refine gdTF ?_ | refine gdU ?_ | refine gaY ?_ | refine gaFT ?_ | refine gaTF ?_ | refine pickT ?_ | refine pickF ?_ | refine bi_lss_t (by omega) ?_ | refine bi_lss_f (by omega) ?_ | refine bi_add64 (by omega) ?_ | refine bi_sub64 (by omega) ?_ | refine bi_eql_t (by omega) ?_ | refine bi_eql_f (by omega) ?_ | refine bi_neq_t (by omega) ?_ | refine bi_neq_f (by omega) ?_ | refine bi_gtr_t (by omega) ?_ | refine bi_gtr_f (by omega) ?_ | refine bi_leq_t (by omega) ?_ | refine bi_leq_f (by omega) ?_ | refine bi_geq_t (by omega) ?_ | refine bi_geq_f (by omega) ?_ | refine bi_xt0 ?_ | refine bi_xt1 ?_ | refine bi_xt2 ?_ | refine bi_xt3 ?_ | refine bi_T ?_ | refine bi_F ?_ | refine bi_not ?_ | refine bi_and ?_ | refine bi_or ?_ | refine bi_xor ?_ | refine bi_shr (by omega) (by decide) ?_ | refine bi_shl (by omega) (by decide) ?_ | refine bi_quo64 (by omega) ?_ | refine bi_rem64 (by omega) ?_ | refine bi_mul64 (by omega) ?_ | refine bi_neg ?_ | refine bi_un_xor32 ?_ | refine bi_add ?_ | refine bi_sub ?_ | refine bi_mul ?_ | refine bi_quo (by decide) ?_ | refine bi_rem (by decide) ?_)
      refine (callDr (A := []) l[k2].id hid M9 (by simp) hs).mono ?_
      rintro _ wa ⟨_, Ma⟩
      have Ma : MemL w2 wa [obD 1 g1 (drV V l[k2].id gone0), obE 2 g2 R] := Ma
      (repeat with_reducible first | refine ixN undAs szA k2 hk' ?_ | refine fdA p1 (by decide) ?_ | refine ld oneI (k1 _ Ma.bel) ?_ | refine nck ?_ | refine cdT ?_ | refine cdF ?_ | refine gdY ?_ | refine gdFT ?_ | refine gdTF ?_ | refine gdU ?_ | refine gaY ?_ | refine gaFT ?_ | refine gaTF ?_ | refine pickT ?_ | refine pickF ?_ | refine bi_lss_t (by omega) ?_ | refine bi_lss_f (by omega) ?_ | refine bi_add64 (by omega) ?_ | refine bi_sub64 (by omega) ?_ | refine bi_eql_t (by omega) ?_ | refine bi_eql_f (by omega) ?_ | refine bi_neq_t (by omega) ?_ | refine bi_neq_f (by omega) ?_ | refine bi_gtr_t (by omega) ?_ | refine bi_gtr_f (by omega) ?_ | refine bi_leq_t (by omega) ?_ | refine bi_leq_f (by omega) ?_ | refine bi_geq_t (by omega) ?_ | refine bi_geq_f (by omega) ?_ | refine bi_xt0 ?_ | refine bi_xt1 ?_ | refine bi_xt2 ?_ | refine bi_xt3 ?_ | refine bi_T ?_ | refine bi_F ?_ | refine bi_not ?_ | refine bi_and ?_ | refine bi_or ?_ | refine bi_xor ?_ | refine bi_shr (by omega) (by decide) ?_ | refine bi_shl (by omega) (by decide) ?_ | refine bi_quo64 (by omega) ?_ | refine bi_rem64 (by omega) ?_ | refine bi_mul64 (by omega) ?_ | refine bi_neg ?_ | refine bi_un_xor32 ?_ | refine bi_add ?_ | refine bi_sub ?_ | refine bi_mul ?_ | refine bi_quo (by decide) ?_ | refine bi_rem (by decide) ?_)
      refine (refDr (A := [obD 1 g1 (drV V l[k2].id gone0)]) l[k2].id hid Ma (by simp) hs).mono ?_
      rintro _ wb ⟨_, Mb⟩
      exact hJ2 _ _ ⟨rfl, _, _, (hs.dr l[k2].id).mono (by omega), Mb⟩
    (repeat with_reducible first | refine nck ?_ | refine cdT ?_ | refine cdF ?_ | refine gdY ?_ | refine gdFT ?_ | refine gdTF ?_ | refine gdU ?_ | refine gaY ?_ | refine gaFT ?_ | refine gaTF ?_ | refine pickT ?_ | refine pickF ?_ | refine bi_lss_t (by omega) ?_ | refine bi_lss_f (by omega) ?_ | refine bi_add64 (by omega) ?_ | refine bi_sub64 (by omega) ?_ | refine bi_eql_t (by omega) ?_ | refine bi_eql_f (by omega) ?_ | refine bi_neq_t (by omega) ?_ | refine bi_neq_f (by omega) ?_ | refine bi_gtr_t (by omega) ?_ | refine bi_gtr_f (by omega) ?_ | refine bi_leq_t (by omega) ?_ | refine bi_leq_f (by omega) ?_ | refine bi_geq_t (by omega) ?_ | refine bi_geq_f (by omega) ?_ | refine bi_xt0 ?_ | refine bi_xt1 ?_ | refine bi_xt2 ?_ | refine bi_xt3 ?_ | refine bi_T ?_ | refine bi_F ?_ | refine bi_not ?_ | refine bi_and ?_ | refine bi_or ?_ | refine bi_xor ?_ | refine bi_shr (by omega) (by decide) ?_ | refine bi_shl (by omega) (by decide) ?_ | refine bi_quo64 (by omega) ?_ | refine bi_rem64 (by omega) ?_ | refine bi_mul64 (by omega) ?_ | refine bi_neg ?_ | refine bi_un_xor32 ?_ | refine bi_add ?_ | refine bi_sub ?_ | refine bi_mul ?_ | refine bi_quo (by decide) ?_ | refine bi_rem (by decide) ?_)
    refine bi_eql_c (fun e3 => ?_) (fun e3 => ?_)
    · have hdr : Below w9.heap.size w9 w9.drew := (Below.refl _ _).drew
      have M9' := M9.below hdr
      (repeat with_reducible first | refine nck ?_ | refine cdT ?_ | refine cdF ?_ | refine gdY ?_ | refine gdFT ?_ | refine gdTF ?_ | refine gdU ?_ | refine gaY ?_ | refine gaFT ?_ | refine gaTF ?_ | refine pickT ?_ | refine pickF ?_ | refine bi_lss_t (by omega) ?_ | refine bi_lss_f (by omega) ?_ | refine bi_add64 (by omega) ?_ | refine bi_sub64 (by omega) ?_ | refine bi_eql_t (by omega) ?_ | refine bi_eql_f (by omega) ?_ | refine bi_neq_t (by omega) ?_ | refine bi_neq_f (by omega) ?_ | refine bi_gtr_t (by omega) ?_ | refine bi_gtr_f (by omega) ?_ | refine bi_leq_t (by omega) ?_ | refine bi_leq_f (by omega) ?_ | refine bi_geq_t (by omega) ?_ | refine bi_geq_f (by omega) ?_ | refine bi_xt0 ?_ | refine bi_xt1 ?_ | refine bi_xt2 ?_ | refine bi_xt3 ?_ | refine bi_T ?_ | refine bi_F ?_ | refine bi_not ?_ | refine bi_and ?_ | refine bi_or ?_ | refine bi_xor ?_ | refine bi_shr (by omega) (by decide) ?_ | refine bi_shl (by omega) (by decide) ?_ | refine bi_quo64 (by omega) ?_ | refine bi_rem64 (by omega) ?_ | refine bi_mul64 (by omega) ?_ | refine bi_neg ?_ | refine bi_un_xor32 ?_ | refine bi_add ?_ | refine bi_sub ?_ | refine bi_mul ?_ | refine bi_quo (by decide) ?_ | refine bi_rem (by decide) ?_)
      refine draw (Below w2.heap.size w2) M9'.bel ?_
      (repeat with_reducible first | refine yixA undAs szA k2 hk' ?_ | refine yfdA p1 (by decide) ?_ | refine yl1 oneI k1 ?_ | refine yfdA p3 (by decide) ?_ | refine ynck ?_ | refine nck ?_ | refine cdT ?_ | refine cdF ?_ | refine gdY ?_ | refine gdFT ?_ | refine gdTF ?_ | refine gdU ?_ | refine gaY ?_ | refine gaFT ?_ | refine gaTF ?_ | refine pickT ?_ | refine pickF ?_ | refine yi_lss_t (by omega) ?_ | refine yi_lss_f (by omega) ?_ | refine yi_add64 (by omega) ?_ | refine yi_sub64 (by omega) ?_ | refine yi_eql_t (by omega) ?_ | refine yi_eql_f (by omega) ?_ | refine yi_neq_t (by omega) ?_ | refine yi_neq_f (by omega) ?_ | refine yi_gtr_t (by omega) ?_ | refine yi_gtr_f (by omega) ?_ | refine yi_leq_t (by omega) ?_ | refine yi_leq_f (by omega) ?_ | refine yi_geq_t (by omega) ?_ | refine yi_geq_f (by omega) ?_ | refine yi_xt0 ?_ | refine yi_xt1 ?_ | refine yi_xt2 ?_ | refine yi_xt3 ?_ | refine yi_T ?_ | refine yi_F ?_ | refine yi_not ?_ | refine yi_and ?_ | refine yi_or ?_ | refine yi_xor ?_ | refine yi_shr (by omega) (by decide) ?_ | refine yi_shl (by omega) (by decide) ?_ | refine yi_quo64 (by omega) ?_ | refine yi_rem64 (by omega) ?_ | refine yi_mul64 (by omega) ?_ | refine yi_neg ?_ | refine yi_un_xor32 ?_ | refine yi_add ?_ | refine yi_sub ?_ | refine yi_mul ?_ | refine yi_quo (by decide) ?_ | refine yi_rem (by decide) ?_)
      refine yldR (us := rgF l[k2].r) agg23 kr (by rw [sz23]; rfl) ?_
      refine (callRe (A := []) l[k2].id l[k2].r hid M9' (by simp) hs (by omega)).mono ?_
      rintro _ wa ⟨_, Ma⟩
      have Ma : MemL w2 wa [obD 1 g1 (reV V l[k2].id (rep0 l[k2].r)), obE 2 g2 R] := Ma
      have hdr2 : Below wa.heap.size wa wa.drew := (Below.refl _ _).drew
      have Ma' := Ma.below hdr2
      refine draw (Below w2.heap.size w2) Ma'.bel ?_
      (repeat with_reducible first | refine yixA undAs szA k2 hk' ?_ | refine yfdA p1 (by decide) ?_ | refine yl1 oneI k1 ?_ | refine yfdA p3 (by decide) ?_ | refine ynck ?_ | refine nck ?_ | refine cdT ?_ | refine cdF ?_ | refine gdY ?_ | refine gdFT ?_ | refine gdTF ?_ | refine gdU ?_ | refine gaY ?_ | refine gaFT ?_ | refine gaTF ?_ | refine pickT ?_ | refine pickF ?_ | refine yi_lss_t (by omega) ?_ | refine yi_lss_f (by omega) ?_ | refine yi_add64 (by omega) ?_ | refine yi_sub64 (by omega) ?_ | refine yi_eql_t (by omega) ?_ | refine yi_eql_f (by omega) ?_ | refine yi_neq_t (by omega) ?_ | refine yi_neq_f (by omega) ?_ | refine yi_gtr_t (by omega) ?_ | refine yi_gtr_f (by omega) ?_ | refine yi_leq_t (by omega) ?_ | refine yi_leq_f (by omega) ?_ | refine yi_geq_t (by omega) ?_ | refine yi_geq_f (by omega) ?_ | refine yi_xt0 ?_ | refine yi_xt1 ?_ | refine yi_xt2 ?_ | refine yi_xt3 ?_ | refine yi_T ?_ | refine yi_F ?_ | refine yi_not ?_ | refine yi_and ?_ | refine yi_or ?_ | refine yi_xor ?_ | refine yi_shr (by omega) (by decide) ?_ | refine yi_shl (by omega) (by decide) ?_ | refine yi_quo64 (by omega) ?_ | refine yi_rem64 (by omega) ?_ | refine yi_mul64 (by omega) ?_ | refine yi_neg ?_ | refine yi_un_xor32 ?_ | refine yi_add ?_ | refine yi_sub ?_ | refine yi_mul ?_ | refine yi_quo (by decide) ?_ | refine yi_rem (by decide) ?_)
      refine yldR (us := rgF l[k2].r) agg23 kr (by rw [sz23]; rfl) ?_
      refine (refRe (A := [obD 1 g1 (reV V l[k2].id (rep0 l[k2].r))]) l[k2].id l[k2].r hid Ma' (by simp) hs (by omega)).mono ?_
      rintro _ wb ⟨_, Mb⟩
      exact hJ2 _ _ ⟨rfl, _, _, hs.re l[k2].id l[k2].r, Mb⟩
    · (repeat with_reducible first | refine nck ?_ | refine cdT ?_ | refine cdF ?_ | refine gdY ?_ | refine gdFT ?_ | refine gdTF ?_ | refine gdU ?_ | refine gaY ?_ | refine gaFT ?_ | refine gaTF ?_ | refine pickT ?_ | refine pickF ?_ | refine bi_lss_t (by omega) ?_ | refine bi_lss_f (by omega) ?_ | refine bi_add64 (by omega) ?_ | refine bi_sub64 (by omega) ?_ | refine bi_eql_t (by omega) ?_ | refine bi_eql_f (by omega) ?_ | refine bi_neq_t (by omega) ?_ | refine bi_neq_f (by omega) ?_ | refine bi_gtr_t (by omega) ?_ | refine bi_gtr_f (by omega) ?_ | refine bi_leq_t (by omega) ?_ | refine bi_leq_f (by omega) ?_ | refine bi_geq_t (by omega) ?_ | refine bi_geq_f (by omega) ?_ | refine bi_xt0 ?_ | refine bi_xt1 ?_ | refine bi_xt2 ?_ | refine bi_xt3 ?_ | refine bi_T ?_ | refine bi_F ?_ | refine bi_not ?_ | refine bi_and ?_ | refine bi_or ?_ | refine bi_xor ?_ | refine bi_shr (by omega) (by decide) ?_ | refine bi_shl (by omega) (by decide) ?_ | refine bi_quo64 (by omega) ?_ | refine bi_rem64 (by omega) ?_ | refine bi_mul64 (by omega) ?_ | refine bi_neg ?_ | refine bi_un_xor32 ?_ | refine bi_add ?_ | refine bi_sub ?_ | refine bi_mul ?_ | refine bi_quo (by decide) ?_ | refine bi_rem (by decide) ?_)
      exact hJ2 _ _ ⟨rfl, V, R, hs.mono (by omega), M9⟩
  -- what is answered is spoilt
  have hs62 : StepB 62 V R := hs.mono (by omega)
  (repeat with_reducible first | refine nck ?_ | refine cdT ?_ | refine cdF ?_ | refine gdY ?_ | refine gdFT ?_ | refine gdTF ?_ | refine gdU ?_ | refine gaY ?_ | refine gaFT ?_ | refine gaTF ?_ | refine pickT ?_ | refine pickF ?_ | refine bi_lss_t (by omega) ?_ | refine bi_lss_f (by omega) ?_ | refine bi_add64 (by omega) ?_ | refine bi_sub64 (by omega) ?_ | refine bi_eql_t (by omega) ?_ | refine bi_eql_f (by omega) ?_ | refine bi_neq_t (by omega) ?_ | refine bi_neq_f (by omega) ?_ | refine bi_gtr_t (by omega) ?_ | refine bi_gtr_f (by omega) ?_ | refine bi_leq_t (by omega) ?_ | refine bi_leq_f (by omega) ?_ | refine bi_geq_t (by omega) ?_ | refine bi_geq_f (by omega) ?_ | refine bi_xt0 ?_ | refine bi_xt1 ?_ | refine bi_xt2 ?_ | refine bi_xt3 ?_ | refine bi_T ?_ | refine bi_F ?_ | refine bi_not ?_ | refine bi_and ?_ | refine bi_or ?_ | refine bi_xor ?_ | refine bi_shr (by omega) (by decide) ?_ | refine bi_shl (by omega) (by decide) ?_ | refine bi_quo64 (by omega) ?_ | refine bi_rem64 (by omega) ?_ | refine bi_mul64 (by omega) ?_ | refine bi_neg ?_ | refine bi_un_xor32 ?_ | refine bi_add ?_ | refine bi_sub ?_ | refine bi_mul ?_ | refine bi_quo (by decide) ?_ | refine bi_rem (by decide) ?_)
  refine LoopP.inv1 (fun iv w' => ∃ id : Int, 1 ≤ id ∧ id ≤ 7 ∧ iv = .int .i64 id ∧ Below w9.heap.size w9 w') (fun iv _ => (7 - intOf iv).toNat) ⟨1, by omega, by omega, rfl, Below.refl _ _⟩ ?_
  rintro _ wa ⟨id, hid1, hid7, rfl, ha9⟩ J3 hJ3
  dsimp only [List.headD_cons, List.tail_cons]
  have Ma := M9.below ha9
  refine bi_lss_c (fun hlt7 => ?_) (fun hlt7 => ?_)
  · (repeat with_reducible first | refine nck ?_ | refine cdT ?_ | refine cdF ?_ | refine gdY ?_ | refine gdFT ?_ | refine gdTF ?_ | refine gdU ?_ | refine gaY ?_ | refine gaFT ?_ | refine gaTF ?_ | refine pickT ?_ | refine pickF ?_ | refine bi_lss_t (by omega) ?_ | refine bi_lss_f (by omega) ?_ | refine bi_add64 (by omega) ?_ | refine bi_sub64 (by omega) ?_ | refine bi_eql_t (by omega) ?_ | refine bi_eql_f (by omega) ?_ | refine bi_neq_t (by omega) ?_ | refine bi_neq_f (by omega) ?_ | refine bi_gtr_t (by omega) ?_ | refine bi_gtr_f (by omega) ?_ | refine bi_leq_t (by omega) ?_ | refine bi_leq_f (by omega) ?_ | refine bi_geq_t (by omega) ?_ | refine bi_geq_f (by omega) ?_ | refine bi_xt0 ?_ | refine bi_xt1 ?_ | refine bi_xt2 ?_ | refine bi_xt3 ?_ | refine bi_T ?_ | refine bi_F ?_ | refine bi_not ?_ | refine bi_and ?_ | refine bi_or ?_ | refine bi_xor ?_ | refine bi_shr (by omega) (by decide) ?_ | refine bi_shl (by omega) (by decide) ?_ | refine bi_quo64 (by omega) ?_ | refine bi_rem64 (by omega) ?_ | refine bi_mul64 (by omega) ?_ | refine bi_neg ?_ | refine bi_un_xor32 ?_ | refine bi_add ?_ | refine bi_sub ?_ | refine bi_mul ?_ | refine bi_quo (by decide) ?_ | refine bi_rem (by decide) ?_)
    obtain ⟨cc, hSa⟩ := MemL.look (A := []) Ma
    refine (Index19 id (by omega) hSa hs62.ok).mono ?_
    rintro r wb ⟨hr, hb⟩
    have hbb := below_then ha9 hb
    have hsb := hb.size
    have ⟨vfs, fs', b, er, hof, hff⟩ : ∃ (vfs : Value) (fs' : List Int) (b : Bool), r = .tuple #[.agg #[.int .i64 (if b then id else 0), vfs], .bool b] ∧ Own 3 wb vfs (iV fs') ∧ Fresh wa.heap.size vfs := by
      cases hix : ixV V id with
      | none => rw [hix] at hr; replace hr : r = _ := hr; exact ⟨_, [], false, hr, Own.nil _ _, Fresh.nil _⟩
      | some f => rw [hix] at hr; obtain ⟨vf, e, h1, h2⟩ := hr; exact ⟨vf, f, true, e, h1, h2⟩
    subst er
    obtain ⟨Ax, cx, rfl⟩ := hof.slice
    (repeat with_reducible first | refine nck ?_ | refine cdT ?_ | refine cdF ?_ | refine gdY ?_ | refine gdFT ?_ | refine gdTF ?_ | refine gdU ?_ | refine gaY ?_ | refine gaFT ?_ | refine gaTF ?_ | refine pickT ?_ | refine pickF ?_ | refine bi_lss_t (by omega) ?_ | refine bi_lss_f (by omega) ?_ | refine bi_add64 (by omega) ?_ | refine bi_sub64 (by omega) ?_ | refine bi_eql_t (by omega) ?_ | refine bi_eql_f (by omega) ?_ | refine bi_neq_t (by omega) ?_ | refine bi_neq_f (by omega) ?_ | refine bi_gtr_t (by omega) ?_ | refine bi_gtr_f (by omega) ?_ | refine bi_leq_t (by omega) ?_ | refine bi_leq_f (by omega) ?_ | refine bi_geq_t (by omega) ?_ | refine bi_geq_f (by omega) ?_ | refine bi_xt0 ?_ | refine bi_xt1 ?_ | refine bi_xt2 ?_ | refine bi_xt3 ?_ | refine bi_T ?_ | refine bi_F ?_ | refine bi_not ?_ | refine bi_and ?_ | refine bi_or ?_ | refine bi_xor ?_ | refine bi_shr (by omega) (by decide) ?_ | refine bi_shl (by omega) (by decide) ?_ | refine bi_quo64 (by omega) ?_ | refine bi_rem64 (by omega) ?_ | refine bi_mul64 (by omega) ?_ | refine bi_neg ?_ | refine bi_un_xor32 ?_ | refine bi_add ?_ | refine bi_sub ?_ | refine bi_mul ?_ | refine bi_quo (by decide) ?_ | refine bi_rem (by decide) ?_)
    refine alB zX ?_
    intro gx wc hgx hBc hc
    refine stB (cells := #[.int .i64 (if b then id else 0), .slice Ax (iV fs').length cx]) hBc szX rfl (by simp [Value.oneCell']) ?_
    intro wd hBd hTd
    have hd : Below wb.heap.size wb wd := below_own hc hTd (by omega)
    have hlf' : (iV fs').length = fs'.length := List.length_map _
    have hof' := hof.below hd
    rw [hlf'] at hBd hof' hff
    have hgf : ∀ k, (Value.slice Ax fs'.length cx).ownBlock = some k → k ≠ gx := fun k hk e => by
      have := hof.lt (k := k) (by rw [hlf']; exact hk)
      omega
    have haad : Below wa.heap.size wa wd := below_then hb hd
    have hbx : fs'.length ≤ 9223372036854775807 := by
      obtain ⟨_, _, e, q1, q2⟩ := hof'.rd.slice
      rw [hlf'] at q1
      omega
    refine LoopP.inv1 (fun iv w' => ∃ (k : Nat) (l' : List Int), l'.length = fs'.length ∧ k ≤ fs'.length ∧ iv = .int .i64 k ∧ Own 3 w' (.slice Ax fs'.length cx) (iV l') ∧ Blk w' gx 47 #[.int .i64 (if b then id else 0), .slice Ax fs'.length cx] ∧ Below wa.heap.size wa w') (fun iv _ => fs'.length - (intOf iv).toNat) ⟨0, fs', rfl, by omega, rfl, hof', hBd, haad⟩ ?_
    rintro _ we ⟨k, l', hl', hk, rfl, hoe, hBe, hae⟩ J4 hJ4
    dsimp only [List.headD_cons, List.tail_cons]
    have ce : we.cell? ⟨gx, 1, none⟩ = some (.slice Ax fs'.length cx) := hBe.cell 1
    (repeat with_reducible first | refine fd x1 (by decide) ?_ | refine ld oneIs ce ?_ | refine nck ?_ | refine cdT ?_ | refine cdF ?_ | refine gdY ?_ | refine gdFT ?_ | refine gdTF ?_ | refine gdU ?_ | refine gaY ?_ | refine gaFT ?_ | refine gaTF ?_ | refine pickT ?_ | refine pickF ?_ | refine bi_lss_t (by omega) ?_ | refine bi_lss_f (by omega) ?_ | refine bi_add64 (by omega) ?_ | refine bi_sub64 (by omega) ?_ | refine bi_eql_t (by omega) ?_ | refine bi_eql_f (by omega) ?_ | refine bi_neq_t (by omega) ?_ | refine bi_neq_f (by omega) ?_ | refine bi_gtr_t (by omega) ?_ | refine bi_gtr_f (by omega) ?_ | refine bi_leq_t (by omega) ?_ | refine bi_leq_f (by omega) ?_ | refine bi_geq_t (by omega) ?_ | refine bi_geq_f (by omega) ?_ | refine bi_xt0 ?_ | refine bi_xt1 ?_ | refine bi_xt2 ?_ | refine bi_xt3 ?_ | refine bi_T ?_ | refine bi_F ?_ | refine bi_not ?_ | refine bi_and ?_ | refine bi_or ?_ | refine bi_xor ?_ | refine bi_shr (by omega) (by decide) ?_ | refine bi_shl (by omega) (by decide) ?_ | refine bi_quo64 (by omega) ?_ | refine bi_rem64 (by omega) ?_ | refine bi_mul64 (by omega) ?_ | refine bi_neg ?_ | refine bi_un_xor32 ?_ | refine bi_add ?_ | refine bi_sub ?_ | refine bi_mul ?_ | refine bi_quo (by decide) ?_ | refine bi_rem (by decide) ?_)
    refine ln undIs ?_
    refine bi_lss_c (fun hltk => ?_) (fun hltk => ?_)
    · have hk' : k < fs'.length := by omega
      obtain ⟨g8, n8, cc8, e8, hn8, q1, q2, q3, q4, q5⟩ := setRow9 (w' := we) hoe hff (by rw [hl']; exact hk')
      cases e8
      (repeat with_reducible first | refine fd x1 (by decide) ?_ | refine ld oneIs ce ?_ | refine nck ?_ | refine cdT ?_ | refine cdF ?_ | refine gdY ?_ | refine gdFT ?_ | refine gdTF ?_ | refine gdU ?_ | refine gaY ?_ | refine gaFT ?_ | refine gaTF ?_ | refine pickT ?_ | refine pickF ?_ | refine bi_lss_t (by omega) ?_ | refine bi_lss_f (by omega) ?_ | refine bi_add64 (by omega) ?_ | refine bi_sub64 (by omega) ?_ | refine bi_eql_t (by omega) ?_ | refine bi_eql_f (by omega) ?_ | refine bi_neq_t (by omega) ?_ | refine bi_neq_f (by omega) ?_ | refine bi_gtr_t (by omega) ?_ | refine bi_gtr_f (by omega) ?_ | refine bi_leq_t (by omega) ?_ | refine bi_leq_f (by omega) ?_ | refine bi_geq_t (by omega) ?_ | refine bi_geq_f (by omega) ?_ | refine bi_xt0 ?_ | refine bi_xt1 ?_ | refine bi_xt2 ?_ | refine bi_xt3 ?_ | refine bi_T ?_ | refine bi_F ?_ | refine bi_not ?_ | refine bi_and ?_ | refine bi_or ?_ | refine bi_xor ?_ | refine bi_shr (by omega) (by decide) ?_ | refine bi_shl (by omega) (by decide) ?_ | refine bi_quo64 (by omega) ?_ | refine bi_rem64 (by omega) ?_ | refine bi_mul64 (by omega) ?_ | refine bi_neg ?_ | refine bi_un_xor32 ?_ | refine bi_add ?_ | refine bi_sub ?_ | refine bi_mul ?_ | refine bi_quo (by decide) ?_ | refine bi_rem (by decide) ?_)
      refine ix1 undIs szI hk' ?_
      rw [add0, Nat.zero_add]
      refine st szI rfl q1 q2 ?_
      (repeat with_reducible first | refine nck ?_ | refine cdT ?_ | refine cdF ?_ | refine gdY ?_ | refine gdFT ?_ | refine gdTF ?_ | refine gdU ?_ | refine gaY ?_ | refine gaFT ?_ | refine gaTF ?_ | refine pickT ?_ | refine pickF ?_ | refine bi_lss_t (by omega) ?_ | refine bi_lss_f (by omega) ?_ | refine bi_add64 (by omega) ?_ | refine bi_sub64 (by omega) ?_ | refine bi_eql_t (by omega) ?_ | refine bi_eql_f (by omega) ?_ | refine bi_neq_t (by omega) ?_ | refine bi_neq_f (by omega) ?_ | refine bi_gtr_t (by omega) ?_ | refine bi_gtr_f (by omega) ?_ | refine bi_leq_t (by omega) ?_ | refine bi_leq_f (by omega) ?_ | refine bi_geq_t (by omega) ?_ | refine bi_geq_f (by omega) ?_ | refine bi_xt0 ?_ | refine bi_xt1 ?_ | refine bi_xt2 ?_ | refine bi_xt3 ?_ | refine bi_T ?_ | refine bi_F ?_ | refine bi_not ?_ | refine bi_and ?_ | refine bi_or ?_ | refine bi_xor ?_ | refine bi_shr (by omega) (by decide) ?_ | refine bi_shl (by omega) (by decide) ?_ | refine bi_quo64 (by omega) ?_ | refine bi_rem64 (by omega) ?_ | refine bi_mul64 (by omega) ?_ | refine bi_neg ?_ | refine bi_un_xor32 ?_ | refine bi_add ?_ | refine bi_sub ?_ | refine bi_mul ?_ | refine bi_quo (by decide) ?_ | refine bi_rem (by decide) ?_)
      exact hJ4 _ _ ⟨k + 1, l'.set k 9, by rw [List.length_set]; exact hl', by omega, by simp, q3, hBe.far (fun e => hgf g8 rfl e.symm) _, below_own hae q4 q5⟩ (by simp [intOf]; omega)
    (repeat with_reducible first | refine nck ?_ | refine cdT ?_ | refine cdF ?_ | refine gdY ?_ | refine gdFT ?_ | refine gdTF ?_ | refine gdU ?_ | refine gaY ?_ | refine gaFT ?_ | refine gaTF ?_ | refine pickT ?_ | refine pickF ?_ | refine bi_lss_t (by omega) ?_ | refine bi_lss_f (by omega) ?_ | refine bi_add64 (by omega) ?_ | refine bi_sub64 (by omega) ?_ | refine bi_eql_t (by omega) ?_ | refine bi_eql_f (by omega) ?_ | refine bi_neq_t (by omega) ?_ | refine bi_neq_f (by omega) ?_ | refine bi_gtr_t (by omega) ?_ | refine bi_gtr_f (by omega) ?_ | refine bi_leq_t (by omega) ?_ | refine bi_leq_f (by omega) ?_ | refine bi_geq_t (by omega) ?_ | refine bi_geq_f (by omega) ?_ | refine bi_xt0 ?_ | refine bi_xt1 ?_ | refine bi_xt2 ?_ | refine bi_xt3 ?_ | refine bi_T ?_ | refine bi_F ?_ | refine bi_not ?_ | refine bi_and ?_ | refine bi_or ?_ | refine bi_xor ?_ | refine bi_shr (by omega) (by decide) ?_ | refine bi_shl (by omega) (by decide) ?_ | refine bi_quo64 (by omega) ?_ | refine bi_rem64 (by omega) ?_ | refine bi_mul64 (by omega) ?_ | refine bi_neg ?_ | refine bi_un_xor32 ?_ | refine bi_add ?_ | refine bi_sub ?_ | refine bi_mul ?_ | refine bi_quo (by decide) ?_ | refine bi_rem (by decide) ?_)
    have Me := Ma.below hae
    obtain ⟨cc2, hSe⟩ := MemL.look (A := []) Me
    refine (Left20 (n := 62) id (by omega) hSe hs62.ok (by omega)).mono ?_
    rintro vf wf ⟨hof2, hf2⟩
    have haf := below_then hae hf2
    obtain ⟨Al, cl, hvf, hbl1, hbl2⟩ := hof2.rd.slice
    have hfr2 := hof2.2
    refine LoopP.inv1 (fun iv w' => ∃ (k : Nat) (cs : List Value), k ≤ (lfV V id).length ∧ iv = .int .i64 k ∧ OwnR 2 32 w' vf (lfV V id).length cs ∧ Below wa.heap.size wa w') (fun iv _ => (lfV V id).length - (intOf iv).toNat) ⟨0, _, by omega, rfl, hof2.1, haf⟩ ?_
    rintro _ wg ⟨k3, cs, hk3, rfl, hog, hag⟩ J5 hJ5
    dsimp only [List.headD_cons, List.tail_cons]
    rw [hvf]
    refine ln und26 ?_
    refine bi_lss_c (fun hltk => ?_) (fun hltk => ?_)
    · have hk' : k3 < (lfV V id).length := by omega
      rw [hvf] at hog
      obtain ⟨g8, u8, e8, _, q1, q2⟩ := hog.at (k3 * 2 + 0) (by omega)
      subst e8
      have q3 := hog.set (k3 * 2 + 0) (tS [33])
      have q4 := Turns.setCell (F := fun j => j = g8) (p := ⟨g8, k3 * 2 + 0, none⟩) (Turns.refl _ wg) (.inl rfl) (tS [33])
      have q5 : wa.heap.size ≤ g8 := by
        have := hfr2 g8 (by rw [hvf]; rfl)
        have := hae.size
        omega
      (repeat with_reducible first | refine ixG und26 sz23 k3 hk' ?_ | refine fdG r0 (by decide) ?_ | refine nck ?_ | refine cdT ?_ | refine cdF ?_ | refine gdY ?_ | refine gdFT ?_ | refine gdTF ?_ | refine gdU ?_ | refine gaY ?_ | refine gaFT ?_ | refine gaTF ?_ | refine pickT ?_ | refine pickF ?_ | refine bi_lss_t (by omega) ?_ | refine bi_lss_f (by omega) ?_ | refine bi_add64 (by omega) ?_ | refine bi_sub64 (by omega) ?_ | refine bi_eql_t (by omega) ?_ | refine bi_eql_f (by omega) ?_ | refine bi_neq_t (by omega) ?_ | refine bi_neq_f (by omega) ?_ | refine bi_gtr_t (by omega) ?_ | refine bi_gtr_f (by omega) ?_ | refine bi_leq_t (by omega) ?_ | refine bi_leq_f (by omega) ?_ | refine bi_geq_t (by omega) ?_ | refine bi_geq_f (by omega) ?_ | refine bi_xt0 ?_ | refine bi_xt1 ?_ | refine bi_xt2 ?_ | refine bi_xt3 ?_ | refine bi_T ?_ | refine bi_F ?_ | refine bi_not ?_ | refine bi_and ?_ | refine bi_or ?_ | refine bi_xor ?_ | refine bi_shr (by omega) (by decide) ?_ | refine bi_shl (by omega) (by decide) ?_ | refine bi_quo64 (by omega) ?_ | refine bi_rem64 (by omega) ?_ | refine bi_mul64 (by omega) ?_ | refine bi_neg ?_ | refine bi_un_xor32 ?_ | refine bi_add ?_ | refine bi_sub ?_ | refine bi_mul ?_ | refine bi_quo (by decide) ?_ | refine bi_rem (by decide) ?_)
      refine st szStr rfl (by rw [q1]; rfl) q2 ?_
      (repeat with_reducible first | refine nck ?_ | refine cdT ?_ | refine cdF ?_ | refine gdY ?_ | refine gdFT ?_ | refine gdTF ?_ | refine gdU ?_ | refine gaY ?_ | refine gaFT ?_ | refine gaTF ?_ | refine pickT ?_ | refine pickF ?_ | refine bi_lss_t (by omega) ?_ | refine bi_lss_f (by omega) ?_ | refine bi_add64 (by omega) ?_ | refine bi_sub64 (by omega) ?_ | refine bi_eql_t (by omega) ?_ | refine bi_eql_f (by omega) ?_ | refine bi_neq_t (by omega) ?_ | refine bi_neq_f (by omega) ?_ | refine bi_gtr_t (by omega) ?_ | refine bi_gtr_f (by omega) ?_ | refine bi_leq_t (by omega) ?_ | refine bi_leq_f (by omega) ?_ | refine bi_geq_t (by omega) ?_ | refine bi_geq_f (by omega) ?_ | refine bi_xt0 ?_ | refine bi_xt1 ?_ | refine bi_xt2 ?_ | refine bi_xt3 ?_ | refine bi_T ?_ | refine bi_F ?_ | refine bi_not ?_ | refine bi_and ?_ | refine bi_or ?_ | refine bi_xor ?_ | refine bi_shr (by omega) (by decide) ?_ | refine bi_shl (by omega) (by decide) ?_ | refine bi_quo64 (by omega) ?_ | refine bi_rem64 (by omega) ?_ | refine bi_mul64 (by omega) ?_ | refine bi_neg ?_ | refine bi_un_xor32 ?_ | refine bi_add ?_ | refine bi_sub ?_ | refine bi_mul ?_ | refine bi_quo (by decide) ?_ | refine bi_rem (by decide) ?_)
      exact hJ5 _ _ ⟨k3 + 1, _, by omega, by simp, by rw [hvf]; exact q3, below_own hag q4 q5⟩ (by simp [intOf]; omega)
    · (repeat with_reducible first | refine nck ?_ | refine cdT ?_ | refine cdF ?_ | refine gdY ?_ | refine gdFT ?_ | refine gdTF ?_ | refine gdU ?_ | refine gaY ?_ | refine gaFT ?_ | refine gaTF ?_ | refine pickT ?_ | refine pickF ?_ | refine bi_lss_t (by omega) ?_ | refine bi_lss_f (by omega) ?_ | refine bi_add64 (by omega) ?_ | refine bi_sub64 (by omega) ?_ | refine bi_eql_t (by omega) ?_ | refine bi_eql_f (by omega) ?_ | refine bi_neq_t (by omega) ?_ | refine bi_neq_f (by omega) ?_ | refine bi_gtr_t (by omega) ?_ | refine bi_gtr_f (by omega) ?_ | refine bi_leq_t (by omega) ?_ | refine bi_leq_f (by omega) ?_ | refine bi_geq_t (by omega) ?_ | refine bi_geq_f (by omega) ?_ | refine bi_xt0 ?_ | refine bi_xt1 ?_ | refine bi_xt2 ?_ | refine bi_xt3 ?_ | refine bi_T ?_ | refine bi_F ?_ | refine bi_not ?_ | refine bi_and ?_ | refine bi_or ?_ | refine bi_xor ?_ | refine bi_shr (by omega) (by decide) ?_ | refine bi_shl (by omega) (by decide) ?_ | refine bi_quo64 (by omega) ?_ | refine bi_rem64 (by omega) ?_ | refine bi_mul64 (by omega) ?_ | refine bi_neg ?_ | refine bi_un_xor32 ?_ | refine bi_add ?_ | refine bi_sub ?_ | refine bi_mul ?_ | refine bi_quo (by decide) ?_ | refine bi_rem (by decide) ?_)
      exact hJ3 _ _ ⟨id + 1, by omega, by omega, rfl, below_then ha9 hag⟩ (by simp only [intOf]; omega)
  (repeat with_reducible first | refine nck ?_ | refine cdT ?_ | refine cdF ?_ | refine gdY ?_ | refine gdFT ?_ | refine gdTF ?_ | refine gdU ?_ | refine gaY ?_ | refine gaFT ?_ | refine gaTF ?_ | refine pickT ?_ | refine pickF ?_ | refine bi_lss_t (by omega) ?_ | refine bi_lss_f (by omega) ?_ | refine bi_add64 (by omega) ?_ | refine bi_sub64 (by omega) ?_ | refine bi_eql_t (by omega) ?_ | refine bi_eql_f (by omega) ?_ | refine bi_neq_t (by omega) ?_ | refine bi_neq_f (by omega) ?_ | refine bi_gtr_t (by omega) ?_ | refine bi_gtr_f (by omega) ?_ | refine bi_leq_t (by omega) ?_ | refine bi_leq_f (by omega) ?_ | refine bi_geq_t (by omega) ?_ | refine bi_geq_f (by omega) ?_ | refine bi_xt0 ?_ | refine bi_xt1 ?_ | refine bi_xt2 ?_ | refine bi_xt3 ?_ | refine bi_T ?_ | refine bi_F ?_ | refine bi_not ?_ | refine bi_and ?_ | refine bi_or ?_ | refine bi_xor ?_ | refine bi_shr (by omega) (by decide) ?_ | refine bi_shl (by omega) (by decide) ?_ | refine bi_quo64 (by omega) ?_ | refine bi_rem64 (by omega) ?_ | refine bi_mul64 (by omega) ?_ | refine bi_neg ?_ | refine bi_un_xor32 ?_ | refine bi_add ?_ | refine bi_sub ?_ | refine bi_mul ?_ | refine bi_quo (by decide) ?_ | refine bi_rem (by decide) ?_)
  obtain ⟨cc, hSa⟩ := MemL.look (A := []) Ma
  refine (There21 hSa hs62.ok).mono ?_
  rintro vt wb ⟨L, hLe, hownL, hb⟩
  have Mb := Ma.below hb
  obtain ⟨cc2, hSb⟩ := MemL.look (A := []) Mb
  refine (Gone22 hSb hs62.ok).mono ?_
  rintro vo wc ⟨hoo, hfo, hc⟩
  have hac := below_then hb hc
  have hor := OwnR.of_own (hownL.kept hc).row
  have hft := hownL.fr
  have hsb := hb.size
  have hnoL : ∀ k, vo.ownBlock = some k → vt.ownBlock ≠ some k := fun k hk e => by
    have h1 := hfo k hk
    have h2 := (OwnR.of_own hownL.row).lt e
    omega
  obtain ⟨At, ct, hvt, hbt1, hbt2⟩ := hor.slice
  simp only [maxLen] at hbt2
  have hgl6 : (goV V).length ≤ 6 := by
    unfold goV
    refine Nat.le_trans (List.length_filterMap_le _ _) ?_
    rw [List.length_zipIdx]; exact hs62.ok.1
  obtain ⟨Ao, co, hvo⟩ := hoo.slice
  refine LoopP.inv1 (fun iv w' => ∃ (k : Nat) (cs : List Value), k ≤ L.length ∧ iv = .int .i64 k ∧ OwnR 2 47 w' vt L.length cs ∧ Own 3 w' vo (iV (goV V)) ∧ Below wa.heap.size wa w') (fun iv _ => L.length - (intOf iv).toNat) ⟨0, _, by omega, rfl, hor, hoo, hac⟩ ?_
  rintro _ wd ⟨k3, cs, hk3, rfl, hod, hood, had⟩ J6 hJ6
  dsimp only [List.headD_cons, List.tail_cons]
  rw [hvt]
  refine ln undXs ?_
  refine bi_lss_c (fun hltk => ?_) (fun hltk => ?_)
  · have hk' : k3 < L.length := by omega
    have hod0 := hod
    rw [hvt] at hod
    obtain ⟨g8, u8, e8, _, q1, q2⟩ := hod.at (k3 * 2 + 0) (by omega)
    subst e8
    have q3 := hod.set (k3 * 2 + 0) (.int .i64 9)
    have q4 := Turns.setCell (F := fun j => j = g8) (p := ⟨g8, k3 * 2 + 0, none⟩) (Turns.refl _ wd) (.inl rfl) (.int .i64 9)
    have q5 : wa.heap.size ≤ g8 := hft g8 (by rw [hvt]; rfl)
    (repeat with_reducible first | refine ixG undXs szX k3 hk' ?_ | refine fdG x0 (by decide) ?_ | refine nck ?_ | refine cdT ?_ | refine cdF ?_ | refine gdY ?_ | refine gdFT ?_ | refine gdTF ?_ | refine gdU ?_ | refine gaY ?_ | refine gaFT ?_ | refine gaTF ?_ | refine pickT ?_ | refine pickF ?_ | refine bi_lss_t (by omega) ?_ | refine bi_lss_f (by omega) ?_ | refine bi_add64 (by omega) ?_ | refine bi_sub64 (by omega) ?_ | refine bi_eql_t (by omega) ?_ | refine bi_eql_f (by omega) ?_ | refine bi_neq_t (by omega) ?_ | refine bi_neq_f (by omega) ?_ | refine bi_gtr_t (by omega) ?_ | refine bi_gtr_f (by omega) ?_ | refine bi_leq_t (by omega) ?_ | refine bi_leq_f (by omega) ?_ | refine bi_geq_t (by omega) ?_ | refine bi_geq_f (by omega) ?_ | refine bi_xt0 ?_ | refine bi_xt1 ?_ | refine bi_xt2 ?_ | refine bi_xt3 ?_ | refine bi_T ?_ | refine bi_F ?_ | refine bi_not ?_ | refine bi_and ?_ | refine bi_or ?_ | refine bi_xor ?_ | refine bi_shr (by omega) (by decide) ?_ | refine bi_shl (by omega) (by decide) ?_ | refine bi_quo64 (by omega) ?_ | refine bi_rem64 (by omega) ?_ | refine bi_mul64 (by omega) ?_ | refine bi_neg ?_ | refine bi_un_xor32 ?_ | refine bi_add ?_ | refine bi_sub ?_ | refine bi_mul ?_ | refine bi_quo (by decide) ?_ | refine bi_rem (by decide) ?_)
    refine st szI rfl (by rw [q1]; rfl) q2 ?_
    (repeat with_reducible first | refine nck ?_ | refine cdT ?_ | refine cdF ?_ | refine gdY ?_ | refine gdFT ?_ | refine gdTF ?_ | refine gdU ?_ | refine gaY ?_ | refine gaFT ?_ | refine gaTF ?_ | refine pickT ?_ | refine pickF ?_ | refine bi_lss_t (by omega) ?_ | refine bi_lss_f (by omega) ?_ | refine bi_add64 (by omega) ?_ | refine bi_sub64 (by omega) ?_ | refine bi_eql_t (by omega) ?_ | refine bi_eql_f (by omega) ?_ | refine bi_neq_t (by omega) ?_ | refine bi_neq_f (by omega) ?_ | refine bi_gtr_t (by omega) ?_ | refine bi_gtr_f (by omega) ?_ | refine bi_leq_t (by omega) ?_ | refine bi_leq_f (by omega) ?_ | refine bi_geq_t (by omega) ?_ | refine bi_geq_f (by omega) ?_ | refine bi_xt0 ?_ | refine bi_xt1 ?_ | refine bi_xt2 ?_ | refine bi_xt3 ?_ | refine bi_T ?_ | refine bi_F ?_ | refine bi_not ?_ | refine bi_and ?_ | refine bi_or ?_ | refine bi_xor ?_ | refine bi_shr (by omega) (by decide) ?_ | refine bi_shl (by omega) (by decide) ?_ | refine bi_quo64 (by omega) ?_ | refine bi_rem64 (by omega) ?_ | refine bi_mul64 (by omega) ?_ | refine bi_neg ?_ | refine bi_un_xor32 ?_ | refine bi_add ?_ | refine bi_sub ?_ | refine bi_mul ?_ | refine bi_quo (by decide) ?_ | refine bi_rem (by decide) ?_)
    exact hJ6 _ _ ⟨k3 + 1, _, by omega, by simp, by rw [hvt]; exact q3, ownsRow_turns hood q4 (fun k hk e => hnoL k hk (by rw [hvt, e]; rfl)), below_own had q4 q5⟩ (by simp [intOf]; omega)
  (repeat with_reducible first | refine nck ?_ | refine cdT ?_ | refine cdF ?_ | refine gdY ?_ | refine gdFT ?_ | refine gdTF ?_ | refine gdU ?_ | refine gaY ?_ | refine gaFT ?_ | refine gaTF ?_ | refine pickT ?_ | refine pickF ?_ | refine bi_lss_t (by omega) ?_ | refine bi_lss_f (by omega) ?_ | refine bi_add64 (by omega) ?_ | refine bi_sub64 (by omega) ?_ | refine bi_eql_t (by omega) ?_ | refine bi_eql_f (by omega) ?_ | refine bi_neq_t (by omega) ?_ | refine bi_neq_f (by omega) ?_ | refine bi_gtr_t (by omega) ?_ | refine bi_gtr_f (by omega) ?_ | refine bi_leq_t (by omega) ?_ | refine bi_leq_f (by omega) ?_ | refine bi_geq_t (by omega) ?_ | refine bi_geq_f (by omega) ?_ | refine bi_xt0 ?_ | refine bi_xt1 ?_ | refine bi_xt2 ?_ | refine bi_xt3 ?_ | refine bi_T ?_ | refine bi_F ?_ | refine bi_not ?_ | refine bi_and ?_ | refine bi_or ?_ | refine bi_xor ?_ | refine bi_shr (by omega) (by decide) ?_ | refine bi_shl (by omega) (by decide) ?_ | refine bi_quo64 (by omega) ?_ | refine bi_rem64 (by omega) ?_ | refine bi_mul64 (by omega) ?_ | refine bi_neg ?_ | refine bi_un_xor32 ?_ | refine bi_add ?_ | refine bi_sub ?_ | refine bi_mul ?_ | refine bi_quo (by decide) ?_ | refine bi_rem (by decide) ?_)
  have hlg : (iV (goV V)).length = (goV V).length := List.length_map _
  refine LoopP.inv1 (fun iv w' => ∃ (k : Nat) (l' : List Int), l'.length = (goV V).length ∧ k ≤ (goV V).length ∧ iv = .int .i64 k ∧ Own 3 w' vo (iV l') ∧ Below wa.heap.size wa w') (fun iv _ => (goV V).length - (intOf iv).toNat) ⟨0, _, rfl, by omega, rfl, hood, had⟩ ?_
  rintro _ we ⟨k4, l', hl', hk4, rfl, hoe, hae⟩ J7 hJ7
  dsimp only [List.headD_cons, List.tail_cons]
  rw [hvo, hlg]
  refine ln undIs ?_
  refine bi_lss_c (fun hltk2 => ?_) (fun hltk2 => ?_)
  · have hk' : k4 < (goV V).length := by omega
    obtain ⟨g8, n8, cc8, e8, hn8, q1, q2, q3, q4, q5⟩ := setRow9 (w' := we) hoe hfo (by rw [hl']; exact hk')
    have e8' := hvo.symm.trans e8
    rw [hlg] at e8'
    cases e8'
    (repeat with_reducible first | refine nck ?_ | refine cdT ?_ | refine cdF ?_ | refine gdY ?_ | refine gdFT ?_ | refine gdTF ?_ | refine gdU ?_ | refine gaY ?_ | refine gaFT ?_ | refine gaTF ?_ | refine pickT ?_ | refine pickF ?_ | refine bi_lss_t (by omega) ?_ | refine bi_lss_f (by omega) ?_ | refine bi_add64 (by omega) ?_ | refine bi_sub64 (by omega) ?_ | refine bi_eql_t (by omega) ?_ | refine bi_eql_f (by omega) ?_ | refine bi_neq_t (by omega) ?_ | refine bi_neq_f (by omega) ?_ | refine bi_gtr_t (by omega) ?_ | refine bi_gtr_f (by omega) ?_ | refine bi_leq_t (by omega) ?_ | refine bi_leq_f (by omega) ?_ | refine bi_geq_t (by omega) ?_ | refine bi_geq_f (by omega) ?_ | refine bi_xt0 ?_ | refine bi_xt1 ?_ | refine bi_xt2 ?_ | refine bi_xt3 ?_ | refine bi_T ?_ | refine bi_F ?_ | refine bi_not ?_ | refine bi_and ?_ | refine bi_or ?_ | refine bi_xor ?_ | refine bi_shr (by omega) (by decide) ?_ | refine bi_shl (by omega) (by decide) ?_ | refine bi_quo64 (by omega) ?_ | refine bi_rem64 (by omega) ?_ | refine bi_mul64 (by omega) ?_ | refine bi_neg ?_ | refine bi_un_xor32 ?_ | refine bi_add ?_ | refine bi_sub ?_ | refine bi_mul ?_ | refine bi_quo (by decide) ?_ | refine bi_rem (by decide) ?_)
    refine ix1 undIs szI hk' ?_
    rw [add0, Nat.zero_add]
    refine st szI rfl q1 q2 ?_
    (repeat with_reducible first | refine nck ?_ | refine cdT ?_ | refine cdF ?_ | refine gdY ?_ | refine gdFT ?_ | refine gdTF ?_ | refine gdU ?_ | refine gaY ?_ | refine gaFT ?_ | refine gaTF ?_ | refine pickT ?_ | refine pickF ?_ | refine bi_lss_t (by omega) ?_ | refine bi_lss_f (by omega) ?_ | refine bi_add64 (by omega) ?_ | refine bi_sub64 (by omega) ?_ | refine bi_eql_t (by omega) ?_ | refine bi_eql_f (by omega) ?_ | refine bi_neq_t (by omega) ?_ | refine bi_neq_f (by omega) ?_ | refine bi_gtr_t (by omega) ?_ | refine bi_gtr_f (by omega) ?_ | refine bi_leq_t (by omega) ?_ | refine bi_leq_f (by omega) ?_ | refine bi_geq_t (by omega) ?_ | refine bi_geq_f (by omega) ?_ | refine bi_xt0 ?_ | refine bi_xt1 ?_ | refine bi_xt2 ?_ | refine bi_xt3 ?_ | refine bi_T ?_ | refine bi_F ?_ | refine bi_not ?_ | refine bi_and ?_ | refine bi_or ?_ | refine bi_xor ?_ | refine bi_shr (by omega) (by decide) ?_ | refine bi_shl (by omega) (by decide) ?_ | refine bi_quo64 (by omega) ?_ | refine bi_rem64 (by omega) ?_ | refine bi_mul64 (by omega) ?_ | refine bi_neg ?_ | refine bi_un_xor32 ?_ | refine bi_add ?_ | refine bi_sub ?_ | refine bi_mul ?_ | refine bi_quo (by decide) ?_ | refine bi_rem (by decide) ?_)
    exact hJ7 _ _ ⟨k4 + 1, l'.set k4 9, by rw [List.length_set]; exact hl', by omega, by simp, q3, below_own hae q4 (by omega)⟩ (by simp [intOf]; omega)
  (repeat with_reducible first | refine nck ?_ | refine cdT ?_ | refine cdF ?_ | refine gdY ?_ | refine gdFT ?_ | refine gdTF ?_ | refine gdU ?_ | refine gaY ?_ | refine gaFT ?_ | refine gaTF ?_ | refine pickT ?_ | refine pickF ?_ | refine bi_lss_t (by omega) ?_ | refine bi_lss_f (by omega) ?_ | refine bi_add64 (by omega) ?_ | refine bi_sub64 (by omega) ?_ | refine bi_eql_t (by omega) ?_ | refine bi_eql_f (by omega) ?_ | refine bi_neq_t (by omega) ?_ | refine bi_neq_f (by omega) ?_ | refine bi_gtr_t (by omega) ?_ | refine bi_gtr_f (by omega) ?_ | refine bi_leq_t (by omega) ?_ | refine bi_leq_f (by omega) ?_ | refine bi_geq_t (by omega) ?_ | refine bi_geq_f (by omega) ?_ | refine bi_xt0 ?_ | refine bi_xt1 ?_ | refine bi_xt2 ?_ | refine bi_xt3 ?_ | refine bi_T ?_ | refine bi_F ?_ | refine bi_not ?_ | refine bi_and ?_ | refine bi_or ?_ | refine bi_xor ?_ | refine bi_shr (by omega) (by decide) ?_ | refine bi_shl (by omega) (by decide) ?_ | refine bi_quo64 (by omega) ?_ | refine bi_rem64 (by omega) ?_ | refine bi_mul64 (by omega) ?_ | refine bi_neg ?_ | refine bi_un_xor32 ?_ | refine bi_add ?_ | refine bi_sub ?_ | refine bi_mul ?_ | refine bi_quo (by decide) ?_ | refine bi_rem (by decide) ?_)
  have Me := Ma.below hae
  obtain ⟨cE, hE1, hE2, hE3⟩ := Me
  have hO1 : BdS 1 cE we g1 V := hE2 (obD 1 g1 V) (by simp)
  have hO2 : RbS 2 cE we g2 (veV R) R := hE2 (obE 2 g2 R) (by simp)
  refine (same23 (k := 62) hO1 hO2 hs62.ok (by omega) hs62.st.1 hs62.st.2 (fun x hx => Nat.le_trans (hs62.len x hx) (by omega))).mono ?_
  rintro _ wf ⟨⟨b, rfl, hb'⟩, hf⟩
  have : b = true := hb'.2 (same_rel hs62.rel hs62.ok)
  subst this
  exact ⟨rfl, below_then hb2 (below_then hE3 hf)⟩
theorem BoardKeeps_law (v u : Value) (l : List ActBT) (fs : List Int) (w : World) (h0 : ActsB w [v] l) (h1 : IntsT w [u] fs) :
    CallP Try.prog 4 #[v, u] (fun r w' => r = .bool true ∧ Below w.heap.size w w') w := boardKeeps v u _ fs w (actsB_of h0).1 (actsB_of h0).2 (intsT_rd h1).1
end Go.Proofs.Ytcfncjejpjjhdaa.E
