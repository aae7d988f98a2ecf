import Derived.Test.YtonblppkidpmlaaGreatDoorM1
import Derived.Test.YtonblppkidpmlaaGreatDoorProg
import Derived.KernelRfl
import Derived.Test.YtonblppkidpmlaaGreatDoorMn
import Derived.Shelf.Vars
namespace Go.Proofs.YtonblppkidpmlaaGreatDoor.E
open Go
set_option maxRecDepth 100000

/-- shelfmark/shelfmarklaw05.PlainChecks -/
def S3 (a0 : Value) (R : Value → World → Prop) (w : World) : Prop :=
  LiftP Tryz.prog (Instr.box 26 a0) (fun v1 w =>
  CallP Tryz.prog 9 #[] (fun v3 w =>
  LiftP Tryz.prog (Op.unary Go.UnOp.not v3) (fun v4 w =>
  CondP v4 (fun w =>
    R (Go.Value.bool false) w) (fun w =>
    LiftP Tryz.prog (Instr.loadAt 26 v1) (fun v5 w =>
  CallP Tryz.prog 10 #[v5] (fun v6 w =>
  LiftP Tryz.prog (Op.unary Go.UnOp.not v6) (fun v7 w =>
  CondP v7 (fun w =>
    R (Go.Value.bool true) w) (fun w =>
    DrawP (fun S w =>
  YieldP Tryz.prog S (Instr.loadAt 26 v1) (fun v8 w =>
  YieldP Tryz.prog S (Instr.loadAt 26 v1) (fun v10 w =>
  ActP S (fun K w => CallP Tryz.prog 11 #[v8] K w) (fun S v9 w =>
  ActP S (fun K w => CallP Tryz.prog 12 #[v10] K w) (fun S v11 w =>
  YieldP Tryz.prog S (binS Go.BinOp.eql 29 (Go.Operand.tmp 9) (Go.Operand.tmp 11) v9 v11) (fun v12 w =>
  R v12 w) w) w) w) w) w) w) w) w) w) w) w) w) w) w
theorem S3.calls (a0 : Value) (R : Value → World → Prop) (w : World) (h : S3 a0 R w) : Calls Tryz.prog 3 #[a0] w fun e w' => ∃ v, e = .returned v ∧ R v w' :=
  calls_of_tr (n := 13) (c := bodyOf Tryz.f3) (.two .leaf (.two (.two .leaf (.two (.two .leaf .leaf) .leaf)) (.two (.two .leaf (.two (.two .leaf .leaf) .leaf)) (.two (.draw [(true, 0), (true, 2), (false, 1), (false, 3), (true, 4), (true, 5)]) .leaf)))) Tryz.func3 (by kernel_rfl) Tryz.ntmps3 (by kernel_rfl) (by kernel_rfl) [a0] (by kernel_rfl) (of_eq_ (by kernel_rfl) h)

end Go.Proofs.YtonblppkidpmlaaGreatDoor.E
namespace Go.Proofs.YtonblppkidpmlaaGreatDoor.E
open Go Go.RowKit
set_option linter.unusedSimpArgs false
set_option linter.unusedVariables false

theorem plainChecks (o : OpP) (s : OpS) (w : World) (h : OpAt w o s) (hm : GMx w) : CallP Tryz.prog 3 #[.agg (opC o s)] (fun r w' => r = .bool true ∧ Below w.heap.size w w') w := by
  refine ⟨S3.calls _ _ _ ?_⟩
  unfold S3
  refine bxB ?_
  intro g w1 hg hB hb1
  refine (awake9 w1 (hm.below hb1)).mono ?_
  rintro _ w2 ⟨rfl, hb2⟩
  have hb02 := below_then hb1 hb2
  have hB2 := hB.below' hb2
  (repeat with_reducible first|refine z_a ?_|refine z_b ?_|refine z_c ?_|refine z_d ?_|refine z_e ?_|refine z_f ?_|refine z_g ?_|refine z_h ?_|refine z_i ?_|refine z_j ?_|refine z_k ?_|refine z_l ?_|refine z_m (by omega) ?_|refine z_n (by omega) ?_|refine z_o (by omega) ?_|refine z_p (by omega) ?_|refine z_q (by omega) ?_|refine z_r (by omega) ?_|refine z_s (by omega) ?_|refine z_t (by omega) ?_|refine z_u (by omega) ?_|refine z_v (by omega) ?_|refine z_w (by omega) ?_|refine z_x (by omega) ?_|refine z_y (by omega) ?_|refine z_z (by omega) ?_|refine z_A ?_|refine z_B ?_|refine z_C ?_|refine z_D ?_|refine z_E ?_|refine z_F ?_|refine z_G ?_|refine z_H ?_|refine z_I ?_|refine z_J ?_|refine z_K (by omega) (by decide) ?_|refine z_L (by omega) (by decide) ?_|refine z_M (by omega) ?_|refine z_N (by omega) ?_|refine z_O (by omega) ?_|refine z_P ?_|refine z_Q ?_|refine z_R ?_|refine z_S ?_|refine z_T ?_|refine z_U (by decide) ?_|refine z_V (by decide) ?_)
  simp only [Bool.not_true]
  (repeat with_reducible first|refine z_a ?_|refine z_b ?_|refine z_c ?_|refine z_d ?_|refine z_e ?_|refine z_f ?_|refine z_g ?_|refine z_h ?_|refine z_i ?_|refine z_j ?_|refine z_k ?_|refine z_l ?_|refine z_m (by omega) ?_|refine z_n (by omega) ?_|refine z_o (by omega) ?_|refine z_p (by omega) ?_|refine z_q (by omega) ?_|refine z_r (by omega) ?_|refine z_s (by omega) ?_|refine z_t (by omega) ?_|refine z_u (by omega) ?_|refine z_v (by omega) ?_|refine z_w (by omega) ?_|refine z_x (by omega) ?_|refine z_y (by omega) ?_|refine z_z (by omega) ?_|refine z_A ?_|refine z_B ?_|refine z_C ?_|refine z_D ?_|refine z_E ?_|refine z_F ?_|refine z_G ?_|refine z_H ?_|refine z_I ?_|refine z_J ?_|refine z_K (by omega) (by decide) ?_|refine z_L (by omega) (by decide) ?_|refine z_M (by omega) ?_|refine z_N (by omega) ?_|refine z_O (by omega) ?_|refine z_P ?_|refine z_Q ?_|refine z_R ?_|refine z_S ?_|refine z_T ?_|refine z_U (by decide) ?_|refine z_V (by decide) ?_)
  refine ldA aggOp hB2 (by exact szOp) ?_
  refine (Light10 o s w2 (h.below hb02)).mono ?_
  rintro _ w3 ⟨b, rfl, _, hb3⟩
  have hb03 := below_then hb02 hb3
  have hB3 := hB2.below' hb3
  refine bi_not ?_
  cases b with
  | false =>
    refine CondP.yes rfl ?_
    exact ⟨by first | rfl | trivial, hb03⟩
  | true =>
  refine CondP.no_ rfl ?_
  have hdr : Below w3.heap.size w3 w3.drew := (Below.refl _ _).drew
  refine draw (Below w3.heap.size w3) hdr ?_
  refine yldA aggOp (fun w' hb => hB3.below' hb) (by exact szOp) ?_
  refine yldA aggOp (fun w' hb => hB3.below' hb) (by exact szOp) ?_
  generalize w3.drew = wd at *
  have hb0d := below_then hb03 hdr
  refine act ?_
  refine (Check11 o s wd (h.below hb0d) (hm.below hb0d)).mono ?_
  rintro _ w4 ⟨rfl, hb4⟩
  have hb34 := below_then hdr hb4
  have hb04 := below_then hb0d hb4
  refine ⟨_, hb34, fun _ h => h, ?_⟩
  refine act ?_
  refine (Check12 o s w4 (h.below hb04)).mono ?_
  rintro _ w5 ⟨rfl, hb5⟩
  refine ⟨_, below_then hb34 hb5, fun _ h => h, ?_⟩
  refine yi_eql ?_
  exact ⟨by rw [decide_eq_true rfl], below_then hb04 hb5⟩
end Go.Proofs.YtonblppkidpmlaaGreatDoor.E
namespace Go.Proofs.YtonblppkidpmlaaGreatDoor.E
open Go Go.RowKit
theorem gmx_of {w : World} (h : w.ShapedOpen Tryz.prog) : GMx w :=
  cell_of_shapedOpen_int (g := 0) (t := 3) (zero := #[.int .i64 0]) (k := .i64) h (of_decide_eq_true (by kernel_rfl)) (by kernel_rfl) rfl (by kernel_rfl) (by kernel_rfl) und3
theorem PlainChecks_law (c : Array Value) (z : OpT) (w : World) (h : rOp w c.toList z) (hm : GMx w) : CallP Tryz.prog 3 #[.agg c] (fun r w' => r = .bool true ∧ Below w.heap.size w w') w := by
  obtain ⟨s, he, ho⟩ := op_at h
  have e : c = opC (toP z) s := by
    apply Array.ext'
    rw [he]
  subst e
  exact plainChecks _ s w ho hm
end Go.Proofs.YtonblppkidpmlaaGreatDoor.E
