import Derived.Test.YthicbfopjakiiaaE4
import Derived.Test.YthicbfopjakiiaaProg
import Derived.KernelRfl
namespace Go.Proofs.Ythicbfopjakiiaa.E
open Go
set_option maxRecDepth 100000

/-- shelfmark/shelfmarkref13.numbers -/
def S63 (a0 : Value) (R : Value → World → Prop) (w : World) : Prop :=
  LiftP Try.prog (Instr.box 58 a0) (fun v1 w =>
  LiftP Try.prog (Instr.fieldAt 58 v1 1) (fun v3 w =>
  LiftP Try.prog (Instr.loadAt 3 v3) (fun v4 w =>
  LiftP Try.prog (Instr.fieldAt 58 v1 2) (fun v5 w =>
  LiftP Try.prog (Instr.loadAt 3 v5) (fun v6 w =>
  LiftP Try.prog (Instr.fieldAt 58 v1 3) (fun v7 w =>
  LiftP Try.prog (Instr.loadAt 3 v7) (fun v8 w =>
  LiftP Try.prog (Instr.fieldAt 58 v1 4) (fun v9 w =>
  LiftP Try.prog (Instr.loadAt 3 v9) (fun v10 w =>
  LiftP Try.prog (Instr.fieldAt 58 v1 5) (fun v11 w =>
  LiftP Try.prog (Instr.loadAt 3 v11) (fun v12 w =>
  LiftP Try.prog (Instr.fieldAt 58 v1 6) (fun v13 w =>
  LiftP Try.prog (Instr.loadAt 3 v13) (fun v14 w =>
  LiftP Try.prog (Instr.fieldAt 58 v1 11) (fun v15 w =>
  LiftP Try.prog (Instr.loadAt 25 v15) (fun v16 w =>
  LiftP Try.prog (Instr.buildSlice 81 7 #[(0, v4), (1, v6), (2, v8), (3, v10), (4, v12), (5, v14), (6, v16)]) (fun v17 w =>
  R v17 w) w) w) w) w) w) w) w) w) w) w) w) w) w) w) w) w
theorem S63.calls (a0 : Value) (R : Value → World → Prop) (w : World) (h : S63 a0 R w) : Calls Try.prog 63 #[a0] w fun e w' => ∃ v, e = .returned v ∧ R v w' :=
  calls_of_tr (n := 18) (c := bodyOf Try.f63) (.two .leaf (.two .leaf .leaf)) Try.func63 (by kernel_rfl) Try.ntmps63 (by kernel_rfl) (by kernel_rfl) [a0] (by kernel_rfl) (of_eq_ (by kernel_rfl) h)

end Go.Proofs.Ythicbfopjakiiaa.E
