import Derived.Test.YtonblppkidpmlaaGreatDoorM1
import Derived.Test.YtonblppkidpmlaaGreatDoorProg
import Derived.KernelRfl
import Derived.Test.YtonblppkidpmlaaGreatDoorMn
import Derived.Shelf.Vars
namespace Go.Proofs.YtonblppkidpmlaaGreatDoor.E
open Go
set_option maxRecDepth 100000

/-- shelfmark/shelfmarklaw05.PlainCas -/
def S5 (a0 a1 a2 a3 a4 : Value) (R : Value → World → Prop) (w : World) : Prop :=
  CallP Tryz.prog 9 #[] (fun v17 w =>
  LiftP Tryz.prog (Op.unary Go.UnOp.not v17) (fun v18 w =>
  CondP v18 (fun w =>
    R (Go.Value.bool false) w) (fun w =>
    CallP Tryz.prog 13 #[a0, (Go.Value.int Go.IntKind.i64 60)] (fun v20 w =>
  LiftP Tryz.prog (Op.unary Go.UnOp.not v20) (fun v21 w =>
  GuardP v21 false (fun K w => K a1 w) (fun v23 w =>
  GuardP v21 false (fun K w => K a3 w) (fun v24 w =>
  GuardP v21 false (fun K w => K a2 w) (fun v25 w =>
  GuardP v21 false (fun K w => K a4 w) (fun v26 w =>
  GuardP v21 false (fun K w => LiftP Tryz.prog (Instr.build 26 #[(1, v23), (3, v24), (4, v25), (7, v26)]) K w) (fun v27 w =>
  GuardP v21 false (fun K w => CallP Tryz.prog 10 #[v27] K w) (fun v28 w =>
  GuardP v21 false (fun K w => LiftP Tryz.prog (Op.unary Go.UnOp.not v28) K w) (fun v29 w =>
  PickP v21 (Go.Value.bool true) v29 (fun v30 w =>
  CondP v30 (fun w =>
    R (Go.Value.bool true) w) (fun w =>
    CallP Tryz.prog 14 #[] (fun v31 w =>
  LoopP (fun J vs w =>   -- [12]
    NextP Tryz.prog (builtin Go.Builtin.len #[31] 3 #[false] #[a0]) (fun v34 w =>
    LiftP Tryz.prog (binS Go.BinOp.lss 3 (Go.Operand.tmp 32) (Go.Operand.tmp 34) (vs.headD undef) v34) (fun v35 w =>
    CondP v35 (fun w =>
      LiftP Tryz.prog (Instr.indexAt 31 a0 (vs.headD undef)) (fun v41 w =>
    LiftP Tryz.prog (Instr.loadAt 26 v41) (fun v42 w =>
    CallP Tryz.prog 15 #[v31, v42] (fun v43 w =>
    LiftP Tryz.prog (binS Go.BinOp.add 3 (Go.Operand.tmp 36) (Go.Operand.const (Go.Value.int Go.IntKind.i64 1)) (vs.headD undef) (Go.Value.int Go.IntKind.i64 1)) (fun v37 w =>
    J [v37] w) w) w) w) w) (fun w =>
      LiftP Tryz.prog (Instr.build 26 #[(0, (Go.Value.int Go.IntKind.i64 3)), (1, a1)]) (fun v46 w =>
  CallP Tryz.prog 15 #[v31, v46] (fun v47 w =>
  LiftP Tryz.prog (Instr.alloc 37 true (.tuple #[])) (fun v13 w =>
  LiftU Tryz.prog (Instr.storeAt 37 v13 v47) (fun v_ w =>
  LiftP Tryz.prog (Instr.build 26 #[(0, (Go.Value.int Go.IntKind.i64 4)), (1, a1), (4, a2), (3, a3)]) (fun v52 w =>
  CallP Tryz.prog 15 #[v31, v52] (fun v53 w =>
  LiftP Tryz.prog (Instr.alloc 37 true (.tuple #[])) (fun v14 w =>
  LiftU Tryz.prog (Instr.storeAt 37 v14 v53) (fun v__1 w =>
  LiftP Tryz.prog (Instr.build 26 #[(0, (Go.Value.int Go.IntKind.i64 3)), (1, a1)]) (fun v56 w =>
  CallP Tryz.prog 15 #[v31, v56] (fun v57 w =>
  LiftP Tryz.prog (Instr.alloc 37 true (.tuple #[])) (fun v15 w =>
  LiftU Tryz.prog (Instr.storeAt 37 v15 v57) (fun v__2 w =>
  LiftP Tryz.prog (Instr.build 26 #[(0, (Go.Value.int Go.IntKind.i64 4)), (1, a1), (4, a2), (3, a4)]) (fun v62 w =>
  CallP Tryz.prog 15 #[v31, v62] (fun v63 w =>
  LiftP Tryz.prog (Instr.alloc 37 true (.tuple #[])) (fun v16 w =>
  LiftU Tryz.prog (Instr.storeAt 37 v16 v63) (fun v__3 w =>
  LiftP Tryz.prog (Instr.fieldAt 37 v14 0) (fun v64 w =>
  LiftP Tryz.prog (Instr.loadAt 29 v64) (fun v65 w =>
  LiftP Tryz.prog (binS Go.BinOp.eql 29 (Go.Operand.tmp 65) (Go.Operand.const (Go.Value.int Go.IntKind.i64 0)) v65 (Go.Value.int Go.IntKind.i64 0)) (fun v67 w =>
  CondP v67 (fun w =>
    DrawP (fun S w =>
    YieldP Tryz.prog S (Instr.fieldAt 37 v13 2) (fun v68 w =>
    YieldP Tryz.prog S (Instr.loadAt 23 v68) (fun v69 w =>
    ActP S (fun K w => CallP Tryz.prog 17 #[v69, a2] K w) (fun S v71 w =>
    GuardP v71 true (fun K w => YieldP Tryz.prog S (Instr.fieldAt 37 v14 1) K w) (fun v73 w =>
    GuardP v71 true (fun K w => YieldP Tryz.prog S (Instr.loadAt 4 v73) K w) (fun v74 w =>
    GuardP v71 true (fun K w => YieldP Tryz.prog S (Instr.fieldAt 37 v13 1) K w) (fun v75 w =>
    GuardP v71 true (fun K w => YieldP Tryz.prog S (Instr.loadAt 4 v75) K w) (fun v76 w =>
    GuardP v71 true (fun K w => YieldP Tryz.prog S (binS Go.BinOp.eql 4 (Go.Operand.tmp 74) (Go.Operand.tmp 76) v74 v76) K w) (fun v77 w =>
    PickP v71 v77 (Go.Value.bool false) (fun v78 w =>
    GuardP v78 true (fun K w => YieldP Tryz.prog S (Instr.fieldAt 37 v15 2) K w) (fun v80 w =>
    GuardP v78 true (fun K w => YieldP Tryz.prog S (Instr.loadAt 23 v80) K w) (fun v81 w =>
    GuardP v78 true (fun K w => K a3 w) (fun v82 w =>
    GuardA v78 true S (fun K w => CallP Tryz.prog 17 #[v81, v82] K w) (fun S v83 w =>
    PickP v78 v83 (Go.Value.bool false) (fun v84 w =>
    GuardP v84 true (fun K w => YieldP Tryz.prog S (Instr.fieldAt 37 v16 0) K w) (fun v86 w =>
    GuardP v84 true (fun K w => YieldP Tryz.prog S (Instr.loadAt 29 v86) K w) (fun v87 w =>
    GuardP v84 true (fun K w => YieldP Tryz.prog S (binS Go.BinOp.eql 29 (Go.Operand.tmp 87) (Go.Operand.const (Go.Value.int Go.IntKind.i64 9)) v87 (Go.Value.int Go.IntKind.i64 9)) K w) (fun v88 w =>
    GuardP v84 true (fun K w => K v88 w) (fun v89 w =>
    GuardP v89 true (fun K w => YieldP Tryz.prog S (Instr.fieldAt 37 v16 2) K w) (fun v90 w =>
    GuardP v89 true (fun K w => YieldP Tryz.prog S (Instr.loadAt 23 v90) K w) (fun v91 w =>
    GuardP v89 true (fun K w => K a3 w) (fun v92 w =>
    GuardA v89 true S (fun K w => CallP Tryz.prog 17 #[v91, v92] K w) (fun S v93 w =>
    GuardP v84 true (fun K w => PickP v89 v93 (Go.Value.bool false) K w) (fun v94 w =>
    GuardP v84 true (fun K w => K v94 w) (fun v95 w =>
    GuardP v95 false (fun K w => YieldP Tryz.prog S (Instr.fieldAt 37 v16 0) K w) (fun v96 w =>
    GuardP v95 false (fun K w => YieldP Tryz.prog S (Instr.loadAt 29 v96) K w) (fun v97 w =>
    GuardP v95 false (fun K w => YieldP Tryz.prog S (binS Go.BinOp.eql 29 (Go.Operand.tmp 97) (Go.Operand.const (Go.Value.int Go.IntKind.i64 0)) v97 (Go.Value.int Go.IntKind.i64 0)) K w) (fun v98 w =>
    GuardP v95 false (fun K w => K v98 w) (fun v99 w =>
    GuardP v99 true (fun K w => K a3 w) (fun v100 w =>
    GuardP v99 true (fun K w => K a2 w) (fun v101 w =>
    GuardA v99 true S (fun K w => CallP Tryz.prog 17 #[v100, v101] K w) (fun S v102 w =>
    GuardP v95 false (fun K w => PickP v99 v102 (Go.Value.bool false) K w) (fun v103 w =>
    GuardP v84 true (fun K w => PickP v95 (Go.Value.bool true) v103 K w) (fun v104 w =>
    GuardP v84 true (fun K w => K v104 w) (fun v105 w =>
    GuardP v105 false (fun K w => YieldP Tryz.prog S (Instr.fieldAt 37 v16 0) K w) (fun v106 w =>
    GuardP v105 false (fun K w => YieldP Tryz.prog S (Instr.loadAt 29 v106) K w) (fun v107 w =>
    GuardP v105 false (fun K w => K a1 w) (fun v108 w =>
    GuardP v105 false (fun K w => K a4 w) (fun v109 w =>
    GuardP v105 false (fun K w => K a2 w) (fun v110 w =>
    GuardP v105 false (fun K w => YieldP Tryz.prog S (Instr.build 26 #[(0, (Go.Value.int Go.IntKind.i64 4)), (1, v108), (3, v109), (4, v110)]) K w) (fun v111 w =>
    GuardA v105 false S (fun K w => CallP Tryz.prog 12 #[v111] K w) (fun S v112 w =>
    GuardP v105 false (fun K w => YieldP Tryz.prog S (binS Go.BinOp.eql 29 (Go.Operand.tmp 107) (Go.Operand.tmp 112) v107 v112) K w) (fun v113 w =>
    GuardP v105 false (fun K w => K v113 w) (fun v114 w =>
    GuardP v114 true (fun K w => YieldP Tryz.prog S (Instr.fieldAt 37 v16 0) K w) (fun v115 w =>
    GuardP v114 true (fun K w => YieldP Tryz.prog S (Instr.loadAt 29 v115) K w) (fun v116 w =>
    GuardP v114 true (fun K w => YieldP Tryz.prog S (binS Go.BinOp.neq 29 (Go.Operand.tmp 116) (Go.Operand.const (Go.Value.int Go.IntKind.i64 0)) v116 (Go.Value.int Go.IntKind.i64 0)) K w) (fun v117 w =>
    GuardP v105 false (fun K w => PickP v114 v117 (Go.Value.bool false) K w) (fun v118 w =>
    GuardP v84 true (fun K w => PickP v105 (Go.Value.bool true) v118 K w) (fun v119 w =>
    PickP v84 v119 (Go.Value.bool false) (fun v120 w =>
    R v120 w) w) w) w) w) w) w) w) w) w) w) w) w) w) w) w) w) w) w) w) w) w) w) w) w) w) w) w) w) w) w) w) w) w) w) w) w) w) w) w) w) w) w) w) w) w) w) w) w) w) w) (fun w =>
    LiftP Tryz.prog (binS Go.BinOp.eql 29 (Go.Operand.tmp 65) (Go.Operand.const (Go.Value.int Go.IntKind.i64 9)) v65 (Go.Value.int Go.IntKind.i64 9)) (fun v122 w =>
    CondP v122 (fun w =>
      LiftP Tryz.prog (Instr.fieldAt 37 v13 2) (fun v123 w =>
      LiftP Tryz.prog (Instr.loadAt 23 v123) (fun v124 w =>
      CallP Tryz.prog 17 #[v124, a2] (fun v126 w =>
      LiftP Tryz.prog (Op.unary Go.UnOp.not v126) (fun v127 w =>
      GuardP v127 true (fun K w => LiftP Tryz.prog (Instr.fieldAt 37 v14 2) K w) (fun v129 w =>
      GuardP v127 true (fun K w => LiftP Tryz.prog (Instr.loadAt 23 v129) K w) (fun v130 w =>
      GuardP v127 true (fun K w => LiftP Tryz.prog (Instr.fieldAt 37 v13 2) K w) (fun v131 w =>
      GuardP v127 true (fun K w => LiftP Tryz.prog (Instr.loadAt 23 v131) K w) (fun v132 w =>
      GuardP v127 true (fun K w => CallP Tryz.prog 17 #[v130, v132] K w) (fun v133 w =>
      PickP v127 v133 (Go.Value.bool false) (fun v134 w =>
      GuardP v134 true (fun K w => LiftP Tryz.prog (Instr.fieldAt 37 v15 2) K w) (fun v136 w =>
      GuardP v134 true (fun K w => LiftP Tryz.prog (Instr.loadAt 23 v136) K w) (fun v137 w =>
      GuardP v134 true (fun K w => LiftP Tryz.prog (Instr.fieldAt 37 v13 2) K w) (fun v138 w =>
      GuardP v134 true (fun K w => LiftP Tryz.prog (Instr.loadAt 23 v138) K w) (fun v139 w =>
      GuardP v134 true (fun K w => CallP Tryz.prog 17 #[v137, v139] K w) (fun v140 w =>
      PickP v134 v140 (Go.Value.bool false) (fun v141 w =>
      R v141 w) w) w) w) w) w) w) w) w) w) w) w) w) w) w) w) w) (fun w =>
      LiftP Tryz.prog (Instr.loadAt 37 v13) (fun v142 w =>
  LiftP Tryz.prog (Instr.loadAt 37 v15) (fun v143 w =>
  CallP Tryz.prog 18 #[v142, v143] (fun v144 w =>
  R v144 w) w) w) w) w) w) w) w) w) w) w) w) w) w) w) w) w) w) w) w) w) w) w) w) w) w) w) w) w) [(Go.Value.int Go.IntKind.i64 0)] w) w) w) w) w) w) w) w) w) w) w) w) w) w) w) w
theorem S5.calls (a0 a1 a2 a3 a4 : Value) (R : Value → World → Prop) (w : World) (h : S5 a0 a1 a2 a3 a4 R w) : Calls Tryz.prog 5 #[a0, a1, a2, a3, a4] w fun e w' => ∃ v, e = .returned v ∧ R v w' :=
  calls_of_tr (n := 145) (c := bodyOf Tryz.f5) (.two .leaf (.two (.two .leaf (.two (.two .leaf .leaf) .leaf)) (.two (.two .leaf (.two (.two .leaf .leaf) .leaf)) (.two .leaf (.two (.two .leaf (.one (.loop [12] (.two (.two .leaf (.two .leaf .leaf)) (.two (.one .leaf) .leaf))))) (.two .leaf (.two .leaf (.two .leaf (.two .leaf (.two (.two .leaf (.one (.two .leaf (.two (.two (.draw [(true, 0), (true, 1), (true, 2), (false, 3), (true, 4), (true, 5), (true, 6), (true, 7), (true, 8), (true, 9), (true, 10), (true, 11), (true, 12), (true, 13), (true, 14), (false, 15), (true, 16), (true, 17), (true, 18), (true, 19), (true, 20), (true, 21), (true, 22), (true, 23), (true, 24), (false, 25), (true, 26), (true, 27), (true, 28), (true, 29), (true, 30), (true, 31), (true, 32), (true, 33), (false, 34), (true, 35), (true, 36), (true, 37), (true, 38), (true, 39), (true, 40), (true, 41), (true, 42), (true, 43), (false, 44), (true, 45), (true, 46), (true, 47), (true, 48), (true, 49), (true, 50), (true, 51), (true, 52), (true, 53)]) .leaf) (.two .leaf (.two (.two .leaf .leaf) .leaf)))))) (.two .leaf .leaf))))))))))) Tryz.func5 (by kernel_rfl) Tryz.ntmps5 (by kernel_rfl) (by kernel_rfl) [a0, a1, a2, a3, a4] (by kernel_rfl) (of_eq_ (by kernel_rfl) h)

end Go.Proofs.YtonblppkidpmlaaGreatDoor.E
namespace Go.Proofs.YtonblppkidpmlaaGreatDoor.E
open Go Go.RowKit
set_option linter.unusedSimpArgs false
set_option linter.unusedVariables false

end Go.Proofs.YtonblppkidpmlaaGreatDoor.E
namespace Go.Proofs.YtonblppkidpmlaaGreatDoor.E
open Go Go.RowKit
theorem gmx_of {w : World} (h : w.ShapedOpen Tryz.prog) : GMx w :=
  cell_of_shapedOpen_int (g := 0) (t := 3) (zero := #[.int .i64 0]) (k := .i64) h (of_decide_eq_true (by kernel_rfl)) (by kernel_rfl) rfl (by kernel_rfl) (by kernel_rfl) und3
end Go.Proofs.YtonblppkidpmlaaGreatDoor.E
namespace Go.Proofs.YtonblppkidpmlaaGreatDoor.E
open Go Go.RowKit
set_option linter.unusedSimpArgs false
set_option linter.unusedVariables false

end Go.Proofs.YtonblppkidpmlaaGreatDoor.E
namespace Go.Proofs.YtonblppkidpmlaaGreatDoor.E
open Go Go.RowKit
set_option linter.unusedSimpArgs false
set_option linter.unusedVariables false

end Go.Proofs.YtonblppkidpmlaaGreatDoor.E
