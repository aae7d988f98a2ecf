import Derived.Test.YtonblppkidpmlaaGreatDoorM1
import Derived.Test.YtonblppkidpmlaaGreatDoorProg
import Derived.KernelRfl
import Derived.Test.YtonblppkidpmlaaGreatDoorMn
import Derived.Shelf.Vars
namespace Go.Proofs.YtonblppkidpmlaaGreatDoor.E
open Go
set_option maxRecDepth 100000

/-- shelfmark/shelfmarklaw05.PlainKeeps -/
def S8 (a0 a1 a2 : Value) (R : Value → World → Prop) (w : World) : Prop :=
  LiftP Tryz.prog (Instr.box 26 a1) (fun v4 w =>
  CallP Tryz.prog 9 #[] (fun v18 w =>
  LiftP Tryz.prog (Op.unary Go.UnOp.not v18) (fun v19 w =>
  CondP v19 (fun w =>
    R (Go.Value.bool false) w) (fun w =>
    CallP Tryz.prog 13 #[a0, (Go.Value.int Go.IntKind.i64 60)] (fun v21 w =>
  LiftP Tryz.prog (Op.unary Go.UnOp.not v21) (fun v22 w =>
  GuardP v22 false (fun K w => LiftP Tryz.prog (Instr.loadAt 26 v4) K w) (fun v24 w =>
  GuardP v22 false (fun K w => CallP Tryz.prog 10 #[v24] K w) (fun v25 w =>
  GuardP v22 false (fun K w => LiftP Tryz.prog (Op.unary Go.UnOp.not v25) K w) (fun v26 w =>
  PickP v22 (Go.Value.bool true) v26 (fun v27 w =>
  GuardP v27 false (fun K w => K a2 w) (fun v29 w =>
  GuardP v27 false (fun K w => CallP Tryz.prog 19 #[v29, (Go.Value.int Go.IntKind.i64 300)] K w) (fun v30 w =>
  GuardP v27 false (fun K w => LiftP Tryz.prog (Op.unary Go.UnOp.not v30) K w) (fun v31 w =>
  PickP v27 (Go.Value.bool true) v31 (fun v32 w =>
  CondP v32 (fun w =>
    R (Go.Value.bool true) w) (fun w =>
    CallP Tryz.prog 14 #[] (fun v33 w =>
  LoopP (fun J vs w =>   -- [8]
    NextP Tryz.prog (builtin Go.Builtin.len #[31] 3 #[false] #[a0]) (fun v36 w =>
    LiftP Tryz.prog (binS Go.BinOp.lss 3 (Go.Operand.tmp 34) (Go.Operand.tmp 36) (vs.headD undef) v36) (fun v37 w =>
    CondP v37 (fun w =>
      LiftP Tryz.prog (Instr.indexAt 31 a0 (vs.headD undef)) (fun v43 w =>
    LiftP Tryz.prog (Instr.loadAt 26 v43) (fun v44 w =>
    CallP Tryz.prog 15 #[v33, v44] (fun v45 w =>
    LiftP Tryz.prog (binS Go.BinOp.add 3 (Go.Operand.tmp 38) (Go.Operand.const (Go.Value.int Go.IntKind.i64 1)) (vs.headD undef) (Go.Value.int Go.IntKind.i64 1)) (fun v39 w =>
    J [v39] w) w) w) w) w) (fun w =>
      NextP Tryz.prog (builtin Go.Builtin.append #[23, 23] 23 #[false, false] #[(Go.Value.slice none 0 0), a2]) (fun v48 w =>
  LiftP Tryz.prog (Instr.build 26 #[(0, (Go.Value.int Go.IntKind.i64 1)), (1, (Go.Value.string { data := #[111, 119, 110] })), (3, v48)]) (fun v51 w =>
  CallP Tryz.prog 15 #[v33, v51] (fun v52 w =>
  CallP Tryz.prog 20 #[v33] (fun v54 w =>
  LoopP (fun J_1 vs_1 w =>   -- [11]
    NextP Tryz.prog (builtin Go.Builtin.len #[23] 3 #[false] #[v48]) (fun v57 w =>
    LiftP Tryz.prog (binS Go.BinOp.lss 3 (Go.Operand.tmp 55) (Go.Operand.tmp 57) (vs_1.headD undef) v57) (fun v58 w =>
    CondP v58 (fun w =>
      LiftP Tryz.prog (Instr.build 67 #[(0, (Go.Value.int Go.IntKind.i64 9))]) (fun v63 w =>
    LiftP Tryz.prog (Instr.indexAt 23 v48 (vs_1.headD undef)) (fun v64 w =>
    LiftU Tryz.prog (Instr.storeAt 67 v64 v63) (fun v_ w =>
    LiftP Tryz.prog (binS Go.BinOp.add 3 (Go.Operand.tmp 59) (Go.Operand.const (Go.Value.int Go.IntKind.i64 1)) (vs_1.headD undef) (Go.Value.int Go.IntKind.i64 1)) (fun v60 w =>
    J_1 [v60] w) w) w) w) w) (fun w =>
      CallP Tryz.prog 20 #[v33] (fun v66 w =>
  LoopP (fun J_2 vs_2 w =>   -- [13]
    NextP Tryz.prog (builtin Go.Builtin.len #[35] 3 #[false] #[v66]) (fun v69 w =>
    LiftP Tryz.prog (binS Go.BinOp.lss 3 (Go.Operand.tmp 67) (Go.Operand.tmp 69) (vs_2.headD undef) v69) (fun v70 w =>
    CondP v70 (fun w =>
      LoopP (fun J_3 vs_3 w =>   -- [14]
      LiftP Tryz.prog (Instr.indexAt 35 v66 (vs_2.headD undef)) (fun v76 w =>
      LiftP Tryz.prog (Instr.fieldAt 40 v76 1) (fun v77 w =>
      LiftP Tryz.prog (Instr.loadAt 23 v77) (fun v78 w =>
      NextP Tryz.prog (builtin Go.Builtin.len #[23] 3 #[false] #[v78]) (fun v79 w =>
      LiftP Tryz.prog (binS Go.BinOp.lss 3 (Go.Operand.tmp 73) (Go.Operand.tmp 79) (vs_3.headD undef) v79) (fun v80 w =>
      CondP v80 (fun w =>
        LiftP Tryz.prog (Instr.indexAt 35 v66 (vs_2.headD undef)) (fun v85 w =>
      LiftP Tryz.prog (Instr.fieldAt 40 v85 1) (fun v86 w =>
      LiftP Tryz.prog (Instr.loadAt 23 v86) (fun v87 w =>
      LiftP Tryz.prog (Instr.build 67 #[(0, (Go.Value.int Go.IntKind.i64 9))]) (fun v89 w =>
      LiftP Tryz.prog (Instr.indexAt 23 v87 (vs_3.headD undef)) (fun v90 w =>
      LiftU Tryz.prog (Instr.storeAt 67 v90 v89) (fun v__1 w =>
      LiftP Tryz.prog (binS Go.BinOp.add 3 (Go.Operand.tmp 81) (Go.Operand.const (Go.Value.int Go.IntKind.i64 1)) (vs_3.headD undef) (Go.Value.int Go.IntKind.i64 1)) (fun v82 w =>
      J_3 [v82] w) w) w) w) w) w) w) w) (fun w =>
        LiftP Tryz.prog (binS Go.BinOp.add 3 (Go.Operand.tmp 71) (Go.Operand.const (Go.Value.int Go.IntKind.i64 1)) (vs_2.headD undef) (Go.Value.int Go.IntKind.i64 1)) (fun v72 w =>
    J_2 [v72] w) w) w) w) w) w) w) w) [(Go.Value.int Go.IntKind.i64 0)] w) (fun w =>
      LiftP Tryz.prog (Instr.build 26 #[(0, (Go.Value.int Go.IntKind.i64 3)), (1, (Go.Value.string { data := #[111, 119, 110] }))]) (fun v92 w =>
  CallP Tryz.prog 15 #[v33, v92] (fun v93 w =>
  LiftP Tryz.prog (Instr.alloc 37 true (.tuple #[])) (fun v15 w =>
  LiftU Tryz.prog (Instr.storeAt 37 v15 v93) (fun v__2 w =>
  LoopP (fun J_4 vs_4 w =>   -- [16]
    LiftP Tryz.prog (Instr.fieldAt 37 v15 2) (fun v95 w =>
    LiftP Tryz.prog (Instr.loadAt 23 v95) (fun v96 w =>
    NextP Tryz.prog (builtin Go.Builtin.len #[23] 3 #[false] #[v96]) (fun v97 w =>
    LiftP Tryz.prog (binS Go.BinOp.lss 3 (Go.Operand.tmp 94) (Go.Operand.tmp 97) (vs_4.headD undef) v97) (fun v98 w =>
    CondP v98 (fun w =>
      LiftP Tryz.prog (Instr.fieldAt 37 v15 2) (fun v101 w =>
    LiftP Tryz.prog (Instr.loadAt 23 v101) (fun v102 w =>
    LiftP Tryz.prog (Instr.build 67 #[(0, (Go.Value.int Go.IntKind.i64 9))]) (fun v104 w =>
    LiftP Tryz.prog (Instr.indexAt 23 v102 (vs_4.headD undef)) (fun v105 w =>
    LiftU Tryz.prog (Instr.storeAt 67 v105 v104) (fun v__3 w =>
    LiftP Tryz.prog (binS Go.BinOp.add 3 (Go.Operand.tmp 99) (Go.Operand.const (Go.Value.int Go.IntKind.i64 1)) (vs_4.headD undef) (Go.Value.int Go.IntKind.i64 1)) (fun v100 w =>
    J_4 [v100] w) w) w) w) w) w) w) (fun w =>
      CallP Tryz.prog 31 #[v33] (fun v107 w =>
  LiftP Tryz.prog (binS Go.BinOp.eql 33 (Go.Operand.tmp 108) (Go.Operand.const (Go.Value.pointer none)) v107 (Go.Value.pointer none)) (fun v109 w =>
  GuardP v109 false (fun K w => K v107 w) (fun v111 w =>
  GuardP v109 false (fun K w => CallP Tryz.prog 20 #[v111] K w) (fun v112 w =>
  GuardP v109 false (fun K w => K v54 w) (fun v113 w =>
  GuardP v109 false (fun K w => CallP Tryz.prog 16 #[v112, v113] K w) (fun v114 w =>
  GuardP v109 false (fun K w => LiftP Tryz.prog (Op.unary Go.UnOp.not v114) K w) (fun v115 w =>
  PickP v109 (Go.Value.bool true) v115 (fun v116 w =>
  GuardP v116 false (fun K w => K v107 w) (fun v118 w =>
  GuardP v116 false (fun K w => CallP Tryz.prog 21 #[v118] K w) (fun v119 w =>
  GuardP v116 false (fun K w => K v33 w) (fun v120 w =>
  GuardP v116 false (fun K w => CallP Tryz.prog 21 #[v120] K w) (fun v121 w =>
  GuardP v116 false (fun K w => CallP Tryz.prog 29 #[v119, v121] K w) (fun v122 w =>
  GuardP v116 false (fun K w => LiftP Tryz.prog (Op.unary Go.UnOp.not v122) K w) (fun v123 w =>
  PickP v116 (Go.Value.bool true) v123 (fun v124 w =>
  CondP v124 (fun w =>
    R (Go.Value.bool false) w) (fun w =>
    LiftP Tryz.prog (Instr.loadAt 26 v4) (fun v126 w =>
  CallP Tryz.prog 15 #[v107, v126] (fun v127 w =>
  CallP Tryz.prog 20 #[v33] (fun v129 w =>
  CallP Tryz.prog 16 #[v129, v54] (fun v131 w =>
  R v131 w) w) w) w) w) w) w) w) w) w) w) w) w) w) w) w) w) w) w) w) w) w) w) w) w) w) [(Go.Value.int Go.IntKind.i64 0)] w) w) w) w) w) w) w) w) [(Go.Value.int Go.IntKind.i64 0)] w) w) w) w) w) [(Go.Value.int Go.IntKind.i64 0)] w) w) w) w) w) w) w) w) [(Go.Value.int Go.IntKind.i64 0)] w) w) w) w) w) w) w) w) w) w) w) w) w) w) w) w) w
theorem S8.calls (a0 a1 a2 : Value) (R : Value → World → Prop) (w : World) (h : S8 a0 a1 a2 R w) : Calls Tryz.prog 8 #[a0, a1, a2] w fun e w' => ∃ v, e = .returned v ∧ R v w' :=
  calls_of_tr (n := 132) (c := bodyOf Tryz.f8) (.two .leaf (.two (.two .leaf (.two (.two .leaf .leaf) .leaf)) (.two (.two .leaf (.two (.two .leaf .leaf) .leaf)) (.two .leaf (.two (.two .leaf (.one (.loop [8] (.two (.two .leaf (.two .leaf .leaf)) (.two (.one .leaf) .leaf))))) (.two .leaf (.two .leaf (.two .leaf (.two .leaf (.two (.two .leaf (.one (.loop [11] (.two (.two .leaf (.two .leaf .leaf)) (.two (.one .leaf) .leaf))))) (.two .leaf (.two (.two .leaf (.one (.loop [13] (.two (.two .leaf (.two .leaf .leaf)) (.two (.one (.two .leaf (.one (.loop [14] (.two (.two .leaf (.two .leaf .leaf)) (.two (.one .leaf) .leaf)))))) .leaf))))) (.two .leaf (.two (.two .leaf (.one (.loop [16] (.two (.two .leaf (.two .leaf .leaf)) (.two (.one .leaf) .leaf))))) (.two .leaf (.two (.two .leaf (.two (.two .leaf .leaf) .leaf)) (.two .leaf (.two .leaf .leaf)))))))))))))))))) Tryz.func8 (by kernel_rfl) Tryz.ntmps8 (by kernel_rfl) (by kernel_rfl) [a0, a1, a2] (by kernel_rfl) (of_eq_ (by kernel_rfl) h)

end Go.Proofs.YtonblppkidpmlaaGreatDoor.E
namespace Go.Proofs.YtonblppkidpmlaaGreatDoor.E
open Go Go.RowKit
set_option linter.unusedSimpArgs false
set_option linter.unusedVariables false

end Go.Proofs.YtonblppkidpmlaaGreatDoor.E
namespace Go.Proofs.YtonblppkidpmlaaGreatDoor.E
open Go Go.RowKit
theorem gmx_of {w : World} (h : w.ShapedOpen Tryz.prog) : GMx w :=
  cell_of_shapedOpen_int (g := 0) (t := 3) (zero := #[.int .i64 0]) (k := .i64) h (of_decide_eq_true (by kernel_rfl)) (by kernel_rfl) rfl (by kernel_rfl) (by kernel_rfl) und3
end Go.Proofs.YtonblppkidpmlaaGreatDoor.E
namespace Go.Proofs.YtonblppkidpmlaaGreatDoor.E
open Go Go.RowKit
set_option linter.unusedSimpArgs false
set_option linter.unusedVariables false

end Go.Proofs.YtonblppkidpmlaaGreatDoor.E
namespace Go.Proofs.YtonblppkidpmlaaGreatDoor.E
open Go Go.RowKit
set_option linter.unusedSimpArgs false
set_option linter.unusedVariables false

def idxV : Nat → List (List Int) → List (Int × List Int)
  | _, [] => []
  | n, fs :: t => if fs.length = 0 then idxV (n + 1) t else ((n : Int) + 1, fs) :: idxV (n + 1) t
theorem idxV_take (n : Nat) : ∀ (X : List (List Int)) (i : Nat) (h : i < X.length), idxV n (X.take (i + 1)) = idxV n (X.take i) ++ (if X[i].length = 0 then [] else [(((n + i : Nat) : Int) + 1, X[i])])
  | fs :: t, 0, _ => by
    simp only [List.take_succ_cons, List.take_zero, idxV, List.getElem_cons_zero, Nat.add_zero]
    split <;> rfl
  | fs :: t, i + 1, h => by
    have ih := idxV_take (n + 1) t i (by simpa using h)
    simp only [List.take_succ_cons, idxV, List.getElem_cons_succ, ih]
    rw [show n + 1 + i = n + (i + 1) by omega]
    split <;> simp
end Go.Proofs.YtonblppkidpmlaaGreatDoor.E
