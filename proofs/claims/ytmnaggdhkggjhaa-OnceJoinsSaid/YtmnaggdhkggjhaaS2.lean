import Derived.Test.YtmnaggdhkggjhaaM1
import Derived.Test.YtmnaggdhkggjhaaProg
import Derived.KernelRfl
namespace Go.Proofs.Ytmnaggdhkggjhaa.E
open Go
set_option maxRecDepth 100000

/-- shelfmark/shelfmarklaw17.OncePlays -/
def S4 (a0 : Value) (R : Value → World → Prop) (w : World) : Prop :=
  CallP Try.prog 8 #[] (fun v11 w =>
  LiftP Try.prog (Op.unary Go.UnOp.not v11) (fun v12 w =>
  CondP v12 (fun w =>
    R (Go.Value.bool false) w) (fun w =>
    CallP Try.prog 14 #[a0] (fun v14 w =>
  LiftP Try.prog (Op.unary Go.UnOp.not v14) (fun v15 w =>
  CondP v15 (fun w =>
    R (Go.Value.bool true) w) (fun w =>
    CallP Try.prog 10 #[] (fun v16 w =>
  LiftP Try.prog (Instr.build 45 #[]) (fun v17 w =>
  LiftP Try.prog (Instr.box 45 v17) (fun v18 w =>
  LoopP (fun J vs w =>   -- [5]
    NextP Try.prog (builtin Go.Builtin.len #[39] 3 #[false] #[a0]) (fun v21 w =>
    LiftP Try.prog (binS Go.BinOp.lss 3 (Go.Operand.tmp 19) (Go.Operand.tmp 21) (vs.headD undef) v21) (fun v22 w =>
    CondP v22 (fun w =>
      LiftP Try.prog (Instr.indexAt 39 a0 (vs.headD undef)) (fun v27 w =>
    LiftP Try.prog (Instr.loadAt 47 v27) (fun v28 w =>
    LiftP Try.prog (Instr.alloc 47 true (.tuple #[])) (fun v6 w =>
    LiftU Try.prog (Instr.storeAt 47 v6 v28) (fun v_ w =>
    LiftP Try.prog (Instr.fieldAt 47 v6 1) (fun v31 w =>
    LiftP Try.prog (Instr.loadAt 3 v31) (fun v32 w =>
    LiftP Try.prog (Instr.fieldAt 47 v6 2) (fun v33 w =>
    LiftP Try.prog (Instr.loadAt 3 v33) (fun v34 w =>
    CallP Try.prog 12 #[v16, v32, v34] (fun v35 w =>
    LiftP Try.prog (Instr.extract v35 0) (fun v36 w =>
    LiftP Try.prog (Instr.extract v35 1) (fun v37 w =>
    LiftP Try.prog (Instr.alloc 27 true (.tuple #[])) (fun v7 w =>
    LiftU Try.prog (Instr.storeAt 27 v7 v36) (fun v__1 w =>
    LiftP Try.prog (Instr.fieldAt 47 v6 1) (fun v40 w =>
    LiftP Try.prog (Instr.loadAt 3 v40) (fun v41 w =>
    LiftP Try.prog (Instr.fieldAt 47 v6 2) (fun v42 w =>
    LiftP Try.prog (Instr.loadAt 3 v42) (fun v43 w =>
    CallP Try.prog 15 #[v18, v41, v43] (fun v44 w =>
    LiftP Try.prog (Instr.extract v44 0) (fun v45 w =>
    LiftP Try.prog (Instr.extract v44 1) (fun v46 w =>
    LiftP Try.prog (Instr.alloc 27 true (.tuple #[])) (fun v9 w =>
    LiftU Try.prog (Instr.storeAt 27 v9 v45) (fun v__2 w =>
    DrawP (fun S w =>
    YieldP Try.prog S (binS Go.BinOp.neq 22 (Go.Operand.tmp 47) (Go.Operand.tmp 48) v37 v46) (fun v49 w =>
    GuardP v49 false (fun K w => YieldP Try.prog S (Instr.loadAt 27 v7) K w) (fun v51 w =>
    GuardP v49 false (fun K w => YieldP Try.prog S (Instr.loadAt 27 v9) K w) (fun v52 w =>
    GuardA v49 false S (fun K w => CallP Try.prog 13 #[v51, v52] K w) (fun S v53 w =>
    GuardP v49 false (fun K w => YieldP Try.prog S (Op.unary Go.UnOp.not v53) K w) (fun v54 w =>
    PickP v49 (Go.Value.bool true) v54 (fun v55 w =>
    GuardP v55 false (fun K w => K v16 w) (fun v57 w =>
    GuardP v55 false (fun K w => YieldP Try.prog S (Instr.fieldAt 47 v6 1) K w) (fun v58 w =>
    GuardP v55 false (fun K w => YieldP Try.prog S (Instr.loadAt 3 v58) K w) (fun v59 w =>
    GuardP v55 false (fun K w => YieldP Try.prog S (Instr.fieldAt 47 v6 2) K w) (fun v60 w =>
    GuardP v55 false (fun K w => YieldP Try.prog S (Instr.loadAt 3 v60) K w) (fun v61 w =>
    GuardP v55 false (fun K w => YieldP Try.prog S (Instr.fieldAt 47 v6 3) K w) (fun v62 w =>
    GuardP v55 false (fun K w => YieldP Try.prog S (Instr.loadAt 27 v62) K w) (fun v63 w =>
    GuardP v55 false (fun K w => K v18 w) (fun v65 w =>
    GuardP v55 false (fun K w => YieldP Try.prog S (Instr.fieldAt 47 v6 1) K w) (fun v66 w =>
    GuardP v55 false (fun K w => YieldP Try.prog S (Instr.loadAt 3 v66) K w) (fun v67 w =>
    GuardP v55 false (fun K w => YieldP Try.prog S (Instr.fieldAt 47 v6 2) K w) (fun v68 w =>
    GuardP v55 false (fun K w => YieldP Try.prog S (Instr.loadAt 3 v68) K w) (fun v69 w =>
    GuardP v55 false (fun K w => YieldP Try.prog S (Instr.fieldAt 47 v6 3) K w) (fun v70 w =>
    GuardP v55 false (fun K w => YieldP Try.prog S (Instr.loadAt 27 v70) K w) (fun v71 w =>
    GuardA v55 false S (fun K w => CallP Try.prog 11 #[v57, v59, v61, v63] K w) (fun S v64 w =>
    GuardA v55 false S (fun K w => CallP Try.prog 16 #[v65, v67, v69, v71] K w) (fun S v72 w =>
    GuardP v55 false (fun K w => YieldP Try.prog S (binS Go.BinOp.neq 22 (Go.Operand.tmp 64) (Go.Operand.tmp 72) v64 v72) K w) (fun v73 w =>
    PickP v55 (Go.Value.bool true) v73 (fun v74 w =>
    CondP v74 (fun w =>
      R (Go.Value.bool false) w) (fun w =>
      LiftP Try.prog (binS Go.BinOp.add 3 (Go.Operand.tmp 23) (Go.Operand.const (Go.Value.int Go.IntKind.i64 1)) (vs.headD undef) (Go.Value.int Go.IntKind.i64 1)) (fun v24 w =>
    J [v24] w) w) w) w) w) w) w) w) w) w) w) w) w) w) w) w) w) w) w) w) w) w) w) w) w) w) w) w) w) w) w) w) w) w) w) w) w) w) w) w) w) w) w) w) w) w) w) w) w) w) (fun w =>
      CallP Try.prog 17 #[v16, v18, a0] (fun v78 w =>
  R v78 w) w) w) w) w) [(Go.Value.int Go.IntKind.i64 0)] w) w) w) w) w) w) w) w) w) w
theorem S4.calls (a0 : Value) (R : Value → World → Prop) (w : World) (h : S4 a0 R w) : Calls Try.prog 4 #[a0] w fun e w' => ∃ v, e = .returned v ∧ R v w' :=
  calls_of_tr (n := 79) (c := bodyOf Try.f4) (.two .leaf (.two (.two .leaf (.two (.two .leaf .leaf) .leaf)) (.two (.two .leaf (.two (.two .leaf .leaf) .leaf)) (.two .leaf (.two (.two .leaf (.one (.loop [5] (.two (.two .leaf (.two .leaf .leaf)) (.two (.one (.two .leaf (.two .leaf (.two .leaf (.two (.draw [(true, 0), (true, 1), (true, 2), (true, 3), (true, 4), (true, 5), (false, 6), (true, 7), (true, 8), (true, 9), (true, 10), (true, 11), (true, 12), (true, 13), (true, 14), (true, 15), (true, 16), (true, 18), (true, 19), (true, 20), (true, 21), (true, 22), (true, 23), (true, 24), (false, 17), (false, 25), (true, 26), (true, 27)]) (.two (.two .leaf .leaf) .leaf)))))) .leaf))))) (.two .leaf .leaf)))))) Try.func4 (by kernel_rfl) Try.ntmps4 (by kernel_rfl) (by kernel_rfl) [a0] (by kernel_rfl) (of_eq_ (by kernel_rfl) h)

/-- shelfmark/shelfmarklaw17.OnceApart -/
def S5 (a0 a1 : Value) (R : Value → World → Prop) (w : World) : Prop :=
  CallP Try.prog 8 #[] (fun v15 w =>
  LiftP Try.prog (Op.unary Go.UnOp.not v15) (fun v16 w =>
  CondP v16 (fun w =>
    R (Go.Value.bool false) w) (fun w =>
    CallP Try.prog 14 #[a0] (fun v18 w =>
  LiftP Try.prog (Op.unary Go.UnOp.not v18) (fun v19 w =>
  CondP v19 (fun w =>
    R (Go.Value.bool true) w) (fun w =>
    CallP Try.prog 10 #[] (fun v20 w =>
  CallP Try.prog 10 #[] (fun v21 w =>
  LoopP (fun J vs w =>   -- [7]
    NextP Try.prog (builtin Go.Builtin.len #[39] 3 #[false] #[a0]) (fun v24 w =>
    LiftP Try.prog (binS Go.BinOp.lss 3 (Go.Operand.tmp 22) (Go.Operand.tmp 24) (vs.headD undef) v24) (fun v25 w =>
    CondP v25 (fun w =>
      DrawP (fun S w =>
    YieldP Try.prog S (Instr.indexAt 39 a0 (vs.headD undef)) (fun v31 w =>
    YieldP Try.prog S (Instr.fieldAt 47 v31 1) (fun v32 w =>
    YieldP Try.prog S (Instr.loadAt 3 v32) (fun v33 w =>
    YieldP Try.prog S (Instr.indexAt 39 a0 (vs.headD undef)) (fun v36 w =>
    YieldP Try.prog S (Instr.fieldAt 47 v36 2) (fun v37 w =>
    YieldP Try.prog S (Instr.loadAt 3 v37) (fun v38 w =>
    YieldP Try.prog S (Instr.indexAt 39 a0 (vs.headD undef)) (fun v41 w =>
    YieldP Try.prog S (Instr.fieldAt 47 v41 3) (fun v42 w =>
    YieldP Try.prog S (Instr.loadAt 27 v42) (fun v43 w =>
    ActP S (fun K w => CallP Try.prog 11 #[v20, v33, v38, v43] K w) (fun S v44 w =>
    DrawP (fun S w =>
    YieldP Try.prog S (Instr.indexAt 39 a0 (vs.headD undef)) (fun v47 w =>
    YieldP Try.prog S (Instr.fieldAt 47 v47 1) (fun v48 w =>
    YieldP Try.prog S (Instr.loadAt 3 v48) (fun v49 w =>
    YieldP Try.prog S (binS Go.BinOp.eql 3 (Go.Operand.tmp 49) (Go.Operand.tmp 50) v49 a1) (fun v51 w =>
    GuardP v51 true (fun K w => K v21 w) (fun v53 w =>
    GuardP v51 true (fun K w => K a0 w) (fun v54 w =>
    GuardP v51 true (fun K w => K (vs.headD undef) w) (fun v55 w =>
    GuardP v51 true (fun K w => YieldP Try.prog S (Instr.indexAt 39 v54 v55) K w) (fun v56 w =>
    GuardP v51 true (fun K w => YieldP Try.prog S (Instr.fieldAt 47 v56 1) K w) (fun v57 w =>
    GuardP v51 true (fun K w => YieldP Try.prog S (Instr.loadAt 3 v57) K w) (fun v58 w =>
    GuardP v51 true (fun K w => K a0 w) (fun v59 w =>
    GuardP v51 true (fun K w => K (vs.headD undef) w) (fun v60 w =>
    GuardP v51 true (fun K w => YieldP Try.prog S (Instr.indexAt 39 v59 v60) K w) (fun v61 w =>
    GuardP v51 true (fun K w => YieldP Try.prog S (Instr.fieldAt 47 v61 2) K w) (fun v62 w =>
    GuardP v51 true (fun K w => YieldP Try.prog S (Instr.loadAt 3 v62) K w) (fun v63 w =>
    GuardP v51 true (fun K w => K a0 w) (fun v64 w =>
    GuardP v51 true (fun K w => K (vs.headD undef) w) (fun v65 w =>
    GuardP v51 true (fun K w => YieldP Try.prog S (Instr.indexAt 39 v64 v65) K w) (fun v66 w =>
    GuardP v51 true (fun K w => YieldP Try.prog S (Instr.fieldAt 47 v66 3) K w) (fun v67 w =>
    GuardP v51 true (fun K w => YieldP Try.prog S (Instr.loadAt 27 v67) K w) (fun v68 w =>
    GuardP v51 true (fun K w => K v44 w) (fun v70 w =>
    GuardA v51 true S (fun K w => CallP Try.prog 11 #[v53, v58, v63, v68] K w) (fun S v69 w =>
    GuardP v51 true (fun K w => YieldP Try.prog S (binS Go.BinOp.neq 22 (Go.Operand.tmp 69) (Go.Operand.tmp 70) v69 v70) K w) (fun v71 w =>
    PickP v51 v71 (Go.Value.bool false) (fun v72 w =>
    CondP v72 (fun w =>
      R (Go.Value.bool false) w) (fun w =>
      LiftP Try.prog (binS Go.BinOp.add 3 (Go.Operand.tmp 26) (Go.Operand.const (Go.Value.int Go.IntKind.i64 1)) (vs.headD undef) (Go.Value.int Go.IntKind.i64 1)) (fun v27 w =>
    J [v27] w) w) w) w) w) w) w) w) w) w) w) w) w) w) w) w) w) w) w) w) w) w) w) w) w) w) w) w) w) w) w) w) w) w) w) w) w) w) w) (fun w =>
      CallP Try.prog 18 #[v20, a1] (fun v75 w =>
  CallP Try.prog 18 #[v21, a1] (fun v78 w =>
  LiftP Try.prog (binS Go.BinOp.neq 3 (Go.Operand.tmp 75) (Go.Operand.tmp 78) v75 v78) (fun v79 w =>
  GuardP v79 false (fun K w => K v20 w) (fun v81 w =>
  GuardP v79 false (fun K w => K a1 w) (fun v82 w =>
  GuardP v79 false (fun K w => CallP Try.prog 20 #[v81, v82] K w) (fun v83 w =>
  GuardP v79 false (fun K w => K v21 w) (fun v84 w =>
  GuardP v79 false (fun K w => K a1 w) (fun v85 w =>
  GuardP v79 false (fun K w => CallP Try.prog 20 #[v84, v85] K w) (fun v86 w =>
  GuardP v79 false (fun K w => CallP Try.prog 19 #[v83, v86] K w) (fun v87 w =>
  GuardP v79 false (fun K w => LiftP Try.prog (Op.unary Go.UnOp.not v87) K w) (fun v88 w =>
  PickP v79 (Go.Value.bool true) v88 (fun v89 w =>
  CondP v89 (fun w =>
    R (Go.Value.bool false) w) (fun w =>
    CallP Try.prog 20 #[v20, a1] (fun v92 w =>
  LoopP (fun J_1 vs_1 w =>   -- [10]
    NextP Try.prog (builtin Go.Builtin.len #[51] 3 #[false] #[v92]) (fun v95 w =>
    LiftP Try.prog (binS Go.BinOp.lss 3 (Go.Operand.tmp 93) (Go.Operand.tmp 95) (vs_1.headD undef) v95) (fun v96 w =>
    CondP v96 (fun w =>
      LiftP Try.prog (Instr.indexAt 51 v92 (vs_1.headD undef)) (fun v104 w =>
    LiftP Try.prog (Instr.loadAt 3 v104) (fun v105 w =>
    CallP Try.prog 12 #[v20, a1, v105] (fun v106 w =>
    LiftP Try.prog (Instr.extract v106 0) (fun v107 w =>
    LiftP Try.prog (Instr.extract v106 1) (fun v108 w =>
    LiftP Try.prog (Instr.alloc 27 true (.tuple #[])) (fun v11 w =>
    LiftU Try.prog (Instr.storeAt 27 v11 v107) (fun v_ w =>
    LiftP Try.prog (Instr.indexAt 51 v92 (vs_1.headD undef)) (fun v114 w =>
    LiftP Try.prog (Instr.loadAt 3 v114) (fun v115 w =>
    CallP Try.prog 12 #[v21, a1, v115] (fun v116 w =>
    LiftP Try.prog (Instr.extract v116 0) (fun v117 w =>
    LiftP Try.prog (Instr.extract v116 1) (fun v118 w =>
    LiftP Try.prog (Instr.alloc 27 true (.tuple #[])) (fun v13 w =>
    LiftU Try.prog (Instr.storeAt 27 v13 v117) (fun v__1 w =>
    LiftP Try.prog (binS Go.BinOp.neq 22 (Go.Operand.tmp 119) (Go.Operand.const (Go.Value.int Go.IntKind.i64 0)) v108 (Go.Value.int Go.IntKind.i64 0)) (fun v120 w =>
    GuardP v120 false (fun K w => K v118 w) (fun v122 w =>
    GuardP v120 false (fun K w => LiftP Try.prog (binS Go.BinOp.neq 22 (Go.Operand.tmp 122) (Go.Operand.const (Go.Value.int Go.IntKind.i64 0)) v122 (Go.Value.int Go.IntKind.i64 0)) K w) (fun v123 w =>
    PickP v120 (Go.Value.bool true) v123 (fun v124 w =>
    GuardP v124 false (fun K w => LiftP Try.prog (Instr.loadAt 27 v11) K w) (fun v126 w =>
    GuardP v124 false (fun K w => LiftP Try.prog (Instr.loadAt 27 v13) K w) (fun v127 w =>
    GuardP v124 false (fun K w => CallP Try.prog 13 #[v126, v127] K w) (fun v128 w =>
    GuardP v124 false (fun K w => LiftP Try.prog (Op.unary Go.UnOp.not v128) K w) (fun v129 w =>
    PickP v124 (Go.Value.bool true) v129 (fun v130 w =>
    CondP v130 (fun w =>
      R (Go.Value.bool false) w) (fun w =>
      LiftP Try.prog (binS Go.BinOp.add 3 (Go.Operand.tmp 97) (Go.Operand.const (Go.Value.int Go.IntKind.i64 1)) (vs_1.headD undef) (Go.Value.int Go.IntKind.i64 1)) (fun v98 w =>
    J_1 [v98] w) w) w) w) w) w) w) w) w) w) w) w) w) w) w) w) w) w) w) w) w) w) w) w) w) w) (fun w =>
      R (Go.Value.bool true) w) w) w) w) [(Go.Value.int Go.IntKind.i64 0)] w) w) w) w) w) w) w) w) w) w) w) w) w) w) w) w) w) w) [(Go.Value.int Go.IntKind.i64 0)] w) w) w) w) w) w) w) w) w
theorem S5.calls (a0 a1 : Value) (R : Value → World → Prop) (w : World) (h : S5 a0 a1 R w) : Calls Try.prog 5 #[a0, a1] w fun e w' => ∃ v, e = .returned v ∧ R v w' :=
  calls_of_tr (n := 131) (c := bodyOf Try.f5) (.two .leaf (.two (.two .leaf (.two (.two .leaf .leaf) .leaf)) (.two (.two .leaf (.two (.two .leaf .leaf) .leaf)) (.two .leaf (.two (.two .leaf (.one (.loop [7] (.two (.two .leaf (.two .leaf .leaf)) (.two (.one (.two (.draw [(true, 0), (true, 1), (true, 2), (true, 3), (true, 4), (true, 5), (true, 6), (true, 7), (true, 8), (true, 9), (true, 10), (true, 11), (true, 12), (true, 13), (true, 14), (true, 15), (false, 16), (true, 17)]) (.two (.draw [(true, 0), (true, 1), (true, 2), (true, 3), (true, 4), (true, 5), (true, 6), (true, 7), (true, 8), (true, 9), (true, 10), (true, 11), (true, 12), (true, 13), (true, 14), (true, 15), (true, 16), (true, 17), (true, 18), (true, 19), (true, 20), (true, 21), (true, 22), (true, 23), (true, 25), (false, 24), (true, 26), (true, 27)]) (.two (.two .leaf .leaf) .leaf)))) .leaf))))) (.two (.two .leaf (.two (.two .leaf .leaf) .leaf)) (.two .leaf (.two (.two .leaf (.one (.loop [10] (.two (.two .leaf (.two .leaf .leaf)) (.two (.one (.two .leaf (.two .leaf (.two .leaf (.two (.two .leaf .leaf) .leaf))))) .leaf))))) (.two .leaf .leaf))))))))) Try.func5 (by kernel_rfl) Try.ntmps5 (by kernel_rfl) (by kernel_rfl) [a0, a1] (by kernel_rfl) (of_eq_ (by kernel_rfl) h)

/-- shelfmark/shelfmarklaw17.OnceJoins -/
def S7 (a0 : Value) (R : Value → World → Prop) (w : World) : Prop :=
  CallP Try.prog 8 #[] (fun v11 w =>
  LiftP Try.prog (Op.unary Go.UnOp.not v11) (fun v12 w =>
  CondP v12 (fun w =>
    R (Go.Value.bool false) w) (fun w =>
    CallP Try.prog 14 #[a0] (fun v14 w =>
  LiftP Try.prog (Op.unary Go.UnOp.not v14) (fun v15 w =>
  CondP v15 (fun w =>
    R (Go.Value.bool true) w) (fun w =>
    CallP Try.prog 10 #[] (fun v16 w =>
  CallP Try.prog 10 #[] (fun v17 w =>
  LiftP Try.prog (Instr.build 54 #[(0, v16), (1, v17)]) (fun v18 w =>
  LiftP Try.prog (Instr.alloc 54 true (.tuple #[])) (fun v3 w =>
  LiftU Try.prog (Instr.storeAt 54 v3 v18) (fun v_ w =>
  LiftP Try.prog (Instr.build 45 #[]) (fun v19 w =>
  LiftP Try.prog (Instr.box 45 v19) (fun v20 w =>
  LiftP Try.prog (Instr.build 45 #[]) (fun v21 w =>
  LiftP Try.prog (Instr.box 45 v21) (fun v22 w =>
  LiftP Try.prog (Instr.build 56 #[(0, v20), (1, v22)]) (fun v23 w =>
  LiftP Try.prog (Instr.alloc 56 true (.tuple #[])) (fun v4 w =>
  LiftU Try.prog (Instr.storeAt 56 v4 v23) (fun v__1 w =>
  LoopP (fun J vs w =>   -- [5]
    NextP Try.prog (builtin Go.Builtin.len #[39] 3 #[false] #[a0]) (fun v26 w =>
    LiftP Try.prog (binS Go.BinOp.lss 3 (Go.Operand.tmp 24) (Go.Operand.tmp 26) (vs.headD undef) v26) (fun v27 w =>
    CondP v27 (fun w =>
      LiftP Try.prog (Instr.indexAt 39 a0 (vs.headD undef)) (fun v32 w =>
    LiftP Try.prog (Instr.loadAt 47 v32) (fun v33 w =>
    LiftP Try.prog (Instr.alloc 47 true (.tuple #[])) (fun v6 w =>
    LiftU Try.prog (Instr.storeAt 47 v6 v33) (fun v__2 w =>
    DrawP (fun S w =>
    YieldP Try.prog S (Instr.fieldAt 47 v6 0) (fun v34 w =>
    YieldP Try.prog S (Instr.loadAt 3 v34) (fun v35 w =>
    YieldP Try.prog S (binS Go.BinOp.and 3 (Go.Operand.tmp 35) (Go.Operand.const (Go.Value.int Go.IntKind.i64 1)) v35 (Go.Value.int Go.IntKind.i64 1)) (fun v36 w =>
    YieldP Try.prog S (Instr.indexAt 54 v3 v36) (fun v37 w =>
    YieldP Try.prog S (Instr.loadAt 30 v37) (fun v38 w =>
    YieldP Try.prog S (Instr.fieldAt 47 v6 1) (fun v39 w =>
    YieldP Try.prog S (Instr.loadAt 3 v39) (fun v40 w =>
    YieldP Try.prog S (Instr.fieldAt 47 v6 2) (fun v41 w =>
    YieldP Try.prog S (Instr.loadAt 3 v41) (fun v42 w =>
    YieldP Try.prog S (Instr.fieldAt 47 v6 3) (fun v43 w =>
    YieldP Try.prog S (Instr.loadAt 27 v43) (fun v44 w =>
    CallP Try.prog 11 #[v38, v40, v42, v44] (fun v45 w =>
    DrawP (fun S w =>
    YieldP Try.prog S (Instr.fieldAt 47 v6 0) (fun v46 w =>
    YieldP Try.prog S (Instr.loadAt 3 v46) (fun v47 w =>
    YieldP Try.prog S (binS Go.BinOp.and 3 (Go.Operand.tmp 47) (Go.Operand.const (Go.Value.int Go.IntKind.i64 1)) v47 (Go.Value.int Go.IntKind.i64 1)) (fun v48 w =>
    YieldP Try.prog S (Instr.indexAt 56 v4 v48) (fun v49 w =>
    YieldP Try.prog S (Instr.loadAt 41 v49) (fun v50 w =>
    YieldP Try.prog S (Instr.fieldAt 47 v6 1) (fun v51 w =>
    YieldP Try.prog S (Instr.loadAt 3 v51) (fun v52 w =>
    YieldP Try.prog S (Instr.fieldAt 47 v6 2) (fun v53 w =>
    YieldP Try.prog S (Instr.loadAt 3 v53) (fun v54 w =>
    YieldP Try.prog S (Instr.fieldAt 47 v6 3) (fun v55 w =>
    YieldP Try.prog S (Instr.loadAt 27 v55) (fun v56 w =>
    CallP Try.prog 16 #[v50, v52, v54, v56] (fun v57 w =>
    LiftP Try.prog (binS Go.BinOp.add 3 (Go.Operand.tmp 28) (Go.Operand.const (Go.Value.int Go.IntKind.i64 1)) (vs.headD undef) (Go.Value.int Go.IntKind.i64 1)) (fun v29 w =>
    J [v29] w) w) w) w) w) w) w) w) w) w) w) w) w) w) w) w) w) w) w) w) w) w) w) w) w) w) w) w) w) w) w) w) (fun w =>
      DrawP (fun S w =>
  YieldP Try.prog S (Instr.indexAt 54 v3 (Go.Value.int Go.IntKind.i64 0)) (fun v58 w =>
  YieldP Try.prog S (Instr.loadAt 30 v58) (fun v59 w =>
  YieldP Try.prog S (Instr.indexAt 54 v3 (Go.Value.int Go.IntKind.i64 1)) (fun v60 w =>
  YieldP Try.prog S (Instr.loadAt 30 v60) (fun v61 w =>
  YieldP Try.prog S (Instr.indexAt 56 v4 (Go.Value.int Go.IntKind.i64 0)) (fun v63 w =>
  YieldP Try.prog S (Instr.loadAt 41 v63) (fun v64 w =>
  YieldP Try.prog S (Instr.indexAt 56 v4 (Go.Value.int Go.IntKind.i64 1)) (fun v65 w =>
  YieldP Try.prog S (Instr.loadAt 41 v65) (fun v66 w =>
  ActP S (fun K w => CallP Try.prog 21 #[v59, v61] K w) (fun S v62 w =>
  ActP S (fun K w => CallP Try.prog 22 #[v64, v66] K w) (fun S v67 w =>
  LiftP Try.prog (Instr.indexAt 54 v3 (Go.Value.int Go.IntKind.i64 0)) (fun v68 w =>
  LiftP Try.prog (Instr.loadAt 30 v68) (fun v69 w =>
  CallP Try.prog 23 #[v69] (fun v70 w =>
  CallP Try.prog 17 #[v62, v67, a0] (fun v74 w =>
  LiftP Try.prog (Op.unary Go.UnOp.not v74) (fun v75 w =>
  GuardP v75 false (fun K w => K v70 w) (fun v77 w =>
  GuardP v75 false (fun K w => LiftP Try.prog (Instr.indexAt 56 v4 (Go.Value.int Go.IntKind.i64 0)) K w) (fun v78 w =>
  GuardP v75 false (fun K w => LiftP Try.prog (Instr.loadAt 41 v78) K w) (fun v79 w =>
  GuardP v75 false (fun K w => K a0 w) (fun v80 w =>
  GuardP v75 false (fun K w => CallP Try.prog 17 #[v77, v79, v80] K w) (fun v81 w =>
  GuardP v75 false (fun K w => LiftP Try.prog (Op.unary Go.UnOp.not v81) K w) (fun v82 w =>
  PickP v75 (Go.Value.bool true) v82 (fun v83 w =>
  CondP v83 (fun w =>
    R (Go.Value.bool false) w) (fun w =>
    LoopP (fun J_1 vs_1 w =>   -- [10]
    NextP Try.prog (builtin Go.Builtin.len #[39] 3 #[false] #[a0]) (fun v86 w =>
    LiftP Try.prog (binS Go.BinOp.lss 3 (Go.Operand.tmp 84) (Go.Operand.tmp 86) (vs_1.headD undef) v86) (fun v87 w =>
    CondP v87 (fun w =>
      LiftP Try.prog (Instr.indexAt 39 a0 (vs_1.headD undef)) (fun v93 w =>
    LiftP Try.prog (Instr.fieldAt 47 v93 1) (fun v94 w =>
    LiftP Try.prog (Instr.loadAt 3 v94) (fun v95 w =>
    LiftP Try.prog (binS Go.BinOp.add 3 (Go.Operand.const (Go.Value.int Go.IntKind.i64 1000)) (Go.Operand.tmp 96) (Go.Value.int Go.IntKind.i64 1000) (vs_1.headD undef)) (fun v97 w =>
    LiftP Try.prog (Instr.build 27 #[]) (fun v98 w =>
    CallP Try.prog 11 #[v62, v95, v97, v98] (fun v99 w =>
    LiftP Try.prog (Instr.indexAt 39 a0 (vs_1.headD undef)) (fun v103 w =>
    LiftP Try.prog (Instr.fieldAt 47 v103 1) (fun v104 w =>
    LiftP Try.prog (Instr.loadAt 3 v104) (fun v105 w =>
    LiftP Try.prog (binS Go.BinOp.add 3 (Go.Operand.const (Go.Value.int Go.IntKind.i64 1000)) (Go.Operand.tmp 106) (Go.Value.int Go.IntKind.i64 1000) (vs_1.headD undef)) (fun v107 w =>
    LiftP Try.prog (Instr.build 27 #[]) (fun v108 w =>
    CallP Try.prog 11 #[v70, v105, v107, v108] (fun v109 w =>
    LiftP Try.prog (binS Go.BinOp.add 3 (Go.Operand.tmp 88) (Go.Operand.const (Go.Value.int Go.IntKind.i64 1)) (vs_1.headD undef) (Go.Value.int Go.IntKind.i64 1)) (fun v89 w =>
    J_1 [v89] w) w) w) w) w) w) w) w) w) w) w) w) w) w) (fun w =>
      LiftP Try.prog (Instr.indexAt 54 v3 (Go.Value.int Go.IntKind.i64 0)) (fun v110 w =>
  LiftP Try.prog (Instr.loadAt 30 v110) (fun v111 w =>
  LiftP Try.prog (Instr.indexAt 56 v4 (Go.Value.int Go.IntKind.i64 0)) (fun v112 w =>
  LiftP Try.prog (Instr.loadAt 41 v112) (fun v113 w =>
  CallP Try.prog 17 #[v111, v113, a0] (fun v115 w =>
  GuardP v115 true (fun K w => LiftP Try.prog (Instr.indexAt 54 v3 (Go.Value.int Go.IntKind.i64 1)) K w) (fun v117 w =>
  GuardP v115 true (fun K w => LiftP Try.prog (Instr.loadAt 30 v117) K w) (fun v118 w =>
  GuardP v115 true (fun K w => LiftP Try.prog (Instr.indexAt 56 v4 (Go.Value.int Go.IntKind.i64 1)) K w) (fun v119 w =>
  GuardP v115 true (fun K w => LiftP Try.prog (Instr.loadAt 41 v119) K w) (fun v120 w =>
  GuardP v115 true (fun K w => K a0 w) (fun v121 w =>
  GuardP v115 true (fun K w => CallP Try.prog 17 #[v118, v120, v121] K w) (fun v122 w =>
  PickP v115 v122 (Go.Value.bool false) (fun v123 w =>
  R v123 w) w) w) w) w) w) w) w) w) w) w) w) w) w) w) w) [(Go.Value.int Go.IntKind.i64 0)] w) w) w) w) w) w) w) w) w) w) w) w) w) w) w) w) w) w) w) w) w) w) w) w) w) w) w) w) [(Go.Value.int Go.IntKind.i64 0)] w) w) w) w) w) w) w) w) w) w) w) w) w) w) w) w) w) w) w
theorem S7.calls (a0 : Value) (R : Value → World → Prop) (w : World) (h : S7 a0 R w) : Calls Try.prog 7 #[a0] w fun e w' => ∃ v, e = .returned v ∧ R v w' :=
  calls_of_tr (n := 124) (c := bodyOf Try.f7) (.two .leaf (.two (.two .leaf (.two (.two .leaf .leaf) .leaf)) (.two (.two .leaf (.two (.two .leaf .leaf) .leaf)) (.two .leaf (.two .leaf (.two (.two .leaf (.one (.loop [5] (.two (.two .leaf (.two .leaf .leaf)) (.two (.one (.two .leaf (.two (.drawL [(true, 0), (true, 1), (true, 2), (true, 3), (true, 4), (true, 5), (true, 6), (true, 7), (true, 8), (true, 9), (true, 10)] 11) (.drawL [(true, 0), (true, 1), (true, 2), (true, 3), (true, 4), (true, 5), (true, 6), (true, 7), (true, 8), (true, 9), (true, 10)] 11)))) .leaf))))) (.two (.draw [(true, 0), (true, 1), (true, 2), (true, 3), (true, 5), (true, 6), (true, 7), (true, 8), (false, 4), (false, 9), (true, 10), (true, 11)]) (.two .leaf (.two (.two .leaf (.two (.two .leaf .leaf) .leaf)) (.two (.two .leaf (.one (.loop [10] (.two (.two .leaf (.two .leaf .leaf)) (.two (.one (.two .leaf .leaf)) .leaf))))) (.two .leaf .leaf))))))))))) Try.func7 (by kernel_rfl) Try.ntmps7 (by kernel_rfl) (by kernel_rfl) [a0] (by kernel_rfl) (of_eq_ (by kernel_rfl) h)

/-- shelfmark/shelfmarklaw17.light -/
def S14 (a0 : Value) (R : Value → World → Prop) (w : World) : Prop :=
  LoopP (fun J vs w =>   -- [3]
    NextP Try.prog (builtin Go.Builtin.len #[39] 3 #[false] #[a0]) (fun v6 w =>
    LiftP Try.prog (binS Go.BinOp.lss 3 (Go.Operand.tmp 4) (Go.Operand.tmp 6) (vs.headD undef) v6) (fun v7 w =>
    GuardP v7 true (fun K w => K (vs.headD undef) w) (fun v9 w =>
    GuardP v7 true (fun K w => LiftP Try.prog (binS Go.BinOp.lss 3 (Go.Operand.tmp 9) (Go.Operand.const (Go.Value.int Go.IntKind.i64 100)) v9 (Go.Value.int Go.IntKind.i64 100)) K w) (fun v10 w =>
    PickP v7 v10 (Go.Value.bool false) (fun v11 w =>
    CondP v11 (fun w =>
      LiftP Try.prog (Instr.indexAt 39 a0 (vs.headD undef)) (fun v16 w =>
    LiftP Try.prog (Instr.fieldAt 47 v16 3) (fun v17 w =>
    LiftP Try.prog (Instr.fieldAt 27 v17 2) (fun v18 w =>
    LiftP Try.prog (Instr.loadAt 24 v18) (fun v19 w =>
    CallP Try.prog 9 #[v19, (Go.Value.int Go.IntKind.i64 300)] (fun v20 w =>
    LiftP Try.prog (Op.unary Go.UnOp.not v20) (fun v21 w =>
    GuardP v21 false (fun K w => K a0 w) (fun v23 w =>
    GuardP v21 false (fun K w => K (vs.headD undef) w) (fun v24 w =>
    GuardP v21 false (fun K w => LiftP Try.prog (Instr.indexAt 39 v23 v24) K w) (fun v25 w =>
    GuardP v21 false (fun K w => LiftP Try.prog (Instr.fieldAt 47 v25 3) K w) (fun v26 w =>
    GuardP v21 false (fun K w => LiftP Try.prog (Instr.fieldAt 27 v26 3) K w) (fun v27 w =>
    GuardP v21 false (fun K w => LiftP Try.prog (Instr.loadAt 25 v27) K w) (fun v28 w =>
    GuardP v21 false (fun K w => NextP Try.prog (builtin Go.Builtin.len #[25] 3 #[false] #[v28]) K w) (fun v29 w =>
    GuardP v21 false (fun K w => LiftP Try.prog (binS Go.BinOp.gtr 3 (Go.Operand.tmp 29) (Go.Operand.const (Go.Value.int Go.IntKind.i64 10)) v29 (Go.Value.int Go.IntKind.i64 10)) K w) (fun v30 w =>
    PickP v21 (Go.Value.bool true) v30 (fun v31 w =>
    CondP v31 (fun w =>
      R (Go.Value.bool false) w) (fun w =>
      LiftP Try.prog (binS Go.BinOp.add 3 (Go.Operand.tmp 12) (Go.Operand.const (Go.Value.int Go.IntKind.i64 1)) (vs.headD undef) (Go.Value.int Go.IntKind.i64 1)) (fun v13 w =>
    J [v13] w) w) w) w) w) w) w) w) w) w) w) w) w) w) w) w) w) w) (fun w =>
      NextP Try.prog (builtin Go.Builtin.len #[39] 3 #[false] #[a0]) (fun v33 w =>
  LiftP Try.prog (binS Go.BinOp.lss 3 (Go.Operand.tmp 33) (Go.Operand.const (Go.Value.int Go.IntKind.i64 100)) v33 (Go.Value.int Go.IntKind.i64 100)) (fun v34 w =>
  R v34 w) w) w) w) w) w) w) w) w) [(Go.Value.int Go.IntKind.i64 0)] w
theorem S14.calls (a0 : Value) (R : Value → World → Prop) (w : World) (h : S14 a0 R w) : Calls Try.prog 14 #[a0] w fun e w' => ∃ v, e = .returned v ∧ R v w' :=
  calls_of_tr (n := 35) (c := bodyOf Try.f14) (.two .leaf (.two (.two .leaf (.one (.loop [3] (.two (.two .leaf (.two .leaf .leaf)) (.two (.one (.two .leaf (.two (.two .leaf .leaf) .leaf))) .leaf))))) (.two .leaf .leaf))) Try.func14 (by kernel_rfl) Try.ntmps14 (by kernel_rfl) (by kernel_rfl) [a0] (by kernel_rfl) (of_eq_ (by kernel_rfl) h)

/-- (*shelfmark/shelfmarkref17.Table).Look -/
def S15 (a0 a1 a2 : Value) (R : Value → World → Prop) (w : World) : Prop :=
  LiftP Try.prog (Instr.alloc 27 true (.tuple #[])) (fun v6 w =>
  CallP Try.prog 31 #[a1, a2] (fun v11 w =>
  CondP v11 (fun w =>
    LiftP Try.prog (Instr.build 27 #[]) (fun v12 w =>
    LiftU Try.prog (Instr.storeAt 27 v6 v12) (fun v_ w =>
    RetC Try.prog v6 27 (fun x => R (.tuple #[x, (Go.Value.int Go.IntKind.i64 1)]) w) w) w) w) (fun w =>
    CallP Try.prog 32 #[a0, a1] (fun v16 w =>
  LiftP Try.prog (binS Go.BinOp.leq 3 (Go.Operand.tmp 13) (Go.Operand.tmp 16) a2 v16) (fun v17 w =>
  CondP v17 (fun w =>
    LiftP Try.prog (Instr.build 27 #[]) (fun v18 w =>
    LiftU Try.prog (Instr.storeAt 27 v6 v18) (fun v__1 w =>
    RetC Try.prog v6 27 (fun x_1 => R (.tuple #[x_1, (Go.Value.int Go.IntKind.i64 12)]) w) w) w) w) (fun w =>
    LoopP (fun J vs w =>   -- [8]
    NextP Try.prog (nilChk a0) (fun v21 w =>
    LiftP Try.prog (Instr.fieldAt 45 v21 0) (fun v22 w =>
    LiftP Try.prog (Instr.loadAt 42 v22) (fun v23 w =>
    NextP Try.prog (builtin Go.Builtin.len #[42] 3 #[false] #[v23]) (fun v24 w =>
    LiftP Try.prog (binS Go.BinOp.lss 3 (Go.Operand.tmp 19) (Go.Operand.tmp 24) (vs.headD undef) v24) (fun v25 w =>
    CondP v25 (fun w =>
      NextP Try.prog (nilChk a0) (fun v29 w =>
    LiftP Try.prog (Instr.fieldAt 45 v29 0) (fun v30 w =>
    LiftP Try.prog (Instr.loadAt 42 v30) (fun v31 w =>
    LiftP Try.prog (Instr.indexAt 42 v31 (vs.headD undef)) (fun v33 w =>
    LiftP Try.prog (Instr.fieldAt 73 v33 0) (fun v34 w =>
    LiftP Try.prog (Instr.loadAt 3 v34) (fun v35 w =>
    LiftP Try.prog (binS Go.BinOp.eql 3 (Go.Operand.tmp 35) (Go.Operand.tmp 36) v35 a1) (fun v37 w =>
    GuardP v37 true (fun K w => K a0 w) (fun v39 w =>
    GuardP v37 true (fun K w => NextP Try.prog (nilChk v39) K w) (fun v40 w =>
    GuardP v37 true (fun K w => LiftP Try.prog (Instr.fieldAt 45 v40 0) K w) (fun v41 w =>
    GuardP v37 true (fun K w => LiftP Try.prog (Instr.loadAt 42 v41) K w) (fun v42 w =>
    GuardP v37 true (fun K w => K (vs.headD undef) w) (fun v43 w =>
    GuardP v37 true (fun K w => LiftP Try.prog (Instr.indexAt 42 v42 v43) K w) (fun v44 w =>
    GuardP v37 true (fun K w => LiftP Try.prog (Instr.fieldAt 73 v44 1) K w) (fun v45 w =>
    GuardP v37 true (fun K w => LiftP Try.prog (Instr.loadAt 3 v45) K w) (fun v46 w =>
    GuardP v37 true (fun K w => K a2 w) (fun v47 w =>
    GuardP v37 true (fun K w => LiftP Try.prog (binS Go.BinOp.eql 3 (Go.Operand.tmp 46) (Go.Operand.tmp 47) v46 v47) K w) (fun v48 w =>
    PickP v37 v48 (Go.Value.bool false) (fun v49 w =>
    CondP v49 (fun w =>
      NextP Try.prog (nilChk a0) (fun v51 w =>
      LiftP Try.prog (Instr.fieldAt 45 v51 0) (fun v52 w =>
      LiftP Try.prog (Instr.loadAt 42 v52) (fun v53 w =>
      LiftP Try.prog (Instr.indexAt 42 v53 (vs.headD undef)) (fun v55 w =>
      LiftP Try.prog (Instr.fieldAt 73 v55 2) (fun v56 w =>
      LiftP Try.prog (Instr.loadAt 27 v56) (fun v57 w =>
      LiftU Try.prog (Instr.storeAt 27 v6 v57) (fun v__2 w =>
      RetC Try.prog v6 27 (fun x_2 => R (.tuple #[x_2, (Go.Value.int Go.IntKind.i64 0)]) w) w) w) w) w) w) w) w) w) (fun w =>
      LiftP Try.prog (binS Go.BinOp.add 3 (Go.Operand.tmp 26) (Go.Operand.const (Go.Value.int Go.IntKind.i64 1)) (vs.headD undef) (Go.Value.int Go.IntKind.i64 1)) (fun v27 w =>
    J [v27] w) w) w) w) w) w) w) w) w) w) w) w) w) w) w) w) w) w) w) w) w) (fun w =>
      LiftP Try.prog (Instr.build 27 #[]) (fun v58 w =>
  LiftU Try.prog (Instr.storeAt 27 v6 v58) (fun v__3 w =>
  RetC Try.prog v6 27 (fun x_3 => R (.tuple #[x_3, (Go.Value.int Go.IntKind.i64 7)]) w) w) w) w) w) w) w) w) w) w) [(Go.Value.int Go.IntKind.i64 0)] w) w) w) w) w) w) w
theorem S15.calls (a0 a1 a2 : Value) (R : Value → World → Prop) (w : World) (h : S15 a0 a1 a2 R w) : Calls Try.prog 15 #[a0, a1, a2] w fun e w' => ∃ v, e = .returned v ∧ R v w' :=
  calls_of_tr (n := 59) (c := bodyOf Try.f15) (.two .leaf (.two (.two .leaf (.two (.two .leaf .leaf) .leaf)) (.two (.two .leaf (.two (.two .leaf .leaf) .leaf)) (.two (.two .leaf (.one (.loop [8] (.two (.two .leaf (.two .leaf .leaf)) (.two (.one (.two .leaf (.two (.two .leaf .leaf) .leaf))) .leaf))))) (.two .leaf .leaf))))) Try.func15 (by kernel_rfl) Try.ntmps15 (by kernel_rfl) (by kernel_rfl) [a0, a1, a2] (by kernel_rfl) (of_eq_ (by kernel_rfl) h)

/-- (*shelfmark/shelfmarkref17.Table).Keep -/
def S16 (a0 a1 a2 a3 : Value) (R : Value → World → Prop) (w : World) : Prop :=
  LiftP Try.prog (Instr.box 27 a3) (fun v7 w =>
  CallP Try.prog 31 #[a1, a2] (fun v14 w =>
  GuardP v14 false (fun K w => LiftP Try.prog (Instr.fieldAt 27 v7 3) K w) (fun v16 w =>
  GuardP v14 false (fun K w => LiftP Try.prog (Instr.loadAt 25 v16) K w) (fun v17 w =>
  GuardP v14 false (fun K w => NextP Try.prog (builtin Go.Builtin.len #[25] 3 #[false] #[v17]) K w) (fun v18 w =>
  GuardP v14 false (fun K w => LiftP Try.prog (binS Go.BinOp.gtr 3 (Go.Operand.tmp 18) (Go.Operand.const (Go.Value.int Go.IntKind.i64 0)) v18 (Go.Value.int Go.IntKind.i64 0)) K w) (fun v19 w =>
  PickP v14 (Go.Value.bool true) v19 (fun v20 w =>
  GuardP v20 false (fun K w => LiftP Try.prog (Instr.fieldAt 27 v7 0) K w) (fun v22 w =>
  GuardP v20 false (fun K w => LiftP Try.prog (Instr.loadAt 22 v22) K w) (fun v23 w =>
  GuardP v20 false (fun K w => LiftP Try.prog (binS Go.BinOp.lss 22 (Go.Operand.tmp 23) (Go.Operand.const (Go.Value.int Go.IntKind.i64 0)) v23 (Go.Value.int Go.IntKind.i64 0)) K w) (fun v24 w =>
  PickP v20 (Go.Value.bool true) v24 (fun v25 w =>
  GuardP v25 false (fun K w => LiftP Try.prog (Instr.fieldAt 27 v7 0) K w) (fun v27 w =>
  GuardP v25 false (fun K w => LiftP Try.prog (Instr.loadAt 22 v27) K w) (fun v28 w =>
  GuardP v25 false (fun K w => LiftP Try.prog (binS Go.BinOp.gtr 22 (Go.Operand.tmp 28) (Go.Operand.const (Go.Value.int Go.IntKind.i64 1099511627776)) v28 (Go.Value.int Go.IntKind.i64 1099511627776)) K w) (fun v29 w =>
  PickP v25 (Go.Value.bool true) v29 (fun v30 w =>
  GuardP v30 false (fun K w => LiftP Try.prog (Instr.fieldAt 27 v7 4) K w) (fun v32 w =>
  GuardP v30 false (fun K w => LiftP Try.prog (Instr.loadAt 3 v32) K w) (fun v33 w =>
  GuardP v30 false (fun K w => LiftP Try.prog (binS Go.BinOp.lss 3 (Go.Operand.tmp 33) (Go.Operand.const (Go.Value.int Go.IntKind.i64 0)) v33 (Go.Value.int Go.IntKind.i64 0)) K w) (fun v34 w =>
  PickP v30 (Go.Value.bool true) v34 (fun v35 w =>
  GuardP v35 false (fun K w => LiftP Try.prog (Instr.fieldAt 27 v7 4) K w) (fun v37 w =>
  GuardP v35 false (fun K w => LiftP Try.prog (Instr.loadAt 3 v37) K w) (fun v38 w =>
  GuardP v35 false (fun K w => LiftP Try.prog (binS Go.BinOp.gtr 3 (Go.Operand.tmp 38) (Go.Operand.const (Go.Value.int Go.IntKind.i64 1099511627776)) v38 (Go.Value.int Go.IntKind.i64 1099511627776)) K w) (fun v39 w =>
  PickP v35 (Go.Value.bool true) v39 (fun v40 w =>
  GuardP v40 false (fun K w => LiftP Try.prog (Instr.fieldAt 27 v7 2) K w) (fun v42 w =>
  GuardP v40 false (fun K w => LiftP Try.prog (Instr.loadAt 24 v42) K w) (fun v43 w =>
  GuardP v40 false (fun K w => NextP Try.prog (builtin Go.Builtin.len #[24] 3 #[false] #[v43]) K w) (fun v44 w =>
  GuardP v40 false (fun K w => LiftP Try.prog (binS Go.BinOp.gtr 3 (Go.Operand.tmp 44) (Go.Operand.const (Go.Value.int Go.IntKind.i64 0)) v44 (Go.Value.int Go.IntKind.i64 0)) K w) (fun v45 w =>
  GuardP v40 false (fun K w => K v45 w) (fun v46 w =>
  GuardP v46 true (fun K w => LiftP Try.prog (Instr.fieldAt 27 v7 2) K w) (fun v47 w =>
  GuardP v46 true (fun K w => LiftP Try.prog (Instr.loadAt 24 v47) K w) (fun v48 w =>
  GuardP v46 true (fun K w => CallP Try.prog 33 #[v48] K w) (fun v49 w =>
  GuardP v46 true (fun K w => LiftP Try.prog (binS Go.BinOp.neq 22 (Go.Operand.tmp 49) (Go.Operand.const (Go.Value.int Go.IntKind.i64 0)) v49 (Go.Value.int Go.IntKind.i64 0)) K w) (fun v50 w =>
  GuardP v40 false (fun K w => PickP v46 v50 (Go.Value.bool false) K w) (fun v51 w =>
  PickP v40 (Go.Value.bool true) v51 (fun v52 w =>
  CondP v52 (fun w =>
    R (Go.Value.int Go.IntKind.i64 1) w) (fun w =>
    CallP Try.prog 15 #[a0, a1, a2] (fun v57 w =>
  LiftP Try.prog (Instr.extract v57 0) (fun v58 w =>
  LiftP Try.prog (Instr.extract v57 1) (fun v59 w =>
  LiftP Try.prog (Instr.alloc 27 true (.tuple #[])) (fun v9 w =>
  LiftU Try.prog (Instr.storeAt 27 v9 v58) (fun v_ w =>
  LiftP Try.prog (binS Go.BinOp.eql 22 (Go.Operand.tmp 60) (Go.Operand.const (Go.Value.int Go.IntKind.i64 0)) v59 (Go.Value.int Go.IntKind.i64 0)) (fun v61 w =>
  CondP v61 (fun w =>
    R (Go.Value.int Go.IntKind.i64 8) w) (fun w =>
    LiftP Try.prog (binS Go.BinOp.eql 22 (Go.Operand.tmp 62) (Go.Operand.const (Go.Value.int Go.IntKind.i64 12)) v59 (Go.Value.int Go.IntKind.i64 12)) (fun v63 w =>
  CondP v63 (fun w =>
    R (Go.Value.int Go.IntKind.i64 12) w) (fun w =>
    LiftP Try.prog (Instr.fieldAt 27 v7 2) (fun v65 w =>
  LiftP Try.prog (Instr.loadAt 24 v65) (fun v66 w =>
  NextP Try.prog (builtin Go.Builtin.append #[24, 24] 24 #[false, false] #[(Go.Value.slice none 0 0), v66]) (fun v67 w =>
  LiftP Try.prog (Instr.fieldAt 27 v7 2) (fun v68 w =>
  LiftU Try.prog (Instr.storeAt 24 v68 v67) (fun v__1 w =>
  LiftP Try.prog (Instr.loadAt 27 v7) (fun v72 w =>
  LiftP Try.prog (Instr.build 73 #[(0, a1), (1, a2), (2, v72)]) (fun v73 w =>
  CallP Try.prog 34 #[a0, v73] (fun v74 w =>
  R (Go.Value.int Go.IntKind.i64 0) w) w) w) w) w) w) w) w) w) w) w) w) w) w) w) w) w) w) w) w) w) w) w) w) w) w) w) w) w) w) w) w) w) w) w) w) w) w) w) w) w) w) w) w) w) w) w) w) w) w) w) w) w
theorem S16.calls (a0 a1 a2 a3 : Value) (R : Value → World → Prop) (w : World) (h : S16 a0 a1 a2 a3 R w) : Calls Try.prog 16 #[a0, a1, a2, a3] w fun e w' => ∃ v, e = .returned v ∧ R v w' :=
  calls_of_tr (n := 75) (c := bodyOf Try.f16) (.two .leaf (.two (.two .leaf (.two (.two .leaf .leaf) .leaf)) (.two .leaf (.two (.two .leaf (.two (.two .leaf .leaf) .leaf)) (.two (.two .leaf (.two (.two .leaf .leaf) .leaf)) (.two .leaf (.two .leaf (.two .leaf (.two .leaf .leaf))))))))) Try.func16 (by kernel_rfl) Try.ntmps16 (by kernel_rfl) (by kernel_rfl) [a0, a1, a2, a3] (by kernel_rfl) (of_eq_ (by kernel_rfl) h)

/-- shelfmark/shelfmarklaw17.same -/
def S17 (a0 a1 a2 : Value) (R : Value → World → Prop) (w : World) : Prop :=
  LiftP Try.prog (binS Go.BinOp.eql 30 (Go.Operand.tmp 14) (Go.Operand.const (Go.Value.pointer none)) a0 (Go.Value.pointer none)) (fun v15 w =>
  CondP v15 (fun w =>
    R (Go.Value.bool false) w) (fun w =>
    LoopP (fun J vs w =>   -- [7]
    NextP Try.prog (builtin Go.Builtin.len #[39] 3 #[false] #[a2]) (fun v18 w =>
    LiftP Try.prog (binS Go.BinOp.lss 3 (Go.Operand.tmp 16) (Go.Operand.tmp 18) (vs.headD undef) v18) (fun v19 w =>
    CondP v19 (fun w =>
      DrawP (fun S w =>
    YieldP Try.prog S (Instr.indexAt 39 a2 (vs.headD undef)) (fun v24 w =>
    YieldP Try.prog S (Instr.fieldAt 47 v24 1) (fun v25 w =>
    YieldP Try.prog S (Instr.loadAt 3 v25) (fun v26 w =>
    YieldP Try.prog S (Instr.indexAt 39 a2 (vs.headD undef)) (fun v29 w =>
    YieldP Try.prog S (Instr.fieldAt 47 v29 2) (fun v30 w =>
    YieldP Try.prog S (Instr.loadAt 3 v30) (fun v31 w =>
    CallP Try.prog 12 #[a0, v26, v31] (fun v36 w =>
    LiftP Try.prog (Instr.extract v36 0) (fun v37 w =>
    LiftP Try.prog (Instr.extract v36 1) (fun v38 w =>
    LiftP Try.prog (Instr.alloc 27 true (.tuple #[])) (fun v10 w =>
    LiftU Try.prog (Instr.storeAt 27 v10 v37) (fun v_ w =>
    CallP Try.prog 15 #[a1, v26, v31] (fun v43 w =>
    LiftP Try.prog (Instr.extract v43 0) (fun v44 w =>
    LiftP Try.prog (Instr.extract v43 1) (fun v45 w =>
    LiftP Try.prog (Instr.alloc 27 true (.tuple #[])) (fun v12 w =>
    LiftU Try.prog (Instr.storeAt 27 v12 v44) (fun v__1 w =>
    LiftP Try.prog (binS Go.BinOp.neq 22 (Go.Operand.tmp 46) (Go.Operand.tmp 47) v38 v45) (fun v48 w =>
    GuardP v48 false (fun K w => LiftP Try.prog (Instr.loadAt 27 v10) K w) (fun v50 w =>
    GuardP v48 false (fun K w => LiftP Try.prog (Instr.loadAt 27 v12) K w) (fun v51 w =>
    GuardP v48 false (fun K w => CallP Try.prog 13 #[v50, v51] K w) (fun v52 w =>
    GuardP v48 false (fun K w => LiftP Try.prog (Op.unary Go.UnOp.not v52) K w) (fun v53 w =>
    PickP v48 (Go.Value.bool true) v53 (fun v54 w =>
    GuardP v54 false (fun K w => K a0 w) (fun v56 w =>
    GuardP v54 false (fun K w => K v26 w) (fun v57 w =>
    GuardP v54 false (fun K w => CallP Try.prog 18 #[v56, v57] K w) (fun v58 w =>
    GuardP v54 false (fun K w => K a1 w) (fun v59 w =>
    GuardP v54 false (fun K w => K v26 w) (fun v60 w =>
    GuardP v54 false (fun K w => CallP Try.prog 32 #[v59, v60] K w) (fun v61 w =>
    GuardP v54 false (fun K w => LiftP Try.prog (binS Go.BinOp.neq 3 (Go.Operand.tmp 58) (Go.Operand.tmp 61) v58 v61) K w) (fun v62 w =>
    PickP v54 (Go.Value.bool true) v62 (fun v63 w =>
    GuardP v63 false (fun K w => K a0 w) (fun v65 w =>
    GuardP v63 false (fun K w => K v26 w) (fun v66 w =>
    GuardP v63 false (fun K w => CallP Try.prog 20 #[v65, v66] K w) (fun v67 w =>
    GuardP v63 false (fun K w => K a1 w) (fun v68 w =>
    GuardP v63 false (fun K w => K v26 w) (fun v69 w =>
    GuardP v63 false (fun K w => CallP Try.prog 35 #[v68, v69] K w) (fun v70 w =>
    GuardP v63 false (fun K w => CallP Try.prog 19 #[v67, v70] K w) (fun v71 w =>
    GuardP v63 false (fun K w => LiftP Try.prog (Op.unary Go.UnOp.not v71) K w) (fun v72 w =>
    PickP v63 (Go.Value.bool true) v72 (fun v73 w =>
    CondP v73 (fun w =>
      R (Go.Value.bool false) w) (fun w =>
      LiftP Try.prog (binS Go.BinOp.add 3 (Go.Operand.tmp 20) (Go.Operand.const (Go.Value.int Go.IntKind.i64 1)) (vs.headD undef) (Go.Value.int Go.IntKind.i64 1)) (fun v21 w =>
    J [v21] w) w) w) w) w) w) w) w) w) w) w) w) w) w) w) w) w) w) w) w) w) w) w) w) w) w) w) w) w) w) w) w) w) w) w) w) w) w) w) w) w) w) w) (fun w =>
      R (Go.Value.bool true) w) w) w) w) [(Go.Value.int Go.IntKind.i64 0)] w) w) w
theorem S17.calls (a0 a1 a2 : Value) (R : Value → World → Prop) (w : World) (h : S17 a0 a1 a2 R w) : Calls Try.prog 17 #[a0, a1, a2] w fun e w' => ∃ v, e = .returned v ∧ R v w' :=
  calls_of_tr (n := 74) (c := bodyOf Try.f17) (.two .leaf (.two (.two .leaf (.two (.two .leaf .leaf) .leaf)) (.two (.two .leaf (.one (.loop [7] (.two (.two .leaf (.two .leaf .leaf)) (.two (.one (.two (.draw [(true, 0), (true, 1), (true, 2), (true, 3), (true, 4), (true, 5), (true, 6), (true, 7), (true, 8), (true, 9), (true, 10), (true, 11)]) (.two .leaf (.two .leaf (.two .leaf (.two (.two .leaf .leaf) .leaf)))))) .leaf))))) (.two .leaf .leaf)))) Try.func17 (by kernel_rfl) Try.ntmps17 (by kernel_rfl) (by kernel_rfl) [a0, a1, a2] (by kernel_rfl) (of_eq_ (by kernel_rfl) h)

/-- shelfmark/shelfmarkref14.SameInts -/
def S19 (a0 a1 : Value) (R : Value → World → Prop) (w : World) : Prop :=
  NextP Try.prog (builtin Go.Builtin.len #[51] 3 #[false] #[a0]) (fun v7 w =>
  NextP Try.prog (builtin Go.Builtin.len #[51] 3 #[false] #[a1]) (fun v9 w =>
  LiftP Try.prog (binS Go.BinOp.neq 3 (Go.Operand.tmp 7) (Go.Operand.tmp 9) v7 v9) (fun v10 w =>
  CondP v10 (fun w =>
    R (Go.Value.bool false) w) (fun w =>
    LoopP (fun J vs w =>   -- [5]
    NextP Try.prog (builtin Go.Builtin.len #[51] 3 #[false] #[a0]) (fun v13 w =>
    LiftP Try.prog (binS Go.BinOp.lss 3 (Go.Operand.tmp 11) (Go.Operand.tmp 13) (vs.headD undef) v13) (fun v14 w =>
    CondP v14 (fun w =>
      DrawP (fun S w =>
    YieldP Try.prog S (Instr.indexAt 51 a0 (vs.headD undef)) (fun v19 w =>
    YieldP Try.prog S (Instr.loadAt 3 v19) (fun v20 w =>
    YieldP Try.prog S (Instr.indexAt 51 a1 (vs.headD undef)) (fun v23 w =>
    YieldP Try.prog S (Instr.loadAt 3 v23) (fun v24 w =>
    YieldP Try.prog S (binS Go.BinOp.neq 3 (Go.Operand.tmp 20) (Go.Operand.tmp 24) v20 v24) (fun v25 w =>
    CondP v25 (fun w =>
      R (Go.Value.bool false) w) (fun w =>
      LiftP Try.prog (binS Go.BinOp.add 3 (Go.Operand.tmp 15) (Go.Operand.const (Go.Value.int Go.IntKind.i64 1)) (vs.headD undef) (Go.Value.int Go.IntKind.i64 1)) (fun v16 w =>
    J [v16] w) w) w) w) w) w) w) w) w) (fun w =>
      R (Go.Value.bool true) w) w) w) w) [(Go.Value.int Go.IntKind.i64 0)] w) w) w) w) w
theorem S19.calls (a0 a1 : Value) (R : Value → World → Prop) (w : World) (h : S19 a0 a1 R w) : Calls Try.prog 19 #[a0, a1] w fun e w' => ∃ v, e = .returned v ∧ R v w' :=
  calls_of_tr (n := 26) (c := bodyOf Try.f19) (.two .leaf (.two (.two .leaf (.two (.two .leaf .leaf) .leaf)) (.two (.two .leaf (.one (.loop [5] (.two (.two .leaf (.two .leaf .leaf)) (.two (.one (.two (.draw [(true, 0), (true, 1), (true, 2), (true, 3), (true, 4), (true, 5), (true, 6), (true, 7), (true, 8)]) (.two (.two .leaf .leaf) .leaf))) .leaf))))) (.two .leaf .leaf)))) Try.func19 (by kernel_rfl) Try.ntmps19 (by kernel_rfl) (by kernel_rfl) [a0, a1] (by kernel_rfl) (of_eq_ (by kernel_rfl) h)

/-- (*shelfmark/once.Table).Known -/
def S20 (a0 a1 : Value) (R : Value → World → Prop) (w : World) : Prop :=
  NextP Try.prog (nilChk a0) (fun v7 w =>
  LiftP Try.prog (Instr.fieldAt 60 v7 0) (fun v8 w =>
  LiftP Try.prog (Instr.loadAt 58 v8) (fun v9 w =>
  LiftP Try.prog (Instr.lookup 58 v9 a1 false) (fun v11 w =>
  LiftP Try.prog (binS Go.BinOp.neq 63 (Go.Operand.tmp 12) (Go.Operand.const (Go.Value.pointer none)) v11 (Go.Value.pointer none)) (fun v13 w =>
  CondP v13 (fun w =>
    NextP Try.prog (nilChk v11) (fun v15 w =>
    LiftP Try.prog (Instr.fieldAt 68 v15 1) (fun v16 w =>
    LiftP Try.prog (Instr.loadAt 66 v16) (fun v17 w =>
    CallP Try.prog 37 #[v17] (fun v18 w =>
    CallP Try.prog 36 #[v18] (fun v19 w =>
    R v19 w) w) w) w) w) w) (fun w =>
    R (Go.Value.slice none 0 0) w) w) w) w) w) w) w
theorem S20.calls (a0 a1 : Value) (R : Value → World → Prop) (w : World) (h : S20 a0 a1 R w) : Calls Try.prog 20 #[a0, a1] w fun e w' => ∃ v, e = .returned v ∧ R v w' :=
  calls_of_tr (n := 20) (c := bodyOf Try.f20) (.two .leaf (.two (.two .leaf (.two .leaf (.two (.two .leaf .leaf) .leaf))) (.two .leaf .leaf))) Try.func20 (by kernel_rfl) Try.ntmps20 (by kernel_rfl) (by kernel_rfl) [a0, a1] (by kernel_rfl) (of_eq_ (by kernel_rfl) h)

/-- shelfmark/once.Join -/
def S21 (a0 a1 : Value) (R : Value → World → Prop) (w : World) : Prop :=
  CallP Try.prog 10 #[] (fun v15 w =>
  LiftP Try.prog (Instr.buildSlice 80 2 #[(0, a1), (1, a0)]) (fun v18 w =>
  NextP Try.prog (builtin Go.Builtin.len #[80] 3 #[false] #[v18]) (fun v19 w =>
  LoopP (fun J vs w =>   -- [20]
    LiftP Try.prog (binS Go.BinOp.lss 3 (Go.Operand.tmp 20) (Go.Operand.tmp 19) (vs.headD undef) v19) (fun v21 w =>
    CondP v21 (fun w =>
      LiftP Try.prog (Instr.indexAt 80 v18 (vs.headD undef)) (fun v22 w =>
    LiftP Try.prog (Instr.loadAt 30 v22) (fun v23 w =>
    NextP Try.prog (nilChk v23) (fun v25 w =>
    LiftP Try.prog (Instr.fieldAt 60 v25 0) (fun v26 w =>
    LiftP Try.prog (Instr.loadAt 58 v26) (fun v27 w =>
    LiftP Try.prog (Instr.range 58 v27) (fun v28 w =>
    LoopP (fun J_1 vs_1 w =>   -- []
      LiftP Try.prog (Instr.next v28 false 0) (fun v29 w =>
      LiftP Try.prog (Instr.extract v29 0) (fun v30 w =>
      CondP v30 (fun w =>
        LiftP Try.prog (Instr.entry v28) (fun v31 w =>
      LiftP Try.prog (Instr.extract v31 0) (fun v32 w =>
      LiftP Try.prog (Instr.extract v31 1) (fun v33 w =>
      CallP Try.prog 26 #[v15, v32] (fun v36 w =>
      DrawP (fun S w =>
      YieldN Try.prog S (nilChk v36) (fun v39 w =>
      YieldP Try.prog S (Instr.fieldAt 68 v39 0) (fun v40 w =>
      YieldP Try.prog S (Instr.loadAt 3 v40) (fun v41 w =>
      YieldN Try.prog S (nilChk v33) (fun v43 w =>
      YieldP Try.prog S (Instr.fieldAt 68 v43 0) (fun v44 w =>
      YieldP Try.prog S (Instr.loadAt 3 v44) (fun v45 w =>
      YieldN Try.prog S (builtin Go.Builtin.max #[3, 3] 3 #[false, false] #[v41, v45]) (fun v46 w =>
      YieldN Try.prog S (nilChk v36) (fun v47 w =>
      YieldP Try.prog S (Instr.fieldAt 68 v47 0) (fun v48 w =>
      LiftU Try.prog (Instr.storeAt 3 v48 v46) (fun v_ w =>
      NextP Try.prog (nilChk v33) (fun v50 w =>
      LiftP Try.prog (Instr.fieldAt 68 v50 1) (fun v51 w =>
      LiftP Try.prog (Instr.loadAt 66 v51) (fun v52 w =>
      LiftP Try.prog (Instr.range 66 v52) (fun v53 w =>
      LoopP (fun J_2 vs_2 w =>   -- []
        LiftP Try.prog (Instr.next v53 false 0) (fun v54 w =>
        LiftP Try.prog (Instr.extract v54 0) (fun v55 w =>
        CondP v55 (fun w =>
          LiftP Try.prog (Instr.entry v53) (fun v56 w =>
        LiftP Try.prog (Instr.extract v56 0) (fun v57 w =>
        LiftP Try.prog (Instr.extract v56 1) (fun v58 w =>
        LiftP Try.prog (Instr.alloc 27 true (.tuple #[])) (fun v12 w =>
        LiftU Try.prog (Instr.storeAt 27 v12 v58) (fun v__1 w =>
        DrawP (fun S w =>
        YieldN Try.prog S (nilChk v36) (fun v60 w =>
        YieldP Try.prog S (Instr.fieldAt 68 v60 1) (fun v61 w =>
        YieldP Try.prog S (Instr.loadAt 66 v61) (fun v62 w =>
        YieldP Try.prog S (Instr.loadAt 27 v12) (fun v64 w =>
        ActP S (fun K w => CallP Try.prog 27 #[v64] K w) (fun S v65 w =>
        LiftU Try.prog (Instr.mapUpdate 66 v62 v57 v65) (fun v__2 w =>
        J_2 [] w) w) w) w) w) w) w) w) w) w) w) w) w) (fun w =>
          J_1 [] w) w) w) w) [] w) w) w) w) w) w) w) w) w) w) w) w) w) w) w) w) w) w) w) w) (fun w =>
        LiftP Try.prog (binS Go.BinOp.add 3 (Go.Operand.tmp 20) (Go.Operand.const (Go.Value.int Go.IntKind.i64 1)) (vs.headD undef) (Go.Value.int Go.IntKind.i64 1)) (fun v66 w =>
    J [v66] w) w) w) w) w) [] w) w) w) w) w) w) w) (fun w =>
      NextP Try.prog (nilChk v15) (fun v68 w =>
  LiftP Try.prog (Instr.fieldAt 60 v68 0) (fun v69 w =>
  LiftP Try.prog (Instr.loadAt 58 v69) (fun v70 w =>
  LiftP Try.prog (Instr.range 58 v70) (fun v71 w =>
  LoopP (fun J_3 vs_3 w =>   -- []
    LiftP Try.prog (Instr.next v71 false 0) (fun v72 w =>
    LiftP Try.prog (Instr.extract v72 0) (fun v73 w =>
    CondP v73 (fun w =>
      LiftP Try.prog (Instr.entry v71) (fun v74 w =>
    LiftP Try.prog (Instr.extract v74 1) (fun v75 w =>
    CallP Try.prog 28 #[v75] (fun v77 w =>
    J_3 [] w) w) w) w) (fun w =>
      R v15 w) w) w) w) [] w) w) w) w) w) w) w) [(Go.Value.int Go.IntKind.i64 0)] w) w) w) w
theorem S21.calls (a0 a1 : Value) (R : Value → World → Prop) (w : World) (h : S21 a0 a1 R w) : Calls Try.prog 21 #[a0, a1] w fun e w' => ∃ v, e = .returned v ∧ R v w' :=
  calls_of_tr (n := 79) (c := bodyOf Try.f21) (.two .leaf (.two .leaf (.two (.two .leaf (.one (.loop [20] (.two .leaf (.two (.two .leaf .leaf) (.two (.one (.two .leaf (.two .leaf (.one (.loop [] (.two .leaf (.two (.two .leaf .leaf) (.one (.two .leaf (.two .leaf (.two (.drawL [(true, 0), (true, 1), (true, 2), (true, 3), (true, 4), (true, 5), (true, 6), (true, 7), (true, 8), (true, 9), (true, 10), (true, 11)] 12) (.two .leaf (.one (.loop [] (.two .leaf (.two (.two .leaf .leaf) (.one (.two .leaf (.drawL [(true, 0), (true, 1), (true, 2), (true, 3), (true, 4), (true, 5), (false, 6)] 7))))))))))))))))))) .leaf)))))) (.two (.two .leaf (.one (.loop [] (.two .leaf (.two (.two .leaf .leaf) (.one (.two .leaf .leaf))))))) (.two .leaf .leaf))))) Try.func21 (by kernel_rfl) Try.ntmps21 (by kernel_rfl) (by kernel_rfl) [a0, a1] (by kernel_rfl) (of_eq_ (by kernel_rfl) h)

/-- (*shelfmark/once.Table).Copy -/
def S23 (a0 : Value) (R : Value → World → Prop) (w : World) : Prop :=
  CallP Try.prog 10 #[] (fun v4 w =>
  CallP Try.prog 21 #[a0, v4] (fun v5 w =>
  R v5 w) w) w
theorem S23.calls (a0 : Value) (R : Value → World → Prop) (w : World) (h : S23 a0 R w) : Calls Try.prog 23 #[a0] w fun e w' => ∃ v, e = .returned v ∧ R v w' :=
  calls_of_tr (n := 6) (c := bodyOf Try.f23) (.two .leaf (.two .leaf .leaf)) Try.func23 (by kernel_rfl) Try.ntmps23 (by kernel_rfl) (by kernel_rfl) [a0] (by kernel_rfl) (of_eq_ (by kernel_rfl) h)

/-- shelfmark/shelfmarkref17.bad -/
def S31 (a0 a1 : Value) (R : Value → World → Prop) (w : World) : Prop :=
  LiftP Try.prog (binS Go.BinOp.lss 3 (Go.Operand.tmp 5) (Go.Operand.const (Go.Value.int Go.IntKind.i64 0)) a0 (Go.Value.int Go.IntKind.i64 0)) (fun v6 w =>
  GuardP v6 false (fun K w => K a0 w) (fun v8 w =>
  GuardP v6 false (fun K w => LiftP Try.prog (binS Go.BinOp.gtr 3 (Go.Operand.tmp 8) (Go.Operand.const (Go.Value.int Go.IntKind.i64 1099511627776)) v8 (Go.Value.int Go.IntKind.i64 1099511627776)) K w) (fun v9 w =>
  PickP v6 (Go.Value.bool true) v9 (fun v10 w =>
  GuardP v10 false (fun K w => K a1 w) (fun v12 w =>
  GuardP v10 false (fun K w => LiftP Try.prog (binS Go.BinOp.lss 3 (Go.Operand.tmp 12) (Go.Operand.const (Go.Value.int Go.IntKind.i64 1)) v12 (Go.Value.int Go.IntKind.i64 1)) K w) (fun v13 w =>
  PickP v10 (Go.Value.bool true) v13 (fun v14 w =>
  GuardP v14 false (fun K w => K a1 w) (fun v16 w =>
  GuardP v14 false (fun K w => LiftP Try.prog (binS Go.BinOp.gtr 3 (Go.Operand.tmp 16) (Go.Operand.const (Go.Value.int Go.IntKind.i64 1099511627776)) v16 (Go.Value.int Go.IntKind.i64 1099511627776)) K w) (fun v17 w =>
  PickP v14 (Go.Value.bool true) v17 (fun v18 w =>
  R v18 w) w) w) w) w) w) w) w) w) w) w
theorem S31.calls (a0 a1 : Value) (R : Value → World → Prop) (w : World) (h : S31 a0 a1 R w) : Calls Try.prog 31 #[a0, a1] w fun e w' => ∃ v, e = .returned v ∧ R v w' :=
  calls_of_tr (n := 19) (c := bodyOf Try.f31) (.two .leaf (.two .leaf .leaf)) Try.func31 (by kernel_rfl) Try.ntmps31 (by kernel_rfl) (by kernel_rfl) [a0, a1] (by kernel_rfl) (of_eq_ (by kernel_rfl) h)

/-- (*shelfmark/shelfmarkref17.Table).Floor -/
def S32 (a0 a1 : Value) (R : Value → World → Prop) (w : World) : Prop :=
  LoopP (fun J vs w =>   -- [5]
    NextP Try.prog (nilChk a0) (fun v8 w =>
    LiftP Try.prog (Instr.fieldAt 45 v8 1) (fun v9 w =>
    LiftP Try.prog (Instr.loadAt 43 v9) (fun v10 w =>
    NextP Try.prog (builtin Go.Builtin.len #[43] 3 #[false] #[v10]) (fun v11 w =>
    LiftP Try.prog (binS Go.BinOp.lss 3 (Go.Operand.tmp 6) (Go.Operand.tmp 11) (vs.headD undef) v11) (fun v12 w =>
    CondP v12 (fun w =>
      NextP Try.prog (nilChk a0) (fun v16 w =>
    LiftP Try.prog (Instr.fieldAt 45 v16 1) (fun v17 w =>
    LiftP Try.prog (Instr.loadAt 43 v17) (fun v18 w =>
    LiftP Try.prog (Instr.indexAt 43 v18 (vs.headD undef)) (fun v20 w =>
    LiftP Try.prog (Instr.fieldAt 84 v20 0) (fun v21 w =>
    LiftP Try.prog (Instr.loadAt 3 v21) (fun v22 w =>
    LiftP Try.prog (binS Go.BinOp.eql 3 (Go.Operand.tmp 22) (Go.Operand.tmp 23) v22 a1) (fun v24 w =>
    CondP v24 (fun w =>
      NextP Try.prog (nilChk a0) (fun v26 w =>
      LiftP Try.prog (Instr.fieldAt 45 v26 1) (fun v27 w =>
      LiftP Try.prog (Instr.loadAt 43 v27) (fun v28 w =>
      LiftP Try.prog (Instr.indexAt 43 v28 (vs.headD undef)) (fun v30 w =>
      LiftP Try.prog (Instr.fieldAt 84 v30 1) (fun v31 w =>
      LiftP Try.prog (Instr.loadAt 3 v31) (fun v32 w =>
      R v32 w) w) w) w) w) w) w) (fun w =>
      LiftP Try.prog (binS Go.BinOp.add 3 (Go.Operand.tmp 13) (Go.Operand.const (Go.Value.int Go.IntKind.i64 1)) (vs.headD undef) (Go.Value.int Go.IntKind.i64 1)) (fun v14 w =>
    J [v14] w) w) w) w) w) w) w) w) w) w) (fun w =>
      R (Go.Value.int Go.IntKind.i64 0) w) w) w) w) w) w) w) [(Go.Value.int Go.IntKind.i64 0)] w
theorem S32.calls (a0 a1 : Value) (R : Value → World → Prop) (w : World) (h : S32 a0 a1 R w) : Calls Try.prog 32 #[a0, a1] w fun e w' => ∃ v, e = .returned v ∧ R v w' :=
  calls_of_tr (n := 33) (c := bodyOf Try.f32) (.two .leaf (.two (.two .leaf (.one (.loop [5] (.two (.two .leaf (.two .leaf .leaf)) (.two (.one (.two .leaf (.two (.two .leaf .leaf) .leaf))) .leaf))))) (.two .leaf .leaf))) Try.func32 (by kernel_rfl) Try.ntmps32 (by kernel_rfl) (by kernel_rfl) [a0, a1] (by kernel_rfl) (of_eq_ (by kernel_rfl) h)

/-- shelfmark/shelfmarkref04.Check -/
def S33 (a0 : Value) (R : Value → World → Prop) (w : World) : Prop :=
  NextP Try.prog (builtin Go.Builtin.len #[23] 3 #[false] #[a0]) (fun v4 w =>
  LiftP Try.prog (binS Go.BinOp.eql 3 (Go.Operand.tmp 4) (Go.Operand.const (Go.Value.int Go.IntKind.i64 0)) v4 (Go.Value.int Go.IntKind.i64 0)) (fun v5 w =>
  CondP v5 (fun w =>
    R (Go.Value.int Go.IntKind.i64 1) w) (fun w =>
    CallP Try.prog 50 #[a0] (fun v7 w =>
  R v7 w) w) w) w) w
theorem S33.calls (a0 : Value) (R : Value → World → Prop) (w : World) (h : S33 a0 R w) : Calls Try.prog 33 #[a0] w fun e w' => ∃ v, e = .returned v ∧ R v w' :=
  calls_of_tr (n := 8) (c := bodyOf Try.f33) (.two .leaf (.two (.two .leaf (.two (.two .leaf .leaf) .leaf)) (.two .leaf .leaf))) Try.func33 (by kernel_rfl) Try.ntmps33 (by kernel_rfl) (by kernel_rfl) [a0] (by kernel_rfl) (of_eq_ (by kernel_rfl) h)

/-- (*shelfmark/shelfmarkref17.Table).put -/
def S34 (a0 a1 : Value) (R : Value → World → Prop) (w : World) : Prop :=
  LiftP Try.prog (Instr.box 73 a1) (fun v3 w =>
  LoopP (fun J vs w =>   -- [4, 5]
    DrawP (fun S w =>
    YieldN Try.prog S (nilChk a0) (fun v9 w =>
    YieldP Try.prog S (Instr.fieldAt 45 v9 0) (fun v10 w =>
    YieldP Try.prog S (Instr.loadAt 42 v10) (fun v11 w =>
    YieldN Try.prog S (builtin Go.Builtin.len #[42] 3 #[false] #[v11]) (fun v12 w =>
    YieldP Try.prog S (binS Go.BinOp.lss 3 (Go.Operand.tmp 7) (Go.Operand.tmp 12) (vs.tail.headD undef) v12) (fun v13 w =>
    GuardP v13 true (fun K w => K a0 w) (fun v15 w =>
    GuardP v13 true (fun K w => YieldN Try.prog S (nilChk v15) K w) (fun v16 w =>
    GuardP v13 true (fun K w => YieldP Try.prog S (Instr.fieldAt 45 v16 0) K w) (fun v17 w =>
    GuardP v13 true (fun K w => YieldP Try.prog S (Instr.loadAt 42 v17) K w) (fun v18 w =>
    GuardP v13 true (fun K w => K (vs.tail.headD undef) w) (fun v19 w =>
    GuardP v13 true (fun K w => YieldP Try.prog S (Instr.indexAt 42 v18 v19) K w) (fun v20 w =>
    GuardP v13 true (fun K w => YieldP Try.prog S (Instr.fieldAt 73 v20 0) K w) (fun v21 w =>
    GuardP v13 true (fun K w => YieldP Try.prog S (Instr.loadAt 3 v21) K w) (fun v22 w =>
    GuardP v13 true (fun K w => YieldP Try.prog S (Instr.fieldAt 73 v3 0) K w) (fun v23 w =>
    GuardP v13 true (fun K w => YieldP Try.prog S (Instr.loadAt 3 v23) K w) (fun v24 w =>
    GuardP v13 true (fun K w => YieldP Try.prog S (binS Go.BinOp.lss 3 (Go.Operand.tmp 22) (Go.Operand.tmp 24) v22 v24) K w) (fun v25 w =>
    GuardP v13 true (fun K w => K v25 w) (fun v26 w =>
    GuardP v26 false (fun K w => K a0 w) (fun v27 w =>
    GuardP v26 false (fun K w => YieldN Try.prog S (nilChk v27) K w) (fun v28 w =>
    GuardP v26 false (fun K w => YieldP Try.prog S (Instr.fieldAt 45 v28 0) K w) (fun v29 w =>
    GuardP v26 false (fun K w => YieldP Try.prog S (Instr.loadAt 42 v29) K w) (fun v30 w =>
    GuardP v26 false (fun K w => K (vs.tail.headD undef) w) (fun v31 w =>
    GuardP v26 false (fun K w => YieldP Try.prog S (Instr.indexAt 42 v30 v31) K w) (fun v32 w =>
    GuardP v26 false (fun K w => YieldP Try.prog S (Instr.fieldAt 73 v32 0) K w) (fun v33 w =>
    GuardP v26 false (fun K w => YieldP Try.prog S (Instr.loadAt 3 v33) K w) (fun v34 w =>
    GuardP v26 false (fun K w => YieldP Try.prog S (Instr.fieldAt 73 v3 0) K w) (fun v35 w =>
    GuardP v26 false (fun K w => YieldP Try.prog S (Instr.loadAt 3 v35) K w) (fun v36 w =>
    GuardP v26 false (fun K w => YieldP Try.prog S (binS Go.BinOp.eql 3 (Go.Operand.tmp 34) (Go.Operand.tmp 36) v34 v36) K w) (fun v37 w =>
    GuardP v26 false (fun K w => K v37 w) (fun v38 w =>
    GuardP v38 true (fun K w => K a0 w) (fun v39 w =>
    GuardP v38 true (fun K w => YieldN Try.prog S (nilChk v39) K w) (fun v40 w =>
    GuardP v38 true (fun K w => YieldP Try.prog S (Instr.fieldAt 45 v40 0) K w) (fun v41 w =>
    GuardP v38 true (fun K w => YieldP Try.prog S (Instr.loadAt 42 v41) K w) (fun v42 w =>
    GuardP v38 true (fun K w => K (vs.tail.headD undef) w) (fun v43 w =>
    GuardP v38 true (fun K w => YieldP Try.prog S (Instr.indexAt 42 v42 v43) K w) (fun v44 w =>
    GuardP v38 true (fun K w => YieldP Try.prog S (Instr.fieldAt 73 v44 1) K w) (fun v45 w =>
    GuardP v38 true (fun K w => YieldP Try.prog S (Instr.loadAt 3 v45) K w) (fun v46 w =>
    GuardP v38 true (fun K w => YieldP Try.prog S (Instr.fieldAt 73 v3 1) K w) (fun v47 w =>
    GuardP v38 true (fun K w => YieldP Try.prog S (Instr.loadAt 3 v47) K w) (fun v48 w =>
    GuardP v38 true (fun K w => YieldP Try.prog S (binS Go.BinOp.lss 3 (Go.Operand.tmp 46) (Go.Operand.tmp 48) v46 v48) K w) (fun v49 w =>
    GuardP v26 false (fun K w => PickP v38 v49 (Go.Value.bool false) K w) (fun v50 w =>
    GuardP v13 true (fun K w => PickP v26 (Go.Value.bool true) v50 K w) (fun v51 w =>
    PickP v13 v51 (Go.Value.bool false) (fun v52 w =>
    CondP v52 (fun w =>
      NextP Try.prog (nilChk a0) (fun v55 w =>
    LiftP Try.prog (Instr.fieldAt 45 v55 0) (fun v56 w =>
    LiftP Try.prog (Instr.loadAt 42 v56) (fun v57 w =>
    LiftP Try.prog (Instr.indexAt 42 v57 (vs.tail.headD undef)) (fun v59 w =>
    LiftP Try.prog (Instr.loadAt 73 v59) (fun v60 w =>
    LiftP Try.prog (Instr.buildSlice 42 1 #[(0, v60)]) (fun v61 w =>
    NextP Try.prog (builtin Go.Builtin.append #[42, 42] 42 #[false, false] #[(vs.headD undef), v61]) (fun v62 w =>
    LiftP Try.prog (binS Go.BinOp.add 3 (Go.Operand.tmp 63) (Go.Operand.const (Go.Value.int Go.IntKind.i64 1)) (vs.tail.headD undef) (Go.Value.int Go.IntKind.i64 1)) (fun v64 w =>
    J [v62, v64] w) w) w) w) w) w) w) w) w) (fun w =>
      LiftP Try.prog (Instr.loadAt 73 v3) (fun v66 w =>
  LiftP Try.prog (Instr.buildSlice 42 1 #[(0, v66)]) (fun v67 w =>
  NextP Try.prog (builtin Go.Builtin.append #[42, 42] 42 #[false, false] #[(vs.headD undef), v67]) (fun v68 w =>
  NextP Try.prog (nilChk a0) (fun v72 w =>
  LiftP Try.prog (Instr.fieldAt 45 v72 0) (fun v73 w =>
  LiftP Try.prog (Instr.loadAt 42 v73) (fun v74 w =>
  LiftP Try.prog (Instr.sliceAt 42 v74 (some (vs.tail.headD undef)) none none) (fun v76 w =>
  NextP Try.prog (builtin Go.Builtin.append #[42, 42] 42 #[false, false] #[v68, v76]) (fun v77 w =>
  NextP Try.prog (nilChk a0) (fun v78 w =>
  LiftP Try.prog (Instr.fieldAt 45 v78 0) (fun v79 w =>
  LiftU Try.prog (Instr.storeAt 42 v79 v77) (fun v_ w =>
  LiftP Try.prog (Instr.fieldAt 73 v3 0) (fun v81 w =>
  LiftP Try.prog (Instr.loadAt 3 v81) (fun v82 w =>
  CallP Try.prog 35 #[a0, v82] (fun v83 w =>
  NextP Try.prog (builtin Go.Builtin.len #[51] 3 #[false] #[v83]) (fun v85 w =>
  LiftP Try.prog (binS Go.BinOp.gtr 3 (Go.Operand.tmp 85) (Go.Operand.const (Go.Value.int Go.IntKind.i64 4)) v85 (Go.Value.int Go.IntKind.i64 4)) (fun v86 w =>
  CondP v86 (fun w =>
    DrawP (fun S w =>
    YieldP Try.prog S (Instr.fieldAt 73 v3 0) (fun v88 w =>
    YieldP Try.prog S (Instr.loadAt 3 v88) (fun v89 w =>
    YieldN Try.prog S (builtin Go.Builtin.len #[51] 3 #[false] #[v83]) (fun v92 w =>
    YieldP Try.prog S (binS Go.BinOp.sub 3 (Go.Operand.tmp 92) (Go.Operand.const (Go.Value.int Go.IntKind.i64 5)) v92 (Go.Value.int Go.IntKind.i64 5)) (fun v93 w =>
    YieldP Try.prog S (Instr.indexAt 51 v83 v93) (fun v94 w =>
    YieldP Try.prog S (Instr.loadAt 3 v94) (fun v95 w =>
    CallP Try.prog 39 #[a0, v89, v95] (fun v96 w =>
    R (.tuple #[]) w) w) w) w) w) w) w) w) w) (fun w =>
    R (.tuple #[]) w) w) w) w) w) w) w) w) w) w) w) w) w) w) w) w) w) w) w) w) w) w) w) w) w) w) w) w) w) w) w) w) w) w) w) w) w) w) w) w) w) w) w) w) w) w) w) w) w) w) w) w) w) w) w) w) w) w) w) w) w) w) w) [(Go.Value.slice none 0 0), (Go.Value.int Go.IntKind.i64 0)] w) w
theorem S34.calls (a0 a1 : Value) (R : Value → World → Prop) (w : World) (h : S34 a0 a1 R w) : Calls Try.prog 34 #[a0, a1] w fun e w' => ∃ v, e = .returned v ∧ R v w' :=
  calls_of_tr (n := 97) (c := bodyOf Try.f34) (.two .leaf (.two .leaf (.two .leaf (.two (.one (.loop [4, 5] (.two (.two (.draw [(true, 0), (true, 1), (true, 2), (true, 3), (true, 4), (true, 5), (true, 6), (true, 7), (true, 8), (true, 9), (true, 10), (true, 11), (true, 12), (true, 13), (true, 14), (true, 15), (true, 16), (true, 17), (true, 18), (true, 19), (true, 20), (true, 21), (true, 22), (true, 23), (true, 24), (true, 25), (true, 26), (true, 27), (true, 28), (true, 29), (true, 30), (true, 31), (true, 32), (true, 33), (true, 34), (true, 35), (true, 36), (true, 37), (true, 38), (true, 39), (true, 40), (true, 41), (true, 42), (true, 43), (true, 44), (true, 45)]) (.two .leaf .leaf)) (.one (.two .leaf .leaf))))) (.two .leaf (.two .leaf (.two .leaf (.two .leaf (.two (.drawL [(true, 0), (true, 1), (true, 2), (true, 3), (true, 4), (true, 5), (true, 6), (true, 7), (true, 8)] 9) .leaf))))))))) Try.func34 (by kernel_rfl) Try.ntmps34 (by kernel_rfl) (by kernel_rfl) [a0, a1] (by kernel_rfl) (of_eq_ (by kernel_rfl) h)

/-- (*shelfmark/shelfmarkref17.Table).Known -/
def S35 (a0 a1 : Value) (R : Value → World → Prop) (w : World) : Prop :=
  LoopP (fun J vs w =>   -- [5, 6]
    NextP Try.prog (nilChk a0) (fun v9 w =>
    LiftP Try.prog (Instr.fieldAt 45 v9 0) (fun v10 w =>
    LiftP Try.prog (Instr.loadAt 42 v10) (fun v11 w =>
    NextP Try.prog (builtin Go.Builtin.len #[42] 3 #[false] #[v11]) (fun v12 w =>
    LiftP Try.prog (binS Go.BinOp.lss 3 (Go.Operand.tmp 7) (Go.Operand.tmp 12) (vs.tail.headD undef) v12) (fun v13 w =>
    CondP v13 (fun w =>
      JoinP (fun J_1 w =>
      NextP Try.prog (nilChk a0) (fun v17 w =>
      LiftP Try.prog (Instr.fieldAt 45 v17 0) (fun v18 w =>
      LiftP Try.prog (Instr.loadAt 42 v18) (fun v19 w =>
      LiftP Try.prog (Instr.indexAt 42 v19 (vs.tail.headD undef)) (fun v21 w =>
      LiftP Try.prog (Instr.fieldAt 73 v21 0) (fun v22 w =>
      LiftP Try.prog (Instr.loadAt 3 v22) (fun v23 w =>
      LiftP Try.prog (binS Go.BinOp.eql 3 (Go.Operand.tmp 23) (Go.Operand.tmp 24) v23 a1) (fun v25 w =>
      CondP v25 (fun w =>
        NextP Try.prog (nilChk a0) (fun v28 w =>
        LiftP Try.prog (Instr.fieldAt 45 v28 0) (fun v29 w =>
        LiftP Try.prog (Instr.loadAt 42 v29) (fun v30 w =>
        LiftP Try.prog (Instr.indexAt 42 v30 (vs.tail.headD undef)) (fun v32 w =>
        LiftP Try.prog (Instr.fieldAt 73 v32 1) (fun v33 w =>
        LiftP Try.prog (Instr.loadAt 3 v33) (fun v34 w =>
        LiftP Try.prog (Instr.buildSlice 51 1 #[(0, v34)]) (fun v35 w =>
        NextP Try.prog (builtin Go.Builtin.append #[51, 51] 51 #[false, false] #[(vs.headD undef), v35]) (fun v36 w =>
        J_1 [v36] w) w) w) w) w) w) w) w) w) (fun w =>
        J_1 [(vs.headD undef)] w) w) w) w) w) w) w) w) w) (fun vs_1 w =>   -- [5]
    LiftP Try.prog (binS Go.BinOp.add 3 (Go.Operand.tmp 14) (Go.Operand.const (Go.Value.int Go.IntKind.i64 1)) (vs.tail.headD undef) (Go.Value.int Go.IntKind.i64 1)) (fun v15 w =>
    J [(vs_1.headD undef), v15] w) w) w) (fun w =>
      R (vs.headD undef) w) w) w) w) w) w) w) [(Go.Value.slice none 0 0), (Go.Value.int Go.IntKind.i64 0)] w
theorem S35.calls (a0 a1 : Value) (R : Value → World → Prop) (w : World) (h : S35 a0 a1 R w) : Calls Try.prog 35 #[a0, a1] w fun e w' => ∃ v, e = .returned v ∧ R v w' :=
  calls_of_tr (n := 38) (c := bodyOf Try.f35) (.two .leaf (.two .leaf (.two (.two .leaf (.one (.loop [5, 6] (.two (.two .leaf (.two .leaf .leaf)) (.join [5] (.one (.two .leaf (.two .leaf .leaf))) .leaf))))) (.two .leaf .leaf)))) Try.func35 (by kernel_rfl) Try.ntmps35 (by kernel_rfl) (by kernel_rfl) [a0, a1] (by kernel_rfl) (of_eq_ (by kernel_rfl) h)

/-- (*shelfmark/shelfmarkref17.Table).Copy -/
def S38 (a0 : Value) (R : Value → World → Prop) (w : World) : Prop :=
  LiftP Try.prog (Instr.build 45 #[]) (fun v4 w =>
  LiftP Try.prog (Instr.box 45 v4) (fun v5 w =>
  DrawP (fun S w =>
  YieldN Try.prog S (nilChk v5) (fun v8 w =>
  YieldP Try.prog S (Instr.fieldAt 45 v8 0) (fun v9 w =>
  YieldP Try.prog S (Instr.loadAt 42 v9) (fun v10 w =>
  YieldN Try.prog S (nilChk a0) (fun v12 w =>
  YieldP Try.prog S (Instr.fieldAt 45 v12 0) (fun v13 w =>
  YieldP Try.prog S (Instr.loadAt 42 v13) (fun v14 w =>
  ActP S (fun K w => NextP Try.prog (builtin Go.Builtin.append #[42, 42] 42 #[false, false] #[v10, v14]) K w) (fun S v15 w =>
  YieldN Try.prog S (nilChk v5) (fun v16 w =>
  YieldP Try.prog S (Instr.fieldAt 45 v16 0) (fun v17 w =>
  LiftU Try.prog (Instr.storeAt 42 v17 v15) (fun v_ w =>
  DrawP (fun S w =>
  YieldN Try.prog S (nilChk v5) (fun v20 w =>
  YieldP Try.prog S (Instr.fieldAt 45 v20 1) (fun v21 w =>
  YieldP Try.prog S (Instr.loadAt 43 v21) (fun v22 w =>
  YieldN Try.prog S (nilChk a0) (fun v24 w =>
  YieldP Try.prog S (Instr.fieldAt 45 v24 1) (fun v25 w =>
  YieldP Try.prog S (Instr.loadAt 43 v25) (fun v26 w =>
  ActP S (fun K w => NextP Try.prog (builtin Go.Builtin.append #[43, 43] 43 #[false, false] #[v22, v26]) K w) (fun S v27 w =>
  YieldN Try.prog S (nilChk v5) (fun v28 w =>
  YieldP Try.prog S (Instr.fieldAt 45 v28 1) (fun v29 w =>
  LiftU Try.prog (Instr.storeAt 43 v29 v27) (fun v__1 w =>
  R v5 w) w) w) w) w) w) w) w) w) w) w) w) w) w) w) w) w) w) w) w) w) w) w) w) w
theorem S38.calls (a0 : Value) (R : Value → World → Prop) (w : World) (h : S38 a0 R w) : Calls Try.prog 38 #[a0] w fun e w' => ∃ v, e = .returned v ∧ R v w' :=
  calls_of_tr (n := 31) (c := bodyOf Try.f38) (.two .leaf (.two .leaf (.two (.drawL [(true, 0), (true, 1), (true, 2), (true, 3), (true, 4), (true, 5), (true, 6), (true, 7), (true, 8), (false, 9), (true, 10), (true, 11)] 12) (.two (.drawL [(true, 0), (true, 1), (true, 2), (true, 3), (true, 4), (true, 5), (true, 6), (true, 7), (true, 8), (false, 9), (true, 10), (true, 11)] 12) (.two .leaf .leaf))))) Try.func38 (by kernel_rfl) Try.ntmps38 (by kernel_rfl) (by kernel_rfl) [a0] (by kernel_rfl) (of_eq_ (by kernel_rfl) h)

/-- (*shelfmark/shelfmarkref17.Table).raise -/
def S39 (a0 a1 a2 : Value) (R : Value → World → Prop) (w : World) : Prop :=
  JoinP (fun J w =>
    CallP Try.prog 32 #[a0, a1] (fun v13 w =>
    LiftP Try.prog (binS Go.BinOp.gtr 3 (Go.Operand.tmp 10) (Go.Operand.tmp 13) a2 v13) (fun v14 w =>
    CondP v14 (fun w =>
      LoopP (fun J_1 vs_1 w =>   -- [6, 7]
        NextP Try.prog (nilChk a0) (fun v17 w =>
        LiftP Try.prog (Instr.fieldAt 45 v17 1) (fun v18 w =>
        LiftP Try.prog (Instr.loadAt 43 v18) (fun v19 w =>
        NextP Try.prog (builtin Go.Builtin.len #[43] 3 #[false] #[v19]) (fun v20 w =>
        LiftP Try.prog (binS Go.BinOp.lss 3 (Go.Operand.tmp 15) (Go.Operand.tmp 20) (vs_1.tail.headD undef) v20) (fun v21 w =>
        GuardP v21 true (fun K w => K a0 w) (fun v23 w =>
        GuardP v21 true (fun K w => NextP Try.prog (nilChk v23) K w) (fun v24 w =>
        GuardP v21 true (fun K w => LiftP Try.prog (Instr.fieldAt 45 v24 1) K w) (fun v25 w =>
        GuardP v21 true (fun K w => LiftP Try.prog (Instr.loadAt 43 v25) K w) (fun v26 w =>
        GuardP v21 true (fun K w => K (vs_1.tail.headD undef) w) (fun v27 w =>
        GuardP v21 true (fun K w => LiftP Try.prog (Instr.indexAt 43 v26 v27) K w) (fun v28 w =>
        GuardP v21 true (fun K w => LiftP Try.prog (Instr.fieldAt 84 v28 0) K w) (fun v29 w =>
        GuardP v21 true (fun K w => LiftP Try.prog (Instr.loadAt 3 v29) K w) (fun v30 w =>
        GuardP v21 true (fun K w => K a1 w) (fun v31 w =>
        GuardP v21 true (fun K w => LiftP Try.prog (binS Go.BinOp.lss 3 (Go.Operand.tmp 30) (Go.Operand.tmp 31) v30 v31) K w) (fun v32 w =>
        PickP v21 v32 (Go.Value.bool false) (fun v33 w =>
        CondP v33 (fun w =>
          NextP Try.prog (nilChk a0) (fun v36 w =>
        LiftP Try.prog (Instr.fieldAt 45 v36 1) (fun v37 w =>
        LiftP Try.prog (Instr.loadAt 43 v37) (fun v38 w =>
        LiftP Try.prog (Instr.indexAt 43 v38 (vs_1.tail.headD undef)) (fun v40 w =>
        LiftP Try.prog (Instr.loadAt 84 v40) (fun v41 w =>
        LiftP Try.prog (Instr.buildSlice 43 1 #[(0, v41)]) (fun v42 w =>
        NextP Try.prog (builtin Go.Builtin.append #[43, 43] 43 #[false, false] #[(vs_1.headD undef), v42]) (fun v43 w =>
        LiftP Try.prog (binS Go.BinOp.add 3 (Go.Operand.tmp 44) (Go.Operand.const (Go.Value.int Go.IntKind.i64 1)) (vs_1.tail.headD undef) (Go.Value.int Go.IntKind.i64 1)) (fun v45 w =>
        J_1 [v43, v45] w) w) w) w) w) w) w) w) w) (fun w =>
          LiftP Try.prog (Instr.build 84 #[(0, a1), (1, a2)]) (fun v49 w =>
      LiftP Try.prog (Instr.buildSlice 43 1 #[(0, v49)]) (fun v50 w =>
      NextP Try.prog (builtin Go.Builtin.append #[43, 43] 43 #[false, false] #[(vs_1.headD undef), v50]) (fun v51 w =>
      JoinP (fun J_2 w =>
        NextP Try.prog (nilChk a0) (fun v54 w =>
        LiftP Try.prog (Instr.fieldAt 45 v54 1) (fun v55 w =>
        LiftP Try.prog (Instr.loadAt 43 v55) (fun v56 w =>
        NextP Try.prog (builtin Go.Builtin.len #[43] 3 #[false] #[v56]) (fun v57 w =>
        LiftP Try.prog (binS Go.BinOp.lss 3 (Go.Operand.tmp 52) (Go.Operand.tmp 57) (vs_1.tail.headD undef) v57) (fun v58 w =>
        GuardP v58 true (fun K w => K a0 w) (fun v60 w =>
        GuardP v58 true (fun K w => NextP Try.prog (nilChk v60) K w) (fun v61 w =>
        GuardP v58 true (fun K w => LiftP Try.prog (Instr.fieldAt 45 v61 1) K w) (fun v62 w =>
        GuardP v58 true (fun K w => LiftP Try.prog (Instr.loadAt 43 v62) K w) (fun v63 w =>
        GuardP v58 true (fun K w => K (vs_1.tail.headD undef) w) (fun v64 w =>
        GuardP v58 true (fun K w => LiftP Try.prog (Instr.indexAt 43 v63 v64) K w) (fun v65 w =>
        GuardP v58 true (fun K w => LiftP Try.prog (Instr.fieldAt 84 v65 0) K w) (fun v66 w =>
        GuardP v58 true (fun K w => LiftP Try.prog (Instr.loadAt 3 v66) K w) (fun v67 w =>
        GuardP v58 true (fun K w => K a1 w) (fun v68 w =>
        GuardP v58 true (fun K w => LiftP Try.prog (binS Go.BinOp.eql 3 (Go.Operand.tmp 67) (Go.Operand.tmp 68) v67 v68) K w) (fun v69 w =>
        PickP v58 v69 (Go.Value.bool false) (fun v70 w =>
        CondP v70 (fun w =>
          LiftP Try.prog (binS Go.BinOp.add 3 (Go.Operand.tmp 71) (Go.Operand.const (Go.Value.int Go.IntKind.i64 1)) (vs_1.tail.headD undef) (Go.Value.int Go.IntKind.i64 1)) (fun v72 w =>
          J_2 [v72] w) w) (fun w =>
          J_2 [(vs_1.tail.headD undef)] w) w) w) w) w) w) w) w) w) w) w) w) w) w) w) w) w) w) (fun vs_2 w =>   -- [7]
      NextP Try.prog (nilChk a0) (fun v76 w =>
      LiftP Try.prog (Instr.fieldAt 45 v76 1) (fun v77 w =>
      LiftP Try.prog (Instr.loadAt 43 v77) (fun v78 w =>
      LiftP Try.prog (Instr.sliceAt 43 v78 (some (vs_2.headD undef)) none none) (fun v80 w =>
      NextP Try.prog (builtin Go.Builtin.append #[43, 43] 43 #[false, false] #[v51, v80]) (fun v81 w =>
      NextP Try.prog (nilChk a0) (fun v82 w =>
      LiftP Try.prog (Instr.fieldAt 45 v82 1) (fun v83 w =>
      LiftU Try.prog (Instr.storeAt 43 v83 v81) (fun v_ w =>
      J [] w) w) w) w) w) w) w) w) w) w) w) w) w) w) w) w) w) w) w) w) w) w) w) w) w) w) w) w) w) w) [(Go.Value.slice none 0 0), (Go.Value.int Go.IntKind.i64 0)] w) (fun w =>
      J [] w) w) w) w) (fun vs w =>   -- []
  LoopP (fun J_3 vs_3 w =>   -- [8, 9]
    NextP Try.prog (nilChk a0) (fun v86 w =>
    LiftP Try.prog (Instr.fieldAt 45 v86 0) (fun v87 w =>
    LiftP Try.prog (Instr.loadAt 42 v87) (fun v88 w =>
    NextP Try.prog (builtin Go.Builtin.len #[42] 3 #[false] #[v88]) (fun v89 w =>
    LiftP Try.prog (binS Go.BinOp.lss 3 (Go.Operand.tmp 84) (Go.Operand.tmp 89) (vs_3.tail.headD undef) v89) (fun v90 w =>
    CondP v90 (fun w =>
      JoinP (fun J_4 w =>
      DrawP (fun S w =>
      YieldN Try.prog S (nilChk a0) (fun v94 w =>
      YieldP Try.prog S (Instr.fieldAt 45 v94 0) (fun v95 w =>
      YieldP Try.prog S (Instr.loadAt 42 v95) (fun v96 w =>
      YieldP Try.prog S (Instr.indexAt 42 v96 (vs_3.tail.headD undef)) (fun v98 w =>
      YieldP Try.prog S (Instr.fieldAt 73 v98 0) (fun v99 w =>
      YieldP Try.prog S (Instr.loadAt 3 v99) (fun v100 w =>
      YieldP Try.prog S (binS Go.BinOp.neq 3 (Go.Operand.tmp 100) (Go.Operand.tmp 101) v100 a1) (fun v102 w =>
      GuardP v102 false (fun K w => K a0 w) (fun v104 w =>
      GuardP v102 false (fun K w => YieldN Try.prog S (nilChk v104) K w) (fun v105 w =>
      GuardP v102 false (fun K w => YieldP Try.prog S (Instr.fieldAt 45 v105 0) K w) (fun v106 w =>
      GuardP v102 false (fun K w => YieldP Try.prog S (Instr.loadAt 42 v106) K w) (fun v107 w =>
      GuardP v102 false (fun K w => K (vs_3.tail.headD undef) w) (fun v108 w =>
      GuardP v102 false (fun K w => YieldP Try.prog S (Instr.indexAt 42 v107 v108) K w) (fun v109 w =>
      GuardP v102 false (fun K w => YieldP Try.prog S (Instr.fieldAt 73 v109 1) K w) (fun v110 w =>
      GuardP v102 false (fun K w => YieldP Try.prog S (Instr.loadAt 3 v110) K w) (fun v111 w =>
      GuardP v102 false (fun K w => K a0 w) (fun v112 w =>
      GuardP v102 false (fun K w => K a1 w) (fun v113 w =>
      GuardA v102 false S (fun K w => CallP Try.prog 32 #[v112, v113] K w) (fun S v114 w =>
      GuardP v102 false (fun K w => YieldP Try.prog S (binS Go.BinOp.gtr 3 (Go.Operand.tmp 111) (Go.Operand.tmp 114) v111 v114) K w) (fun v115 w =>
      PickP v102 (Go.Value.bool true) v115 (fun v116 w =>
      CondP v116 (fun w =>
        NextP Try.prog (nilChk a0) (fun v119 w =>
        LiftP Try.prog (Instr.fieldAt 45 v119 0) (fun v120 w =>
        LiftP Try.prog (Instr.loadAt 42 v120) (fun v121 w =>
        LiftP Try.prog (Instr.indexAt 42 v121 (vs_3.tail.headD undef)) (fun v123 w =>
        LiftP Try.prog (Instr.loadAt 73 v123) (fun v124 w =>
        LiftP Try.prog (Instr.buildSlice 42 1 #[(0, v124)]) (fun v125 w =>
        NextP Try.prog (builtin Go.Builtin.append #[42, 42] 42 #[false, false] #[(vs_3.headD undef), v125]) (fun v126 w =>
        J_4 [v126] w) w) w) w) w) w) w) w) (fun w =>
        J_4 [(vs_3.headD undef)] w) w) w) w) w) w) w) w) w) w) w) w) w) w) w) w) w) w) w) w) w) w) w) (fun vs_4 w =>   -- [8]
    LiftP Try.prog (binS Go.BinOp.add 3 (Go.Operand.tmp 91) (Go.Operand.const (Go.Value.int Go.IntKind.i64 1)) (vs_3.tail.headD undef) (Go.Value.int Go.IntKind.i64 1)) (fun v92 w =>
    J_3 [(vs_4.headD undef), v92] w) w) w) (fun w =>
      NextP Try.prog (nilChk a0) (fun v129 w =>
  LiftP Try.prog (Instr.fieldAt 45 v129 0) (fun v130 w =>
  LiftU Try.prog (Instr.storeAt 42 v130 (vs_3.headD undef)) (fun v__1 w =>
  R (.tuple #[]) w) w) w) w) w) w) w) w) w) w) [(Go.Value.slice none 0 0), (Go.Value.int Go.IntKind.i64 0)] w) w
theorem S39.calls (a0 a1 a2 : Value) (R : Value → World → Prop) (w : World) (h : S39 a0 a1 a2 R w) : Calls Try.prog 39 #[a0, a1, a2] w fun e w' => ∃ v, e = .returned v ∧ R v w' :=
  calls_of_tr (n := 131) (c := bodyOf Try.f39) (.join [] (.two .leaf (.two (.two .leaf (.two .leaf (.two (.one (.loop [6, 7] (.two (.two .leaf (.two .leaf .leaf)) (.one (.two .leaf .leaf))))) (.two .leaf (.join [7] (.two .leaf (.two .leaf .leaf)) .leaf))))) .leaf)) (.two .leaf (.two (.two .leaf (.one (.loop [8, 9] (.two (.two .leaf (.two .leaf .leaf)) (.join [8] (.one (.two (.draw [(true, 0), (true, 1), (true, 2), (true, 3), (true, 4), (true, 5), (true, 6), (true, 7), (true, 8), (true, 9), (true, 10), (true, 11), (true, 12), (true, 13), (true, 14), (true, 15), (true, 16), (true, 17), (true, 18), (true, 19), (true, 20), (false, 21), (true, 22), (true, 23)]) (.two .leaf .leaf))) .leaf))))) .leaf))) Try.func39 (by kernel_rfl) Try.ntmps39 (by kernel_rfl) (by kernel_rfl) [a0, a1, a2] (by kernel_rfl) (of_eq_ (by kernel_rfl) h)

/-- shelfmark/shelfmarkref03.Good -/
def S56 (a0 : Value) (R : Value → World → Prop) (w : World) : Prop :=
  LiftP Try.prog (Instr.box 36 a0) (fun v1 w =>
  LiftP Try.prog (Instr.fieldAt 36 v1 0) (fun v3 w =>
  LiftP Try.prog (Instr.loadAt 3 v3) (fun v4 w =>
  LiftP Try.prog (binS Go.BinOp.eql 3 (Go.Operand.tmp 4) (Go.Operand.const (Go.Value.int Go.IntKind.i64 0)) v4 (Go.Value.int Go.IntKind.i64 0)) (fun v5 w =>
  GuardP v5 true (fun K w => LiftP Try.prog (Instr.fieldAt 36 v1 1) K w) (fun v7 w =>
  GuardP v5 true (fun K w => LiftP Try.prog (Instr.loadAt 3 v7) K w) (fun v8 w =>
  GuardP v5 true (fun K w => LiftP Try.prog (binS Go.BinOp.eql 3 (Go.Operand.tmp 8) (Go.Operand.const (Go.Value.int Go.IntKind.i64 0)) v8 (Go.Value.int Go.IntKind.i64 0)) K w) (fun v9 w =>
  PickP v5 v9 (Go.Value.bool false) (fun v10 w =>
  GuardP v10 true (fun K w => LiftP Try.prog (Instr.fieldAt 36 v1 2) K w) (fun v12 w =>
  GuardP v10 true (fun K w => LiftP Try.prog (Instr.loadAt 9 v12) K w) (fun v13 w =>
  GuardP v10 true (fun K w => LiftP Try.prog (binS Go.BinOp.eql 9 (Go.Operand.tmp 13) (Go.Operand.const (Go.Value.string { data := #[] })) v13 (Go.Value.string { data := #[] })) K w) (fun v14 w =>
  PickP v10 v14 (Go.Value.bool false) (fun v15 w =>
  GuardP v15 false (fun K w => LiftP Try.prog (Instr.fieldAt 36 v1 0) K w) (fun v17 w =>
  GuardP v15 false (fun K w => LiftP Try.prog (Instr.loadAt 3 v17) K w) (fun v18 w =>
  GuardP v15 false (fun K w => LiftP Try.prog (binS Go.BinOp.eql 3 (Go.Operand.tmp 18) (Go.Operand.const (Go.Value.int Go.IntKind.i64 1)) v18 (Go.Value.int Go.IntKind.i64 1)) K w) (fun v19 w =>
  GuardP v15 false (fun K w => K v19 w) (fun v20 w =>
  GuardP v20 true (fun K w => LiftP Try.prog (Instr.fieldAt 36 v1 2) K w) (fun v21 w =>
  GuardP v20 true (fun K w => LiftP Try.prog (Instr.loadAt 9 v21) K w) (fun v22 w =>
  GuardP v20 true (fun K w => LiftP Try.prog (binS Go.BinOp.eql 9 (Go.Operand.tmp 22) (Go.Operand.const (Go.Value.string { data := #[] })) v22 (Go.Value.string { data := #[] })) K w) (fun v23 w =>
  GuardP v15 false (fun K w => PickP v20 v23 (Go.Value.bool false) K w) (fun v24 w =>
  PickP v15 (Go.Value.bool true) v24 (fun v25 w =>
  GuardP v25 false (fun K w => LiftP Try.prog (Instr.fieldAt 36 v1 0) K w) (fun v27 w =>
  GuardP v25 false (fun K w => LiftP Try.prog (Instr.loadAt 3 v27) K w) (fun v28 w =>
  GuardP v25 false (fun K w => LiftP Try.prog (binS Go.BinOp.eql 3 (Go.Operand.tmp 28) (Go.Operand.const (Go.Value.int Go.IntKind.i64 2)) v28 (Go.Value.int Go.IntKind.i64 2)) K w) (fun v29 w =>
  GuardP v25 false (fun K w => K v29 w) (fun v30 w =>
  GuardP v30 true (fun K w => LiftP Try.prog (Instr.fieldAt 36 v1 1) K w) (fun v31 w =>
  GuardP v30 true (fun K w => LiftP Try.prog (Instr.loadAt 3 v31) K w) (fun v32 w =>
  GuardP v30 true (fun K w => LiftP Try.prog (binS Go.BinOp.eql 3 (Go.Operand.tmp 32) (Go.Operand.const (Go.Value.int Go.IntKind.i64 0)) v32 (Go.Value.int Go.IntKind.i64 0)) K w) (fun v33 w =>
  GuardP v25 false (fun K w => PickP v30 v33 (Go.Value.bool false) K w) (fun v34 w =>
  GuardP v25 false (fun K w => K v34 w) (fun v35 w =>
  GuardP v35 true (fun K w => LiftP Try.prog (Instr.fieldAt 36 v1 2) K w) (fun v36 w =>
  GuardP v35 true (fun K w => LiftP Try.prog (Instr.loadAt 9 v36) K w) (fun v37 w =>
  GuardP v35 true (fun K w => NextP Try.prog (builtin Go.Builtin.len #[9] 3 #[false] #[v37]) K w) (fun v38 w =>
  GuardP v35 true (fun K w => LiftP Try.prog (binS Go.BinOp.leq 3 (Go.Operand.tmp 38) (Go.Operand.const (Go.Value.int Go.IntKind.i64 32)) v38 (Go.Value.int Go.IntKind.i64 32)) K w) (fun v39 w =>
  GuardP v25 false (fun K w => PickP v35 v39 (Go.Value.bool false) K w) (fun v40 w =>
  PickP v25 (Go.Value.bool true) v40 (fun v41 w =>
  R v41 w) w) w) w) w) w) w) w) w) w) w) w) w) w) w) w) w) w) w) w) w) w) w) w) w) w) w) w) w) w) w) w) w) w) w) w) w
theorem S56.calls (a0 : Value) (R : Value → World → Prop) (w : World) (h : S56 a0 R w) : Calls Try.prog 56 #[a0] w fun e w' => ∃ v, e = .returned v ∧ R v w' :=
  calls_of_tr (n := 42) (c := bodyOf Try.f56) (.two .leaf (.two .leaf .leaf)) Try.func56 (by kernel_rfl) Try.ntmps56 (by kernel_rfl) (by kernel_rfl) [a0] (by kernel_rfl) (of_eq_ (by kernel_rfl) h)

end Go.Proofs.Ytmnaggdhkggjhaa.E
