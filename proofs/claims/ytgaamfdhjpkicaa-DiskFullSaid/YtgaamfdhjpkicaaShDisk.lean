import Derived.Test.YtgaamfdhjpkicaaE4
import Derived.Test.YtgaamfdhjpkicaaProg
import Derived.KernelRfl
namespace Go.Proofs.Ytgaamfdhjpkicaa.E
open Go
set_option maxRecDepth 100000

/-- shelfmark/shelfmarklaw07.DiskKeeps -/
def S12 (a0 a1 a2 a3 : Value) (R : Value → World → Prop) (w : World) : Prop :=
  CallP Try.prog 33 #[] (fun v16 w =>
  LiftP Try.prog (Op.unary Go.UnOp.not v16) (fun v17 w =>
  CondP v17 (fun w =>
    R (Go.Value.bool false) w) (fun w =>
    CallP Try.prog 32 #[a0, (Go.Value.int Go.IntKind.i64 4000)] (fun v19 w =>
  LiftP Try.prog (binS Go.BinOp.gtr 3 (Go.Operand.tmp 19) (Go.Operand.const (Go.Value.int Go.IntKind.i64 4000)) v19 (Go.Value.int Go.IntKind.i64 4000)) (fun v20 w =>
  GuardP v20 false (fun K w => K a1 w) (fun v22 w =>
  GuardP v20 false (fun K w => CallP Try.prog 32 #[v22, (Go.Value.int Go.IntKind.i64 4000)] K w) (fun v23 w =>
  GuardP v20 false (fun K w => LiftP Try.prog (binS Go.BinOp.gtr 3 (Go.Operand.tmp 23) (Go.Operand.const (Go.Value.int Go.IntKind.i64 4000)) v23 (Go.Value.int Go.IntKind.i64 4000)) K w) (fun v24 w =>
  PickP v20 (Go.Value.bool true) v24 (fun v25 w =>
  GuardP v25 false (fun K w => K a0 w) (fun v27 w =>
  GuardP v25 false (fun K w => NextP Try.prog (builtin Go.Builtin.len #[45] 3 #[false] #[v27]) K w) (fun v28 w =>
  GuardP v25 false (fun K w => K a1 w) (fun v29 w =>
  GuardP v25 false (fun K w => NextP Try.prog (builtin Go.Builtin.len #[45] 3 #[false] #[v29]) K w) (fun v30 w =>
  GuardP v25 false (fun K w => LiftP Try.prog (binS Go.BinOp.add 3 (Go.Operand.tmp 28) (Go.Operand.tmp 30) v28 v30) K w) (fun v31 w =>
  GuardP v25 false (fun K w => LiftP Try.prog (binS Go.BinOp.gtr 3 (Go.Operand.tmp 31) (Go.Operand.const (Go.Value.int Go.IntKind.i64 60)) v31 (Go.Value.int Go.IntKind.i64 60)) K w) (fun v32 w =>
  PickP v25 (Go.Value.bool true) v32 (fun v33 w =>
  CondP v33 (fun w =>
    R (Go.Value.bool true) w) (fun w =>
    CallP Try.prog 34 #[(Go.Value.int Go.IntKind.i64 4194304)] (fun v35 w =>
  LiftP Try.prog (Instr.extract v35 0) (fun v36 w =>
  LiftP Try.prog (Instr.extract v35 1) (fun v37 w =>
  LiftP Try.prog (binS Go.BinOp.eql 54 (Go.Operand.tmp 38) (Go.Operand.const (Go.Value.pointer none)) v36 (Go.Value.pointer none)) (fun v39 w =>
  GuardP v39 false (fun K w => K v37 w) (fun v41 w =>
  GuardP v39 false (fun K w => LiftP Try.prog (binS Go.BinOp.neq 33 (Go.Operand.tmp 41) (Go.Operand.const (Go.Value.int Go.IntKind.i64 0)) v41 (Go.Value.int Go.IntKind.i64 0)) K w) (fun v42 w =>
  PickP v39 (Go.Value.bool true) v42 (fun v43 w =>
  CondP v43 (fun w =>
    R (Go.Value.bool false) w) (fun w =>
    CallP Try.prog 35 #[v36] (fun v45 w =>
  LoopP (fun J vs w =>   -- [11]
    NextP Try.prog (builtin Go.Builtin.len #[45] 3 #[false] #[a0]) (fun v48 w =>
    LiftP Try.prog (binS Go.BinOp.lss 3 (Go.Operand.tmp 46) (Go.Operand.tmp 48) (vs.headD undef) v48) (fun v49 w =>
    CondP v49 (fun w =>
      LiftP Try.prog (Instr.indexAt 45 a0 (vs.headD undef)) (fun v55 w =>
    LiftP Try.prog (Instr.loadAt 23 v55) (fun v56 w =>
    CallP Try.prog 36 #[v36, v56] (fun v57 w =>
    LiftP Try.prog (binS Go.BinOp.neq 33 (Go.Operand.tmp 57) (Go.Operand.const (Go.Value.int Go.IntKind.i64 0)) v57 (Go.Value.int Go.IntKind.i64 0)) (fun v58 w =>
    CondP v58 (fun w =>
      R (Go.Value.bool false) w) (fun w =>
      LiftP Try.prog (binS Go.BinOp.add 3 (Go.Operand.tmp 50) (Go.Operand.const (Go.Value.int Go.IntKind.i64 1)) (vs.headD undef) (Go.Value.int Go.IntKind.i64 1)) (fun v51 w =>
    J [v51] w) w) w) w) w) w) w) (fun w =>
      CallP Try.prog 37 #[v36] (fun v60 w =>
  LiftP Try.prog (binS Go.BinOp.neq 33 (Go.Operand.tmp 60) (Go.Operand.const (Go.Value.int Go.IntKind.i64 0)) v60 (Go.Value.int Go.IntKind.i64 0)) (fun v61 w =>
  CondP v61 (fun w =>
    R (Go.Value.bool false) w) (fun w =>
    LoopP (fun J_1 vs_1 w =>   -- [12]
    NextP Try.prog (builtin Go.Builtin.len #[45] 3 #[false] #[a1]) (fun v64 w =>
    LiftP Try.prog (binS Go.BinOp.lss 3 (Go.Operand.tmp 62) (Go.Operand.tmp 64) (vs_1.headD undef) v64) (fun v65 w =>
    CondP v65 (fun w =>
      LiftP Try.prog (Instr.indexAt 45 a1 (vs_1.headD undef)) (fun v71 w =>
    LiftP Try.prog (Instr.loadAt 23 v71) (fun v72 w =>
    CallP Try.prog 36 #[v36, v72] (fun v73 w =>
    LiftP Try.prog (binS Go.BinOp.neq 33 (Go.Operand.tmp 73) (Go.Operand.const (Go.Value.int Go.IntKind.i64 0)) v73 (Go.Value.int Go.IntKind.i64 0)) (fun v74 w =>
    CondP v74 (fun w =>
      R (Go.Value.bool false) w) (fun w =>
      LiftP Try.prog (binS Go.BinOp.add 3 (Go.Operand.tmp 66) (Go.Operand.const (Go.Value.int Go.IntKind.i64 1)) (vs_1.headD undef) (Go.Value.int Go.IntKind.i64 1)) (fun v67 w =>
    J_1 [v67] w) w) w) w) w) w) w) (fun w =>
      CallP Try.prog 38 #[v36, a2, a3] (fun v78 w =>
  CallP Try.prog 35 #[v36] (fun v81 w =>
  LiftP Try.prog (Instr.extract v81 0) (fun v82 w =>
  LiftP Try.prog (Instr.extract v81 1) (fun v83 w =>
  LiftP Try.prog (Instr.extract v81 2) (fun v84 w =>
  LiftP Try.prog (binS Go.BinOp.neq 33 (Go.Operand.tmp 85) (Go.Operand.const (Go.Value.int Go.IntKind.i64 0)) v84 (Go.Value.int Go.IntKind.i64 0)) (fun v86 w =>
  GuardP v86 false (fun K w => K v83 w) (fun v88 w =>
  GuardP v86 false (fun K w => NextP Try.prog (builtin Go.Builtin.len #[45] 3 #[false] #[v88]) K w) (fun v89 w =>
  GuardP v86 false (fun K w => K a0 w) (fun v90 w =>
  GuardP v86 false (fun K w => NextP Try.prog (builtin Go.Builtin.len #[45] 3 #[false] #[v90]) K w) (fun v91 w =>
  GuardP v86 false (fun K w => LiftP Try.prog (binS Go.BinOp.lss 3 (Go.Operand.tmp 89) (Go.Operand.tmp 91) v89 v91) K w) (fun v92 w =>
  PickP v86 (Go.Value.bool true) v92 (fun v93 w =>
  GuardP v93 false (fun K w => K v83 w) (fun v95 w =>
  GuardP v93 false (fun K w => NextP Try.prog (builtin Go.Builtin.len #[45] 3 #[false] #[v95]) K w) (fun v96 w =>
  GuardP v93 false (fun K w => K a0 w) (fun v97 w =>
  GuardP v93 false (fun K w => NextP Try.prog (builtin Go.Builtin.len #[45] 3 #[false] #[v97]) K w) (fun v98 w =>
  GuardP v93 false (fun K w => K a1 w) (fun v99 w =>
  GuardP v93 false (fun K w => NextP Try.prog (builtin Go.Builtin.len #[45] 3 #[false] #[v99]) K w) (fun v100 w =>
  GuardP v93 false (fun K w => LiftP Try.prog (binS Go.BinOp.add 3 (Go.Operand.tmp 98) (Go.Operand.tmp 100) v98 v100) K w) (fun v101 w =>
  GuardP v93 false (fun K w => LiftP Try.prog (binS Go.BinOp.gtr 3 (Go.Operand.tmp 96) (Go.Operand.tmp 101) v96 v101) K w) (fun v102 w =>
  PickP v93 (Go.Value.bool true) v102 (fun v103 w =>
  CondP v103 (fun w =>
    R (Go.Value.bool false) w) (fun w =>
    NextP Try.prog (builtin Go.Builtin.max #[3, 3] 3 #[false, true] #[a2, (Go.Value.int Go.IntKind.i64 0)]) (fun v105 w =>
  NextP Try.prog (builtin Go.Builtin.len #[45] 3 #[false] #[a1]) (fun v107 w =>
  NextP Try.prog (builtin Go.Builtin.min #[3, 3] 3 #[false, false] #[v105, v107]) (fun v108 w =>
  DrawP (fun S w =>
  YieldN Try.prog S (builtin Go.Builtin.len #[45] 3 #[false] #[a0]) (fun v111 w =>
  YieldP Try.prog S (Instr.sliceAt 45 v83 none (some v111) none) (fun v112 w =>
  ActP S (fun K w => CallP Try.prog 31 #[v112, a0] K w) (fun S v114 w =>
  GuardP v114 true (fun K w => K v83 w) (fun v116 w =>
  GuardP v114 true (fun K w => K a0 w) (fun v117 w =>
  GuardP v114 true (fun K w => YieldN Try.prog S (builtin Go.Builtin.len #[45] 3 #[false] #[v117]) K w) (fun v118 w =>
  GuardP v114 true (fun K w => YieldP Try.prog S (Instr.sliceAt 45 v116 (some v118) none none) K w) (fun v119 w =>
  GuardP v114 true (fun K w => K a1 w) (fun v120 w =>
  GuardP v114 true (fun K w => K v108 w) (fun v121 w =>
  GuardP v114 true (fun K w => YieldP Try.prog S (Instr.sliceAt 45 v120 none (some v121) none) K w) (fun v122 w =>
  GuardA v114 true S (fun K w => CallP Try.prog 31 #[v119, v122] K w) (fun S v123 w =>
  PickP v114 v123 (Go.Value.bool false) (fun v124 w =>
  GuardP v124 true (fun K w => K v36 w) (fun v126 w =>
  GuardA v124 true S (fun K w => CallP Try.prog 39 #[v126] K w) (fun S v127 w =>
  GuardP v124 true (fun K w => YieldP Try.prog S (binS Go.BinOp.eql 3 (Go.Operand.tmp 127) (Go.Operand.const (Go.Value.int Go.IntKind.i64 0)) v127 (Go.Value.int Go.IntKind.i64 0)) K w) (fun v128 w =>
  PickP v124 v128 (Go.Value.bool false) (fun v129 w =>
  R v129 w) w) w) w) w) w) w) w) w) w) w) w) w) w) w) w) w) w) w) w) w) w) w) w) w) w) w) w) w) w) w) w) w) w) w) w) w) w) w) w) w) w) w) w) w) w) [(Go.Value.int Go.IntKind.i64 0)] w) w) w) w) w) w) w) [(Go.Value.int Go.IntKind.i64 0)] w) w) w) w) w) w) w) w) w) w) w) w) w) w) w) w) w) w) w) w) w) w) w) w) w) w) w
theorem S12.calls (a0 a1 a2 a3 : Value) (R : Value → World → Prop) (w : World) (h : S12 a0 a1 a2 a3 R w) : Calls Try.prog 12 #[a0, a1, a2, a3] w fun e w' => ∃ v, e = .returned v ∧ R v w' :=
  calls_of_tr (n := 130) (c := bodyOf Try.f12) (.two .leaf (.two (.two .leaf (.two (.two .leaf .leaf) .leaf)) (.two (.two .leaf (.two (.two .leaf .leaf) .leaf)) (.two .leaf (.two (.two .leaf (.two (.two .leaf .leaf) .leaf)) (.two .leaf (.two (.two .leaf (.one (.loop [11] (.two (.two .leaf (.two .leaf .leaf)) (.two (.one (.two .leaf (.two (.two .leaf .leaf) .leaf))) .leaf))))) (.two (.two .leaf (.two (.two .leaf .leaf) .leaf)) (.two (.two .leaf (.one (.loop [12] (.two (.two .leaf (.two .leaf .leaf)) (.two (.one (.two .leaf (.two (.two .leaf .leaf) .leaf))) .leaf))))) (.two .leaf (.two .leaf (.two (.two .leaf (.two (.two .leaf .leaf) .leaf)) (.two .leaf (.two (.draw [(true, 0), (true, 1), (true, 2), (true, 3), (true, 4), (false, 5), (true, 6), (true, 7), (true, 8), (true, 9), (true, 10), (true, 11), (true, 12), (true, 13), (false, 14), (true, 15), (true, 16), (true, 17), (false, 18), (true, 19), (true, 20), (true, 21)]) .leaf)))))))))))))) Try.func12 (by kernel_rfl) Try.ntmps12 (by kernel_rfl) (by kernel_rfl) [a0, a1, a2, a3] (by kernel_rfl) (of_eq_ (by kernel_rfl) h)

/-- shelfmark/shelfmarklaw07.DiskTorn -/
def S13 (a0 a1 a2 a3 : Value) (R : Value → World → Prop) (w : World) : Prop :=
  CallP Try.prog 33 #[] (fun v16 w =>
  LiftP Try.prog (Op.unary Go.UnOp.not v16) (fun v17 w =>
  CondP v17 (fun w =>
    R (Go.Value.bool false) w) (fun w =>
    CallP Try.prog 32 #[a0, (Go.Value.int Go.IntKind.i64 4000)] (fun v19 w =>
  LiftP Try.prog (binS Go.BinOp.gtr 3 (Go.Operand.tmp 19) (Go.Operand.const (Go.Value.int Go.IntKind.i64 4000)) v19 (Go.Value.int Go.IntKind.i64 4000)) (fun v20 w =>
  GuardP v20 false (fun K w => K a0 w) (fun v22 w =>
  GuardP v20 false (fun K w => NextP Try.prog (builtin Go.Builtin.len #[45] 3 #[false] #[v22]) K w) (fun v23 w =>
  GuardP v20 false (fun K w => LiftP Try.prog (binS Go.BinOp.gtr 3 (Go.Operand.tmp 23) (Go.Operand.const (Go.Value.int Go.IntKind.i64 60)) v23 (Go.Value.int Go.IntKind.i64 60)) K w) (fun v24 w =>
  PickP v20 (Go.Value.bool true) v24 (fun v25 w =>
  GuardP v25 false (fun K w => K a1 w) (fun v27 w =>
  GuardP v25 false (fun K w => LiftP Try.prog (binS Go.BinOp.lss 3 (Go.Operand.tmp 27) (Go.Operand.const (Go.Value.int Go.IntKind.i64 0)) v27 (Go.Value.int Go.IntKind.i64 0)) K w) (fun v28 w =>
  PickP v25 (Go.Value.bool true) v28 (fun v29 w =>
  GuardP v29 false (fun K w => K a1 w) (fun v31 w =>
  GuardP v29 false (fun K w => K a0 w) (fun v32 w =>
  GuardP v29 false (fun K w => NextP Try.prog (builtin Go.Builtin.len #[45] 3 #[false] #[v32]) K w) (fun v33 w =>
  GuardP v29 false (fun K w => LiftP Try.prog (binS Go.BinOp.geq 3 (Go.Operand.tmp 31) (Go.Operand.tmp 33) v31 v33) K w) (fun v34 w =>
  PickP v29 (Go.Value.bool true) v34 (fun v35 w =>
  GuardP v35 false (fun K w => K a2 w) (fun v37 w =>
  GuardP v35 false (fun K w => LiftP Try.prog (binS Go.BinOp.lss 3 (Go.Operand.tmp 37) (Go.Operand.const (Go.Value.int Go.IntKind.i64 4)) v37 (Go.Value.int Go.IntKind.i64 4)) K w) (fun v38 w =>
  PickP v35 (Go.Value.bool true) v38 (fun v39 w =>
  GuardP v39 false (fun K w => K a2 w) (fun v41 w =>
  GuardP v39 false (fun K w => K a0 w) (fun v42 w =>
  GuardP v39 false (fun K w => K a1 w) (fun v43 w =>
  GuardP v39 false (fun K w => LiftP Try.prog (Instr.indexAt 45 v42 v43) K w) (fun v44 w =>
  GuardP v39 false (fun K w => LiftP Try.prog (Instr.loadAt 23 v44) K w) (fun v45 w =>
  GuardP v39 false (fun K w => NextP Try.prog (builtin Go.Builtin.len #[23] 3 #[false] #[v45]) K w) (fun v46 w =>
  GuardP v39 false (fun K w => LiftP Try.prog (binS Go.BinOp.add 3 (Go.Operand.const (Go.Value.int Go.IntKind.i64 8)) (Go.Operand.tmp 46) (Go.Value.int Go.IntKind.i64 8) v46) K w) (fun v47 w =>
  GuardP v39 false (fun K w => LiftP Try.prog (binS Go.BinOp.geq 3 (Go.Operand.tmp 41) (Go.Operand.tmp 47) v41 v47) K w) (fun v48 w =>
  PickP v39 (Go.Value.bool true) v48 (fun v49 w =>
  GuardP v49 false (fun K w => K a3 w) (fun v51 w =>
  GuardP v49 false (fun K w => LiftP Try.prog (binS Go.BinOp.eql 5 (Go.Operand.tmp 51) (Go.Operand.const (Go.Value.int Go.IntKind.u8 0)) v51 (Go.Value.int Go.IntKind.u8 0)) K w) (fun v52 w =>
  PickP v49 (Go.Value.bool true) v52 (fun v53 w =>
  CondP v53 (fun w =>
    R (Go.Value.bool true) w) (fun w =>
    CallP Try.prog 34 #[(Go.Value.int Go.IntKind.i64 4194304)] (fun v55 w =>
  LiftP Try.prog (Instr.extract v55 0) (fun v56 w =>
  LiftP Try.prog (Instr.extract v55 1) (fun v57 w =>
  LiftP Try.prog (binS Go.BinOp.eql 54 (Go.Operand.tmp 58) (Go.Operand.const (Go.Value.pointer none)) v56 (Go.Value.pointer none)) (fun v59 w =>
  CondP v59 (fun w =>
    R (Go.Value.bool false) w) (fun w =>
    CallP Try.prog 35 #[v56] (fun v61 w =>
  LoopP (fun J vs w =>   -- [11, 12]
    NextP Try.prog (builtin Go.Builtin.len #[45] 3 #[false] #[a0]) (fun v64 w =>
    LiftP Try.prog (binS Go.BinOp.lss 3 (Go.Operand.tmp 62) (Go.Operand.tmp 64) (vs.tail.headD undef) v64) (fun v65 w =>
    CondP v65 (fun w =>
      JoinP (fun J_1 w =>
      LiftP Try.prog (Instr.indexAt 45 a0 (vs.tail.headD undef)) (fun v71 w =>
      LiftP Try.prog (Instr.loadAt 23 v71) (fun v72 w =>
      CallP Try.prog 36 #[v56, v72] (fun v73 w =>
      LiftP Try.prog (binS Go.BinOp.neq 33 (Go.Operand.tmp 73) (Go.Operand.const (Go.Value.int Go.IntKind.i64 0)) v73 (Go.Value.int Go.IntKind.i64 0)) (fun v74 w =>
      CondP v74 (fun w =>
        R (Go.Value.bool false) w) (fun w =>
        LiftP Try.prog (binS Go.BinOp.lss 3 (Go.Operand.tmp 75) (Go.Operand.tmp 76) (vs.tail.headD undef) a1) (fun v77 w =>
      CondP v77 (fun w =>
        LiftP Try.prog (binS Go.BinOp.add 3 (Go.Operand.tmp 78) (Go.Operand.const (Go.Value.int Go.IntKind.i64 8)) (vs.headD undef) (Go.Value.int Go.IntKind.i64 8)) (fun v79 w =>
        LiftP Try.prog (Instr.indexAt 45 a0 (vs.tail.headD undef)) (fun v82 w =>
        LiftP Try.prog (Instr.loadAt 23 v82) (fun v83 w =>
        NextP Try.prog (builtin Go.Builtin.len #[23] 3 #[false] #[v83]) (fun v84 w =>
        LiftP Try.prog (binS Go.BinOp.add 3 (Go.Operand.tmp 79) (Go.Operand.tmp 84) v79 v84) (fun v85 w =>
        J_1 [v85] w) w) w) w) w) w) (fun w =>
        J_1 [(vs.headD undef)] w) w) w) w) w) w) w) w) (fun vs_1 w =>   -- [11]
    LiftP Try.prog (binS Go.BinOp.add 3 (Go.Operand.tmp 66) (Go.Operand.const (Go.Value.int Go.IntKind.i64 1)) (vs.tail.headD undef) (Go.Value.int Go.IntKind.i64 1)) (fun v67 w =>
    J [(vs_1.headD undef), v67] w) w) w) (fun w =>
      CallP Try.prog 37 #[v56] (fun v87 w =>
  LiftP Try.prog (binS Go.BinOp.add 3 (Go.Operand.tmp 89) (Go.Operand.tmp 90) (vs.headD undef) a2) (fun v91 w =>
  CallP Try.prog 40 #[v56, v91, a3] (fun v93 w =>
  LiftP Try.prog (Op.unary Go.UnOp.not v93) (fun v94 w =>
  GuardP v94 false (fun K w => K v56 w) (fun v96 w =>
  GuardP v94 false (fun K w => CallP Try.prog 40 #[v96, (Go.Value.int Go.IntKind.i64 (-1)), (Go.Value.int Go.IntKind.u8 1)] K w) (fun v97 w =>
  PickP v94 (Go.Value.bool true) v97 (fun v98 w =>
  CondP v98 (fun w =>
    R (Go.Value.bool false) w) (fun w =>
    CallP Try.prog 38 #[v56, (Go.Value.int Go.IntKind.i64 0), (Go.Value.int Go.IntKind.i64 0)] (fun v100 w =>
  CallP Try.prog 35 #[v56] (fun v103 w =>
  LiftP Try.prog (Instr.extract v103 0) (fun v104 w =>
  LiftP Try.prog (Instr.extract v103 1) (fun v105 w =>
  LiftP Try.prog (Instr.extract v103 2) (fun v106 w =>
  LiftP Try.prog (binS Go.BinOp.eql 33 (Go.Operand.tmp 107) (Go.Operand.const (Go.Value.int Go.IntKind.i64 0)) v106 (Go.Value.int Go.IntKind.i64 0)) (fun v108 w =>
  GuardP v108 true (fun K w => K v105 w) (fun v110 w =>
  GuardP v108 true (fun K w => K a0 w) (fun v111 w =>
  GuardP v108 true (fun K w => K a1 w) (fun v112 w =>
  GuardP v108 true (fun K w => LiftP Try.prog (Instr.sliceAt 45 v111 none (some v112) none) K w) (fun v113 w =>
  GuardP v108 true (fun K w => CallP Try.prog 31 #[v110, v113] K w) (fun v114 w =>
  PickP v108 v114 (Go.Value.bool false) (fun v115 w =>
  GuardP v115 true (fun K w => K v56 w) (fun v117 w =>
  GuardP v115 true (fun K w => CallP Try.prog 41 #[v117] K w) (fun v118 w =>
  GuardP v115 true (fun K w => K (vs.headD undef) w) (fun v119 w =>
  GuardP v115 true (fun K w => LiftP Try.prog (binS Go.BinOp.eql 3 (Go.Operand.tmp 118) (Go.Operand.tmp 119) v118 v119) K w) (fun v120 w =>
  PickP v115 v120 (Go.Value.bool false) (fun v121 w =>
  R v121 w) w) w) w) w) w) w) w) w) w) w) w) w) w) w) w) w) w) w) w) w) w) w) w) w) w) w) w) w) [(Go.Value.int Go.IntKind.i64 0), (Go.Value.int Go.IntKind.i64 0)] w) w) w) w) w) w) w) w) w) w) w) w) w) w) w) w) w) w) w) w) w) w) w) w) w) w) w) w) w) w) w) w) w) w) w) w) w) w) w) w
theorem S13.calls (a0 a1 a2 a3 : Value) (R : Value → World → Prop) (w : World) (h : S13 a0 a1 a2 a3 R w) : Calls Try.prog 13 #[a0, a1, a2, a3] w fun e w' => ∃ v, e = .returned v ∧ R v w' :=
  calls_of_tr (n := 122) (c := bodyOf Try.f13) (.two .leaf (.two (.two .leaf (.two (.two .leaf .leaf) .leaf)) (.two (.two .leaf (.two (.two .leaf .leaf) .leaf)) (.two .leaf (.two (.two .leaf (.two (.two .leaf .leaf) .leaf)) (.two .leaf (.two .leaf (.two (.two .leaf (.one (.loop [11, 12] (.two (.two .leaf (.two .leaf .leaf)) (.join [11] (.one (.two (.two .leaf (.two (.two .leaf .leaf) .leaf)) (.two .leaf (.two .leaf .leaf)))) .leaf))))) (.two .leaf (.two (.two .leaf (.two (.two .leaf .leaf) .leaf)) (.two .leaf (.two .leaf (.two .leaf .leaf))))))))))))) Try.func13 (by kernel_rfl) Try.ntmps13 (by kernel_rfl) (by kernel_rfl) [a0, a1, a2, a3] (by kernel_rfl) (of_eq_ (by kernel_rfl) h)

/-- shelfmark/shelfmarklaw07.DiskMemory -/
def S14 (a0 a1 : Value) (R : Value → World → Prop) (w : World) : Prop :=
  CallP Try.prog 33 #[] (fun v21 w =>
  LiftP Try.prog (Op.unary Go.UnOp.not v21) (fun v22 w =>
  CondP v22 (fun w =>
    R (Go.Value.bool false) w) (fun w =>
    CallP Try.prog 32 #[a0, (Go.Value.int Go.IntKind.i64 4000)] (fun v24 w =>
  LiftP Try.prog (binS Go.BinOp.gtr 3 (Go.Operand.tmp 24) (Go.Operand.const (Go.Value.int Go.IntKind.i64 4000)) v24 (Go.Value.int Go.IntKind.i64 4000)) (fun v25 w =>
  GuardP v25 false (fun K w => K a0 w) (fun v27 w =>
  GuardP v25 false (fun K w => NextP Try.prog (builtin Go.Builtin.len #[45] 3 #[false] #[v27]) K w) (fun v28 w =>
  GuardP v25 false (fun K w => LiftP Try.prog (binS Go.BinOp.gtr 3 (Go.Operand.tmp 28) (Go.Operand.const (Go.Value.int Go.IntKind.i64 60)) v28 (Go.Value.int Go.IntKind.i64 60)) K w) (fun v29 w =>
  PickP v25 (Go.Value.bool true) v29 (fun v30 w =>
  GuardP v30 false (fun K w => K a1 w) (fun v32 w =>
  GuardP v30 false (fun K w => NextP Try.prog (builtin Go.Builtin.len #[23] 3 #[false] #[v32]) K w) (fun v33 w =>
  GuardP v30 false (fun K w => LiftP Try.prog (binS Go.BinOp.gtr 3 (Go.Operand.tmp 33) (Go.Operand.const (Go.Value.int Go.IntKind.i64 4000)) v33 (Go.Value.int Go.IntKind.i64 4000)) K w) (fun v34 w =>
  PickP v30 (Go.Value.bool true) v34 (fun v35 w =>
  CondP v35 (fun w =>
    R (Go.Value.bool true) w) (fun w =>
    CallP Try.prog 34 #[(Go.Value.int Go.IntKind.i64 4194304)] (fun v37 w =>
  LiftP Try.prog (Instr.extract v37 0) (fun v38 w =>
  LiftP Try.prog (Instr.extract v37 1) (fun v39 w =>
  LiftP Try.prog (binS Go.BinOp.eql 54 (Go.Operand.tmp 40) (Go.Operand.const (Go.Value.pointer none)) v38 (Go.Value.pointer none)) (fun v41 w =>
  CondP v41 (fun w =>
    R (Go.Value.bool false) w) (fun w =>
    CallP Try.prog 35 #[v38] (fun v43 w =>
  LiftP Try.prog (Instr.buildSlice 23 0 #[]) (fun v44 w =>
  NextP Try.prog (builtin Go.Builtin.append #[23, 23] 23 #[false, false] #[v44, a1]) (fun v46 w =>
  CallP Try.prog 42 #[v38, v46] (fun v49 w =>
  LoopP (fun J vs w =>   -- [8]
    NextP Try.prog (builtin Go.Builtin.len #[23] 3 #[false] #[v46]) (fun v52 w =>
    LiftP Try.prog (binS Go.BinOp.lss 3 (Go.Operand.tmp 50) (Go.Operand.tmp 52) (vs.headD undef) v52) (fun v53 w =>
    CondP v53 (fun w =>
      LiftP Try.prog (Instr.indexAt 23 v46 (vs.headD undef)) (fun v60 w =>
    LiftP Try.prog (Instr.loadAt 5 v60) (fun v61 w =>
    LiftP Try.prog (binS Go.BinOp.xor 5 (Go.Operand.tmp 61) (Go.Operand.const (Go.Value.int Go.IntKind.u8 255)) v61 (Go.Value.int Go.IntKind.u8 255)) (fun v62 w =>
    LiftP Try.prog (Instr.indexAt 23 v46 (vs.headD undef)) (fun v63 w =>
    LiftU Try.prog (Instr.storeAt 5 v63 v62) (fun v_ w =>
    LiftP Try.prog (binS Go.BinOp.add 3 (Go.Operand.tmp 54) (Go.Operand.const (Go.Value.int Go.IntKind.i64 1)) (vs.headD undef) (Go.Value.int Go.IntKind.i64 1)) (fun v55 w =>
    J [v55] w) w) w) w) w) w) w) (fun w =>
      LoopP (fun J_1 vs_1 w =>   -- [9]
    NextP Try.prog (builtin Go.Builtin.len #[45] 3 #[false] #[a0]) (fun v66 w =>
    LiftP Try.prog (binS Go.BinOp.lss 3 (Go.Operand.tmp 64) (Go.Operand.tmp 66) (vs_1.headD undef) v66) (fun v67 w =>
    CondP v67 (fun w =>
      LiftP Try.prog (Instr.buildSlice 23 0 #[]) (fun v70 w =>
    LiftP Try.prog (Instr.indexAt 45 a0 (vs_1.headD undef)) (fun v73 w =>
    LiftP Try.prog (Instr.loadAt 23 v73) (fun v74 w =>
    NextP Try.prog (builtin Go.Builtin.append #[23, 23] 23 #[false, false] #[v70, v74]) (fun v75 w =>
    LiftP Try.prog (Instr.buildSlice 23 1 #[(0, (Go.Value.int Go.IntKind.u8 1))]) (fun v76 w =>
    NextP Try.prog (builtin Go.Builtin.append #[23, 23] 23 #[false, false] #[v75, v76]) (fun v77 w =>
    LiftP Try.prog (Instr.indexAt 45 a0 (vs_1.headD undef)) (fun v82 w =>
    LiftP Try.prog (Instr.loadAt 23 v82) (fun v83 w =>
    NextP Try.prog (builtin Go.Builtin.len #[23] 3 #[false] #[v83]) (fun v84 w =>
    LiftP Try.prog (Instr.sliceAt 23 v77 none (some v84) none) (fun v85 w =>
    CallP Try.prog 36 #[v38, v85] (fun v86 w =>
    LiftP Try.prog (Instr.indexAt 45 a0 (vs_1.headD undef)) (fun v90 w =>
    LiftP Try.prog (Instr.loadAt 23 v90) (fun v91 w =>
    NextP Try.prog (builtin Go.Builtin.len #[23] 3 #[false] #[v91]) (fun v92 w =>
    LiftP Try.prog (Instr.indexAt 23 v77 v92) (fun v93 w =>
    LiftP Try.prog (Instr.loadAt 5 v93) (fun v94 w =>
    LiftP Try.prog (binS Go.BinOp.neq 5 (Go.Operand.tmp 94) (Go.Operand.const (Go.Value.int Go.IntKind.u8 1)) v94 (Go.Value.int Go.IntKind.u8 1)) (fun v95 w =>
    CondP v95 (fun w =>
      R (Go.Value.bool false) w) (fun w =>
      LoopP (fun J_2 vs_2 w =>   -- [11]
      NextP Try.prog (builtin Go.Builtin.len #[23] 3 #[false] #[v77]) (fun v98 w =>
      LiftP Try.prog (binS Go.BinOp.lss 3 (Go.Operand.tmp 96) (Go.Operand.tmp 98) (vs_2.headD undef) v98) (fun v99 w =>
      CondP v99 (fun w =>
        LiftP Try.prog (Instr.indexAt 23 v77 (vs_2.headD undef)) (fun v106 w =>
      LiftP Try.prog (Instr.loadAt 5 v106) (fun v107 w =>
      LiftP Try.prog (binS Go.BinOp.xor 5 (Go.Operand.tmp 107) (Go.Operand.const (Go.Value.int Go.IntKind.u8 255)) v107 (Go.Value.int Go.IntKind.u8 255)) (fun v108 w =>
      LiftP Try.prog (Instr.indexAt 23 v77 (vs_2.headD undef)) (fun v109 w =>
      LiftU Try.prog (Instr.storeAt 5 v109 v108) (fun v__1 w =>
      LiftP Try.prog (binS Go.BinOp.add 3 (Go.Operand.tmp 100) (Go.Operand.const (Go.Value.int Go.IntKind.i64 1)) (vs_2.headD undef) (Go.Value.int Go.IntKind.i64 1)) (fun v101 w =>
      J_2 [v101] w) w) w) w) w) w) w) (fun w =>
        LiftP Try.prog (binS Go.BinOp.add 3 (Go.Operand.tmp 68) (Go.Operand.const (Go.Value.int Go.IntKind.i64 1)) (vs_1.headD undef) (Go.Value.int Go.IntKind.i64 1)) (fun v69 w =>
    J_1 [v69] w) w) w) w) w) [(Go.Value.int Go.IntKind.i64 0)] w) w) w) w) w) w) w) w) w) w) w) w) w) w) w) w) w) w) w) (fun w =>
      CallP Try.prog 37 #[v38] (fun v111 w =>
  CallP Try.prog 43 #[v38] (fun v113 w =>
  LoopP (fun J_3 vs_3 w =>   -- [13]
    NextP Try.prog (builtin Go.Builtin.len #[23] 3 #[false] #[v113]) (fun v116 w =>
    LiftP Try.prog (binS Go.BinOp.lss 3 (Go.Operand.tmp 114) (Go.Operand.tmp 116) (vs_3.headD undef) v116) (fun v117 w =>
    CondP v117 (fun w =>
      LiftP Try.prog (Instr.indexAt 23 v113 (vs_3.headD undef)) (fun v124 w =>
    LiftP Try.prog (Instr.loadAt 5 v124) (fun v125 w =>
    LiftP Try.prog (binS Go.BinOp.xor 5 (Go.Operand.tmp 125) (Go.Operand.const (Go.Value.int Go.IntKind.u8 255)) v125 (Go.Value.int Go.IntKind.u8 255)) (fun v126 w =>
    LiftP Try.prog (Instr.indexAt 23 v113 (vs_3.headD undef)) (fun v127 w =>
    LiftU Try.prog (Instr.storeAt 5 v127 v126) (fun v__2 w =>
    LiftP Try.prog (binS Go.BinOp.add 3 (Go.Operand.tmp 118) (Go.Operand.const (Go.Value.int Go.IntKind.i64 1)) (vs_3.headD undef) (Go.Value.int Go.IntKind.i64 1)) (fun v119 w =>
    J_3 [v119] w) w) w) w) w) w) w) (fun w =>
      LoopP (fun J_4 vs_4 w =>   -- [14]
    LiftP Try.prog (binS Go.BinOp.lss 3 (Go.Operand.tmp 128) (Go.Operand.const (Go.Value.int Go.IntKind.i64 2)) (vs_4.headD undef) (Go.Value.int Go.IntKind.i64 2)) (fun v129 w =>
    CondP v129 (fun w =>
      CallP Try.prog 38 #[v38, (Go.Value.int Go.IntKind.i64 0), (Go.Value.int Go.IntKind.i64 0)] (fun v133 w =>
    CallP Try.prog 35 #[v38] (fun v136 w =>
    LiftP Try.prog (Instr.extract v136 0) (fun v137 w =>
    LiftP Try.prog (Instr.extract v136 1) (fun v138 w =>
    LiftP Try.prog (Instr.extract v136 2) (fun v139 w =>
    LiftP Try.prog (convert 23 9 v137) (fun v141 w =>
    LiftP Try.prog (convert 23 9 a1) (fun v143 w =>
    LiftP Try.prog (binS Go.BinOp.neq 9 (Go.Operand.tmp 141) (Go.Operand.tmp 143) v141 v143) (fun v144 w =>
    GuardP v144 false (fun K w => K v138 w) (fun v146 w =>
    GuardP v144 false (fun K w => K a0 w) (fun v147 w =>
    GuardP v144 false (fun K w => CallP Try.prog 31 #[v146, v147] K w) (fun v148 w =>
    GuardP v144 false (fun K w => LiftP Try.prog (Op.unary Go.UnOp.not v148) K w) (fun v149 w =>
    PickP v144 (Go.Value.bool true) v149 (fun v150 w =>
    CondP v150 (fun w =>
      R (Go.Value.bool false) w) (fun w =>
      LoopP (fun J_5 vs_5 w =>   -- [18]
      NextP Try.prog (builtin Go.Builtin.len #[23] 3 #[false] #[v137]) (fun v153 w =>
      LiftP Try.prog (binS Go.BinOp.lss 3 (Go.Operand.tmp 151) (Go.Operand.tmp 153) (vs_5.headD undef) v153) (fun v154 w =>
      CondP v154 (fun w =>
        LiftP Try.prog (Instr.indexAt 23 v137 (vs_5.headD undef)) (fun v161 w =>
      LiftP Try.prog (Instr.loadAt 5 v161) (fun v162 w =>
      LiftP Try.prog (binS Go.BinOp.xor 5 (Go.Operand.tmp 162) (Go.Operand.const (Go.Value.int Go.IntKind.u8 255)) v162 (Go.Value.int Go.IntKind.u8 255)) (fun v163 w =>
      LiftP Try.prog (Instr.indexAt 23 v137 (vs_5.headD undef)) (fun v164 w =>
      LiftU Try.prog (Instr.storeAt 5 v164 v163) (fun v__3 w =>
      LiftP Try.prog (binS Go.BinOp.add 3 (Go.Operand.tmp 155) (Go.Operand.const (Go.Value.int Go.IntKind.i64 1)) (vs_5.headD undef) (Go.Value.int Go.IntKind.i64 1)) (fun v156 w =>
      J_5 [v156] w) w) w) w) w) w) w) (fun w =>
        LoopP (fun J_6 vs_6 w =>   -- [19]
      NextP Try.prog (builtin Go.Builtin.len #[45] 3 #[false] #[v138]) (fun v167 w =>
      LiftP Try.prog (binS Go.BinOp.lss 3 (Go.Operand.tmp 165) (Go.Operand.tmp 167) (vs_6.headD undef) v167) (fun v168 w =>
      CondP v168 (fun w =>
        LoopP (fun J_7 vs_7 w =>   -- [20]
        LiftP Try.prog (Instr.indexAt 45 v138 (vs_6.headD undef)) (fun v174 w =>
        LiftP Try.prog (Instr.loadAt 23 v174) (fun v175 w =>
        NextP Try.prog (builtin Go.Builtin.len #[23] 3 #[false] #[v175]) (fun v176 w =>
        LiftP Try.prog (binS Go.BinOp.lss 3 (Go.Operand.tmp 171) (Go.Operand.tmp 176) (vs_7.headD undef) v176) (fun v177 w =>
        CondP v177 (fun w =>
          LiftP Try.prog (Instr.indexAt 45 v138 (vs_6.headD undef)) (fun v182 w =>
        LiftP Try.prog (Instr.loadAt 23 v182) (fun v183 w =>
        LiftP Try.prog (Instr.indexAt 23 v183 (vs_7.headD undef)) (fun v185 w =>
        LiftU Try.prog (Instr.storeAt 5 v185 (Go.Value.int Go.IntKind.u8 0)) (fun v__4 w =>
        LiftP Try.prog (binS Go.BinOp.add 3 (Go.Operand.tmp 178) (Go.Operand.const (Go.Value.int Go.IntKind.i64 1)) (vs_7.headD undef) (Go.Value.int Go.IntKind.i64 1)) (fun v179 w =>
        J_7 [v179] w) w) w) w) w) w) (fun w =>
          LiftP Try.prog (binS Go.BinOp.add 3 (Go.Operand.tmp 169) (Go.Operand.const (Go.Value.int Go.IntKind.i64 1)) (vs_6.headD undef) (Go.Value.int Go.IntKind.i64 1)) (fun v170 w =>
      J_6 [v170] w) w) w) w) w) w) w) [(Go.Value.int Go.IntKind.i64 0)] w) (fun w =>
        LiftP Try.prog (binS Go.BinOp.add 3 (Go.Operand.tmp 130) (Go.Operand.const (Go.Value.int Go.IntKind.i64 1)) (vs_4.headD undef) (Go.Value.int Go.IntKind.i64 1)) (fun v131 w =>
    J_4 [v131] w) w) w) w) w) [(Go.Value.int Go.IntKind.i64 0)] w) w) w) w) [(Go.Value.int Go.IntKind.i64 0)] w) w) w) w) w) w) w) w) w) w) w) w) w) w) w) (fun w =>
      R (Go.Value.bool true) w) w) w) [(Go.Value.int Go.IntKind.i64 0)] w) w) w) w) [(Go.Value.int Go.IntKind.i64 0)] w) w) w) w) w) w) [(Go.Value.int Go.IntKind.i64 0)] w) w) w) w) [(Go.Value.int Go.IntKind.i64 0)] w) w) w) w) w) w) w) w) w) w) w) w) w) w) w) w) w) w) w) w) w) w) w) w
theorem S14.calls (a0 a1 : Value) (R : Value → World → Prop) (w : World) (h : S14 a0 a1 R w) : Calls Try.prog 14 #[a0, a1] w fun e w' => ∃ v, e = .returned v ∧ R v w' :=
  calls_of_tr (n := 186) (c := bodyOf Try.f14) (.two .leaf (.two (.two .leaf (.two (.two .leaf .leaf) .leaf)) (.two (.two .leaf (.two (.two .leaf .leaf) .leaf)) (.two .leaf (.two (.two .leaf (.two (.two .leaf .leaf) .leaf)) (.two .leaf (.two .leaf (.two .leaf (.two (.two .leaf (.one (.loop [8] (.two (.two .leaf (.two .leaf .leaf)) (.two (.one .leaf) .leaf))))) (.two (.two .leaf (.one (.loop [9] (.two (.two .leaf (.two .leaf .leaf)) (.two (.one (.two .leaf (.two .leaf (.two (.two .leaf (.two (.two .leaf .leaf) .leaf)) (.two .leaf (.one (.loop [11] (.two (.two .leaf (.two .leaf .leaf)) (.two (.one .leaf) .leaf))))))))) .leaf))))) (.two .leaf (.two .leaf (.two (.two .leaf (.one (.loop [13] (.two (.two .leaf (.two .leaf .leaf)) (.two (.one .leaf) .leaf))))) (.two (.two .leaf (.one (.loop [14] (.two (.two .leaf (.two .leaf .leaf)) (.two (.one (.two .leaf (.two .leaf (.two (.two .leaf (.two (.two .leaf .leaf) .leaf)) (.two (.two .leaf (.one (.loop [18] (.two (.two .leaf (.two .leaf .leaf)) (.two (.one .leaf) .leaf))))) (.two .leaf (.one (.loop [19] (.two (.two .leaf (.two .leaf .leaf)) (.two (.one (.two .leaf (.one (.loop [20] (.two (.two .leaf (.two .leaf .leaf)) (.two (.one .leaf) .leaf)))))) .leaf)))))))))) .leaf))))) (.two .leaf .leaf))))))))))))))) Try.func14 (by kernel_rfl) Try.ntmps14 (by kernel_rfl) (by kernel_rfl) [a0, a1] (by kernel_rfl) (of_eq_ (by kernel_rfl) h)

/-- shelfmark/shelfmarklaw07.DiskFull -/
def S15 (a0 a1 a2 : Value) (R : Value → World → Prop) (w : World) : Prop :=
  CallP Try.prog 33 #[] (fun v16 w =>
  LiftP Try.prog (Op.unary Go.UnOp.not v16) (fun v17 w =>
  CondP v17 (fun w =>
    R (Go.Value.bool false) w) (fun w =>
    CallP Try.prog 32 #[a1, (Go.Value.int Go.IntKind.i64 4000)] (fun v19 w =>
  LiftP Try.prog (binS Go.BinOp.gtr 3 (Go.Operand.tmp 19) (Go.Operand.const (Go.Value.int Go.IntKind.i64 4000)) v19 (Go.Value.int Go.IntKind.i64 4000)) (fun v20 w =>
  GuardP v20 false (fun K w => K a1 w) (fun v22 w =>
  GuardP v20 false (fun K w => NextP Try.prog (builtin Go.Builtin.len #[45] 3 #[false] #[v22]) K w) (fun v23 w =>
  GuardP v20 false (fun K w => LiftP Try.prog (binS Go.BinOp.gtr 3 (Go.Operand.tmp 23) (Go.Operand.const (Go.Value.int Go.IntKind.i64 60)) v23 (Go.Value.int Go.IntKind.i64 60)) K w) (fun v24 w =>
  PickP v20 (Go.Value.bool true) v24 (fun v25 w =>
  GuardP v25 false (fun K w => K a2 w) (fun v27 w =>
  GuardP v25 false (fun K w => NextP Try.prog (builtin Go.Builtin.len #[23] 3 #[false] #[v27]) K w) (fun v28 w =>
  GuardP v25 false (fun K w => LiftP Try.prog (binS Go.BinOp.gtr 3 (Go.Operand.tmp 28) (Go.Operand.const (Go.Value.int Go.IntKind.i64 4000)) v28 (Go.Value.int Go.IntKind.i64 4000)) K w) (fun v29 w =>
  PickP v25 (Go.Value.bool true) v29 (fun v30 w =>
  GuardP v30 false (fun K w => K a0 w) (fun v32 w =>
  GuardP v30 false (fun K w => LiftP Try.prog (binS Go.BinOp.lss 3 (Go.Operand.tmp 32) (Go.Operand.const (Go.Value.int Go.IntKind.i64 0)) v32 (Go.Value.int Go.IntKind.i64 0)) K w) (fun v33 w =>
  PickP v30 (Go.Value.bool true) v33 (fun v34 w =>
  GuardP v34 false (fun K w => K a0 w) (fun v36 w =>
  GuardP v34 false (fun K w => LiftP Try.prog (binS Go.BinOp.gtr 3 (Go.Operand.tmp 36) (Go.Operand.const (Go.Value.int Go.IntKind.i64 10000)) v36 (Go.Value.int Go.IntKind.i64 10000)) K w) (fun v37 w =>
  PickP v34 (Go.Value.bool true) v37 (fun v38 w =>
  CondP v38 (fun w =>
    R (Go.Value.bool true) w) (fun w =>
    CallP Try.prog 34 #[a0] (fun v41 w =>
  LiftP Try.prog (Instr.extract v41 0) (fun v42 w =>
  LiftP Try.prog (Instr.extract v41 1) (fun v43 w =>
  LiftP Try.prog (binS Go.BinOp.eql 54 (Go.Operand.tmp 44) (Go.Operand.const (Go.Value.pointer none)) v42 (Go.Value.pointer none)) (fun v45 w =>
  CondP v45 (fun w =>
    R (Go.Value.bool false) w) (fun w =>
    CallP Try.prog 35 #[v42] (fun v47 w =>
  LoopP (fun J vs w =>   -- [9]
    NextP Try.prog (builtin Go.Builtin.len #[45] 3 #[false] #[a1]) (fun v50 w =>
    LiftP Try.prog (binS Go.BinOp.lss 3 (Go.Operand.tmp 48) (Go.Operand.tmp 50) (vs.headD undef) v50) (fun v51 w =>
    CondP v51 (fun w =>
      CallP Try.prog 41 #[v42] (fun v55 w =>
    CallP Try.prog 39 #[v42] (fun v57 w =>
    LiftP Try.prog (Instr.indexAt 45 a1 (vs.headD undef)) (fun v61 w =>
    LiftP Try.prog (Instr.loadAt 23 v61) (fun v62 w =>
    CallP Try.prog 36 #[v42, v62] (fun v63 w =>
    DrawP (fun S w =>
    YieldP Try.prog S (binS Go.BinOp.eql 33 (Go.Operand.tmp 64) (Go.Operand.const (Go.Value.int Go.IntKind.i64 6)) v63 (Go.Value.int Go.IntKind.i64 6)) (fun v65 w =>
    GuardP v65 true (fun K w => K v55 w) (fun v67 w =>
    GuardP v65 true (fun K w => YieldP Try.prog S (binS Go.BinOp.add 3 (Go.Operand.tmp 67) (Go.Operand.const (Go.Value.int Go.IntKind.i64 8)) v67 (Go.Value.int Go.IntKind.i64 8)) K w) (fun v68 w =>
    GuardP v65 true (fun K w => K a1 w) (fun v69 w =>
    GuardP v65 true (fun K w => K (vs.headD undef) w) (fun v70 w =>
    GuardP v65 true (fun K w => YieldP Try.prog S (Instr.indexAt 45 v69 v70) K w) (fun v71 w =>
    GuardP v65 true (fun K w => YieldP Try.prog S (Instr.loadAt 23 v71) K w) (fun v72 w =>
    GuardP v65 true (fun K w => YieldN Try.prog S (builtin Go.Builtin.len #[23] 3 #[false] #[v72]) K w) (fun v73 w =>
    GuardP v65 true (fun K w => YieldP Try.prog S (binS Go.BinOp.add 3 (Go.Operand.tmp 68) (Go.Operand.tmp 73) v68 v73) K w) (fun v74 w =>
    GuardP v65 true (fun K w => K a0 w) (fun v75 w =>
    GuardP v65 true (fun K w => YieldP Try.prog S (binS Go.BinOp.leq 3 (Go.Operand.tmp 74) (Go.Operand.tmp 75) v74 v75) K w) (fun v76 w =>
    GuardP v65 true (fun K w => K v76 w) (fun v77 w =>
    GuardP v77 false (fun K w => K v42 w) (fun v78 w =>
    GuardP v77 false (fun K w => K v55 w) (fun v80 w =>
    GuardA v77 false S (fun K w => CallP Try.prog 41 #[v78] K w) (fun S v79 w =>
    GuardP v77 false (fun K w => YieldP Try.prog S (binS Go.BinOp.neq 3 (Go.Operand.tmp 79) (Go.Operand.tmp 80) v79 v80) K w) (fun v81 w =>
    GuardP v65 true (fun K w => PickP v77 (Go.Value.bool true) v81 K w) (fun v82 w =>
    GuardP v65 true (fun K w => K v82 w) (fun v83 w =>
    GuardP v83 false (fun K w => K v42 w) (fun v84 w =>
    GuardP v83 false (fun K w => K v57 w) (fun v86 w =>
    GuardA v83 false S (fun K w => CallP Try.prog 39 #[v84] K w) (fun S v85 w =>
    GuardP v83 false (fun K w => YieldP Try.prog S (binS Go.BinOp.neq 3 (Go.Operand.tmp 85) (Go.Operand.tmp 86) v85 v86) K w) (fun v87 w =>
    GuardP v65 true (fun K w => PickP v83 (Go.Value.bool true) v87 K w) (fun v88 w =>
    PickP v65 v88 (Go.Value.bool false) (fun v89 w =>
    GuardP v89 false (fun K w => K v63 w) (fun v91 w =>
    GuardP v89 false (fun K w => YieldP Try.prog S (binS Go.BinOp.eql 33 (Go.Operand.tmp 91) (Go.Operand.const (Go.Value.int Go.IntKind.i64 0)) v91 (Go.Value.int Go.IntKind.i64 0)) K w) (fun v92 w =>
    GuardP v89 false (fun K w => K v92 w) (fun v93 w =>
    GuardP v93 true (fun K w => K v42 w) (fun v94 w =>
    GuardP v93 true (fun K w => K v55 w) (fun v96 w =>
    GuardP v93 true (fun K w => YieldP Try.prog S (binS Go.BinOp.add 3 (Go.Operand.tmp 96) (Go.Operand.const (Go.Value.int Go.IntKind.i64 8)) v96 (Go.Value.int Go.IntKind.i64 8)) K w) (fun v97 w =>
    GuardP v93 true (fun K w => K a1 w) (fun v98 w =>
    GuardP v93 true (fun K w => K (vs.headD undef) w) (fun v99 w =>
    GuardP v93 true (fun K w => YieldP Try.prog S (Instr.indexAt 45 v98 v99) K w) (fun v100 w =>
    GuardP v93 true (fun K w => YieldP Try.prog S (Instr.loadAt 23 v100) K w) (fun v101 w =>
    GuardP v93 true (fun K w => YieldN Try.prog S (builtin Go.Builtin.len #[23] 3 #[false] #[v101]) K w) (fun v102 w =>
    GuardP v93 true (fun K w => YieldP Try.prog S (binS Go.BinOp.add 3 (Go.Operand.tmp 97) (Go.Operand.tmp 102) v97 v102) K w) (fun v103 w =>
    GuardA v93 true S (fun K w => CallP Try.prog 41 #[v94] K w) (fun S v95 w =>
    GuardP v93 true (fun K w => YieldP Try.prog S (binS Go.BinOp.neq 3 (Go.Operand.tmp 95) (Go.Operand.tmp 103) v95 v103) K w) (fun v104 w =>
    GuardP v89 false (fun K w => PickP v93 v104 (Go.Value.bool false) K w) (fun v105 w =>
    PickP v89 (Go.Value.bool true) v105 (fun v106 w =>
    GuardP v106 false (fun K w => K v42 w) (fun v108 w =>
    GuardP v106 false (fun K w => K a0 w) (fun v110 w =>
    GuardA v106 false S (fun K w => CallP Try.prog 41 #[v108] K w) (fun S v109 w =>
    GuardP v106 false (fun K w => YieldP Try.prog S (binS Go.BinOp.gtr 3 (Go.Operand.tmp 109) (Go.Operand.tmp 110) v109 v110) K w) (fun v111 w =>
    PickP v106 (Go.Value.bool true) v111 (fun v112 w =>
    CondP v112 (fun w =>
      R (Go.Value.bool false) w) (fun w =>
      LiftP Try.prog (binS Go.BinOp.neq 33 (Go.Operand.tmp 113) (Go.Operand.const (Go.Value.int Go.IntKind.i64 6)) v63 (Go.Value.int Go.IntKind.i64 6)) (fun v114 w =>
    GuardP v114 true (fun K w => K v63 w) (fun v116 w =>
    GuardP v114 true (fun K w => LiftP Try.prog (binS Go.BinOp.neq 33 (Go.Operand.tmp 116) (Go.Operand.const (Go.Value.int Go.IntKind.i64 0)) v116 (Go.Value.int Go.IntKind.i64 0)) K w) (fun v117 w =>
    PickP v114 v117 (Go.Value.bool false) (fun v118 w =>
    CondP v118 (fun w =>
      R (Go.Value.bool false) w) (fun w =>
      LiftP Try.prog (binS Go.BinOp.add 3 (Go.Operand.tmp 52) (Go.Operand.const (Go.Value.int Go.IntKind.i64 1)) (vs.headD undef) (Go.Value.int Go.IntKind.i64 1)) (fun v53 w =>
    J [v53] w) w) w) w) w) w) w) w) w) w) w) w) w) w) w) w) w) w) w) w) w) w) w) w) w) w) w) w) w) w) w) w) w) w) w) w) w) w) w) w) w) w) w) w) w) w) w) w) w) w) w) w) w) w) w) w) w) w) w) (fun w =>
      NextP Try.prog (builtin Go.Builtin.len #[45] 3 #[false] #[a1]) (fun v120 w =>
  LiftP Try.prog (binS Go.BinOp.gtr 3 (Go.Operand.tmp 120) (Go.Operand.const (Go.Value.int Go.IntKind.i64 0)) v120 (Go.Value.int Go.IntKind.i64 0)) (fun v121 w =>
  GuardP v121 true (fun K w => K v42 w) (fun v123 w =>
  GuardP v121 true (fun K w => CallP Try.prog 39 #[v123] K w) (fun v124 w =>
  GuardP v121 true (fun K w => LiftP Try.prog (binS Go.BinOp.gtr 3 (Go.Operand.tmp 124) (Go.Operand.const (Go.Value.int Go.IntKind.i64 0)) v124 (Go.Value.int Go.IntKind.i64 0)) K w) (fun v125 w =>
  PickP v121 v125 (Go.Value.bool false) (fun v126 w =>
  GuardP v126 true (fun K w => K v42 w) (fun v128 w =>
  GuardP v126 true (fun K w => K a2 w) (fun v129 w =>
  GuardP v126 true (fun K w => CallP Try.prog 42 #[v128, v129] K w) (fun v130 w =>
  GuardP v126 true (fun K w => LiftP Try.prog (binS Go.BinOp.neq 33 (Go.Operand.tmp 130) (Go.Operand.const (Go.Value.int Go.IntKind.i64 10)) v130 (Go.Value.int Go.IntKind.i64 10)) K w) (fun v131 w =>
  PickP v126 v131 (Go.Value.bool false) (fun v132 w =>
  CondP v132 (fun w =>
    R (Go.Value.bool false) w) (fun w =>
    CallP Try.prog 37 #[v42] (fun v134 w =>
  CallP Try.prog 43 #[v42] (fun v136 w =>
  LiftP Try.prog (convert 23 9 v136) (fun v137 w =>
  CallP Try.prog 42 #[v42, a2] (fun v140 w =>
  LiftP Try.prog (binS Go.BinOp.neq 33 (Go.Operand.tmp 141) (Go.Operand.const (Go.Value.int Go.IntKind.i64 0)) v140 (Go.Value.int Go.IntKind.i64 0)) (fun v142 w =>
  CondP v142 (fun w =>
    LiftP Try.prog (binS Go.BinOp.eql 33 (Go.Operand.tmp 143) (Go.Operand.const (Go.Value.int Go.IntKind.i64 6)) v140 (Go.Value.int Go.IntKind.i64 6)) (fun v144 w =>
    GuardP v144 true (fun K w => K v42 w) (fun v146 w =>
    GuardP v144 true (fun K w => CallP Try.prog 43 #[v146] K w) (fun v147 w =>
    GuardP v144 true (fun K w => LiftP Try.prog (convert 23 9 v147) K w) (fun v148 w =>
    GuardP v144 true (fun K w => K v137 w) (fun v149 w =>
    GuardP v144 true (fun K w => LiftP Try.prog (binS Go.BinOp.eql 9 (Go.Operand.tmp 148) (Go.Operand.tmp 149) v148 v149) K w) (fun v150 w =>
    PickP v144 v150 (Go.Value.bool false) (fun v151 w =>
    GuardP v151 true (fun K w => K a2 w) (fun v153 w =>
    GuardP v151 true (fun K w => NextP Try.prog (builtin Go.Builtin.len #[23] 3 #[false] #[v153]) K w) (fun v154 w =>
    GuardP v151 true (fun K w => K a0 w) (fun v155 w =>
    GuardP v151 true (fun K w => LiftP Try.prog (binS Go.BinOp.sub 3 (Go.Operand.tmp 155) (Go.Operand.const (Go.Value.int Go.IntKind.i64 8)) v155 (Go.Value.int Go.IntKind.i64 8)) K w) (fun v156 w =>
    GuardP v151 true (fun K w => LiftP Try.prog (binS Go.BinOp.gtr 3 (Go.Operand.tmp 154) (Go.Operand.tmp 156) v154 v156) K w) (fun v157 w =>
    PickP v151 v157 (Go.Value.bool false) (fun v158 w =>
    R v158 w) w) w) w) w) w) w) w) w) w) w) w) w) w) (fun w =>
    CallP Try.prog 44 #[v42, (Go.Value.int Go.IntKind.i64 4194304)] (fun v160 w =>
  LiftP Try.prog (binS Go.BinOp.neq 33 (Go.Operand.tmp 160) (Go.Operand.const (Go.Value.int Go.IntKind.i64 0)) v160 (Go.Value.int Go.IntKind.i64 0)) (fun v161 w =>
  CondP v161 (fun w =>
    R (Go.Value.bool false) w) (fun w =>
    LoopP (fun J_1 vs_1 w =>   -- [15]
    NextP Try.prog (builtin Go.Builtin.len #[45] 3 #[false] #[a1]) (fun v164 w =>
    LiftP Try.prog (binS Go.BinOp.lss 3 (Go.Operand.tmp 162) (Go.Operand.tmp 164) (vs_1.headD undef) v164) (fun v165 w =>
    CondP v165 (fun w =>
      LiftP Try.prog (Instr.indexAt 45 a1 (vs_1.headD undef)) (fun v171 w =>
    LiftP Try.prog (Instr.loadAt 23 v171) (fun v172 w =>
    CallP Try.prog 36 #[v42, v172] (fun v173 w =>
    LiftP Try.prog (binS Go.BinOp.neq 33 (Go.Operand.tmp 173) (Go.Operand.const (Go.Value.int Go.IntKind.i64 0)) v173 (Go.Value.int Go.IntKind.i64 0)) (fun v174 w =>
    CondP v174 (fun w =>
      R (Go.Value.bool false) w) (fun w =>
      LiftP Try.prog (binS Go.BinOp.add 3 (Go.Operand.tmp 166) (Go.Operand.const (Go.Value.int Go.IntKind.i64 1)) (vs_1.headD undef) (Go.Value.int Go.IntKind.i64 1)) (fun v167 w =>
    J_1 [v167] w) w) w) w) w) w) w) (fun w =>
      CallP Try.prog 39 #[v42] (fun v176 w =>
  NextP Try.prog (builtin Go.Builtin.len #[45] 3 #[false] #[a1]) (fun v178 w =>
  LiftP Try.prog (binS Go.BinOp.eql 3 (Go.Operand.tmp 176) (Go.Operand.tmp 178) v176 v178) (fun v179 w =>
  R v179 w) w) w) w) w) w) w) [(Go.Value.int Go.IntKind.i64 0)] w) w) w) w) w) w) w) w) w) w) w) w) w) w) w) w) w) w) w) w) w) w) w) w) w) [(Go.Value.int Go.IntKind.i64 0)] w) w) w) w) w) w) w) w) w) w) w) w) w) w) w) w) w) w) w) w) w) w) w) w) w) w) w
theorem S15.calls (a0 a1 a2 : Value) (R : Value → World → Prop) (w : World) (h : S15 a0 a1 a2 R w) : Calls Try.prog 15 #[a0, a1, a2] w fun e w' => ∃ v, e = .returned v ∧ R v w' :=
  calls_of_tr (n := 180) (c := bodyOf Try.f15) (.two .leaf (.two (.two .leaf (.two (.two .leaf .leaf) .leaf)) (.two (.two .leaf (.two (.two .leaf .leaf) .leaf)) (.two .leaf (.two (.two .leaf (.two (.two .leaf .leaf) .leaf)) (.two .leaf (.two (.two .leaf (.one (.loop [9] (.two (.two .leaf (.two .leaf .leaf)) (.two (.one (.two .leaf (.two .leaf (.two (.two (.draw [(true, 0), (true, 1), (true, 2), (true, 3), (true, 4), (true, 5), (true, 6), (true, 7), (true, 8), (true, 9), (true, 10), (true, 11), (true, 12), (true, 13), (true, 14), (true, 16), (false, 15), (true, 17), (true, 18), (true, 19), (true, 20), (true, 22), (false, 21), (true, 23), (true, 24), (true, 25), (true, 26), (true, 27), (true, 28), (true, 29), (true, 30), (true, 32), (true, 33), (true, 34), (true, 35), (true, 36), (true, 37), (true, 38), (true, 39), (false, 31), (true, 40), (true, 41), (true, 42), (true, 43), (true, 44), (true, 46), (false, 45), (true, 47), (true, 48)]) (.two (.two .leaf .leaf) .leaf)) (.two .leaf (.two (.two .leaf .leaf) .leaf)))))) .leaf))))) (.two (.two .leaf (.two (.two .leaf .leaf) .leaf)) (.two .leaf (.two .leaf (.two (.two .leaf (.two .leaf (.two (.two .leaf .leaf) .leaf))) (.two (.two .leaf (.two (.two .leaf .leaf) .leaf)) (.two (.two .leaf (.one (.loop [15] (.two (.two .leaf (.two .leaf .leaf)) (.two (.one (.two .leaf (.two (.two .leaf .leaf) .leaf))) .leaf))))) (.two .leaf .leaf)))))))))))))) Try.func15 (by kernel_rfl) Try.ntmps15 (by kernel_rfl) (by kernel_rfl) [a0, a1, a2] (by kernel_rfl) (of_eq_ (by kernel_rfl) h)

/-- shelfmark/shelfmarklaw07.awake -/
def S33 (R : Value → World → Prop) (w : World) : Prop :=
  CallP Try.prog 34 #[(Go.Value.int Go.IntKind.i64 100)] (fun v6 w =>
  LiftP Try.prog (Instr.extract v6 0) (fun v7 w =>
  LiftP Try.prog (Instr.extract v6 1) (fun v8 w =>
  LiftP Try.prog (binS Go.BinOp.eql 54 (Go.Operand.tmp 9) (Go.Operand.const (Go.Value.pointer none)) v7 (Go.Value.pointer none)) (fun v10 w =>
  GuardP v10 false (fun K w => K v8 w) (fun v12 w =>
  GuardP v10 false (fun K w => LiftP Try.prog (binS Go.BinOp.neq 33 (Go.Operand.tmp 12) (Go.Operand.const (Go.Value.int Go.IntKind.i64 0)) v12 (Go.Value.int Go.IntKind.i64 0)) K w) (fun v13 w =>
  PickP v10 (Go.Value.bool true) v13 (fun v14 w =>
  GuardP v14 false (fun K w => K v7 w) (fun v16 w =>
  GuardP v14 false (fun K w => CallP Try.prog 36 #[v16, (Go.Value.slice none 0 0)] K w) (fun v17 w =>
  GuardP v14 false (fun K w => LiftP Try.prog (binS Go.BinOp.neq 33 (Go.Operand.tmp 17) (Go.Operand.const (Go.Value.int Go.IntKind.i64 15)) v17 (Go.Value.int Go.IntKind.i64 15)) K w) (fun v18 w =>
  PickP v14 (Go.Value.bool true) v18 (fun v19 w =>
  CondP v19 (fun w =>
    R (Go.Value.bool false) w) (fun w =>
    CallP Try.prog 35 #[v7] (fun v21 w =>
  LiftP Try.prog (Instr.buildSlice 23 1 #[(0, (Go.Value.int Go.IntKind.u8 97))]) (fun v23 w =>
  LiftP Try.prog (convert 23 23 v23) (fun v24 w =>
  CallP Try.prog 36 #[v7, v24] (fun v25 w =>
  LiftP Try.prog (Instr.buildSlice 23 2 #[(0, (Go.Value.int Go.IntKind.u8 98)), (1, (Go.Value.int Go.IntKind.u8 99))]) (fun v27 w =>
  LiftP Try.prog (convert 23 23 v27) (fun v28 w =>
  CallP Try.prog 36 #[v7, v28] (fun v29 w =>
  CallP Try.prog 37 #[v7] (fun v31 w =>
  LiftP Try.prog (Instr.buildSlice 23 1 #[(0, (Go.Value.int Go.IntKind.u8 100))]) (fun v33 w =>
  LiftP Try.prog (convert 23 23 v33) (fun v34 w =>
  CallP Try.prog 36 #[v7, v34] (fun v35 w =>
  LiftP Try.prog (Instr.buildSlice 23 1 #[(0, (Go.Value.int Go.IntKind.u8 101))]) (fun v37 w =>
  LiftP Try.prog (convert 23 23 v37) (fun v38 w =>
  CallP Try.prog 36 #[v7, v38] (fun v39 w =>
  CallP Try.prog 38 #[v7, (Go.Value.int Go.IntKind.i64 1), (Go.Value.int Go.IntKind.i64 4)] (fun v41 w =>
  CallP Try.prog 35 #[v7] (fun v44 w =>
  LiftP Try.prog (Instr.extract v44 0) (fun v45 w =>
  LiftP Try.prog (Instr.extract v44 1) (fun v46 w =>
  LiftP Try.prog (Instr.extract v44 2) (fun v47 w =>
  LiftP Try.prog (binS Go.BinOp.eql 33 (Go.Operand.tmp 48) (Go.Operand.const (Go.Value.int Go.IntKind.i64 0)) v47 (Go.Value.int Go.IntKind.i64 0)) (fun v49 w =>
  GuardP v49 true (fun K w => K v46 w) (fun v51 w =>
  GuardP v49 true (fun K w => NextP Try.prog (builtin Go.Builtin.len #[45] 3 #[false] #[v51]) K w) (fun v52 w =>
  GuardP v49 true (fun K w => LiftP Try.prog (binS Go.BinOp.eql 3 (Go.Operand.tmp 52) (Go.Operand.const (Go.Value.int Go.IntKind.i64 3)) v52 (Go.Value.int Go.IntKind.i64 3)) K w) (fun v53 w =>
  PickP v49 v53 (Go.Value.bool false) (fun v54 w =>
  GuardP v54 true (fun K w => K v46 w) (fun v56 w =>
  GuardP v54 true (fun K w => LiftP Try.prog (Instr.indexAt 45 v56 (Go.Value.int Go.IntKind.i64 2)) K w) (fun v57 w =>
  GuardP v54 true (fun K w => LiftP Try.prog (Instr.loadAt 23 v57) K w) (fun v58 w =>
  GuardP v54 true (fun K w => LiftP Try.prog (convert 23 9 v58) K w) (fun v59 w =>
  GuardP v54 true (fun K w => LiftP Try.prog (binS Go.BinOp.eql 9 (Go.Operand.tmp 59) (Go.Operand.const (Go.Value.string { data := #[100] })) v59 (Go.Value.string { data := #[100] })) K w) (fun v60 w =>
  PickP v54 v60 (Go.Value.bool false) (fun v61 w =>
  GuardP v61 true (fun K w => K v7 w) (fun v63 w =>
  GuardP v61 true (fun K w => CallP Try.prog 41 #[v63] K w) (fun v64 w =>
  GuardP v61 true (fun K w => LiftP Try.prog (binS Go.BinOp.eql 3 (Go.Operand.tmp 64) (Go.Operand.const (Go.Value.int Go.IntKind.i64 28)) v64 (Go.Value.int Go.IntKind.i64 28)) K w) (fun v65 w =>
  PickP v61 v65 (Go.Value.bool false) (fun v66 w =>
  R v66 w) w) w) w) w) w) w) w) w) w) w) w) w) w) w) w) w) w) w) w) w) w) w) w) w) w) w) w) w) w) w) w) w) w) w) w) w) w) w) w) w) w) w) w) w) w) w
theorem S33.calls (R : Value → World → Prop) (w : World) (h : S33 R w) : Calls Try.prog 33 #[] w fun e w' => ∃ v, e = .returned v ∧ R v w' :=
  calls_of_tr (n := 67) (c := bodyOf Try.f33) (.two .leaf (.two .leaf (.two (.two .leaf (.two (.two .leaf .leaf) .leaf)) (.two .leaf (.two .leaf (.two .leaf (.two .leaf (.two .leaf (.two .leaf (.two .leaf (.two .leaf (.two .leaf .leaf)))))))))))) Try.func33 (by kernel_rfl) Try.ntmps33 (by kernel_rfl) (by kernel_rfl) [] (by kernel_rfl) (of_eq_ (by kernel_rfl) h)

/-- shelfmark/disk.New -/
def S34 (a0 : Value) (R : Value → World → Prop) (w : World) : Prop :=
  LiftP Try.prog (Instr.build 76 #[]) (fun v6 w =>
  LiftP Try.prog (Instr.box 76 v6) (fun v7 w =>
  CallP Try.prog 44 #[v7, a0] (fun v10 w =>
  LiftP Try.prog (binS Go.BinOp.neq 33 (Go.Operand.tmp 11) (Go.Operand.const (Go.Value.int Go.IntKind.i64 0)) v10 (Go.Value.int Go.IntKind.i64 0)) (fun v12 w =>
  CondP v12 (fun w =>
    R (.tuple #[(Go.Value.pointer none), v10]) w) (fun w =>
    R (.tuple #[v7, (Go.Value.int Go.IntKind.i64 0)]) w) w) w) w) w) w
theorem S34.calls (a0 : Value) (R : Value → World → Prop) (w : World) (h : S34 a0 R w) : Calls Try.prog 34 #[a0] w fun e w' => ∃ v, e = .returned v ∧ R v w' :=
  calls_of_tr (n := 15) (c := bodyOf Try.f34) (.two .leaf (.two .leaf (.two (.two .leaf (.two .leaf (.two (.two .leaf .leaf) .leaf))) (.two .leaf .leaf)))) Try.func34 (by kernel_rfl) Try.ntmps34 (by kernel_rfl) (by kernel_rfl) [a0] (by kernel_rfl) (of_eq_ (by kernel_rfl) h)

/-- (*shelfmark/disk.Disk).Start -/
def S35 (a0 : Value) (R : Value → World → Prop) (w : World) : Prop :=
  NextP Try.prog (nilChk a0) (fun v7 w =>
  LiftP Try.prog (Instr.fieldAt 76 v7 1) (fun v8 w =>
  LiftP Try.prog (Instr.loadAt 4 v8) (fun v9 w =>
  CondP v9 (fun w =>
    R (.tuple #[(Go.Value.slice none 0 0), (Go.Value.slice none 0 0), (Go.Value.int Go.IntKind.i64 8)]) w) (fun w =>
    NextP Try.prog (nilChk a0) (fun v11 w =>
  LiftP Try.prog (Instr.fieldAt 76 v11 1) (fun v12 w =>
  LiftU Try.prog (Instr.storeAt 4 v12 (Go.Value.bool true)) (fun v_ w =>
  NextP Try.prog (nilChk a0) (fun v15 w =>
  LiftP Try.prog (Instr.fieldAt 76 v15 3) (fun v16 w =>
  LiftP Try.prog (Instr.loadAt 23 v16) (fun v17 w =>
  CallP Try.prog 29 #[v17] (fun v18 w =>
  LiftP Try.prog (Instr.extract v18 0) (fun v19 w =>
  LiftP Try.prog (Instr.extract v18 1) (fun v20 w =>
  NextP Try.prog (nilChk a0) (fun v23 w =>
  LiftP Try.prog (Instr.fieldAt 76 v23 3) (fun v24 w =>
  LiftP Try.prog (Instr.loadAt 23 v24) (fun v25 w =>
  LiftP Try.prog (Instr.sliceAt 23 v25 none (some v20) (some v20)) (fun v28 w =>
  NextP Try.prog (nilChk a0) (fun v29 w =>
  LiftP Try.prog (Instr.fieldAt 76 v29 3) (fun v30 w =>
  LiftU Try.prog (Instr.storeAt 23 v30 v28) (fun v__1 w =>
  NextP Try.prog (nilChk a0) (fun v32 w =>
  LiftP Try.prog (Instr.fieldAt 76 v32 2) (fun v33 w =>
  LiftP Try.prog (Instr.loadAt 23 v33) (fun v34 w =>
  CallP Try.prog 50 #[v34] (fun v35 w =>
  CallP Try.prog 49 #[v35] (fun v36 w =>
  R (.tuple #[v36, v19, (Go.Value.int Go.IntKind.i64 0)]) w) w) w) w) w) w) w) w) w) w) w) w) w) w) w) w) w) w) w) w) w) w) w) w) w) w
theorem S35.calls (a0 : Value) (R : Value → World → Prop) (w : World) (h : S35 a0 R w) : Calls Try.prog 35 #[a0] w fun e w' => ∃ v, e = .returned v ∧ R v w' :=
  calls_of_tr (n := 38) (c := bodyOf Try.f35) (.two .leaf (.two (.two .leaf (.two (.two .leaf .leaf) .leaf)) (.two .leaf (.two .leaf (.two .leaf (.two .leaf .leaf)))))) Try.func35 (by kernel_rfl) Try.ntmps35 (by kernel_rfl) (by kernel_rfl) [a0] (by kernel_rfl) (of_eq_ (by kernel_rfl) h)

/-- (*shelfmark/disk.Disk).Append -/
def S36 (a0 a1 : Value) (R : Value → World → Prop) (w : World) : Prop :=
  NextP Try.prog (nilChk a0) (fun v8 w =>
  LiftP Try.prog (Instr.fieldAt 76 v8 1) (fun v9 w =>
  LiftP Try.prog (Instr.loadAt 4 v9) (fun v10 w =>
  LiftP Try.prog (Op.unary Go.UnOp.not v10) (fun v11 w =>
  CondP v11 (fun w =>
    R (Go.Value.int Go.IntKind.i64 15) w) (fun w =>
    CallP Try.prog 25 #[a1] (fun v14 w =>
  LiftP Try.prog (Instr.extract v14 0) (fun v15 w =>
  LiftP Try.prog (Instr.extract v14 1) (fun v16 w =>
  LiftP Try.prog (binS Go.BinOp.neq 33 (Go.Operand.tmp 18) (Go.Operand.const (Go.Value.int Go.IntKind.i64 0)) v16 (Go.Value.int Go.IntKind.i64 0)) (fun v19 w =>
  CondP v19 (fun w =>
    R v16 w) (fun w =>
    DrawP (fun S w =>
    YieldN Try.prog S (builtin Go.Builtin.len #[23] 3 #[false] #[v15]) (fun v25 w =>
    YieldN Try.prog S (nilChk a0) (fun v28 w =>
    YieldP Try.prog S (Instr.fieldAt 76 v28 0) (fun v29 w =>
    YieldP Try.prog S (Instr.loadAt 3 v29) (fun v30 w =>
    ActP S (fun K w => CallP Try.prog 41 #[a0] K w) (fun S v23 w =>
    YieldP Try.prog S (binS Go.BinOp.add 3 (Go.Operand.tmp 23) (Go.Operand.tmp 25) v23 v25) (fun v26 w =>
    YieldP Try.prog S (binS Go.BinOp.gtr 3 (Go.Operand.tmp 26) (Go.Operand.tmp 30) v26 v30) (fun v31 w =>
    CondP v31 (fun w =>
      R (Go.Value.int Go.IntKind.i64 6) w) (fun w =>
      NextP Try.prog (nilChk a0) (fun v34 w =>
  LiftP Try.prog (Instr.fieldAt 76 v34 4) (fun v35 w =>
  LiftP Try.prog (Instr.loadAt 45 v35) (fun v36 w =>
  LiftP Try.prog (Instr.buildSlice 45 1 #[(0, v15)]) (fun v38 w =>
  NextP Try.prog (builtin Go.Builtin.append #[45, 45] 45 #[false, false] #[v36, v38]) (fun v39 w =>
  NextP Try.prog (nilChk a0) (fun v40 w =>
  LiftP Try.prog (Instr.fieldAt 76 v40 4) (fun v41 w =>
  LiftU Try.prog (Instr.storeAt 45 v41 v39) (fun v_ w =>
  R (Go.Value.int Go.IntKind.i64 0) w) w) w) w) w) w) w) w) w) w) w) w) w) w) w) w) w) w) w) w) w) w) w) w) w) w) w) w
theorem S36.calls (a0 a1 : Value) (R : Value → World → Prop) (w : World) (h : S36 a0 a1 R w) : Calls Try.prog 36 #[a0, a1] w fun e w' => ∃ v, e = .returned v ∧ R v w' :=
  calls_of_tr (n := 42) (c := bodyOf Try.f36) (.two .leaf (.two (.two .leaf (.two (.two .leaf .leaf) .leaf)) (.two .leaf (.two (.one (.two .leaf (.two (.two .leaf .leaf) (.two (.draw [(true, 0), (true, 2), (true, 3), (true, 5), (true, 6), (true, 7), (true, 8), (false, 1), (true, 4), (true, 9), (true, 10)]) (.two (.two .leaf .leaf) .leaf))))) (.two .leaf (.two .leaf .leaf)))))) Try.func36 (by kernel_rfl) Try.ntmps36 (by kernel_rfl) (by kernel_rfl) [a0, a1] (by kernel_rfl) (of_eq_ (by kernel_rfl) h)

/-- (*shelfmark/disk.Disk).Sync -/
def S37 (a0 : Value) (R : Value → World → Prop) (w : World) : Prop :=
  NextP Try.prog (nilChk a0) (fun v4 w =>
  LiftP Try.prog (Instr.fieldAt 76 v4 1) (fun v5 w =>
  LiftP Try.prog (Instr.loadAt 4 v5) (fun v6 w =>
  LiftP Try.prog (Op.unary Go.UnOp.not v6) (fun v7 w =>
  CondP v7 (fun w =>
    R (Go.Value.int Go.IntKind.i64 15) w) (fun w =>
    DrawP (fun S w =>
  YieldN Try.prog S (nilChk a0) (fun v10 w =>
  YieldP Try.prog S (Instr.fieldAt 76 v10 3) (fun v11 w =>
  YieldP Try.prog S (Instr.loadAt 23 v11) (fun v12 w =>
  YieldN Try.prog S (nilChk a0) (fun v14 w =>
  YieldP Try.prog S (Instr.fieldAt 76 v14 4) (fun v15 w =>
  YieldP Try.prog S (Instr.loadAt 45 v15) (fun v16 w =>
  ActP S (fun K w => CallP Try.prog 46 #[v16] K w) (fun S v17 w =>
  ActP S (fun K w => NextP Try.prog (builtin Go.Builtin.append #[23, 23] 23 #[false, false] #[v12, v17]) K w) (fun S v18 w =>
  YieldN Try.prog S (nilChk a0) (fun v19 w =>
  YieldP Try.prog S (Instr.fieldAt 76 v19 3) (fun v20 w =>
  LiftU Try.prog (Instr.storeAt 23 v20 v18) (fun v_ w =>
  NextP Try.prog (nilChk a0) (fun v22 w =>
  LiftP Try.prog (Instr.fieldAt 76 v22 4) (fun v23 w =>
  LiftU Try.prog (Instr.storeAt 45 v23 (Go.Value.slice none 0 0)) (fun v__1 w =>
  R (Go.Value.int Go.IntKind.i64 0) w) w) w) w) w) w) w) w) w) w) w) w) w) w) w) w) w) w) w) w) w
theorem S37.calls (a0 : Value) (R : Value → World → Prop) (w : World) (h : S37 a0 R w) : Calls Try.prog 37 #[a0] w fun e w' => ∃ v, e = .returned v ∧ R v w' :=
  calls_of_tr (n := 24) (c := bodyOf Try.f37) (.two .leaf (.two (.two .leaf (.two (.two .leaf .leaf) .leaf)) (.two (.drawL [(true, 0), (true, 1), (true, 2), (true, 3), (true, 4), (true, 5), (true, 6), (true, 7), (true, 8), (false, 9), (false, 10), (true, 11), (true, 12)] 13) (.two .leaf (.two .leaf .leaf))))) Try.func37 (by kernel_rfl) Try.ntmps37 (by kernel_rfl) (by kernel_rfl) [a0] (by kernel_rfl) (of_eq_ (by kernel_rfl) h)

/-- (*shelfmark/disk.Disk).Crash -/
def S38 (a0 a1 a2 : Value) (R : Value → World → Prop) (w : World) : Prop :=
  NextP Try.prog (nilChk a0) (fun v10 w =>
  LiftP Try.prog (Instr.fieldAt 76 v10 1) (fun v11 w =>
  LiftP Try.prog (Instr.loadAt 4 v11) (fun v12 w =>
  LiftP Try.prog (Op.unary Go.UnOp.not v12) (fun v13 w =>
  CondP v13 (fun w =>
    R (.tuple #[]) w) (fun w =>
    NextP Try.prog (builtin Go.Builtin.max #[3, 3] 3 #[false, true] #[a1, (Go.Value.int Go.IntKind.i64 0)]) (fun v15 w =>
  NextP Try.prog (nilChk a0) (fun v17 w =>
  LiftP Try.prog (Instr.fieldAt 76 v17 4) (fun v18 w =>
  LiftP Try.prog (Instr.loadAt 45 v18) (fun v19 w =>
  NextP Try.prog (builtin Go.Builtin.len #[45] 3 #[false] #[v19]) (fun v20 w =>
  NextP Try.prog (builtin Go.Builtin.min #[3, 3] 3 #[false, false] #[v15, v20]) (fun v21 w =>
  NextP Try.prog (nilChk a0) (fun v23 w =>
  LiftP Try.prog (Instr.fieldAt 76 v23 4) (fun v24 w =>
  LiftP Try.prog (Instr.loadAt 45 v24) (fun v25 w =>
  LiftP Try.prog (Instr.sliceAt 45 v25 none (some v21) none) (fun v27 w =>
  NextP Try.prog (builtin Go.Builtin.len #[45] 3 #[false] #[v27]) (fun v28 w =>
  LoopP (fun J vs w =>   -- [29]
    LiftP Try.prog (binS Go.BinOp.lss 3 (Go.Operand.tmp 29) (Go.Operand.tmp 28) (vs.headD undef) v28) (fun v30 w =>
    CondP v30 (fun w =>
      LiftP Try.prog (Instr.indexAt 45 v27 (vs.headD undef)) (fun v31 w =>
    LiftP Try.prog (Instr.loadAt 23 v31) (fun v32 w =>
    NextP Try.prog (nilChk a0) (fun v35 w =>
    LiftP Try.prog (Instr.fieldAt 76 v35 3) (fun v36 w =>
    LiftP Try.prog (Instr.loadAt 23 v36) (fun v37 w =>
    NextP Try.prog (builtin Go.Builtin.append #[23, 23] 23 #[false, false] #[v37, v32]) (fun v39 w =>
    NextP Try.prog (nilChk a0) (fun v40 w =>
    LiftP Try.prog (Instr.fieldAt 76 v40 3) (fun v41 w =>
    LiftU Try.prog (Instr.storeAt 23 v41 v39) (fun v_ w =>
    LiftP Try.prog (binS Go.BinOp.add 3 (Go.Operand.tmp 29) (Go.Operand.const (Go.Value.int Go.IntKind.i64 1)) (vs.headD undef) (Go.Value.int Go.IntKind.i64 1)) (fun v42 w =>
    J [v42] w) w) w) w) w) w) w) w) w) w) w) (fun w =>
      JoinP (fun J_1 w =>
    NextP Try.prog (nilChk a0) (fun v45 w =>
    LiftP Try.prog (Instr.fieldAt 76 v45 4) (fun v46 w =>
    LiftP Try.prog (Instr.loadAt 45 v46) (fun v47 w =>
    NextP Try.prog (builtin Go.Builtin.len #[45] 3 #[false] #[v47]) (fun v48 w =>
    LiftP Try.prog (binS Go.BinOp.lss 3 (Go.Operand.tmp 43) (Go.Operand.tmp 48) v21 v48) (fun v49 w =>
    CondP v49 (fun w =>
      NextP Try.prog (nilChk a0) (fun v51 w =>
      LiftP Try.prog (Instr.fieldAt 76 v51 4) (fun v52 w =>
      LiftP Try.prog (Instr.loadAt 45 v52) (fun v53 w =>
      LiftP Try.prog (Instr.indexAt 45 v53 v21) (fun v55 w =>
      LiftP Try.prog (Instr.loadAt 23 v55) (fun v56 w =>
      DrawP (fun S w =>
      YieldN Try.prog S (nilChk a0) (fun v59 w =>
      YieldP Try.prog S (Instr.fieldAt 76 v59 3) (fun v60 w =>
      YieldP Try.prog S (Instr.loadAt 23 v60) (fun v61 w =>
      YieldN Try.prog S (builtin Go.Builtin.max #[3, 3] 3 #[false, true] #[a2, (Go.Value.int Go.IntKind.i64 0)]) (fun v64 w =>
      YieldN Try.prog S (builtin Go.Builtin.len #[23] 3 #[false] #[v56]) (fun v66 w =>
      YieldP Try.prog S (binS Go.BinOp.sub 3 (Go.Operand.tmp 66) (Go.Operand.const (Go.Value.int Go.IntKind.i64 1)) v66 (Go.Value.int Go.IntKind.i64 1)) (fun v67 w =>
      YieldN Try.prog S (builtin Go.Builtin.min #[3, 3] 3 #[false, false] #[v64, v67]) (fun v68 w =>
      YieldP Try.prog S (Instr.sliceAt 23 v56 none (some v68) none) (fun v69 w =>
      ActP S (fun K w => NextP Try.prog (builtin Go.Builtin.append #[23, 23] 23 #[false, false] #[v61, v69]) K w) (fun S v70 w =>
      YieldN Try.prog S (nilChk a0) (fun v71 w =>
      YieldP Try.prog S (Instr.fieldAt 76 v71 3) (fun v72 w =>
      LiftU Try.prog (Instr.storeAt 23 v72 v70) (fun v__1 w =>
      J_1 [] w) w) w) w) w) w) w) w) w) w) w) w) w) w) w) w) w) w) w) (fun w =>
      J_1 [] w) w) w) w) w) w) w) (fun vs_1 w =>   -- []
  NextP Try.prog (nilChk a0) (fun v75 w =>
  LiftP Try.prog (Instr.fieldAt 76 v75 1) (fun v76 w =>
  LiftU Try.prog (Instr.storeAt 4 v76 (Go.Value.bool false)) (fun v__2 w =>
  NextP Try.prog (nilChk a0) (fun v77 w =>
  LiftP Try.prog (Instr.fieldAt 76 v77 4) (fun v78 w =>
  LiftU Try.prog (Instr.storeAt 45 v78 (Go.Value.slice none 0 0)) (fun v__3 w =>
  R (.tuple #[]) w) w) w) w) w) w) w) w) w) w) [(Go.Value.int Go.IntKind.i64 0)] w) w) w) w) w) w) w) w) w) w) w) w) w) w) w) w) w
theorem S38.calls (a0 a1 a2 : Value) (R : Value → World → Prop) (w : World) (h : S38 a0 a1 a2 R w) : Calls Try.prog 38 #[a0, a1, a2] w fun e w' => ∃ v, e = .returned v ∧ R v w' :=
  calls_of_tr (n := 79) (c := bodyOf Try.f38) (.two (.two .leaf (.two .leaf .leaf)) (.two .leaf (.two (.two .leaf (.one (.loop [29] (.two .leaf (.two (.two .leaf .leaf) (.two (.one (.two .leaf .leaf)) .leaf)))))) (.join [] (.two .leaf (.two (.two .leaf (.drawL [(true, 0), (true, 1), (true, 2), (true, 3), (true, 4), (true, 5), (true, 6), (true, 7), (true, 8), (true, 9), (true, 10), (true, 11), (true, 12), (false, 13), (true, 14), (true, 15)] 16)) .leaf)) .leaf)))) Try.func38 (by kernel_rfl) Try.ntmps38 (by kernel_rfl) (by kernel_rfl) [a0, a1, a2] (by kernel_rfl) (of_eq_ (by kernel_rfl) h)

/-- (*shelfmark/disk.Disk).Waiting -/
def S39 (a0 : Value) (R : Value → World → Prop) (w : World) : Prop :=
  NextP Try.prog (nilChk a0) (fun v4 w =>
  LiftP Try.prog (Instr.fieldAt 76 v4 4) (fun v5 w =>
  LiftP Try.prog (Instr.loadAt 45 v5) (fun v6 w =>
  NextP Try.prog (builtin Go.Builtin.len #[45] 3 #[false] #[v6]) (fun v7 w =>
  R v7 w) w) w) w) w
theorem S39.calls (a0 : Value) (R : Value → World → Prop) (w : World) (h : S39 a0 R w) : Calls Try.prog 39 #[a0] w fun e w' => ∃ v, e = .returned v ∧ R v w' :=
  calls_of_tr (n := 8) (c := bodyOf Try.f39) (.two .leaf (.two .leaf .leaf)) Try.func39 (by kernel_rfl) Try.ntmps39 (by kernel_rfl) (by kernel_rfl) [a0] (by kernel_rfl) (of_eq_ (by kernel_rfl) h)

/-- (*shelfmark/disk.Disk).Flip -/
def S40 (a0 a1 a2 : Value) (R : Value → World → Prop) (w : World) : Prop :=
  LiftP Try.prog (binS Go.BinOp.lss 3 (Go.Operand.tmp 9) (Go.Operand.const (Go.Value.int Go.IntKind.i64 0)) a1 (Go.Value.int Go.IntKind.i64 0)) (fun v10 w =>
  CondP v10 (fun w =>
    R (Go.Value.bool false) w) (fun w =>
    DrawP (fun S w =>
  YieldN Try.prog S (nilChk a0) (fun v12 w =>
  YieldP Try.prog S (Instr.fieldAt 76 v12 3) (fun v13 w =>
  YieldP Try.prog S (Instr.loadAt 23 v13) (fun v14 w =>
  YieldN Try.prog S (nilChk a0) (fun v17 w =>
  YieldP Try.prog S (Instr.fieldAt 76 v17 4) (fun v18 w =>
  YieldP Try.prog S (Instr.loadAt 45 v18) (fun v19 w =>
  ActP S (fun K w => LiftP Try.prog (Instr.buildSlice 45 1 #[(0, v14)]) K w) (fun S v15 w =>
  ActP S (fun K w => NextP Try.prog (builtin Go.Builtin.append #[45, 45] 45 #[false, false] #[v15, v19]) K w) (fun S v20 w =>
  YieldN Try.prog S (builtin Go.Builtin.len #[45] 3 #[false] #[v20]) (fun v21 w =>
  LoopP (fun J vs w =>   -- [1, 22]
    LiftP Try.prog (binS Go.BinOp.lss 3 (Go.Operand.tmp 22) (Go.Operand.tmp 21) (vs.tail.headD undef) v21) (fun v23 w =>
    CondP v23 (fun w =>
      LiftP Try.prog (Instr.indexAt 45 v20 (vs.tail.headD undef)) (fun v24 w =>
    LiftP Try.prog (Instr.loadAt 23 v24) (fun v25 w =>
    NextP Try.prog (builtin Go.Builtin.len #[23] 3 #[false] #[v25]) (fun v28 w =>
    LiftP Try.prog (binS Go.BinOp.lss 3 (Go.Operand.tmp 26) (Go.Operand.tmp 28) (vs.headD undef) v28) (fun v29 w =>
    CondP v29 (fun w =>
      LiftP Try.prog (Instr.indexAt 23 v25 (vs.headD undef)) (fun v32 w =>
      LiftP Try.prog (Instr.loadAt 5 v32) (fun v33 w =>
      LiftP Try.prog (binS Go.BinOp.xor 5 (Go.Operand.tmp 33) (Go.Operand.tmp 34) v33 a2) (fun v35 w =>
      LiftP Try.prog (Instr.indexAt 23 v25 (vs.headD undef)) (fun v36 w =>
      LiftU Try.prog (Instr.storeAt 5 v36 v35) (fun v_ w =>
      R (Go.Value.bool true) w) w) w) w) w) w) (fun w =>
      NextP Try.prog (builtin Go.Builtin.len #[23] 3 #[false] #[v25]) (fun v39 w =>
    LiftP Try.prog (binS Go.BinOp.sub 3 (Go.Operand.tmp 37) (Go.Operand.tmp 39) (vs.headD undef) v39) (fun v40 w =>
    LiftP Try.prog (binS Go.BinOp.add 3 (Go.Operand.tmp 22) (Go.Operand.const (Go.Value.int Go.IntKind.i64 1)) (vs.tail.headD undef) (Go.Value.int Go.IntKind.i64 1)) (fun v41 w =>
    J [v40, v41] w) w) w) w) w) w) w) w) w) (fun w =>
      R (Go.Value.bool false) w) w) w) [a1, (Go.Value.int Go.IntKind.i64 0)] w) w) w) w) w) w) w) w) w) w) w) w) w
theorem S40.calls (a0 a1 a2 : Value) (R : Value → World → Prop) (w : World) (h : S40 a0 a1 a2 R w) : Calls Try.prog 40 #[a0, a1, a2] w fun e w' => ∃ v, e = .returned v ∧ R v w' :=
  calls_of_tr (n := 42) (c := bodyOf Try.f40) (.two .leaf (.two (.two .leaf (.two (.two .leaf .leaf) .leaf)) (.two (.two (.draw [(true, 0), (true, 1), (true, 2), (true, 3), (true, 5), (true, 6), (true, 7), (true, 8), (true, 11), (false, 4), (false, 9), (true, 10)]) (.one (.loop [1, 22] (.two .leaf (.two (.two .leaf .leaf) (.two (.one (.two .leaf (.two (.two .leaf (.two (.two .leaf (.two .leaf .leaf)) .leaf)) .leaf))) .leaf)))))) (.two .leaf .leaf)))) Try.func40 (by kernel_rfl) Try.ntmps40 (by kernel_rfl) (by kernel_rfl) [a0, a1, a2] (by kernel_rfl) (of_eq_ (by kernel_rfl) h)

/-- (*shelfmark/disk.Disk).Used -/
def S41 (a0 : Value) (R : Value → World → Prop) (w : World) : Prop :=
  DrawP (fun S w =>
  YieldN Try.prog S (nilChk a0) (fun v7 w =>
  YieldP Try.prog S (Instr.fieldAt 76 v7 2) (fun v8 w =>
  YieldP Try.prog S (Instr.loadAt 23 v8) (fun v9 w =>
  YieldN Try.prog S (nilChk a0) (fun v12 w =>
  YieldP Try.prog S (Instr.fieldAt 76 v12 3) (fun v13 w =>
  YieldP Try.prog S (Instr.loadAt 23 v13) (fun v14 w =>
  YieldN Try.prog S (builtin Go.Builtin.len #[23] 3 #[false] #[v14]) (fun v15 w =>
  ActP S (fun K w => CallP Try.prog 51 #[v9] K w) (fun S v10 w =>
  YieldP Try.prog S (binS Go.BinOp.add 3 (Go.Operand.tmp 10) (Go.Operand.tmp 15) v10 v15) (fun v16 w =>
  NextP Try.prog (nilChk a0) (fun v18 w =>
  LiftP Try.prog (Instr.fieldAt 76 v18 4) (fun v19 w =>
  LiftP Try.prog (Instr.loadAt 45 v19) (fun v20 w =>
  NextP Try.prog (builtin Go.Builtin.len #[45] 3 #[false] #[v20]) (fun v21 w =>
  LoopP (fun J vs w =>   -- [3, 22]
    LiftP Try.prog (binS Go.BinOp.lss 3 (Go.Operand.tmp 22) (Go.Operand.tmp 21) (vs.tail.headD undef) v21) (fun v23 w =>
    CondP v23 (fun w =>
      LiftP Try.prog (Instr.indexAt 45 v20 (vs.tail.headD undef)) (fun v24 w =>
    LiftP Try.prog (Instr.loadAt 23 v24) (fun v25 w =>
    NextP Try.prog (builtin Go.Builtin.len #[23] 3 #[false] #[v25]) (fun v28 w =>
    LiftP Try.prog (binS Go.BinOp.add 3 (Go.Operand.tmp 26) (Go.Operand.tmp 28) (vs.headD undef) v28) (fun v29 w =>
    LiftP Try.prog (binS Go.BinOp.add 3 (Go.Operand.tmp 22) (Go.Operand.const (Go.Value.int Go.IntKind.i64 1)) (vs.tail.headD undef) (Go.Value.int Go.IntKind.i64 1)) (fun v30 w =>
    J [v29, v30] w) w) w) w) w) w) (fun w =>
      R (vs.headD undef) w) w) w) [v16, (Go.Value.int Go.IntKind.i64 0)] w) w) w) w) w) w) w) w) w) w) w) w) w) w) w
theorem S41.calls (a0 : Value) (R : Value → World → Prop) (w : World) (h : S41 a0 R w) : Calls Try.prog 41 #[a0] w fun e w' => ∃ v, e = .returned v ∧ R v w' :=
  calls_of_tr (n := 32) (c := bodyOf Try.f41) (.two .leaf (.two (.draw [(true, 0), (true, 1), (true, 2), (true, 3), (true, 5), (true, 6), (true, 7), (true, 8), (true, 9), (false, 4), (true, 10), (true, 11)]) (.two (.two .leaf (.one (.loop [3, 22] (.two .leaf (.two (.two .leaf .leaf) (.two (.one (.two .leaf .leaf)) .leaf)))))) (.two .leaf .leaf)))) Try.func41 (by kernel_rfl) Try.ntmps41 (by kernel_rfl) (by kernel_rfl) [a0] (by kernel_rfl) (of_eq_ (by kernel_rfl) h)

/-- (*shelfmark/disk.Disk).Checkpoint -/
def S42 (a0 a1 : Value) (R : Value → World → Prop) (w : World) : Prop :=
  NextP Try.prog (nilChk a0) (fun v7 w =>
  LiftP Try.prog (Instr.fieldAt 76 v7 1) (fun v8 w =>
  LiftP Try.prog (Instr.loadAt 4 v8) (fun v9 w =>
  LiftP Try.prog (Op.unary Go.UnOp.not v9) (fun v10 w =>
  CondP v10 (fun w =>
    R (Go.Value.int Go.IntKind.i64 15) w) (fun w =>
    NextP Try.prog (nilChk a0) (fun v13 w =>
    LiftP Try.prog (Instr.fieldAt 76 v13 4) (fun v14 w =>
    LiftP Try.prog (Instr.loadAt 45 v14) (fun v15 w =>
    NextP Try.prog (builtin Go.Builtin.len #[45] 3 #[false] #[v15]) (fun v16 w =>
    LiftP Try.prog (binS Go.BinOp.gtr 3 (Go.Operand.tmp 16) (Go.Operand.const (Go.Value.int Go.IntKind.i64 0)) v16 (Go.Value.int Go.IntKind.i64 0)) (fun v17 w =>
    CondP v17 (fun w =>
      R (Go.Value.int Go.IntKind.i64 10) w) (fun w =>
      DrawP (fun S w =>
      YieldN Try.prog S (nilChk a0) (fun v22 w =>
      YieldP Try.prog S (Instr.fieldAt 76 v22 0) (fun v23 w =>
      YieldP Try.prog S (Instr.loadAt 3 v23) (fun v24 w =>
      ActP S (fun K w => CallP Try.prog 51 #[a1] K w) (fun S v20 w =>
      YieldP Try.prog S (binS Go.BinOp.gtr 3 (Go.Operand.tmp 20) (Go.Operand.tmp 24) v20 v24) (fun v25 w =>
      CondP v25 (fun w =>
        R (Go.Value.int Go.IntKind.i64 6) w) (fun w =>
        CallP Try.prog 50 #[a1] (fun v29 w =>
  NextP Try.prog (nilChk a0) (fun v30 w =>
  LiftP Try.prog (Instr.fieldAt 76 v30 2) (fun v31 w =>
  LiftU Try.prog (Instr.storeAt 23 v31 v29) (fun v_ w =>
  NextP Try.prog (nilChk a0) (fun v32 w =>
  LiftP Try.prog (Instr.fieldAt 76 v32 3) (fun v33 w =>
  LiftU Try.prog (Instr.storeAt 23 v33 (Go.Value.slice none 0 0)) (fun v__1 w =>
  R (Go.Value.int Go.IntKind.i64 0) w) w) w) w) w) w) w) w) w) w) w) w) w) w) w) w) w) w) w) w) w) w) w) w) w) w
theorem S42.calls (a0 a1 : Value) (R : Value → World → Prop) (w : World) (h : S42 a0 a1 R w) : Calls Try.prog 42 #[a0, a1] w fun e w' => ∃ v, e = .returned v ∧ R v w' :=
  calls_of_tr (n := 34) (c := bodyOf Try.f42) (.two .leaf (.two (.one (.two .leaf (.two (.two .leaf .leaf) (.two .leaf (.two (.two .leaf .leaf) (.two (.draw [(true, 0), (true, 2), (true, 3), (true, 4), (true, 5), (false, 1), (true, 6), (true, 7)]) (.two (.two .leaf .leaf) .leaf))))))) (.two .leaf (.two .leaf .leaf)))) Try.func42 (by kernel_rfl) Try.ntmps42 (by kernel_rfl) (by kernel_rfl) [a0, a1] (by kernel_rfl) (of_eq_ (by kernel_rfl) h)

/-- (*shelfmark/disk.Disk).Log -/
def S43 (a0 : Value) (R : Value → World → Prop) (w : World) : Prop :=
  DrawP (fun S w =>
  YieldN Try.prog S (nilChk a0) (fun v4 w =>
  YieldP Try.prog S (Instr.fieldAt 76 v4 3) (fun v5 w =>
  YieldP Try.prog S (Instr.loadAt 23 v5) (fun v6 w =>
  YieldN Try.prog S (nilChk a0) (fun v9 w =>
  YieldP Try.prog S (Instr.fieldAt 76 v9 4) (fun v10 w =>
  YieldP Try.prog S (Instr.loadAt 45 v10) (fun v11 w =>
  ActP S (fun K w => LiftP Try.prog (Instr.buildSlice 45 1 #[(0, v6)]) K w) (fun S v7 w =>
  ActP S (fun K w => NextP Try.prog (builtin Go.Builtin.append #[45, 45] 45 #[false, false] #[v7, v11]) K w) (fun S v12 w =>
  ActP S (fun K w => CallP Try.prog 46 #[v12] K w) (fun S v13 w =>
  R v13 w) w) w) w) w) w) w) w) w) w) w
theorem S43.calls (a0 : Value) (R : Value → World → Prop) (w : World) (h : S43 a0 R w) : Calls Try.prog 43 #[a0] w fun e w' => ∃ v, e = .returned v ∧ R v w' :=
  calls_of_tr (n := 14) (c := bodyOf Try.f43) (.two .leaf (.two (.draw [(true, 0), (true, 1), (true, 2), (true, 3), (true, 5), (true, 6), (true, 7), (true, 8), (false, 4), (false, 9), (false, 10), (true, 11)]) .leaf)) Try.func43 (by kernel_rfl) Try.ntmps43 (by kernel_rfl) (by kernel_rfl) [a0] (by kernel_rfl) (of_eq_ (by kernel_rfl) h)

/-- (*shelfmark/disk.Disk).Resize -/
def S44 (a0 a1 : Value) (R : Value → World → Prop) (w : World) : Prop :=
  LiftP Try.prog (binS Go.BinOp.lss 3 (Go.Operand.tmp 6) (Go.Operand.const (Go.Value.int Go.IntKind.i64 0)) a1 (Go.Value.int Go.IntKind.i64 0)) (fun v7 w =>
  GuardP v7 false (fun K w => K a1 w) (fun v9 w =>
  GuardP v7 false (fun K w => LiftP Try.prog (binS Go.BinOp.gtr 3 (Go.Operand.tmp 9) (Go.Operand.const (Go.Value.int Go.IntKind.i64 4194304)) v9 (Go.Value.int Go.IntKind.i64 4194304)) K w) (fun v10 w =>
  PickP v7 (Go.Value.bool true) v10 (fun v11 w =>
  CondP v11 (fun w =>
    R (Go.Value.int Go.IntKind.i64 1) w) (fun w =>
    CallP Try.prog 41 #[a0] (fun v14 w =>
    LiftP Try.prog (binS Go.BinOp.gtr 3 (Go.Operand.tmp 14) (Go.Operand.tmp 15) v14 a1) (fun v16 w =>
    CondP v16 (fun w =>
      R (Go.Value.int Go.IntKind.i64 6) w) (fun w =>
      NextP Try.prog (nilChk a0) (fun v19 w =>
  LiftP Try.prog (Instr.fieldAt 76 v19 0) (fun v20 w =>
  LiftU Try.prog (Instr.storeAt 3 v20 a1) (fun v_ w =>
  R (Go.Value.int Go.IntKind.i64 0) w) w) w) w) w) w) w) w) w) w) w) w
theorem S44.calls (a0 a1 : Value) (R : Value → World → Prop) (w : World) (h : S44 a0 a1 R w) : Calls Try.prog 44 #[a0, a1] w fun e w' => ∃ v, e = .returned v ∧ R v w' :=
  calls_of_tr (n := 21) (c := bodyOf Try.f44) (.two .leaf (.two (.one (.two .leaf (.two (.two .leaf .leaf) (.two .leaf (.two (.two .leaf .leaf) .leaf))))) (.two .leaf (.two .leaf .leaf)))) Try.func44 (by kernel_rfl) Try.ntmps44 (by kernel_rfl) (by kernel_rfl) [a0, a1] (by kernel_rfl) (of_eq_ (by kernel_rfl) h)

/-- shelfmark/disk.cost -/
def S51 (a0 : Value) (R : Value → World → Prop) (w : World) : Prop :=
  NextP Try.prog (builtin Go.Builtin.len #[23] 3 #[false] #[a0]) (fun v4 w =>
  LiftP Try.prog (binS Go.BinOp.eql 3 (Go.Operand.tmp 4) (Go.Operand.const (Go.Value.int Go.IntKind.i64 0)) v4 (Go.Value.int Go.IntKind.i64 0)) (fun v5 w =>
  CondP v5 (fun w =>
    R (Go.Value.int Go.IntKind.i64 0) w) (fun w =>
    NextP Try.prog (builtin Go.Builtin.len #[23] 3 #[false] #[a0]) (fun v7 w =>
  LiftP Try.prog (binS Go.BinOp.add 3 (Go.Operand.tmp 7) (Go.Operand.const (Go.Value.int Go.IntKind.i64 8)) v7 (Go.Value.int Go.IntKind.i64 8)) (fun v8 w =>
  R v8 w) w) w) w) w) w
theorem S51.calls (a0 : Value) (R : Value → World → Prop) (w : World) (h : S51 a0 R w) : Calls Try.prog 51 #[a0] w fun e w' => ∃ v, e = .returned v ∧ R v w' :=
  calls_of_tr (n := 9) (c := bodyOf Try.f51) (.two .leaf (.two (.two .leaf (.two (.two .leaf .leaf) .leaf)) (.two .leaf .leaf))) Try.func51 (by kernel_rfl) Try.ntmps51 (by kernel_rfl) (by kernel_rfl) [a0] (by kernel_rfl) (of_eq_ (by kernel_rfl) h)

end Go.Proofs.Ytgaamfdhjpkicaa.E
