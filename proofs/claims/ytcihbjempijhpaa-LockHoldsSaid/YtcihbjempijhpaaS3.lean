import Derived.Test.YtcihbjempijhpaaM1
import Derived.Test.YtcihbjempijhpaaProg
import Derived.KernelRfl
namespace Go.Proofs.Ytcihbjempijhpaa.E
open Go
set_option maxRecDepth 100000

/-- shelfmark/shelfmarklaw16.LockHolds -/
def S7 (a0 a1 a2 a3 a4 : Value) (R : Value → World → Prop) (w : World) : Prop :=
  LiftP Try.prog (Instr.box 23 a2) (fun v7 w =>
  CallP Try.prog 25 #[] (fun v14 w =>
  LiftP Try.prog (Op.unary Go.UnOp.not v14) (fun v15 w =>
  CondP v15 (fun w =>
    R (Go.Value.bool false) w) (fun w =>
    CallP Try.prog 26 #[a4] (fun v17 w =>
  LiftP Try.prog (Op.unary Go.UnOp.not v17) (fun v18 w =>
  GuardP v18 false (fun K w => LiftP Try.prog (Instr.loadAt 23 v7) K w) (fun v20 w =>
  GuardP v18 false (fun K w => LiftP Try.prog (Instr.buildSlice 26 1 #[(0, v20)]) K w) (fun v21 w =>
  GuardP v18 false (fun K w => CallP Try.prog 11 #[v21, (Go.Value.int Go.IntKind.i64 1)] K w) (fun v22 w =>
  GuardP v18 false (fun K w => LiftP Try.prog (Op.unary Go.UnOp.not v22) K w) (fun v23 w =>
  PickP v18 (Go.Value.bool true) v23 (fun v24 w =>
  GuardP v24 false (fun K w => K a3 w) (fun v26 w =>
  GuardP v24 false (fun K w => NextP Try.prog (builtin Go.Builtin.len #[9] 3 #[false] #[v26]) K w) (fun v27 w =>
  GuardP v24 false (fun K w => LiftP Try.prog (binS Go.BinOp.gtr 3 (Go.Operand.tmp 27) (Go.Operand.const (Go.Value.int Go.IntKind.i64 200)) v27 (Go.Value.int Go.IntKind.i64 200)) K w) (fun v28 w =>
  PickP v24 (Go.Value.bool true) v28 (fun v29 w =>
  GuardP v29 false (fun K w => K a0 w) (fun v31 w =>
  GuardP v29 false (fun K w => LiftP Try.prog (binS Go.BinOp.lss 3 (Go.Operand.tmp 31) (Go.Operand.const (Go.Value.int Go.IntKind.i64 1)) v31 (Go.Value.int Go.IntKind.i64 1)) K w) (fun v32 w =>
  PickP v29 (Go.Value.bool true) v32 (fun v33 w =>
  GuardP v33 false (fun K w => K a0 w) (fun v35 w =>
  GuardP v33 false (fun K w => LiftP Try.prog (binS Go.BinOp.gtr 3 (Go.Operand.tmp 35) (Go.Operand.const (Go.Value.int Go.IntKind.i64 50)) v35 (Go.Value.int Go.IntKind.i64 50)) K w) (fun v36 w =>
  PickP v33 (Go.Value.bool true) v36 (fun v37 w =>
  GuardP v37 false (fun K w => K a1 w) (fun v39 w =>
  GuardP v37 false (fun K w => LiftP Try.prog (binS Go.BinOp.lss 3 (Go.Operand.tmp 39) (Go.Operand.const (Go.Value.int Go.IntKind.i64 1)) v39 (Go.Value.int Go.IntKind.i64 1)) K w) (fun v40 w =>
  PickP v37 (Go.Value.bool true) v40 (fun v41 w =>
  GuardP v41 false (fun K w => LiftP Try.prog (Instr.loadAt 23 v7) K w) (fun v43 w =>
  GuardP v41 false (fun K w => CallP Try.prog 15 #[v43] K w) (fun v44 w =>
  PickP v41 (Go.Value.bool true) v44 (fun v45 w =>
  CondP v45 (fun w =>
    R (Go.Value.bool true) w) (fun w =>
    CallP Try.prog 27 #[a0] (fun v47 w =>
  LiftP Try.prog (binS Go.BinOp.eql 41 (Go.Operand.tmp 48) (Go.Operand.const (Go.Value.pointer none)) v47 (Go.Value.pointer none)) (fun v49 w =>
  GuardP v49 false (fun K w => K v47 w) (fun v51 w =>
  GuardP v49 false (fun K w => K a1 w) (fun v52 w =>
  GuardP v49 false (fun K w => LiftP Try.prog (Instr.loadAt 23 v7) K w) (fun v53 w =>
  GuardP v49 false (fun K w => CallP Try.prog 28 #[v51, v52, v53] K w) (fun v54 w =>
  GuardP v49 false (fun K w => LiftP Try.prog (binS Go.BinOp.neq 43 (Go.Operand.tmp 54) (Go.Operand.const (Go.Value.int Go.IntKind.i64 0)) v54 (Go.Value.int Go.IntKind.i64 0)) K w) (fun v55 w =>
  PickP v49 (Go.Value.bool true) v55 (fun v56 w =>
  CondP v56 (fun w =>
    R (Go.Value.bool false) w) (fun w =>
    LoopP (fun J vs w =>   -- [12, 13]
    NextP Try.prog (builtin Go.Builtin.len #[39] 3 #[false] #[a4]) (fun v59 w =>
    LiftP Try.prog (binS Go.BinOp.lss 3 (Go.Operand.tmp 57) (Go.Operand.tmp 59) (vs.tail.headD undef) v59) (fun v60 w =>
    GuardP v60 true (fun K w => K (vs.headD undef) w) (fun v62 w =>
    GuardP v60 true (fun K w => K a0 w) (fun v63 w =>
    GuardP v60 true (fun K w => LiftP Try.prog (binS Go.BinOp.lss 3 (Go.Operand.tmp 62) (Go.Operand.tmp 63) v62 v63) K w) (fun v64 w =>
    PickP v60 v64 (Go.Value.bool false) (fun v65 w =>
    CondP v65 (fun w =>
      JoinP (fun J_1 w =>
      LiftP Try.prog (Instr.indexAt 39 a4 (vs.tail.headD undef)) (fun v70 w =>
      LiftP Try.prog (Instr.fieldAt 46 v70 0) (fun v71 w =>
      LiftP Try.prog (Instr.loadAt 3 v71) (fun v72 w =>
      LiftP Try.prog (binS Go.BinOp.eql 3 (Go.Operand.tmp 72) (Go.Operand.const (Go.Value.int Go.IntKind.i64 5)) v72 (Go.Value.int Go.IntKind.i64 5)) (fun v73 w =>
      GuardP v73 false (fun K w => K a4 w) (fun v75 w =>
      GuardP v73 false (fun K w => K (vs.tail.headD undef) w) (fun v76 w =>
      GuardP v73 false (fun K w => LiftP Try.prog (Instr.indexAt 39 v75 v76) K w) (fun v77 w =>
      GuardP v73 false (fun K w => LiftP Try.prog (Instr.fieldAt 46 v77 0) K w) (fun v78 w =>
      GuardP v73 false (fun K w => LiftP Try.prog (Instr.loadAt 3 v78) K w) (fun v79 w =>
      GuardP v73 false (fun K w => LiftP Try.prog (binS Go.BinOp.geq 3 (Go.Operand.tmp 79) (Go.Operand.const (Go.Value.int Go.IntKind.i64 1)) v79 (Go.Value.int Go.IntKind.i64 1)) K w) (fun v80 w =>
      GuardP v73 false (fun K w => K v80 w) (fun v81 w =>
      GuardP v81 true (fun K w => K a4 w) (fun v82 w =>
      GuardP v81 true (fun K w => K (vs.tail.headD undef) w) (fun v83 w =>
      GuardP v81 true (fun K w => LiftP Try.prog (Instr.indexAt 39 v82 v83) K w) (fun v84 w =>
      GuardP v81 true (fun K w => LiftP Try.prog (Instr.fieldAt 46 v84 0) K w) (fun v85 w =>
      GuardP v81 true (fun K w => LiftP Try.prog (Instr.loadAt 3 v85) K w) (fun v86 w =>
      GuardP v81 true (fun K w => LiftP Try.prog (binS Go.BinOp.leq 3 (Go.Operand.tmp 86) (Go.Operand.const (Go.Value.int Go.IntKind.i64 3)) v86 (Go.Value.int Go.IntKind.i64 3)) K w) (fun v87 w =>
      GuardP v73 false (fun K w => PickP v81 v87 (Go.Value.bool false) K w) (fun v88 w =>
      GuardP v73 false (fun K w => K v88 w) (fun v89 w =>
      GuardP v89 true (fun K w => K a4 w) (fun v90 w =>
      GuardP v89 true (fun K w => K (vs.tail.headD undef) w) (fun v91 w =>
      GuardP v89 true (fun K w => LiftP Try.prog (Instr.indexAt 39 v90 v91) K w) (fun v92 w =>
      GuardP v89 true (fun K w => LiftP Try.prog (Instr.fieldAt 46 v92 1) K w) (fun v93 w =>
      GuardP v89 true (fun K w => LiftP Try.prog (Instr.loadAt 3 v93) K w) (fun v94 w =>
      GuardP v89 true (fun K w => K a1 w) (fun v95 w =>
      GuardP v89 true (fun K w => LiftP Try.prog (binS Go.BinOp.eql 3 (Go.Operand.tmp 94) (Go.Operand.tmp 95) v94 v95) K w) (fun v96 w =>
      GuardP v73 false (fun K w => PickP v89 v96 (Go.Value.bool false) K w) (fun v97 w =>
      PickP v73 (Go.Value.bool true) v97 (fun v98 w =>
      CondP v98 (fun w =>
        J_1 [(vs.headD undef)] w) (fun w =>
        LiftP Try.prog (Instr.loadAt 23 v7) (fun v101 w =>
      CallP Try.prog 29 #[v47, a1, v101] (fun v102 w =>
      LiftP Try.prog (Op.unary Go.UnOp.not v102) (fun v103 w =>
      GuardP v103 false (fun K w => LiftP Try.prog (Instr.loadAt 23 v7) K w) (fun v105 w =>
      GuardP v103 false (fun K w => K a3 w) (fun v106 w =>
      GuardP v103 false (fun K w => CallP Try.prog 17 #[v105, v106] K w) (fun v107 w =>
      GuardP v103 false (fun K w => K v107 w) (fun v108 w =>
      GuardP v108 true (fun K w => K v47 w) (fun v109 w =>
      GuardP v108 true (fun K w => K a3 w) (fun v110 w =>
      GuardP v108 true (fun K w => CallP Try.prog 30 #[v109, v110] K w) (fun v111 w =>
      GuardP v108 true (fun K w => LiftP Try.prog (Op.unary Go.UnOp.not v111) K w) (fun v112 w =>
      GuardP v103 false (fun K w => PickP v108 v112 (Go.Value.bool false) K w) (fun v113 w =>
      PickP v103 (Go.Value.bool true) v113 (fun v114 w =>
      CondP v114 (fun w =>
        R (Go.Value.bool false) w) (fun w =>
        DrawP (fun S w =>
      YieldP Try.prog S (Instr.indexAt 39 a4 (vs.tail.headD undef)) (fun v119 w =>
      YieldP Try.prog S (Instr.loadAt 46 v119) (fun v120 w =>
      ActP S (fun K w => CallP Try.prog 32 #[(Go.Value.int Go.IntKind.i64 1)] K w) (fun S v116 w =>
      CallP Try.prog 31 #[v47, v116, v120] (fun v121 w =>
      LiftP Try.prog (Instr.indexAt 39 a4 (vs.tail.headD undef)) (fun v124 w =>
      LiftP Try.prog (Instr.fieldAt 46 v124 0) (fun v125 w =>
      LiftP Try.prog (Instr.loadAt 3 v125) (fun v126 w =>
      LiftP Try.prog (binS Go.BinOp.eql 3 (Go.Operand.tmp 126) (Go.Operand.const (Go.Value.int Go.IntKind.i64 4)) v126 (Go.Value.int Go.IntKind.i64 4)) (fun v127 w =>
      CondP v127 (fun w =>
        LiftP Try.prog (binS Go.BinOp.add 3 (Go.Operand.tmp 128) (Go.Operand.const (Go.Value.int Go.IntKind.i64 1)) (vs.headD undef) (Go.Value.int Go.IntKind.i64 1)) (fun v129 w =>
        J_1 [v129] w) w) (fun w =>
        J_1 [(vs.headD undef)] w) w) w) w) w) w) w) w) w) w) w) w) w) w) w) w) w) w) w) w) w) w) w) w) w) w) w) w) w) w) w) w) w) w) w) w) w) w) w) w) w) w) w) w) w) w) w) w) w) w) w) w) w) w) (fun vs_1 w =>   -- [12]
    LiftP Try.prog (binS Go.BinOp.add 3 (Go.Operand.tmp 66) (Go.Operand.const (Go.Value.int Go.IntKind.i64 1)) (vs.tail.headD undef) (Go.Value.int Go.IntKind.i64 1)) (fun v67 w =>
    J [(vs_1.headD undef), v67] w) w) w) (fun w =>
      LoopP (fun J_2 vs_2 w =>   -- [12]
    LiftP Try.prog (binS Go.BinOp.lss 3 (Go.Operand.tmp 130) (Go.Operand.tmp 131) (vs_2.headD undef) a0) (fun v132 w =>
    CondP v132 (fun w =>
      LiftP Try.prog (Instr.loadAt 23 v7) (fun v135 w =>
    CallP Try.prog 29 #[v47, a1, v135] (fun v136 w =>
    LiftP Try.prog (Op.unary Go.UnOp.not v136) (fun v137 w =>
    CondP v137 (fun w =>
      R (Go.Value.bool false) w) (fun w =>
      CallP Try.prog 33 #[v47] (fun v139 w =>
    LiftP Try.prog (binS Go.BinOp.add 3 (Go.Operand.tmp 140) (Go.Operand.const (Go.Value.int Go.IntKind.i64 1)) (vs_2.headD undef) (Go.Value.int Go.IntKind.i64 1)) (fun v141 w =>
    J_2 [v141] w) w) w) w) w) w) w) (fun w =>
      LiftP Try.prog (Instr.loadAt 23 v7) (fun v144 w =>
  CallP Try.prog 29 #[v47, a1, v144] (fun v145 w =>
  LiftP Try.prog (Op.unary Go.UnOp.not v145) (fun v146 w =>
  GuardP v146 true (fun K w => K v47 w) (fun v148 w =>
  GuardP v146 true (fun K w => K a1 w) (fun v149 w =>
  GuardP v146 true (fun K w => CallP Try.prog 34 #[v148, v149] K w) (fun v150 w =>
  GuardP v146 true (fun K w => LiftP Try.prog (Op.unary Go.UnOp.not v150) K w) (fun v151 w =>
  PickP v146 v151 (Go.Value.bool false) (fun v152 w =>
  GuardP v152 true (fun K w => K v47 w) (fun v154 w =>
  GuardP v152 true (fun K w => K a1 w) (fun v155 w =>
  GuardP v152 true (fun K w => CallP Try.prog 35 #[v154, v155] K w) (fun v156 w =>
  GuardP v152 true (fun K w => NextP Try.prog (builtin Go.Builtin.len #[26] 3 #[false] #[v156]) K w) (fun v157 w =>
  GuardP v152 true (fun K w => LiftP Try.prog (binS Go.BinOp.eql 3 (Go.Operand.tmp 157) (Go.Operand.const (Go.Value.int Go.IntKind.i64 0)) v157 (Go.Value.int Go.IntKind.i64 0)) K w) (fun v158 w =>
  PickP v152 v158 (Go.Value.bool false) (fun v159 w =>
  R v159 w) w) w) w) w) w) w) w) w) w) w) w) w) w) w) w) w) [(vs.headD undef)] w) w) w) w) w) w) w) w) [(Go.Value.int Go.IntKind.i64 0), (Go.Value.int Go.IntKind.i64 0)] w) w) w) w) w) w) w) w) w) w) w) w) w) w) w) w) w) w) w) w) w) w) w) w) w) w) w) w) w) w) w) w) w) w) w) w) w) w
theorem S7.calls (a0 a1 a2 a3 a4 : Value) (R : Value → World → Prop) (w : World) (h : S7 a0 a1 a2 a3 a4 R w) : Calls Try.prog 7 #[a0, a1, a2, a3, a4] w fun e w' => ∃ v, e = .returned v ∧ R v w' :=
  calls_of_tr (n := 160) (c := bodyOf Try.f7) (.two .leaf (.two (.two .leaf (.two (.two .leaf .leaf) .leaf)) (.two (.two .leaf (.two (.two .leaf .leaf) .leaf)) (.two .leaf (.two (.two .leaf (.two (.two .leaf .leaf) .leaf)) (.two .leaf (.two (.two .leaf (.one (.loop [12, 13] (.two (.two .leaf (.two .leaf .leaf)) (.join [12] (.one (.two (.two .leaf (.two .leaf .leaf)) (.two (.two .leaf (.two (.two .leaf .leaf) .leaf)) (.two (.drawL [(true, 0), (true, 2), (true, 3), (true, 4), (true, 5), (false, 1)] 6) (.two .leaf (.two .leaf .leaf)))))) .leaf))))) (.two (.one (.loop [12] (.two (.two .leaf (.two .leaf .leaf)) (.one (.two (.two .leaf (.two (.two .leaf .leaf) .leaf)) (.two .leaf .leaf)))))) (.two .leaf .leaf))))))))) Try.func7 (by kernel_rfl) Try.ntmps7 (by kernel_rfl) (by kernel_rfl) [a0, a1, a2, a3, a4] (by kernel_rfl) (of_eq_ (by kernel_rfl) h)

/-- shelfmark/shelfmarklaw16.LockLoses -/
def S8 (a0 a1 a2 a3 : Value) (R : Value → World → Prop) (w : World) : Prop :=
  LiftP Try.prog (Instr.box 23 a2) (fun v6 w =>
  CallP Try.prog 25 #[] (fun v15 w =>
  LiftP Try.prog (Op.unary Go.UnOp.not v15) (fun v16 w =>
  CondP v16 (fun w =>
    R (Go.Value.bool false) w) (fun w =>
    CallP Try.prog 26 #[a1] (fun v18 w =>
  LiftP Try.prog (Op.unary Go.UnOp.not v18) (fun v19 w =>
  GuardP v19 false (fun K w => LiftP Try.prog (Instr.loadAt 23 v6) K w) (fun v21 w =>
  GuardP v19 false (fun K w => LiftP Try.prog (Instr.buildSlice 26 1 #[(0, v21)]) K w) (fun v22 w =>
  GuardP v19 false (fun K w => CallP Try.prog 11 #[v22, (Go.Value.int Go.IntKind.i64 1)] K w) (fun v23 w =>
  GuardP v19 false (fun K w => LiftP Try.prog (Op.unary Go.UnOp.not v23) K w) (fun v24 w =>
  PickP v19 (Go.Value.bool true) v24 (fun v25 w =>
  GuardP v25 false (fun K w => K a3 w) (fun v27 w =>
  GuardP v25 false (fun K w => NextP Try.prog (builtin Go.Builtin.len #[9] 3 #[false] #[v27]) K w) (fun v28 w =>
  GuardP v25 false (fun K w => LiftP Try.prog (binS Go.BinOp.gtr 3 (Go.Operand.tmp 28) (Go.Operand.const (Go.Value.int Go.IntKind.i64 200)) v28 (Go.Value.int Go.IntKind.i64 200)) K w) (fun v29 w =>
  PickP v25 (Go.Value.bool true) v29 (fun v30 w =>
  CondP v30 (fun w =>
    R (Go.Value.bool true) w) (fun w =>
    CallP Try.prog 27 #[a0] (fun v32 w =>
  LiftP Try.prog (binS Go.BinOp.eql 41 (Go.Operand.tmp 33) (Go.Operand.const (Go.Value.pointer none)) v32 (Go.Value.pointer none)) (fun v34 w =>
  CondP v34 (fun w =>
    R (Go.Value.bool false) w) (fun w =>
    LoopP (fun J vs w =>   -- [10]
    NextP Try.prog (builtin Go.Builtin.len #[39] 3 #[false] #[a1]) (fun v37 w =>
    LiftP Try.prog (binS Go.BinOp.lss 3 (Go.Operand.tmp 35) (Go.Operand.tmp 37) (vs.headD undef) v37) (fun v38 w =>
    CondP v38 (fun w =>
      DrawP (fun S w =>
    YieldP Try.prog S (Instr.indexAt 39 a1 (vs.headD undef)) (fun v45 w =>
    YieldP Try.prog S (Instr.loadAt 46 v45) (fun v46 w =>
    ActP S (fun K w => CallP Try.prog 32 #[(Go.Value.int Go.IntKind.i64 1)] K w) (fun S v42 w =>
    CallP Try.prog 31 #[v32, v42, v46] (fun v47 w =>
    LiftP Try.prog (binS Go.BinOp.add 3 (Go.Operand.tmp 39) (Go.Operand.const (Go.Value.int Go.IntKind.i64 1)) (vs.headD undef) (Go.Value.int Go.IntKind.i64 1)) (fun v40 w =>
    J [v40] w) w) w) w) w) w) w) (fun w =>
      CallP Try.prog 30 #[v32, a3] (fun v50 w =>
  LiftP Try.prog (Instr.loadAt 23 v6) (fun v52 w =>
  CallP Try.prog 36 #[v32, v52] (fun v53 w =>
  CallP Try.prog 37 #[v32] (fun v55 w =>
  LoopP (fun J_1 vs_1 w =>   -- [13]
    NextP Try.prog (builtin Go.Builtin.len #[37] 3 #[false] #[v55]) (fun v58 w =>
    LiftP Try.prog (binS Go.BinOp.lss 3 (Go.Operand.tmp 56) (Go.Operand.tmp 58) (vs_1.headD undef) v58) (fun v59 w =>
    CondP v59 (fun w =>
      LiftP Try.prog (Instr.indexAt 37 v55 (vs_1.headD undef)) (fun v65 w =>
    LiftP Try.prog (Instr.loadAt 3 v65) (fun v66 w =>
    CallP Try.prog 35 #[v32, v66] (fun v67 w =>
    NextP Try.prog (builtin Go.Builtin.len #[26] 3 #[false] #[v67]) (fun v69 w =>
    LiftP Try.prog (binS Go.BinOp.eql 3 (Go.Operand.tmp 69) (Go.Operand.const (Go.Value.int Go.IntKind.i64 0)) v69 (Go.Value.int Go.IntKind.i64 0)) (fun v70 w =>
    CondP v70 (fun w =>
      R (Go.Value.bool false) w) (fun w =>
      LiftP Try.prog (Instr.build 23 #[(0, (Go.Value.string { data := #[33] }))]) (fun v72 w =>
    LiftP Try.prog (Instr.indexAt 26 v67 (Go.Value.int Go.IntKind.i64 0)) (fun v73 w =>
    LiftU Try.prog (Instr.storeAt 23 v73 v72) (fun v_ w =>
    LiftP Try.prog (binS Go.BinOp.add 3 (Go.Operand.tmp 60) (Go.Operand.const (Go.Value.int Go.IntKind.i64 1)) (vs_1.headD undef) (Go.Value.int Go.IntKind.i64 1)) (fun v61 w =>
    J_1 [v61] w) w) w) w) w) w) w) w) w) w) w) (fun w =>
      CallP Try.prog 30 #[v32, a3] (fun v76 w =>
  GuardP v50 true (fun K w => LiftP Try.prog (Instr.loadAt 23 v6) K w) (fun v79 w =>
  GuardP v50 true (fun K w => K a3 w) (fun v80 w =>
  GuardP v50 true (fun K w => CallP Try.prog 17 #[v79, v80] K w) (fun v81 w =>
  GuardP v50 true (fun K w => LiftP Try.prog (Op.unary Go.UnOp.not v81) K w) (fun v82 w =>
  PickP v50 v82 (Go.Value.bool false) (fun v83 w =>
  LiftP Try.prog (binS Go.BinOp.eql 4 (Go.Operand.tmp 76) (Go.Operand.tmp 83) v76 v83) (fun v84 w =>
  R v84 w) w) w) w) w) w) w) w) w) w) w) [(Go.Value.int Go.IntKind.i64 0)] w) w) w) w) w) w) w) w) [(Go.Value.int Go.IntKind.i64 0)] w) w) w) w) w) w) w) w) w) w) w) w) w) w) w) w) w) w) w) w
theorem S8.calls (a0 a1 a2 a3 : Value) (R : Value → World → Prop) (w : World) (h : S8 a0 a1 a2 a3 R w) : Calls Try.prog 8 #[a0, a1, a2, a3] w fun e w' => ∃ v, e = .returned v ∧ R v w' :=
  calls_of_tr (n := 85) (c := bodyOf Try.f8) (.two .leaf (.two (.two .leaf (.two (.two .leaf .leaf) .leaf)) (.two (.two .leaf (.two (.two .leaf .leaf) .leaf)) (.two .leaf (.two (.two .leaf (.two (.two .leaf .leaf) .leaf)) (.two (.two .leaf (.one (.loop [10] (.two (.two .leaf (.two .leaf .leaf)) (.two (.one (.drawL [(true, 0), (true, 2), (true, 3), (true, 4), (true, 5), (false, 1)] 6)) .leaf))))) (.two .leaf (.two .leaf (.two .leaf (.two (.two .leaf (.one (.loop [13] (.two (.two .leaf (.two .leaf .leaf)) (.two (.one (.two .leaf (.two (.two .leaf (.two (.two .leaf .leaf) .leaf)) .leaf))) .leaf))))) (.two .leaf .leaf))))))))))) Try.func8 (by kernel_rfl) Try.ntmps8 (by kernel_rfl) (by kernel_rfl) [a0, a1, a2, a3] (by kernel_rfl) (of_eq_ (by kernel_rfl) h)

/-- shelfmark/shelfmarklaw16.LockPlays -/
def S9 (a0 a1 a2 a3 : Value) (R : Value → World → Prop) (w : World) : Prop :=
  LiftP Try.prog (Instr.box 23 a2) (fun v6 w =>
  CallP Try.prog 25 #[] (fun v12 w =>
  LiftP Try.prog (Op.unary Go.UnOp.not v12) (fun v13 w =>
  CondP v13 (fun w =>
    R (Go.Value.bool false) w) (fun w =>
    CallP Try.prog 26 #[a1] (fun v15 w =>
  LiftP Try.prog (Op.unary Go.UnOp.not v15) (fun v16 w =>
  GuardP v16 false (fun K w => LiftP Try.prog (Instr.loadAt 23 v6) K w) (fun v18 w =>
  GuardP v16 false (fun K w => LiftP Try.prog (Instr.buildSlice 26 1 #[(0, v18)]) K w) (fun v19 w =>
  GuardP v16 false (fun K w => CallP Try.prog 11 #[v19, (Go.Value.int Go.IntKind.i64 1)] K w) (fun v20 w =>
  GuardP v16 false (fun K w => LiftP Try.prog (Op.unary Go.UnOp.not v20) K w) (fun v21 w =>
  PickP v16 (Go.Value.bool true) v21 (fun v22 w =>
  GuardP v22 false (fun K w => K a3 w) (fun v24 w =>
  GuardP v22 false (fun K w => NextP Try.prog (builtin Go.Builtin.len #[9] 3 #[false] #[v24]) K w) (fun v25 w =>
  GuardP v22 false (fun K w => LiftP Try.prog (binS Go.BinOp.gtr 3 (Go.Operand.tmp 25) (Go.Operand.const (Go.Value.int Go.IntKind.i64 200)) v25 (Go.Value.int Go.IntKind.i64 200)) K w) (fun v26 w =>
  PickP v22 (Go.Value.bool true) v26 (fun v27 w =>
  CondP v27 (fun w =>
    R (Go.Value.bool true) w) (fun w =>
    CallP Try.prog 27 #[a0] (fun v29 w =>
  CallP Try.prog 32 #[a0] (fun v31 w =>
  LiftP Try.prog (binS Go.BinOp.eql 41 (Go.Operand.tmp 32) (Go.Operand.const (Go.Value.pointer none)) v29 (Go.Value.pointer none)) (fun v33 w =>
  CondP v33 (fun w =>
    R (Go.Value.bool false) w) (fun w =>
    LoopP (fun J vs w =>   -- [11]
    NextP Try.prog (builtin Go.Builtin.len #[39] 3 #[false] #[a1]) (fun v36 w =>
    LiftP Try.prog (binS Go.BinOp.lss 3 (Go.Operand.tmp 34) (Go.Operand.tmp 36) (vs.headD undef) v36) (fun v37 w =>
    CondP v37 (fun w =>
      DrawP (fun S w =>
    YieldP Try.prog S (Instr.indexAt 39 a1 (vs.headD undef)) (fun v44 w =>
    YieldP Try.prog S (Instr.loadAt 46 v44) (fun v45 w =>
    ActP S (fun K w => CallP Try.prog 31 #[v29, v31, v45] K w) (fun S v46 w =>
    YieldP Try.prog S (Op.unary Go.UnOp.not v46) (fun v47 w =>
    GuardP v47 false (fun K w => K v29 w) (fun v49 w =>
    GuardP v47 false (fun K w => K a3 w) (fun v50 w =>
    GuardP v47 false (fun K w => K v31 w) (fun v52 w =>
    GuardP v47 false (fun K w => K a3 w) (fun v53 w =>
    GuardA v47 false S (fun K w => CallP Try.prog 30 #[v49, v50] K w) (fun S v51 w =>
    GuardA v47 false S (fun K w => CallP Try.prog 38 #[v52, v53] K w) (fun S v54 w =>
    GuardP v47 false (fun K w => YieldP Try.prog S (binS Go.BinOp.neq 4 (Go.Operand.tmp 51) (Go.Operand.tmp 54) v51 v54) K w) (fun v55 w =>
    PickP v47 (Go.Value.bool true) v55 (fun v56 w =>
    GuardP v56 false (fun K w => K v29 w) (fun v58 w =>
    GuardP v56 false (fun K w => K a1 w) (fun v59 w =>
    GuardP v56 false (fun K w => K (vs.headD undef) w) (fun v60 w =>
    GuardP v56 false (fun K w => YieldP Try.prog S (Instr.indexAt 39 v59 v60) K w) (fun v61 w =>
    GuardP v56 false (fun K w => YieldP Try.prog S (Instr.fieldAt 46 v61 1) K w) (fun v62 w =>
    GuardP v56 false (fun K w => YieldP Try.prog S (Instr.loadAt 3 v62) K w) (fun v63 w =>
    GuardP v56 false (fun K w => YieldP Try.prog S (Instr.loadAt 23 v6) K w) (fun v64 w =>
    GuardP v56 false (fun K w => K v31 w) (fun v66 w =>
    GuardP v56 false (fun K w => K a1 w) (fun v67 w =>
    GuardP v56 false (fun K w => K (vs.headD undef) w) (fun v68 w =>
    GuardP v56 false (fun K w => YieldP Try.prog S (Instr.indexAt 39 v67 v68) K w) (fun v69 w =>
    GuardP v56 false (fun K w => YieldP Try.prog S (Instr.fieldAt 46 v69 1) K w) (fun v70 w =>
    GuardP v56 false (fun K w => YieldP Try.prog S (Instr.loadAt 3 v70) K w) (fun v71 w =>
    GuardP v56 false (fun K w => YieldP Try.prog S (Instr.loadAt 23 v6) K w) (fun v72 w =>
    GuardA v56 false S (fun K w => CallP Try.prog 29 #[v58, v63, v64] K w) (fun S v65 w =>
    GuardA v56 false S (fun K w => CallP Try.prog 39 #[v66, v71, v72] K w) (fun S v73 w =>
    GuardP v56 false (fun K w => YieldP Try.prog S (binS Go.BinOp.neq 4 (Go.Operand.tmp 65) (Go.Operand.tmp 73) v65 v73) K w) (fun v74 w =>
    PickP v56 (Go.Value.bool true) v74 (fun v75 w =>
    GuardP v75 false (fun K w => K v29 w) (fun v77 w =>
    GuardP v75 false (fun K w => K v31 w) (fun v79 w =>
    GuardA v75 false S (fun K w => CallP Try.prog 37 #[v77] K w) (fun S v78 w =>
    GuardA v75 false S (fun K w => CallP Try.prog 41 #[v79] K w) (fun S v80 w =>
    GuardA v75 false S (fun K w => CallP Try.prog 40 #[v78, v80] K w) (fun S v81 w =>
    GuardP v75 false (fun K w => YieldP Try.prog S (Op.unary Go.UnOp.not v81) K w) (fun v82 w =>
    PickP v75 (Go.Value.bool true) v82 (fun v83 w =>
    GuardP v83 false (fun K w => K v29 w) (fun v85 w =>
    GuardP v83 false (fun K w => K a1 w) (fun v86 w =>
    GuardP v83 false (fun K w => K (vs.headD undef) w) (fun v87 w =>
    GuardP v83 false (fun K w => YieldP Try.prog S (Instr.indexAt 39 v86 v87) K w) (fun v88 w =>
    GuardP v83 false (fun K w => YieldP Try.prog S (Instr.fieldAt 46 v88 1) K w) (fun v89 w =>
    GuardP v83 false (fun K w => YieldP Try.prog S (Instr.loadAt 3 v89) K w) (fun v90 w =>
    GuardP v83 false (fun K w => K v31 w) (fun v92 w =>
    GuardP v83 false (fun K w => K a1 w) (fun v93 w =>
    GuardP v83 false (fun K w => K (vs.headD undef) w) (fun v94 w =>
    GuardP v83 false (fun K w => YieldP Try.prog S (Instr.indexAt 39 v93 v94) K w) (fun v95 w =>
    GuardP v83 false (fun K w => YieldP Try.prog S (Instr.fieldAt 46 v95 1) K w) (fun v96 w =>
    GuardP v83 false (fun K w => YieldP Try.prog S (Instr.loadAt 3 v96) K w) (fun v97 w =>
    GuardA v83 false S (fun K w => CallP Try.prog 35 #[v85, v90] K w) (fun S v91 w =>
    GuardA v83 false S (fun K w => CallP Try.prog 42 #[v92, v97] K w) (fun S v98 w =>
    GuardA v83 false S (fun K w => CallP Try.prog 20 #[v91, v98] K w) (fun S v99 w =>
    GuardP v83 false (fun K w => YieldP Try.prog S (Op.unary Go.UnOp.not v99) K w) (fun v100 w =>
    PickP v83 (Go.Value.bool true) v100 (fun v101 w =>
    CondP v101 (fun w =>
      R (Go.Value.bool false) w) (fun w =>
      LiftP Try.prog (binS Go.BinOp.add 3 (Go.Operand.tmp 38) (Go.Operand.const (Go.Value.int Go.IntKind.i64 1)) (vs.headD undef) (Go.Value.int Go.IntKind.i64 1)) (fun v39 w =>
    J [v39] w) w) w) w) w) w) w) w) w) w) w) w) w) w) w) w) w) w) w) w) w) w) w) w) w) w) w) w) w) w) w) w) w) w) w) w) w) w) w) w) w) w) w) w) w) w) w) w) w) w) w) w) w) w) w) w) w) w) (fun w =>
      R (Go.Value.bool true) w) w) w) w) [(Go.Value.int Go.IntKind.i64 0)] w) w) w) w) w) w) w) w) w) w) w) w) w) w) w) w) w) w) w) w) w
theorem S9.calls (a0 a1 a2 a3 : Value) (R : Value → World → Prop) (w : World) (h : S9 a0 a1 a2 a3 R w) : Calls Try.prog 9 #[a0, a1, a2, a3] w fun e w' => ∃ v, e = .returned v ∧ R v w' :=
  calls_of_tr (n := 102) (c := bodyOf Try.f9) (.two .leaf (.two (.two .leaf (.two (.two .leaf .leaf) .leaf)) (.two (.two .leaf (.two (.two .leaf .leaf) .leaf)) (.two .leaf (.two (.two .leaf (.two (.two .leaf .leaf) .leaf)) (.two (.two .leaf (.one (.loop [11] (.two (.two .leaf (.two .leaf .leaf)) (.two (.one (.two (.draw [(true, 0), (true, 1), (true, 2), (true, 3), (true, 4), (true, 5), (false, 6), (true, 7), (true, 8), (true, 9), (true, 10), (true, 12), (true, 13), (false, 11), (false, 14), (true, 15), (true, 16), (true, 17), (true, 18), (true, 19), (true, 20), (true, 21), (true, 22), (true, 23), (true, 24), (true, 26), (true, 27), (true, 28), (true, 29), (true, 30), (true, 31), (true, 32), (false, 25), (false, 33), (true, 34), (true, 35), (true, 36), (true, 37), (true, 39), (false, 38), (false, 40), (false, 41), (true, 42), (true, 43), (true, 44), (true, 45), (true, 46), (true, 47), (true, 48), (true, 49), (true, 50), (true, 52), (true, 53), (true, 54), (true, 55), (true, 56), (true, 57), (false, 51), (false, 58), (false, 59), (true, 60), (true, 61)]) (.two (.two .leaf .leaf) .leaf))) .leaf))))) (.two .leaf .leaf))))))) Try.func9 (by kernel_rfl) Try.ntmps9 (by kernel_rfl) (by kernel_rfl) [a0, a1, a2, a3] (by kernel_rfl) (of_eq_ (by kernel_rfl) h)

end Go.Proofs.Ytcihbjempijhpaa.E
